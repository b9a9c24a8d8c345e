/- Each function of the statement computes what its plain definition says, part 1. -/
import Derived.Test.YtpkbkcejjnemaaaGreatDoorExplainSuggestBase
import Derived.Test.YtpkbkcejjnemaaaGreatDoorExplainSuggestLib
set_option linter.all false
section
set_option maxRecDepth 10000
set_option maxHeartbeats 4000000
open Go Go.Kx Go.Proofs Tryz
namespace Gx
theorem Zlm (N:Nat) (d:Int) (r:Bool) (h:L3 N d=some r) :
 Fn Tryz.prog 256 ⟨0,[.c (.i .u8 d)],[],[],0,.O r,[],[]⟩:=by
 refine Ya func256 rfl (fun E F w=>?_)
 unfold L3 at h
 refine Z7 J 9 h (fun h=>?_) fun h=>?_
 ·exact wB J 7 h (fun h=>oi h▸wr J 6 func256 []) fun h=>oi h▸wr J 6 func256 []
 refine wB J 4 h (fun h=>oi h▸wr J 9 func256 []) fun h=>?_
 exact wB J 3 h (fun h=>oi h▸wr J 6 func256 []) fun h=>oi h▸wr J 6 func256 []
theorem Zu0 (N:Nat) (d:Int) (r:Bool) (h:ZbU N d=some r) :
 Fn Tryz.prog 272 ⟨0,[.c (.i .u8 d)],[],[],0,.O r,[],[]⟩:=by
 refine Ya func272 rfl (fun E F w=>?_)
 unfold ZbU at h
 exact wB J 9 h (fun h=>oi h▸wr J 5 func272 []) fun h=>oi h▸wr J 5 func272 []
theorem ZuT (N:Nat) (d:Int) (r:Bool) (h:DH N d=some r) :
 Fn Tryz.prog 257 ⟨0,[.c (.i .u8 d)],[],[],0,.O r,[],[]⟩:=by
 refine Ya func257 rfl (fun E F w=>?_)
 unfold DH at h
 refine wO J 7 h fun e f h=>Z6 (Zlm N d _ f) [] [] ?_
 refine wB J 1 h (fun h=>oi h▸wr J 9 func257 []) fun h=>?_
 refine wO J 1 h fun g j h=>Z6 (Zu0 N d _ j) [] [] ?_
 exact wB J 2 h (fun h=>oi h▸wr J 5 func257 []) fun h=>oi h▸wr J 5 func257 []
theorem ZuI (N:Nat) (d:ByteArray) (r:Bool) (h:Dy N d=some r) :
 Fn Tryz.prog 226 ⟨0,[.c (.s d)],[],[],0,.O r,[],[]⟩:=by
 refine Ya func226 rfl (fun E F w=>?_)
 unfold Dy at h
 refine wB J 10 h (fun h=>oi h▸wr J 16 func226 []) fun h=>?_
 refine wB J 5 h (fun h=>oi h▸wr J 11 func226 []) fun h=>?_
 refine wO J 1 h fun e f h=>Vh J f ?_
 have ⟨g,i,h⟩:=ob h
 refine Z6 (Zlm N e _ i) [] [] ?_
 refine wB J 3 h (fun h=>oi h▸wr J 5 func226 []) fun h=>wa J 9 (Yf (σ:=Unit) (fun st=>(Un [])) (fun st=>ZbD=some r) ?_ (fun j1=>?_))
 ·intro _ h
  unfold ZbD at h
  exact oi h▸wr J 4 func226 []
 refine wa J 1 (Yn (σ:=Int) (fun st=>(Un [(0,.c (.s d)),(18,.I (d.size:Int)),(19,.I st)])) (fun n st=>SO N d n st) (r:=r) (fun _=>rfl) ?_ (fun ih=>?_))
 ·intro n2 ih3
  intro j h
  unfold SO at h
  refine Z7 J 5 h (fun h=>wa J 2 (Z2 [] (j1 () h))) fun h=>?_
  refine wO J 13 h fun k l h=>Vh J l ?_
  have ⟨m,o,h⟩:=ob h
  refine Z6 (ZuT N k _ o) [] [] ?_
  exact wB J 2 h (fun h=>oi h▸wr J 5 func226 []) fun h=>wa J 7 (Z2 [] (ih3 (Z1 (j+1)) h))
 exact Z2 [] (ih N 0 h)
theorem ZuO (N:Nat) (d:(List ByteArray)) (e:ByteArray) (r:Int) (h:DD N d e=some r) :
 Fn Tryz.prog 240 ⟨1,[.S 0,.c (.s e)],[(0,.sl rS d)],[],1,.I r,[],[]⟩:=by
 refine Ya func240 rfl (fun E F w=>?_)
 unfold DD at h
 refine wa J 11 (Yf (σ:=Unit) (fun st=>(QP d [])) (fun st=>ZbL=some r) ?_ (fun j1=>?_))
 ·intro _ h
  unfold ZbL at h
  exact oi h▸wr J 4 func240 []
 refine wa J 1 (Yn (σ:=Int) (fun st=>(QP d [(0,.S 0),(1,.c (.s e)),(7,.I (d.length:Int)),(8,.I st)])) (fun n st=>P5 d e n st) (r:=r) (fun _=>rfl) ?_ (fun ih=>?_))
 ·intro n2 ih3
  intro f h
  unfold P5 at h
  refine Z7 J 5 h (fun h=>wa J 2 (Z2 [] (j1 () h))) fun h=>?_
  refine wO J 14 h fun g i h=>Yc J oS i ?_
  exact wB J 3 h (fun h=>oi h▸wr J 6 func240 []) fun h=>wa J 7 (Z2 [] (ih3 (Z1 (f+1)) h))
 exact Z2 [] (ih N 0 h)
theorem Zld (N:Nat) (d:(List ByteArray)) (e:ByteArray) (r:Bool) (h:LW N d e=some r) :
 Fn Tryz.prog 209 ⟨1,[.S 0,.c (.s e)],[(0,.sl rS d)],[],1,.O r,[],[]⟩:=by
 refine Ya func209 rfl (fun E F w=>?_)
 unfold LW at h
 refine wO J 8 h fun f g h=>Z6 (ZuO N d e _ g) [] [(0,.sl 0)] ?_
 exact oi h▸wr J 3 func209 []
theorem Zbj (N:Nat) (d:ByteArray) (r:Bool) (h:Qs N d=some r) :
 Fn Tryz.prog 181 ⟨0,[.c (.s d)],[],[],0,.O r,[],[]⟩:=by
 refine Ya func181 rfl (fun E F w=>?_)
 unfold Qs at h
 refine wO J 13 h fun e f h=>Z6 (ZuI N d _ f) [] [] ?_
 refine Z7 J 1 h (fun h=>oi h▸wr J 7 func181 []) fun h=>eSb [] oS ([(str [97,103,97,105,110]),(str [97,110,100]),(str [97,115]),(str [97,116]),(str [99,97,108,108]),(str [99,104,111,105,99,101]),(str [101,108,115,101]),(str [102,114,111,109]),(str [105,102]),(str [105,110,116]),(str [108,101,110]),(str [108,111,111,112]),(str [109,101,115,115,97,103,101]),(str [111,102]),(str [111,102,102,101,114]),(str [111,110]),(str [111,114]),(str [112,97,114]),(str [112,108,97,121,115]),(str [112,114,111,116,111,99,111,108]),(str [115,101,114,118,105,99,101]),(str [116,101,120,116]),(str [116,105,109,101,115]),(str [116,111]),(str [118,97,114]),(str [119,104,101,114,101]),(str [119,104,105,108,101]),(str [119,105,116,104,105,110])]:List ByteArray) ?_
 refine wO J 1 h fun g i h=>X2 (Zld N ([(str [97,103,97,105,110]),(str [97,110,100]),(str [97,115]),(str [97,116]),(str [99,97,108,108]),(str [99,104,111,105,99,101]),(str [101,108,115,101]),(str [102,114,111,109]),(str [105,102]),(str [105,110,116]),(str [108,101,110]),(str [108,111,111,112]),(str [109,101,115,115,97,103,101]),(str [111,102]),(str [111,102,102,101,114]),(str [111,110]),(str [111,114]),(str [112,97,114]),(str [112,108,97,121,115]),(str [112,114,111,116,111,99,111,108]),(str [115,101,114,118,105,99,101]),(str [116,101,120,116]),(str [116,105,109,101,115]),(str [116,111]),(str [118,97,114]),(str [119,104,101,114,101]),(str [119,104,105,108,101]),(str [119,105,116,104,105,110])]:List ByteArray) d _ i) [] [(0,.sl 1)] [1] (.inr ⟨rfl,trivial⟩) ?_
 exact oi h▸wr J 4 func181 []
theorem ZtQ (N:Nat) (c:T5) (r:Bool) (h:GW N c=some r) :
 Fn Tryz.prog 157 ⟨4,[.a (YH 0 1 2 3 c)],(Xk 0 1 2 3 c []),[],4,.O r,[],[]⟩:=by
 refine Ya func157 rfl (fun E F w=>?_)
 unfold GW at h
 refine wO J 10 h fun d e h=>Z6 (Zbj N c.Zu _ e) [] [] ?_
 refine wB J 2 h (fun h=>oi h▸wr J 17 func157 []) fun h=>?_
 refine wB J 6 h (fun h=>oi h▸wr J 11 func157 []) fun h=>?_
 refine wB J 6 h (fun h=>oi h▸wr J 5 func157 []) fun h=>wa J 10 (Yf (σ:=Unit) (fun st=>(Ht c [])) (fun st=>Za4=some r) ?_ (fun j1=>?_))
 ·intro _ h
  unfold Za4 at h
  exact oi h▸wr J 4 func157 []
 refine wa J 1 (Yn (σ:=Int) (fun st=>(S7 c [(1,.B 4 0),(22,.S 0),(23,.I (c.ZI.length:Int)),(24,.I st)])) (fun n st=>PM N c n st) (r:=r) (fun _=>rfl) ?_ (fun ih=>?_))
 ·intro n2 ih3
  intro f h
  unfold PM at h
  refine Z7 J 5 h (fun h=>wa J 2 (Z2 [] (j1 () h))) fun h=>?_
  refine wO J 7 h fun g i h=>Yc J oS i ?_
  refine wO J 7 h fun j k h=>Z6 (Zbj N g _ k) [] [] ?_
  refine wB J 2 h (fun h=>oi h▸wr J 13 func157 []) fun h=>?_
  refine wO J 3 h fun l m h=>eIs J rS m ?_
  refine wO J 1 h fun o p h=>Z6 (Zld N l g _ p) [] [(0,.sl 6)] ?_
  exact wB J 2 h (fun h=>oi h▸wr J 5 func157 []) fun h=>wa J 7 (Z2 [] (ih3 (Z1 (f+1)) h))
 exact Z2 [] (ih N 0 h)
theorem ZtR (N:Nat) (c:T5) (r:Bool) (h:GX N c=some r) :
 Fn Tryz.prog 158 ⟨4,[.a (YH 0 1 2 3 c)],(Xk 0 1 2 3 c []),[],4,.O r,[],[]⟩:=by
 refine Ya func158 rfl (fun E F w=>?_)
 unfold GX at h
 refine wB J 12 h (fun h=>oi h▸wr J 34 func158 []) fun h=>?_
 refine wB J 5 h (fun h=>oi h▸wr J 29 func158 []) fun h=>?_
 refine wB J 8 h (fun h=>oi h▸wr J 21 func158 []) fun h=>?_
 refine wB J 10 h (fun h=>oi h▸wr J 11 func158 []) fun h=>?_
 refine wB J 6 h (fun h=>oi h▸wr J 5 func158 []) fun h=>wa J 10 (Yf (σ:=Unit) (fun st=>(Ht c [])) (fun st=>Za5=some r) ?_ (fun j1=>?_))
 ·intro _ h
  unfold Za5 at h
  exact oi h▸wr J 4 func158 []
 refine wa J 1 (Yn (σ:=Int) (fun st=>(S7 c [(1,.B 4 0),(39,.S 2),(40,.I (c.ZO.length:Int)),(41,.I st)])) (fun n st=>PN c n st) (r:=r) (fun _=>rfl) ?_ (fun ih=>?_))
 ·intro n2 ih3
  intro d h
  unfold PN at h
  refine Z7 J 5 h (fun h=>wa J 2 (Z2 [] (j1 () h))) fun h=>?_
  refine wO J 6 h fun e f h=>Yc J WW f ?_
  refine wB J 26 h (fun h=>oi h▸wr J 41 func158 []) fun h=>?_
  refine wB J 10 h (fun h=>oi h▸wr J 31 func158 []) fun h=>?_
  refine wB J 11 h (fun h=>oi h▸wr J 20 func158 []) fun h=>?_
  refine wB J 7 h (fun h=>oi h▸wr J 13 func158 []) fun h=>?_
  exact wB J 8 h (fun h=>oi h▸wr J 5 func158 []) fun h=>wa J 7 (Z2 [] (ih3 (Z1 (d+1)) h))
 exact Z2 [] (ih N 0 h)
theorem ZkS (N:Nat) (c:(List T0)) (r:(List T4)) (h:Ls N c=some r) :
 Fn Tryz.prog 121 ⟨1,[.S 0],[(0,.sl Ys c)],[],2,.S 1,[],[(1,.own XN r true)]⟩:=by
 refine Ya func121 rfl (fun E F w=>?_)
 unfold Ls at h
 refine wa J 15 (Yf (σ:=(List T4)) (fun st=>(Zgu st c [(3,.S 1)])) (fun st=>ZaR st=some r) ?_ (fun j1=>?_))
 ·intro d h
  unfold ZaR at h
  exact oi h▸wr J 5 func121 [(1,.sl 1)]
 refine wa J 1 (Yn (σ:=(List T4) × Int) (fun st=>(Zgu st.1 c [(3,.S 1),(6,.S 0),(7,.I (c.length:Int)),(8,.I st.2)])) (fun n st=>PG c n st.1 st.2) (r:=r) (fun _=>rfl) ?_ (fun ih=>?_))
 ·intro n2 ih3
  rintro ⟨e,f⟩ h
  unfold PG at h
  refine Z7 J 5 h (fun h=>wa J 2 (Z2 [] (j1 e h))) fun h=>?_
  refine wO J 6 h fun g i h=>Yc J Xu i ?_
  exact wO J 8 h fun j k h=>Xc J XN k (wa J 7 (Z2 [(1,.sl 7)] (ih3 (j,(Z1 (f+1))) h)))
 exact Z2 [(1,.nil)] (ih N (([]:List T4),0) h)
theorem Zlo (N:Nat) (d:ByteArray) (r:Int) (h:ZbV N d=some r) :
 Fn Tryz.prog 276 ⟨0,[.c (.s d)],[],[],0,.I r,[],[]⟩:=by
 refine Ya func276 rfl (fun E F w=>?_)
 unfold ZbV at h
 refine wa J 8 (eRn J (fun bk1=>wa J 1 (Yf (σ:=Int × Nat) (fun st=>(Hq (VW bk1 d st.2) [(2,.I st.1)])) (fun st=>ZfP st.1 st.2=some r) ?_ (fun j1=>?_))))
 ·rintro ⟨e,vi0_1⟩ h
  unfold ZfP at h
  exact oi h▸wr J 5 func276 []
 refine wa J 1 (Yn (σ:=Int × Nat) (fun st=>(Hq (VW bk1 d st.2) [(2,.I st.1),(4,.c (.v (.pointer (some ⟨bk1,0,none⟩))))])) (fun n st=>ZbW d n st.1 st.2) (r:=r) (fun _=>rfl) ?_ (fun ih=>?_))
 ·intro n2 ih3
  rintro ⟨f,vi0_3⟩ h
  unfold ZbW at h
  obtain ⟨K,h⟩|⟨K,h⟩:=oc h
  ·exact wa J 2 (eNt bk1 0 K (wa J 12 (Z2 [] (ih3 ((Z1 (f+1)),(vi0_3+(Utf8.decode d vi0_3).2)) h))))
  exact wa J 2 (eNf bk1 0 K (wa J 5 (Z2 [] (j1 (f,vi0_3) h))))
 exact Z2 [] (ih N (0,(0:Nat)) h)
theorem Zlq (N:Nat) (d:ByteArray) (r:Int × Int) (h:ZbY N d=some r) :
 Fn Tryz.prog 280 ⟨0,[.c (.s d)],[],[],0,.t [.inl (.i .i32 r.1),.inl (.I r.2)],[],[]⟩:=by
 refine Ya func280 rfl (fun E F w=>?_)
 unfold ZbY at h
 refine wB J 17 h (fun h=>oi h▸wr J 6 func280 []) fun h=>?_
 refine wO J 5 h fun e f h=>Vh J f ?_
 cases h
theorem Zu1 (N:Nat) (d:ByteArray) (r:Int × Int) (h:ZfQ N d=some r) :
 Fn Tryz.prog 277 ⟨0,[.c (.s d)],[],[],0,.t [.inl (.i .i32 r.1),.inl (.I r.2)],[],[]⟩:=by
 refine Ya func277 rfl (fun E F w=>?_)
 unfold ZfQ at h
 refine Z7 J 11 h (fun h=>?_) fun h=>?_
 ·refine wO J 8 h fun e f h=>Z6 (Zlq N d _ f) [] [] ?_
  exact oi h▸wr J 6 func277 []
 refine wO J 1 h fun g j h=>Vh J j ?_
 refine wB J 3 h (fun h=>?_) fun h=>?_
 ·refine wO J 4 h fun k l h=>Vh J l ?_
  exact oi h▸wr J 4 func277 []
 refine wO J 3 h fun m o h=>Z6 (Zlq N d _ o) [] [] ?_
 exact oi h▸wr J 6 func277 []
theorem ZuY (N:Nat) (d:ByteArray) (e:Int) (r:(List ByteArray)) (h:ZfM N d e=some r) :
 Fn Tryz.prog 269 ⟨0,[.c (.s d),.I e],[],[],1,.S 0,[],[(0,.own rS r true)]⟩:=by
 refine Ya func269 rfl (fun E F w=>?_)
 unfold ZfM at h
 refine wO J 7 h fun f g h=>Z6 (Zlo N d _ g) [] [] ?_
 refine wa J 8 (Yf (σ:=Bool) (fun st=>(Un [(0,.c (.s d)),(1,.I e),(5,.I f),(18,.O st)])) (fun st=>ZbR N d e f st=some r) ?_ (fun j1=>?_))
 ·intro i h
  unfold ZbR at h
  refine Yf (σ:=Int) (fun st=>(Un [(0,.c (.s d)),(1,.I st)])) (fun st=>ZbQ N d st=some r) ?_ (fun j2=>?_)
  ·intro j h
   unfold ZbQ at h
   refine wO J 3 h fun k l h=>Ur J oS l (wa J 7 (Yf (σ:=ByteArray × (List ByteArray)) (fun st=>(Zcs st.2 [(0,.c (.s st.1)),(1,.I j),(6,.S 0)])) (fun st=>ZfN j st.1 st.2=some r) ?_ (fun j3=>?_)))
   ·rintro ⟨m,o⟩ h
    unfold ZfN at h
    refine Z7 J 6 h (fun h=>oi h▸wr J 7 func269 [(0,.sl 0)]) fun h=>?_
    refine wO J 6 h fun p q h=>YB J rS q (XS J [] oS m q ?_)
    exact oi h▸wr J 6 func269 [(0,.sl 0)]
   refine wa J 1 (Yn (σ:=ByteArray × (List ByteArray) × Int) (fun st=>(Zcs st.2.1 [(0,.c (.s st.1)),(1,.I j),(6,.S 0),(7,.I st.2.2)])) (fun n st=>ZbS N j n st.1 st.2.1 st.2.2) (r:=r) (fun _=>rfl) ?_ (fun ih=>?_))
   ·intro n2 ih5
    rintro ⟨t,u,v⟩ h
    unfold ZbS at h
    refine Z7 J 8 h (fun h=>wa J 2 (Z2 [] (j3 (t,u) h))) fun h=>?_
    refine wO J 7 h fun x y h=>Z6 (Zu1 N t _ y) [] [] ?_
    refine wO J 12 h fun z A h=>MJ J A ?_
    have ⟨C,D,h⟩:=ob h
    refine YB J rS D (XS J [] oS z D ?_)
    exact wO J 4 h fun G H h=>MJ J H (wa J 8 (Z2 [] (ih5 (G,(YA u v z),(Z1 (v+1))) h)))
   exact Z2 [] (ih N (d,k,0) h)
  exact eB h (fun h=>wa J 5 (Z2 [] (j2 f h))) fun h=>wa J 2 (Z2 [] (j2 e h))
 exact eB h (fun h=>wa J 5 (Z2 [] (j1 true h))) fun h=>wa J 5 (Z2 [] (j1 (decide (e > f)) h))
theorem Zu3 (N:Nat) (d:ByteArray) (e:Int) (r:Int) (h:ZbZ N d e=some r) :
 Fn Tryz.prog 281 ⟨0,[.c (.s d),.c (.i .u8 e)],[],[],0,.I r,[],[]⟩:=by
 refine Ya func281 rfl (fun E F w=>?_)
 unfold ZbZ at h
 refine wa J 8 (eEx (ZnG func285 (by kernel_rfl) (by kernel_rfl) (by kernel_rfl) (by kernel_rfl) d e) (fun _=>trivial) ?_)
 exact oi h▸wr J 2 func281 []
theorem Zu2 (N:Nat) (d:ByteArray) (e:ByteArray) (r:Int) (h:ZbX N d e=some r) :
 Fn Tryz.prog 279 ⟨0,[.c (.s d),.c (.s e)],[],[],0,.I r,[],[]⟩:=by
 refine Ya func279 rfl (fun E F w=>?_)
 unfold ZbX at h
 refine wB J 17 h (fun h=>oi h▸wr J 11 func279 []) fun h=>?_
 refine wB J 6 h (fun h=>oi h▸wr J 5 func279 []) fun h=>?_
 refine wB J 7 h (fun h=>?_) fun h=>?_
 ·refine wO J 5 h fun f g h=>Vh J g ?_
  have ⟨i,j,h⟩:=ob h
  refine Z6 (Zu3 N d f _ j) [] [] ?_
  exact oi h▸wr J 2 func279 []
 refine wB J 9 h (fun h=>oi h▸wr J 5 func279 []) fun h=>?_
 cases h
theorem Zln (N:Nat) (d:ByteArray) (e:ByteArray) (r:Int) (h:L5 N d e=some r) :
 Fn Tryz.prog 271 ⟨0,[.c (.s d),.c (.s e)],[],[],0,.I r,[],[]⟩:=by
 refine Ya func271 rfl (fun E F w=>?_)
 unfold L5 at h
 refine wO J 8 h fun f g h=>Z6 (Zu2 N d e _ g) [] [] ?_
 exact oi h▸wr J 2 func271 []
theorem ZuZ (N:Nat) (d:ByteArray) (e:ByteArray) (r:Int) (h:DJ N d e=some r) :
 Fn Tryz.prog 270 ⟨0,[.c (.s d),.c (.s e)],[],[],0,.I r,[],[]⟩:=by
 refine Ya func270 rfl (fun E F w=>?_)
 unfold DJ at h
 refine wB J 11 h (fun h=>?_) fun h=>?_
 ·refine wO J 4 h fun f g h=>Z6 (Zlo N d _ g) [] [] ?_
  exact oi h▸wr J 3 func270 []
 refine wB J 9 h (fun h=>?_) fun h=>wa J 7 (Yn (σ:=ByteArray × Int) (fun st=>(Un [(0,.c (.s st.1)),(1,.c (.s e)),(5,.I st.2)])) (fun n st=>ZbT N e n st.1 st.2) (r:=r) (fun _=>rfl) ?_ (fun ih=>?_))
 ·refine wO J 5 h fun i j h=>Vh J j (eEx (ZnF func278 (by kernel_rfl) (by kernel_rfl) (by kernel_rfl) (by kernel_rfl) d i) (fun _=>trivial) ?_)
  exact oi h▸wr J 2 func270 []
 ·intro n1 ih1
  rintro ⟨k,l⟩ h
  unfold ZbT at h
  refine wO J 5 h fun m o h=>Z6 (Zln N k e _ o) [] [] ?_
  refine wB J 8 h (fun h=>oi h▸wr J 6 func270 []) fun h=>?_
  exact wO J 14 h fun p q h=>MJ J q (wa J 3 (Z2 [] (ih1 (p,(Z1 (l+1))) h)))
 exact Z2 [] (ih N (d,0) h)
theorem ZuS (N:Nat) (d:ByteArray) (e:ByteArray) (f:Int) (g:Int) (r:(List ByteArray)) (h:ZbO N d e f g=some r) :
 Fn Tryz.prog 255 ⟨0,[.c (.s d),.c (.s e),.I f,.I g],[],[],1,.S 0,[],[(0,.own rS r true)]⟩:=by
 refine Ya func255 rfl (fun E F w=>?_)
 unfold ZbO at h
 refine wB J 10 h (fun h=>oi h▸wr J 5 func255 [(0,.nil)]) fun h=>?_
 refine wB J 8 h (fun h=>?_) fun h=>wa J 8 (Yf (σ:=Int) (fun st=>(Un [(0,.c (.s d)),(1,.c (.s e)),(2,.I f),(3,.I st)])) (fun st=>DG N d e f st=some r) ?_ (fun j1=>?_))
 ·refine wO J 5 h fun i j h=>Z6 (ZuY N d g _ j) [] [] ?_
  exact oi h▸wr J 2 func255 [(0,.sl 0)]
 ·intro k h
  unfold DG at h
  refine wO J 12 h fun l m h=>Ur J oS m (wa J 13 (Yf (σ:=ByteArray × (List ByteArray) × Int) (fun st=>(Zcs st.2.1 [(0,.c (.s st.1)),(9,.S 0),(10,.I st.2.2)])) (fun st=>L2 st.1 st.2.1 st.2.2=some r) ?_ (fun j2=>?_)))
  ·rintro ⟨o,p,q⟩ h
   unfold L2 at h
   refine wO J 5 h fun t u h=>YB J rS u (XS J [] oS o u ?_)
   refine wO J 6 h fun v x h=>TK J rS x (wa J 2 (eSl rS 2 x ?_))
   cases h
   exact YW J func255 [(0,.sl 2)]
  refine wa J 1 (Yn (σ:=ByteArray × (List ByteArray) × Int) (fun st=>(Zcs st.2.1 [(0,.c (.s st.1)),(1,.c (.s e)),(2,.I f),(3,.I (Z1 ((YG k (Z1 ((d.size:Int)+1)))-1))),(9,.S 0),(10,.I st.2.2)])) (fun n st=>Qy N d e f k n st.1 st.2.1 st.2.2) (r:=r) (fun _=>rfl) ?_ (fun ih=>?_))
  ·intro n2 ih4
   rintro ⟨y,z,A⟩ h
   unfold Qy at h
   refine Z7 J 7 h (fun h=>wa J 2 (Z2 [] (j2 (y,z,A) h))) fun h=>?_
   refine wO J 7 h fun C D h=>Z6 (Zln N y e _ D) [] [] ?_
   refine wB J 8 h (fun h=>wa J 2 (Z2 [] (j2 (y,z,A) h))) fun h=>?_
   refine wO J 10 h fun G H h=>MJ J H ?_
   have ⟨R,T,h⟩:=ob h
   refine YB J rS T (XS J [] oS G T ?_)
   exact wO J 8 h fun U X h=>MJ J X (wa J 8 (Z2 [] (ih4 (U,(YA z A G),(Z1 (A+1))) h)))
  exact Z2 [] (ih N (d,l,0) h)
 refine Ub h (fun h=>wa J 2 (Z2 [] (j1 g h))) fun h=>?_
 exact wO J 4 h fun Y Z h=>Z6 (ZuZ N d e _ Z) [] [] (wa J 3 (Z2 [] (j1 (Z1 (Y+1)) h)))
theorem ZuF (N:Nat) (d:ByteArray) (e:ByteArray) (r:(List ByteArray)) (h:Dx N d e=some r) :
 Fn Tryz.prog 223 ⟨0,[.c (.s d),.c (.s e)],[],[],1,.S 0,[],[(0,.own rS r true)]⟩:=by
 refine Ya func223 rfl (fun E F w=>?_)
 unfold Dx at h
 refine wO J 8 h fun f g h=>Z6 (ZuS N d e 0 (-1) _ g) [] [] ?_
 exact oi h▸wr J 2 func223 [(0,.sl 0)]
theorem ZuG (N:Nat) (d:ByteArray) (r:Bool) (h:ZbA N d=some r) :
 Fn Tryz.prog 224 ⟨0,[.c (.s d)],[],[],0,.O r,[],[]⟩:=by
 refine Ya func224 rfl (fun E F w=>?_)
 unfold ZbA at h
 refine wO J 7 h fun e f h=>Z6 (Zbj N d _ f) [] [] ?_
 exact oi h▸wr J 3 func224 []
theorem ZuR (N:Nat) (d:(List ByteArray)) (r:Int) (h:ZbM N d=some r) :
 Fn Tryz.prog 254 ⟨1,[.S 0,.c (.cl 224 [] [])],[(0,.sl rS d)],[],1,.I r,[],[]⟩:=by
 refine Ya func254 rfl (fun E F w=>?_)
 unfold ZbM at h
 refine wa J 11 (Yf (σ:=Unit) (fun st=>(QP d [])) (fun st=>ZbN=some r) ?_ (fun j1=>?_))
 ·intro _ h
  unfold ZbN at h
  exact oi h▸wr J 4 func254 []
 refine wa J 1 (Yn (σ:=Int) (fun st=>(QP d [(0,.S 0),(1,.c (.cl 224 [] [])),(7,.I (d.length:Int)),(8,.I st)])) (fun n st=>P6 N d n st) (r:=r) (fun _=>rfl) ?_ (fun ih=>?_))
 ·intro n2 ih3
  intro e h
  unfold P6 at h
  refine Z7 J 5 h (fun h=>wa J 2 (Z2 [] (j1 () h))) fun h=>?_
  refine wO J 14 h fun f g h=>Yc J oS g ?_
  refine wO J 1 h fun i j h=>Z6 (ZuG N f _ j) [] [] ?_
  exact wB J 1 h (fun h=>oi h▸wr J 6 func254 []) fun h=>wa J 7 (Z2 [] (ih3 (Z1 (e+1)) h))
 exact Z2 [] (ih N 0 h)
theorem ZuE (N:Nat) (d:(List ByteArray)) (r:Bool) (h:Zbz N d=some r) :
 Fn Tryz.prog 222 ⟨1,[.S 0,.c (.cl 224 [] [])],[(0,.sl rS d)],[],1,.O r,[],[]⟩:=by
 refine Ya func222 rfl (fun E F w=>?_)
 unfold Zbz at h
 refine wO J 8 h fun e f h=>Z6 (ZuR N d _ f) [] [(0,.sl 0)] ?_
 exact oi h▸wr J 3 func222 []
theorem Zt5 (N:Nat) (d:ByteArray) (r:Bool) (h:Dc N d=some r) :
 Fn Tryz.prog 178 ⟨0,[.c (.s d)],[],[],0,.O r,[],[]⟩:=by
 refine Ya func178 rfl (fun E F w=>?_)
 unfold Dc at h
 refine Z7 J 10 h (fun h=>oi h▸wr J 7 func178 []) fun h=>?_
 refine wO J 1 h fun e f h=>Z6 (ZuF N d (str [46]) _ f) [] [] ?_
 have ⟨g,i,h⟩:=ob h
 refine X2 (ZuE N e _ i) [] [(0,.sl 0)] [0] (.inr ⟨rfl,trivial⟩) ?_
 exact oi h▸wr J 4 func178 []
theorem Zt8 (N:Nat) (c:T0) (d:T0) (r:Bool) (h:Zbi N c d=some r) :
 Fn Tryz.prog 180 ⟨7,[.a (Y5 0 1 2 c),.B 3 0],(Y3 0 1 2 c (Y3 4 5 6 d [])),[(3,.box (Y5 4 5 6 d) 59)],7,.O r,[],[(3,.box (Y5 4 5 6 d) 59)]⟩:=by
 refine Ya func180 rfl (fun E F w=>?_)
 unfold Zbi at h
 exact oi h▸wr J 14 func180 []
theorem ZuH (N:Nat) (d:(List T0)) (e:T0) (r:Int) (h:ZbB N d e=some r) :
 Fn Tryz.prog 225 ⟨5,[.S 0,.c (.cl 180 [] [1])],((0,.sl Ys d)::Y3 2 3 4 e []),[(1,.box (Y5 2 3 4 e) 59)],5,.I r,[],[(1,.box (Y5 2 3 4 e) 59)]⟩:=by
 refine Ya func225 rfl (fun E F w=>?_)
 unfold ZbB at h
 refine wa J 11 (Yf (σ:=Unit) (fun st=>⟨[],[(1,.box (Y5 2 3 4 e) 59)],((0,.sl Ys d)::Y3 2 3 4 e []),5⟩) (fun st=>ZbC=some r) ?_ (fun j1=>?_))
 ·intro _ h
  unfold ZbC at h
  exact oi h▸wr J 4 func225 []
 refine wa J 1 (Yn (σ:=Int) (fun st=>⟨[(0,.S 0),(1,.c (.cl 180 [] [1])),(7,.I (d.length:Int)),(8,.I st)],[(1,.box (Y5 2 3 4 e) 59)],((0,.sl Ys d)::Y3 2 3 4 e []),5⟩) (fun n st=>P3 N d e n st) (r:=r) (fun _=>rfl) ?_ (fun ih=>?_))
 ·intro n2 ih3
  intro f h
  unfold P3 at h
  refine Z7 J 5 h (fun h=>wa J 2 (Z2 [] (j1 () h))) fun h=>?_
  refine wO J 14 h fun g i h=>Yc J Xu i ?_
  refine wO J 1 h fun j k h=>Z6 (Zt8 N g e _ k) [] [(0,.sl 6),(1,.sl 7),(2,.sl 8),(3,.bp 1 0),(4,.sl 2),(5,.sl 3),(6,.sl 4)] ?_
  exact wB J 1 h (fun h=>oi h▸wr J 6 func225 []) fun h=>wa J 7 (Z2 [] (ih3 (Z1 (f+1)) h))
 exact Z2 [] (ih N 0 h)
theorem Zt6 (N:Nat) (d:(List T0)) (e:T0) (r:Bool) (h:Dd N d e=some r) :
 Fn Tryz.prog 179 ⟨5,[.S 0,.c (.cl 180 [] [1])],((0,.sl Ys d)::Y3 2 3 4 e []),[(1,.box (Y5 2 3 4 e) 59)],5,.O r,[],[(1,.box (Y5 2 3 4 e) 59)]⟩:=by
 refine Ya func179 rfl (fun E F w=>?_)
 unfold Dd at h
 refine wO J 8 h fun f g h=>Z6 (ZuH N d e _ g) [] [(0,.sl 0),(1,.bp 1 0),(2,.sl 2),(3,.sl 3),(4,.sl 4)] ?_
 exact oi h▸wr J 3 func179 []
theorem Zt9 (N:Nat) (c:YV) (r:Bool) (h:De N c=some r) :
 Fn Tryz.prog 182 ⟨0,[.a (TF c)],[],[],0,.O r,[],[]⟩:=by
 refine Ya func182 rfl (fun E F w=>?_)
 unfold De at h
 refine wB J 17 h (fun h=>?_) fun h=>?_
 ·refine Z7 J 7 h (fun h=>oi h▸wr J 13 func182 []) fun h=>?_
  exact wB J 7 h (fun h=>oi h▸wr J 6 func182 []) fun h=>oi h▸wr J 6 func182 []
 refine Z7 J 6 h (fun h=>oi h▸wr J 7 func182 []) fun h=>?_
 refine Z7 J 7 h (fun h=>oi h▸wr J 13 func182 []) fun h=>?_
 exact wB J 7 h (fun h=>oi h▸wr J 6 func182 []) fun h=>oi h▸wr J 6 func182 []
theorem Zub (N:Nat) (c:T4) (d:T4) (r:Bool) (h:Zbk N c d=some r) :
 Fn Tryz.prog 184 ⟨1,[.a (Ua c),.B 0 0],[],[(0,.box (Ua d) 52)],1,.O r,[],[(0,.box (Ua d) 52)]⟩:=by
 refine Ya func184 rfl (fun E F w=>?_)
 unfold Zbk at h
 exact oi h▸wr J 14 func184 []
theorem ZuJ (N:Nat) (d:(List T4)) (e:T4) (r:Int) (h:ZbE N d e=some r) :
 Fn Tryz.prog 227 ⟨2,[.S 0,.c (.cl 184 [] [1])],[(0,.sl XN d)],[(1,.box (Ua e) 52)],2,.I r,[],[(1,.box (Ua e) 52)]⟩:=by
 refine Ya func227 rfl (fun E F w=>?_)
 unfold ZbE at h
 refine wa J 11 (Yf (σ:=Unit) (fun st=>⟨[],[(1,.box (Ua e) 52)],[(0,.sl XN d)],2⟩) (fun st=>ZbF=some r) ?_ (fun j1=>?_))
 ·intro _ h
  unfold ZbF at h
  exact oi h▸wr J 4 func227 []
 refine wa J 1 (Yn (σ:=Int) (fun st=>⟨[(0,.S 0),(1,.c (.cl 184 [] [1])),(7,.I (d.length:Int)),(8,.I st)],[(1,.box (Ua e) 52)],[(0,.sl XN d)],2⟩) (fun n st=>P4 N d e n st) (r:=r) (fun _=>rfl) ?_ (fun ih=>?_))
 ·intro n2 ih3
  intro f h
  unfold P4 at h
  refine Z7 J 5 h (fun h=>wa J 2 (Z2 [] (j1 () h))) fun h=>?_
  refine wO J 14 h fun g i h=>Yc J WE i ?_
  refine wO J 1 h fun j k h=>Z6 (Zub N g e _ k) [] [(0,.bp 1 0)] ?_
  exact wB J 1 h (fun h=>oi h▸wr J 6 func227 []) fun h=>wa J 7 (Z2 [] (ih3 (Z1 (f+1)) h))
 exact Z2 [] (ih N 0 h)
theorem Zua (N:Nat) (d:(List T4)) (e:T4) (r:Bool) (h:Df N d e=some r) :
 Fn Tryz.prog 183 ⟨2,[.S 0,.c (.cl 184 [] [1])],[(0,.sl XN d)],[(1,.box (Ua e) 52)],2,.O r,[],[(1,.box (Ua e) 52)]⟩:=by
 refine Ya func183 rfl (fun E F w=>?_)
 unfold Df at h
 refine wO J 8 h fun f g h=>Z6 (ZuJ N d e _ g) [] [(0,.sl 0),(1,.bp 1 0)] ?_
 exact oi h▸wr J 3 func183 []
theorem Zuc (N:Nat) (c:T6) (d:(List T4)) (r:Bool) (h:Dg N c d=some r) :
 Fn Tryz.prog 185 ⟨3,[.a [.sl 0,.sl 1],.S 2],[(0,.sl Xe c.Zw),(1,.sl (rP (rI .i64) (rI .i64)) c.Zy),(2,.sl XN d)],[],3,.O r,[],[]⟩:=by
 refine Ya func185 rfl (fun E F w=>?_)
 unfold Dg at h
 refine wB J 13 h (fun h=>oi h▸wr J 11 func185 []) fun h=>?_
 refine wB J 6 h (fun h=>oi h▸wr J 5 func185 []) fun h=>wa J 10 (Yf (σ:=Unit) (fun st=>(ZlK c.Zw c.Zy d [(1,.S 2),(2,.B 3 0)])) (fun st=>Di N c d=some r) ?_ (fun j1=>?_))
 ·intro _ h
  unfold Di at h
  refine wa J 8 (Yf (σ:=Unit) (fun st=>⟨[],[],[(0,.sl Xe c.Zw),(1,.sl (rP (rI .i64) (rI .i64)) c.Zy),(2,.sl XN d)],4⟩) (fun st=>Zbl=some r) ?_ (fun j3=>?_))
  ·intro _ h
   unfold Zbl at h
   exact oi h▸wr J 4 func185 []
  refine wa J 1 (Yn (σ:=Int) (fun st=>⟨[(1,.S 2),(56,.S 1),(57,.I (c.Zy.length:Int)),(58,.I st)],[],[(0,.sl Xe c.Zw),(1,.sl (rP (rI .i64) (rI .i64)) c.Zy),(2,.sl XN d)],4⟩) (fun n st=>Sa N c d n st) (r:=r) (fun _=>rfl) ?_ (fun ih=>?_))
  ·intro n13 ih14
   intro e h
   unfold Sa at h
   refine Z7 J 5 h (fun h=>wa J 2 (Z2 [] (j3 () h))) fun h=>?_
   refine wO J 6 h fun f g h=>Yc J (oP (oI .i64) (oI .i64)) g (wa J 9 (Yf (σ:=Unit) (fun st=>⟨[(1,.S 2),(56,.S 1),(57,.I (c.Zy.length:Int)),(58,.I e)],[],[(0,.sl Xe c.Zw),(1,.sl (rP (rI .i64) (rI .i64)) c.Zy),(2,.sl XN d)],6⟩) (fun st=>Dh e (Sa N c d n13)=some r) ?_ (fun j21=>?_)))
   ·intro _ h
    unfold Dh at h
    exact wa J 5 (Z2 [] (ih14 (Z1 (e+1)) h))
   refine wa J 1 (Yn (σ:=Int) (fun st=>⟨[(1,.S 2),(56,.S 1),(57,.I (c.Zy.length:Int)),(58,.I e),(62,.a [.I f.1,.I f.2]),(63,.I st)],[],[(0,.sl Xe c.Zw),(1,.sl (rP (rI .i64) (rI .i64)) c.Zy),(2,.sl XN d)],6⟩) (fun n st=>LP d e (Sa N c d n13) f n st) (r:=r) (fun _=>rfl) ?_ (fun ih=>?_))
   ·intro n15 ih23
    intro j h
    unfold LP at h
    refine Z7 J 5 h (fun h=>wa J 2 (Z2 [] (j21 () h))) fun h=>?_
    refine wO J 6 h fun k l h=>Bv (SC.i .i64) ([f.1,f.2]:List Int) l ?_
    refine wB J 7 h (fun h=>oi h▸wr J 20 func185 []) fun h=>?_
    refine wB J 6 h (fun h=>oi h▸wr J 14 func185 []) fun h=>?_
    refine wO J 2 h fun m o h=>Yc J WE o ?_
    exact wB J 6 h (fun h=>oi h▸wr J 5 func185 []) fun h=>wa J 7 (Z2 [] (ih23 (Z1 (j+1)) h))
   exact Z2 [] (ih N 0 h)
  exact Z2 [] (ih N 0 h)
 refine wa J 1 (Yn (σ:=Int) (fun st=>(ZlK c.Zw c.Zy d [(1,.S 2),(2,.B 3 0),(22,.S 0),(23,.I (c.Zw.length:Int)),(24,.I st)])) (fun n st=>PS N c d n st) (r:=r) (fun _=>rfl) ?_ (fun ih=>?_))
 ·intro n16 ih24
  intro p h
  unfold PS at h
  refine Z7 J 5 h (fun h=>wa J 2 (Z2 [] (j1 () h))) fun h=>?_
  refine wO J 6 h fun q s h=>Yc J Uv s ?_
  refine wB J 13 h (fun h=>oi h▸wr J 25 func185 []) fun h=>?_
  refine wB J 10 h (fun h=>oi h▸wr J 15 func185 []) fun h=>?_
  refine wB J 5 h (fun h=>oi h▸wr J 10 func185 []) fun h=>?_
  exact wB J 5 h (fun h=>oi h▸wr J 5 func185 []) fun h=>wa J 7 (Z2 [] (ih24 (Z1 (p+1)) h))
 exact Z2 [] (ih N 0 h)
theorem ZkR (N:Nat) (c:(List T0)) (r:Bool) (h:Lr N c=some r) :
 Fn Tryz.prog 120 ⟨1,[.S 0],[(0,.sl Ys c)],[],1,.O r,[],[]⟩:=by
 refine Ya func120 rfl (fun E F w=>?_)
 unfold Lr at h
 refine wB J 11 h (fun h=>oi h▸wr J 5 func120 []) fun h=>?_
 refine wO J 5 h fun d e h=>Z6 (ZkS N c _ e) [] [(0,.sl 0)] ?_
 refine wB J 9 h (fun h=>oi h▸wr J 5 func120 []) fun h=>wa J 13 (Yf (σ:=Unit) (fun st=>⟨[],[],[(0,.sl Ys c)],2⟩) (fun st=>ZaQ=some r) ?_ (fun j1=>?_))
 ·intro _ h
  unfold ZaQ at h
  exact oi h▸wr J 4 func120 []
 refine wa J 1 (Yn (σ:=Int × Int) (fun st=>(Zgu d c [(0,.S 0),(3,.S 1),(4,.I st.1),(17,.S 0),(18,.I (c.length:Int)),(19,.I st.2)])) (fun n st=>Uj N c d n st.1 st.2) (r:=r) (fun _=>rfl) ?_ (fun ih=>?_))
 ·intro n12 ih12
  rintro ⟨f,g⟩ h
  unfold Uj at h
  refine Z7 J 5 h (fun h=>wa J 2 (Z2 [] (j1 () h))) fun h=>?_
  refine wO J 7 h fun i j h=>Yc J Xu j ?_
  refine wO J 10 h fun k l h=>Z6 (Zt5 N i.Zu _ l) [] [] ?_
  refine wB J 2 h (fun h=>oi h▸wr J 24 func120 []) fun h=>?_
  refine wB J 6 h (fun h=>oi h▸wr J 18 func120 []) fun h=>?_
  refine wB J 6 h (fun h=>oi h▸wr J 12 func120 []) fun h=>?_
  refine wO J 2 h fun m o h=>eIs J Ys o ?_
  refine wO J 1 h fun p q h=>Z6 (Zt6 N m i _ q) [] [(0,.sl 7),(1,.bp 6 0),(2,.sl 3),(3,.sl 4),(4,.sl 5)] ?_
  refine wB J 2 h (fun h=>oi h▸wr J 5 func120 []) fun h=>wa J 19 (Yf (σ:=Unit) (fun st=>(ZlL d i c [(0,.S 0),(3,.S 1),(4,.I (Z1 (f+(i.Zz.length:Int)))),(6,.B 6 0),(17,.S 0),(18,.I (c.length:Int)),(19,.I g)])) (fun st=>GG N d f g (Uj N c d n12) i=some r) ?_ (fun j19=>?_))
  ·intro _ h
   unfold GG at h
   refine wO J 5 h fun s t h=>X2 (Zuc N i.ZB d _ t) [] [(0,.sl 4),(1,.sl 5),(2,.sl 1)] [1] (.inr ⟨rfl,trivial⟩) ?_
   exact wB J 2 h (fun h=>oi h▸wr J 5 func120 []) fun h=>wa J 7 (Z2 [] (ih12 ((Z1 (f+(i.Zz.length:Int))),(Z1 (g+1))) h))
  refine wa J 1 (Yn (σ:=Int) (fun st=>(ZlL d i c [(0,.S 0),(3,.S 1),(4,.I (Z1 (f+(i.Zz.length:Int)))),(6,.B 6 0),(17,.S 0),(18,.I (c.length:Int)),(19,.I g),(53,.S 3),(54,.I (i.Zz.length:Int)),(55,.I st)])) (fun n st=>PF N d f g (Uj N c d n12) i n st) (r:=r) (fun _=>rfl) ?_ (fun ih=>?_))
  ·intro n14 ih21
   intro u h
   unfold PF at h
   refine Z7 J 5 h (fun h=>wa J 2 (Z2 [] (j19 () h))) fun h=>?_
   refine wO J 7 h fun v x h=>Yc J WE x ?_
   refine wO J 9 h fun y z h=>Z6 (Zbj N v.Zu _ z) [] [] ?_
   refine wB J 2 h (fun h=>oi h▸wr J 19 func120 []) fun h=>?_
   refine wO J 2 h fun A C h=>Z6 (Zt9 N v.Zv _ C) [] [] ?_
   refine wB J 3 h (fun h=>oi h▸wr J 13 func120 []) fun h=>?_
   refine wO J 3 h fun D G h=>eIs J XN G ?_
   refine wO J 1 h fun H R h=>Z6 (Zua N D v _ R) [] [(0,.sl 10),(1,.bp 9 0)] ?_
   exact wB J 2 h (fun h=>oi h▸wr J 5 func120 []) fun h=>wa J 7 (Z2 [] (ih21 (Z1 (u+1)) h))
  exact Z2 [] (ih N 0 h)
 exact Z2 [] (ih N (0,0) h)
theorem ZlA (N:Nat) (c:T0) (r:(List T1)) (h:RC N c=some r) :
 Fn Tryz.prog 56 ⟨3,[.a (Y5 0 1 2 c)],(Y3 0 1 2 c []),[],4,.S 3,[],[(3,.own Xe r true)]⟩:=by
 refine Ya func56 rfl (fun E F w=>?_)
 unfold RC at h
 refine wa J 17 (Yf (σ:=(List T1)) (fun st=>⟨[(1,.B 3 0),(3,.S 4)],[(3,.box (Y5 0 1 2 c) 59),(4,.own Xe st true)],(Y3 0 1 2 c []),5⟩) (fun st=>Hd N c st=some r) ?_ (fun j1=>?_))
 ·intro d h
  unfold Hd at h
  refine wO J 6 h fun e f h=>Xc J Xe f (wa J 11 (Yf (σ:=(List T1)) (fun st=>⟨[(3,.S 6)],[(6,.own Xe st true)],(Y3 0 1 2 c []),7⟩) (fun st=>DR st=some r) ?_ (fun j3=>?_)))
  ·intro g h
   unfold DR at h
   exact oi h▸wr J 5 func56 [(3,.sl 6)]
  refine wa J 1 (Yn (σ:=(List T1) × Int) (fun st=>⟨[(3,.S 6),(44,.S 2),(45,.I (c.ZB.Zy.length:Int)),(46,.I st.2)],[(6,.own Xe st.1 true)],(Y3 0 1 2 c []),7⟩) (fun n st=>UT c n st.1 st.2) (r:=r) (fun _=>rfl) ?_ (fun ih=>?_))
  ·intro n3 ih5
   rintro ⟨i,j⟩ h
   unfold UT at h
   refine Z7 J 5 h (fun h=>wa J 2 (Z2 [] (j3 i h))) fun h=>?_
   refine wO J 6 h fun k l h=>Yc J (oP (oI .i64) (oI .i64)) l (wa J 6 (W7 0 rfl (wa J 1 (W7 1 rfl (wa J 2 (W7 1 rfl (wa J 1 (W7 0 rfl (wa J 2 (YS J [] Uv ([(⟨k.1,k.2,0⟩:T1),(⟨k.2,k.1,0⟩:T1)]:List T1) ?_))))))))))
   have ⟨m,o,h⟩:=ob h
   exact Xc J Xe o (wa J 7 (Z2 [(6,.sl 10)] (ih5 (m,(Z1 (j+1))) h)))
  exact Z2 [(6,.sl 5)] (ih N (e,0) h)
 refine wa J 1 (Yn (σ:=(List T1) × Int) (fun st=>⟨[(1,.B 3 0),(3,.S 4),(9,.S 0),(10,.I (c.Zz.length:Int)),(11,.I st.2)],[(3,.box (Y5 0 1 2 c) 59),(4,.own Xe st.1 true)],(Y3 0 1 2 c []),5⟩) (fun n st=>UU N c n st.1 st.2) (r:=r) (fun _=>rfl) ?_ (fun ih=>?_))
 ·intro n4 ih6
  rintro ⟨p,q⟩ h
  unfold UU at h
  refine Z7 J 5 h (fun h=>wa J 2 (Z2 [] (j1 p h))) fun h=>?_
  refine wO J 7 h fun s t h=>Yc J WE t (wa J 24 (YS J [] Uv ([(⟨(Z1 (c.ZA+q)),(-1),s.Zv.Hi⟩:T1),(⟨(-1),(Z1 (c.ZA+q)),(Z1 (0-s.Zv.Lo))⟩:T1)]:List T1) ?_))
  have ⟨u,v,h⟩:=ob h
  exact Xc J Xe v (wa J 7 (Z2 [(4,.sl 8)] (ih6 (u,(Z1 (q+1))) h)))
 exact Z2 [(4,.nil)] (ih N (([]:List T1),0) h)
theorem Ze5 (N:Nat) (c:(List T0)) (d:Int) (r:(List T1) × Int) (h:LG N c d=some r) :
 Fn Tryz.prog 144 ⟨1,[.S 0,.I d],[(0,.sl Ys c)],[],2,.t [.inl (.sl 1),.inl (.I r.2)],[],[(1,.own Xe r.1 true)]⟩:=by
 refine Ya func144 rfl (fun E F w=>?_)
 unfold LG at h
 refine wB J 11 h (fun h=>oi h▸wr J 17 func144 [(1,.nil)]) fun h=>?_
 refine wB J 6 h (fun h=>oi h▸wr J 11 func144 [(1,.nil)]) fun h=>?_
 refine wO J 1 h fun e f h=>Z6 (ZkR N c _ f) [] [(0,.sl 0)] ?_
 refine wB J 3 h (fun h=>oi h▸wr J 6 func144 [(1,.nil)]) fun h=>?_
 refine wO J 6 h fun g i h=>Yc J Xu i ?_
 refine wO J 1 h fun j k h=>Z6 (ZlA N g _ k) [] [(0,.sl 2),(1,.sl 3),(2,.sl 4)] ?_
 exact oi h▸wr J 3 func144 [(1,.sl 5)]
theorem ZtS (N:Nat) (c:(List T0)) (r:Bool) (h:GY N c=some r) :
 Fn Tryz.prog 159 ⟨1,[.S 0],[(0,.sl Ys c)],[],1,.O r,[],[]⟩:=by
 refine Ya func159 rfl (fun E F w=>?_)
 unfold GY at h
 refine wB J 11 h (fun h=>oi h▸wr J 5 func159 []) fun h=>?_
 refine wO J 5 h fun d e h=>Z6 (Ze5 N c 0 _ e) [] [(0,.sl 0)] ?_
 exact oi h▸wr J 12 func159 []
theorem ZtT (N:Nat) (c:T5) (r:Bool) (h:GZ N c=some r) :
 Fn Tryz.prog 160 ⟨4,[.a (YH 0 1 2 3 c)],(Xk 0 1 2 3 c []),[],4,.O r,[],[]⟩:=by
 refine Ya func160 rfl (fun E F w=>?_)
 unfold GZ at h
 refine wa J 13 (Yf (σ:=Unit) (fun st=>(Ht c [])) (fun st=>Za6=some r) ?_ (fun j1=>?_))
 ·intro _ h
  unfold Za6 at h
  exact oi h▸wr J 4 func160 []
 refine wa J 1 (Yn (σ:=Int) (fun st=>(S7 c [(1,.B 4 0),(8,.S 2),(9,.I (c.ZO.length:Int)),(10,.I st)])) (fun n st=>Uk N c n st) (r:=r) (fun _=>rfl) ?_ (fun ih=>?_))
 ·intro n12 ih33
  intro d h
  unfold Uk at h
  refine Z7 J 5 h (fun h=>wa J 2 (Z2 [] (j1 () h))) fun h=>?_
  refine wO J 7 h fun e f h=>Yc J WW f ?_
  refine wa J 14 (Yf (σ:=Bool) (fun st=>(Zct c e [(1,.B 4 0),(3,.I d),(4,.B 6 0),(8,.S 2),(9,.I (c.ZO.length:Int)),(10,.I d),(30,.O st)])) (fun st=>LJ N c d (Uk N c n12) e st=some r) ?_ (fun j54=>?_))
  ·intro g h
   unfold LJ at h
   refine eB h (fun h=>oi h▸wr J 5 func160 []) fun h=>wa J 9 (Yf (σ:=Unit) (fun st=>⟨[(1,.B 4 0),(8,.S 2),(9,.I (c.ZO.length:Int)),(10,.I d)],[(4,.box (YH 0 1 2 3 c) 27)],(Xk 0 1 2 3 c []),7⟩) (fun st=>G2 d (Uk N c n12)=some r) ?_ (fun j55=>?_))
   ·intro _ h
    unfold G2 at h
    exact wa J 5 (Z2 [] (ih33 (Z1 (d+1)) h))
   refine wa J 1 (Yn (σ:=Int) (fun st=>(Zct c e [(1,.B 4 0),(3,.I d),(4,.B 6 0),(8,.S 2),(9,.I (c.ZO.length:Int)),(10,.I d),(32,.S 2),(33,.I (c.ZO.length:Int)),(34,.I st)])) (fun n st=>Tm c d (Uk N c n12) e n st) (r:=r) (fun _=>rfl) ?_ (fun ih=>?_))
   ·intro n14 ih60
    intro i h
    unfold Tm at h
    refine Z7 J 5 h (fun h=>wa J 2 (Z2 [] (j55 () h))) fun h=>?_
    refine wO J 7 h fun j k h=>Yc J WW k ?_
    refine wa J 12 (Yf (σ:=Bool) (fun st=>(ZlM c e j [(1,.B 4 0),(3,.I d),(4,.B 6 0),(6,.B 8 0),(8,.S 2),(9,.I (c.ZO.length:Int)),(10,.I d),(32,.S 2),(33,.I (c.ZO.length:Int)),(34,.I i),(68,.O st)])) (fun st=>Qq e i (Tm c d (Uk N c n12) e n14) j st=some r) ?_ (fun j63=>?_))
    ·intro l h
     unfold Qq at h
     refine eB h (fun h=>oi h▸wr J 5 func160 []) fun h=>?_
     refine Z7 J 7 h (fun h=>wa J 32 (Z2 [] (ih60 (Z1 (i+1)) h))) fun h=>?_
     refine Z7 J 7 h (fun h=>wa J 25 (Z2 [] (ih60 (Z1 (i+1)) h))) fun h=>?_
     refine wB J 8 h (fun h=>oi h▸wr J 15 func160 []) fun h=>?_
     exact wB J 10 h (fun h=>oi h▸wr J 5 func160 []) fun h=>wa J 7 (Z2 [] (ih60 (Z1 (i+1)) h))
    refine Ub h (fun h=>wa J 27 (Z2 [] (j63 false h))) fun h=>?_
    refine Z7 J 7 h (fun h=>wa J 20 (Z2 [] (j63 false h))) fun h=>wa J 4 (RT ?_)
    refine wB J 1 h (fun h=>wa J 14 (Z2 [] (j63 true h))) fun h=>?_
    exact wB J 9 h (fun h=>wa J 5 (Z2 [] (j63 true h))) fun h=>wa J 5 (Z2 [] (j63 e.ZE h))
   exact Z2 [] (ih N 0 h)
  refine eB h (fun h=>wa J 11 (Z2 [] (j54 true h))) fun h=>?_
  exact wB J 3 h (fun h=>wa J 8 (Z2 [] (j54 (e.ZC==c.ZM) h))) fun h=>wa J 8 (Z2 [] (j54 false h))
 exact Z2 [] (ih N 0 h)
theorem ZtU (N:Nat) (c:T5) (r:Bool) (h:G3 N c=some r) :
 Fn Tryz.prog 161 ⟨4,[.a (YH 0 1 2 3 c)],(Xk 0 1 2 3 c []),[],4,.O r,[],[]⟩:=by
 refine Ya func161 rfl (fun E F w=>?_)
 unfold G3 at h
 refine wa J 17 (Yf (σ:=Unit) (fun st=>(Ht c [])) (fun st=>Za7=some r) ?_ (fun j1=>?_))
 ·intro _ h
  unfold Za7 at h
  exact oi h▸wr J 4 func161 []
 refine wa J 1 (Yn (σ:=Int × Int) (fun st=>(S7 c [(1,.B 4 0),(3,.I st.1),(7,.S 3),(8,.I (c.ZP.length:Int)),(9,.I st.2)])) (fun n st=>TX c n st.1 st.2) (r:=r) (fun _=>rfl) ?_ (fun ih=>?_))
 ·intro n2 ih3
  rintro ⟨d,e⟩ h
  unfold TX at h
  refine Z7 J 5 h (fun h=>wa J 2 (Z2 [] (j1 () h))) fun h=>?_
  refine wO J 6 h fun f g h=>Yc J Rn g ?_
  refine wB J 12 h (fun h=>wa J 43 (Yl (oi h▸wr J 5 func161 []))) fun h=>?_
  refine wB J 5 h (fun h=>wa J 38 (Yl (oi h▸wr J 5 func161 []))) fun h=>?_
  refine wB J 5 h (fun h=>wa J 33 (Yl (oi h▸wr J 5 func161 []))) fun h=>?_
  refine wB J 5 h (fun h=>wa J 28 (Yl (oi h▸wr J 5 func161 []))) fun h=>?_
  refine wB J 8 h (fun h=>wa J 20 (Yl (oi h▸wr J 5 func161 []))) fun h=>?_
  refine wO J 4 h fun i j h=>Yc J WW j ?_
  refine wB J 7 h (fun h=>wa J 8 (Yl (oi h▸wr J 5 func161 []))) fun h=>?_
  refine wO J 4 h fun k l h=>Yc J WW l (wa J 3 (Yl ?_))
  exact eB h (fun h=>oi h▸wr J 5 func161 []) fun h=>wa J 12 (Z2 [] (ih3 (f.ZF,(Z1 (e+1))) h))
 exact Z2 [] (ih N ((-1),0) h)
theorem Zuj (N:Nat) (d:Int) (e:Int) (r:Int × Int) (h:Zfr N d e=some r) :
 Fn Tryz.prog 192 ⟨0,[.c (.i .u64 d),.c (.i .u64 e)],[],[],0,.t [.inl (.i .u64 r.1),.inl (.i .u64 r.2)],[],[]⟩:=by
 refine Ya func192 rfl (fun E F w=>?_)
 unfold Zfr at h
 refine wO J 8 h fun f g h=>RS g ?_
 refine wO J 5 h fun j k h=>RS k ?_
 refine wO J 5 h fun l m h=>RS m ?_
 refine wO J 5 h fun o p h=>RS p ?_
 refine wO J 15 h fun q s h=>RS s ?_
 refine wO J 6 h fun u v h=>RS v ?_
 refine wO J 5 h fun x y h=>RS y ?_
 refine wO J 19 h fun z A h=>RS A ?_
 exact oi h▸wr J 10 func192 []
theorem ZtB (N:Nat) (d:Int) (e:Int) (r:Int × Int) (h:GM N d e=some r) :
 Fn Tryz.prog 129 ⟨0,[.c (.i .u64 d),.c (.i .u64 e)],[],[],0,.t [.inl (.i .u64 r.1),.inl (.i .u64 r.2)],[],[]⟩:=by
 refine Ya func129 rfl (fun E F w=>?_)
 unfold GM at h
 refine wO J 12 h fun f g h=>Z6 (Zuj N d e _ g) [] [] ?_
 exact oi h▸wr J 13 func129 []
theorem Zuw (N:Nat) (d:(List Int)) (e:Int) (r:(List Int)) (h:Ds N d e=some r) :
 Fn Tryz.prog 211 ⟨1,[.S 0,.I e],[(0,.sl (rI .i64) d)],[],2,.S 1,[],[(1,.own (rI .i64) r true)]⟩:=by
 refine Ya func211 rfl (fun E F w=>?_)
 unfold Ds at h
 refine wB J 10 h (fun h=>?_) fun h=>?_
 ·cases h
 refine wO J 9 h fun f g h=>Z6 (ZtB N (wk .u64 ((d.length:Int))) (wk .u64 (e)) _ g) [] [] ?_
 refine wa J 12 (Yf (σ:=Bool) (fun st=>(Mr d [(0,.S 0),(6,.c (.i .u64 f.2)),(26,.O st)])) (fun st=>Dt N d f st=some r) ?_ (fun j2=>?_))
 ·intro j h
  unfold Dt at h
  refine eB h (fun h=>?_) fun h=>?_
  ·cases h
  refine wO J 6 h fun k l h=>Ur J (oI .i64) l ?_
  refine wO J 6 h fun m o h=>eCp J (rI .i64) o (wa J 3 (Yf (σ:=(List Int)) (fun st=>(Zcu st d [(7,.S 1)])) (fun st=>Zbv st=some r) ?_ (fun j4=>?_)))
  ·intro p h
   unfold Zbv at h
   exact oi h▸wr J 5 func211 [(1,.sl 1)]
  refine wa J 1 (Yn (σ:=(List Int) × Int) (fun st=>(Zcu st.1 d [(7,.S 1),(8,.I st.2)])) (fun n st=>P1 n st.1 st.2) (r:=r) (fun _=>rfl) ?_ (fun ih=>?_))
  ·intro n2 ih6
   rintro ⟨q,s⟩ h
   unfold P1 at h
   refine Z7 J 8 h (fun h=>wa J 2 (Z2 [] (j4 q h))) fun h=>?_
   refine wO J 7 h fun t u h=>TK J (rI .i64) u ?_
   refine wO J 2 h fun v x h=>TK J (rI .i64) x ?_
   have ⟨y,z,h⟩:=ob h
   exact eDw J (rI .i64) x z (wa J 2 (Yl (wa J 1 (Z2 [] (ih6 (y.1,(Z1 (s+y.2))) h)))))
  exact Z2 [] (ih N (m.1,m.2) h)
 exact eB h (fun h=>wa J 4 (Z2 [] (j2 true h))) fun h=>wa J 4 (Z2 [] (j2 (decide (f.2 > 9223372036854775807)) h))
theorem Zla (N:Nat) (c:T5) (d:Int) (e:Bool) (r:(List Int)) (h:LL N c d e=some r) :
 Fn Tryz.prog 163 ⟨4,[.a (YH 0 1 2 3 c),.I d,.O e],(Xk 0 1 2 3 c []),[],5,.S 4,[],[(4,.own (rI .i64) r true)]⟩:=by
 refine Ya func163 rfl (fun E F w=>?_)
 unfold LL at h
 refine wa J 7 (YS J [] (oI .i64) ([(-1)]:List Int) ?_)
 refine wO J 2 h fun f g h=>X2 (Zuw N ([(-1)]:List Int) c.ZL _ g) [] [(0,.sl 5)] [5] (.inr ⟨rfl,⟨(MY _),trivial⟩⟩) ?_
 refine wO J 6 h fun i j h=>YB J (rI .i64) j (XS J [] (oI .i64) 0 j (wa J 5 (YS J [] (oI .i64) ([d]:List Int) (wa J 2 (Yf (σ:=(List Int)) (fun st=>⟨[(7,.S 6)],[(6,.own (rI .i64) st true)],(Xk 0 1 2 3 c []),9⟩) (fun st=>Zfm st=some r) ?_ (fun j1=>?_))))))
 ·intro k h
  unfold Zfm at h
  exact oi h▸wr J 5 func163 [(4,.sl 6)]
 refine wa J 1 (Yn (σ:=(List Int) × (List Int)) (fun st=>⟨[(2,.O e),(3,.B 4 0),(7,.S 6),(8,.S 9)],[(4,.box (YH 0 1 2 3 c) 27),(6,.own (rI .i64) st.1 true),(9,.own (rI .i64) st.2 true)],(Xk 0 1 2 3 c []),10⟩) (fun n st=>SH N c e n st.1 st.2) (r:=r) (fun _=>rfl) ?_ (fun ih=>?_))
 ·intro n12 ih30
  rintro ⟨l,m⟩ h
  unfold SH at h
  refine Z7 J 7 h (fun h=>wa J 2 (Z2 [] (j1 l h))) fun h=>wa J 11 (Yf (σ:=(List Int) × (List Int)) (fun st=>(ZlN c st.1 st.2 [(2,.O e),(3,.B 4 0),(7,.S 6),(8,.S 10)])) (fun st=>G4 (SH N c e n12) st.1 st.2=some r) ?_ (fun j49=>?_))
  ·rintro ⟨o,p⟩ h
   unfold G4 at h
   exact wO J 3 h fun q s h=>TK J (rI .i64) s (wa J 2 (eSl (rI .i64) 11 s (Z2 [(9,.sl 11)] (ih30 (o,q) h))))
  refine wa J 1 (Yn (σ:=(List Int) × (List Int) × Int) (fun st=>(ZlN c st.1 st.2.1 [(2,.O e),(3,.B 4 0),(7,.S 6),(8,.S 10),(28,.S 2),(29,.I (c.ZO.length:Int)),(30,.I st.2.2)])) (fun n st=>TY c e (SH N c e n12) n st.1 st.2.1 st.2.2) (r:=r) (fun _=>rfl) ?_ (fun ih=>?_))
  ·intro n14 ih54
   rintro ⟨t,u,v⟩ h
   unfold TY at h
   refine Z7 J 5 h (fun h=>wa J 2 (Z2 [] (j49 (t,u) h))) fun h=>?_
   refine wO J 6 h fun x y h=>Yc J WW y (wa J 12 (Yl (wa J 5 (Yf (σ:=Int × Int) (fun st=>⟨[(2,.O e),(3,.B 4 0),(7,.S 6),(8,.S 10),(11,.I st.1),(12,.I st.2),(28,.S 2),(29,.I (c.ZO.length:Int)),(30,.I v)],[(4,.box (YH 0 1 2 3 c) 27),(6,.own (rI .i64) t true),(10,.own (rI .i64) u true)],(Xk 0 1 2 3 c []),13⟩) (fun st=>LM t u v (TY c e (SH N c e n12) n14) st.1 st.2=some r) ?_ (fun j57=>?_)))))
   ·rintro ⟨z,A⟩ h
    unfold LM at h
    refine wO J 4 h fun C D h=>YB J (rI .i64) D (Y1 J (oI .i64) D ?_)
    refine Z7 J 2 h (fun h=>wa J 14 (Z2 [] (ih54 (t,u,(Z1 (v+1))) h))) fun h=>?_
    refine wO J 2 h fun G H h=>YB J (rI .i64) H (Y1 J (oI .i64) H ?_)
    refine Z7 J 3 h (fun h=>wa J 7 (Z2 [] (ih54 (t,u,(Z1 (v+1))) h))) fun h=>?_
    refine wO J 7 h fun R T h=>YB J (rI .i64) T (Y1 J (oI .i64) T ?_)
    refine wO J 1 h fun U X h=>YB J (rI .i64) X (XS J [] (oI .i64) (Z1 (R+1)) X (wa J 4 (YS J [] (oI .i64) ([A]:List Int) ?_)))
    have ⟨Y,Z,h⟩:=ob h
    exact Xc J (rI .i64) Z (wa J 7 (Z2 [(10,.sl 18)] (ih54 ((YA t A (Z1 (R+1))),Y,(Z1 (v+1))) h)))
   exact eB h (fun h=>wa J 7 (Z2 [] (j57 (x.To,x.ZC) h))) fun h=>wa J 2 (Z2 [] (j57 (x.ZC,x.To) h))
  exact Z2 [(10,.sl 9)] (ih N (l,m,0) h)
 exact Z2 [(9,.sl 8)] (ih N ((YA f d 0),([d]:List Int)) h)
theorem Zuv (N:Nat) (c:(List Int)) (d:Int) (r:Int) (h:Zbt N c d=some r) :
 Fn Tryz.prog 210 ⟨1,[.S 0,.I d],[(0,.sl (rI .i64) c)],[],1,.I r,[],[]⟩:=by
 refine Ya func210 rfl (fun E F w=>?_)
 unfold Zbt at h
 refine wa J 11 (Yf (σ:=Unit) (fun st=>(Mr c [])) (fun st=>Zbu=some r) ?_ (fun j1=>?_))
 ·intro _ h
  unfold Zbu at h
  exact oi h▸wr J 4 func210 []
 refine wa J 1 (Yn (σ:=Int) (fun st=>(Mr c [(0,.S 0),(1,.I d),(7,.I (c.length:Int)),(8,.I st)])) (fun n st=>P0 c d n st) (r:=r) (fun _=>rfl) ?_ (fun ih=>?_))
 ·intro n2 ih3
  intro e h
  unfold P0 at h
  refine Z7 J 5 h (fun h=>wa J 2 (Z2 [] (j1 () h))) fun h=>?_
  refine wO J 14 h fun f g h=>Yc J (oI .i64) g ?_
  exact wB J 3 h (fun h=>oi h▸wr J 6 func210 []) fun h=>wa J 7 (Z2 [] (ih3 (Z1 (e+1)) h))
 exact Z2 [] (ih N 0 h)
theorem Zk9 (N:Nat) (c:(List Int)) (d:Int) (r:Bool) (h:LK N c d=some r) :
 Fn Tryz.prog 162 ⟨1,[.S 0,.I d],[(0,.sl (rI .i64) c)],[],1,.O r,[],[]⟩:=by
 refine Ya func162 rfl (fun E F w=>?_)
 unfold LK at h
 refine wO J 8 h fun e f h=>Z6 (Zuv N c d _ f) [] [(0,.sl 0)] ?_
 exact oi h▸wr J 3 func162 []
theorem ZvN (N:Nat) (c:T5) (r:Bool) (h:Mq N c=some r) :
 Fn Tryz.prog 97 ⟨4,[.a (YH 0 1 2 3 c)],(Xk 0 1 2 3 c []),[],4,.O r,[],[]⟩:=by
 refine Ya func97 rfl (fun E F w=>?_)
 unfold Mq at h
 refine wO J 8 h fun d e h=>Z6 (ZtQ N c _ e) [] [(0,.sl 0),(1,.sl 1),(2,.sl 2),(3,.sl 3)] ?_
 refine Z7 J 1 h (fun h=>oi h▸wr J 34 func97 []) fun h=>?_
 refine wO J 1 h fun f g h=>Z6 (ZtR N c _ g) [] [(0,.sl 0),(1,.sl 1),(2,.sl 2),(3,.sl 3)] ?_
 refine Z7 J 2 h (fun h=>oi h▸wr J 30 func97 []) fun h=>?_
 refine wO J 2 h fun i j h=>Z6 (ZtS N c.ZJ _ j) [] [(0,.sl 1)] ?_
 refine Z7 J 2 h (fun h=>oi h▸wr J 25 func97 []) fun h=>?_
 refine wO J 1 h fun k l h=>Z6 (ZtT N c _ l) [] [(0,.sl 0),(1,.sl 1),(2,.sl 2),(3,.sl 3)] ?_
 refine Z7 J 2 h (fun h=>oi h▸wr J 21 func97 []) fun h=>?_
 refine wO J 1 h fun m o h=>Z6 (ZtU N c _ o) [] [(0,.sl 0),(1,.sl 1),(2,.sl 2),(3,.sl 3)] ?_
 refine Z7 J 2 h (fun h=>oi h▸wr J 17 func97 []) fun h=>?_
 refine wO J 3 h fun p q h=>Z6 (Zla N c c.ZM false _ q) [] [(0,.sl 0),(1,.sl 1),(2,.sl 2),(3,.sl 3)] ?_
 have ⟨s,t,h⟩:=ob h
 refine X2 (Zk9 N p (-1) _ t) [] [(0,.sl 5)] [5] (.inr ⟨rfl,trivial⟩) ?_
 refine Z7 J 3 h (fun h=>oi h▸wr J 9 func97 []) fun h=>?_
 refine wO J 3 h fun u v h=>Z6 (Zla N c c.ZN true _ v) [] [(0,.sl 0),(1,.sl 1),(2,.sl 2),(3,.sl 3)] ?_
 have ⟨x,y,h⟩:=ob h
 refine X2 (Zk9 N u (-1) _ y) [] [(0,.sl 6)] [6] (.inr ⟨rfl,trivial⟩) ?_
 exact oi h▸wr J 4 func97 []
theorem Zfo (N:Nat) (c:T8) (d:Int) (r:Bool) (h:z173 N c d=some r) :
 Fn Tryz.prog 173 ⟨3,[.a (YM 0 1 2 c),.I d],(YP 0 1 2 c []),[],3,.O r,[],[]⟩:=by
 refine Ya func173 rfl (fun E F w=>?_)
 unfold z173 at h
 exact wB J 10 h (fun h=>oi h▸wr J 7 func173 []) fun h=>oi h▸wr J 7 func173 []
theorem Zts (N:Nat) (c:T8) (r:Bool) (h:GD N c=some r) :
 Fn Tryz.prog 114 ⟨3,[.a (YM 0 1 2 c)],(YP 0 1 2 c []),[],3,.O r,[],[]⟩:=by
 refine Ya func114 rfl (fun E F w=>?_)
 unfold GD at h
 refine wB J 12 h (fun h=>oi h▸wr J 41 func114 []) fun h=>?_
 refine wB J 5 h (fun h=>oi h▸wr J 36 func114 []) fun h=>?_
 refine wB J 5 h (fun h=>oi h▸wr J 31 func114 []) fun h=>?_
 refine wB J 5 h (fun h=>oi h▸wr J 26 func114 []) fun h=>?_
 refine wO J 3 h fun d e h=>Z6 (Zfo N c c.ZM _ e) [] [(0,.sl 0),(1,.sl 1),(2,.sl 2)] ?_
 refine wB J 3 h (fun h=>oi h▸wr J 19 func114 []) fun h=>?_
 refine wB J 8 h (fun h=>oi h▸wr J 11 func114 []) fun h=>?_
 refine wB J 6 h (fun h=>oi h▸wr J 5 func114 []) fun h=>wa J 10 (Yf (σ:=Unit) (fun st=>⟨[],[],(YP 0 1 2 c []),4⟩) (fun st=>ZeR=some r) ?_ (fun j1=>?_))
 ·intro _ h
  unfold ZeR at h
  exact oi h▸wr J 4 func114 []
 refine wa J 1 (Yn (σ:=Int) (fun st=>(Zcv c [(1,.B 3 0),(45,.S 1),(46,.I (c.ZU.length:Int)),(47,.I st)])) (fun n st=>Qf N c n st) (r:=r) (fun _=>rfl) ?_ (fun ih=>?_))
 ·intro n2 ih3
  intro f h
  unfold Qf at h
  refine Z7 J 5 h (fun h=>wa J 2 (Z2 [] (j1 () h))) fun h=>?_
  refine wO J 6 h fun g i h=>Yc J XM i ?_
  refine wO J 9 h fun j k h=>Z6 (Zfo N c g.ZC _ k) [] [(0,.sl 0),(1,.sl 1),(2,.sl 2)] ?_
  refine wB J 2 h (fun h=>oi h▸wr J 39 func114 []) fun h=>?_
  refine wO J 3 h fun l m h=>Z6 (Zfo N c g.To _ m) [] [(0,.sl 0),(1,.sl 1),(2,.sl 2)] ?_
  refine wB J 3 h (fun h=>oi h▸wr J 32 func114 []) fun h=>?_
  refine wB J 5 h (fun h=>oi h▸wr J 27 func114 []) fun h=>?_
  refine wB J 5 h (fun h=>oi h▸wr J 22 func114 []) fun h=>?_
  refine wB J 7 h (fun h=>oi h▸wr J 15 func114 []) fun h=>?_
  refine wB J 5 h (fun h=>oi h▸wr J 10 func114 []) fun h=>?_
  exact wB J 5 h (fun h=>oi h▸wr J 5 func114 []) fun h=>wa J 7 (Z2 [] (ih3 (Z1 (f+1)) h))
 exact Z2 [] (ih N 0 h)
section
variable [LxP]
theorem Zbg (N:Nat) (c:T9) (r:S9) (h:Ry N c=some r) :
 Fn Tryz.prog 176 ⟨0,[.a (TG c)],[],[],0,.a (ZcP r),[],[]⟩:=by
 refine Ya func176 rfl (fun E F w=>?_)
 unfold Ry at h
 exact oi h▸wr J 16 func176 []
end
section
variable [LxP]
theorem Zlg (N:Nat) (c:Int) (r:Bool) (h:DB N c=some r) :
 Fn Tryz.prog 231 ⟨0,[.I c],[],[],0,.O r,[],[]⟩:=by
 refine Ya func231 rfl (fun E F w=>?_)
 unfold DB at h
 exact oi h▸wr J 11 func231 []
end
section
variable [LxP]
theorem Dr (N:Nat) (c:Int) (d:Int) (r:Int) (h:Rz N c d=some r) :
 Fn Tryz.prog 198 ⟨0,[.I c,.I d],[],[],0,.I r,[],[]⟩:=by
 refine Ya func198 rfl (fun E F w=>?_)
 unfold Rz at h
 refine wO J 7 h fun e f h=>Z6 (Zlg N c _ f) [] [] ?_
 refine wO J 5 h fun g i h=>Z6 (Zlg N d _ i) [] [] ?_
 refine wB J 7 h (fun h=>?_) fun h=>?_
 ·exact wB J 6 h (fun h=>oi h▸wr J 5 func198 []) fun h=>oi h▸wr J 6 func198 []
 refine wB J 7 h (fun h=>oi h▸wr J 5 func198 []) fun h=>?_
 refine wB J 9 h (fun h=>oi h▸wr J 5 func198 []) fun h=>?_
 exact wB J 9 h (fun h=>oi h▸wr J 5 func198 []) fun h=>oi h▸wr J 6 func198 []
end
section
variable [LxP]
theorem Zlc (N:Nat) (c:(List Int)) (r:Int) (h:SN N c=some r) :
 Fn Tryz.prog 197 ⟨1,[.S 0],[(0,.sl (rI .i64) c)],[],1,.I r,[],[]⟩:=by
 refine Ya func197 rfl (fun E F w=>?_)
 unfold SN at h
 refine wa J 15 (Yf (σ:=Unit) (fun st=>(Mr c [(3,.I 0)])) (fun st=>Zfs=some r) ?_ (fun j1=>?_))
 ·intro _ h
  unfold Zfs at h
  exact oi h▸wr J 5 func197 []
 refine wa J 1 (Yn (σ:=Int) (fun st=>(Mr c [(3,.I 0),(6,.S 0),(7,.I (c.length:Int)),(8,.I st)])) (fun n st=>VN c n st) (r:=r) (fun _=>rfl) ?_ (fun ih=>?_))
 ·intro n2 ih3
  intro d h
  unfold VN at h
  refine Z7 J 5 h (fun h=>wa J 2 (Z2 [] (j1 () h))) fun h=>?_
  refine wO J 6 h fun e f h=>Yc J (oI .i64) f ?_
  exact wB J 9 h (fun h=>oi h▸wr J 6 func197 []) fun h=>wa J 7 (Z2 [] (ih3 (Z1 (d+1)) h))
 exact Z2 [] (ih N 0 h)
end
section
variable [LxP]
theorem Zt4 (N:Nat) (c:S9) (d:S9) (r:Int) (h:Db N c d=some r) :
 Fn Tryz.prog 177 ⟨0,[.a (ZcP c),.a (ZcP d)],[],[],0,.I r,[],[]⟩:=by
 refine Ya func177 rfl (fun E F w=>?_)
 unfold Db at h
 refine wB J 15 h (fun h=>?_) fun h=>?_
 ·exact wB J 7 h (fun h=>oi h▸wr J 5 func177 []) fun h=>oi h▸wr J 6 func177 []
 refine wO J 8 h fun e f h=>Z6 (Dr N c.peer' d.peer' _ f) [] [] ?_
 refine wO J 4 h fun g i h=>Z6 (Dr N c.label' d.label' _ i) [] [] (YS J [] (oI .i64) ([e,g]:List Int) ?_)
 have ⟨j,k,h⟩:=ob h
 refine X2 (Zlc N ([e,g]:List Int) _ k) [] [(0,.sl 2)] [2] (.inr ⟨rfl,trivial⟩) (wa J 1 (Yl ?_))
 cases h
 exact YW J func177 []
end
section
variable [LxP]
theorem Zt3 (N:Nat) (c:Int) (d:Int) (e:T8) (r:Int) (h:PR N c d e=some r) :
 Fn Tryz.prog 175 ⟨4,[.I c,.I d,.B 0 0],(YP 1 2 3 e []),[(0,.box (YM 1 2 3 e) 31)],4,.I r,[],[(0,.box (YM 1 2 3 e) 31)]⟩:=by
 refine Ya func175 rfl (fun E F w=>?_)
 unfold PR at h
 refine wO J 9 h fun f g h=>Yc J XM g ?_
 refine wO J 1 h fun i j h=>Z6 (Zbg N f _ j) [] [] ?_
 refine wO J 3 h fun k l h=>Yc J XM l ?_
 refine wO J 1 h fun m o h=>Z6 (Zbg N k _ o) [] [] ?_
 have ⟨p,q,h⟩:=ob h
 refine Z6 (Zt4 N i m _ q) [] [] (wa J 1 (Yl ?_))
 cases h
 exact YW J func175 []
end
theorem Ztt (N:Nat) (c:T8) (r:Xw) (h:GF N c=some r) :
 Fn Tryz.prog 115 ⟨3,[.a (YM 0 1 2 c)],(YP 0 1 2 c []),[],8,.B 3 0,(VJ 4 5 6 7 r []),[(3,.box (WV 4 5 6 7 r) 114)]⟩:=by
 refine Ya func115 rfl (fun E F w=>?_)
 unfold GF at h
 have ⟨us,hus,h⟩:=ob h
 obtain ⟨K,h⟩|⟨K,h⟩:=oc h
 ·cases h
 have hne:us≠[]:=by intro e;rw [e] at K;cases K
 refine wm J (Ur J Zqd hus (wm J (Yl (eGt (rI .i64) 4 hne (fun q=>?_)))))
 refine wm J (Yn (σ:=List Value × List (List Int) × Int) (fun st=>(ZlO c c.ZS c.ZL c.ZM (Xg (rI .i64) w.heap.size q.1 q.2 st.1 st.2.1 none) (UH q.1 q.2 us.length) [(1,.B 3 0),(3,.B 5 0),(15,.S 1),(16,.I (c.ZU.length:Int)),(17,.I st.2.2)]))
  (fun n st=>bif Nat.beq st.2.1.length us.length then Qg N c n st.2.1 st.2.2 else none) (r:=r) (fun st=>by cases Nat.beq st.2.1.length us.length<;>rfl) ?_ (fun ih=>?_))
 ·intro n1 ih1
  rintro ⟨vs,xss,i⟩ h
  have ⟨hl,h⟩:=og h
  replace hl:Nat.beq xss.length us.length=true:=hl
  have hl':=Zd hl
  replace h:Qg N c (n1+1) xss i=some r:=h
  unfold Qg at h
  obtain ⟨K,h⟩|⟨K,h⟩:=HU h
  ·refine wH J 5 K (wm J (eTn (b:=q.1) (p0:=q.2) (len:=us.length) J (wm J (Yn (σ:=List (List Int) × Int) (fun st=>(ZlO c c.ZS c.ZL c.ZM (Xg (rI .i64) w.heap.size q.1 q.2 vs st.1 none) (UH q.1 q.2 us.length) [(1,.B 3 0),(3,.B 5 0),(44,.S 4),(45,.I (us.length:Int)),(46,.I st.2)]))
    (fun n st=>bif Nat.beq st.1.length us.length then SB N c n st.1 st.2 else none) (r:=r) (fun st=>by cases Nat.beq st.1.length us.length<;>rfl) ?_ (fun ih=>?_)))))
   ·intro n2 ih2
    rintro ⟨yss,j⟩ h
    have ⟨hl,h⟩:=og h
    replace hl:Nat.beq yss.length us.length=true:=hl
    have hl':=Zd hl
    replace h:SB N c (n2+1) yss j=some r:=h
    unfold SB at h
    rw [hl'] at h
    obtain ⟨K,h⟩|⟨K,h⟩:=HU h
    ·cases h
     exact wH J 5 K (eGf (R:=rI .i64) (b:=q.1) (p0:=q.2) (vs:=vs) 4 hl' (wm J (YW J func115 [(3,.bp 5 0),(4,.sl 0),(5,.sl 1),(6,.sl 2),(7,.sl 4)])))
    have ⟨xs,hxs,h⟩:=ob h
    have ⟨hk,h⟩:=og h
    unfold HP at hk
    rw [Zc,Zc,decide_eq_true_eq] at hk
    have ⟨k1,k2,k3⟩:=hk
    have ⟨j1,j2,j3⟩:=Q7 hxs
    have hn:(decide (0<=j) && decide (j < (us.length:Int)))=true:=by rw [hl'] at j2;simp [j1,j2]
    refine wH J 5 K (eGk (R:=rI .i64) (b:=q.1) (p0:=q.2) (vs:=vs) 4 j3 (wm J (eTx (b:=q.1) (p0:=q.2) (len:=us.length) J hn (eTl (R:=rI .i64) (n1:=w.heap.size) (b:=q.1) (p0:=q.2) (vs:=vs) (xss:=yss) (h:=some j.toNat) 4 6 j.toNat J (wm J (eSr (q:=6) Zsh k3 (Zks k2) (cf:=WK N c) ⟨Tryz.f175,func175,rfl,rfl⟩ (fun a b ha hb=>@Zt3 Mv N a b c (WK N c a b) ?_) [(0,.bp 3 0),(1,.sl 0),(2,.sl 1),(3,.sl 2)] (eGp (R:=rI .i64) (b:=q.1) (p0:=q.2) (vs:=vs) (xss:=yss) (j:=j.toNat) (xs:=WR (WK N c) xs) 4 6 (wm J (Z2 [] (ih2 (yss.set j.toNat (WR (WK N c) xs),(Z1 (j+1))) ?_))))))))))
    ·have:=List.all_eq_true.1 (List.all_eq_true.1 k1 a ha) b hb
     have ⟨z,hz⟩:=Option.isSome_iff_exists.1 this
     unfold WK
     rw [hz];rfl
    ·show (bif Nat.beq (yss.set j.toNat _).length us.length then _ else none)=some r
     rw [List.length_set,hl]
     exact h
   ·refine Z2 [] (ih N (xss,0) ?_)
    show (bif Nat.beq xss.length us.length then _ else none)=some r
    rw [hl];exact h
  refine wH J 5 K ?_
  have ⟨x,hx,h⟩:=ob h
  have ⟨xs,hxs,h⟩:=ob h
  have ⟨ys,hys,h⟩:=ob h
  have ⟨j1,j2,j3⟩:=Q7 hxs
  have hn:(decide (0<=x.ZC) && decide (x.ZC < (us.length:Int)))=true:=by rw [hl'] at j2;simp [j1,j2]
  have hj:Nat.blt x.ZC.toNat xss.length=true:=Nat.ble_eq_true_of_le (by omega)
  refine wm J (Yc J XM hx (eGk (R:=rI .i64) (b:=q.1) (p0:=q.2) (vs:=vs) 4 j3 (wm J (eTx (b:=q.1) (p0:=q.2) (len:=us.length) J hn (eTl (R:=rI .i64) (n1:=w.heap.size) (b:=q.1) (p0:=q.2) (vs:=vs) (xss:=xss) (h:=some x.ZC.toNat) 4 7 x.ZC.toNat J (wm J (YS J [] (oI .i64) ([i]:List Int) (Xc J (rI .i64) hys (eTx (b:=q.1) (p0:=q.2) (len:=us.length) J hn (eTt (eTs (R:=rI .i64) (b:=q.1) (p0:=q.2) (vs:=vs) (xss:=xss) (xs:=ys) 4 10 x.ZC.toNat J hj (fun v=>wm J (Z2 [] (ih1 (vs.set x.ZC.toNat v,xss.set x.ZC.toNat ys,(Z1 (i+1))) ?_))))))))))))))
  show (bif Nat.beq (xss.set x.ZC.toNat ys).length us.length then _ else none)=some r
  rw [List.length_set,hl]
  exact h
 refine Z2 [] (ih N (List.replicate us.length (.slice none 0 0),List.replicate us.length [],0) ?_)
 show (bif Nat.beq (List.replicate us.length []).length us.length then _ else none)=some r
 rw [List.length_replicate,Nat.beq_refl]
 exact h
theorem Ztu (N:Nat) (c:Xw) (r:Bool) (h:Lm N c=some r) :
 Fn Tryz.prog 116 ⟨5,[.B 0 0],(VJ 1 2 3 4 c []),[(0,.box (WV 1 2 3 4 c) 114)],5,.O r,[],[(0,.box (WV 1 2 3 4 c) 114)]⟩:=by
 refine Ya func116 rfl (fun E F w=>?_)
 unfold Lm at h
 refine wa J 14 (Yf (σ:=Unit) (fun st=>(Hr c [])) (fun st=>ZeS=some r) ?_ (fun j1=>?_))
 ·intro _ h
  unfold ZeS at h
  exact oi h▸wr J 4 func116 []
 refine wa J 1 (Yn (σ:=Int) (fun st=>(Hr c [(0,.B 0 0),(11,.S 4),(12,.I (c.out'.length:Int)),(13,.I st)])) (fun n st=>Vv N c n st) (r:=r) (fun _=>rfl) ?_ (fun ih=>?_))
 ·intro n12 ih12
  intro d h
  unfold Vv at h
  refine Z7 J 5 h (fun h=>wa J 2 (Z2 [] (j1 () h))) fun h=>?_
  refine wO J 6 h fun e f h=>Yc J (WX (rI .i64)) f (wa J 7 (Yf (σ:=Unit) (fun st=>⟨[(0,.B 0 0),(11,.S 4),(12,.I (c.out'.length:Int)),(13,.I d)],[(0,.box (WV 1 2 3 4 c) 114)],(VJ 1 2 3 4 c []),7⟩) (fun st=>PD d (Vv N c n12)=some r) ?_ (fun j19=>?_)))
  ·intro _ h
   unfold PD at h
   exact wa J 5 (Z2 [] (ih12 (Z1 (d+1)) h))
  refine wa J 1 (Yn (σ:=Int) (fun st=>⟨[(0,.B 0 0),(4,.S 6),(5,.I st),(11,.S 4),(12,.I (c.out'.length:Int)),(13,.I d)],[(0,.box (WV 1 2 3 4 c) 114)],(VJ 1 2 3 4 c [(6,.sl (rI .i64) e)]),7⟩) (fun n st=>SD N c d (Vv N c n12) e n st) (r:=r) (fun _=>rfl) ?_ (fun ih=>?_))
  ·intro n14 ih21
   intro g h
   unfold SD at h
   refine Z7 J 8 h (fun h=>wa J 2 (Z2 [] (j19 () h))) fun h=>?_
   refine wO J 14 h fun i j h=>Yc J (oI .i64) j ?_
   refine wO J 1 h fun k l h=>Yc J XM l ?_
   refine wO J 8 h fun m o h=>Yc J (oI .i64) o ?_
   refine wO J 1 h fun p q h=>Yc J XM q (wa J 5 (Yl ?_))
   refine wO J 3 h fun s t h=>Z6 (Zbg N k _ t) [] [] ?_
   refine wO J 1 h fun u v h=>Z6 (Zbg N p _ v) [] [] (RT ?_)
   refine wB J 1 h (fun h=>wa J 6 (Yl (oi h▸wr J 5 func116 []))) fun h=>wa J 6 (Yl ?_)
   exact eB h (fun h=>oi h▸wr J 5 func116 []) fun h=>wa J 8 (Z2 [] (ih21 (Z1 (g+1)) h))
  exact Z2 [] (ih N 1 h)
 exact Z2 [] (ih N 0 h)
theorem Ztv (N:Nat) (c:Xw) (r:Bool) (h:PE N c=some r) :
 Fn Tryz.prog 117 ⟨5,[.B 0 0],(VJ 1 2 3 4 c []),[(0,.box (WV 1 2 3 4 c) 114)],5,.O r,[],[(0,.box (WV 1 2 3 4 c) 114)]⟩:=by
 refine Ya func117 rfl (fun E F w=>?_)
 unfold PE at h
 refine wO J 11 h fun d e h=>Ur J oB e ?_
 refine wO J 10 h fun f g h=>YB J rB g (XS J [] oB true g (wa J 8 (YS J [] (oI .i64) ([c.ZY.ZM]:List Int) (wa J 7 (Yf (σ:=(List Int)) (fun st=>⟨[(0,.B 0 0),(4,.S 8)],[(0,.box (WV 1 2 3 4 c) 114),(8,.own (rI .i64) st true)],(VJ 1 2 3 4 c []),9⟩) (fun st=>ZeT c st=some r) ?_ (fun j1=>?_))))))
 ·intro i h
  unfold ZeT at h
  exact oi h▸wr J 12 func117 []
 refine wa J 1 (Yn (σ:=(List Bool) × (List Int) × Int) (fun st=>⟨[(0,.B 0 0),(3,.S 5),(4,.S 8),(5,.I st.2.2)],[(0,.box (WV 1 2 3 4 c) 114),(5,.own rB st.1 true),(8,.own (rI .i64) st.2.1 true)],(VJ 1 2 3 4 c []),9⟩) (fun n st=>Ui N c n st.1 st.2.1 st.2.2) (r:=r) (fun _=>rfl) ?_ (fun ih=>?_))
 ·intro n12 ih12
  rintro ⟨j,k,l⟩ h
  unfold Ui at h
  refine Z7 J 8 h (fun h=>wa J 2 (Z2 [] (j1 k h))) fun h=>?_
  refine wO J 12 h fun m o h=>YB J (rI .i64) o (Y1 J (oI .i64) o ?_)
  have ⟨p,q,h⟩:=ob h
  refine Yc J (WX (rI .i64)) q (wa J 3 (Yl (Yf (σ:=(List Bool) × (List Int)) (fun st=>⟨[(0,.B 0 0),(3,.S 5),(4,.S 12),(5,.I l)],[(0,.box (WV 1 2 3 4 c) 114),(5,.own rB st.1 true),(12,.own (rI .i64) st.2 true)],(VJ 1 2 3 4 c []),13⟩) (fun st=>ZeU l (Ui N c n12) st.1 st.2=some r) ?_ (fun j19=>?_))))
  ·rintro ⟨s,t⟩ h
   unfold ZeU at h
   exact wa J 6 (Z2 [(8,.sl 12)] (ih12 (s,t,(Z1 (l+1))) h))
  refine wa J 1 (Yn (σ:=(List Bool) × (List Int) × Int) (fun st=>⟨[(0,.B 0 0),(3,.S 5),(4,.S 12),(5,.I l),(43,.S 11),(44,.I (p.length:Int)),(45,.I st.2.2)],[(0,.box (WV 1 2 3 4 c) 114),(5,.own rB st.1 true),(12,.own (rI .i64) st.2.1 true)],(VJ 1 2 3 4 c [(11,.sl (rI .i64) p)]),13⟩) (fun n st=>TT c l (Ui N c n12) p n st.1 st.2.1 st.2.2) (r:=r) (fun _=>rfl) ?_ (fun ih=>?_))
  ·intro n14 ih21
   rintro ⟨u,v,x⟩ h
   unfold TT at h
   refine Z7 J 5 h (fun h=>wa J 2 (Z2 [] (j19 (u,v) h))) fun h=>?_
   refine wO J 6 h fun y z h=>Yc J (oI .i64) z ?_
   refine wO J 11 h fun A C h=>Yc J XM C ?_
   refine wO J 8 h fun D G h=>YB J rB G (Y1 J oB G ?_)
   refine Z7 J 2 h (fun h=>wa J 7 (Z2 [] (ih21 (u,v,(Z1 (x+1))) h))) fun h=>?_
   refine wO J 5 h fun H R h=>YB J rB R (XS J [] oB true R (wa J 4 (YS J [] (oI .i64) ([A.To]:List Int) ?_)))
   have ⟨T,U,h⟩:=ob h
   exact Xc J (rI .i64) U (wa J 7 (Z2 [(12,.sl 18)] (ih21 ((YA u A.To true),T,(Z1 (x+1))) h)))
  exact Z2 [(12,.sl 8)] (ih N (j,k,0) h)
 exact Z2 [(8,.sl 7)] (ih N ((YA d c.ZY.ZM true),([c.ZY.ZM]:List Int),0) h)
theorem Ztw (N:Nat) (c:Xw) (r:Bool) (h:Ln N c=some r) :
 Fn Tryz.prog 118 ⟨5,[.B 0 0],(VJ 1 2 3 4 c []),[(0,.box (WV 1 2 3 4 c) 114)],5,.O r,[],[(0,.box (WV 1 2 3 4 c) 114)]⟩:=by
 refine Ya func118 rfl (fun E F w=>?_)
 unfold Ln at h
 refine wa J 15 (Yf (σ:=Unit) (fun st=>(Hr c [])) (fun st=>ZeV=some r) ?_ (fun j1=>?_))
 ·intro _ h
  unfold ZeV at h
  exact oi h▸wr J 4 func118 []
 refine wa J 1 (Yn (σ:=Int) (fun st=>(Hr c [(0,.B 0 0),(11,.S 2),(12,.I (c.ZY.ZU.length:Int)),(13,.I st)])) (fun n st=>VL N c n st) (r:=r) (fun _=>rfl) ?_ (fun ih=>?_))
 ·intro n12 ih12
  intro d h
  unfold VL at h
  refine Z7 J 5 h (fun h=>wa J 2 (Z2 [] (j1 () h))) fun h=>?_
  refine wO J 6 h fun e f h=>Yc J XM f ?_
  refine wB J 11 h (fun h=>wa J 6 (Z2 [] (ih12 (Z1 (d+1)) h))) fun h=>?_
  refine wB J 9 h (fun h=>wa J 32 (Yl (oi h▸wr J 5 func118 []))) fun h=>?_
  refine wO J 6 h fun g i h=>Yc J (WX (rI .i64)) i ?_
  refine wB J 5 h (fun h=>wa J 20 (Yl (oi h▸wr J 5 func118 []))) fun h=>?_
  refine wB J 10 h (fun h=>wa J 10 (Yl (oi h▸wr J 5 func118 []))) fun h=>?_
  refine wO J 7 h fun j k h=>Yc J oB k (wa J 2 (Yl ?_))
  refine eB h (fun h=>oi h▸wr J 5 func118 []) fun h=>wa J 12 (Yf (σ:=Unit) (fun st=>⟨[(0,.B 0 0),(11,.S 2),(12,.I (c.ZY.ZU.length:Int)),(13,.I d)],[(0,.box (WV 1 2 3 4 c) 114)],(VJ 1 2 3 4 c []),10⟩) (fun st=>Lp d (VL N c n12)=some r) ?_ (fun j19=>?_))
  ·intro _ h
   unfold Lp at h
   exact wa J 5 (Z2 [] (ih12 (Z1 (d+1)) h))
  refine wa J 1 (Yn (σ:=Int) (fun st=>⟨[(0,.B 0 0),(4,.B 6 0),(11,.S 2),(12,.I (c.ZY.ZU.length:Int)),(13,.I d),(60,.S 2),(61,.I (c.ZY.ZU.length:Int)),(62,.I st)],[(0,.box (WV 1 2 3 4 c) 114),(6,.box (TG e) 65)],(VJ 1 2 3 4 c []),10⟩) (fun n st=>TU c d (VL N c n12) e n st) (r:=r) (fun _=>rfl) ?_ (fun ih=>?_))
  ·intro n14 ih21
   intro l h
   unfold TU at h
   refine Z7 J 5 h (fun h=>wa J 2 (Z2 [] (j19 () h))) fun h=>?_
   refine wO J 6 h fun m o h=>Yc J XM o ?_
   refine Z7 J 12 h (fun h=>wa J 19 (Z2 [] (ih21 (Z1 (l+1)) h))) fun h=>?_
   refine wB J 4 h (fun h=>oi h▸wr J 13 func118 []) fun h=>?_
   exact wB J 8 h (fun h=>oi h▸wr J 5 func118 []) fun h=>wa J 7 (Z2 [] (ih21 (Z1 (l+1)) h))
  exact Z2 [] (ih N 0 h)
 exact Z2 [] (ih N 0 h)
theorem Ztx (N:Nat) (c:Xw) (r:Bool) (h:Lq N c=some r) :
 Fn Tryz.prog 119 ⟨5,[.B 0 0],(VJ 1 2 3 4 c []),[(0,.box (WV 1 2 3 4 c) 114)],5,.O r,[],[(0,.box (WV 1 2 3 4 c) 114)]⟩:=by
 refine Ya func119 rfl (fun E F w=>?_)
 unfold Lq at h
 refine wa J 15 (Yf (σ:=Unit) (fun st=>(Hr c [])) (fun st=>ZeW=some r) ?_ (fun j1=>?_))
 ·intro _ h
  unfold ZeW at h
  exact oi h▸wr J 4 func119 []
 refine wa J 1 (Yn (σ:=Int) (fun st=>(Hr c [(0,.B 0 0),(10,.S 3),(11,.I (c.ZY.ZP.length:Int)),(12,.I st)])) (fun n st=>XP c n st) (r:=r) (fun _=>rfl) ?_ (fun ih=>?_))
 ·intro n2 ih6
  intro d h
  unfold XP at h
  refine Z7 J 5 h (fun h=>wa J 2 (Z2 [] (j1 () h))) fun h=>?_
  refine wO J 7 h fun e f h=>Yc J Rn f ?_
  refine wa J 11 (Yf (σ:=Bool) (fun st=>⟨[(0,.B 0 0),(4,.B 6 0),(10,.S 3),(11,.I (c.ZY.ZP.length:Int)),(12,.I d),(59,.O st)],[(0,.box (WV 1 2 3 4 c) 114),(6,.box (Bj e) 152)],(VJ 1 2 3 4 c []),7⟩) (fun st=>Wy c d (XP c n2) e st=some r) ?_ (fun j9=>?_))
  ·intro g h
   unfold Wy at h
   refine eB h (fun h=>oi h▸wr J 5 func119 []) fun h=>?_
   refine wO J 11 h fun i j h=>Yc J XM j (wa J 3 (Yl ?_))
   refine wB J 8 h (fun h=>oi h▸wr J 14 func119 []) fun h=>?_
   refine wB J 5 h (fun h=>oi h▸wr J 9 func119 []) fun h=>?_
   exact wB J 4 h (fun h=>oi h▸wr J 5 func119 []) fun h=>wa J 7 (Z2 [] (ih6 (Z1 (d+1)) h))
  refine Ub h (fun h=>?_) fun h=>?_
  ·refine wB J 20 h (fun h=>wa J 20 (Yl (Z2 [] (j9 true h)))) fun h=>?_
   refine wB J 5 h (fun h=>wa J 15 (Yl (Z2 [] (j9 true h)))) fun h=>?_
   exact wB J 5 h (fun h=>wa J 10 (Yl (Z2 [] (j9 true h)))) fun h=>wa J 10 (Yl (Z2 [] (j9 (decide (e.ZH>=(c.ZY.ZU.length:Int))) h)))
  refine wO J 7 h fun k l h=>Yc J Rn l ?_
  refine wB J 7 h (fun h=>wa J 25 (Yl (Z2 [] (j9 true h)))) fun h=>?_
  refine wB J 5 h (fun h=>wa J 20 (Yl (Z2 [] (j9 true h)))) fun h=>?_
  refine wB J 5 h (fun h=>wa J 15 (Yl (Z2 [] (j9 true h)))) fun h=>?_
  exact wB J 5 h (fun h=>wa J 10 (Yl (Z2 [] (j9 true h)))) fun h=>wa J 10 (Yl (Z2 [] (j9 (decide (e.ZH>=(c.ZY.ZU.length:Int))) h)))
 exact Z2 [] (ih N 0 h)
theorem Zlz (N:Nat) (c:T8) (r:(Option Xw) × Bool) (h:z53 N c=some r) :
 Fn Tryz.prog 53 ⟨3,[.a (YM 0 1 2 c)],(YP 0 1 2 c []),[],8,(Pk r.1 (.t [.inl (.v (.pointer none)),.inl (.b r.2)]) fun q=>.t [.inl (.bp 3 0),.inl (.b r.2)]),(Pk r.1 [] fun q=>(VJ 4 5 6 7 q [])),(Pk r.1 [] fun q=>[(3,.box (WV 4 5 6 7 q) 114)])⟩:=by
 refine Ya func53 rfl (fun E F w=>?_)
 unfold z53 at h
 refine wO J 10 h fun d e h=>Z6 (Zts N c _ e) [] [(0,.sl 0),(1,.sl 1),(2,.sl 2)] ?_
 refine wB J 2 h (fun h=>oi h▸wr J 6 func53 []) fun h=>?_
 refine wO J 5 h fun f g h=>Z6 (Ztt N c _ g) [] [(0,.sl 0),(1,.sl 1),(2,.sl 2)] ?_
 refine wO J 6 h fun i j h=>Z6 (Ztu N f _ j) [] [(0,.bp 4 0),(1,.sl 5),(2,.sl 6),(3,.sl 7),(4,.sl 8)] ?_
 refine Z7 J 1 h (fun h=>oi h▸wr J 14 func53 [(3,.bp 4 0),(4,.sl 5),(5,.sl 6),(6,.sl 7),(7,.sl 8)]) fun h=>?_
 refine wO J 1 h fun k l h=>Z6 (Ztv N f _ l) [] [(0,.bp 4 0),(1,.sl 5),(2,.sl 6),(3,.sl 7),(4,.sl 8)] ?_
 refine Z7 J 2 h (fun h=>oi h▸wr J 10 func53 [(3,.bp 4 0),(4,.sl 5),(5,.sl 6),(6,.sl 7),(7,.sl 8)]) fun h=>?_
 refine wO J 1 h fun m o h=>Z6 (Ztw N f _ o) [] [(0,.bp 4 0),(1,.sl 5),(2,.sl 6),(3,.sl 7),(4,.sl 8)] ?_
 refine Z7 J 2 h (fun h=>oi h▸wr J 6 func53 [(3,.bp 4 0),(4,.sl 5),(5,.sl 6),(6,.sl 7),(7,.sl 8)]) fun h=>?_
 refine wO J 1 h fun p s h=>Z6 (Ztx N f _ s) [] [(0,.bp 4 0),(1,.sl 5),(2,.sl 6),(3,.sl 7),(4,.sl 8)] ?_
 exact oi h▸wr J 4 func53 [(3,.bp 4 0),(4,.sl 5),(5,.sl 6),(6,.sl 7),(7,.sl 8)]
theorem ZiN (N:Nat) (c:T8) (r:(Option Xw) × Bool) (h:z53 N c=some r) (ho:r.1=none):Fn Tryz.prog 53 ⟨3,[.a (YM 0 1 2 c)],(YP 0 1 2 c []),[],8,.t [.inl (.v (.pointer none)),.inl (.b r.2)],[],[]⟩:=by
 have hf:=Zlz N c r h
 rw [ho] at hf
 exact hf
theorem ZiO (N:Nat) (c:T8) (r:(Option Xw) × Bool) (h:z53 N c=some r) (q:Xw) (ho:r.1=some q):Fn Tryz.prog 53 ⟨3,[.a (YM 0 1 2 c)],(YP 0 1 2 c []),[],8,.t [.inl (.bp 3 0),.inl (.b r.2)],(VJ 4 5 6 7 q []),[(3,.box (WV 4 5 6 7 q) 114)]⟩:=by
 have hf:=Zlz N c r h
 rw [ho] at hf
 exact hf
theorem ZlH (N:Nat) (c:T8) (r:Bool) (h:RJ N c=some r) :
 Fn Tryz.prog 98 ⟨3,[.a (YM 0 1 2 c)],(YP 0 1 2 c []),[],3,.O r,[],[]⟩:=by
 refine Ya func98 rfl (fun E F w=>?_)
 unfold RJ at h
 have ⟨d,e,h⟩:=ob h
 rcases oO h with ⟨ox1,h⟩ | ⟨q2,ox1,h⟩
 ·refine wa J 8 (Z6 (ZiN N c _ e ox1) [] [(0,.sl 0),(1,.sl 1),(2,.sl 2)] ?_)
  exact oi h▸wr J 11 func98 []
 refine wa J 8 (Z6 (ZiO N c _ e q2 ox1) [] [(0,.sl 0),(1,.sl 1),(2,.sl 2)] ?_)
 exact oi h▸wr J 11 func98 []
theorem ZvM (N:Nat) (c:T9) (d:T5) (r:Bool) (h:Mp N c d=some r) :
 Fn Tryz.prog 96 ⟨5,[.a (TG c),.B 0 0],(Xk 1 2 3 4 d []),[(0,.box (YH 1 2 3 4 d) 27)],5,.O r,[],[(0,.box (YH 1 2 3 4 d) 27)]⟩:=by
 refine Ya func96 rfl (fun E F w=>?_)
 unfold Mp at h
 exact wB J 14 h (fun h=>oi h▸wr J 9 func96 []) fun h=>oi h▸wr J 9 func96 []
theorem ZvA (N:Nat) (d:(List T9)) (e:T5) (r:Int) (h:DZ N d e=some r) :
 Fn Tryz.prog 82 ⟨6,[.S 0,.c (.cl 96 [] [1])],((0,.sl Wh d)::Xk 2 3 4 5 e []),[(1,.box (YH 2 3 4 5 e) 27)],6,.I r,[],[(1,.box (YH 2 3 4 5 e) 27)]⟩:=by
 refine Ya func82 rfl (fun E F w=>?_)
 unfold DZ at h
 refine wa J 11 (Yf (σ:=Unit) (fun st=>⟨[],[(1,.box (YH 2 3 4 5 e) 27)],((0,.sl Wh d)::Xk 2 3 4 5 e []),6⟩) (fun st=>Zgk=some r) ?_ (fun j1=>?_))
 ·intro _ h
  unfold Zgk at h
  exact oi h▸wr J 4 func82 []
 refine wa J 1 (Yn (σ:=Int) (fun st=>⟨[(0,.S 0),(1,.c (.cl 96 [] [1])),(7,.I (d.length:Int)),(8,.I st)],[(1,.box (YH 2 3 4 5 e) 27)],((0,.sl Wh d)::Xk 2 3 4 5 e []),6⟩) (fun n st=>S5 N d e n st) (r:=r) (fun _=>rfl) ?_ (fun ih=>?_))
 ·intro n2 ih3
  intro f h
  unfold S5 at h
  refine Z7 J 5 h (fun h=>wa J 2 (Z2 [] (j1 () h))) fun h=>?_
  refine wO J 14 h fun g i h=>Yc J XM i ?_
  refine wO J 1 h fun j k h=>Z6 (ZvM N g e _ k) [] [(0,.bp 1 0),(1,.sl 2),(2,.sl 3),(3,.sl 4),(4,.sl 5)] ?_
  exact wB J 1 h (fun h=>oi h▸wr J 6 func82 []) fun h=>wa J 7 (Z2 [] (ih3 (Z1 (f+1)) h))
 exact Z2 [] (ih N 0 h)
theorem ZvO (N:Nat) (d:(List T9)) (e:T5) (r:Bool) (h:D2 N d e=some r) :
 Fn Tryz.prog 99 ⟨6,[.S 0,.c (.cl 96 [] [1])],((0,.sl Wh d)::Xk 2 3 4 5 e []),[(1,.box (YH 2 3 4 5 e) 27)],6,.O r,[],[(1,.box (YH 2 3 4 5 e) 27)]⟩:=by
 refine Ya func99 rfl (fun E F w=>?_)
 unfold D2 at h
 refine wO J 8 h fun f g h=>Z6 (ZvA N d e _ g) [] [(0,.sl 0),(1,.bp 1 0),(2,.sl 2),(3,.sl 3),(4,.sl 4),(5,.sl 5)] ?_
 exact oi h▸wr J 3 func99 []
theorem Zlw (N:Nat) (c:T5) (d:T8) (r:Bool) (h:UR N c d=some r) :
 Fn Tryz.prog 40 ⟨7,[.a (YH 0 1 2 3 c),.a (YM 4 5 6 d)],((0,.sl rS c.ZI)::(1,.sl Ys c.ZJ)::(2,.sl Xb c.ZO)::(3,.sl YN c.ZP)::YP 4 5 6 d []),[],7,.O r,[],[]⟩:=by
 refine Ya func40 rfl (fun E F w=>?_)
 unfold UR at h
 refine wO J 14 h fun e f h=>Z6 (ZvN N c _ f) [] [(0,.sl 0),(1,.sl 1),(2,.sl 2),(3,.sl 3)] ?_
 refine Z7 J 1 h (fun h=>oi h▸wr J 20 func40 []) fun h=>?_
 refine wO J 1 h fun g i h=>Z6 (ZlH N d _ i) [] [(0,.sl 4),(1,.sl 5),(2,.sl 6)] ?_
 refine Z7 J 2 h (fun h=>oi h▸wr J 16 func40 []) fun h=>?_
 refine Z7 J 8 h (fun h=>oi h▸wr J 8 func40 []) fun h=>?_
 refine wO J 3 h fun j k h=>Z6 (ZvO N d.ZU c _ k) [] [(0,.sl 5),(1,.bp 7 0),(2,.sl 0),(3,.sl 1),(4,.sl 2),(5,.sl 3)] ?_
 exact oi h▸wr J 4 func40 []
theorem Zlx (N:Nat) (c:T5) (r:(List T4)) (h:DM N c=some r) :
 Fn Tryz.prog 41 ⟨4,[.a (YH 0 1 2 3 c)],(Xk 0 1 2 3 c []),[],5,.S 4,[],[(4,.own XN r true)]⟩:=by
 refine Ya func41 rfl (fun E F w=>?_)
 unfold DM at h
 refine wa J 17 (Yf (σ:=(List T4)) (fun st=>⟨[(3,.S 5)],[(5,.own XN st true)],(Xk 0 1 2 3 c []),6⟩) (fun st=>Zb4 st=some r) ?_ (fun j1=>?_))
 ·intro d h
  unfold Zb4 at h
  exact oi h▸wr J 5 func41 [(4,.sl 5)]
 refine wa J 1 (Yn (σ:=(List T4) × Int) (fun st=>⟨[(3,.S 5),(7,.S 1),(8,.I (c.ZJ.length:Int)),(9,.I st.2)],[(5,.own XN st.1 true)],(Xk 0 1 2 3 c []),6⟩) (fun n st=>P9 c n st.1 st.2) (r:=r) (fun _=>rfl) ?_ (fun ih=>?_))
 ·intro n2 ih3
  rintro ⟨e,f⟩ h
  unfold P9 at h
  refine Z7 J 5 h (fun h=>wa J 2 (Z2 [] (j1 e h))) fun h=>?_
  refine wO J 6 h fun g i h=>Yc J Xu i ?_
  exact wO J 8 h fun j k h=>Xc J XN k (wa J 7 (Z2 [(5,.sl 11)] (ih3 (j,(Z1 (f+1))) h)))
 exact Z2 [(5,.nil)] (ih N (([]:List T4),0) h)
theorem Ze2 (N:Nat) (c:T5) (d:T8) (r:Yt) (h:Ql N c d=some r) :
 Fn Tryz.prog 13 ⟨7,[.a (YH 0 1 2 3 c),.a (YM 4 5 6 d)],((0,.sl rS c.ZI)::(1,.sl Ys c.ZJ)::(2,.sl Xb c.ZO)::(3,.sl YN c.ZP)::YP 4 5 6 d []),[],9,.a (X8 7 8 r),(Wm 7 8 r []),[]⟩:=by
 refine Ya func13 rfl (fun E F w=>?_)
 unfold Ql at h
 refine wO J 11 h fun e f h=>Z6 (Zlw N c d _ f) [] [(0,.sl 0),(1,.sl 1),(2,.sl 2),(3,.sl 3),(4,.sl 4),(5,.sl 5),(6,.sl 6)] ?_
 refine wB J 2 h (fun h=>oi h▸wr J 6 func13 [(7,.nil),(8,.nil)]) fun h=>?_
 refine wO J 7 h fun g i h=>Z6 (Zlx N c _ i) [] [(0,.sl 0),(1,.sl 1),(2,.sl 2),(3,.sl 3)] ?_
 refine wO J 1 h fun j k h=>Ur J YR k (wa J 2 (Yl (Uq [11] ?_)))
 cases h
 exact YW J func13 [(7,.sl 11),(8,.nil)]
theorem ZkP (N:Nat) (c:T12) (r:Int) (h:Lk N c=some r) :
 Fn Tryz.prog 111 ⟨0,[.a (W5 c)],[],[],0,.I r,[],[]⟩:=by
 refine Ya func111 rfl (fun E F w=>?_)
 unfold Lk at h
 refine wB J 17 h (fun h=>oi h▸wr J 7 func111 []) fun h=>?_
 exact wB J 6 h (fun h=>oi h▸wr J 8 func111 []) fun h=>oi h▸wr J 7 func111 []
theorem Ztr (N:Nat) (c:YV) (r:Bool) (h:GB N c=some r) :
 Fn Tryz.prog 112 ⟨0,[.a (TF c)],[],[],0,.O r,[],[]⟩:=by
 refine Ya func112 rfl (fun E F w=>?_)
 unfold GB at h
 refine wa J 22 (Yf (σ:=Int × Int) (fun st=>⟨[(1,.B 0 0),(3,.I st.1),(4,.I st.2)],[(0,.box (TF c) 50)],[],1⟩) (fun st=>GC c st.1 st.2=some r) ?_ (fun j1=>?_))
 ·rintro ⟨d,e⟩ h
  unfold GC at h
  refine Z7 J 8 h (fun h=>oi h▸wr J 14 func112 []) fun h=>?_
  exact wB J 7 h (fun h=>oi h▸wr J 7 func112 []) fun h=>oi h▸wr J 7 func112 []
 refine eB h (fun h=>wa J 5 (Z2 [] (j1 ((-1000),1000) h))) fun h=>?_
 exact wB J 6 h (fun h=>wa J 5 (Z2 [] (j1 (0,40) h))) fun h=>oi h▸wr J 5 func112 []
theorem ZuD (N:Nat) (d:Int) (r:Bool) (h:Zby N d=some r) :
 Fn Tryz.prog 219 ⟨0,[.c (.i .i32 d)],[],[],0,.O r,[],[]⟩:=by
 refine Ya func219 rfl (fun E F w=>?_)
 unfold Zby at h
 exact wB J 9 h (fun h=>oi h▸wr J 5 func219 []) fun h=>oi h▸wr J 5 func219 []
theorem ZuU (N:Nat) (d:ByteArray) (e:Bool) (r:Int) (h:ZbP N d e=some r) :
 Fn Tryz.prog 258 ⟨0,[.c (.s d),.c (.cl 219 [] []),.O e],[],[],0,.I r,[],[]⟩:=by
 refine Ya func258 rfl (fun E F w=>?_)
 unfold ZbP at h
 refine wa J 8 (eRn J (fun bk1=>wa J 1 (Yf (σ:=Nat) (fun st=>(Hq (VW bk1 d st) [])) (fun st=>ZfI st=some r) ?_ (fun j1=>?_))))
 ·intro vi0_1 h
  unfold ZfI at h
  exact oi h▸wr J 4 func258 []
 refine wa J 1 (Yn (σ:=Nat) (fun st=>(Hq (VW bk1 d st) [(1,.c (.cl 219 [] [])),(2,.O e),(10,.c (.v (.pointer (some ⟨bk1,0,none⟩))))])) (fun n st=>P7 N d e n st) (r:=r) (fun _=>rfl) ?_ (fun ih=>?_))
 ·intro n2 ih3
  intro vi0_3 h
  unfold P7 at h
  obtain ⟨K,h⟩|⟨K,h⟩:=HU h
  ·exact wa J 2 (eNf bk1 0 K (wa J 5 (Z2 [] (j1 vi0_3 h))))
  refine wa J 2 (eNt bk1 0 K ?_)
  refine wO J 17 h fun f g h=>Z6 (ZuD N ((Utf8.decode d vi0_3).1:Int) _ g) [] [] ?_
  exact wB J 3 h (fun h=>oi h▸wr J 6 func258 []) fun h=>wa J 3 (Z2 [] (ih3 (vi0_3+(Utf8.decode d vi0_3).2) h))
 exact Z2 [] (ih N (0:Nat) h)
theorem ZuK (N:Nat) (d:ByteArray) (r:Int) (h:ZbG N d=some r) :
 Fn Tryz.prog 228 ⟨0,[.c (.s d),.c (.cl 219 [] [])],[],[],0,.I r,[],[]⟩:=by
 refine Ya func228 rfl (fun E F w=>?_)
 unfold ZbG at h
 refine wO J 8 h fun e f h=>Z6 (ZuU N d true _ f) [] [] ?_
 exact oi h▸wr J 2 func228 []
theorem Zud (N:Nat) (d:ByteArray) (r:Bool) (h:Dj N d=some r) :
 Fn Tryz.prog 186 ⟨0,[.c (.s d),.c (.cl 219 [] [])],[],[],0,.O r,[],[]⟩:=by
 refine Ya func186 rfl (fun E F w=>?_)
 unfold Dj at h
 refine wO J 8 h fun e f h=>Z6 (ZuK N d _ f) [] [] ?_
 exact oi h▸wr J 3 func186 []
theorem Zt2 (N:Nat) (d:ByteArray) (r:Bool) (h:Zbf N d=some r) :
 Fn Tryz.prog 172 ⟨0,[.c (.s d)],[],[],0,.O r,[],[]⟩:=by
 refine Ya func172 rfl (fun E F w=>?_)
 unfold Zbf at h
 refine wO J 7 h fun e f h=>Z6 (Zud N d _ f) [] [] ?_
 exact oi h▸wr J 3 func172 []
theorem ZkQ (N:Nat) (c:T12) (r:Bool) (h:Ll N c=some r) :
 Fn Tryz.prog 113 ⟨0,[.a (W5 c)],[],[],0,.O r,[],[]⟩:=by
 refine Ya func113 rfl (fun E F w=>?_)
 unfold Ll at h
 refine wB J 17 h (fun h=>?_) fun h=>?_
 ·refine Z7 J 7 h (fun h=>oi h▸wr J 11 func113 []) fun h=>?_
  exact wB J 5 h (fun h=>oi h▸wr J 6 func113 []) fun h=>oi h▸wr J 6 func113 []
 refine Z7 J 6 h (fun h=>oi h▸wr J 7 func113 []) fun h=>?_
 refine Z7 J 7 h (fun h=>oi h▸wr J 12 func113 []) fun h=>?_
 refine Z7 J 6 h (fun h=>oi h▸wr J 6 func113 []) fun h=>?_
 refine wO J 2 h fun d e h=>Z6 (Zt2 N c.S _ e) [] [] ?_
 exact oi h▸wr J 3 func113 []
theorem ZfX (N:Nat) (c:YV) (d:T12) (r:Bool) (h:z51 N c d=some r) :
 Fn Tryz.prog 51 ⟨0,[.a (TF c),.a (W5 d)],[],[],0,.O r,[],[]⟩:=by
 refine Ya func51 rfl (fun E F w=>?_)
 unfold z51 at h
 refine wO J 9 h fun e f h=>Z6 (ZkP N d _ f) [] [] ?_
 refine wO J 5 h fun g i h=>Z6 (Ztr N c _ i) [] [] ?_
 refine Z7 J 1 h (fun h=>oi h▸wr J 24 func51 []) fun h=>?_
 refine wO J 1 h fun j k h=>Z6 (ZkQ N d _ k) [] [] ?_
 refine Z7 J 2 h (fun h=>oi h▸wr J 20 func51 []) fun h=>?_
 refine Z7 J 7 h (fun h=>oi h▸wr J 13 func51 []) fun h=>?_
 exact wB J 6 h (fun h=>oi h▸wr J 7 func51 []) fun h=>oi h▸wr J 7 func51 []
theorem Zvi (N:Nat) (c:T4) (d:T12) (r:Bool) (h:z50 N c d=some r) :
 Fn Tryz.prog 50 ⟨0,[.a (Ua c),.a (W5 d)],[],[],0,.O r,[],[]⟩:=by
 refine Ya func50 rfl (fun E F w=>?_)
 unfold z50 at h
 refine wa J 10 (RT ?_)
 refine wB J 1 h (fun h=>oi h▸wr J 7 func50 []) fun h=>?_
 refine wO J 3 h fun e f h=>Z6 (ZfX N c.Zv d _ f) [] [] ?_
 exact oi h▸wr J 3 func50 []
theorem Zvj (N:Nat) (d:(List T4)) (e:(List T12)) (r:Bool) (h:DQ N d e=some r) :
 Fn Tryz.prog 52 ⟨2,[.S 0,.S 1,.c (.cl 50 [] [])],[(0,.sl XN d),(1,.sl Ym e)],[],2,.O r,[],[]⟩:=by
 refine Ya func52 rfl (fun E F w=>?_)
 unfold DQ at h
 refine wB J 13 h (fun h=>oi h▸wr J 5 func52 []) fun h=>wa J 9 (Yf (σ:=Unit) (fun st=>(QQ d e [])) (fun st=>ZfY=some r) ?_ (fun j1=>?_))
 ·intro _ h
  unfold ZfY at h
  exact oi h▸wr J 4 func52 []
 refine wa J 1 (Yn (σ:=Int) (fun st=>(QQ d e [(1,.S 1),(2,.c (.cl 50 [] [])),(15,.S 0),(16,.I (d.length:Int)),(17,.I st)])) (fun n st=>Mc N d e n st) (r:=r) (fun _=>rfl) ?_ (fun ih=>?_))
 ·intro n2 ih3
  intro f h
  unfold Mc at h
  refine Z7 J 5 h (fun h=>wa J 2 (Z2 [] (j1 () h))) fun h=>?_
  refine wO J 7 h fun g i h=>Yc J WE i ?_
  refine wO J 9 h fun j k h=>Yc J YR k ?_
  refine wO J 9 h fun l m h=>Z6 (Zvi N g j _ m) [] [] ?_
  exact wB J 2 h (fun h=>oi h▸wr J 5 func52 []) fun h=>wa J 7 (Z2 [] (ih3 (Z1 (f+1)) h))
 exact Z2 [] (ih N 0 h)
theorem ZbK (N:Nat) (c:T5) (d:T8) (e:Yt) (r:Bool) (h:UB N c d e=some r) :
 Fn Tryz.prog 23 ⟨9,[.a (YH 0 1 2 3 c),.a (YM 4 5 6 d),.a (X8 7 8 e)],((0,.sl rS c.ZI)::(1,.sl Ys c.ZJ)::(2,.sl Xb c.ZO)::(3,.sl YN c.ZP)::(4,.sl rB d.ZT)::(5,.sl Wh d.ZU)::(6,.sl YN d.ZP)::Wm 7 8 e []),[],9,.O r,[],[]⟩:=by
 refine Ya func23 rfl (fun E F w=>?_)
 unfold UB at h
 refine wO J 15 h fun f g h=>Z6 (Zlw N c d _ g) [] [(0,.sl 0),(1,.sl 1),(2,.sl 2),(3,.sl 3),(4,.sl 4),(5,.sl 5),(6,.sl 6)] ?_
 refine Z7 J 1 h (fun h=>wa J 20 (Yl ?_)) fun h=>?_
 ·cases h
  exact YW J func23 []
 refine Z7 J 5 h (fun h=>wa J 15 (Yl ?_)) fun h=>?_
 ·cases h
  exact YW J func23 []
 refine Z7 J 7 h (fun h=>wa J 8 (Yl ?_)) fun h=>?_
 ·cases h
  exact YW J func23 []
 refine wO J 1 h fun i j h=>Z6 (Zlx N c _ j) [] [(0,.sl 0),(1,.sl 1),(2,.sl 2),(3,.sl 3)] ?_
 refine wO J 3 h fun k l h=>X2 (Zvj N i e.ZW _ l) [] [(0,.sl 12),(1,.sl 7)] [12] (.inr ⟨rfl,trivial⟩) (wa J 2 (Yl ?_))
 cases h
 exact YW J func23 []
theorem Zu7 (N:Nat) (c:T5) (d:T8) (r:Bool) (h:z34 N c d=some r) :
 Fn Tryz.prog 34 ⟨7,[.a (YH 0 1 2 3 c),.a (YM 4 5 6 d)],((0,.sl rS c.ZI)::(1,.sl Ys c.ZJ)::(2,.sl Xb c.ZO)::(3,.sl YN c.ZP)::YP 4 5 6 d []),[],7,.O r,[],[]⟩:=by
 refine Ya func34 rfl (fun E F w=>?_)
 unfold z34 at h
 refine wO J 12 h fun e f h=>Z6 (Ze2 N c d _ f) [] [(0,.sl 0),(1,.sl 1),(2,.sl 2),(3,.sl 3),(4,.sl 4),(5,.sl 5),(6,.sl 6)] ?_
 have ⟨g,i,h⟩:=ob h
 refine Z6 (ZbK N c d e _ i) [] [(0,.sl 0),(1,.sl 1),(2,.sl 2),(3,.sl 3),(4,.sl 4),(5,.sl 5),(6,.sl 6),(7,.sl 9),(8,.sl 10)] (wa J 1 (Yl ?_))
 cases h
 exact YW J func34 []
theorem Zll (N:Nat) (c:T8) (d:Int) (r:(List Int)) (h:z24 N c d=some r) :
 Fn Tryz.prog 24 ⟨3,[.a (YM 0 1 2 c),.I d],(YP 0 1 2 c []),[],4,.S 3,[(3,.sl (rI .i64) r)],[]⟩:=by
 refine Ya func24 rfl (fun E F w=>?_)
 unfold z24 at h
 have ⟨e,f,h⟩:=ob h
 rcases oO h with ⟨ox1,h⟩ | ⟨q2,ox1,h⟩
 ·refine wa J 8 (Z6 (ZiN N c _ f ox1) [] [(0,.sl 0),(1,.sl 1),(2,.sl 2)] ?_)
  refine wB J 12 h (fun h=>oi h▸wr J 15 func24 [(3,.nil)]) fun h=>?_
  refine wB J 4 h (fun h=>oi h▸wr J 11 func24 [(3,.nil)]) fun h=>?_
  refine wB J 6 h (fun h=>oi h▸wr J 5 func24 [(3,.nil)]) fun h=>?_
  cases h
 refine wa J 8 (Z6 (ZiO N c _ f q2 ox1) [] [(0,.sl 0),(1,.sl 1),(2,.sl 2)] ?_)
 refine wB J 12 h (fun h=>oi h▸wr J 15 func24 [(3,.nil)]) fun h=>?_
 refine wB J 4 h (fun h=>oi h▸wr J 11 func24 [(3,.nil)]) fun h=>?_
 refine wB J 6 h (fun h=>oi h▸wr J 5 func24 [(3,.nil)]) fun h=>?_
 refine wO J 9 h fun g i h=>Yc J (WX (rI .i64)) i ?_
 exact oi h▸wr J 3 func24 [(3,.sl 10)]
theorem UW (N:Nat) (d:Int) (r:ByteArray) (h:Um N d=some r):Fn Tryz.prog 89 ⟨1,[.I d],[],[(0,.abs powT)],1,.c (.s r),[],[(0,.abs powT)]⟩:=by
 unfold Um at h
 cases hb:(decide ((-9223372036854775808)<=d) && decide (d<=9223372036854775807)) with
 | false=>rw [hb] at h;cases h
 | true =>
  rw [hb] at h
  simp only [cond_true,Option.some.injEq] at h
  subst h
  simp only [Zc,decide_eq_true_eq] at hb
  exact Zov d hb.1 hb.2
theorem ZtH (N:Nat) (d:T4) (r:ByteArray) (h:Ze6 N d=some r) :
 Fn Tryz.prog 145 ⟨1,[.a (Ua d)],[],[(0,.abs powT)],1,.c (.s r),[],[(0,.abs powT)]⟩:=by
 refine Ya func145 rfl (fun E F w=>?_)
 unfold Ze6 at h
 refine wa J 17 (Yf (σ:=ByteArray) (fun st=>⟨[(1,.B 1 0),(3,.c (.s st))],[(0,.abs powT),(1,.box (Ua d) 52)],[],2⟩) (fun st=>ZaW N d st=some r) ?_ (fun j1=>?_))
 ·intro e h
  unfold ZaW at h
  refine wO J 4 h fun f g h=>YO g ?_
  refine wO J 1 h fun i j h=>YO j ?_
  have ⟨k,l,h⟩:=ob h
  refine YO l ?_
  refine wO J 3 h fun m o h=>Z6 (UW N d.Zv.Lo _ o) [] [(0,.sl 0)] ?_
  have ⟨p,q,h⟩:=ob h
  refine YO q ?_
  have ⟨t,u,h⟩:=ob h
  refine YO u ?_
  refine wO J 3 h fun v x h=>Z6 (UW N d.Zv.Hi _ x) [] [(0,.sl 0)] ?_
  have ⟨y,z,h⟩:=ob h
  refine YO z (wa J 1 (Yl ?_))
  cases h
  exact YW J func145 []
 exact eB h (fun h=>wa J 4 (Z2 [] (j1 (str [116,101,120,116]) h))) fun h=>wa J 2 (Z2 [] (j1 (str [105,110,116]) h))
theorem Zli (N:Nat) (c:(List T0)) (d:Int) (r:T0 × T4 × Bool) (h:ZbI N c d=some r) :
 Fn Tryz.prog 234 ⟨1,[.S 0,.I d],[(0,.sl Ys c)],[],4,.t [.inr (Y5 1 2 3 r.1),.inr (Ua r.2.1),.inl (.b r.2.2)],(Y3 1 2 3 r.1 []),[]⟩:=by
 refine Ya func234 rfl (fun E F w=>?_)
 unfold ZbI at h
 refine wa J 13 (Yf (σ:=Unit) (fun st=>(ZlP c [(4,.B 1 0),(5,.B 2 0)])) (fun st=>ZfF=some r) ?_ (fun j1=>?_))
 ·intro _ h
  unfold ZfF at h
  exact oi h▸wr J 8 func234 [(1,.nil),(2,.nil),(3,.nil)]
 refine wa J 1 (Yn (σ:=Int × Int) (fun st=>(ZlP c [(1,.I st.1),(4,.B 1 0),(5,.B 2 0),(9,.S 0),(10,.I (c.length:Int)),(11,.I st.2)])) (fun n st=>DC c n st.1 st.2) (r:=r) (fun _=>rfl) ?_ (fun ih=>?_))
 ·intro n2 ih3
  rintro ⟨e,f⟩ h
  unfold DC at h
  refine Z7 J 5 h (fun h=>wa J 2 (Z2 [] (j1 () h))) fun h=>?_
  refine wO J 6 h fun g i h=>Yc J Xu i ?_
  refine Z7 J 10 h (fun h=>wa J 22 (Z2 [] (ih3 ((Z1 (e-(g.Zz.length:Int))),(Z1 (f+1))) h))) fun h=>?_
  refine Z7 J 7 h (fun h=>wa J 15 (Z2 [] (ih3 ((Z1 (e-(g.Zz.length:Int))),(Z1 (f+1))) h))) fun h=>?_
  refine wO J 7 h fun j k h=>Yc J WE k (wa J 4 (Yl ?_))
  cases h
  exact YW J func234 [(1,.sl 4),(2,.sl 5),(3,.sl 6)]
 exact Z2 [] (ih N (d,0) h)
theorem Zbp (N:Nat) (d:(List T0)) (e:Int) (r:ByteArray) (h:LU N d e=some r) :
 Fn Tryz.prog 201 ⟨1,[.S 0,.I e],[(0,.sl Ys d)],[],1,.c (.s r),[],[]⟩:=by
 refine Ya func201 rfl (fun E F w=>?_)
 unfold LU at h
 refine wO J 8 h fun f g h=>Z6 (Zli N d e _ g) [] [(0,.sl 0)] ?_
 refine wO J 14 h fun i j h=>YO j ?_
 refine wO J 2 h fun k l h=>YO l ?_
 exact oi h▸wr J 2 func201 []
theorem ZbH (N:Nat) (d:(List T0)) (e:Int) (r:ByteArray) (h:z233 N d e=some r) :
 Fn Tryz.prog 233 ⟨1,[.S 0,.I e],[(0,.sl Ys d)],[],1,.c (.s r),[],[]⟩:=by
 refine Ya func233 rfl (fun E F w=>?_)
 unfold z233 at h
 refine wO J 9 h fun f g h=>Z6 (Zli N d e _ g) [] [(0,.sl 0)] ?_
 refine Z7 J 17 h (fun h=>?_) fun h=>?_
 ·refine wO J 6 h fun i j h=>Z6 (Zbp N d e _ j) [] [(0,.sl 0)] ?_
  exact oi h▸wr J 2 func233 []
 refine wO J 5 h fun k l h=>Z6 (Zbp N d e _ l) [] [(0,.sl 0)] ?_
 have ⟨m,o,h⟩:=ob h
 refine YO o ?_
 have ⟨p,q,h⟩:=ob h
 refine YO q ?_
 exact oi h▸wr J 2 func233 []
theorem Zup (N:Nat) (d:(List T0)) (e:T1) (r:ByteArray) (h:Zfu N d e=some r) :
 Fn Tryz.prog 200 ⟨2,[.S 0,.a (MA e)],[(0,.sl Ys d)],[(1,.abs powT)],2,.c (.s r),[],[(1,.abs powT)]⟩:=by
 refine Ya func200 rfl (fun E F w=>?_)
 unfold Zfu at h
 refine wa J 13 (Yf (σ:=Bool) (fun st=>⟨[(0,.S 0),(3,.B 2 0),(6,.O st)],[(1,.abs powT),(2,.box (MA e) 122)],[(0,.sl Ys d)],3⟩) (fun st=>Zbo N d e st=some r) ?_ (fun j1=>?_))
 ·intro f h
  unfold Zbo at h
  refine eB h (fun h=>?_) fun h=>?_
  ·refine wO J 5 h fun g i h=>Z6 (UW N e.C _ i) [] [(0,.sl 1)] ?_
   have ⟨j,k,h⟩:=ob h
   refine YO k ?_
   exact oi h▸wr J 2 func200 []
  refine wB J 8 h (fun h=>?_) fun h=>?_
  ·refine wO J 6 h fun l m h=>Z6 (ZbH N d e.X _ m) [] [(0,.sl 0)] ?_
   have ⟨o,p,h⟩:=ob h
   refine YO p ?_
   refine wO J 2 h fun q t h=>Z6 (UW N e.C _ t) [] [(0,.sl 1)] ?_
   have ⟨u,v,h⟩:=ob h
   refine YO v (wa J 1 (Yl ?_))
   cases h
   exact YW J func200 []
  refine wB J 8 h (fun h=>?_) fun h=>?_
  ·refine wO J 6 h fun x y h=>Z6 (ZbH N d e.Y _ y) [] [(0,.sl 0)] ?_
   have ⟨z,A,h⟩:=ob h
   refine YO A ?_
   refine wO J 3 h fun D G h=>Z6 (UW N (Z1 (0-e.C)) _ G) [] [(0,.sl 1)] ?_
   have ⟨H,R,h⟩:=ob h
   refine YO R (wa J 1 (Yl ?_))
   cases h
   exact YW J func200 []
  refine wO J 8 h fun T U h=>Z6 (ZbH N d e.X _ U) [] [(0,.sl 0)] ?_
  have ⟨Z,a0,h⟩:=ob h
  refine YO a0 ?_
  refine wO J 3 h fun b0 c0 h=>Z6 (ZbH N d e.Y _ c0) [] [(0,.sl 0)] ?_
  have ⟨d0,e0,h⟩:=ob h
  refine YO e0 (wa J 1 (Yl ?_))
  refine wB J 9 h (fun h=>?_) fun h=>?_
  ·refine wO J 4 h fun f0 g0 h=>YO g0 ?_
   refine wO J 2 h fun i0 j0 h=>Z6 (UW N e.C _ j0) [] [(0,.sl 1)] ?_
   have ⟨k0,l0,h⟩:=ob h
   refine YO l0 ?_
   exact oi h▸wr J 2 func200 []
  refine Z7 J 8 h (fun h=>oi h▸wr J 8 func200 []) fun h=>?_
  refine wO J 4 h fun m0 o0 h=>YO o0 ?_
  refine wO J 3 h fun p0 q0 h=>Z6 (UW N (Z1 (0-e.C)) _ q0) [] [(0,.sl 1)] ?_
  have ⟨s0,t0,h⟩:=ob h
  refine YO t0 ?_
  exact oi h▸wr J 2 func200 []
 exact eB h (fun h=>wa J 6 (Z2 [] (j1 (decide (e.Y < 0)) h))) fun h=>wa J 6 (Z2 [] (j1 false h))
theorem Zk6 (N:Nat) (d:(List T0)) (e:Int) (f:Int) (r:ByteArray) (h:z146 N d e f=some r) :
 Fn Tryz.prog 146 ⟨2,[.S 0,.I e,.I f],[(0,.sl Ys d)],[(1,.abs powT)],2,.c (.s r),[],[(1,.abs powT)]⟩:=by
 refine Ya func146 rfl (fun E F w=>?_)
 unfold z146 at h
 refine wO J 9 h fun g i h=>Z6 (Ze5 N d e _ i) [] [(0,.sl 0)] ?_
 refine wB J 11 h (fun h=>oi h▸wr J 9 func146 []) fun h=>?_
 refine wB J 4 h (fun h=>oi h▸wr J 5 func146 []) fun h=>?_
 refine wO J 6 h fun j k h=>Yc J Xu k ?_
 refine wB J 14 h (fun h=>?_) fun h=>?_
 ·refine wO J 7 h fun l m h=>Yc J Uv m ?_
  refine wO J 1 h fun o p h=>Z6 (Zup N d l _ p) [] [(0,.sl 0),(1,.sl 1)] ?_
  exact oi h▸wr J 2 func146 []
 refine Z7 J 20 h (fun h=>oi h▸wr J 6 func146 []) fun h=>?_
 refine wO J 7 h fun q t h=>Yc J (oP (oI .i64) (oI .i64)) t (Up 0 rfl ?_)
 refine wO J 1 h fun u v h=>Z6 (Zbp N d q.1 _ v) [] [(0,.sl 0)] ?_
 have ⟨x,y,h⟩:=ob h
 refine YO y ?_
 refine wO J 4 h fun z A h=>Yc J (oP (oI .i64) (oI .i64)) A (Up 1 rfl ?_)
 refine wO J 1 h fun C D h=>Z6 (Zbp N d z.2 _ D) [] [(0,.sl 0)] ?_
 have ⟨G,H,h⟩:=ob h
 refine YO H (wa J 1 (Yl ?_))
 cases h
 exact YW J func146 []
theorem Zb3 (N:Nat) (d:List ByteArray) (e:ByteArray) (r:ByteArray) (h:z39 N d e=some r):Fn Tryz.prog 39 ⟨1,[.S 0,.c (.s e)],[(0,.sl rS d)],[],1,.c (.s r),[],[]⟩:=by
  unfold z39 at h
  cases hb:(decide (d.length<=140737488355328) && decide ((Pa e.data.toList (d.map (·.data.toList))).length<=140737488355328)) with
  | false=>rw [hb] at h;cases h
  | true =>
    rw [hb] at h
    simp only [cond_true,Option.some.injEq] at h
    subst h
    simp only [Zc,decide_eq_true_eq] at hb
    exact Zoz d e hb.1 hb.2
theorem ZlG (N:Nat) (d:(List T0)) (e:Int) (r:ByteArray) (h:z87 N d e=some r) :
 Fn Tryz.prog 87 ⟨2,[.S 0,.I e],[(0,.sl Ys d)],[(1,.abs powT)],2,.c (.s r),[],[(1,.abs powT)]⟩:=by
 refine Ya func87 rfl (fun E F w=>?_)
 unfold z87 at h
 refine wO J 9 h fun f g h=>Z6 (Ze5 N d e _ g) [] [(0,.sl 0)] ?_
 refine wB J 11 h (fun h=>oi h▸wr J 5 func87 []) fun h=>?_
 refine wO J 6 h fun i j h=>Yc J Xu j (wa J 17 (Yf (σ:=(List ByteArray)) (fun st=>(ZlQ powT i st d [(0,.S 0),(1,.I e),(7,.B 7 0),(8,.S 8),(9,.c .nil)])) (fun st=>Zgn N d e i st=some r) ?_ (fun j1=>?_)))
 ·intro k h
  unfold Zgn at h
  refine wa J 14 (Yf (σ:=(List ByteArray)) (fun st=>(ZlR powT i k st d [(7,.B 7 0),(8,.S 8),(9,.S 9)])) (fun st=>Zgm N i k st=some r) ?_ (fun j3=>?_))
  ·intro l h
   unfold Zgm at h
   refine wO J 4 h fun m o h=>YO o ?_
   refine wO J 1 h fun p q h=>X2 (Zb3 N k (str [44,32]) _ q) [] [(0,.sl 8)] [8] (.inr ⟨rfl,trivial⟩) ?_
   have ⟨t,u,h⟩:=ob h
   refine YO u ?_
   have ⟨v,x,h⟩:=ob h
   refine YO x (wa J 1 (Yl ?_))
   refine Z7 J 7 h (fun h=>oi h▸wr J 7 func87 []) fun h=>?_
   refine wO J 4 h fun y z h=>X2 (Zb3 N l (str [32,97,110,100,32]) _ z) [] [(0,.sl 9)] [9] (.inr ⟨rfl,trivial⟩) ?_
   have ⟨A,C,h⟩:=ob h
   refine YO C ?_
   have ⟨D,G,h⟩:=ob h
   refine YO G ?_
   exact oi h▸wr J 7 func87 []
  refine wa J 1 (Yn (σ:=(List ByteArray) × Int) (fun st=>(ZlR powT i k st.1 d [(0,.S 0),(1,.I e),(7,.B 7 0),(8,.S 8),(9,.S 9),(47,.I (Z1 ((i.ZB.Zw.length:Int)+(i.ZB.Zy.length:Int)))),(48,.I st.2)])) (fun n st=>Zcn N d e i k n st.1 st.2) (r:=r) (fun _=>rfl) ?_ (fun ih=>?_))
  ·intro n3 ih5
   rintro ⟨H,R⟩ h
   unfold Zcn at h
   refine Z7 J 5 h (fun h=>wa J 2 (Z2 [] (j3 H h))) fun h=>?_
   refine wO J 14 h fun T U h=>Z6 (Zk6 N d e R _ U) [] [(0,.sl 0),(1,.sl 1)] (YS J [] oS ([T]:List ByteArray) ?_)
   have ⟨X,Y,h⟩:=ob h
   exact Xc J rS Y (wa J 7 (Z2 [(9,.sl 11)] (ih5 (X,(Z1 (R+1))) h)))
  exact Z2 [(9,.nil)] (ih N (([]:List ByteArray),0) h)
 refine wa J 1 (Yn (σ:=(List ByteArray) × Int) (fun st=>(ZlQ powT i st.1 d [(0,.S 0),(1,.I e),(7,.B 7 0),(8,.S 8),(9,.c .nil),(27,.S 4),(28,.I (i.Zz.length:Int)),(29,.I st.2)])) (fun n st=>Zco N d e i n st.1 st.2) (r:=r) (fun _=>rfl) ?_ (fun ih=>?_))
 ·intro n4 ih6
  rintro ⟨Z,a0⟩ h
  unfold Zco at h
  refine Z7 J 5 h (fun h=>wa J 2 (Z2 [] (j1 Z h))) fun h=>?_
  refine wO J 6 h fun b0 c0 h=>Yc J WE c0 ?_
  refine wO J 7 h fun d0 e0 h=>Z6 (ZtH N b0 _ e0) [] [(0,.sl 1)] (YS J [] oS ([d0]:List ByteArray) ?_)
  have ⟨f0,g0,h⟩:=ob h
  exact Xc J rS g0 (wa J 7 (Z2 [(8,.sl 12)] (ih6 (f0,(Z1 (a0+1))) h)))
 exact Z2 [(8,.nil)] (ih N (([]:List ByteArray),0) h)
theorem ZtJ (N:Nat) (c:XB) (d:Int) (r:Bool) (h:Ze9 N c d=some r) :
 Fn Tryz.prog 148 ⟨1,[.a (Bj c),.B 0 0],[],[(0,.box [.I d] 3)],1,.O r,[],[(0,.box [.I d] 3)]⟩:=by
 refine Ya func148 rfl (fun E F w=>?_)
 unfold Ze9 at h
 exact oi h▸wr J 13 func148 []
theorem ZtI (N:Nat) (d:(List XB)) (e:Int) (r:Int) (h:Ze7 N d e=some r) :
 Fn Tryz.prog 147 ⟨2,[.S 0,.c (.cl 148 [] [1])],[(0,.sl YN d)],[(1,.box [.I e] 3)],2,.I r,[],[(1,.box [.I e] 3)]⟩:=by
 refine Ya func147 rfl (fun E F w=>?_)
 unfold Ze7 at h
 refine wa J 11 (Yf (σ:=Unit) (fun st=>⟨[],[(1,.box [.I e] 3)],[(0,.sl YN d)],2⟩) (fun st=>Ze8=some r) ?_ (fun j1=>?_))
 ·intro _ h
  unfold Ze8 at h
  exact oi h▸wr J 4 func147 []
 refine wa J 1 (Yn (σ:=Int) (fun st=>⟨[(0,.S 0),(1,.c (.cl 148 [] [1])),(7,.I (d.length:Int)),(8,.I st)],[(1,.box [.I e] 3)],[(0,.sl YN d)],2⟩) (fun n st=>ZaX N d e n st) (r:=r) (fun _=>rfl) ?_ (fun ih=>?_))
 ·intro n2 ih3
  intro f h
  unfold ZaX at h
  refine Z7 J 5 h (fun h=>wa J 2 (Z2 [] (j1 () h))) fun h=>?_
  refine wO J 14 h fun g i h=>Yc J Rn i ?_
  refine wO J 1 h fun j k h=>Z6 (ZtJ N g e _ k) [] [(0,.bp 1 0)] ?_
  exact wB J 1 h (fun h=>oi h▸wr J 6 func147 []) fun h=>wa J 7 (Z2 [] (ih3 (Z1 (f+1)) h))
 exact Z2 [] (ih N 0 h)
theorem ZvG (N:Nat) (c:T8) (d:Int) (r:XB × Bool) (h:z88 N c d=some r) :
 Fn Tryz.prog 88 ⟨3,[.a (YM 0 1 2 c),.I d],(YP 0 1 2 c []),[],3,.t [.inr (Bj r.1),.inl (.b r.2)],[],[]⟩:=by
 refine Ya func88 rfl (fun E F w=>?_)
 unfold z88 at h
 refine wO J 11 h fun e f h=>Z6 (ZlH N c _ f) [] [(0,.sl 0),(1,.sl 1),(2,.sl 2)] ?_
 refine wB J 2 h (fun h=>oi h▸wr J 7 func88 []) fun h=>?_
 refine wO J 7 h fun g i h=>Z6 (ZtI N c.ZP d _ i) [] [(0,.sl 2),(1,.bp 4 0)] ?_
 refine wB J 8 h (fun h=>oi h▸wr J 7 func88 []) fun h=>?_
 refine wO J 7 h fun j k h=>Yc J Rn k ?_
 exact oi h▸wr J 4 func88 []
theorem Zlu (N:Nat) (c:T5) (d:T8) (e:Int) (r:(List ByteArray)) (h:z35 N c d e=some r) :
 Fn Tryz.prog 35 ⟨8,[.a (YH 0 1 2 3 c),.a (YM 4 5 6 d),.I e],((0,.sl rS c.ZI)::(1,.sl Ys c.ZJ)::(2,.sl Xb c.ZO)::(3,.sl YN c.ZP)::YP 4 5 6 d []),[(7,.abs powT)],9,.S 8,[],[(8,.own rS r true),(7,.abs powT)]⟩:=by
 refine Ya func35 rfl (fun E F w=>?_)
 unfold z35 at h
 refine wO J 15 h fun f g h=>Z6 (Zll N d e _ g) [] [(0,.sl 4),(1,.sl 5),(2,.sl 6)] (wa J 3 (Yf (σ:=(List ByteArray)) (fun st=>⟨[(2,.I e),(3,.B 8 0),(4,.B 9 0),(7,.S 11)],[(7,.abs powT),(8,.box (YH 0 1 2 3 c) 27),(9,.box (YM 4 5 6 d) 31),(11,.own rS st true)],((0,.sl rS c.ZI)::(1,.sl Ys c.ZJ)::(2,.sl Xb c.ZO)::(3,.sl YN c.ZP)::YP 4 5 6 d []),12⟩) (fun st=>ZfS N c d e st=some r) ?_ (fun j1=>?_)))
 ·intro i h
  unfold ZfS at h
  refine wO J 5 h fun j k h=>Z6 (ZvG N d e _ k) [] [(0,.sl 4),(1,.sl 5),(2,.sl 6)] ?_
  refine Z7 J 11 h (fun h=>?_) fun h=>?_
  ·refine wO J 8 h fun l m h=>Yc J oB m ?_
   refine Z7 J 2 h (fun h=>oi h▸wr J 7 func35 [(8,.sl 11)]) fun h=>wa J 3 (YS J [] oS ([(str [116,104,101,32,101,110,100])]:List ByteArray) ?_)
   have ⟨o,p,h⟩:=ob h
   refine Xc J rS p ?_
   exact oi h▸wr J 7 func35 [(8,.sl 15)]
  refine wO J 7 h fun q s h=>Yc J XM s ?_
  refine wO J 8 h fun t u h=>Z6 (UW N j.1.ZG _ u) [] [(0,.sl 7)] ?_
  have ⟨v,x,h⟩:=ob h
  refine YO x ?_
  have ⟨y,z,h⟩:=ob h
  refine YO z ?_
  refine wO J 4 h fun A C h=>Yc J Xu C ?_
  refine wO J 2 h fun D G h=>YO G ?_
  have ⟨H,R,h⟩:=ob h
  refine YO R ?_
  refine wO J 4 h fun T U h=>Yc J oS U ?_
  refine wO J 1 h fun X Y h=>YO Y (YS J [] oS ([X]:List ByteArray) ?_)
  have ⟨Z,a0,h⟩:=ob h
  refine Xc J rS a0 (wa J 1 (Yl ?_))
  refine wO J 6 h fun b0 c0 h=>Yc J oB c0 ?_
  refine Z7 J 2 h (fun h=>oi h▸wr J 7 func35 [(8,.sl 21)]) fun h=>wa J 3 (YS J [] oS ([(str [116,104,101,32,101,110,100])]:List ByteArray) ?_)
  have ⟨d0,e0,h⟩:=ob h
  refine Xc J rS e0 ?_
  exact oi h▸wr J 7 func35 [(8,.sl 24)]
 refine wa J 1 (Yn (σ:=(List ByteArray) × Int) (fun st=>⟨[(2,.I e),(3,.B 8 0),(4,.B 9 0),(7,.S 11),(17,.S 10),(18,.I (f.length:Int)),(19,.I st.2)],[(7,.abs powT),(8,.box (YH 0 1 2 3 c) 27),(9,.box (YM 4 5 6 d) 31),(11,.own rS st.1 true)],((0,.sl rS c.ZI)::(1,.sl Ys c.ZJ)::(2,.sl Xb c.ZO)::(3,.sl YN c.ZP)::YP 4 5 6 d [(10,.sl (rI .i64) f)]),12⟩) (fun n st=>Ha N c d e f n st.1 st.2) (r:=r) (fun _=>rfl) ?_ (fun ih=>?_))
 ·intro n2 ih3
  rintro ⟨f0,g0⟩ h
  unfold Ha at h
  refine Z7 J 5 h (fun h=>wa J 2 (Z2 [] (j1 f0 h))) fun h=>?_
  refine wO J 6 h fun i0 j0 h=>Yc J (oI .i64) j0 ?_
  refine wO J 8 h fun k0 l0 h=>Yc J XM l0 ?_
  refine wO J 10 h fun m0 o0 h=>Yc J oS o0 ?_
  refine wB J 10 h (fun h=>?_) fun h=>?_
  ·refine wO J 7 h fun p0 q0 h=>Yc J Xu q0 ?_
   refine wO J 2 h fun s0 t0 h=>YO t0 ?_
   have ⟨u0,v0,h⟩:=ob h
   refine YO v0 ?_
   refine wO J 1 h fun x0 y0 h=>YO y0 (YS J [] oS ([x0]:List ByteArray) ?_)
   have ⟨z0,A0,h⟩:=ob h
   exact Xc J rS A0 (wa J 8 (Z2 [(11,.sl 21)] (ih3 (z0,(Z1 (g0+1))) h)))
  refine wB J 7 h (fun h=>?_) fun h=>?_
  ·refine wO J 7 h fun B0 C0 h=>Z6 (ZlG N c.ZJ k0.ZD _ C0) [] [(0,.sl 1),(1,.sl 7)] ?_
   have ⟨D0,G0,h⟩:=ob h
   refine YO G0 ?_
   have ⟨H0,I0,h⟩:=ob h
   refine YO I0 ?_
   refine wO J 1 h fun L0 M0 h=>YO M0 (YS J [] oS ([L0]:List ByteArray) ?_)
   have ⟨O0,R0,h⟩:=ob h
   exact Xc J rS R0 (wa J 8 (Z2 [(11,.sl 17)] (ih3 (O0,(Z1 (g0+1))) h)))
  refine wO J 7 h fun S0 T0 h=>Z6 (ZlG N c.ZJ k0.ZD _ T0) [] [(0,.sl 1),(1,.sl 7)] ?_
  have ⟨U0,V0,h⟩:=ob h
  refine YO V0 ?_
  have ⟨X0,Y0,h⟩:=ob h
  refine YO Y0 ?_
  refine wO J 1 h fun Z0 a1 h=>YO a1 (YS J [] oS ([Z0]:List ByteArray) ?_)
  have ⟨b1,c1,h⟩:=ob h
  exact Xc J rS c1 (wa J 8 (Z2 [(11,.sl 17)] (ih3 (b1,(Z1 (g0+1))) h)))
 exact Z2 [(11,.nil)] (ih N (([]:List ByteArray),0) h)
theorem Zty (N:Nat) (c:T5) (d:T8) (e:Int) (r:(List ByteArray) × Int) (h:z11 N c d e=some r) :
 Fn Tryz.prog 11 ⟨8,[.a (YH 0 1 2 3 c),.a (YM 4 5 6 d),.I e],((0,.sl rS c.ZI)::(1,.sl Ys c.ZJ)::(2,.sl Xb c.ZO)::(3,.sl YN c.ZP)::YP 4 5 6 d []),[(7,.abs powT)],9,.t [.inl (.sl 8),.inl (.I r.2)],[],[(8,.own rS r.1 true),(7,.abs powT)]⟩:=by
 refine Ya func11 rfl (fun E F w=>?_)
 unfold z11 at h
 refine wO J 12 h fun f g h=>Z6 (Zu7 N c d _ g) [] [(0,.sl 0),(1,.sl 1),(2,.sl 2),(3,.sl 3),(4,.sl 4),(5,.sl 5),(6,.sl 6)] ?_
 refine wB J 2 h (fun h=>oi h▸wr J 16 func11 [(8,.nil)]) fun h=>?_
 refine wB J 4 h (fun h=>oi h▸wr J 12 func11 [(8,.nil)]) fun h=>?_
 refine wB J 6 h (fun h=>oi h▸wr J 6 func11 [(8,.nil)]) fun h=>?_
 refine wO J 7 h fun i j h=>Z6 (Zlu N c d e _ j) [] [(0,.sl 0),(1,.sl 1),(2,.sl 2),(3,.sl 3),(4,.sl 4),(5,.sl 5),(6,.sl 6),(7,.sl 7)] ?_
 exact oi h▸wr J 3 func11 [(8,.sl 10)]
theorem ZvC (N:Nat) (c:T9) (d:Yt) (e:T3) (r:Bool) (h:Mn N c d e=some r) :
 Fn Tryz.prog 83 ⟨5,[.a (TG c),.B 0 0,.B 3 0],(Wm 1 2 d [(4,.sl Ym e.ZV)]),[(0,.box (X8 1 2 d) 42),(3,.box (W6 4 e) 48)],5,.O r,[],[(0,.box (X8 1 2 d) 42),(3,.box (W6 4 e) 48)]⟩:=by
 refine Ya func83 rfl (fun E F w=>?_)
 unfold Mn at h
 refine Z7 J 13 h (fun h=>oi h▸wr J 22 func83 []) fun h=>?_
 refine Z7 J 7 h (fun h=>oi h▸wr J 15 func83 []) fun h=>?_
 exact wB J 7 h (fun h=>oi h▸wr J 8 func83 []) fun h=>oi h▸wr J 8 func83 []
theorem ZvB (N:Nat) (d:(List T9)) (e:Yt) (f:T3) (r:Int) (h:Ho N d e f=some r) :
 Fn Tryz.prog 82 ⟨6,[.S 0,.c (.cl 83 [] [1,4])],((0,.sl Wh d)::Wm 2 3 e [(5,.sl Ym f.ZV)]),[(1,.box (X8 2 3 e) 42),(4,.box (W6 5 f) 48)],6,.I r,[],[(1,.box (X8 2 3 e) 42),(4,.box (W6 5 f) 48)]⟩:=by
 refine Ya func82 rfl (fun E F w=>?_)
 unfold Ho at h
 refine wa J 11 (Yf (σ:=Unit) (fun st=>(ZlS e f d f.ZV [])) (fun st=>Zgl=some r) ?_ (fun j1=>?_))
 ·intro _ h
  unfold Zgl at h
  exact oi h▸wr J 4 func82 []
 refine wa J 1 (Yn (σ:=Int) (fun st=>(ZlS e f d f.ZV [(0,.S 0),(1,.c (.cl 83 [] [1,4])),(7,.I (d.length:Int)),(8,.I st)])) (fun n st=>S6 N d e f n st) (r:=r) (fun _=>rfl) ?_ (fun ih=>?_))
 ·intro n2 ih3
  intro g h
  unfold S6 at h
  refine Z7 J 5 h (fun h=>wa J 2 (Z2 [] (j1 () h))) fun h=>?_
  refine wO J 14 h fun i j h=>Yc J XM j ?_
  refine wO J 1 h fun k l h=>Z6 (ZvC N i e f _ l) [] [(0,.bp 1 0),(1,.sl 2),(2,.sl 3),(3,.bp 4 0),(4,.sl 5)] ?_
  exact wB J 1 h (fun h=>oi h▸wr J 6 func82 []) fun h=>wa J 7 (Z2 [] (ih3 (Z1 (g+1)) h))
 exact Z2 [] (ih N 0 h)
theorem ZtE (N:Nat) (c:T4) (d:T12) (r:Bool) (h:ZaV N c d=some r) :
 Fn Tryz.prog 140 ⟨0,[.a (Ua c),.a (W5 d)],[],[],0,.O r,[],[]⟩:=by
 refine Ya func140 rfl (fun E F w=>?_)
 unfold ZaV at h
 refine wO J 11 h fun e f h=>Z6 (ZfX N c.Zv d _ f) [] [] ?_
 exact oi h▸wr J 2 func140 []
theorem Zvk (N:Nat) (d:(List T4)) (e:(List T12)) (r:Bool) (h:Zb8 N d e=some r) :
 Fn Tryz.prog 52 ⟨2,[.S 0,.S 1,.c (.cl 140 [] [])],[(0,.sl XN d),(1,.sl Ym e)],[],2,.O r,[],[]⟩:=by
 refine Ya func52 rfl (fun E F w=>?_)
 unfold Zb8 at h
 refine wB J 13 h (fun h=>oi h▸wr J 5 func52 []) fun h=>wa J 9 (Yf (σ:=Unit) (fun st=>(QQ d e [])) (fun st=>ZfZ=some r) ?_ (fun j1=>?_))
 ·intro _ h
  unfold ZfZ at h
  exact oi h▸wr J 4 func52 []
 refine wa J 1 (Yn (σ:=Int) (fun st=>(QQ d e [(1,.S 1),(2,.c (.cl 140 [] [])),(15,.S 0),(16,.I (d.length:Int)),(17,.I st)])) (fun n st=>Md N d e n st) (r:=r) (fun _=>rfl) ?_ (fun ih=>?_))
 ·intro n2 ih3
  intro f h
  unfold Md at h
  refine Z7 J 5 h (fun h=>wa J 2 (Z2 [] (j1 () h))) fun h=>?_
  refine wO J 7 h fun g i h=>Yc J WE i ?_
  refine wO J 9 h fun j k h=>Yc J YR k ?_
  refine wO J 9 h fun l m h=>Z6 (ZtE N g j _ m) [] [] ?_
  exact wB J 2 h (fun h=>oi h▸wr J 5 func52 []) fun h=>wa J 7 (Z2 [] (ih3 (Z1 (f+1)) h))
 exact Z2 [] (ih N 0 h)
theorem ZvD (N:Nat) (c:(List T4)) (d:(List T12)) (r:Bool) (h:Hp N c d=some r) :
 Fn Tryz.prog 84 ⟨2,[.S 0,.S 1],[(0,.sl XN c),(1,.sl Ym d)],[],2,.O r,[],[]⟩:=by
 refine Ya func84 rfl (fun E F w=>?_)
 unfold Hp at h
 refine wO J 8 h fun e f h=>Z6 (Zvk N c d _ f) [] [(0,.sl 0),(1,.sl 1)] ?_
 exact oi h▸wr J 2 func84 []
theorem DS (N:Nat) (c:T12) (r:Int) (h:RD N c=some r) :
 Fn Tryz.prog 57 ⟨0,[.a (W5 c)],[],[],0,.I r,[],[]⟩:=by
 refine Ya func57 rfl (fun E F w=>?_)
 unfold RD at h
 exact wB J 12 h (fun h=>oi h▸wr J 8 func57 []) fun h=>oi h▸wr J 8 func57 []
theorem Zuf (N:Nat) (d:Int) (r:Bool) (h:Zbm N d=some r) :
 Fn Tryz.prog 187 ⟨0,[.c (.i .i32 d)],[],[],0,.O r,[],[]⟩:=by
 refine Ya func187 rfl (fun E F w=>?_)
 unfold Zbm at h
 exact wB J 9 h (fun h=>oi h▸wr J 5 func187 []) fun h=>oi h▸wr J 5 func187 []
theorem ZuV (N:Nat) (d:ByteArray) (e:Bool) (r:Int) (h:DI N d e=some r) :
 Fn Tryz.prog 258 ⟨0,[.c (.s d),.c (.cl 187 [] []),.O e],[],[],0,.I r,[],[]⟩:=by
 refine Ya func258 rfl (fun E F w=>?_)
 unfold DI at h
 refine wa J 8 (eRn J (fun bk1=>wa J 1 (Yf (σ:=Nat) (fun st=>(Hq (VW bk1 d st) [])) (fun st=>ZfJ st=some r) ?_ (fun j1=>?_))))
 ·intro vi0_1 h
  unfold ZfJ at h
  exact oi h▸wr J 4 func258 []
 refine wa J 1 (Yn (σ:=Nat) (fun st=>(Hq (VW bk1 d st) [(1,.c (.cl 187 [] [])),(2,.O e),(10,.c (.v (.pointer (some ⟨bk1,0,none⟩))))])) (fun n st=>P8 N d e n st) (r:=r) (fun _=>rfl) ?_ (fun ih=>?_))
 ·intro n2 ih3
  intro vi0_3 h
  unfold P8 at h
  obtain ⟨K,h⟩|⟨K,h⟩:=HU h
  ·exact wa J 2 (eNf bk1 0 K (wa J 5 (Z2 [] (j1 vi0_3 h))))
  refine wa J 2 (eNt bk1 0 K ?_)
  refine wO J 17 h fun f g h=>Z6 (Zuf N ((Utf8.decode d vi0_3).1:Int) _ g) [] [] ?_
  exact wB J 3 h (fun h=>oi h▸wr J 6 func258 []) fun h=>wa J 3 (Z2 [] (ih3 (vi0_3+(Utf8.decode d vi0_3).2) h))
 exact Z2 [] (ih N (0:Nat) h)
theorem ZuL (N:Nat) (d:ByteArray) (r:Int) (h:Dz N d=some r) :
 Fn Tryz.prog 228 ⟨0,[.c (.s d),.c (.cl 187 [] [])],[],[],0,.I r,[],[]⟩:=by
 refine Ya func228 rfl (fun E F w=>?_)
 unfold Dz at h
 refine wO J 8 h fun e f h=>Z6 (ZuV N d true _ f) [] [] ?_
 exact oi h▸wr J 2 func228 []
theorem Zue (N:Nat) (d:ByteArray) (r:Bool) (h:LQ N d=some r) :
 Fn Tryz.prog 186 ⟨0,[.c (.s d),.c (.cl 187 [] [])],[],[],0,.O r,[],[]⟩:=by
 refine Ya func186 rfl (fun E F w=>?_)
 unfold LQ at h
 refine wO J 8 h fun e f h=>Z6 (ZuL N d _ f) [] [] ?_
 exact oi h▸wr J 3 func186 []
theorem ZkT (N:Nat) (c:YV) (d:T12) (r:Bool) (h:Qh N c d=some r) :
 Fn Tryz.prog 122 ⟨0,[.a (TF c),.a (W5 d)],[],[],0,.O r,[],[]⟩:=by
 refine Ya func122 rfl (fun E F w=>?_)
 unfold Qh at h
 refine wB J 15 h (fun h=>wa J 13 (Yl (oi h▸wr J 5 func122 []))) fun h=>?_
 refine wO J 1 h fun e f h=>Z6 (DS N d _ f) [] [] ?_
 refine wB J 5 h (fun h=>wa J 6 (Yl (oi h▸wr J 5 func122 []))) fun h=>?_
 refine wO J 1 h fun g i h=>Z6 (DS N d _ i) [] [] (wa J 4 (Yl ?_))
 refine eB h (fun h=>oi h▸wr J 5 func122 []) fun h=>?_
 refine wB J 9 h (fun h=>oi h▸wr J 8 func122 []) fun h=>?_
 refine Z7 J 8 h (fun h=>oi h▸wr J 7 func122 []) fun h=>?_
 refine wO J 2 h fun j k h=>Z6 (Zue N d.S _ k) [] [] ?_
 exact oi h▸wr J 4 func122 []
theorem Zf0 (N:Nat) (c:(List T0)) (d:Int) (e:(List T12)) (r:Bool) (h:US N c d e=some r) :
 Fn Tryz.prog 54 ⟨2,[.S 0,.I d,.S 1],[(0,.sl Ys c),(1,.sl Ym e)],[],2,.O r,[],[]⟩:=by
 refine Ya func54 rfl (fun E F w=>?_)
 unfold US at h
 refine wB J 10 h (fun h=>oi h▸wr J 16 func54 []) fun h=>?_
 refine wB J 6 h (fun h=>oi h▸wr J 10 func54 []) fun h=>?_
 refine wO J 1 h fun f g h=>Z6 (ZkR N c _ g) [] [(0,.sl 0)] ?_
 refine wB J 3 h (fun h=>oi h▸wr J 5 func54 []) fun h=>?_
 refine wO J 5 h fun i j h=>Z6 (ZkS N c _ j) [] [(0,.sl 0)] ?_
 refine wB J 11 h (fun h=>oi h▸wr J 5 func54 []) fun h=>wa J 9 (Yf (σ:=Unit) (fun st=>⟨[],[],[(0,.sl Ys c),(1,.sl Ym e)],3⟩) (fun st=>Zf1=some r) ?_ (fun j1=>?_))
 ·intro _ h
  unfold Zf1 at h
  exact oi h▸wr J 4 func54 []
 refine wa J 1 (Yn (σ:=Int) (fun st=>⟨[(7,.S 2),(30,.S 1),(31,.I (e.length:Int)),(32,.I st)],[(2,.own XN i true)],[(0,.sl Ys c),(1,.sl Ym e)],3⟩) (fun n st=>RB N e i n st) (r:=r) (fun _=>rfl) ?_ (fun ih=>?_))
 ·intro n2 ih3
  intro k h
  unfold RB at h
  refine Z7 J 5 h (fun h=>wa J 2 (Z2 [] (j1 () h))) fun h=>?_
  refine wO J 7 h fun l m h=>Yc J YR m (wa J 9 (RT ?_))
  refine Z7 J 1 h (fun h=>wa J 9 (Yl (wa J 7 (Z2 [] (ih3 (Z1 (k+1)) h))))) fun h=>?_
  refine wO J 2 h fun o p h=>YB J XN p (wa J 1 (Y1 J WE p ?_))
  refine wO J 1 h fun q s h=>Z6 (ZkT N o.Zv l _ s) [] [] (wa J 2 (Yl ?_))
  exact eB h (fun h=>oi h▸wr J 5 func54 []) fun h=>wa J 7 (Z2 [] (ih3 (Z1 (k+1)) h))
 exact Z2 [] (ih N 0 h)
theorem Zf7 (N:Nat) (c:(List T4)) (d:(List T12)) (r:Bool) (h:RG N c d=some r) :
 Fn Tryz.prog 64 ⟨2,[.S 0,.S 1],[(0,.sl XN c),(1,.sl Ym d)],[],2,.O r,[],[]⟩:=by
 refine Ya func64 rfl (fun E F w=>?_)
 unfold RG at h
 refine wB J 13 h (fun h=>oi h▸wr J 5 func64 []) fun h=>wa J 9 (Yf (σ:=Unit) (fun st=>(QQ c d [])) (fun st=>Zf8=some r) ?_ (fun j1=>?_))
 ·intro _ h
  unfold Zf8 at h
  exact oi h▸wr J 4 func64 []
 refine wa J 1 (Yn (σ:=Int) (fun st=>(QQ c d [(1,.S 1),(12,.S 0),(13,.I (c.length:Int)),(14,.I st)])) (fun n st=>S2 N c d n st) (r:=r) (fun _=>rfl) ?_ (fun ih=>?_))
 ·intro n2 ih3
  intro e h
  unfold S2 at h
  refine Z7 J 5 h (fun h=>wa J 2 (Z2 [] (j1 () h))) fun h=>?_
  refine wO J 7 h fun f g h=>Yc J WE g ?_
  refine wO J 11 h fun i j h=>Yc J YR j ?_
  refine wO J 1 h fun k l h=>Z6 (ZkT N f.Zv i _ l) [] [] (wa J 1 (Yl ?_))
  exact eB h (fun h=>oi h▸wr J 5 func64 []) fun h=>wa J 7 (Z2 [] (ih3 (Z1 (e+1)) h))
 exact Z2 [] (ih N 0 h)
theorem ZfO (N:Nat) (c:(List T12)) (r:(List T12)) (h:SR N c=some r) :
 Fn Tryz.prog 26 ⟨1,[.S 0],[(0,.sl Ym c)],[],2,.S 1,[],[(1,.own Ym r true)]⟩:=by
 refine Ya func26 rfl (fun E F w=>?_)
 unfold SR at h
 refine wa J 8 (eNi Ym c false ?_)
 intro nb hnb
 cases nb
 ·refine wa J 5 (YS J [] YR ([]:List T12) ?_)
  refine wO J 1 h fun d e h=>Xc J Ym e ?_
  exact oi h▸wr J 2 func26 [(1,.sl 2)]
 ·obtain rfl:=hnb rfl
  replace h:(some ([]:List T12):Option (List T12))=some r:=h
  exact oi h▸wr J 6 func26 [(1,.nil)]
theorem Zf3 (N:Nat) (c:T0) (d:(List T12)) (e:(List T12)) (r:(List T12)) (h:RE N c d e=some r) :
 Fn Tryz.prog 61 ⟨5,[.a (Y5 0 1 2 c),.S 3,.S 4],(Y3 0 1 2 c [(3,.sl Ym d),(4,.sl Ym e)]),[],6,.S 5,[],[(5,.own Ym r true)]⟩:=by
 refine Ya func61 rfl (fun E F w=>?_)
 unfold RE at h
 refine wO J 8 h fun f g h=>Z6 (ZfO N e _ g) [] [(0,.sl 4)] ?_
 refine wO J 7 h fun i j h=>TK J Ym j ?_
 refine wO J 1 h fun k l h=>eCw J Ym l ?_
 exact oi h▸wr J 6 func61 [(5,.sl 6)]
theorem ZlB (N:Nat) (c:T6) (d:(List T12)) (r:Bool) (h:He N c d=some r) :
 Fn Tryz.prog 63 ⟨3,[.a [.sl 0,.sl 1],.S 2],[(0,.sl Xe c.Zw),(1,.sl (rP (rI .i64) (rI .i64)) c.Zy),(2,.sl Ym d)],[],3,.O r,[],[]⟩:=by
 refine Ya func63 rfl (fun E F w=>?_)
 unfold He at h
 refine wa J 13 (Yf (σ:=Unit) (fun st=>(QR c.Zw c.Zy d [(1,.S 2),(2,.B 3 0)])) (fun st=>Zb9 N c d=some r) ?_ (fun j1=>?_))
 ·intro _ h
  unfold Zb9 at h
  refine wa J 8 (Yf (σ:=Unit) (fun st=>(Zcw c.Zw c.Zy d [])) (fun st=>Zf6=some r) ?_ (fun j12=>?_))
  ·intro _ h
   unfold Zf6 at h
   exact oi h▸wr J 4 func63 []
  refine wa J 1 (Yn (σ:=Int) (fun st=>(Zcw c.Zw c.Zy d [(1,.S 2),(55,.S 1),(56,.I (c.Zy.length:Int)),(57,.I st)])) (fun n st=>QF c d n st) (r:=r) (fun _=>rfl) ?_ (fun ih=>?_))
  ·intro n9 ih14
   intro e h
   unfold QF at h
   refine Z7 J 5 h (fun h=>wa J 2 (Z2 [] (j12 () h))) fun h=>?_
   refine wO J 6 h fun f g h=>Yc J (oP (oI .i64) (oI .i64)) g (wa J 7 (W7 0 rfl ?_))
   refine wO J 1 h fun j k h=>Yc J YR k ?_
   refine wB J 4 h (fun h=>wa J 23 (Yl (oi h▸wr J 5 func63 []))) fun h=>wa J 1 (W7 1 rfl ?_)
   refine wO J 1 h fun l m h=>Yc J YR m ?_
   refine wB J 5 h (fun h=>wa J 14 (Yl (oi h▸wr J 5 func63 []))) fun h=>wa J 1 (W7 0 rfl ?_)
   refine wO J 1 h fun o p h=>Yc J YR p (wa J 3 (W7 1 rfl ?_))
   refine wO J 1 h fun q s h=>Yc J YR s (wa J 4 (Yl ?_))
   exact eB h (fun h=>oi h▸wr J 5 func63 []) fun h=>wa J 7 (Z2 [] (ih14 (Z1 (e+1)) h))
  exact Z2 [] (ih N 0 h)
 refine wa J 1 (Yn (σ:=Int) (fun st=>(QR c.Zw c.Zy d [(1,.S 2),(2,.B 3 0),(13,.S 0),(14,.I (c.Zw.length:Int)),(15,.I st)])) (fun n st=>SZ N c d n st) (r:=r) (fun _=>rfl) ?_ (fun ih=>?_))
 ·intro n14 ih15
  intro t h
  unfold SZ at h
  refine Z7 J 5 h (fun h=>wa J 2 (Z2 [] (j1 () h))) fun h=>?_
  refine wO J 6 h fun u v h=>Yc J Uv v (wa J 20 (Yf (σ:=Int × Int) (fun st=>(ZlT u st.1 st.2 c.Zw c.Zy d [(1,.S 2),(2,.B 3 0),(6,.B 5 0),(7,.B 6 0),(13,.S 0),(14,.I (c.Zw.length:Int)),(15,.I t)])) (fun st=>Zca t (SZ N c d n14) u st.1 st.2=some r) ?_ (fun j22=>?_)))
  ·rintro ⟨x,y⟩ h
   unfold Zca at h
   refine wa J 2 (W7 0 rfl (wa J 1 (W7 1 rfl ?_)))
   exact wB J 6 h (fun h=>oi h▸wr J 5 func63 []) fun h=>wa J 7 (Z2 [] (ih15 (Z1 (t+1)) h))
  refine wa J 1 (Yn (σ:=Int × Int × Int) (fun st=>(ZlT u st.1 st.2.1 c.Zw c.Zy d [(1,.S 2),(2,.B 3 0),(6,.B 5 0),(7,.B 6 0),(13,.S 0),(14,.I (c.Zw.length:Int)),(15,.I t),(24,.a [.I u.X,.I u.Y]),(25,.I st.2.2)])) (fun n st=>Tt N d t (SZ N c d n14) u n st.1 st.2.1 st.2.2) (r:=r) (fun _=>rfl) ?_ (fun ih=>?_))
  ·intro n16 ih24
   rintro ⟨z,A,C⟩ h
   unfold Tt at h
   refine Z7 J 5 h (fun h=>wa J 2 (Z2 [] (j22 (z,A) h))) fun h=>?_
   refine wO J 7 h fun D G h=>Bv (SC.i .i64) ([u.X,u.Y]:List Int) G ?_
   refine wB J 9 h (fun h=>wa J 6 (Z2 [] (ih24 (z,A,(Z1 (C+1))) h))) fun h=>?_
   refine wO J 7 h fun H R h=>Yc J YR R ?_
   refine wB J 4 h (fun h=>oi h▸wr J 5 func63 []) fun h=>?_
   refine wO J 6 h fun T U h=>Yc J YR U ?_
   refine wO J 1 h fun Z a0 h=>Z6 (DS N T _ a0) [] [] ?_
   obtain ⟨K,h⟩|⟨K,h⟩:=oc h
   ·exact W7 0 (by exact eq_of_beq K) (wa J 7 (Z2 [] (ih24 (Z,A,(Z1 (C+1))) h)))
   obtain ⟨K,h⟩|⟨K,h⟩:=oc h
   ·exact W7 1 (by exact eq_of_beq K) (wa J 7 (Z2 [] (ih24 (z,Z,(Z1 (C+1))) h)))
   cases h
  exact Z2 [] (ih N (0,0,0) h)
 exact Z2 [] (ih N 0 h)
theorem Zlp (N:Nat) (c:(List T0)) (d:Int) (e:(List T12)) (f:(List T12)) (r:Bool) (h:L4 N c d e f=some r) :
 Fn Tryz.prog 27 ⟨3,[.S 0,.I d,.S 1,.S 2],[(0,.sl Ys c),(1,.sl Ym e),(2,.sl Ym f)],[],3,.O r,[],[]⟩:=by
 refine Ya func27 rfl (fun E F w=>?_)
 unfold L4 at h
 refine wO J 10 h fun g i h=>Z6 (Zf0 N c d f _ i) [] [(0,.sl 0),(1,.sl 2)] ?_
 refine wB J 2 h (fun h=>oi h▸wr J 15 func27 []) fun h=>?_
 refine wO J 2 h fun j k h=>Yc J Xu k ?_
 refine wO J 3 h fun l m h=>Z6 (Zf7 N j.Zz e _ m) [] [(0,.sl 4),(1,.sl 1)] ?_
 refine wB J 3 h (fun h=>oi h▸wr J 5 func27 []) fun h=>?_
 refine wO J 6 h fun o p h=>Yc J Xu p ?_
 refine wO J 11 h fun q s h=>Z6 (Zf3 N o e f _ s) [] [(0,.sl 8),(1,.sl 9),(2,.sl 10),(3,.sl 1),(4,.sl 2)] ?_
 have ⟨t,u,h⟩:=ob h
 refine X2 (ZlB N o.ZB q _ u) [] [(0,.sl 9),(1,.sl 10),(2,.sl 12)] [12] (.inr ⟨rfl,trivial⟩) (wa J 1 (Yl ?_))
 cases h
 exact YW J func27 []
theorem Zlh (N:Nat) (d:ByteArray) (r:Bool) (h:z232 N d=some r) :
 Fn Tryz.prog 232 ⟨0,[.c (.s d)],[],[],0,.O r,[],[]⟩:=by
 refine Ya func232 rfl (fun E F w=>?_)
 unfold z232 at h
 exact oi h▸wr J 11 func232 []
theorem Zun (N:Nat) (d:ByteArray) (e:ByteArray) (r:Int) (h:PY N d e=some r) :
 Fn Tryz.prog 199 ⟨0,[.c (.s d),.c (.s e)],[],[],0,.I r,[],[]⟩:=by
 refine Ya func199 rfl (fun E F w=>?_)
 unfold PY at h
 refine wO J 7 h fun f g h=>Z6 (Zlh N d _ g) [] [] ?_
 refine wO J 5 h fun i j h=>Z6 (Zlh N e _ j) [] [] ?_
 refine wB J 7 h (fun h=>?_) fun h=>?_
 ·exact wB J 6 h (fun h=>oi h▸wr J 5 func199 []) fun h=>oi h▸wr J 6 func199 []
 refine wB J 7 h (fun h=>oi h▸wr J 5 func199 []) fun h=>?_
 refine wB J 9 h (fun h=>oi h▸wr J 5 func199 []) fun h=>?_
 exact wB J 9 h (fun h=>oi h▸wr J 5 func199 []) fun h=>oi h▸wr J 6 func199 []
theorem Zk5 (N:Nat) (c:T12) (d:T12) (r:Int) (h:LF N c d=some r) :
 Fn Tryz.prog 143 ⟨0,[.a (W5 c),.a (W5 d)],[],[],0,.I r,[],[]⟩:=by
 refine Ya func143 rfl (fun E F w=>?_)
 unfold LF at h
 refine wO J 12 h fun e f h=>Z6 (Dr N c.Zt d.Zt _ f) [] [] ?_
 refine wO J 4 h fun g i h=>Z6 (Dr N c.N d.N _ i) [] [] ?_
 refine wO J 6 h fun j k h=>Z6 (Dr N (c.S.size:Int) (d.S.size:Int) _ k) [] [] ?_
 refine wO J 4 h fun l m h=>Z6 (Zun N c.S d.S _ m) [] [] (YS J [] (oI .i64) ([e,g,j,l]:List Int) ?_)
 have ⟨o,p,h⟩:=ob h
 refine X2 (Zlc N ([e,g,j,l]:List Int) _ p) [] [(0,.sl 2)] [2] (.inr ⟨rfl,trivial⟩) (wa J 1 (Yl ?_))
 cases h
 exact YW J func143 []
theorem ZtG (N:Nat) (c:T12) (d:T12) (r:Bool) (h:UA N c d=some r) :
 Fn Tryz.prog 142 ⟨0,[.a (W5 c),.a (W5 d)],[],[],0,.O r,[],[]⟩:=by
 refine Ya func142 rfl (fun E F w=>?_)
 unfold UA at h
 refine wO J 10 h fun e f h=>Z6 (Zk5 N c d _ f) [] [] ?_
 exact oi h▸wr J 3 func142 []
theorem ZtF (N:Nat) (d:(List T12)) (e:(List T12)) (r:Bool) (h:GV N d e=some r) :
 Fn Tryz.prog 141 ⟨2,[.S 0,.S 1,.c (.cl 142 [] [])],[(0,.sl Ym d),(1,.sl Ym e)],[],2,.O r,[],[]⟩:=by
 refine Ya func141 rfl (fun E F w=>?_)
 unfold GV at h
 refine wB J 13 h (fun h=>oi h▸wr J 5 func141 []) fun h=>wa J 9 (Yf (σ:=Unit) (fun st=>(QS d e [])) (fun st=>Ze4=some r) ?_ (fun j1=>?_))
 ·intro _ h
  unfold Ze4 at h
  exact oi h▸wr J 4 func141 []
 refine wa J 1 (Yn (σ:=Int) (fun st=>(QS d e [(1,.S 1),(2,.c (.cl 142 [] [])),(15,.S 0),(16,.I (d.length:Int)),(17,.I st)])) (fun n st=>SG N d e n st) (r:=r) (fun _=>rfl) ?_ (fun ih=>?_))
 ·intro n2 ih3
  intro f h
  unfold SG at h
  refine Z7 J 5 h (fun h=>wa J 2 (Z2 [] (j1 () h))) fun h=>?_
  refine wO J 7 h fun g i h=>Yc J YR i ?_
  refine wO J 9 h fun j k h=>Yc J YR k ?_
  refine wO J 9 h fun l m h=>Z6 (ZtG N g j _ m) [] [] ?_
  exact wB J 2 h (fun h=>oi h▸wr J 5 func141 []) fun h=>wa J 7 (Z2 [] (ih3 (Z1 (f+1)) h))
 exact Z2 [] (ih N 0 h)
theorem ZvE (N:Nat) (c:(List T12)) (d:(List T12)) (r:Bool) (h:QO N c d=some r) :
 Fn Tryz.prog 85 ⟨2,[.S 0,.S 1],[(0,.sl Ym c),(1,.sl Ym d)],[],2,.O r,[],[]⟩:=by
 refine Ya func85 rfl (fun E F w=>?_)
 unfold QO at h
 refine wO J 8 h fun e f h=>Z6 (ZtF N c d _ f) [] [(0,.sl 0),(1,.sl 1)] ?_
 exact oi h▸wr J 2 func85 []
theorem ZvF (N:Nat) (c:(List T0)) (d:Int) (e:(List T12)) (f:(List T12)) (r:(List T12) × Int) (h:RI N c d e f=some r) :
 Fn Tryz.prog 86 ⟨3,[.S 0,.I d,.S 1,.S 2],[(0,.sl Ys c),(1,.sl Ym e),(2,.sl Ym f)],[],4,.t [.inl (.sl 3),.inl (.I r.2)],[],[(3,.own Ym r.1 true)]⟩:=by
 refine Ya func86 rfl (fun E F w=>?_)
 unfold RI at h
 refine wO J 11 h fun g i h=>Z6 (Zf0 N c d f _ i) [] [(0,.sl 0),(1,.sl 2)] ?_
 refine wB J 2 h (fun h=>oi h▸wr J 6 func86 [(3,.nil)]) fun h=>?_
 refine wO J 7 h fun j k h=>Yc J Xu k ?_
 refine wO J 3 h fun l m h=>Z6 (Zf7 N j.Zz e _ m) [] [(0,.sl 4),(1,.sl 1)] ?_
 refine wB J 2 h (fun h=>oi h▸wr J 6 func86 [(3,.nil)]) fun h=>?_
 refine wO J 6 h fun o p h=>Yc J Xu p ?_
 refine wO J 3 h fun q s h=>Z6 (Zf3 N o e f _ s) [] [(0,.sl 8),(1,.sl 9),(2,.sl 10),(3,.sl 1),(4,.sl 2)] ?_
 exact oi h▸wr J 3 func86 [(3,.sl 11)]
theorem Zlt (N:Nat) (c:T5) (d:T8) (e:Yt) (f:T3) (r:Yt × Int) (h:SX N c d e f=some r) :
 Fn Tryz.prog 33 ⟨10,[.a (YH 0 1 2 3 c),.a (YM 4 5 6 d),.a (X8 7 8 e),.a (W6 9 f)],((0,.sl rS c.ZI)::(1,.sl Ys c.ZJ)::(2,.sl Xb c.ZO)::(3,.sl YN c.ZP)::(4,.sl rB d.ZT)::(5,.sl Wh d.ZU)::(6,.sl YN d.ZP)::Wm 7 8 e [(9,.sl Ym f.ZV)]),[],12,.t [.inr (X8 10 11 r.1),.inl (.I r.2)],(Wm 10 11 r.1 []),[]⟩:=by
 refine Ya func33 rfl (fun E F w=>?_)
 unfold SX at h
 refine wO J 14 h fun g i h=>Z6 (ZvB N d.ZU e f _ i) [] [(0,.sl 5),(1,.bp 12 0),(2,.sl 7),(3,.sl 8),(4,.bp 13 0),(5,.sl 9)] ?_
 refine wB J 13 h (fun h=>oi h▸wr J 7 func33 [(10,.nil),(11,.nil)]) fun h=>?_
 refine wB J 7 h (fun h=>oi h▸wr J 7 func33 [(10,.nil),(11,.nil)]) fun h=>?_
 refine wO J 7 h fun j k h=>Yc J Xu k ?_
 refine wO J 4 h fun l m h=>Z6 (ZvD N j.Zz f.ZV _ m) [] [(0,.sl 16),(1,.sl 9)] (wa J 2 (Yl ?_))
 refine eB h (fun h=>oi h▸wr J 7 func33 [(10,.nil),(11,.nil)]) fun h=>?_
 refine wO J 12 h fun o p h=>Z6 (Zlp N c.ZJ f.ZD f.ZV e.ZW _ p) [] [(0,.sl 1),(1,.sl 9),(2,.sl 7)] (wa J 3 (Yf (σ:=Bool) (fun st=>⟨[(4,.B 10 0),(5,.B 11 0),(6,.B 12 0),(7,.B 13 0),(8,.B 14 0),(10,.I g),(40,.O st)],[(10,.box (YH 0 1 2 3 c) 27),(11,.box (YM 4 5 6 d) 31),(12,.box (X8 7 8 e) 42),(13,.box (W6 9 f) 48),(14,.box [.I 0,.nil,.nil] 42)],((0,.sl rS c.ZI)::(1,.sl Ys c.ZJ)::(2,.sl Xb c.ZO)::(3,.sl YN c.ZP)::(4,.sl rB d.ZT)::(5,.sl Wh d.ZU)::(6,.sl YN d.ZP)::Wm 7 8 e [(9,.sl Ym f.ZV)]),19⟩) (fun st=>RA N c d e f g st=some r) ?_ (fun j1=>?_)))
 ·intro q h
  unfold RA at h
  refine eB h (fun h=>oi h▸wr J 7 func33 [(10,.nil),(11,.nil)]) fun h=>?_
  refine wO J 8 h fun s u h=>Yc J XM u ?_
  refine wO J 16 h fun v x h=>Z6 (ZvF N c.ZJ f.ZD f.ZV e.ZW _ x) [] [(0,.sl 1),(1,.sl 9),(2,.sl 7)] ?_
  refine Z7 J 12 h (fun h=>wa J 8 (Uq [21] ?_)) fun h=>?_
  ·cases h
   exact YW J func33 [(10,.sl 21),(11,.nil)]
  refine wO J 4 h fun y z h=>Z6 (ZfO N f.ZV _ z) [] [(0,.sl 9)] (wa J 9 (Uq [21] (Uq [22] ?_)))
  cases h
  exact YW J func33 [(10,.sl 21),(11,.sl 22)]
 refine eB h (fun h=>wa J 2 (Z2 [] (j1 true h))) fun h=>?_
 refine wO J 5 h fun A C h=>Yc J XM C ?_
 refine Z7 J 3 h (fun h=>wa J 9 (Z2 [] (j1 false h))) fun h=>?_
 exact wO J 4 h fun D G h=>Z6 (ZvE N f.ZV e.ZX _ G) [] [(0,.sl 9),(1,.sl 8)] (wa J 4 (Z2 [] (j1 (!D) h)))
theorem Zlv (N:Nat) (c:T5) (d:T8) (e:(List T3)) (r:Yt × Int × Int) (h:Hb N c d e=some r) :
 Fn Tryz.prog 36 ⟨8,[.a (YH 0 1 2 3 c),.a (YM 4 5 6 d),.S 7],((0,.sl rS c.ZI)::(1,.sl Ys c.ZJ)::(2,.sl Xb c.ZO)::(3,.sl YN c.ZP)::YP 4 5 6 d [(7,.sl Xf e)]),[],10,.t [.inr (X8 8 9 r.1),.inl (.I r.2.1),.inl (.I r.2.2)],(Wm 8 9 r.1 []),[]⟩:=by
 refine Ya func36 rfl (fun E F w=>?_)
 unfold Hb at h
 refine wO J 12 h fun f g h=>Z6 (Ze2 N c d _ g) [] [(0,.sl 0),(1,.sl 1),(2,.sl 2),(3,.sl 3),(4,.sl 4),(5,.sl 5),(6,.sl 6)] ?_
 refine wO J 8 h fun i j h=>Z6 (ZbK N c d f _ j) [] [(0,.sl 0),(1,.sl 1),(2,.sl 2),(3,.sl 3),(4,.sl 4),(5,.sl 5),(6,.sl 6),(7,.sl 11),(8,.sl 12)] ?_
 refine wB J 2 h (fun h=>oi h▸wr J 8 func36 [(8,.nil),(9,.nil)]) fun h=>wa J 9 (Yf (σ:=Int × (List T12) × (List T12)) (fun st=>⟨[(2,.S 7),(6,.B 10 0)],[(10,.box [.I st.1,.sl 13,.sl 14] 42)],((0,.sl rS c.ZI)::(1,.sl Ys c.ZJ)::(2,.sl Xb c.ZO)::(3,.sl YN c.ZP)::YP 4 5 6 d [(7,.sl Xf e),(13,.sl Ym st.2.1),(14,.sl Ym st.2.2)]),15⟩) (fun st=>ZfT e st.1 st.2.1 st.2.2=some r) ?_ (fun j1=>?_))
 ·rintro ⟨k,l,m⟩ h
  unfold ZfT at h
  exact oi h▸wr J 9 func36 [(8,.sl 13),(9,.sl 14)]
 refine wa J 1 (Yn (σ:=Int × (List T12) × (List T12) × Int) (fun st=>⟨[(2,.S 7),(3,.B 8 0),(4,.B 9 0),(6,.B 10 0),(22,.S 7),(23,.I (e.length:Int)),(24,.I st.2.2.2)],[(8,.box (YH 0 1 2 3 c) 27),(9,.box (YM 4 5 6 d) 31),(10,.box [.I st.1,.sl 13,.sl 14] 42)],((0,.sl rS c.ZI)::(1,.sl Ys c.ZJ)::(2,.sl Xb c.ZO)::(3,.sl YN c.ZP)::YP 4 5 6 d [(7,.sl Xf e),(13,.sl Ym st.2.1),(14,.sl Ym st.2.2.1)]),15⟩) (fun n st=>Zb2 N c d e n st.1 st.2.1 st.2.2.1 st.2.2.2) (r:=r) (fun _=>rfl) ?_ (fun ih=>?_))
 ·intro n2 ih3
  rintro ⟨o,p,q,s⟩ h
  unfold Zb2 at h
  refine Z7 J 5 h (fun h=>wa J 2 (Z2 [] (j1 (o,p,q) h))) fun h=>?_
  refine wO J 7 h fun u v h=>Yc J Uw v ?_
  refine wO J 11 h fun x y h=>Z6 (Zlt N c d (⟨o,p,q⟩:Yt) u _ y) [] [(0,.sl 0),(1,.sl 1),(2,.sl 2),(3,.sl 3),(4,.sl 4),(5,.sl 5),(6,.sl 6),(7,.sl 13),(8,.sl 14),(9,.sl 16)] ?_
  exact wB J 13 h (fun h=>oi h▸wr J 10 func36 [(8,.sl 13),(9,.sl 14)]) fun h=>wa J 11 (Z2 [(13,.sl 18),(14,.sl 19)] (ih3 (x.1.At,x.1.ZW,x.1.ZX,(Z1 (s+1))) h))
 exact Z2 [(13,.sl 11),(14,.sl 12)] (ih N (f.At,f.ZW,f.ZX,0) h)
theorem Zu9 (N:Nat) (c:(List T3)) (r:(List T3)) (h:z38 N c=some r) :
 Fn Tryz.prog 38 ⟨1,[.S 0],[(0,.sl Xf c)],[],2,.S 1,[],[(1,.own Xf r true)]⟩:=by
 refine Ya func38 rfl (fun E F w=>?_)
 unfold z38 at h
 refine wa J 8 (eNi Xf c false ?_)
 intro nb hnb
 cases nb
 ·refine wa J 5 (YS J [] Uw ([]:List T3) ?_)
  refine wO J 1 h fun d e h=>Xc J Xf e ?_
  exact oi h▸wr J 2 func38 [(1,.sl 2)]
 ·obtain rfl:=hnb rfl
  replace h:(some ([]:List T3):Option (List T3))=some r:=h
  exact oi h▸wr J 6 func38 [(1,.nil)]
theorem Zur (N:Nat) (c:(List T0)) (d:Int) (e:(List T12)) (f:(List T12)) (r:(List T12)) (h:Zfy N c d e f=some r) :
 Fn Tryz.prog 204 ⟨3,[.S 0,.I d,.S 1,.S 2],[(0,.sl Ys c),(1,.sl Ym e),(2,.sl Ym f)],[],4,.S 3,[],[(3,.own Ym r true)]⟩:=by
 refine Ya func204 rfl (fun E F w=>?_)
 unfold Zfy at h
 refine wa J 6 (YS J [] YR ([]:List T12) ?_)
 refine wO J 1 h fun g i h=>Xc J Ym i ?_
 refine wO J 7 h fun j k h=>Yc J Xu k ?_
 refine wO J 2 h fun l m h=>TK J Ym m ?_
 refine wO J 1 h fun o p h=>eCw J Ym p ?_
 exact oi h▸wr J 6 func204 [(3,.sl 4)]
theorem Zlj (N:Nat) (c:(List T12)) (d:Int) (r:Int × Bool) (h:ZbJ N c d=some r) :
 Fn Tryz.prog 239 ⟨1,[.S 0,.I d],[(0,.sl Ym c)],[],1,.t [.inl (.I r.1),.inl (.b r.2)],[],[]⟩:=by
 refine Ya func239 rfl (fun E F w=>?_)
 unfold ZbJ at h
 refine wB J 11 h (fun h=>oi h▸wr J 6 func239 []) fun h=>?_
 refine wO J 6 h fun e f h=>Yc J YR f ?_
 refine wO J 1 h fun g i h=>Z6 (ZkP N e _ i) [] [] ?_
 refine wO J 2 h fun j k h=>Yc J YR k (wa J 5 (Yl ?_))
 cases h
 exact YW J func239 []
theorem Zuq (N:Nat) (c:T6) (d:(List T12)) (r:Int × Bool) (h:Zfv N c d=some r) :
 Fn Tryz.prog 203 ⟨3,[.a [.sl 0,.sl 1],.S 2],[(0,.sl Xe c.Zw),(1,.sl (rP (rI .i64) (rI .i64)) c.Zy),(2,.sl Ym d)],[],3,.t [.inl (.I r.1),.inl (.b r.2)],[],[]⟩:=by
 refine Ya func203 rfl (fun E F w=>?_)
 unfold Zfv at h
 refine wa J 14 (Yf (σ:=Unit) (fun st=>(QR c.Zw c.Zy d [(1,.S 2),(2,.B 3 0)])) (fun st=>Zfx N c d=some r) ?_ (fun j1=>?_))
 ·intro _ h
  unfold Zfx at h
  refine wa J 8 (Yf (σ:=Unit) (fun st=>(Zcw c.Zw c.Zy d [])) (fun st=>Zfw=some r) ?_ (fun j3=>?_))
  ·intro _ h
   unfold Zfw at h
   exact oi h▸wr J 5 func203 []
  refine wa J 1 (Yn (σ:=Int) (fun st=>(QR c.Zw c.Zy d [(1,.S 2),(2,.B 3 0),(55,.S 1),(56,.I (c.Zy.length:Int)),(57,.I st)])) (fun n st=>Zbq c d n st) (r:=r) (fun _=>rfl) ?_ (fun ih=>?_))
  ·intro n3 ih5
   intro e h
   unfold Zbq at h
   refine Z7 J 5 h (fun h=>wa J 2 (Z2 [] (j3 () h))) fun h=>?_
   refine wO J 7 h fun f g h=>Yc J (oP (oI .i64) (oI .i64)) g (wa J 8 (W7 0 rfl ?_))
   refine wO J 1 h fun i j h=>Yc J YR j (wa J 2 (W7 1 rfl ?_))
   refine wO J 1 h fun k l h=>Yc J YR l (wa J 5 (Yl ?_))
   refine wB J 6 h (fun h=>oi h▸wr J 23 func203 []) fun h=>?_
   refine wB J 5 h (fun h=>oi h▸wr J 18 func203 []) fun h=>?_
   exact wB J 7 h (fun h=>oi h▸wr J 11 func203 []) fun h=>wa J 7 (Z2 [] (ih5 (Z1 (e+1)) h))
  exact Z2 [] (ih N 0 h)
 refine wa J 1 (Yn (σ:=Int) (fun st=>(QR c.Zw c.Zy d [(1,.S 2),(2,.B 3 0),(17,.S 0),(18,.I (c.Zw.length:Int)),(19,.I st)])) (fun n st=>Zbr N c d n st) (r:=r) (fun _=>rfl) ?_ (fun ih=>?_))
 ·intro n4 ih6
  intro m h
  unfold Zbr at h
  refine Z7 J 5 h (fun h=>wa J 2 (Z2 [] (j1 () h))) fun h=>?_
  refine wO J 7 h fun o p h=>Yc J Uv p ?_
  refine wO J 10 h fun q s h=>Z6 (Zlj N d o.X _ s) [] [(0,.sl 2)] ?_
  refine wO J 11 h fun u v h=>Z6 (Zlj N d o.Y _ v) [] [(0,.sl 2)] ?_
  refine wB J 11 h (fun h=>oi h▸wr J 19 func203 []) fun h=>?_
  refine wB J 4 h (fun h=>oi h▸wr J 15 func203 []) fun h=>?_
  exact wB J 8 h (fun h=>oi h▸wr J 7 func203 []) fun h=>wa J 7 (Z2 [] (ih6 (Z1 (m+1)) h))
 exact Z2 [] (ih N 0 h)
theorem Zus (N:Nat) (c:(List T12)) (d:(List T12)) (r:Int) (h:Zfz N c d=some r) :
 Fn Tryz.prog 205 ⟨2,[.S 0,.S 1],[(0,.sl Ym c),(1,.sl Ym d)],[],2,.I r,[],[]⟩:=by
 refine Ya func205 rfl (fun E F w=>?_)
 unfold Zfz at h
 refine wa J 11 (Yf (σ:=Unit) (fun st=>(QS c d [(0,.S 0)])) (fun st=>ZfA c=some r) ?_ (fun j1=>?_))
 ·intro _ h
  unfold ZfA at h
  exact oi h▸wr J 6 func205 []
 refine wa J 1 (Yn (σ:=Int) (fun st=>(QS c d [(0,.S 0),(1,.S 1),(7,.I (c.length:Int)),(8,.I st)])) (fun n st=>Zbs N c d n st) (r:=r) (fun _=>rfl) ?_ (fun ih=>?_))
 ·intro n2 ih3
  intro e h
  unfold Zbs at h
  refine Z7 J 5 h (fun h=>wa J 2 (Z2 [] (j1 () h))) fun h=>?_
  refine wB J 16 h (fun h=>wa J 11 (Yl (oi h▸wr J 6 func205 []))) fun h=>?_
  refine wO J 2 h fun f g h=>Yc J YR g ?_
  refine wO J 3 h fun i j h=>Yc J YR j ?_
  refine wO J 1 h fun k l h=>Z6 (Zk5 N f i _ l) [] [] (wa J 2 (Yl ?_))
  exact eB h (fun h=>oi h▸wr J 6 func205 []) fun h=>wa J 7 (Z2 [] (ih3 (Z1 (e+1)) h))
 exact Z2 [] (ih N 0 h)
theorem ZtL (N:Nat) (c:T5) (d:Yt) (e:T3) (f:Int) (r:Int × Int) (h:Zfb N c d e f=some r) :
 Fn Tryz.prog 150 ⟨7,[.a (YH 0 1 2 3 c),.a (X8 4 5 d),.a (W6 6 e),.I f],((0,.sl rS c.ZI)::(1,.sl Ys c.ZJ)::(2,.sl Xb c.ZO)::(3,.sl YN c.ZP)::Wm 4 5 d [(6,.sl Ym e.ZV)]),[],7,.t [.inl (.I r.1),.inl (.I r.2)],[],[]⟩:=by
 refine Ya func150 rfl (fun E F w=>?_)
 unfold Zfb at h
 refine wB J 19 h (fun h=>oi h▸wr J 6 func150 []) fun h=>?_
 refine wB J 6 h (fun h=>oi h▸wr J 6 func150 []) fun h=>?_
 refine wO J 9 h fun g i h=>Yc J Xu i ?_
 refine wB J 15 h (fun h=>oi h▸wr J 6 func150 []) fun h=>wa J 10 (Yf (σ:=Unit) (fun st=>(ZlU c d e g c.ZI c.ZJ c.ZO c.ZP e.ZV [(4,.B 7 0),(5,.B 8 0),(6,.B 9 0),(10,.B 14 0)])) (fun st=>Zfc N c d e g=some r) ?_ (fun j1=>?_))
 ·intro _ h
  unfold Zfc at h
  refine wO J 13 h fun j k h=>Z6 (Zur N c.ZJ e.ZD e.ZV d.ZW _ k) [] [(0,.sl 1),(1,.sl 6),(2,.sl 4)] ?_
  have ⟨l,m,h⟩:=ob h
  refine X2 (Zuq N g.ZB j _ m) [] [(0,.sl 12),(1,.sl 13),(2,.sl 15)] [15] (.inr ⟨rfl,trivial⟩) (wa J 5 (Yl ?_))
  refine wB J 4 h (fun h=>oi h▸wr J 7 func150 []) fun h=>?_
  refine wO J 8 h fun o p h=>Z6 (Zus N e.ZV d.ZX _ p) [] [(0,.sl 6),(1,.sl 5)] ?_
  exact oi h▸wr J 3 func150 []
 refine wa J 1 (Yn (σ:=Int) (fun st=>(ZlU c d e g c.ZI c.ZJ c.ZO c.ZP e.ZV [(4,.B 7 0),(5,.B 8 0),(6,.B 9 0),(10,.B 14 0),(34,.S 11),(35,.I (g.Zz.length:Int)),(36,.I st)])) (fun n st=>ZaZ N c d e g n st) (r:=r) (fun _=>rfl) ?_ (fun ih=>?_))
 ·intro n2 ih3
  intro q h
  unfold ZaZ at h
  refine Z7 J 5 h (fun h=>wa J 2 (Z2 [] (j1 () h))) fun h=>?_
  refine wO J 7 h fun s u h=>Yc J WE u ?_
  refine wO J 12 h fun v x h=>Yc J YR x ?_
  refine wO J 1 h fun y z h=>Z6 (ZfX N s.Zv v _ z) [] [] (wa J 1 (Yl ?_))
  exact eB h (fun h=>oi h▸wr J 7 func150 []) fun h=>wa J 7 (Z2 [] (ih3 (Z1 (q+1)) h))
 exact Z2 [] (ih N 0 h)
theorem ZvI (N:Nat) (c:T5) (d:T8) (e:(List T3)) (r:TC × Bool × Int) (h:z90 N c d e=some r) :
 Fn Tryz.prog 90 ⟨8,[.a (YH 0 1 2 3 c),.a (YM 4 5 6 d),.S 7],((0,.sl rS c.ZI)::(1,.sl Ys c.ZJ)::(2,.sl Xb c.ZO)::(3,.sl YN c.ZP)::YP 4 5 6 d [(7,.sl Xf e)]),[],8,.t [.inr (ZgQ r.1),.inl (.b r.2.1),.inl (.I r.2.2)],[],[]⟩:=by
 refine Ya func90 rfl (fun E F w=>?_)
 unfold z90 at h
 refine wO J 13 h fun f g h=>Z6 (Zlv N c d e _ g) [] [(0,.sl 0),(1,.sl 1),(2,.sl 2),(3,.sl 3),(4,.sl 4),(5,.sl 5),(6,.sl 6),(7,.sl 7)] (wa J 21 (Yf (σ:=Bool) (fun st=>⟨[(2,.S 7),(3,.B 8 0),(4,.B 9 0),(6,.B 10 0),(8,.I f.2.2),(9,.B 13 0),(10,.I f.2.1),(21,.O st)],[(8,.box (YH 0 1 2 3 c) 27),(9,.box (YM 4 5 6 d) 31),(10,.box [.I 0,.I 0,.I 0,.I 0] 156),(13,.box (X8 11 12 f.1) 42)],((0,.sl rS c.ZI)::(1,.sl Ys c.ZJ)::(2,.sl Xb c.ZO)::(3,.sl YN c.ZP)::(4,.sl rB d.ZT)::(5,.sl Wh d.ZU)::(6,.sl YN d.ZP)::(7,.sl Xf e)::Wm 11 12 f.1 []),14⟩) (fun st=>Zcp N c d e f st=some r) ?_ (fun j1=>?_)))
 ·intro i h
  unfold Zcp at h
  refine eB h (fun h=>oi h▸wr J 9 func90 []) fun h=>?_
  refine wO J 7 h fun j k h=>Yc J Uw k ?_
  refine wO J 16 h fun l m h=>Z6 (ZtL N c f.1 j f.2.2 _ m) [] [(0,.sl 0),(1,.sl 1),(2,.sl 2),(3,.sl 3),(4,.sl 11),(5,.sl 12),(6,.sl 15)] ?_
  refine wB J 17 h (fun h=>oi h▸wr J 15 func90 []) fun h=>?_
  exact wB J 7 h (fun h=>oi h▸wr J 15 func90 []) fun h=>oi h▸wr J 15 func90 []
 exact eB h (fun h=>wa J 2 (Z2 [] (j1 true h))) fun h=>wa J 5 (Z2 [] (j1 (f.2.2==1) h))
theorem Za0 (N:Nat) (d:(List ByteArray)) (e:Int) (r:ByteArray) (h:LH N d e=some r) :
 Fn Tryz.prog 151 ⟨1,[.S 0,.I e],[(0,.sl rS d)],[],1,.c (.s r),[],[]⟩:=by
 refine Ya func151 rfl (fun E F w=>?_)
 unfold LH at h
 refine wB J 10 h (fun h=>oi h▸wr J 11 func151 []) fun h=>?_
 refine wB J 6 h (fun h=>oi h▸wr J 5 func151 []) fun h=>?_
 refine wO J 6 h fun f g h=>Yc J oS g ?_
 exact oi h▸wr J 3 func151 []
theorem ZtM (N:Nat) (c:(List T0)) (r:(List ByteArray)) (h:Zfd N c=some r) :
 Fn Tryz.prog 152 ⟨1,[.S 0],[(0,.sl Ys c)],[],2,.S 1,[],[(1,.own rS r true)]⟩:=by
 refine Ya func152 rfl (fun E F w=>?_)
 unfold Zfd at h
 refine wa J 15 (Yf (σ:=(List ByteArray)) (fun st=>⟨[(3,.S 1)],[(1,.own rS st true)],[(0,.sl Ys c)],2⟩) (fun st=>Zfe st=some r) ?_ (fun j1=>?_))
 ·intro d h
  unfold Zfe at h
  exact oi h▸wr J 5 func152 [(1,.sl 1)]
 refine wa J 1 (Yn (σ:=(List ByteArray) × Int) (fun st=>⟨[(3,.S 1),(6,.S 0),(7,.I (c.length:Int)),(8,.I st.2)],[(1,.own rS st.1 true)],[(0,.sl Ys c)],2⟩) (fun n st=>Za1 c n st.1 st.2) (r:=r) (fun _=>rfl) ?_ (fun ih=>?_))
 ·intro n2 ih3
  rintro ⟨e,f⟩ h
  unfold Za1 at h
  refine Z7 J 5 h (fun h=>wa J 2 (Z2 [] (j1 e h))) fun h=>?_
  refine wO J 6 h fun g i h=>Yc J Xu i (wa J 8 (YS J [] oS ([g.Zu]:List ByteArray) ?_))
  have ⟨j,k,h⟩:=ob h
  exact Xc J rS k (wa J 7 (Z2 [(1,.sl 8)] (ih3 (j,(Z1 (f+1))) h)))
 exact Z2 [(1,.nil)] (ih N (([]:List ByteArray),0) h)
theorem ZtO (N:Nat) (c:ByteArray) (r:ByteArray) (h:Zfi N c=some r) :
 Fn Tryz.prog 155 ⟨1,[.B 0 0],[],[(0,.box [.v (.pointer none),.nil] 164)],2,.t [],[],[(1,.buf r 5),(0,.box [.bp 0 0,.sl 1] 164)]⟩:=by
 refine Ya func155 rfl (fun E F w=>?_)
 unfold Zfi at h
 refine wa J 6 (ePz (wa J 5 (eCu (eNe func207 (by kernel_rfl) (by kernel_rfl) (by kernel_rfl) (by kernel_rfl) (eCq ?_)))))
 exact oi h▸wr J 4 func155 [(1,.nil)]
theorem Zut (N:Nat) (d:Int) (e:ByteArray) (r:Unit × ByteArray) (h:ZfB N d e=some r) :
 Fn Tryz.prog 206 ⟨1,[.B 0 0,.c (.i .u8 d)],[],[(0,.box [.v (.pointer none),.nil] 164)],2,.c (.v .nilIface),[],[(1,.buf r.2 5),(0,.box [.bp 0 0,.sl 1] 164)]⟩:=by
 refine Ya func206 rfl (fun E F w=>?_)
 unfold ZfB at h
 refine wO J 7 h fun f g h=>Z6 (ZtO N ByteArray.empty _ g) [] [(0,.bp 0 0)] (wa J 9 (YS J [] (oI .u8) ([d]:List Int) ?_))
 have ⟨j,k,h⟩:=ob h
 refine eBo (ty:=5) (fr:=true) (q:=2) J k ?_
 exact oi h▸wr J 8 func206 [(1,.sl 3)]
theorem ZtP (N:Nat) (c:ByteArray) (r:Unit) (h:Zfj N c=some r) :
 Fn Tryz.prog 155 ⟨2,[.B 0 0],[],[(0,.box [.bp 0 0,.sl 1] 164),(1,.buf c 5)],2,.t [],[],[(0,.box [.bp 0 0,.sl 1] 164),(1,.buf c 5)]⟩:=by
 refine Ya func155 rfl (fun E F w=>?_)
 unfold Zfj at h
 refine wa J 6 (ePn false (wa J 9 (ePs ?_)))
 cases h
 exact wr J 3 func155 []
theorem LV (N:Nat) (d:Int) (e:ByteArray) (r:Unit × ByteArray) (h:Qu N d e=some r) :
 Fn Tryz.prog 206 ⟨2,[.B 0 0,.c (.i .u8 d)],[],[(0,.box [.bp 0 0,.sl 1] 164),(1,.buf e 5)],3,.c (.v .nilIface),[],[(1,.gone),(2,.buf r.2 5),(0,.box [.bp 0 0,.sl 2] 164)]⟩:=by
 refine Ya func206 rfl (fun E F w=>?_)
 unfold Qu at h
 refine wO J 7 h fun f g h=>Z6 (ZtP N e _ g) [] [(0,.bp 0 0),(1,.sl 1)] (wa J 9 (YS J [] (oI .u8) ([d]:List Int) ?_))
 have ⟨j,k,h⟩:=ob h
 refine eBo (ty:=5) (fr:=true) (q:=2) J k ?_
 exact oi h▸wr J 8 func206 [(2,.sl 3)]
theorem ZvL (N:Nat) (d:ByteArray) (r:ByteArray) (h:Zgt N d=some r) :
 Fn Tryz.prog 95 ⟨2,[.B 0 0],[],[(0,.box [.bp 0 0,.sl 1] 164),(1,.buf d 5)],2,.c (.s r),[],[(0,.box [.bp 0 0,.sl 1] 164),(1,.gone)]⟩:=by
 refine Ya func95 rfl (fun E F w=>?_)
 unfold Zgt at h
 refine wO J 10 h fun e f h=>eUd (ty:=5) (Zib f) (wa J 4 (eBl (sb:=d) (ty:=5) J ?_))
 have ⟨g,i,h⟩:=ob h
 refine eUs (ty:=5) (Zib i) (wa J 1 (Yl ?_))
 cases h
 exact YW J func95 []
theorem Zk7 (N:Nat) (d:T12) (r:ByteArray) (h:Za3 N d=some r) :
 Fn Tryz.prog 154 ⟨1,[.a (W5 d)],[],[(0,.abs powT)],1,.c (.s r),[],[(0,.abs powT)]⟩:=by
 refine Ya func154 rfl (fun E F w=>?_)
 unfold Za3 at h
 refine wO J 10 h fun e f h=>Z6 (ZkQ N d _ f) [] [] ?_
 refine wB J 3 h (fun h=>oi h▸wr J 5 func154 []) fun h=>?_
 refine wB J 8 h (fun h=>?_) fun h=>?_
 ·refine wO J 5 h fun g i h=>Z6 (UW N d.N _ i) [] [(0,.sl 0)] ?_
  exact oi h▸wr J 2 func154 []
 refine wO J 9 h fun j k h=>Z6 (Zut N 34 ByteArray.empty _ k) [] [(0,.bp 2 0)] (wa J 9 (Yf (σ:=ByteArray) (fun st=>⟨[(3,.B 2 0)],[(0,.abs powT),(2,.box [.bp 2 0,.sl 4] 164),(4,.buf st 5)],[],5⟩) (fun st=>Zfh N st=some r) ?_ (fun j1=>?_)))
 ·intro l h
  unfold Zfh at h
  refine wO J 2 h fun m o h=>Z6 (LV N 34 l _ o) [] [(0,.bp 2 0),(1,.sl 4)] ?_
  refine wO J 3 h fun p q h=>Z6 (ZvL N m.2 _ q) [] [(0,.bp 2 0),(1,.sl 5)] ?_
  exact oi h▸wr J 2 func154 []
 refine wa J 1 (Yn (σ:=ByteArray × Int) (fun st=>⟨[(1,.B 1 0),(3,.B 2 0),(19,.I (d.S.size:Int)),(20,.I st.2)],[(0,.abs powT),(1,.box (W5 d) 74),(2,.box [.bp 2 0,.sl 4] 164),(4,.buf st.1 5)],[],5⟩) (fun n st=>LI N d n st.1 st.2) (r:=r) (fun _=>rfl) ?_ (fun ih=>?_))
 ·intro n2 ih3
  rintro ⟨t,u⟩ h
  unfold LI at h
  refine Z7 J 5 h (fun h=>wa J 2 (Z2 [] (j1 t h))) fun h=>?_
  refine wO J 15 h fun v x h=>Vh J x ?_
  refine wB J 2 h (fun h=>?_) fun h=>?_
  ·refine wO J 9 h fun y z h=>Z6 (LV N 92 t _ z) [] [(0,.bp 2 0),(1,.sl 4)] ?_
   refine wO J 5 h fun A C h=>Vh J C ?_
   have ⟨D,G,h⟩:=ob h
   exact Z6 (LV N A y.2 _ G) [] [(0,.bp 2 0),(1,.sl 5)] (wa J 6 (Z2 [(4,.sl 6)] (ih3 (D.2,(Z1 (u+1))) h)))
  refine wO J 3 h fun H R h=>Vh J R ?_
  refine Z7 J 3 h (fun h=>?_) fun h=>?_
  ·refine wO J 6 h fun T U h=>Vh J U ?_
   have ⟨X,Y,h⟩:=ob h
   exact Z6 (LV N T t _ Y) [] [(0,.bp 2 0),(1,.sl 4)] (wa J 6 (Z2 [(4,.sl 5)] (ih3 (X.2,(Z1 (u+1))) h)))
  refine wO J 2 h fun Z a0 h=>Z6 (LV N 92 t _ a0) [] [(0,.bp 2 0),(1,.sl 4)] ?_
  refine wO J 5 h fun b0 c0 h=>Vh J c0 ?_
  have ⟨d0,e0,h⟩:=ob h
  exact Z6 (LV N b0 Z.2 _ e0) [] [(0,.bp 2 0),(1,.sl 5)] (wa J 6 (Z2 [(4,.sl 6)] (ih3 (d0.2,(Z1 (u+1))) h)))
 exact Z2 [(4,.sl 3)] (ih N (j.2,0) h)
theorem ZtN (N:Nat) (d:(List T12)) (r:ByteArray) (h:Zff N d=some r) :
 Fn Tryz.prog 153 ⟨2,[.S 0],[(0,.sl Ym d)],[(1,.abs powT)],2,.c (.s r),[],[(1,.abs powT)]⟩:=by
 refine Ya func153 rfl (fun E F w=>?_)
 unfold Zff at h
 refine wa J 15 (Yf (σ:=(List ByteArray)) (fun st=>⟨[(3,.S 2)],[(1,.abs powT),(2,.own rS st true)],[(0,.sl Ym d)],3⟩) (fun st=>Zfg N st=some r) ?_ (fun j1=>?_))
 ·intro e h
  unfold Zfg at h
  refine wO J 3 h fun f g h=>X2 (Zb3 N e (str [44,32]) _ g) [] [(0,.sl 2)] [2] (.inr ⟨rfl,trivial⟩) ?_
  have ⟨i,j,h⟩:=ob h
  refine YO j ?_
  have ⟨k,l,h⟩:=ob h
  refine YO l ?_
  exact oi h▸wr J 2 func153 []
 refine wa J 1 (Yn (σ:=(List ByteArray) × Int) (fun st=>⟨[(3,.S 2),(6,.S 0),(7,.I (d.length:Int)),(8,.I st.2)],[(1,.abs powT),(2,.own rS st.1 true)],[(0,.sl Ym d)],3⟩) (fun n st=>Za2 N d n st.1 st.2) (r:=r) (fun _=>rfl) ?_ (fun ih=>?_))
 ·intro n2 ih3
  rintro ⟨m,o⟩ h
  unfold Za2 at h
  refine Z7 J 5 h (fun h=>wa J 2 (Z2 [] (j1 m h))) fun h=>?_
  refine wO J 6 h fun p q h=>Yc J YR q ?_
  refine wO J 7 h fun t u h=>Z6 (Zk7 N p _ u) [] [(0,.sl 1)] (YS J [] oS ([t]:List ByteArray) ?_)
  have ⟨v,x,h⟩:=ob h
  exact Xc J rS x (wa J 7 (Z2 [(2,.sl 6)] (ih3 (v,(Z1 (o+1))) h)))
 exact Z2 [(2,.nil)] (ih N (([]:List ByteArray),0) h)
theorem ZvJ (N:Nat) (d:T5) (e:T3) (r:ByteArray) (h:z91 N d e=some r) :
 Fn Tryz.prog 91 ⟨6,[.a (YH 0 1 2 3 d),.a (W6 4 e)],(Xk 0 1 2 3 d [(4,.sl Ym e.ZV)]),[(5,.abs powT)],6,.c (.s r),[],[(5,.abs powT)]⟩:=by
 refine Ya func91 rfl (fun E F w=>?_)
 unfold z91 at h
 refine wa J 17 (Yf (σ:=ByteArray × ByteArray) (fun st=>⟨[(2,.B 6 0),(3,.B 7 0),(5,.c (.s st.1)),(6,.c (.s st.2))],[(5,.abs powT),(6,.box (YH 0 1 2 3 d) 27),(7,.box (W6 4 e) 48)],(Xk 0 1 2 3 d [(4,.sl Ym e.ZV)]),8⟩) (fun st=>Zcq N d e st.1 st.2=some r) ?_ (fun j1=>?_))
 ·rintro ⟨f,g⟩ h
  unfold Zcq at h
  refine wO J 6 h fun i j h=>Z6 (Za0 N d.ZI e.ZS _ j) [] [(0,.sl 0)] ?_
  refine wO J 1 h fun k l h=>YO l ?_
  refine wO J 2 h fun m o h=>Z6 (ZtM N d.ZJ _ o) [] [(0,.sl 1)] ?_
  refine wO J 2 h fun p q h=>X2 (Za0 N m e.ZD _ q) [] [(0,.sl 8)] [8] (.inr ⟨rfl,trivial⟩) ?_
  have ⟨t,u,h⟩:=ob h
  refine YO u ?_
  refine wO J 2 h fun v x h=>Z6 (ZtN N e.ZV _ x) [] [(0,.sl 4),(1,.sl 5)] ?_
  have ⟨y,z,h⟩:=ob h
  refine YO z ?_
  refine wO J 1 h fun A C h=>YO C ?_
  refine wO J 4 h fun D G h=>Z6 (Za0 N d.ZI e.ZR _ G) [] [(0,.sl 0)] ?_
  have ⟨H,R,h⟩:=ob h
  refine YO R (wa J 1 (Yl ?_))
  cases h
  exact YW J func91 []
 exact eB h (fun h=>wa J 5 (Z2 [] (j1 ((str [32,115,101,110,100,115,32]),(str [32,116,111,32])) h))) fun h=>wa J 2 (Z2 [] (j1 ((str [32,103,101,116,115,32]),(str [32,102,114,111,109,32])) h))
theorem ZvK (N:Nat) (d:T5) (e:T8) (f:TC) (g:T3) (r:ByteArray) (h:z92 N d e f g=some r) :
 Fn Tryz.prog 92 ⟨9,[.a (YH 0 1 2 3 d),.a (YM 4 5 6 e),.a (ZgQ f),.a (W6 7 g)],((0,.sl rS d.ZI)::(1,.sl Ys d.ZJ)::(2,.sl Xb d.ZO)::(3,.sl YN d.ZP)::YP 4 5 6 e [(7,.sl Ym g.ZV)]),[(8,.abs powT)],9,.c (.s r),[],[(8,.abs powT)]⟩:=by
 refine Ya func92 rfl (fun E F w=>?_)
 unfold z92 at h
 refine wB J 20 h (fun h=>?_) fun h=>?_
 ·refine wO J 7 h fun i j h=>Z6 (Za0 N d.ZI e.ZS _ j) [] [(0,.sl 0)] ?_
  have ⟨k,l,h⟩:=ob h
  refine YO l ?_
  exact oi h▸wr J 2 func92 []
 refine wB J 6 h (fun h=>oi h▸wr J 5 func92 []) fun h=>?_
 refine wB J 6 h (fun h=>?_) fun h=>?_
 ·refine wO J 6 h fun m o h=>Z6 (UW N (g.ZV.length:Int) _ o) [] [(0,.sl 8)] ?_
  have ⟨p,q,h⟩:=ob h
  refine YO q ?_
  have ⟨t,u,h⟩:=ob h
  refine YO u ?_
  refine wO J 4 h fun v x h=>Yc J Xu x ?_
  refine wO J 3 h fun y z h=>Z6 (UW N (v.Zz.length:Int) _ z) [] [(0,.sl 8)] ?_
  have ⟨A,C,h⟩:=ob h
  refine YO C (wa J 1 (Yl ?_))
  cases h
  exact YW J func92 []
 refine Z7 J 6 h (fun h=>?_) fun h=>?_
 ·refine Z7 J 6 h (fun h=>oi h▸wr J 7 func92 []) fun h=>?_
  refine wO J 9 h fun D G h=>Z6 (Zk6 N d.ZJ g.ZD f.ZZ _ G) [] [(0,.sl 1),(1,.sl 8)] ?_
  have ⟨H,R,h⟩:=ob h
  refine YO R ?_
  exact oi h▸wr J 2 func92 []
 refine wO J 7 h fun T U h=>Yc J Xu U ?_
 refine wO J 4 h fun X Y h=>Yc J WE Y (wa J 3 (Yl ?_))
 refine wO J 6 h fun Z a0 h=>Yc J YR a0 ?_
 refine wO J 1 h fun b0 c0 h=>Z6 (Zk7 N Z _ c0) [] [(0,.sl 8)] ?_
 have ⟨d0,e0,h⟩:=ob h
 refine YO e0 ?_
 have ⟨f0,g0,h⟩:=ob h
 refine YO g0 ?_
 refine wO J 2 h fun i0 j0 h=>YO j0 ?_
 have ⟨k0,l0,h⟩:=ob h
 refine YO l0 ?_
 refine wO J 3 h fun m0 o0 h=>Z6 (UW N X.Zv.Lo _ o0) [] [(0,.sl 8)] ?_
 have ⟨p0,q0,h⟩:=ob h
 refine YO q0 ?_
 have ⟨s0,t0,h⟩:=ob h
 refine YO t0 ?_
 refine wO J 3 h fun u0 v0 h=>Z6 (UW N X.Zv.Hi _ v0) [] [(0,.sl 8)] ?_
 have ⟨x0,y0,h⟩:=ob h
 refine YO y0 (wa J 1 (Yl ?_))
 cases h
 exact YW J func92 []
theorem Zu8 (N:Nat) (c:T5) (d:T8) (e:(List T3)) (r:ByteArray × Int) (h:z37 N c d e=some r) :
 Fn Tryz.prog 37 ⟨9,[.a (YH 0 1 2 3 c),.a (YM 4 5 6 d),.S 7],((0,.sl rS c.ZI)::(1,.sl Ys c.ZJ)::(2,.sl Xb c.ZO)::(3,.sl YN c.ZP)::YP 4 5 6 d [(7,.sl Xf e)]),[(8,.abs powT)],9,.t [.inl (.s r.1),.inl (.I r.2)],[],[(8,.abs powT)]⟩:=by
 refine Ya func37 rfl (fun E F w=>?_)
 unfold z37 at h
 refine wO J 12 h fun f g h=>Z6 (ZvI N c d e _ g) [] [(0,.sl 0),(1,.sl 1),(2,.sl 2),(3,.sl 3),(4,.sl 4),(5,.sl 5),(6,.sl 6),(7,.sl 7)] ?_
 refine wB J 15 h (fun h=>oi h▸wr J 11 func37 []) fun h=>?_
 refine wB J 4 h (fun h=>oi h▸wr J 7 func37 []) fun h=>?_
 refine wO J 7 h fun i j h=>Yc J Uw j ?_
 refine wO J 8 h fun k l h=>Z6 (ZvJ N c i _ l) [] [(0,.sl 0),(1,.sl 1),(2,.sl 2),(3,.sl 3),(4,.sl 13),(5,.sl 8)] ?_
 have ⟨m,o,h⟩:=ob h
 refine YO o ?_
 refine wO J 4 h fun p q h=>Z6 (ZvK N c d f.1 i _ q) [] [(0,.sl 0),(1,.sl 1),(2,.sl 2),(3,.sl 3),(4,.sl 4),(5,.sl 5),(6,.sl 6),(7,.sl 13),(8,.sl 8)] ?_
 have ⟨u,v,h⟩:=ob h
 refine YO v (wa J 2 (Yl ?_))
 cases h
 exact YW J func37 []
theorem ZtC (N:Nat) (c:T5) (d:T8) (e:(List T3)) (f:T3) (r:ByteArray × Int) (h:z12 N c d e f=some r) :
 Fn Tryz.prog 12 ⟨10,[.a (YH 0 1 2 3 c),.a (YM 4 5 6 d),.S 7,.a (W6 8 f)],((0,.sl rS c.ZI)::(1,.sl Ys c.ZJ)::(2,.sl Xb c.ZO)::(3,.sl YN c.ZP)::YP 4 5 6 d [(7,.sl Xf e),(8,.sl Ym f.ZV)]),[(9,.abs powT)],10,.t [.inl (.s r.1),.inl (.I r.2)],[],[(9,.abs powT)]⟩:=by
 refine Ya func12 rfl (fun E F w=>?_)
 unfold z12 at h
 refine wO J 13 h fun g i h=>Z6 (Zlv N c d e _ i) [] [(0,.sl 0),(1,.sl 1),(2,.sl 2),(3,.sl 3),(4,.sl 4),(5,.sl 5),(6,.sl 6),(7,.sl 7)] ?_
 refine wB J 17 h (fun h=>oi h▸wr J 6 func12 []) fun h=>?_
 refine wB J 7 h (fun h=>oi h▸wr J 6 func12 []) fun h=>?_
 refine wO J 8 h fun j k h=>Z6 (Zu9 N e _ k) [] [(0,.sl 7)] (wa J 1 (YS J [] Uw ([f]:List T3) ?_))
 have ⟨l,m,h⟩:=ob h
 refine Xc J Xf m ?_
 have ⟨o,p,h⟩:=ob h
 refine Z6 (Zu8 N c d l _ p) [18] [(0,.sl 0),(1,.sl 1),(2,.sl 2),(3,.sl 3),(4,.sl 4),(5,.sl 5),(6,.sl 6),(7,.sl 18),(8,.sl 9)] (wa J 5 (Yl ?_))
 refine wB J 6 h (fun h=>oi h▸wr J 11 func12 []) fun h=>?_
 refine wB J 4 h (fun h=>oi h▸wr J 7 func12 []) fun h=>?_
 refine wO J 8 h fun q u h=>Z6 (Zlu N c d g.1.At _ u) [] [(0,.sl 0),(1,.sl 1),(2,.sl 2),(3,.sl 3),(4,.sl 4),(5,.sl 5),(6,.sl 6),(7,.sl 9)] ?_
 have ⟨v,x,h⟩:=ob h
 refine X2 (Zb3 N q (str [59,32]) _ x) [] [(0,.sl 19)] [19] (.inr ⟨rfl,trivial⟩) ?_
 refine wB J 8 h (fun h=>?_) fun h=>?_
 ·refine wO J 7 h fun y z h=>YO z ?_
  refine wO J 1 h fun A C h=>YO C ?_
  exact oi h▸wr J 3 func12 []
 refine wO J 5 h fun D G h=>YO G ?_
 refine wO J 1 h fun H R h=>YO R ?_
 exact oi h▸wr J 3 func12 []
theorem Zlb (N:Nat) (c:Int) (d:Int) (r:Int) (h:Qt N c d=some r) :
 Fn Tryz.prog 188 ⟨0,[.I c,.I d],[],[],0,.I r,[],[]⟩:=by
 refine Ya func188 rfl (fun E F w=>?_)
 unfold Qt at h
 refine wB J 13 h (fun h=>oi h▸wr J 5 func188 []) fun h=>?_
 refine wB J 6 h (fun h=>oi h▸wr J 10 func188 []) fun h=>?_
 exact wB J 5 h (fun h=>oi h▸wr J 5 func188 []) fun h=>oi h▸wr J 7 func188 []
theorem Ztz (N:Nat) (c:Int) (r:Yi) (h:Lu N c=some r) :
 Fn Tryz.prog 123 ⟨0,[.I c],[],[],1,.a (WI 0 r),[(0,.sl (rI .i64) r.B)],[]⟩:=by
 refine Ya func123 rfl (fun E F w=>?_)
 unfold Lu at h
 refine wO J 12 h fun d e h=>Ur J (oI .i64) e (wa J 11 (Yf (σ:=(List Int)) (fun st=>(Zcx st c [(2,.B 0 0),(3,.B 2 0)])) (fun st=>ZeY c st=some r) ?_ (fun j1=>?_)))
 ·intro f h
  unfold ZeY at h
  refine wa J 5 (Uq [1] ?_)
  cases h
  exact YW J func123 [(0,.sl 1)]
 refine wa J 1 (Yn (σ:=(List Int) × Int) (fun st=>(Zcx st.1 c [(0,.I c),(2,.B 0 0),(3,.B 2 0),(15,.I (Z1 (c+1))),(16,.I st.2)])) (fun n st=>VM N c n st.1 st.2) (r:=r) (fun _=>rfl) ?_ (fun ih=>?_))
 ·intro n12 ih12
  rintro ⟨g,i⟩ h
  unfold VM at h
  refine Z7 J 5 h (fun h=>wa J 2 (Z2 [] (j1 g h))) fun h=>wa J 15 (Yf (σ:=(List Int)) (fun st=>(Zcx st c [(0,.I c),(2,.B 0 0),(3,.B 2 0),(15,.I (Z1 (c+1))),(16,.I i)])) (fun st=>GH i (VM N c n12) st=some r) ?_ (fun j19=>?_))
  ·intro j h
   unfold GH at h
   exact wa J 5 (Z2 [] (ih12 (j,(Z1 (i+1))) h))
  refine wa J 1 (Yn (σ:=(List Int) × Int) (fun st=>(Zcx st.1 c [(0,.I c),(2,.B 0 0),(3,.B 2 0),(4,.I i),(15,.I (Z1 (c+1))),(16,.I i),(20,.I (Z1 (c+1))),(21,.I st.2)])) (fun n st=>SE N c i (VM N c n12) n st.1 st.2) (r:=r) (fun _=>rfl) ?_ (fun ih=>?_))
  ·intro n14 ih21
   rintro ⟨k,l⟩ h
   unfold SE at h
   refine Z7 J 5 h (fun h=>wa J 2 (Z2 [] (j19 k h))) fun h=>?_
   refine wO J 20 h fun m o h=>Z6 (Zlb N i l _ o) [] [] ?_
   have ⟨p,q,h⟩:=ob h
   exact YB J (rI .i64) q (XS J [] (oI .i64) m q (Yl (wa J 5 (Z2 [] (ih21 ((YA k (Z1 ((Z1 (i * (Z1 (c+1))))+l)) m),(Z1 (l+1))) h)))))
  exact Z2 [] (ih N (g,0) h)
 exact Z2 [] (ih N (d,0) h)
theorem Zvl (N:Nat) (c:Int) (r:Yi × Int) (h:z55 N c=some r) :
 Fn Tryz.prog 55 ⟨0,[.I c],[],[],1,.t [.inr (WI 0 r.1),.inl (.I r.2)],[(0,.sl (rI .i64) r.1.B)],[]⟩:=by
 refine Ya func55 rfl (fun E F w=>?_)
 unfold z55 at h
 refine wB J 11 h (fun h=>oi h▸wr J 11 func55 [(0,.nil)]) fun h=>?_
 refine wB J 4 h (fun h=>oi h▸wr J 7 func55 [(0,.nil)]) fun h=>?_
 refine wO J 5 h fun d e h=>Z6 (Ztz N c _ e) [] [] ?_
 exact oi h▸wr J 3 func55 [(0,.sl 1)]
theorem Zug (N:Nat) (c:(List Int)) (r:Int) (h:PT N c=some r) :
 Fn Tryz.prog 189 ⟨1,[.S 0],[(0,.sl (rI .i64) c)],[],1,.I r,[],[]⟩:=by
 refine Ya func189 rfl (fun E F w=>?_)
 unfold PT at h
 refine wB J 11 h (fun h=>?_) fun h=>?_
 ·cases h
 refine wO J 5 h fun d e h=>Yc J (oI .i64) e (wa J 8 (Yf (σ:=Int) (fun st=>(D3 c [(3,.I st)])) (fun st=>Zfp st=some r) ?_ (fun j2=>?_)))
 ·intro f h
  unfold Zfp at h
  exact oi h▸wr J 5 func189 []
 refine wa J 1 (Yn (σ:=Int × Int) (fun st=>(D3 c [(0,.S 0),(3,.I st.1),(4,.I st.2)])) (fun n st=>SK c n st.1 st.2) (r:=r) (fun _=>rfl) ?_ (fun ih=>?_))
 ·intro n2 ih4
  rintro ⟨g,i⟩ h
  unfold SK at h
  refine Z7 J 8 h (fun h=>wa J 2 (Z2 [] (j2 g h))) fun h=>?_
  exact wO J 8 h fun j k h=>Yc J (oI .i64) k (wa J 10 (Z2 [] (ih4 ((YG g j),(Z1 (i+1))) h)))
 exact Z2 [] (ih N (d,1) h)
theorem Zui (N:Nat) (c:(List Int)) (r:Int) (h:PU N c=some r) :
 Fn Tryz.prog 190 ⟨1,[.S 0],[(0,.sl (rI .i64) c)],[],1,.I r,[],[]⟩:=by
 refine Ya func190 rfl (fun E F w=>?_)
 unfold PU at h
 refine wB J 11 h (fun h=>?_) fun h=>?_
 ·cases h
 refine wO J 5 h fun d e h=>Yc J (oI .i64) e (wa J 8 (Yf (σ:=Int) (fun st=>(D3 c [(3,.I st)])) (fun st=>Zfq st=some r) ?_ (fun j2=>?_)))
 ·intro f h
  unfold Zfq at h
  exact oi h▸wr J 5 func190 []
 refine wa J 1 (Yn (σ:=Int × Int) (fun st=>(D3 c [(0,.S 0),(3,.I st.1),(4,.I st.2)])) (fun n st=>SL c n st.1 st.2) (r:=r) (fun _=>rfl) ?_ (fun ih=>?_))
 ·intro n2 ih4
  rintro ⟨g,i⟩ h
  unfold SL at h
  refine Z7 J 8 h (fun h=>wa J 2 (Z2 [] (j2 g h))) fun h=>?_
  exact wO J 8 h fun j k h=>Yc J (oI .i64) k (wa J 10 (Z2 [] (ih4 ((Yy g j),(Z1 (i+1))) h)))
 exact Z2 [] (ih N (d,1) h)
theorem ZkU (N:Nat) (c:Yi) (r:Bool) (h:Rv N c=some r) :
 Fn Tryz.prog 124 ⟨1,[.a (WI 0 c)],[(0,.sl (rI .i64) c.B)],[],1,.O r,[],[]⟩:=by
 refine Ya func124 rfl (fun E F w=>?_)
 unfold Rv at h
 refine Z7 J 11 h (fun h=>oi h▸wr J 31 func124 []) fun h=>?_
 refine Z7 J 5 h (fun h=>oi h▸wr J 26 func124 []) fun h=>?_
 refine Z7 J 13 h (fun h=>oi h▸wr J 13 func124 []) fun h=>?_
 refine wO J 2 h fun d e h=>Z6 (Zug N c.B _ e) [] [(0,.sl 0)] ?_
 refine Z7 J 3 h (fun h=>oi h▸wr J 7 func124 []) fun h=>?_
 refine wO J 2 h fun f g h=>Z6 (Zui N c.B _ g) [] [(0,.sl 0)] ?_
 exact oi h▸wr J 4 func124 []
theorem ZkV (N:Nat) (c:Yi) (d:Int) (r:Bool) (h:Qi N c d=some r) :
 Fn Tryz.prog 125 ⟨1,[.a (WI 0 c),.I d],[(0,.sl (rI .i64) c.B)],[],1,.O r,[],[]⟩:=by
 refine Ya func125 rfl (fun E F w=>?_)
 unfold Qi at h
 exact wB J 10 h (fun h=>oi h▸wr J 7 func125 []) fun h=>oi h▸wr J 7 func125 []
theorem ZkW (N:Nat) (c:(List Int)) (r:(List Int)) (h:Qj N c=some r) :
 Fn Tryz.prog 126 ⟨1,[.S 0],[(0,.sl (rI .i64) c)],[],2,.S 1,[],[(1,.own (rI .i64) r true)]⟩:=by
 refine Ya func126 rfl (fun E F w=>?_)
 unfold Qj at h
 refine wa J 8 (eNi (rI .i64) c false ?_)
 intro nb hnb
 cases nb
 ·refine wa J 5 (YS J [] (oI .i64) ([]:List Int) ?_)
  refine wO J 1 h fun d e h=>Xc J (rI .i64) e ?_
  exact oi h▸wr J 2 func126 [(1,.sl 2)]
 ·obtain rfl:=hnb rfl
  replace h:(some ([]:List Int):Option (List Int))=some r:=h
  exact oi h▸wr J 6 func126 [(1,.nil)]
theorem Zvm (N:Nat) (c:Yi) (d:T1) (r:Yi × Int) (h:V6 N c d=some r) :
 Fn Tryz.prog 58 ⟨1,[.a (WI 0 c),.a (MA d)],[(0,.sl (rI .i64) c.B)],[],2,.t [.inr (WI 1 r.1),.inl (.I r.2)],[(1,.sl (rI .i64) r.1.B)],[]⟩:=by
 refine Ya func58 rfl (fun E F w=>?_)
 unfold V6 at h
 refine wO J 11 h fun e f h=>Z6 (ZkU N c _ f) [] [(0,.sl 0)] ?_
 refine wB J 2 h (fun h=>oi h▸wr J 7 func58 [(1,.nil)]) fun h=>?_
 refine wO J 8 h fun g i h=>Z6 (ZkV N c d.X _ i) [] [(0,.sl 0)] ?_
 refine wB J 2 h (fun h=>oi h▸wr J 14 func58 [(1,.nil)]) fun h=>?_
 refine wO J 3 h fun j k h=>Z6 (ZkV N c d.Y _ k) [] [(0,.sl 0)] ?_
 refine wB J 3 h (fun h=>oi h▸wr J 7 func58 [(1,.nil)]) fun h=>?_
 refine wO J 8 h fun l m h=>Z6 (ZkW N c.B _ m) [] [(0,.sl 0)] (wa J 3 (Yl ?_))
 refine wO J 23 h fun o p h=>YB J (rI .i64) p (Y1 J (oI .i64) p ?_)
 refine wO J 4 h fun q s h=>YB J (rI .i64) s (XS J [] (oI .i64) (YG o (Yy d.C (-20001))) s (Yl (wa J 6 (Uq [4] ?_))))
 cases h
 exact YW J func58 [(1,.sl 4)]
theorem ZtA (N:Nat) (c:Yi) (r:Yi × Bool) (h:z127 N c=some r) :
 Fn Tryz.prog 127 ⟨1,[.a (WI 0 c)],[(0,.sl (rI .i64) c.B)],[],2,.t [.inr (WI 1 r.1),.inl (.b r.2)],[(1,.sl (rI .i64) r.1.B)],[]⟩:=by
 refine Ya func127 rfl (fun E F w=>?_)
 unfold z127 at h
 refine wO J 10 h fun d e h=>Z6 (ZkU N c _ e) [] [(0,.sl 0)] ?_
 refine wB J 2 h (fun h=>oi h▸wr J 7 func127 [(1,.nil)]) fun h=>?_
 refine wO J 15 h fun f g h=>Z6 (ZkW N c.B _ g) [] [(0,.sl 0)] (wa J 3 (Yl (wa J 6 (Yf (σ:=(List Int)) (fun st=>(Ty st c c.B [(2,.B 2 0),(4,.I (Z1 (c.N+1))),(5,.B 4 0)])) (fun st=>GL N c st=some r) ?_ (fun j1=>?_)))))
 ·intro i h
  unfold GL at h
  refine wa J 6 (Yf (σ:=(List Int)) (fun st=>(Ty st c c.B [(2,.B 2 0),(5,.B 4 0)])) (fun st=>GI c st=some r) ?_ (fun j12=>?_))
  ·intro j h
   unfold GI at h
   refine wa J 6 (Uq [3] ?_)
   cases h
   exact YW J func127 [(1,.sl 3)]
  refine wa J 1 (Yn (σ:=(List Int) × Int) (fun st=>(Ty st.1 c c.B [(2,.B 2 0),(4,.I (Z1 (c.N+1))),(5,.B 4 0),(56,.I (Z1 (c.N+1))),(57,.I st.2)])) (fun n st=>Wu N c n st.1 st.2) (r:=r) (fun _=>rfl) ?_ (fun ih=>?_))
  ·intro n89 ih86
   rintro ⟨k,l⟩ h
   unfold Wu at h
   refine Z7 J 5 h (fun h=>wa J 2 (Z2 [] (j12 k h))) fun h=>wa J 15 (Yf (σ:=(List Int)) (fun st=>(Ty st c c.B [(2,.B 2 0),(4,.I (Z1 (c.N+1))),(5,.B 4 0),(56,.I (Z1 (c.N+1))),(57,.I l)])) (fun st=>Ti N c l (Wu N c n89) st=some r) ?_ (fun j135=>?_))
   ·intro m h
    unfold Ti at h
    refine wa J 5 (Yf (σ:=Unit) (fun st=>(Ty m c c.B [(2,.B 2 0),(4,.I (Z1 (c.N+1))),(5,.B 4 0),(56,.I (Z1 (c.N+1))),(57,.I l)])) (fun st=>GK l (Wu N c n89) m=some r) ?_ (fun j146=>?_))
    ·intro _ h
     unfold GK at h
     exact wa J 5 (Z2 [] (ih86 (m,(Z1 (l+1))) h))
    refine wa J 1 (Yn (σ:=Int) (fun st=>(Ty m c c.B [(2,.B 2 0),(4,.I (Z1 (c.N+1))),(5,.B 4 0),(56,.I (Z1 (c.N+1))),(57,.I l),(107,.I (Z1 (c.N+1))),(108,.I st)])) (fun n st=>Tj c l (Wu N c n89) m n st) (r:=r) (fun _=>rfl) ?_ (fun ih=>?_))
    ·intro n98 ih148
     intro o h
     unfold Tj at h
     refine Z7 J 5 h (fun h=>wa J 2 (Z2 [] (j146 () h))) fun h=>?_
     refine wO J 18 h fun p q h=>YB J (rI .i64) q (Y1 J (oI .i64) q ?_)
     exact wB J 2 h (fun h=>oi h▸wr J 7 func127 [(1,.nil)]) fun h=>wa J 7 (Z2 [] (ih148 (Z1 (o+1)) h))
    exact Z2 [] (ih N 0 h)
   refine wa J 1 (Yn (σ:=(List Int) × Int) (fun st=>(Ty st.1 c c.B [(2,.B 2 0),(4,.I (Z1 (c.N+1))),(5,.B 4 0),(8,.I l),(56,.I (Z1 (c.N+1))),(57,.I l),(60,.I (Z1 (c.N+1))),(61,.I st.2)])) (fun n st=>Wn N c l (Wu N c n89) n st.1 st.2) (r:=r) (fun _=>rfl) ?_ (fun ih=>?_))
   ·intro n103 ih149
    rintro ⟨s,u⟩ h
    unfold Wn at h
    refine Z7 J 5 h (fun h=>wa J 2 (Z2 [] (j135 s h))) fun h=>wa J 14 (Yf (σ:=(List Int)) (fun st=>(Ty st c c.B [(2,.B 2 0),(4,.I (Z1 (c.N+1))),(5,.B 4 0),(8,.I l),(56,.I (Z1 (c.N+1))),(57,.I l),(60,.I (Z1 (c.N+1))),(61,.I u)])) (fun st=>Lv u (Wn N c l (Wu N c n89) n103) st=some r) ?_ (fun j156=>?_))
    ·intro v h
     unfold Lv at h
     exact wa J 5 (Z2 [] (ih149 (v,(Z1 (u+1))) h))
    refine wa J 1 (Yn (σ:=(List Int) × Int) (fun st=>(Ty st.1 c c.B [(2,.B 2 0),(4,.I (Z1 (c.N+1))),(5,.B 4 0),(8,.I l),(9,.I u),(56,.I (Z1 (c.N+1))),(57,.I l),(60,.I (Z1 (c.N+1))),(61,.I u),(64,.I (Z1 (c.N+1))),(65,.I st.2)])) (fun n st=>UQ c l u (Wn N c l (Wu N c n89) n103) n st.1 st.2) (r:=r) (fun _=>rfl) ?_ (fun ih=>?_))
    ·intro n105 ih158
     rintro ⟨x,y⟩ h
     unfold UQ at h
     refine Z7 J 5 h (fun h=>wa J 2 (Z2 [] (j156 x h))) fun h=>?_
     refine wO J 24 h fun z A h=>YB J (rI .i64) A (Y1 J (oI .i64) A ?_)
     refine wO J 7 h fun C D h=>YB J (rI .i64) D (Y1 J (oI .i64) D ?_)
     refine wO J 7 h fun G H h=>YB J (rI .i64) H (Y1 J (oI .i64) H ?_)
     exact wO J 2 h fun R T h=>YB J (rI .i64) T (XS J [] (oI .i64) (YG z (Z1 (C+G))) T (Yl (wa J 5 (Z2 [] (ih158 ((YA x (Z1 ((Z1 (u * (Z1 (c.N+1))))+y)) (YG z (Z1 (C+G)))),(Z1 (y+1))) h)))))
    exact Z2 [] (ih N (s,0) h)
   exact Z2 [] (ih N (k,0) h)
  exact Z2 [] (ih N (i,0) h)
 refine wa J 1 (Yn (σ:=(List Int) × Int) (fun st=>(Ty st.1 c c.B [(2,.B 2 0),(4,.I (Z1 (c.N+1))),(5,.B 4 0),(25,.I (Z1 (c.N+1))),(26,.I st.2)])) (fun n st=>Vw N c n st.1 st.2) (r:=r) (fun _=>rfl) ?_ (fun ih=>?_))
 ·intro n110 ih159
  rintro ⟨U,X⟩ h
  unfold Vw at h
  refine Z7 J 5 h (fun h=>wa J 2 (Z2 [] (j1 U h))) fun h=>wa J 14 (Yf (σ:=(List Int)) (fun st=>(Ty st c c.B [(2,.B 2 0),(4,.I (Z1 (c.N+1))),(5,.B 4 0),(25,.I (Z1 (c.N+1))),(26,.I X)])) (fun st=>GJ X (Vw N c n110) st=some r) ?_ (fun j166=>?_))
  ·intro Y h
   unfold GJ at h
   exact wa J 5 (Z2 [] (ih159 (Y,(Z1 (X+1))) h))
  refine wa J 1 (Yn (σ:=(List Int) × Int) (fun st=>(Ty st.1 c c.B [(2,.B 2 0),(4,.I (Z1 (c.N+1))),(5,.B 4 0),(6,.I X),(25,.I (Z1 (c.N+1))),(26,.I X),(29,.I (Z1 (c.N+1))),(30,.I st.2)])) (fun n st=>SF N c X (Vw N c n110) n st.1 st.2) (r:=r) (fun _=>rfl) ?_ (fun ih=>?_))
  ·intro n112 ih168
   rintro ⟨Z,a0⟩ h
   unfold SF at h
   refine Z7 J 5 h (fun h=>wa J 2 (Z2 [] (j166 Z h))) fun h=>?_
   refine wO J 24 h fun b0 c0 h=>YB J (rI .i64) c0 (Y1 J (oI .i64) c0 ?_)
   refine wO J 2 h fun d0 e0 h=>Z6 (Zlb N X a0 _ e0) [] [] ?_
   exact wO J 1 h fun f0 g0 h=>YB J (rI .i64) g0 (XS J [] (oI .i64) (YG b0 d0) g0 (Yl (wa J 5 (Z2 [] (ih168 ((YA Z (Z1 ((Z1 (X * (Z1 (c.N+1))))+a0)) (YG b0 d0)),(Z1 (a0+1))) h)))))
  exact Z2 [] (ih N (U,0) h)
 exact Z2 [] (ih N (f,0) h)
theorem ZkX (N:Nat) (c:Yi) (d:Int) (e:Int) (r:Int) (h:Qk N c d e=some r) :
 Fn Tryz.prog 128 ⟨1,[.a (WI 0 c),.I d,.I e],[(0,.sl (rI .i64) c.B)],[],1,.I r,[],[]⟩:=by
 refine Ya func128 rfl (fun E F w=>?_)
 unfold Qk at h
 refine wO J 16 h fun f g h=>Yc J (oI .i64) g ?_
 exact oi h▸wr J 3 func128 []
theorem Zvn (N:Nat) (c:Yi) (r:(List Int) × Bool) (h:UV N c=some r) :
 Fn Tryz.prog 59 ⟨1,[.a (WI 0 c)],[(0,.sl (rI .i64) c.B)],[],2,.t [.inl (.sl 1),.inl (.b r.2)],[],[(1,.own (rI .i64) r.1 true)]⟩:=by
 refine Ya func59 rfl (fun E F w=>?_)
 unfold UV at h
 refine wO J 9 h fun d e h=>Z6 (ZtA N c _ e) [] [(0,.sl 0)] ?_
 refine wB J 13 h (fun h=>oi h▸wr J 6 func59 [(1,.nil)]) fun h=>wa J 4 (YS J [] (oI .i64) ([]:List Int) (wa J 9 (Yf (σ:=(List Int)) (fun st=>⟨[(6,.S 5)],[(5,.own (rI .i64) st true)],[(0,.sl (rI .i64) c.B)],6⟩) (fun st=>Zf2 st=some r) ?_ (fun j1=>?_))))
 ·intro f h
  unfold Zf2 at h
  exact oi h▸wr J 6 func59 [(1,.sl 5)]
 refine wa J 1 (Yn (σ:=(List Int) × Int) (fun st=>(Zgv d.1 st.1 c.B d.1.B [(4,.B 3 0),(6,.S 5),(20,.I c.N),(21,.I st.2)])) (fun n st=>Vy N c d n st.1 st.2) (r:=r) (fun _=>rfl) ?_ (fun ih=>?_))
 ·intro n12 ih12
  rintro ⟨g,i⟩ h
  unfold Vy at h
  refine Z7 J 5 h (fun h=>wa J 2 (Z2 [] (j1 g h))) fun h=>?_
  refine wO J 14 h fun j k h=>Z6 (ZkX N d.1 0 (Z1 (i+1)) _ k) [] [(0,.sl 2)] (wa J 10 (Yf (σ:=Int) (fun st=>(Zgv d.1 g c.B d.1.B [(4,.B 3 0),(6,.S 5),(8,.I st),(20,.I c.N),(21,.I i)])) (fun st=>Me g i (Vy N c d n12) st=some r) ?_ (fun j19=>?_)))
  ·intro l h
   unfold Me at h
   refine wa J 3 (YS J [] (oI .i64) ([l]:List Int) ?_)
   have ⟨m,o,h⟩:=ob h
   exact Xc J (rI .i64) o (wa J 7 (Z2 [(5,.sl 7)] (ih12 (m,(Z1 (i+1))) h)))
  refine wa J 1 (Yn (σ:=Int × Int) (fun st=>(Zgv d.1 g c.B d.1.B [(4,.B 3 0),(6,.S 5),(7,.I i),(8,.I st.1),(20,.I c.N),(21,.I i),(29,.S 5),(30,.I (g.length:Int)),(31,.I st.2)])) (fun n st=>Ts N d g i (Vy N c d n12) n st.1 st.2) (r:=r) (fun _=>rfl) ?_ (fun ih=>?_))
  ·intro n14 ih21
   rintro ⟨p,q⟩ h
   unfold Ts at h
   refine Z7 J 5 h (fun h=>wa J 2 (Z2 [] (j19 p h))) fun h=>?_
   refine wO J 7 h fun s u h=>YB J (rI .i64) u (Y1 J (oI .i64) u ?_)
   exact wO J 11 h fun v x h=>Z6 (ZkX N d.1 (Z1 (q+1)) (Z1 (i+1)) _ x) [] [(0,.sl 2)] (wa J 9 (Z2 [] (ih21 ((Yy p (Z1 (s-v))),(Z1 (q+1))) h)))
  exact Z2 [] (ih N ((Z1 (0-j)),0) h)
 exact Z2 [(5,.sl 4)] (ih N (([]:List Int),0) h)
theorem ZjI (l:List UInt8):∀ n:Nat,Go.Lib.repeatL l n=Te l n
 | 0=>rfl
 | n+1=>by show l++Go.Lib.repeatL l n=l++Te l n;rw [ZjI l n]
theorem Zvp (N:Nat) (d:ByteArray) (e:Int) (r:ByteArray) (h:Mf N d e=some r):Fn Tryz.prog 60 ⟨0,[.c (.s d),.I e],[],[],0,.c (.s r),[],[]⟩:=by
 unfold Mf at h
 cases hb:((decide (0<=e) && decide (e<=140737488355328)) && decide (d.size * e.toNat<=140737488355328)) with
 | false=>rw [hb] at h;cases h
 | true =>
  rw [hb] at h
  simp only [cond_true,Option.some.injEq] at h
  subst h
  simp only [Zc,decide_eq_true_eq] at hb
  obtain ⟨⟨h1,h2⟩,h3⟩:=hb
  obtain ⟨c,rfl⟩:=Ze h1
  have:=ZrF d c (by omega) h3
  rw [ZjI] at this
  exact this
end Gx
end
