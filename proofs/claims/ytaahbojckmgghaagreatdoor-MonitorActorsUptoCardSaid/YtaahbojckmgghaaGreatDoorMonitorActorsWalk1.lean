/- Each function of the statement computes what its plain definition says, part 1. -/
import Derived.Test.YtaahbojckmgghaaGreatDoorMonitorActorsBase
import Derived.Test.YtaahbojckmgghaaGreatDoorMonitorActorsLib
set_option linter.all false
section
set_option maxRecDepth 10000
set_option maxHeartbeats 4000000
open Go Go.Kx Go.Proofs Tryz
namespace Gx
theorem Zk1 (N:Nat) (r:T5 × T8) (h:z17 N=some r) :
 Fn Tryz.prog 17 ⟨0,[],[],[],7,.t [.inr (Yr 0 1 2 3 r.1),.inr (YT 4 5 6 r.2)],((0,.sl rS r.1.Roles)::(1,.sl ZQ r.1.Decls)::(2,.sl YQ r.1.Edges)::(3,.sl Z8 r.1.Timeouts)::YZ 4 5 6 r.2 []),[]⟩:=by
 refine Zv func17 rfl (fun E F w=>?_)
 unfold z17 at h
 refine wa J 14 (Z5 J [] oS ([(str [97]),(str [98]),(str [99])]:List ByteArray) (wa J 1 (Z5 J [] WD ([(⟨(str [110]),(⟨1,0,9⟩:Yg)⟩:T4)]:List T4) (wa J 1 (Z5 J [4] Xf ([(⟨(str [109]),([(⟨(str [110]),(⟨1,0,9⟩:Yg)⟩:T4)]:List T4),0,(⟨([]:List T1),([]:List (Int × Int))⟩:T6)⟩:T0)]:List T0) (wa J 4 (Z5 J [] Wh ([(⟨0,(⟨0,1,0⟩:T7),1,false⟩:T2),(⟨1,(⟨0,2,0⟩:T7),2,true⟩:T2)]:List T2) (wa J 6 (Z5 J [] oB ([false,false,true]:List Bool) (wa J 2 (Z5 J [] YX ([(⟨0,true,1,0,1,false⟩:T9),(⟨1,true,2,0,2,true⟩:T9)]:List T9) (wa J 10 (Zy (Xh [3] (Xh [5] (Xh [6] (Xh [8] (Xh [9] ?_))))))))))))))))))
 cases h
 exact Yc J func17 [(0,.sl 3),(1,.sl 5),(2,.sl 6),(3,.nil),(4,.sl 8),(5,.sl 9),(6,.nil)]
theorem Dr (N:Nat) (n_:Int) (r:Zk) (h:Qd N n_=some r) :
 Fn Tryz.prog 38 ⟨0,[.I n_],[],[],0,.a (XI r),[],[]⟩:=by
 refine Zv func38 rfl (fun E F w=>?_)
 unfold Qd at h
 cases h
 exact wr J 10 func38 []
theorem Zjw (N:Nat) (a_:Int) (b_:Int) (r:(List T3)) (h:z18 N a_ b_=some r) :
 Fn Tryz.prog 18 ⟨0,[.I a_,.I b_],[],[],1,.S 0,[],[(0,.own Sa r true)]⟩:=by
 refine Zv func18 rfl (fun E F w=>?_)
 unfold z18 at h
 refine wO J 7 h fun x1 c h=>Zo (Dr N a_ _ c) [] [] (Z5 J [] Yd ([x1]:List Zk) ?_)
 refine wO J 2 h fun x2 d h=>Zo (Dr N b_ _ d) [] [] (Z5 J [] Yd ([x2]:List Zk) (wa J 1 (Z5 J [0,1] oO3 ([(⟨0,true,1,0,([x1]:List Zk)⟩:T3),(⟨0,true,2,0,([x2]:List Zk)⟩:T3)]:List T3) ?_)))
 cases h
 exact wr J 2 func18 [(0,.sl 2)]
theorem ZiY (N:Nat) (c_:Int) (r:Bool) (h:MY N c_=some r) :
 Fn Tryz.prog 218 ⟨0,[.c (.i .u8 c_)],[],[],0,.O r,[],[]⟩:=by
 refine Zv func218 rfl (fun E F w=>?_)
 unfold MY at h
 refine Zp J 9 h (fun h=>?_) fun h=>?_
 ·refine wB J 7 h (fun h=>?_) fun h=>?_
  ·cases h
   exact wr J 6 func218 []
  cases h
  exact wr J 6 func218 []
 refine wB J 4 h (fun h=>?_) fun h=>?_
 ·cases h
  exact wr J 9 func218 []
 refine wB J 3 h (fun h=>?_) fun h=>?_
 ·cases h
  exact wr J 6 func218 []
 cases h
 exact wr J 6 func218 []
theorem Zqv (N:Nat) (c_:Int) (r:Bool) (h:ZaB N c_=some r) :
 Fn Tryz.prog 226 ⟨0,[.c (.i .u8 c_)],[],[],0,.O r,[],[]⟩:=by
 refine Zv func226 rfl (fun E F w=>?_)
 unfold ZaB at h
 refine wB J 9 h (fun h=>?_) fun h=>?_
 ·cases h
  exact wr J 5 func226 []
 cases h
 exact wr J 5 func226 []
theorem ZpB (N:Nat) (c_:Int) (r:Bool) (h:GL N c_=some r) :
 Fn Tryz.prog 219 ⟨0,[.c (.i .u8 c_)],[],[],0,.O r,[],[]⟩:=by
 refine Zv func219 rfl (fun E F w=>?_)
 unfold GL at h
 refine wO J 7 h fun x1 d h=>Zo (ZiY N c_ _ d) [] [] ?_
 refine wB J 1 h (fun h=>?_) fun h=>?_
 ·cases h
  exact wr J 9 func219 []
 refine wO J 1 h fun x2 e h=>Zo (Zqv N c_ _ e) [] [] ?_
 refine wB J 2 h (fun h=>?_) fun h=>?_
 ·cases h
  exact wr J 5 func219 []
 cases h
 exact wr J 5 func219 []
theorem Zoo (N:Nat) (s_:ByteArray) (r:Bool) (h:Dg N s_=some r) :
 Fn Tryz.prog 202 ⟨0,[.c (.s s_)],[],[],0,.O r,[],[]⟩:=by
 refine Zv func202 rfl (fun E F w=>?_)
 unfold Dg at h
 refine wB J 10 h (fun h=>?_) fun h=>?_
 ·cases h
  exact wr J 16 func202 []
 refine wB J 5 h (fun h=>?_) fun h=>?_
 ·cases h
  exact wr J 11 func202 []
 refine wO J 1 h fun x1 d h=>W3 J d ?_
 obtain ⟨x2,e,h⟩:=ob h
 refine Zo (ZiY N x1 _ e) [] [] ?_
 refine wB J 3 h (fun h=>?_) fun h=>wa J 9 (Zz (σ:=Unit) (fun st=>(Wp [])) (fun st=>G2=some r) ?_ (fun j1=>?_))
 ·cases h
  exact wr J 5 func202 []
 ·intro _ h
  replace h:G2=some r:=h
  unfold G2 at h
  cases h
  exact wr J 4 func202 []
 refine wa J 1 (ZH (σ:=Int) (fun st=>(Wp [(0,.c (.s s_)),(18,.I (s_.size:Int)),(19,.I st)])) (fun n st=>Tq N s_ n st) (r:=r) (fun _=>rfl) ?_ (fun ih=>?_))
 ·intro n2 ih3
  intro f h
  replace h:Tq N s_ (n2+1) f=some r:=h
  unfold Tq at h
  refine Zp J 5 h (fun h=>wa J 2 (Zj [] (j1 () h))) fun h=>?_
  refine wO J 13 h fun g i h=>W3 J i ?_
  obtain ⟨j,k,h⟩:=ob h
  refine Zo (ZpB N g _ k) [] [] ?_
  refine wB J 2 h (fun h=>?_) fun h=>wa J 7 (Zj [] (ih3 (Zi (f+1)) h))
  cases h
  exact wr J 5 func202 []
 exact Zj [] (ih N 0 h)
theorem ZmK (N:Nat) (s_:(List ByteArray)) (v_:ByteArray) (r:Int) (h:DC N s_ v_=some r) :
 Fn Tryz.prog 203 ⟨1,[.S 0,.c (.s v_)],[(0,.sl rS s_)],[],1,.I r,[],[]⟩:=by
 refine Zv func203 rfl (fun E F w=>?_)
 unfold DC at h
 refine wa J 11 (Zz (σ:=Unit) (fun st=>(RR s_ [])) (fun st=>BI=some r) ?_ (fun j1=>?_))
 ·intro _ h
  replace h:BI=some r:=h
  unfold BI at h
  cases h
  exact wr J 4 func203 []
 refine wa J 1 (ZH (σ:=Int) (fun st=>(RR s_ [(0,.S 0),(1,.c (.s v_)),(7,.I (s_.length:Int)),(8,.I st)])) (fun n st=>Ro s_ v_ n st) (r:=r) (fun _=>rfl) ?_ (fun ih=>?_))
 ·intro n2 ih3
  intro d h
  replace h:Ro s_ v_ (n2+1) d=some r:=h
  unfold Ro at h
  refine Zp J 5 h (fun h=>wa J 2 (Zj [] (j1 () h))) fun h=>?_
  refine wO J 14 h fun x9 e h=>Zt J oS e ?_
  refine wB J 3 h (fun h=>?_) fun h=>wa J 7 (Zj [] (ih3 (Zi (d+1)) h))
  cases h
  exact wr J 6 func203 []
 exact Zj [] (ih N 0 h)
theorem ZkN (N:Nat) (s_:(List ByteArray)) (v_:ByteArray) (r:Bool) (h:MN N s_ v_=some r) :
 Fn Tryz.prog 173 ⟨1,[.S 0,.c (.s v_)],[(0,.sl rS s_)],[],1,.O r,[],[]⟩:=by
 refine Zv func173 rfl (fun E F w=>?_)
 unfold MN at h
 refine wO J 8 h fun x1 d h=>Zo (ZmK N s_ v_ _ d) [] [(0,.sl 0)] ?_
 cases h
 exact wr J 3 func173 []
theorem Zde (N:Nat) (s_:ByteArray) (r:Bool) (h:QL N s_=some r) :
 Fn Tryz.prog 172 ⟨0,[.c (.s s_)],[],[],0,.O r,[],[]⟩:=by
 refine Zv func172 rfl (fun E F w=>?_)
 unfold QL at h
 refine wO J 13 h fun x1 d h=>Zo (Zoo N s_ _ d) [] [] ?_
 refine Zp J 1 h (fun h=>?_) fun h=>eSb [] oS ([(str [97,103,97,105,110]),(str [97,110,100]),(str [97,115]),(str [97,116]),(str [99,97,108,108]),(str [99,104,111,105,99,101]),(str [101,108,115,101]),(str [102,114,111,109]),(str [105,102]),(str [105,110,116]),(str [108,101,110]),(str [108,111,111,112]),(str [109,101,115,115,97,103,101]),(str [111,102]),(str [111,102,102,101,114]),(str [111,110]),(str [111,114]),(str [112,97,114]),(str [112,108,97,121,115]),(str [112,114,111,116,111,99,111,108]),(str [115,101,114,118,105,99,101]),(str [116,101,120,116]),(str [116,105,109,101,115]),(str [116,111]),(str [118,97,114]),(str [119,104,101,114,101]),(str [119,104,105,108,101]),(str [119,105,116,104,105,110])]:List ByteArray) ?_
 ·cases h
  exact wr J 7 func172 []
 refine wO J 1 h fun x2 e h=>W2 (ZkN N ([(str [97,103,97,105,110]),(str [97,110,100]),(str [97,115]),(str [97,116]),(str [99,97,108,108]),(str [99,104,111,105,99,101]),(str [101,108,115,101]),(str [102,114,111,109]),(str [105,102]),(str [105,110,116]),(str [108,101,110]),(str [108,111,111,112]),(str [109,101,115,115,97,103,101]),(str [111,102]),(str [111,102,102,101,114]),(str [111,110]),(str [111,114]),(str [112,97,114]),(str [112,108,97,121,115]),(str [112,114,111,116,111,99,111,108]),(str [115,101,114,118,105,99,101]),(str [116,101,120,116]),(str [116,105,109,101,115]),(str [116,111]),(str [118,97,114]),(str [119,104,101,114,101]),(str [119,104,105,108,101]),(str [119,105,116,104,105,110])]:List ByteArray) s_ _ e) [] [(0,.sl 1)] [1] (.inr ⟨rfl,trivial⟩) ?_
 cases h
 exact wr J 4 func172 []
theorem Zp2 (N:Nat) (g_:T5) (r:Bool) (h:Dy N g_=some r) :
 Fn Tryz.prog 127 ⟨4,[.a (Yr 0 1 2 3 g_)],(Yx 0 1 2 3 g_ []),[],4,.O r,[],[]⟩:=by
 refine Zv func127 rfl (fun E F w=>?_)
 unfold Dy at h
 refine wO J 10 h fun x1 c h=>Zo (Zde N g_.Name _ c) [] [] ?_
 refine wB J 2 h (fun h=>?_) fun h=>?_
 ·cases h
  exact wr J 17 func127 []
 refine wB J 6 h (fun h=>?_) fun h=>?_
 ·cases h
  exact wr J 11 func127 []
 refine wB J 6 h (fun h=>?_) fun h=>wa J 10 (Zz (σ:=Unit) (fun st=>(MA g_ [])) (fun st=>De=some r) ?_ (fun j1=>?_))
 ·cases h
  exact wr J 5 func127 []
 ·intro _ h
  replace h:De=some r:=h
  unfold De at h
  cases h
  exact wr J 4 func127 []
 refine wa J 1 (ZH (σ:=Int) (fun st=>(Tp g_ [(1,.B 4 0),(22,.S 0),(23,.I (g_.Roles.length:Int)),(24,.I st)])) (fun n st=>QZ N g_ n st) (r:=r) (fun _=>rfl) ?_ (fun ih=>?_))
 ·intro n2 ih3
  intro d h
  replace h:QZ N g_ (n2+1) d=some r:=h
  unfold QZ at h
  refine Zp J 5 h (fun h=>wa J 2 (Zj [] (j1 () h))) fun h=>?_
  refine wO J 7 h fun e f h=>Zt J oS f ?_
  refine wO J 7 h fun g i h=>Zo (Zde N e _ i) [] [] ?_
  refine wB J 2 h (fun h=>?_) fun h=>?_
  ·cases h
   exact wr J 13 func127 []
  refine wO J 3 h fun j k h=>Qn J rS k ?_
  refine wO J 1 h fun l m h=>Zo (ZkN N j e _ m) [] [(0,.sl 6)] ?_
  refine wB J 2 h (fun h=>?_) fun h=>wa J 7 (Zj [] (ih3 (Zi (d+1)) h))
  cases h
  exact wr J 5 func127 []
 exact Zj [] (ih N 0 h)
theorem Zpk (N:Nat) (g_:T5) (r:Bool) (h:Bs N g_=some r) :
 Fn Tryz.prog 128 ⟨4,[.a (Yr 0 1 2 3 g_)],(Yx 0 1 2 3 g_ []),[],4,.O r,[],[]⟩:=by
 refine Zv func128 rfl (fun E F w=>?_)
 unfold Bs at h
 refine wB J 12 h (fun h=>?_) fun h=>?_
 ·cases h
  exact wr J 34 func128 []
 refine wB J 5 h (fun h=>?_) fun h=>?_
 ·cases h
  exact wr J 29 func128 []
 refine wB J 8 h (fun h=>?_) fun h=>?_
 ·cases h
  exact wr J 21 func128 []
 refine wB J 10 h (fun h=>?_) fun h=>?_
 ·cases h
  exact wr J 11 func128 []
 refine wB J 6 h (fun h=>?_) fun h=>wa J 10 (Zz (σ:=Unit) (fun st=>(MA g_ [])) (fun st=>BJ=some r) ?_ (fun j1=>?_))
 ·cases h
  exact wr J 5 func128 []
 ·intro _ h
  replace h:BJ=some r:=h
  unfold BJ at h
  cases h
  exact wr J 4 func128 []
 refine wa J 1 (ZH (σ:=Int) (fun st=>(Tp g_ [(1,.B 4 0),(39,.S 2),(40,.I (g_.Edges.length:Int)),(41,.I st)])) (fun n st=>RB g_ n st) (r:=r) (fun _=>rfl) ?_ (fun ih=>?_))
 ·intro n2 ih3
  intro c h
  replace h:RB g_ (n2+1) c=some r:=h
  unfold RB at h
  refine Zp J 5 h (fun h=>wa J 2 (Zj [] (j1 () h))) fun h=>?_
  refine wO J 6 h fun x9 d h=>Zt J Wh d ?_
  refine wB J 26 h (fun h=>?_) fun h=>?_
  ·cases h
   exact wr J 41 func128 []
  refine wB J 10 h (fun h=>?_) fun h=>?_
  ·cases h
   exact wr J 31 func128 []
  refine wB J 11 h (fun h=>?_) fun h=>?_
  ·cases h
   exact wr J 20 func128 []
  refine wB J 7 h (fun h=>?_) fun h=>?_
  ·cases h
   exact wr J 13 func128 []
  refine wB J 8 h (fun h=>?_) fun h=>wa J 7 (Zj [] (ih3 (Zi (c+1)) h))
  cases h
  exact wr J 5 func128 []
 exact Zj [] (ih N 0 h)
theorem ZjO (N:Nat) (l_:(List T0)) (r:(List T4)) (h:HC N l_=some r) :
 Fn Tryz.prog 139 ⟨1,[.S 0],[(0,.sl ZQ l_)],[],2,.S 1,[],[(1,.own Y7 r true)]⟩:=by
 refine Zv func139 rfl (fun E F w=>?_)
 unfold HC at h
 refine wa J 15 (Zz (σ:=(List T4)) (fun st=>(ZeJ st l_ [(3,.S 1)])) (fun st=>Gl st=some r) ?_ (fun j1=>?_))
 ·intro c h
  replace h:Gl c=some r:=h
  unfold Gl at h
  cases h
  exact wr J 5 func139 [(1,.sl 1)]
 refine wa J 1 (ZH (σ:=(List T4) × Int) (fun st=>(ZeJ st.1 l_ [(3,.S 1),(6,.S 0),(7,.I (l_.length:Int)),(8,.I st.2)])) (fun n st=>Qk l_ n st.1 st.2) (r:=r) (fun _=>rfl) ?_ (fun ih=>?_))
 ·intro n2 ih3
  rintro ⟨d,e⟩ h
  replace h:Qk l_ (n2+1) d e=some r:=h
  unfold Qk at h
  refine Zp J 5 h (fun h=>wa J 2 (Zj [] (j1 d h))) fun h=>?_
  refine wO J 6 h fun f g h=>Zt J Xf g ?_
  exact wO J 8 h fun i j h=>Yk J Y7 j (wa J 7 (Zj [(1,.sl 7)] (ih3 (i,(Zi (e+1))) h)))
 exact Zj [(1,.nil)] (ih N (([]:List T4),0) h)
theorem ZiH (N:Nat) (s_:ByteArray) (r:Int) (h:ZaZ N s_=some r) :
 Fn Tryz.prog 245 ⟨0,[.c (.s s_)],[],[],0,.I r,[],[]⟩:=by
 refine Zv func245 rfl (fun E F w=>?_)
 unfold ZaZ at h
 refine wa J 8 (eRn J (fun bk1=>wa J 1 (Zz (σ:=Int × Nat) (fun st=>(Hl (W4 bk1 s_ st.2) [(2,.I st.1)])) (fun st=>Zaq st.1 st.2=some r) ?_ (fun j1=>?_))))
 ·rintro ⟨d,vi0_1⟩ h
  replace h:Zaq d vi0_1=some r:=h
  unfold Zaq at h
  cases h
  exact wr J 5 func245 []
 refine wa J 1 (ZH (σ:=Int × Nat) (fun st=>(Hl (W4 bk1 s_ st.2) [(2,.I st.1),(4,.c (.v (.pointer (some ⟨bk1,0,none⟩))))])) (fun n st=>GP s_ n st.1 st.2) (r:=r) (fun _=>rfl) ?_ (fun ih=>?_))
 ·intro n2 ih3
  rintro ⟨e,vi0_3⟩ h
  replace h:GP s_ (n2+1) e vi0_3=some r:=h
  unfold GP at h
  obtain ⟨K,h⟩|⟨K,h⟩:=oc h
  ·exact wa J 2 (eNt bk1 0 K (wa J 12 (Zj [] (ih3 ((Zi (e+1)),(vi0_3+(Utf8.decode s_ vi0_3).2)) h))))
  exact wa J 2 (eNf bk1 0 K (wa J 5 (Zj [] (j1 (e,vi0_3) h))))
 exact Zj [] (ih N (0,(0:Nat)) h)
theorem ZiG (N:Nat) (s_:ByteArray) (r:Int × Int) (h:Zar N s_=some r) :
 Fn Tryz.prog 250 ⟨0,[.c (.s s_)],[],[],0,.t [.inl (.i .i32 r.1),.inl (.I r.2)],[],[]⟩:=by
 refine Zv func250 rfl (fun E F w=>?_)
 unfold Zar at h
 refine wB J 17 h (fun h=>?_) fun h=>?_
 ·cases h
  exact wr J 6 func250 []
 refine wO J 5 h fun x1 d h=>W3 J d ?_
 cases h
theorem ZqN (N:Nat) (s_:ByteArray) (r:Int × Int) (h:ZfJ N s_=some r) :
 Fn Tryz.prog 246 ⟨0,[.c (.s s_)],[],[],0,.t [.inl (.i .i32 r.1),.inl (.I r.2)],[],[]⟩:=by
 refine Zv func246 rfl (fun E F w=>?_)
 unfold ZfJ at h
 refine Zp J 11 h (fun h=>?_) fun h=>?_
 ·refine wO J 8 h fun x4 d h=>Zo (ZiG N s_ _ d) [] [] ?_
  cases h
  exact wr J 6 func246 []
 refine wO J 1 h fun x1 e h=>W3 J e ?_
 refine wB J 3 h (fun h=>?_) fun h=>?_
 ·refine wO J 4 h fun x2 f h=>W3 J f ?_
  cases h
  exact wr J 4 func246 []
 refine wO J 3 h fun x3 g h=>Zo (ZiG N s_ _ g) [] [] ?_
 cases h
 exact wr J 6 func246 []
theorem Zmm (N:Nat) (s_:ByteArray) (n_:Int) (r:(List ByteArray)) (h:ZfY N s_ n_=some r) :
 Fn Tryz.prog 237 ⟨0,[.c (.s s_),.I n_],[],[],1,.S 0,[],[(0,.own rS r true)]⟩:=by
 refine Zv func237 rfl (fun E F w=>?_)
 unfold ZfY at h
 refine wO J 7 h fun x1 d h=>Zo (ZiH N s_ _ d) [] [] ?_
 refine wa J 8 (Zz (σ:=Bool) (fun st=>(Wp [(0,.c (.s s_)),(1,.I n_),(5,.I x1),(18,.O st)])) (fun st=>H4 N s_ n_ x1 st=some r) ?_ (fun j1=>?_))
 ·intro e h
  replace h:H4 N s_ n_ x1 e=some r:=h
  unfold H4 at h
  refine Zz (σ:=Int) (fun st=>(Wp [(0,.c (.s s_)),(1,.I st)])) (fun st=>GS N s_ st=some r) ?_ (fun j2=>?_)
  ·intro f h
   replace h:GS N s_ f=some r:=h
   unfold GS at h
   refine wO J 3 h fun x2 g h=>UM J oS g (wa J 7 (Zz (σ:=ByteArray × (List ByteArray)) (fun st=>(Zbg st.2 [(0,.c (.s st.1)),(1,.I f),(6,.S 0)])) (fun st=>Zch f st.1 st.2=some r) ?_ (fun j3=>?_)))
   ·rintro ⟨i,j⟩ h
    replace h:Zch f i j=some r:=h
    unfold Zch at h
    refine Zp J 6 h (fun h=>?_) fun h=>?_
    ·cases h
     exact wr J 7 func237 [(0,.sl 0)]
    refine wO J 6 h fun k l h=>ZT J rS l (XW J [] oS i l ?_)
    cases h
    exact wr J 6 func237 [(0,.sl 0)]
   refine wa J 1 (ZH (σ:=ByteArray × (List ByteArray) × Int) (fun st=>(Zbg st.2.1 [(0,.c (.s st.1)),(1,.I f),(6,.S 0),(7,.I st.2.2)])) (fun n st=>DD N f n st.1 st.2.1 st.2.2) (r:=r) (fun _=>rfl) ?_ (fun ih=>?_))
   ·intro n2 ih5
    rintro ⟨m,o,p⟩ h
    replace h:DD N f (n2+1) m o p=some r:=h
    unfold DD at h
    refine Zp J 8 h (fun h=>wa J 2 (Zj [] (j3 (m,o) h))) fun h=>?_
    refine wO J 7 h fun q t h=>Zo (ZqN N m _ t) [] [] ?_
    refine wO J 12 h fun u v h=>Q6 J v ?_
    obtain ⟨x,y,h⟩:=ob h
    refine ZT J rS y (XW J [] oS u y ?_)
    exact wO J 4 h fun z A h=>Q6 J A (wa J 8 (Zj [] (ih5 (z,(ZW o p u),(Zi (p+1))) h)))
   exact Zj [] (ih N (s_,x2,0) h)
  exact eB h (fun h=>wa J 5 (Zj [] (j2 x1 h))) fun h=>wa J 2 (Zj [] (j2 n_ h))
 exact eB h (fun h=>wa J 5 (Zj [] (j1 true h))) fun h=>wa J 5 (Zj [] (j1 (decide (n_ > x1)) h))
theorem Zqw (N:Nat) (s_:ByteArray) (c_:Int) (r:Int) (h:ZaW N s_ c_=some r) :
 Fn Tryz.prog 251 ⟨0,[.c (.s s_),.c (.i .u8 c_)],[],[],0,.I r,[],[]⟩:=by
 refine Zv func251 rfl (fun E F w=>?_)
 unfold ZaW at h
 refine wa J 8 (eEx (ZsN func255 (by kernel_rfl) (by kernel_rfl) (by kernel_rfl) (by kernel_rfl) s_ c_) (fun _=>trivial) ?_)
 cases h
 exact wr J 2 func251 []
theorem Zt9 (N:Nat) (s_:ByteArray) (substr_:ByteArray) (r:Int) (h:ZbX N s_ substr_=some r) :
 Fn Tryz.prog 248 ⟨0,[.c (.s s_),.c (.s substr_)],[],[],0,.I r,[],[]⟩:=by
 refine Zv func248 rfl (fun E F w=>?_)
 unfold ZbX at h
 refine wB J 17 h (fun h=>?_) fun h=>?_
 ·cases h
  exact wr J 11 func248 []
 refine wB J 6 h (fun h=>?_) fun h=>?_
 ·cases h
  exact wr J 5 func248 []
 refine wB J 7 h (fun h=>?_) fun h=>?_
 ·refine wO J 5 h fun x1 d h=>W3 J d ?_
  obtain ⟨x2,e,h⟩:=ob h
  refine Zo (Zqw N s_ x1 _ e) [] [] ?_
  cases h
  exact wr J 2 func248 []
 refine wB J 9 h (fun h=>?_) fun h=>?_
 ·cases h
  exact wr J 5 func248 []
 cases h
theorem Zh5 (N:Nat) (s_:ByteArray) (substr_:ByteArray) (r:Int) (h:Hu N s_ substr_=some r) :
 Fn Tryz.prog 239 ⟨0,[.c (.s s_),.c (.s substr_)],[],[],0,.I r,[],[]⟩:=by
 refine Zv func239 rfl (fun E F w=>?_)
 unfold Hu at h
 refine wO J 8 h fun x1 d h=>Zo (Zt9 N s_ substr_ _ d) [] [] ?_
 cases h
 exact wr J 2 func239 []
theorem ZsZ (N:Nat) (s_:ByteArray) (substr_:ByteArray) (r:Int) (h:Dk N s_ substr_=some r) :
 Fn Tryz.prog 238 ⟨0,[.c (.s s_),.c (.s substr_)],[],[],0,.I r,[],[]⟩:=by
 refine Zv func238 rfl (fun E F w=>?_)
 unfold Dk at h
 refine wB J 11 h (fun h=>?_) fun h=>?_
 ·refine wO J 4 h fun x1 d h=>Zo (ZiH N s_ _ d) [] [] ?_
  cases h
  exact wr J 3 func238 []
 refine wB J 9 h (fun h=>?_) fun h=>wa J 7 (ZH (σ:=ByteArray × Int) (fun st=>(Wp [(0,.c (.s st.1)),(1,.c (.s substr_)),(5,.I st.2)])) (fun n st=>Gc N substr_ n st.1 st.2) (r:=r) (fun _=>rfl) ?_ (fun ih=>?_))
 ·refine wO J 5 h fun x2 e h=>W3 J e (eEx (ZmO func247 (by kernel_rfl) (by kernel_rfl) (by kernel_rfl) (by kernel_rfl) s_ x2) (fun _=>trivial) ?_)
  cases h
  exact wr J 2 func238 []
 ·intro n1 ih1
  rintro ⟨f,g⟩ h
  replace h:Gc N substr_ (n1+1) f g=some r:=h
  unfold Gc at h
  refine wO J 5 h fun i j h=>Zo (Zh5 N f substr_ _ j) [] [] ?_
  refine wB J 8 h (fun h=>?_) fun h=>?_
  ·cases h
   exact wr J 6 func238 []
  exact wO J 14 h fun k l h=>Q6 J l (wa J 3 (Zj [] (ih1 (k,(Zi (g+1))) h)))
 exact Zj [] (ih N (s_,0) h)
theorem ZpD (N:Nat) (s_:ByteArray) (sep_:ByteArray) (sepSave_:Int) (n_:Int) (r:(List ByteArray)) (h:Zco N s_ sep_ sepSave_ n_=some r) :
 Fn Tryz.prog 225 ⟨0,[.c (.s s_),.c (.s sep_),.I sepSave_,.I n_],[],[],1,.S 0,[],[(0,.own rS r true)]⟩:=by
 refine Zv func225 rfl (fun E F w=>?_)
 unfold Zco at h
 refine wB J 10 h (fun h=>?_) fun h=>?_
 ·cases h
  exact wr J 5 func225 [(0,.nil)]
 refine wB J 8 h (fun h=>?_) fun h=>wa J 8 (Zz (σ:=Int) (fun st=>(Wp [(0,.c (.s s_)),(1,.c (.s sep_)),(2,.I sepSave_),(3,.I st)])) (fun st=>Hw N s_ sep_ sepSave_ st=some r) ?_ (fun j1=>?_))
 ·refine wO J 5 h fun x1 d h=>Zo (Zmm N s_ n_ _ d) [] [] ?_
  cases h
  exact wr J 2 func225 [(0,.sl 0)]
 ·intro e h
  replace h:Hw N s_ sep_ sepSave_ e=some r:=h
  unfold Hw at h
  refine wO J 12 h fun x3 f h=>UM J oS f (wa J 13 (Zz (σ:=ByteArray × (List ByteArray) × Int) (fun st=>(Zbg st.2.1 [(0,.c (.s st.1)),(9,.S 0),(10,.I st.2.2)])) (fun st=>P9 st.1 st.2.1 st.2.2=some r) ?_ (fun j2=>?_)))
  ·rintro ⟨g,i,j⟩ h
   replace h:P9 g i j=some r:=h
   unfold P9 at h
   refine wO J 5 h fun k l h=>ZT J rS l (XW J [] oS g l ?_)
   refine wO J 6 h fun m o h=>SO J rS o (wa J 2 (eSl rS 2 o ?_))
   cases h
   exact Yc J func225 [(0,.sl 2)]
  refine wa J 1 (ZH (σ:=ByteArray × (List ByteArray) × Int) (fun st=>(Zbg st.2.1 [(0,.c (.s st.1)),(1,.c (.s sep_)),(2,.I sepSave_),(3,.I (Zi ((Z1 e (Zi ((s_.size:Int)+1)))-1))),(9,.S 0),(10,.I st.2.2)])) (fun n st=>Su N s_ sep_ sepSave_ e n st.1 st.2.1 st.2.2) (r:=r) (fun _=>rfl) ?_ (fun ih=>?_))
  ·intro n2 ih4
   rintro ⟨p,q,t⟩ h
   replace h:Su N s_ sep_ sepSave_ e (n2+1) p q t=some r:=h
   unfold Su at h
   refine Zp J 7 h (fun h=>wa J 2 (Zj [] (j2 (p,q,t) h))) fun h=>?_
   refine wO J 7 h fun u v h=>Zo (Zh5 N p sep_ _ v) [] [] ?_
   refine wB J 8 h (fun h=>wa J 2 (Zj [] (j2 (p,q,t) h))) fun h=>?_
   refine wO J 10 h fun x y h=>Q6 J y ?_
   obtain ⟨z,A,h⟩:=ob h
   refine ZT J rS A (XW J [] oS x A ?_)
   exact wO J 8 h fun C D h=>Q6 J D (wa J 8 (Zj [] (ih4 (C,(ZW q t x),(Zi (t+1))) h)))
  exact Zj [] (ih N (s_,x3,0) h)
 refine WA h (fun h=>wa J 2 (Zj [] (j1 n_ h))) fun h=>?_
 exact wO J 4 h fun G H h=>Zo (ZsZ N s_ sep_ _ H) [] [] (wa J 3 (Zj [] (j1 (Zi (G+1)) h)))
theorem ZrL (N:Nat) (s_:ByteArray) (sep_:ByteArray) (r:(List ByteArray)) (h:HV N s_ sep_=some r) :
 Fn Tryz.prog 212 ⟨0,[.c (.s s_),.c (.s sep_)],[],[],1,.S 0,[],[(0,.own rS r true)]⟩:=by
 refine Zv func212 rfl (fun E F w=>?_)
 unfold HV at h
 refine wO J 8 h fun x1 d h=>Zo (ZpD N s_ sep_ 0 (-1) _ d) [] [] ?_
 cases h
 exact wr J 2 func212 [(0,.sl 0)]
theorem ZqK (N:Nat) (w_:ByteArray) (r:Bool) (h:Zax N w_=some r) :
 Fn Tryz.prog 213 ⟨0,[.c (.s w_)],[],[],0,.O r,[],[]⟩:=by
 refine Zv func213 rfl (fun E F w=>?_)
 unfold Zax at h
 refine wO J 7 h fun x1 d h=>Zo (Zde N w_ _ d) [] [] ?_
 cases h
 exact wr J 3 func213 []
theorem Zt5 (N:Nat) (s_:(List ByteArray)) (r:Int) (h:Zdl N s_=some r) :
 Fn Tryz.prog 224 ⟨1,[.S 0,.c (.cl 213 [] [])],[(0,.sl rS s_)],[],1,.I r,[],[]⟩:=by
 refine Zv func224 rfl (fun E F w=>?_)
 unfold Zdl at h
 refine wa J 11 (Zz (σ:=Unit) (fun st=>(RR s_ [])) (fun st=>GG=some r) ?_ (fun j1=>?_))
 ·intro _ h
  replace h:GG=some r:=h
  unfold GG at h
  cases h
  exact wr J 4 func224 []
 refine wa J 1 (ZH (σ:=Int) (fun st=>(RR s_ [(0,.S 0),(1,.c (.cl 213 [] [])),(7,.I (s_.length:Int)),(8,.I st)])) (fun n st=>R3 N s_ n st) (r:=r) (fun _=>rfl) ?_ (fun ih=>?_))
 ·intro n2 ih3
  intro d h
  replace h:R3 N s_ (n2+1) d=some r:=h
  unfold R3 at h
  refine Zp J 5 h (fun h=>wa J 2 (Zj [] (j1 () h))) fun h=>?_
  refine wO J 14 h fun e f h=>Zt J oS f ?_
  refine wO J 1 h fun g i h=>Zo (ZqK N e _ i) [] [] ?_
  refine wB J 1 h (fun h=>?_) fun h=>wa J 7 (Zj [] (ih3 (Zi (d+1)) h))
  cases h
  exact wr J 6 func224 []
 exact Zj [] (ih N 0 h)
theorem Zpn (N:Nat) (s_:(List ByteArray)) (r:Bool) (h:Zbu N s_=some r) :
 Fn Tryz.prog 211 ⟨1,[.S 0,.c (.cl 213 [] [])],[(0,.sl rS s_)],[],1,.O r,[],[]⟩:=by
 refine Zv func211 rfl (fun E F w=>?_)
 unfold Zbu at h
 refine wO J 8 h fun x1 d h=>Zo (Zt5 N s_ _ d) [] [(0,.sl 0)] ?_
 cases h
 exact wr J 3 func211 []
theorem Zqj (N:Nat) (s_:ByteArray) (r:Bool) (h:BZ N s_=some r) :
 Fn Tryz.prog 185 ⟨0,[.c (.s s_)],[],[],0,.O r,[],[]⟩:=by
 refine Zv func185 rfl (fun E F w=>?_)
 unfold BZ at h
 refine Zp J 10 h (fun h=>?_) fun h=>?_
 ·cases h
  exact wr J 7 func185 []
 refine wO J 1 h fun x1 d h=>Zo (ZrL N s_ (str [46]) _ d) [] [] ?_
 obtain ⟨x2,e,h⟩:=ob h
 refine W2 (Zpn N x1 _ e) [] [(0,.sl 0)] [0] (.inr ⟨rfl,trivial⟩) ?_
 cases h
 exact wr J 4 func185 []
theorem Zrb (N:Nat) (x_:T0) (c0_:T0) (r:Bool) (h:ZcR N x_ c0_=some r) :
 Fn Tryz.prog 187 ⟨7,[.a (YM 0 1 2 x_),.B 3 0],(YJ 0 1 2 x_ (YJ 4 5 6 c0_ [])),[(3,.box (YM 4 5 6 c0_) 106)],7,.O r,[],[(3,.box (YM 4 5 6 c0_) 106)]⟩:=by
 refine Zv func187 rfl (fun E F w=>?_)
 unfold ZcR at h
 cases h
 exact wr J 14 func187 []
theorem ZoF (N:Nat) (s_:(List T0)) (c0_:T0) (r:Int) (h:Zb8 N s_ c0_=some r) :
 Fn Tryz.prog 214 ⟨5,[.S 0,.c (.cl 187 [] [1])],((0,.sl ZQ s_)::YJ 2 3 4 c0_ []),[(1,.box (YM 2 3 4 c0_) 106)],5,.I r,[],[(1,.box (YM 2 3 4 c0_) 106)]⟩:=by
 refine Zv func214 rfl (fun E F w=>?_)
 unfold Zb8 at h
 refine wa J 11 (Zz (σ:=Unit) (fun st=>⟨[],[(1,.box (YM 2 3 4 c0_) 106)],((0,.sl ZQ s_)::YJ 2 3 4 c0_ []),5⟩) (fun st=>GZ=some r) ?_ (fun j1=>?_))
 ·intro _ h
  replace h:GZ=some r:=h
  unfold GZ at h
  cases h
  exact wr J 4 func214 []
 refine wa J 1 (ZH (σ:=Int) (fun st=>⟨[(0,.S 0),(1,.c (.cl 187 [] [1])),(7,.I (s_.length:Int)),(8,.I st)],[(1,.box (YM 2 3 4 c0_) 106)],((0,.sl ZQ s_)::YJ 2 3 4 c0_ []),5⟩) (fun n st=>RI N s_ c0_ n st) (r:=r) (fun _=>rfl) ?_ (fun ih=>?_))
 ·intro n2 ih3
  intro d h
  replace h:RI N s_ c0_ (n2+1) d=some r:=h
  unfold RI at h
  refine Zp J 5 h (fun h=>wa J 2 (Zj [] (j1 () h))) fun h=>?_
  refine wO J 14 h fun e f h=>Zt J Xf f ?_
  refine wO J 1 h fun g i h=>Zo (Zrb N e c0_ _ i) [] [(0,.sl 6),(1,.sl 7),(2,.sl 8),(3,.bp 1 0),(4,.sl 2),(5,.sl 3),(6,.sl 4)] ?_
  refine wB J 1 h (fun h=>?_) fun h=>wa J 7 (Zj [] (ih3 (Zi (d+1)) h))
  cases h
  exact wr J 6 func214 []
 exact Zj [] (ih N 0 h)
theorem ZmH (N:Nat) (s_:(List T0)) (c0_:T0) (r:Bool) (h:Bw N s_ c0_=some r) :
 Fn Tryz.prog 186 ⟨5,[.S 0,.c (.cl 187 [] [1])],((0,.sl ZQ s_)::YJ 2 3 4 c0_ []),[(1,.box (YM 2 3 4 c0_) 106)],5,.O r,[],[(1,.box (YM 2 3 4 c0_) 106)]⟩:=by
 refine Zv func186 rfl (fun E F w=>?_)
 unfold Bw at h
 refine wO J 8 h fun x1 d h=>Zo (ZoF N s_ c0_ _ d) [] [(0,.sl 0),(1,.bp 1 0),(2,.sl 2),(3,.sl 3),(4,.sl 4)] ?_
 cases h
 exact wr J 3 func186 []
theorem Zpy (N:Nat) (s_:Yg) (r:Bool) (h:HS N s_=some r) :
 Fn Tryz.prog 188 ⟨0,[.a (V8 s_)],[],[],0,.O r,[],[]⟩:=by
 refine Zv func188 rfl (fun E F w=>?_)
 unfold HS at h
 refine wB J 17 h (fun h=>?_) fun h=>?_
 ·refine Zp J 7 h (fun h=>?_) fun h=>?_
  ·cases h
   exact wr J 13 func188 []
  refine wB J 7 h (fun h=>?_) fun h=>?_
  ·cases h
   exact wr J 6 func188 []
  cases h
  exact wr J 6 func188 []
 refine Zp J 6 h (fun h=>?_) fun h=>?_
 ·cases h
  exact wr J 7 func188 []
 refine Zp J 7 h (fun h=>?_) fun h=>?_
 ·cases h
  exact wr J 13 func188 []
 refine wB J 7 h (fun h=>?_) fun h=>?_
 ·cases h
  exact wr J 6 func188 []
 cases h
 exact wr J 6 func188 []
theorem Zpb (N:Nat) (x_:T4) (c0_:T4) (r:Bool) (h:ZcF N x_ c0_=some r) :
 Fn Tryz.prog 190 ⟨1,[.a (Ur x_),.B 0 0],[],[(0,.box (Ur c0_) 99)],1,.O r,[],[(0,.box (Ur c0_) 99)]⟩:=by
 refine Zv func190 rfl (fun E F w=>?_)
 unfold ZcF at h
 cases h
 exact wr J 14 func190 []
theorem Zle (N:Nat) (s_:(List T4)) (c0_:T4) (r:Int) (h:Zcv N s_ c0_=some r) :
 Fn Tryz.prog 215 ⟨2,[.S 0,.c (.cl 190 [] [1])],[(0,.sl Y7 s_)],[(1,.box (Ur c0_) 99)],2,.I r,[],[(1,.box (Ur c0_) 99)]⟩:=by
 refine Zv func215 rfl (fun E F w=>?_)
 unfold Zcv at h
 refine wa J 11 (Zz (σ:=Unit) (fun st=>⟨[],[(1,.box (Ur c0_) 99)],[(0,.sl Y7 s_)],2⟩) (fun st=>Bq=some r) ?_ (fun j1=>?_))
 ·intro _ h
  replace h:Bq=some r:=h
  unfold Bq at h
  cases h
  exact wr J 4 func215 []
 refine wa J 1 (ZH (σ:=Int) (fun st=>⟨[(0,.S 0),(1,.c (.cl 190 [] [1])),(7,.I (s_.length:Int)),(8,.I st)],[(1,.box (Ur c0_) 99)],[(0,.sl Y7 s_)],2⟩) (fun n st=>RO N s_ c0_ n st) (r:=r) (fun _=>rfl) ?_ (fun ih=>?_))
 ·intro n2 ih3
  intro d h
  replace h:RO N s_ c0_ (n2+1) d=some r:=h
  unfold RO at h
  refine Zp J 5 h (fun h=>wa J 2 (Zj [] (j1 () h))) fun h=>?_
  refine wO J 14 h fun e f h=>Zt J WD f ?_
  refine wO J 1 h fun g i h=>Zo (Zpb N e c0_ _ i) [] [(0,.bp 1 0)] ?_
  refine wB J 1 h (fun h=>?_) fun h=>wa J 7 (Zj [] (ih3 (Zi (d+1)) h))
  cases h
  exact wr J 6 func215 []
 exact Zj [] (ih N 0 h)
theorem ZoW (N:Nat) (s_:(List T4)) (c0_:T4) (r:Bool) (h:B4 N s_ c0_=some r) :
 Fn Tryz.prog 189 ⟨2,[.S 0,.c (.cl 190 [] [1])],[(0,.sl Y7 s_)],[(1,.box (Ur c0_) 99)],2,.O r,[],[(1,.box (Ur c0_) 99)]⟩:=by
 refine Zv func189 rfl (fun E F w=>?_)
 unfold B4 at h
 refine wO J 8 h fun x1 d h=>Zo (Zle N s_ c0_ _ d) [] [(0,.sl 0),(1,.bp 1 0)] ?_
 cases h
 exact wr J 3 func189 []
theorem Zmv (N:Nat) (g_:T6) (all_:(List T4)) (r:Bool) (h:Gm N g_ all_=some r) :
 Fn Tryz.prog 191 ⟨3,[.a [.sl 0,.sl 1],.S 2],[(0,.sl Yy g_.Diffs),(1,.sl (rP (rI .i64) (rI .i64)) g_.Equals),(2,.sl Y7 all_)],[],3,.O r,[],[]⟩:=by
 refine Zv func191 rfl (fun E F w=>?_)
 unfold Gm at h
 refine wB J 13 h (fun h=>?_) fun h=>?_
 ·cases h
  exact wr J 11 func191 []
 refine wB J 6 h (fun h=>?_) fun h=>wa J 10 (Zz (σ:=Unit) (fun st=>(Zgx g_.Diffs g_.Equals all_ [(1,.S 2),(2,.B 3 0)])) (fun st=>LQ N g_ all_=some r) ?_ (fun j1=>?_))
 ·cases h
  exact wr J 5 func191 []
 ·intro _ h
  replace h:LQ N g_ all_=some r:=h
  unfold LQ at h
  refine wa J 8 (Zz (σ:=Unit) (fun st=>⟨[],[],[(0,.sl Yy g_.Diffs),(1,.sl (rP (rI .i64) (rI .i64)) g_.Equals),(2,.sl Y7 all_)],4⟩) (fun st=>Bt=some r) ?_ (fun j3=>?_))
  ·intro _ h
   replace h:Bt=some r:=h
   unfold Bt at h
   cases h
   exact wr J 4 func191 []
  refine wa J 1 (ZH (σ:=Int) (fun st=>⟨[(1,.S 2),(56,.S 1),(57,.I (g_.Equals.length:Int)),(58,.I st)],[],[(0,.sl Yy g_.Diffs),(1,.sl (rP (rI .i64) (rI .i64)) g_.Equals),(2,.sl Y7 all_)],4⟩) (fun n st=>VC N g_ all_ n st) (r:=r) (fun _=>rfl) ?_ (fun ih=>?_))
  ·intro n13 ih14
   intro c h
   replace h:VC N g_ all_ (n13+1) c=some r:=h
   unfold VC at h
   refine Zp J 5 h (fun h=>wa J 2 (Zj [] (j3 () h))) fun h=>?_
   refine wO J 6 h fun d e h=>Zt J (oP (oI .i64) (oI .i64)) e (wa J 9 (Zz (σ:=Unit) (fun st=>⟨[(1,.S 2),(56,.S 1),(57,.I (g_.Equals.length:Int)),(58,.I c)],[],[(0,.sl Yy g_.Diffs),(1,.sl (rP (rI .i64) (rI .i64)) g_.Equals),(2,.sl Y7 all_)],6⟩) (fun st=>MH c (VC N g_ all_ n13)=some r) ?_ (fun j21=>?_)))
   ·intro _ h
    replace h:MH c (VC N g_ all_ n13)=some r:=h
    unfold MH at h
    exact wa J 5 (Zj [] (ih14 (Zi (c+1)) h))
   refine wa J 1 (ZH (σ:=Int) (fun st=>⟨[(1,.S 2),(56,.S 1),(57,.I (g_.Equals.length:Int)),(58,.I c),(62,.a [.I d.1,.I d.2]),(63,.I st)],[],[(0,.sl Yy g_.Diffs),(1,.sl (rP (rI .i64) (rI .i64)) g_.Equals),(2,.sl Y7 all_)],6⟩) (fun n st=>P3 all_ c (VC N g_ all_ n13) d n st) (r:=r) (fun _=>rfl) ?_ (fun ih=>?_))
   ·intro n15 ih23
    intro f h
    replace h:P3 all_ c (VC N g_ all_ n13) d (n15+1) f=some r:=h
    unfold P3 at h
    refine Zp J 5 h (fun h=>wa J 2 (Zj [] (j21 () h))) fun h=>?_
    refine wO J 6 h fun g j h=>eAx (SC.i .i64) ([d.1,d.2]:List Int) j ?_
    refine wB J 7 h (fun h=>?_) fun h=>?_
    ·cases h
     exact wr J 20 func191 []
    refine wB J 6 h (fun h=>?_) fun h=>?_
    ·cases h
     exact wr J 14 func191 []
    refine wO J 2 h fun k l h=>Zt J WD l ?_
    refine wB J 6 h (fun h=>?_) fun h=>wa J 7 (Zj [] (ih23 (Zi (f+1)) h))
    cases h
    exact wr J 5 func191 []
   exact Zj [] (ih N 0 h)
  exact Zj [] (ih N 0 h)
 refine wa J 1 (ZH (σ:=Int) (fun st=>(Zgx g_.Diffs g_.Equals all_ [(1,.S 2),(2,.B 3 0),(22,.S 0),(23,.I (g_.Diffs.length:Int)),(24,.I st)])) (fun n st=>QG N g_ all_ n st) (r:=r) (fun _=>rfl) ?_ (fun ih=>?_))
 ·intro n16 ih24
  intro m h
  replace h:QG N g_ all_ (n16+1) m=some r:=h
  unfold QG at h
  refine Zp J 5 h (fun h=>wa J 2 (Zj [] (j1 () h))) fun h=>?_
  refine wO J 6 h fun o p h=>Zt J Tx p ?_
  refine wB J 13 h (fun h=>?_) fun h=>?_
  ·cases h
   exact wr J 25 func191 []
  refine wB J 10 h (fun h=>?_) fun h=>?_
  ·cases h
   exact wr J 15 func191 []
  refine wB J 5 h (fun h=>?_) fun h=>?_
  ·cases h
   exact wr J 10 func191 []
  refine wB J 5 h (fun h=>?_) fun h=>wa J 7 (Zj [] (ih24 (Zi (m+1)) h))
  cases h
  exact wr J 5 func191 []
 exact Zj [] (ih N 0 h)
theorem Zgj (N:Nat) (l_:(List T0)) (r:Bool) (h:Lu N l_=some r) :
 Fn Tryz.prog 138 ⟨1,[.S 0],[(0,.sl ZQ l_)],[],1,.O r,[],[]⟩:=by
 refine Zv func138 rfl (fun E F w=>?_)
 unfold Lu at h
 refine wB J 11 h (fun h=>?_) fun h=>?_
 ·cases h
  exact wr J 5 func138 []
 refine wO J 5 h fun x1 c h=>Zo (ZjO N l_ _ c) [] [(0,.sl 0)] ?_
 refine wB J 9 h (fun h=>?_) fun h=>wa J 13 (Zz (σ:=Unit) (fun st=>⟨[],[],[(0,.sl ZQ l_)],2⟩) (fun st=>HQ=some r) ?_ (fun j1=>?_))
 ·cases h
  exact wr J 5 func138 []
 ·intro _ h
  replace h:HQ=some r:=h
  unfold HQ at h
  cases h
  exact wr J 4 func138 []
 refine wa J 1 (ZH (σ:=Int × Int) (fun st=>(ZeJ x1 l_ [(0,.S 0),(3,.S 1),(4,.I st.1),(17,.S 0),(18,.I (l_.length:Int)),(19,.I st.2)])) (fun n st=>WR N l_ x1 n st.1 st.2) (r:=r) (fun _=>rfl) ?_ (fun ih=>?_))
 ·intro n12 ih12
  rintro ⟨d,e⟩ h
  replace h:WR N l_ x1 (n12+1) d e=some r:=h
  unfold WR at h
  refine Zp J 5 h (fun h=>wa J 2 (Zj [] (j1 () h))) fun h=>?_
  refine wO J 7 h fun f g h=>Zt J Xf g ?_
  refine wO J 10 h fun i j h=>Zo (Zqj N f.Name _ j) [] [] ?_
  refine wB J 2 h (fun h=>?_) fun h=>?_
  ·cases h
   exact wr J 24 func138 []
  refine wB J 6 h (fun h=>?_) fun h=>?_
  ·cases h
   exact wr J 18 func138 []
  refine wB J 6 h (fun h=>?_) fun h=>?_
  ·cases h
   exact wr J 12 func138 []
  refine wO J 2 h fun k l h=>Qn J ZQ l ?_
  refine wO J 1 h fun m o h=>Zo (ZmH N k f _ o) [] [(0,.sl 7),(1,.bp 6 0),(2,.sl 3),(3,.sl 4),(4,.sl 5)] ?_
  refine wB J 2 h (fun h=>?_) fun h=>wa J 19 (Zz (σ:=Unit) (fun st=>(Zg6 x1 f l_ [(0,.S 0),(3,.S 1),(4,.I (Zi (d+(f.Fields.length:Int)))),(6,.B 6 0),(17,.S 0),(18,.I (l_.length:Int)),(19,.I e)])) (fun st=>Li N x1 d e (WR N l_ x1 n12) f=some r) ?_ (fun j19=>?_))
  ·cases h
   exact wr J 5 func138 []
  ·intro _ h
   replace h:Li N x1 d e (WR N l_ x1 n12) f=some r:=h
   unfold Li at h
   refine wO J 5 h fun p q h=>W2 (Zmv N f.Guard x1 _ q) [] [(0,.sl 4),(1,.sl 5),(2,.sl 1)] [1] (.inr ⟨rfl,trivial⟩) ?_
   refine wB J 2 h (fun h=>?_) fun h=>wa J 7 (Zj [] (ih12 ((Zi (d+(f.Fields.length:Int))),(Zi (e+1))) h))
   cases h
   exact wr J 5 func138 []
  refine wa J 1 (ZH (σ:=Int) (fun st=>(Zg6 x1 f l_ [(0,.S 0),(3,.S 1),(4,.I (Zi (d+(f.Fields.length:Int)))),(6,.B 6 0),(17,.S 0),(18,.I (l_.length:Int)),(19,.I e),(53,.S 3),(54,.I (f.Fields.length:Int)),(55,.I st)])) (fun n st=>RG N x1 d e (WR N l_ x1 n12) f n st) (r:=r) (fun _=>rfl) ?_ (fun ih=>?_))
  ·intro n14 ih21
   intro s h
   replace h:RG N x1 d e (WR N l_ x1 n12) f (n14+1) s=some r:=h
   unfold RG at h
   refine Zp J 5 h (fun h=>wa J 2 (Zj [] (j19 () h))) fun h=>?_
   refine wO J 7 h fun t u h=>Zt J WD u ?_
   refine wO J 9 h fun v x h=>Zo (Zde N t.Name _ x) [] [] ?_
   refine wB J 2 h (fun h=>?_) fun h=>?_
   ·cases h
    exact wr J 19 func138 []
   refine wO J 2 h fun y z h=>Zo (Zpy N t.Sort' _ z) [] [] ?_
   refine wB J 3 h (fun h=>?_) fun h=>?_
   ·cases h
    exact wr J 13 func138 []
   refine wO J 3 h fun A C h=>Qn J Y7 C ?_
   refine wO J 1 h fun D G h=>Zo (ZoW N A t _ G) [] [(0,.sl 10),(1,.bp 9 0)] ?_
   refine wB J 2 h (fun h=>?_) fun h=>wa J 7 (Zj [] (ih21 (Zi (s+1)) h))
   cases h
   exact wr J 5 func138 []
  exact Zj [] (ih N 0 h)
 exact Zj [] (ih N (0,0) h)
theorem Zsz (N:Nat) (d_:T0) (r:(List T1)) (h:Zdb N d_=some r) :
 Fn Tryz.prog 204 ⟨3,[.a (YM 0 1 2 d_)],(YJ 0 1 2 d_ []),[],4,.S 3,[],[(3,.own Yy r true)]⟩:=by
 refine Zv func204 rfl (fun E F w=>?_)
 unfold Zdb at h
 refine wa J 17 (Zz (σ:=(List T1)) (fun st=>⟨[(1,.B 3 0),(3,.S 4)],[(3,.box (YM 0 1 2 d_) 106),(4,.own Yy st true)],(YJ 0 1 2 d_ []),5⟩) (fun st=>Ga N d_ st=some r) ?_ (fun j1=>?_))
 ·intro c h
  replace h:Ga N d_ c=some r:=h
  unfold Ga at h
  refine wO J 6 h fun x9 d h=>Yk J Yy d (wa J 11 (Zz (σ:=(List T1)) (fun st=>⟨[(3,.S 6)],[(6,.own Yy st true)],(YJ 0 1 2 d_ []),7⟩) (fun st=>DA st=some r) ?_ (fun j3=>?_)))
  ·intro e h
   replace h:DA e=some r:=h
   unfold DA at h
   cases h
   exact wr J 5 func204 [(3,.sl 6)]
  refine wa J 1 (ZH (σ:=(List T1) × Int) (fun st=>⟨[(3,.S 6),(44,.S 2),(45,.I (d_.Guard.Equals.length:Int)),(46,.I st.2)],[(6,.own Yy st.1 true)],(YJ 0 1 2 d_ []),7⟩) (fun n st=>Rr d_ n st.1 st.2) (r:=r) (fun _=>rfl) ?_ (fun ih=>?_))
  ·intro n3 ih5
   rintro ⟨f,g⟩ h
   replace h:Rr d_ (n3+1) f g=some r:=h
   unfold Rr at h
   refine Zp J 5 h (fun h=>wa J 2 (Zj [] (j3 f h))) fun h=>?_
   refine wO J 6 h fun i j h=>Zt J (oP (oI .i64) (oI .i64)) j (wa J 6 (US 0 rfl (wa J 1 (US 1 rfl (wa J 2 (US 1 rfl (wa J 1 (US 0 rfl (wa J 2 (Z5 J [] Tx ([(⟨i.1,i.2,0⟩:T1),(⟨i.2,i.1,0⟩:T1)]:List T1) ?_))))))))))
   obtain ⟨k,l,h⟩:=ob h
   exact Yk J Yy l (wa J 7 (Zj [(6,.sl 10)] (ih5 (k,(Zi (g+1))) h)))
  exact Zj [(6,.sl 5)] (ih N (x9,0) h)
 refine wa J 1 (ZH (σ:=(List T1) × Int) (fun st=>⟨[(1,.B 3 0),(3,.S 4),(9,.S 0),(10,.I (d_.Fields.length:Int)),(11,.I st.2)],[(3,.box (YM 0 1 2 d_) 106),(4,.own Yy st.1 true)],(YJ 0 1 2 d_ []),5⟩) (fun n st=>Rs N d_ n st.1 st.2) (r:=r) (fun _=>rfl) ?_ (fun ih=>?_))
 ·intro n4 ih6
  rintro ⟨m,o⟩ h
  replace h:Rs N d_ (n4+1) m o=some r:=h
  unfold Rs at h
  refine Zp J 5 h (fun h=>wa J 2 (Zj [] (j1 m h))) fun h=>?_
  refine wO J 7 h fun p q h=>Zt J WD q (wa J 24 (Z5 J [] Tx ([(⟨(Zi (d_.First+o)),(-1),p.Sort'.Hi⟩:T1),(⟨(-1),(Zi (d_.First+o)),(Zi (0-p.Sort'.Lo))⟩:T1)]:List T1) ?_))
  obtain ⟨s,t,h⟩:=ob h
  exact Yk J Yy t (wa J 7 (Zj [(4,.sl 8)] (ih6 (s,(Zi (o+1))) h)))
 exact Zj [(4,.nil)] (ih N (([]:List T1),0) h)
theorem Zk8 (N:Nat) (decls_:(List T0)) (label_:Int) (r:(List T1) × Int) (h:Zam N decls_ label_=some r) :
 Fn Tryz.prog 174 ⟨1,[.S 0,.I label_],[(0,.sl ZQ decls_)],[],2,.t [.inl (.sl 1),.inl (.I r.2)],[],[(1,.own Yy r.1 true)]⟩:=by
 refine Zv func174 rfl (fun E F w=>?_)
 unfold Zam at h
 refine wB J 11 h (fun h=>?_) fun h=>?_
 ·cases h
  exact wr J 17 func174 [(1,.nil)]
 refine wB J 6 h (fun h=>?_) fun h=>?_
 ·cases h
  exact wr J 11 func174 [(1,.nil)]
 refine wO J 1 h fun x1 c h=>Zo (Zgj N decls_ _ c) [] [(0,.sl 0)] ?_
 refine wB J 3 h (fun h=>?_) fun h=>?_
 ·cases h
  exact wr J 6 func174 [(1,.nil)]
 refine wO J 6 h fun x2 d h=>Zt J Xf d ?_
 refine wO J 1 h fun x3 e h=>Zo (Zsz N x2 _ e) [] [(0,.sl 2),(1,.sl 3),(2,.sl 4)] ?_
 cases h
 exact wr J 3 func174 [(1,.sl 5)]
theorem ZrH (N:Nat) (l_:(List T0)) (r:Bool) (h:DF N l_=some r) :
 Fn Tryz.prog 129 ⟨1,[.S 0],[(0,.sl ZQ l_)],[],1,.O r,[],[]⟩:=by
 refine Zv func129 rfl (fun E F w=>?_)
 unfold DF at h
 refine wB J 11 h (fun h=>?_) fun h=>?_
 ·cases h
  exact wr J 5 func129 []
 refine wO J 5 h fun x1 c h=>Zo (Zk8 N l_ 0 _ c) [] [(0,.sl 0)] ?_
 cases h
 exact wr J 12 func129 []
theorem Ztm (N:Nat) (g_:T5) (r:Bool) (h:Gk N g_=some r) :
 Fn Tryz.prog 130 ⟨4,[.a (Yr 0 1 2 3 g_)],(Yx 0 1 2 3 g_ []),[],4,.O r,[],[]⟩:=by
 refine Zv func130 rfl (fun E F w=>?_)
 unfold Gk at h
 refine wa J 13 (Zz (σ:=Unit) (fun st=>(MA g_ [])) (fun st=>D6=some r) ?_ (fun j1=>?_))
 ·intro _ h
  replace h:D6=some r:=h
  unfold D6 at h
  cases h
  exact wr J 4 func130 []
 refine wa J 1 (ZH (σ:=Int) (fun st=>(Tp g_ [(1,.B 4 0),(8,.S 2),(9,.I (g_.Edges.length:Int)),(10,.I st)])) (fun n st=>Ww N g_ n st) (r:=r) (fun _=>rfl) ?_ (fun ih=>?_))
 ·intro n12 ih33
  intro c h
  replace h:Ww N g_ (n12+1) c=some r:=h
  unfold Ww at h
  refine Zp J 5 h (fun h=>wa J 2 (Zj [] (j1 () h))) fun h=>?_
  refine wO J 7 h fun d e h=>Zt J Wh e ?_
  refine wa J 14 (Zz (σ:=Bool) (fun st=>(ZcZ g_ d [(1,.B 4 0),(3,.I c),(4,.B 6 0),(8,.S 2),(9,.I (g_.Edges.length:Int)),(10,.I c),(30,.O st)])) (fun st=>Mh N g_ c (Ww N g_ n12) d st=some r) ?_ (fun j54=>?_))
  ·intro f h
   replace h:Mh N g_ c (Ww N g_ n12) d f=some r:=h
   unfold Mh at h
   refine eB h (fun h=>?_) fun h=>wa J 9 (Zz (σ:=Unit) (fun st=>⟨[(1,.B 4 0),(8,.S 2),(9,.I (g_.Edges.length:Int)),(10,.I c)],[(4,.box (Yr 0 1 2 3 g_) 27)],(Yx 0 1 2 3 g_ []),7⟩) (fun st=>Le c (Ww N g_ n12)=some r) ?_ (fun j55=>?_))
   ·cases h
    exact wr J 5 func130 []
   ·intro _ h
    replace h:Le c (Ww N g_ n12)=some r:=h
    unfold Le at h
    exact wa J 5 (Zj [] (ih33 (Zi (c+1)) h))
   refine wa J 1 (ZH (σ:=Int) (fun st=>(ZcZ g_ d [(1,.B 4 0),(3,.I c),(4,.B 6 0),(8,.S 2),(9,.I (g_.Edges.length:Int)),(10,.I c),(32,.S 2),(33,.I (g_.Edges.length:Int)),(34,.I st)])) (fun n st=>Vs g_ c (Ww N g_ n12) d n st) (r:=r) (fun _=>rfl) ?_ (fun ih=>?_))
   ·intro n14 ih60
    intro g h
    replace h:Vs g_ c (Ww N g_ n12) d (n14+1) g=some r:=h
    unfold Vs at h
    refine Zp J 5 h (fun h=>wa J 2 (Zj [] (j55 () h))) fun h=>?_
    refine wO J 7 h fun i j h=>Zt J Wh j ?_
    refine wa J 12 (Zz (σ:=Bool) (fun st=>(Zhe g_ d i [(1,.B 4 0),(3,.I c),(4,.B 6 0),(6,.B 8 0),(8,.S 2),(9,.I (g_.Edges.length:Int)),(10,.I c),(32,.S 2),(33,.I (g_.Edges.length:Int)),(34,.I g),(68,.O st)])) (fun st=>Ss d g (Vs g_ c (Ww N g_ n12) d n14) i st=some r) ?_ (fun j63=>?_))
    ·intro k h
     replace h:Ss d g (Vs g_ c (Ww N g_ n12) d n14) i k=some r:=h
     unfold Ss at h
     refine eB h (fun h=>?_) fun h=>?_
     ·cases h
      exact wr J 5 func130 []
     refine Zp J 7 h (fun h=>wa J 32 (Zj [] (ih60 (Zi (g+1)) h))) fun h=>?_
     refine Zp J 7 h (fun h=>wa J 25 (Zj [] (ih60 (Zi (g+1)) h))) fun h=>?_
     refine wB J 8 h (fun h=>?_) fun h=>?_
     ·cases h
      exact wr J 15 func130 []
     refine wB J 10 h (fun h=>?_) fun h=>wa J 7 (Zj [] (ih60 (Zi (g+1)) h))
     cases h
     exact wr J 5 func130 []
    refine WA h (fun h=>wa J 27 (Zj [] (j63 false h))) fun h=>?_
    refine Zp J 7 h (fun h=>wa J 20 (Zj [] (j63 false h))) fun h=>wa J 4 (QU ?_)
    refine wB J 1 h (fun h=>wa J 14 (Zj [] (j63 true h))) fun h=>?_
    exact wB J 9 h (fun h=>wa J 5 (Zj [] (j63 true h))) fun h=>wa J 5 (Zj [] (j63 d.Again h))
   exact Zj [] (ih N 0 h)
  refine eB h (fun h=>wa J 11 (Zj [] (j54 true h))) fun h=>?_
  exact wB J 3 h (fun h=>wa J 8 (Zj [] (j54 (d.From==g_.Start) h))) fun h=>wa J 8 (Zj [] (j54 false h))
 exact Zj [] (ih N 0 h)
theorem Zrl (N:Nat) (g_:T5) (r:Bool) (h:BF N g_=some r) :
 Fn Tryz.prog 131 ⟨4,[.a (Yr 0 1 2 3 g_)],(Yx 0 1 2 3 g_ []),[],4,.O r,[],[]⟩:=by
 refine Zv func131 rfl (fun E F w=>?_)
 unfold BF at h
 refine wa J 17 (Zz (σ:=Unit) (fun st=>(MA g_ [])) (fun st=>Dj=some r) ?_ (fun j1=>?_))
 ·intro _ h
  replace h:Dj=some r:=h
  unfold Dj at h
  cases h
  exact wr J 4 func131 []
 refine wa J 1 (ZH (σ:=Int × Int) (fun st=>(Tp g_ [(1,.B 4 0),(3,.I st.1),(7,.S 3),(8,.I (g_.Timeouts.length:Int)),(9,.I st.2)])) (fun n st=>UP g_ n st.1 st.2) (r:=r) (fun _=>rfl) ?_ (fun ih=>?_))
 ·intro n2 ih3
  rintro ⟨c,d⟩ h
  replace h:UP g_ (n2+1) c d=some r:=h
  unfold UP at h
  refine Zp J 5 h (fun h=>wa J 2 (Zj [] (j1 () h))) fun h=>?_
  refine wO J 6 h fun e f h=>Zt J RZ f ?_
  refine wB J 12 h (fun h=>wa J 43 (Zy ?_)) fun h=>?_
  ·cases h
   exact wr J 5 func131 []
  refine wB J 5 h (fun h=>wa J 38 (Zy ?_)) fun h=>?_
  ·cases h
   exact wr J 5 func131 []
  refine wB J 5 h (fun h=>wa J 33 (Zy ?_)) fun h=>?_
  ·cases h
   exact wr J 5 func131 []
  refine wB J 5 h (fun h=>wa J 28 (Zy ?_)) fun h=>?_
  ·cases h
   exact wr J 5 func131 []
  refine wB J 8 h (fun h=>wa J 20 (Zy ?_)) fun h=>?_
  ·cases h
   exact wr J 5 func131 []
  refine wO J 4 h fun g i h=>Zt J Wh i ?_
  refine wB J 7 h (fun h=>wa J 8 (Zy ?_)) fun h=>?_
  ·cases h
   exact wr J 5 func131 []
  refine wO J 4 h fun j k h=>Zt J Wh k (wa J 3 (Zy ?_))
  refine eB h (fun h=>?_) fun h=>wa J 12 (Zj [] (ih3 (e.State,(Zi (d+1))) h))
  cases h
  exact wr J 5 func131 []
 exact Zj [] (ih N ((-1),0) h)
theorem ZsD (N:Nat) (x_:Int) (y_:Int) (r:Int × Int) (h:Zen N x_ y_=some r) :
 Fn Tryz.prog 221 ⟨0,[.c (.i .u64 x_),.c (.i .u64 y_)],[],[],0,.t [.inl (.i .u64 r.1),.inl (.i .u64 r.2)],[],[]⟩:=by
 refine Zv func221 rfl (fun E F w=>?_)
 unfold Zen at h
 refine wO J 8 h fun x1 d h=>UV d ?_
 refine wO J 5 h fun x2 e h=>UV e ?_
 refine wO J 5 h fun x3 f h=>UV f ?_
 refine wO J 5 h fun x4 g h=>UV g ?_
 refine wO J 15 h fun x5 j h=>UV j ?_
 refine wO J 6 h fun x6 k h=>UV k ?_
 refine wO J 5 h fun x7 l h=>UV l ?_
 refine wO J 19 h fun x8 m h=>UV m ?_
 cases h
 exact wr J 10 func221 []
theorem Zss (N:Nat) (x_:Int) (y_:Int) (r:Int × Int) (h:BM N x_ y_=some r) :
 Fn Tryz.prog 205 ⟨0,[.c (.i .u64 x_),.c (.i .u64 y_)],[],[],0,.t [.inl (.i .u64 r.1),.inl (.i .u64 r.2)],[],[]⟩:=by
 refine Zv func205 rfl (fun E F w=>?_)
 unfold BM at h
 refine wO J 12 h fun x1 d h=>Zo (ZsD N x_ y_ _ d) [] [] ?_
 cases h
 exact wr J 13 func205 []
theorem ZoA (N:Nat) (x_:(List Int)) (count_:Int) (r:(List Int)) (h:GD N x_ count_=some r) :
 Fn Tryz.prog 176 ⟨1,[.S 0,.I count_],[(0,.sl (rI .i64) x_)],[],2,.S 1,[],[(1,.own (rI .i64) r true)]⟩:=by
 refine Zv func176 rfl (fun E F w=>?_)
 unfold GD at h
 refine wB J 10 h (fun h=>?_) fun h=>?_
 ·cases h
 refine wO J 9 h fun x1 d h=>Zo (Zss N (wk .u64 ((x_.length:Int))) (wk .u64 (count_)) _ d) [] [] ?_
 refine wa J 12 (Zz (σ:=Bool) (fun st=>(PL x_ [(0,.S 0),(6,.c (.i .u64 x1.2)),(26,.O st)])) (fun st=>Lk N x_ x1 st=some r) ?_ (fun j2=>?_))
 ·intro e h
  replace h:Lk N x_ x1 e=some r:=h
  unfold Lk at h
  refine eB h (fun h=>?_) fun h=>?_
  ·cases h
  refine wO J 6 h fun x2 f h=>UM J (oI .i64) f ?_
  refine wO J 6 h fun x3 g h=>eCp J (rI .i64) g (wa J 3 (Zz (σ:=(List Int)) (fun st=>(ZaM st x_ [(7,.S 1)])) (fun st=>HK st=some r) ?_ (fun j4=>?_)))
  ·intro j h
   replace h:HK j=some r:=h
   unfold HK at h
   cases h
   exact wr J 5 func176 [(1,.sl 1)]
  refine wa J 1 (ZH (σ:=(List Int) × Int) (fun st=>(ZaM st.1 x_ [(7,.S 1),(8,.I st.2)])) (fun n st=>Qq n st.1 st.2) (r:=r) (fun _=>rfl) ?_ (fun ih=>?_))
  ·intro n2 ih6
   rintro ⟨k,l⟩ h
   replace h:Qq (n2+1) k l=some r:=h
   unfold Qq at h
   refine Zp J 8 h (fun h=>wa J 2 (Zj [] (j4 k h))) fun h=>?_
   refine wO J 7 h fun m o h=>SO J (rI .i64) o ?_
   refine wO J 2 h fun p q h=>SO J (rI .i64) q ?_
   obtain ⟨s,t,h⟩:=ob h
   exact eDw J (rI .i64) q t (wa J 2 (Zy (wa J 1 (Zj [] (ih6 (s.1,(Zi (l+s.2))) h)))))
  exact Zj [] (ih N (x3.1,x3.2) h)
 exact eB h (fun h=>wa J 4 (Zj [] (j2 true h))) fun h=>wa J 4 (Zj [] (j2 (decide (x1.2 > 9223372036854775807)) h))
theorem Ziv (N:Nat) (g_:T5) (from_:Int) (back_:Bool) (r:(List Int)) (h:MR N g_ from_ back_=some r) :
 Fn Tryz.prog 133 ⟨4,[.a (Yr 0 1 2 3 g_),.I from_,.O back_],(Yx 0 1 2 3 g_ []),[],5,.S 4,[],[(4,.own (rI .i64) r true)]⟩:=by
 refine Zv func133 rfl (fun E F w=>?_)
 unfold MR at h
 refine wa J 7 (Z5 J [] (oI .i64) ([(-1)]:List Int) ?_)
 refine wO J 2 h fun x1 c h=>W2 (ZoA N ([(-1)]:List Int) g_.States _ c) [] [(0,.sl 5)] [5] (.inr ⟨rfl,⟨(Zc5 _),trivial⟩⟩) ?_
 refine wO J 6 h fun x2 d h=>ZT J (rI .i64) d (XW J [] (oI .i64) 0 d (wa J 5 (Z5 J [] (oI .i64) ([from_]:List Int) (wa J 2 (Zz (σ:=(List Int)) (fun st=>⟨[(7,.S 6)],[(6,.own (rI .i64) st true)],(Yx 0 1 2 3 g_ []),9⟩) (fun st=>Zb1 st=some r) ?_ (fun j1=>?_))))))
 ·intro e h
  replace h:Zb1 e=some r:=h
  unfold Zb1 at h
  cases h
  exact wr J 5 func133 [(4,.sl 6)]
 refine wa J 1 (ZH (σ:=(List Int) × (List Int)) (fun st=>⟨[(2,.O back_),(3,.B 4 0),(7,.S 6),(8,.S 9)],[(4,.box (Yr 0 1 2 3 g_) 27),(6,.own (rI .i64) st.1 true),(9,.own (rI .i64) st.2 true)],(Yx 0 1 2 3 g_ []),10⟩) (fun n st=>VA N g_ back_ n st.1 st.2) (r:=r) (fun _=>rfl) ?_ (fun ih=>?_))
 ·intro n12 ih30
  rintro ⟨f,g⟩ h
  replace h:VA N g_ back_ (n12+1) f g=some r:=h
  unfold VA at h
  refine Zp J 7 h (fun h=>wa J 2 (Zj [] (j1 f h))) fun h=>wa J 11 (Zz (σ:=(List Int) × (List Int)) (fun st=>(ZhH g_ st.1 st.2 [(2,.O back_),(3,.B 4 0),(7,.S 6),(8,.S 10)])) (fun st=>MM (VA N g_ back_ n12) st.1 st.2=some r) ?_ (fun j49=>?_))
  ·rintro ⟨i,j⟩ h
   replace h:MM (VA N g_ back_ n12) i j=some r:=h
   unfold MM at h
   exact wO J 3 h fun k l h=>SO J (rI .i64) l (wa J 2 (eSl (rI .i64) 11 l (Zj [(9,.sl 11)] (ih30 (i,k) h))))
  refine wa J 1 (ZH (σ:=(List Int) × (List Int) × Int) (fun st=>(ZhH g_ st.1 st.2.1 [(2,.O back_),(3,.B 4 0),(7,.S 6),(8,.S 10),(28,.S 2),(29,.I (g_.Edges.length:Int)),(30,.I st.2.2)])) (fun n st=>VR g_ back_ (VA N g_ back_ n12) n st.1 st.2.1 st.2.2) (r:=r) (fun _=>rfl) ?_ (fun ih=>?_))
  ·intro n14 ih54
   rintro ⟨m,o,p⟩ h
   replace h:VR g_ back_ (VA N g_ back_ n12) (n14+1) m o p=some r:=h
   unfold VR at h
   refine Zp J 5 h (fun h=>wa J 2 (Zj [] (j49 (m,o) h))) fun h=>?_
   refine wO J 6 h fun q s h=>Zt J Wh s (wa J 12 (Zy (wa J 5 (Zz (σ:=Int × Int) (fun st=>⟨[(2,.O back_),(3,.B 4 0),(7,.S 6),(8,.S 10),(11,.I st.1),(12,.I st.2),(28,.S 2),(29,.I (g_.Edges.length:Int)),(30,.I p)],[(4,.box (Yr 0 1 2 3 g_) 27),(6,.own (rI .i64) m true),(10,.own (rI .i64) o true)],(Yx 0 1 2 3 g_ []),13⟩) (fun st=>MC m o p (VR g_ back_ (VA N g_ back_ n12) n14) st.1 st.2=some r) ?_ (fun j57=>?_)))))
   ·rintro ⟨t,u⟩ h
    replace h:MC m o p (VR g_ back_ (VA N g_ back_ n12) n14) t u=some r:=h
    unfold MC at h
    refine wO J 4 h fun v x h=>ZT J (rI .i64) x (Z9 J (oI .i64) x ?_)
    refine Zp J 2 h (fun h=>wa J 14 (Zj [] (ih54 (m,o,(Zi (p+1))) h))) fun h=>?_
    refine wO J 2 h fun y z h=>ZT J (rI .i64) z (Z9 J (oI .i64) z ?_)
    refine Zp J 3 h (fun h=>wa J 7 (Zj [] (ih54 (m,o,(Zi (p+1))) h))) fun h=>?_
    refine wO J 7 h fun A C h=>ZT J (rI .i64) C (Z9 J (oI .i64) C ?_)
    refine wO J 1 h fun D G h=>ZT J (rI .i64) G (XW J [] (oI .i64) (Zi (A+1)) G (wa J 4 (Z5 J [] (oI .i64) ([u]:List Int) ?_)))
    obtain ⟨H,R,h⟩:=ob h
    exact Yk J (rI .i64) R (wa J 7 (Zj [(10,.sl 18)] (ih54 ((ZW m u (Zi (A+1))),H,(Zi (p+1))) h)))
   exact eB h (fun h=>wa J 7 (Zj [] (j57 (q.To,q.From) h))) fun h=>wa J 2 (Zj [] (j57 (q.From,q.To) h))
  exact Zj [(10,.sl 9)] (ih N (f,g,0) h)
 exact Zj [(9,.sl 8)] (ih N ((ZW x1 from_ 0),([from_]:List Int)) h)
theorem Zn5 (N:Nat) (s_:(List Int)) (v_:Int) (r:Int) (h:ZbT N s_ v_=some r) :
 Fn Tryz.prog 175 ⟨1,[.S 0,.I v_],[(0,.sl (rI .i64) s_)],[],1,.I r,[],[]⟩:=by
 refine Zv func175 rfl (fun E F w=>?_)
 unfold ZbT at h
 refine wa J 11 (Zz (σ:=Unit) (fun st=>(PL s_ [])) (fun st=>BN=some r) ?_ (fun j1=>?_))
 ·intro _ h
  replace h:BN=some r:=h
  unfold BN at h
  cases h
  exact wr J 4 func175 []
 refine wa J 1 (ZH (σ:=Int) (fun st=>(PL s_ [(0,.S 0),(1,.I v_),(7,.I (s_.length:Int)),(8,.I st)])) (fun n st=>Rl s_ v_ n st) (r:=r) (fun _=>rfl) ?_ (fun ih=>?_))
 ·intro n2 ih3
  intro c h
  replace h:Rl s_ v_ (n2+1) c=some r:=h
  unfold Rl at h
  refine Zp J 5 h (fun h=>wa J 2 (Zj [] (j1 () h))) fun h=>?_
  refine wO J 14 h fun x9 d h=>Zt J (oI .i64) d ?_
  refine wB J 3 h (fun h=>?_) fun h=>wa J 7 (Zj [] (ih3 (Zi (c+1)) h))
  cases h
  exact wr J 6 func175 []
 exact Zj [] (ih N 0 h)
theorem Zku (N:Nat) (s_:(List Int)) (v_:Int) (r:Bool) (h:Ht N s_ v_=some r) :
 Fn Tryz.prog 132 ⟨1,[.S 0,.I v_],[(0,.sl (rI .i64) s_)],[],1,.O r,[],[]⟩:=by
 refine Zv func132 rfl (fun E F w=>?_)
 unfold Ht at h
 refine wO J 8 h fun x1 c h=>Zo (Zn5 N s_ v_ _ c) [] [(0,.sl 0)] ?_
 cases h
 exact wr J 3 func132 []
theorem ZnV (N:Nat) (g_:T5) (r:Bool) (h:Mo N g_=some r) :
 Fn Tryz.prog 79 ⟨4,[.a (Yr 0 1 2 3 g_)],(Yx 0 1 2 3 g_ []),[],4,.O r,[],[]⟩:=by
 refine Zv func79 rfl (fun E F w=>?_)
 unfold Mo at h
 refine wO J 8 h fun x1 c h=>Zo (Zp2 N g_ _ c) [] [(0,.sl 0),(1,.sl 1),(2,.sl 2),(3,.sl 3)] ?_
 refine Zp J 1 h (fun h=>?_) fun h=>?_
 ·cases h
  exact wr J 34 func79 []
 refine wO J 1 h fun x2 d h=>Zo (Zpk N g_ _ d) [] [(0,.sl 0),(1,.sl 1),(2,.sl 2),(3,.sl 3)] ?_
 refine Zp J 2 h (fun h=>?_) fun h=>?_
 ·cases h
  exact wr J 30 func79 []
 refine wO J 2 h fun x3 e h=>Zo (ZrH N g_.Decls _ e) [] [(0,.sl 1)] ?_
 refine Zp J 2 h (fun h=>?_) fun h=>?_
 ·cases h
  exact wr J 25 func79 []
 refine wO J 1 h fun x4 f h=>Zo (Ztm N g_ _ f) [] [(0,.sl 0),(1,.sl 1),(2,.sl 2),(3,.sl 3)] ?_
 refine Zp J 2 h (fun h=>?_) fun h=>?_
 ·cases h
  exact wr J 21 func79 []
 refine wO J 1 h fun x5 g h=>Zo (Zrl N g_ _ g) [] [(0,.sl 0),(1,.sl 1),(2,.sl 2),(3,.sl 3)] ?_
 refine Zp J 2 h (fun h=>?_) fun h=>?_
 ·cases h
  exact wr J 17 func79 []
 refine wO J 3 h fun x6 i h=>Zo (Ziv N g_ g_.Start false _ i) [] [(0,.sl 0),(1,.sl 1),(2,.sl 2),(3,.sl 3)] ?_
 obtain ⟨x7,j,h⟩:=ob h
 refine W2 (Zku N x6 (-1) _ j) [] [(0,.sl 5)] [5] (.inr ⟨rfl,trivial⟩) ?_
 refine Zp J 3 h (fun h=>?_) fun h=>?_
 ·cases h
  exact wr J 9 func79 []
 refine wO J 3 h fun x8 k h=>Zo (Ziv N g_ g_.End true _ k) [] [(0,.sl 0),(1,.sl 1),(2,.sl 2),(3,.sl 3)] ?_
 obtain ⟨x9,l,h⟩:=ob h
 refine W2 (Zku N x8 (-1) _ l) [] [(0,.sl 6)] [6] (.inr ⟨rfl,trivial⟩) ?_
 cases h
 exact wr J 4 func79 []
theorem Zd5 (N:Nat) (m_:T8) (n_:Int) (r:Bool) (h:P0 N m_ n_=some r) :
 Fn Tryz.prog 206 ⟨3,[.a (YT 0 1 2 m_),.I n_],(YZ 0 1 2 m_ []),[],3,.O r,[],[]⟩:=by
 refine Zv func206 rfl (fun E F w=>?_)
 unfold P0 at h
 refine wB J 10 h (fun h=>?_) fun h=>?_
 ·cases h
  exact wr J 7 func206 []
 cases h
 exact wr J 7 func206 []
theorem ZpN (N:Nat) (m_:T8) (r:Bool) (h:Dd N m_=some r) :
 Fn Tryz.prog 177 ⟨3,[.a (YT 0 1 2 m_)],(YZ 0 1 2 m_ []),[],3,.O r,[],[]⟩:=by
 refine Zv func177 rfl (fun E F w=>?_)
 unfold Dd at h
 refine wB J 12 h (fun h=>?_) fun h=>?_
 ·cases h
  exact wr J 41 func177 []
 refine wB J 5 h (fun h=>?_) fun h=>?_
 ·cases h
  exact wr J 36 func177 []
 refine wB J 5 h (fun h=>?_) fun h=>?_
 ·cases h
  exact wr J 31 func177 []
 refine wB J 5 h (fun h=>?_) fun h=>?_
 ·cases h
  exact wr J 26 func177 []
 refine wO J 3 h fun x1 c h=>Zo (Zd5 N m_ m_.Start _ c) [] [(0,.sl 0),(1,.sl 1),(2,.sl 2)] ?_
 refine wB J 3 h (fun h=>?_) fun h=>?_
 ·cases h
  exact wr J 19 func177 []
 refine wB J 8 h (fun h=>?_) fun h=>?_
 ·cases h
  exact wr J 11 func177 []
 refine wB J 6 h (fun h=>?_) fun h=>wa J 10 (Zz (σ:=Unit) (fun st=>(H6 m_ [])) (fun st=>Zb7=some r) ?_ (fun j1=>?_))
 ·cases h
  exact wr J 5 func177 []
 ·intro _ h
  replace h:Zb7=some r:=h
  unfold Zb7 at h
  cases h
  exact wr J 4 func177 []
 refine wa J 1 (ZH (σ:=Int) (fun st=>(DO m_ [(1,.B 3 0),(45,.S 1),(46,.I (m_.Moves.length:Int)),(47,.I st)])) (fun n st=>Re N m_ n st) (r:=r) (fun _=>rfl) ?_ (fun ih=>?_))
 ·intro n2 ih3
  intro d h
  replace h:Re N m_ (n2+1) d=some r:=h
  unfold Re at h
  refine Zp J 5 h (fun h=>wa J 2 (Zj [] (j1 () h))) fun h=>?_
  refine wO J 6 h fun e f h=>Zt J YX f ?_
  refine wO J 9 h fun g i h=>Zo (Zd5 N m_ e.From _ i) [] [(0,.sl 0),(1,.sl 1),(2,.sl 2)] ?_
  refine wB J 2 h (fun h=>?_) fun h=>?_
  ·cases h
   exact wr J 39 func177 []
  refine wO J 3 h fun j k h=>Zo (Zd5 N m_ e.To _ k) [] [(0,.sl 0),(1,.sl 1),(2,.sl 2)] ?_
  refine wB J 3 h (fun h=>?_) fun h=>?_
  ·cases h
   exact wr J 32 func177 []
  refine wB J 5 h (fun h=>?_) fun h=>?_
  ·cases h
   exact wr J 27 func177 []
  refine wB J 5 h (fun h=>?_) fun h=>?_
  ·cases h
   exact wr J 22 func177 []
  refine wB J 7 h (fun h=>?_) fun h=>?_
  ·cases h
   exact wr J 15 func177 []
  refine wB J 5 h (fun h=>?_) fun h=>?_
  ·cases h
   exact wr J 10 func177 []
  refine wB J 5 h (fun h=>?_) fun h=>wa J 7 (Zj [] (ih3 (Zi (d+1)) h))
  cases h
  exact wr J 5 func177 []
 exact Zj [] (ih N 0 h)
section
variable [LxP]
theorem ZcT (N:Nat) (x_:T9) (r:SB) (h:S1 N x_=some r) :
 Fn Tryz.prog 209 ⟨0,[.a (QJ x_)],[],[],0,.a (Zff r),[],[]⟩:=by
 refine Zv func209 rfl (fun E F w=>?_)
 unfold S1 at h
 cases h
 exact wr J 16 func209 []
end
section
variable [LxP]
theorem Zio (N:Nat) (x_:Int) (r:Bool) (h:HO N x_=some r) :
 Fn Tryz.prog 183 ⟨0,[.I x_],[],[],0,.O r,[],[]⟩:=by
 refine Zv func183 rfl (fun E F w=>?_)
 unfold HO at h
 cases h
 exact wr J 11 func183 []
end
section
variable [LxP]
theorem Bg (N:Nat) (x_:Int) (y_:Int) (r:Int) (h:Rb N x_ y_=some r) :
 Fn Tryz.prog 136 ⟨0,[.I x_,.I y_],[],[],0,.I r,[],[]⟩:=by
 refine Zv func136 rfl (fun E F w=>?_)
 unfold Rb at h
 refine wO J 7 h fun x1 c h=>Zo (Zio N x_ _ c) [] [] ?_
 refine wO J 5 h fun x2 d h=>Zo (Zio N y_ _ d) [] [] ?_
 refine wB J 7 h (fun h=>?_) fun h=>?_
 ·refine wB J 6 h (fun h=>?_) fun h=>?_
  ·cases h
   exact wr J 5 func136 []
  cases h
  exact wr J 6 func136 []
 refine wB J 7 h (fun h=>?_) fun h=>?_
 ·cases h
  exact wr J 5 func136 []
 refine wB J 9 h (fun h=>?_) fun h=>?_
 ·cases h
  exact wr J 5 func136 []
 refine wB J 9 h (fun h=>?_) fun h=>?_
 ·cases h
  exact wr J 5 func136 []
 cases h
 exact wr J 6 func136 []
end
section
variable [LxP]
theorem Zhx (N:Nat) (vals_:(List Int)) (r:Int) (h:TQ N vals_=some r) :
 Fn Tryz.prog 135 ⟨1,[.S 0],[(0,.sl (rI .i64) vals_)],[],1,.I r,[],[]⟩:=by
 refine Zv func135 rfl (fun E F w=>?_)
 unfold TQ at h
 refine wa J 15 (Zz (σ:=Unit) (fun st=>(PL vals_ [(3,.I 0)])) (fun st=>Zcx=some r) ?_ (fun j1=>?_))
 ·intro _ h
  replace h:Zcx=some r:=h
  unfold Zcx at h
  cases h
  exact wr J 5 func135 []
 refine wa J 1 (ZH (σ:=Int) (fun st=>(PL vals_ [(3,.I 0),(6,.S 0),(7,.I (vals_.length:Int)),(8,.I st)])) (fun n st=>WO vals_ n st) (r:=r) (fun _=>rfl) ?_ (fun ih=>?_))
 ·intro n2 ih3
  intro c h
  replace h:WO vals_ (n2+1) c=some r:=h
  unfold WO at h
  refine Zp J 5 h (fun h=>wa J 2 (Zj [] (j1 () h))) fun h=>?_
  refine wO J 6 h fun x9 d h=>Zt J (oI .i64) d ?_
  refine wB J 9 h (fun h=>?_) fun h=>wa J 7 (Zj [] (ih3 (Zi (c+1)) h))
  cases h
  exact wr J 6 func135 []
 exact Zj [] (ih N 0 h)
end
section
variable [LxP]
theorem Zl3 (N:Nat) (x_:SB) (y_:SB) (r:Int) (h:Bl N x_ y_=some r) :
 Fn Tryz.prog 210 ⟨0,[.a (Zff x_),.a (Zff y_)],[],[],0,.I r,[],[]⟩:=by
 refine Zv func210 rfl (fun E F w=>?_)
 unfold Bl at h
 refine wB J 15 h (fun h=>?_) fun h=>?_
 ·refine wB J 7 h (fun h=>?_) fun h=>?_
  ·cases h
   exact wr J 5 func210 []
  cases h
  exact wr J 6 func210 []
 refine wO J 8 h fun x1 c h=>Zo (Bg N x_.peer' y_.peer' _ c) [] [] ?_
 refine wO J 4 h fun x2 d h=>Zo (Bg N x_.label' y_.label' _ d) [] [] (Z5 J [] (oI .i64) ([x1,x2]:List Int) ?_)
 obtain ⟨x3,e,h⟩:=ob h
 refine W2 (Zhx N ([x1,x2]:List Int) _ e) [] [(0,.sl 2)] [2] (.inr ⟨rfl,trivial⟩) (wa J 1 (Zy ?_))
 cases h
 exact Yc J func210 []
end
section
variable [LxP]
theorem ZsP (N:Nat) (i_:Int) (k_:Int) (c0_:T8) (r:Int) (h:Mm N i_ k_ c0_=some r) :
 Fn Tryz.prog 208 ⟨4,[.I i_,.I k_,.B 0 0],(YZ 1 2 3 c0_ []),[(0,.box (YT 1 2 3 c0_) 31)],4,.I r,[],[(0,.box (YT 1 2 3 c0_) 31)]⟩:=by
 refine Zv func208 rfl (fun E F w=>?_)
 unfold Mm at h
 refine wO J 9 h fun x1 c h=>Zt J YX c ?_
 refine wO J 1 h fun x2 d h=>Zo (ZcT N x1 _ d) [] [] ?_
 refine wO J 3 h fun x3 e h=>Zt J YX e ?_
 refine wO J 1 h fun x4 f h=>Zo (ZcT N x3 _ f) [] [] ?_
 obtain ⟨x5,g,h⟩:=ob h
 refine Zo (Zl3 N x2 x4 _ g) [] [] (wa J 1 (Zy ?_))
 cases h
 exact Yc J func208 []
end
theorem ZnT (N:Nat) (m_:T8) (r:YF) (h:Br N m_=some r) :
 Fn Tryz.prog 178 ⟨3,[.a (YT 0 1 2 m_)],(YZ 0 1 2 m_ []),[],8,.B 3 0,(WZ 4 5 6 7 r []),[(3,.box (Wm 4 5 6 7 r) 261)]⟩:=by
 refine Zv func178 rfl (fun E F w=>?_)
 unfold Br at h
 obtain ⟨us,hus,h⟩:=ob h
 obtain ⟨K,h⟩|⟨K,h⟩:=oc h
 ·cases h
 have hne:us≠[]:=by intro e;rw [e] at K;cases K
 refine wm J (UM J ZoB hus (wm J (Zy (eGt (rI .i64) 4 hne (fun q=>?_)))))
 refine wm J (ZH (σ:=List Value × List (List Int) × Int) (fun st=>(ZjK m_ m_.Role m_.States m_.Start (Yu (rI .i64) w.heap.size q.1 q.2 st.1 st.2.1 none) (VQ q.1 q.2 us.length) [(1,.B 3 0),(3,.B 5 0),(15,.S 1),(16,.I (m_.Moves.length:Int)),(17,.I st.2.2)]))
  (fun n st=>bif Nat.beq st.2.1.length us.length then QS N m_ n st.2.1 st.2.2 else none) (r:=r) (fun st=>by cases Nat.beq st.2.1.length us.length<;>rfl) ?_ (fun ih=>?_))
 ·intro n1 ih1
  rintro ⟨vs,xss,i⟩ h
  obtain ⟨hl,h⟩:=og h
  replace hl:Nat.beq xss.length us.length=true:=hl
  have hl':=Zd hl
  replace h:QS N m_ (n1+1) xss i=some r:=h
  unfold QS at h
  obtain ⟨K,h⟩|⟨K,h⟩:=Bm h
  ·refine wH J 5 K (wm J (eTn (b:=q.1) (p0:=q.2) (len:=us.length) J (wm J (ZH (σ:=List (List Int) × Int) (fun st=>(ZjK m_ m_.Role m_.States m_.Start (Yu (rI .i64) w.heap.size q.1 q.2 vs st.1 none) (VQ q.1 q.2 us.length) [(1,.B 3 0),(3,.B 5 0),(44,.S 4),(45,.I (us.length:Int)),(46,.I st.2)]))
    (fun n st=>bif Nat.beq st.1.length us.length then TR N m_ n st.1 st.2 else none) (r:=r) (fun st=>by cases Nat.beq st.1.length us.length<;>rfl) ?_ (fun ih=>?_)))))
   ·intro n2 ih2
    rintro ⟨yss,j⟩ h
    obtain ⟨hl,h⟩:=og h
    replace hl:Nat.beq yss.length us.length=true:=hl
    have hl':=Zd hl
    replace h:TR N m_ (n2+1) yss j=some r:=h
    unfold TR at h
    rw [hl'] at h
    obtain ⟨K,h⟩|⟨K,h⟩:=Bm h
    ·cases h
     exact wH J 5 K (eGf (R:=rI .i64) (b:=q.1) (p0:=q.2) (vs:=vs) 4 hl' (wm J (Yc J func178 [(3,.bp 5 0),(4,.sl 0),(5,.sl 1),(6,.sl 2),(7,.sl 4)])))
    obtain ⟨xs,hxs,h⟩:=ob h
    obtain ⟨hk,h⟩:=og h
    unfold Gw at hk
    rw [Zc,Zc,decide_eq_true_eq] at hk
    obtain ⟨k1,k2,k3⟩:=hk
    obtain ⟨j1,j2,j3⟩:=QY hxs
    have hn:(decide (0≤j) && decide (j < (us.length:Int)))=true:=by rw [hl'] at j2;simp [j1,j2]
    refine wH J 5 K (eGk (R:=rI .i64) (b:=q.1) (p0:=q.2) (vs:=vs) 4 j3 (wm J (eTx (b:=q.1) (p0:=q.2) (len:=us.length) J hn (eTl (R:=rI .i64) (n1:=w.heap.size) (b:=q.1) (p0:=q.2) (vs:=vs) (xss:=yss) (h:=some j.toNat) 4 6 j.toNat J (wm J (eSr (q:=6) Zt2 k3 (ZgM k2) (cf:=XT N m_) ⟨Tryz.f208,func208,rfl,rfl⟩ (fun a b ha hb=>@ZsP MG N a b m_ (XT N m_ a b) ?_) [(0,.bp 3 0),(1,.sl 0),(2,.sl 1),(3,.sl 2)] (eGp (R:=rI .i64) (b:=q.1) (p0:=q.2) (vs:=vs) (xss:=yss) (j:=j.toNat) (xs:=X3 (XT N m_) xs) 4 6 (wm J (Zj [] (ih2 (yss.set j.toNat (X3 (XT N m_) xs),(Zi (j+1))) ?_))))))))))
    ·have:=List.all_eq_true.1 (List.all_eq_true.1 k1 a ha) b hb
     obtain ⟨z,hz⟩:=Option.isSome_iff_exists.1 this
     unfold XT
     rw [hz];rfl
    ·show (bif Nat.beq (yss.set j.toNat _).length us.length then _ else none)=some r
     rw [List.length_set,hl]
     exact h
   ·refine Zj [] (ih N (xss,0) ?_)
    show (bif Nat.beq xss.length us.length then _ else none)=some r
    rw [hl];exact h
  refine wH J 5 K ?_
  obtain ⟨x,hx,h⟩:=ob h
  obtain ⟨xs,hxs,h⟩:=ob h
  obtain ⟨ys,hys,h⟩:=ob h
  obtain ⟨j1,j2,j3⟩:=QY hxs
  have hn:(decide (0≤x.From) && decide (x.From < (us.length:Int)))=true:=by rw [hl'] at j2;simp [j1,j2]
  have hj:Nat.blt x.From.toNat xss.length=true:=Nat.ble_eq_true_of_le (by omega)
  refine wm J (Zt J YX hx (eGk (R:=rI .i64) (b:=q.1) (p0:=q.2) (vs:=vs) 4 j3 (wm J (eTx (b:=q.1) (p0:=q.2) (len:=us.length) J hn (eTl (R:=rI .i64) (n1:=w.heap.size) (b:=q.1) (p0:=q.2) (vs:=vs) (xss:=xss) (h:=some x.From.toNat) 4 7 x.From.toNat J (wm J (Z5 J [] (oI .i64) ([i]:List Int) (Yk J (rI .i64) hys (eTx (b:=q.1) (p0:=q.2) (len:=us.length) J hn (eTt (eTs (R:=rI .i64) (b:=q.1) (p0:=q.2) (vs:=vs) (xss:=xss) (xs:=ys) 4 10 x.From.toNat J hj (fun v=>wm J (Zj [] (ih1 (vs.set x.From.toNat v,xss.set x.From.toNat ys,(Zi (i+1))) ?_))))))))))))))
  show (bif Nat.beq (xss.set x.From.toNat ys).length us.length then _ else none)=some r
  rw [List.length_set,hl]
  exact h
 refine Zj [] (ih N (List.replicate us.length (.slice none 0 0),List.replicate us.length [],0) ?_)
 show (bif Nat.beq (List.replicate us.length []).length us.length then _ else none)=some r
 rw [List.length_replicate,Nat.beq_refl]
 exact h
theorem Zt7 (N:Nat) (t_:YF) (r:Bool) (h:LI N t_=some r) :
 Fn Tryz.prog 179 ⟨5,[.B 0 0],(WZ 1 2 3 4 t_ []),[(0,.box (Wm 1 2 3 4 t_) 261)],5,.O r,[],[(0,.box (Wm 1 2 3 4 t_) 261)]⟩:=by
 refine Zv func179 rfl (fun E F w=>?_)
 unfold LI at h
 refine wa J 14 (Zz (σ:=Unit) (fun st=>(HH t_ [])) (fun st=>Zck=some r) ?_ (fun j1=>?_))
 ·intro _ h
  replace h:Zck=some r:=h
  unfold Zck at h
  cases h
  exact wr J 4 func179 []
 refine wa J 1 (ZH (σ:=Int) (fun st=>(HH t_ [(0,.B 0 0),(11,.S 4),(12,.I (t_.out'.length:Int)),(13,.I st)])) (fun n st=>X9 N t_ n st) (r:=r) (fun _=>rfl) ?_ (fun ih=>?_))
 ·intro n12 ih12
  intro c h
  replace h:X9 N t_ (n12+1) c=some r:=h
  unfold X9 at h
  refine Zp J 5 h (fun h=>wa J 2 (Zj [] (j1 () h))) fun h=>?_
  refine wO J 6 h fun d e h=>Zt J (YK (rI .i64)) e (wa J 7 (Zz (σ:=Unit) (fun st=>⟨[(0,.B 0 0),(11,.S 4),(12,.I (t_.out'.length:Int)),(13,.I c)],[(0,.box (Wm 1 2 3 4 t_) 261)],(WZ 1 2 3 4 t_ []),7⟩) (fun st=>Rn c (X9 N t_ n12)=some r) ?_ (fun j19=>?_)))
  ·intro _ h
   replace h:Rn c (X9 N t_ n12)=some r:=h
   unfold Rn at h
   exact wa J 5 (Zj [] (ih12 (Zi (c+1)) h))
  refine wa J 1 (ZH (σ:=Int) (fun st=>⟨[(0,.B 0 0),(4,.S 6),(5,.I st),(11,.S 4),(12,.I (t_.out'.length:Int)),(13,.I c)],[(0,.box (Wm 1 2 3 4 t_) 261)],(WZ 1 2 3 4 t_ [(6,.sl (rI .i64) d)]),7⟩) (fun n st=>Tt N t_ c (X9 N t_ n12) d n st) (r:=r) (fun _=>rfl) ?_ (fun ih=>?_))
  ·intro n14 ih21
   intro f h
   replace h:Tt N t_ c (X9 N t_ n12) d (n14+1) f=some r:=h
   unfold Tt at h
   refine Zp J 8 h (fun h=>wa J 2 (Zj [] (j19 () h))) fun h=>?_
   refine wO J 14 h fun g i h=>Zt J (oI .i64) i ?_
   refine wO J 1 h fun j k h=>Zt J YX k ?_
   refine wO J 8 h fun l m h=>Zt J (oI .i64) m ?_
   refine wO J 1 h fun o p h=>Zt J YX p (wa J 5 (Zy ?_))
   refine wO J 3 h fun q s h=>Zo (ZcT N j _ s) [] [] ?_
   refine wO J 1 h fun t u h=>Zo (ZcT N o _ u) [] [] (QU ?_)
   refine wB J 1 h (fun h=>wa J 6 (Zy ?_)) fun h=>wa J 6 (Zy ?_)
   ·cases h
    exact wr J 5 func179 []
   refine eB h (fun h=>?_) fun h=>wa J 8 (Zj [] (ih21 (Zi (f+1)) h))
   cases h
   exact wr J 5 func179 []
  exact Zj [] (ih N 1 h)
 exact Zj [] (ih N 0 h)
theorem Zsw (N:Nat) (t_:YF) (r:Bool) (h:Mt N t_=some r) :
 Fn Tryz.prog 180 ⟨5,[.B 0 0],(WZ 1 2 3 4 t_ []),[(0,.box (Wm 1 2 3 4 t_) 261)],5,.O r,[],[(0,.box (Wm 1 2 3 4 t_) 261)]⟩:=by
 refine Zv func180 rfl (fun E F w=>?_)
 unfold Mt at h
 refine wO J 11 h fun x1 c h=>UM J oB c ?_
 refine wO J 10 h fun x2 d h=>ZT J rB d (XW J [] oB true d (wa J 8 (Z5 J [] (oI .i64) ([t_.Machine.Start]:List Int) (wa J 7 (Zz (σ:=(List Int)) (fun st=>⟨[(0,.B 0 0),(4,.S 8)],[(0,.box (Wm 1 2 3 4 t_) 261),(8,.own (rI .i64) st true)],(WZ 1 2 3 4 t_ []),9⟩) (fun st=>Zc1 t_ st=some r) ?_ (fun j1=>?_))))))
 ·intro e h
  replace h:Zc1 t_ e=some r:=h
  unfold Zc1 at h
  cases h
  exact wr J 12 func180 []
 refine wa J 1 (ZH (σ:=(List Bool) × (List Int) × Int) (fun st=>⟨[(0,.B 0 0),(3,.S 5),(4,.S 8),(5,.I st.2.2)],[(0,.box (Wm 1 2 3 4 t_) 261),(5,.own rB st.1 true),(8,.own (rI .i64) st.2.1 true)],(WZ 1 2 3 4 t_ []),9⟩) (fun n st=>WS N t_ n st.1 st.2.1 st.2.2) (r:=r) (fun _=>rfl) ?_ (fun ih=>?_))
 ·intro n12 ih12
  rintro ⟨f,g,i⟩ h
  replace h:WS N t_ (n12+1) f g i=some r:=h
  unfold WS at h
  refine Zp J 8 h (fun h=>wa J 2 (Zj [] (j1 g h))) fun h=>?_
  refine wO J 12 h fun j k h=>ZT J (rI .i64) k (Z9 J (oI .i64) k ?_)
  obtain ⟨l,m,h⟩:=ob h
  refine Zt J (YK (rI .i64)) m (wa J 3 (Zy (Zz (σ:=(List Bool) × (List Int)) (fun st=>⟨[(0,.B 0 0),(3,.S 5),(4,.S 12),(5,.I i)],[(0,.box (Wm 1 2 3 4 t_) 261),(5,.own rB st.1 true),(12,.own (rI .i64) st.2 true)],(WZ 1 2 3 4 t_ []),13⟩) (fun st=>ZcJ i (WS N t_ n12) st.1 st.2=some r) ?_ (fun j19=>?_))))
  ·rintro ⟨o,p⟩ h
   replace h:ZcJ i (WS N t_ n12) o p=some r:=h
   unfold ZcJ at h
   exact wa J 6 (Zj [(8,.sl 12)] (ih12 (o,p,(Zi (i+1))) h))
  refine wa J 1 (ZH (σ:=(List Bool) × (List Int) × Int) (fun st=>⟨[(0,.B 0 0),(3,.S 5),(4,.S 12),(5,.I i),(43,.S 11),(44,.I (l.length:Int)),(45,.I st.2.2)],[(0,.box (Wm 1 2 3 4 t_) 261),(5,.own rB st.1 true),(12,.own (rI .i64) st.2.1 true)],(WZ 1 2 3 4 t_ [(11,.sl (rI .i64) l)]),13⟩) (fun n st=>UC t_ i (WS N t_ n12) l n st.1 st.2.1 st.2.2) (r:=r) (fun _=>rfl) ?_ (fun ih=>?_))
  ·intro n14 ih21
   rintro ⟨q,s,t⟩ h
   replace h:UC t_ i (WS N t_ n12) l (n14+1) q s t=some r:=h
   unfold UC at h
   refine Zp J 5 h (fun h=>wa J 2 (Zj [] (j19 (q,s) h))) fun h=>?_
   refine wO J 6 h fun u v h=>Zt J (oI .i64) v ?_
   refine wO J 11 h fun x y h=>Zt J YX y ?_
   refine wO J 8 h fun z A h=>ZT J rB A (Z9 J oB A ?_)
   refine Zp J 2 h (fun h=>wa J 7 (Zj [] (ih21 (q,s,(Zi (t+1))) h))) fun h=>?_
   refine wO J 5 h fun C D h=>ZT J rB D (XW J [] oB true D (wa J 4 (Z5 J [] (oI .i64) ([x.To]:List Int) ?_)))
   obtain ⟨G,H,h⟩:=ob h
   exact Yk J (rI .i64) H (wa J 7 (Zj [(12,.sl 18)] (ih21 ((ZW q x.To true),G,(Zi (t+1))) h)))
  exact Zj [(12,.sl 8)] (ih N (f,g,0) h)
 exact Zj [(8,.sl 7)] (ih N ((ZW x1 t_.Machine.Start true),([t_.Machine.Start]:List Int),0) h)
theorem Zol (N:Nat) (t_:YF) (r:Bool) (h:LA N t_=some r) :
 Fn Tryz.prog 181 ⟨5,[.B 0 0],(WZ 1 2 3 4 t_ []),[(0,.box (Wm 1 2 3 4 t_) 261)],5,.O r,[],[(0,.box (Wm 1 2 3 4 t_) 261)]⟩:=by
 refine Zv func181 rfl (fun E F w=>?_)
 unfold LA at h
 refine wa J 15 (Zz (σ:=Unit) (fun st=>(HH t_ [])) (fun st=>Zbj=some r) ?_ (fun j1=>?_))
 ·intro _ h
  replace h:Zbj=some r:=h
  unfold Zbj at h
  cases h
  exact wr J 4 func181 []
 refine wa J 1 (ZH (σ:=Int) (fun st=>(HH t_ [(0,.B 0 0),(11,.S 2),(12,.I (t_.Machine.Moves.length:Int)),(13,.I st)])) (fun n st=>Wq N t_ n st) (r:=r) (fun _=>rfl) ?_ (fun ih=>?_))
 ·intro n12 ih12
  intro c h
  replace h:Wq N t_ (n12+1) c=some r:=h
  unfold Wq at h
  refine Zp J 5 h (fun h=>wa J 2 (Zj [] (j1 () h))) fun h=>?_
  refine wO J 6 h fun d e h=>Zt J YX e ?_
  refine wB J 11 h (fun h=>wa J 6 (Zj [] (ih12 (Zi (c+1)) h))) fun h=>?_
  refine wB J 9 h (fun h=>wa J 32 (Zy ?_)) fun h=>?_
  ·cases h
   exact wr J 5 func181 []
  refine wO J 6 h fun f g h=>Zt J (YK (rI .i64)) g ?_
  refine wB J 5 h (fun h=>wa J 20 (Zy ?_)) fun h=>?_
  ·cases h
   exact wr J 5 func181 []
  refine wB J 10 h (fun h=>wa J 10 (Zy ?_)) fun h=>?_
  ·cases h
   exact wr J 5 func181 []
  refine wO J 7 h fun i j h=>Zt J oB j (wa J 2 (Zy ?_))
  refine eB h (fun h=>?_) fun h=>wa J 12 (Zz (σ:=Unit) (fun st=>⟨[(0,.B 0 0),(11,.S 2),(12,.I (t_.Machine.Moves.length:Int)),(13,.I c)],[(0,.box (Wm 1 2 3 4 t_) 261)],(WZ 1 2 3 4 t_ []),10⟩) (fun st=>Px c (Wq N t_ n12)=some r) ?_ (fun j19=>?_))
  ·cases h
   exact wr J 5 func181 []
  ·intro _ h
   replace h:Px c (Wq N t_ n12)=some r:=h
   unfold Px at h
   exact wa J 5 (Zj [] (ih12 (Zi (c+1)) h))
  refine wa J 1 (ZH (σ:=Int) (fun st=>⟨[(0,.B 0 0),(4,.B 6 0),(11,.S 2),(12,.I (t_.Machine.Moves.length:Int)),(13,.I c),(60,.S 2),(61,.I (t_.Machine.Moves.length:Int)),(62,.I st)],[(0,.box (Wm 1 2 3 4 t_) 261),(6,.box (QJ d) 84)],(WZ 1 2 3 4 t_ []),10⟩) (fun n st=>UA t_ c (Wq N t_ n12) d n st) (r:=r) (fun _=>rfl) ?_ (fun ih=>?_))
  ·intro n14 ih21
   intro k h
   replace h:UA t_ c (Wq N t_ n12) d (n14+1) k=some r:=h
   unfold UA at h
   refine Zp J 5 h (fun h=>wa J 2 (Zj [] (j19 () h))) fun h=>?_
   refine wO J 6 h fun l m h=>Zt J YX m ?_
   refine Zp J 12 h (fun h=>wa J 19 (Zj [] (ih21 (Zi (k+1)) h))) fun h=>?_
   refine wB J 4 h (fun h=>?_) fun h=>?_
   ·cases h
    exact wr J 13 func181 []
   refine wB J 8 h (fun h=>?_) fun h=>wa J 7 (Zj [] (ih21 (Zi (k+1)) h))
   cases h
   exact wr J 5 func181 []
  exact Zj [] (ih N 0 h)
 exact Zj [] (ih N 0 h)
theorem Zm5 (N:Nat) (t_:YF) (r:Bool) (h:Hd N t_=some r) :
 Fn Tryz.prog 182 ⟨5,[.B 0 0],(WZ 1 2 3 4 t_ []),[(0,.box (Wm 1 2 3 4 t_) 261)],5,.O r,[],[(0,.box (Wm 1 2 3 4 t_) 261)]⟩:=by
 refine Zv func182 rfl (fun E F w=>?_)
 unfold Hd at h
 refine wa J 15 (Zz (σ:=Unit) (fun st=>(HH t_ [])) (fun st=>ZbE=some r) ?_ (fun j1=>?_))
 ·intro _ h
  replace h:ZbE=some r:=h
  unfold ZbE at h
  cases h
  exact wr J 4 func182 []
 refine wa J 1 (ZH (σ:=Int) (fun st=>(HH t_ [(0,.B 0 0),(10,.S 3),(11,.I (t_.Machine.Timeouts.length:Int)),(12,.I st)])) (fun n st=>YS t_ n st) (r:=r) (fun _=>rfl) ?_ (fun ih=>?_))
 ·intro n2 ih6
  intro c h
  replace h:YS t_ (n2+1) c=some r:=h
  unfold YS at h
  refine Zp J 5 h (fun h=>wa J 2 (Zj [] (j1 () h))) fun h=>?_
  refine wO J 7 h fun d e h=>Zt J RZ e ?_
  refine wa J 11 (Zz (σ:=Bool) (fun st=>⟨[(0,.B 0 0),(4,.B 6 0),(10,.S 3),(11,.I (t_.Machine.Timeouts.length:Int)),(12,.I c),(59,.O st)],[(0,.box (Wm 1 2 3 4 t_) 261),(6,.box (Zfg d) 171)],(WZ 1 2 3 4 t_ []),7⟩) (fun st=>XG t_ c (YS t_ n2) d st=some r) ?_ (fun j9=>?_))
  ·intro f h
   replace h:XG t_ c (YS t_ n2) d f=some r:=h
   unfold XG at h
   refine eB h (fun h=>?_) fun h=>?_
   ·cases h
    exact wr J 5 func182 []
   refine wO J 11 h fun g i h=>Zt J YX i (wa J 3 (Zy ?_))
   refine wB J 8 h (fun h=>?_) fun h=>?_
   ·cases h
    exact wr J 14 func182 []
   refine wB J 5 h (fun h=>?_) fun h=>?_
   ·cases h
    exact wr J 9 func182 []
   refine wB J 4 h (fun h=>?_) fun h=>wa J 7 (Zj [] (ih6 (Zi (c+1)) h))
   cases h
   exact wr J 5 func182 []
  refine WA h (fun h=>?_) fun h=>?_
  ·refine wB J 20 h (fun h=>wa J 20 (Zy (Zj [] (j9 true h)))) fun h=>?_
   refine wB J 5 h (fun h=>wa J 15 (Zy (Zj [] (j9 true h)))) fun h=>?_
   exact wB J 5 h (fun h=>wa J 10 (Zy (Zj [] (j9 true h)))) fun h=>wa J 10 (Zy (Zj [] (j9 (decide (d.Else≥(t_.Machine.Moves.length:Int))) h)))
  refine wO J 7 h fun j k h=>Zt J RZ k ?_
  refine wB J 7 h (fun h=>wa J 25 (Zy (Zj [] (j9 true h)))) fun h=>?_
  refine wB J 5 h (fun h=>wa J 20 (Zy (Zj [] (j9 true h)))) fun h=>?_
  refine wB J 5 h (fun h=>wa J 15 (Zy (Zj [] (j9 true h)))) fun h=>?_
  exact wB J 5 h (fun h=>wa J 10 (Zy (Zj [] (j9 true h)))) fun h=>wa J 10 (Zy (Zj [] (j9 (decide (d.Else≥(t_.Machine.Moves.length:Int))) h)))
 exact Zj [] (ih N 0 h)
theorem Zkz (N:Nat) (m_:T8) (r:(Option YF) × Bool) (h:P8 N m_=some r) :
 Fn Tryz.prog 134 ⟨3,[.a (YT 0 1 2 m_)],(YZ 0 1 2 m_ []),[],8,(BC r.1 (.t [.inl (.v (.pointer none)),.inl (.b r.2)]) fun q=>.t [.inl (.bp 3 0),.inl (.b r.2)]),(BC r.1 [] fun q=>(WZ 4 5 6 7 q [])),(BC r.1 [] fun q=>[(3,.box (Wm 4 5 6 7 q) 261)])⟩:=by
 refine Zv func134 rfl (fun E F w=>?_)
 unfold P8 at h
 refine wO J 10 h fun x1 c h=>Zo (ZpN N m_ _ c) [] [(0,.sl 0),(1,.sl 1),(2,.sl 2)] ?_
 refine wB J 2 h (fun h=>?_) fun h=>?_
 ·cases h
  exact wr J 6 func134 []
 refine wO J 5 h fun x2 d h=>Zo (ZnT N m_ _ d) [] [(0,.sl 0),(1,.sl 1),(2,.sl 2)] ?_
 refine wO J 6 h fun x3 e h=>Zo (Zt7 N x2 _ e) [] [(0,.bp 4 0),(1,.sl 5),(2,.sl 6),(3,.sl 7),(4,.sl 8)] ?_
 refine Zp J 1 h (fun h=>?_) fun h=>?_
 ·cases h
  exact wr J 14 func134 [(3,.bp 4 0),(4,.sl 5),(5,.sl 6),(6,.sl 7),(7,.sl 8)]
 refine wO J 1 h fun x4 f h=>Zo (Zsw N x2 _ f) [] [(0,.bp 4 0),(1,.sl 5),(2,.sl 6),(3,.sl 7),(4,.sl 8)] ?_
 refine Zp J 2 h (fun h=>?_) fun h=>?_
 ·cases h
  exact wr J 10 func134 [(3,.bp 4 0),(4,.sl 5),(5,.sl 6),(6,.sl 7),(7,.sl 8)]
 refine wO J 1 h fun x5 g h=>Zo (Zol N x2 _ g) [] [(0,.bp 4 0),(1,.sl 5),(2,.sl 6),(3,.sl 7),(4,.sl 8)] ?_
 refine Zp J 2 h (fun h=>?_) fun h=>?_
 ·cases h
  exact wr J 6 func134 [(3,.bp 4 0),(4,.sl 5),(5,.sl 6),(6,.sl 7),(7,.sl 8)]
 refine wO J 1 h fun x6 i h=>Zo (Zm5 N x2 _ i) [] [(0,.bp 4 0),(1,.sl 5),(2,.sl 6),(3,.sl 7),(4,.sl 8)] ?_
 cases h
 exact wr J 4 func134 [(3,.bp 4 0),(4,.sl 5),(5,.sl 6),(6,.sl 7),(7,.sl 8)]
theorem ZnW (N:Nat) (m_:T8) (r:(Option YF) × Bool) (h:P8 N m_=some r) (ho:r.1=none):Fn Tryz.prog 134 ⟨3,[.a (YT 0 1 2 m_)],(YZ 0 1 2 m_ []),[],8,.t [.inl (.v (.pointer none)),.inl (.b r.2)],[],[]⟩:=by
 have hf:=Zkz N m_ r h
 rw [ho] at hf
 exact hf
theorem ZmS (N:Nat) (m_:T8) (r:(Option YF) × Bool) (h:P8 N m_=some r) (q:YF) (ho:r.1=some q):Fn Tryz.prog 134 ⟨3,[.a (YT 0 1 2 m_)],(YZ 0 1 2 m_ []),[],8,.t [.inl (.bp 3 0),.inl (.b r.2)],(WZ 4 5 6 7 q []),[(3,.box (Wm 4 5 6 7 q) 261)]⟩:=by
 have hf:=Zkz N m_ r h
 rw [ho] at hf
 exact hf
theorem Zq5 (N:Nat) (m_:T8) (r:Bool) (h:PN N m_=some r) :
 Fn Tryz.prog 80 ⟨3,[.a (YT 0 1 2 m_)],(YZ 0 1 2 m_ []),[],3,.O r,[],[]⟩:=by
 refine Zv func80 rfl (fun E F w=>?_)
 unfold PN at h
 obtain ⟨x1,c,h⟩:=ob h
 rcases oO h with ⟨ox1,h⟩ | ⟨q2,ox1,h⟩
 ·refine wa J 8 (Zo (ZnW N m_ _ c ox1) [] [(0,.sl 0),(1,.sl 1),(2,.sl 2)] ?_)
  cases h
  exact wr J 11 func80 []
 refine wa J 8 (Zo (ZmS N m_ _ c q2 ox1) [] [(0,.sl 0),(1,.sl 1),(2,.sl 2)] ?_)
 cases h
 exact wr J 11 func80 []
theorem ZpM (N:Nat) (x_:T9) (c0_:T5) (r:Bool) (h:Pm N x_ c0_=some r) :
 Fn Tryz.prog 78 ⟨5,[.a (QJ x_),.B 0 0],(Yx 1 2 3 4 c0_ []),[(0,.box (Yr 1 2 3 4 c0_) 27)],5,.O r,[],[(0,.box (Yr 1 2 3 4 c0_) 27)]⟩:=by
 refine Zv func78 rfl (fun E F w=>?_)
 unfold Pm at h
 refine wB J 14 h (fun h=>?_) fun h=>?_
 ·cases h
  exact wr J 9 func78 []
 cases h
 exact wr J 9 func78 []
theorem Zmw (N:Nat) (s_:(List T9)) (c0_:T5) (r:Int) (h:Gn N s_ c0_=some r) :
 Fn Tryz.prog 46 ⟨6,[.S 0,.c (.cl 78 [] [1])],((0,.sl YL s_)::Yx 2 3 4 5 c0_ []),[(1,.box (Yr 2 3 4 5 c0_) 27)],6,.I r,[],[(1,.box (Yr 2 3 4 5 c0_) 27)]⟩:=by
 refine Zv func46 rfl (fun E F w=>?_)
 unfold Gn at h
 refine wa J 11 (Zz (σ:=Unit) (fun st=>⟨[],[(1,.box (Yr 2 3 4 5 c0_) 27)],((0,.sl YL s_)::Yx 2 3 4 5 c0_ []),6⟩) (fun st=>Zca=some r) ?_ (fun j1=>?_))
 ·intro _ h
  replace h:Zca=some r:=h
  unfold Zca at h
  cases h
  exact wr J 4 func46 []
 refine wa J 1 (ZH (σ:=Int) (fun st=>⟨[(0,.S 0),(1,.c (.cl 78 [] [1])),(7,.I (s_.length:Int)),(8,.I st)],[(1,.box (Yr 2 3 4 5 c0_) 27)],((0,.sl YL s_)::Yx 2 3 4 5 c0_ []),6⟩) (fun n st=>TH N s_ c0_ n st) (r:=r) (fun _=>rfl) ?_ (fun ih=>?_))
 ·intro n2 ih3
  intro d h
  replace h:TH N s_ c0_ (n2+1) d=some r:=h
  unfold TH at h
  refine Zp J 5 h (fun h=>wa J 2 (Zj [] (j1 () h))) fun h=>?_
  refine wO J 14 h fun e f h=>Zt J YX f ?_
  refine wO J 1 h fun g i h=>Zo (ZpM N e c0_ _ i) [] [(0,.bp 1 0),(1,.sl 2),(2,.sl 3),(3,.sl 4),(4,.sl 5)] ?_
  refine wB J 1 h (fun h=>?_) fun h=>wa J 7 (Zj [] (ih3 (Zi (d+1)) h))
  cases h
  exact wr J 6 func46 []
 exact Zj [] (ih N 0 h)
theorem Zry (N:Nat) (s_:(List T9)) (c0_:T5) (r:Bool) (h:Gr N s_ c0_=some r) :
 Fn Tryz.prog 81 ⟨6,[.S 0,.c (.cl 78 [] [1])],((0,.sl YL s_)::Yx 2 3 4 5 c0_ []),[(1,.box (Yr 2 3 4 5 c0_) 27)],6,.O r,[],[(1,.box (Yr 2 3 4 5 c0_) 27)]⟩:=by
 refine Zv func81 rfl (fun E F w=>?_)
 unfold Gr at h
 refine wO J 8 h fun x1 d h=>Zo (Zmw N s_ c0_ _ d) [] [(0,.sl 0),(1,.bp 1 0),(2,.sl 2),(3,.sl 3),(4,.sl 4),(5,.sl 5)] ?_
 cases h
 exact wr J 3 func81 []
theorem ZiP (N:Nat) (g_:T5) (m_:T8) (r:Bool) (h:Tz N g_ m_=some r) :
 Fn Tryz.prog 41 ⟨7,[.a (Yr 0 1 2 3 g_),.a (YT 4 5 6 m_)],((0,.sl rS g_.Roles)::(1,.sl ZQ g_.Decls)::(2,.sl YQ g_.Edges)::(3,.sl Z8 g_.Timeouts)::YZ 4 5 6 m_ []),[],7,.O r,[],[]⟩:=by
 refine Zv func41 rfl (fun E F w=>?_)
 unfold Tz at h
 refine wO J 14 h fun x1 c h=>Zo (ZnV N g_ _ c) [] [(0,.sl 0),(1,.sl 1),(2,.sl 2),(3,.sl 3)] ?_
 refine Zp J 1 h (fun h=>?_) fun h=>?_
 ·cases h
  exact wr J 20 func41 []
 refine wO J 1 h fun x2 d h=>Zo (Zq5 N m_ _ d) [] [(0,.sl 4),(1,.sl 5),(2,.sl 6)] ?_
 refine Zp J 2 h (fun h=>?_) fun h=>?_
 ·cases h
  exact wr J 16 func41 []
 refine Zp J 8 h (fun h=>?_) fun h=>?_
 ·cases h
  exact wr J 8 func41 []
 refine wO J 3 h fun x3 e h=>Zo (Zry N m_.Moves g_ _ e) [] [(0,.sl 5),(1,.bp 7 0),(2,.sl 0),(3,.sl 1),(4,.sl 2),(5,.sl 3)] ?_
 cases h
 exact wr J 4 func41 []
theorem Zjy (N:Nat) (g_:T5) (r:(List T4)) (h:Bc N g_=some r) :
 Fn Tryz.prog 43 ⟨4,[.a (Yr 0 1 2 3 g_)],(Yx 0 1 2 3 g_ []),[],5,.S 4,[],[(4,.own Y7 r true)]⟩:=by
 refine Zv func43 rfl (fun E F w=>?_)
 unfold Bc at h
 refine wa J 17 (Zz (σ:=(List T4)) (fun st=>⟨[(3,.S 5)],[(5,.own Y7 st true)],(Yx 0 1 2 3 g_ []),6⟩) (fun st=>DW st=some r) ?_ (fun j1=>?_))
 ·intro c h
  replace h:DW c=some r:=h
  unfold DW at h
  cases h
  exact wr J 5 func43 [(4,.sl 5)]
 refine wa J 1 (ZH (σ:=(List T4) × Int) (fun st=>⟨[(3,.S 5),(7,.S 1),(8,.I (g_.Decls.length:Int)),(9,.I st.2)],[(5,.own Y7 st.1 true)],(Yx 0 1 2 3 g_ []),6⟩) (fun n st=>QQ g_ n st.1 st.2) (r:=r) (fun _=>rfl) ?_ (fun ih=>?_))
 ·intro n2 ih3
  rintro ⟨d,e⟩ h
  replace h:QQ g_ (n2+1) d e=some r:=h
  unfold QQ at h
  refine Zp J 5 h (fun h=>wa J 2 (Zj [] (j1 d h))) fun h=>?_
  refine wO J 6 h fun f g h=>Zt J Xf g ?_
  exact wO J 8 h fun i j h=>Yk J Y7 j (wa J 7 (Zj [(5,.sl 11)] (ih3 (i,(Zi (e+1))) h)))
 exact Zj [(5,.nil)] (ih N (([]:List T4),0) h)
theorem Zf7 (N:Nat) (g_:T5) (m_:T8) (r:ZM) (h:LH N g_ m_=some r) :
 Fn Tryz.prog 21 ⟨7,[.a (Yr 0 1 2 3 g_),.a (YT 4 5 6 m_)],((0,.sl rS g_.Roles)::(1,.sl ZQ g_.Decls)::(2,.sl YQ g_.Edges)::(3,.sl Z8 g_.Timeouts)::YZ 4 5 6 m_ []),[],9,.a (VD 7 8 r),(Us 7 8 r []),[]⟩:=by
 refine Zv func21 rfl (fun E F w=>?_)
 unfold LH at h
 refine wO J 11 h fun x1 c h=>Zo (ZiP N g_ m_ _ c) [] [(0,.sl 0),(1,.sl 1),(2,.sl 2),(3,.sl 3),(4,.sl 4),(5,.sl 5),(6,.sl 6)] ?_
 refine wB J 2 h (fun h=>?_) fun h=>?_
 ·cases h
  exact wr J 6 func21 [(7,.nil),(8,.nil)]
 refine wO J 7 h fun x2 d h=>Zo (Zjy N g_ _ d) [] [(0,.sl 0),(1,.sl 1),(2,.sl 2),(3,.sl 3)] ?_
 refine wO J 1 h fun x3 e h=>UM J Yd e (wa J 2 (Zy (Xh [11] ?_)))
 cases h
 exact Yc J func21 [(7,.sl 11),(8,.nil)]
theorem Zs2 (N:Nat) (v_:Zk) (r:Int) (h:DX N v_=some r) :
 Fn Tryz.prog 75 ⟨0,[.a (XI v_)],[],[],0,.I r,[],[]⟩:=by
 refine Zv func75 rfl (fun E F w=>?_)
 unfold DX at h
 refine wB J 17 h (fun h=>?_) fun h=>?_
 ·cases h
  exact wr J 7 func75 []
 refine wB J 6 h (fun h=>?_) fun h=>?_
 ·cases h
  exact wr J 8 func75 []
 cases h
 exact wr J 7 func75 []
theorem Zm1 (N:Nat) (s_:Yg) (r:Bool) (h:z76 N s_=some r) :
 Fn Tryz.prog 76 ⟨0,[.a (V8 s_)],[],[],0,.O r,[],[]⟩:=by
 refine Zv func76 rfl (fun E F w=>?_)
 unfold z76 at h
 refine wa J 22 (Zz (σ:=Int × Int) (fun st=>⟨[(1,.B 0 0),(3,.I st.1),(4,.I st.2)],[(0,.box (V8 s_) 97)],[],1⟩) (fun st=>Hy s_ st.1 st.2=some r) ?_ (fun j1=>?_))
 ·rintro ⟨c,d⟩ h
  replace h:Hy s_ c d=some r:=h
  unfold Hy at h
  refine Zp J 8 h (fun h=>?_) fun h=>?_
  ·cases h
   exact wr J 14 func76 []
  refine wB J 7 h (fun h=>?_) fun h=>?_
  ·cases h
   exact wr J 7 func76 []
  cases h
  exact wr J 7 func76 []
 refine eB h (fun h=>wa J 5 (Zj [] (j1 ((-1000),1000) h))) fun h=>?_
 refine wB J 6 h (fun h=>wa J 5 (Zj [] (j1 (0,40) h))) fun h=>?_
 cases h
 exact wr J 5 func76 []
theorem Zo6 (N:Nat) (c_:Int) (r:Bool) (h:Zc9 N c_=some r) :
 Fn Tryz.prog 171 ⟨0,[.c (.i .i32 c_)],[],[],0,.O r,[],[]⟩:=by
 refine Zv func171 rfl (fun E F w=>?_)
 unfold Zc9 at h
 refine wB J 9 h (fun h=>?_) fun h=>?_
 ·cases h
  exact wr J 5 func171 []
 cases h
 exact wr J 5 func171 []
theorem ZtI (N:Nat) (s_:ByteArray) (truth_:Bool) (r:Int) (h:ZbA N s_ truth_=some r) :
 Fn Tryz.prog 217 ⟨0,[.c (.s s_),.c (.cl 171 [] []),.O truth_],[],[],0,.I r,[],[]⟩:=by
 refine Zv func217 rfl (fun E F w=>?_)
 unfold ZbA at h
 refine wa J 8 (eRn J (fun bk1=>wa J 1 (Zz (σ:=Nat) (fun st=>(Hl (W4 bk1 s_ st) [])) (fun st=>ZcK st=some r) ?_ (fun j1=>?_))))
 ·intro vi0_1 h
  replace h:ZcK vi0_1=some r:=h
  unfold ZcK at h
  cases h
  exact wr J 4 func217 []
 refine wa J 1 (ZH (σ:=Nat) (fun st=>(Hl (W4 bk1 s_ st) [(1,.c (.cl 171 [] [])),(2,.O truth_),(10,.c (.v (.pointer (some ⟨bk1,0,none⟩))))])) (fun n st=>Rz N s_ truth_ n st) (r:=r) (fun _=>rfl) ?_ (fun ih=>?_))
 ·intro n2 ih3
  intro vi0_3 h
  replace h:Rz N s_ truth_ (n2+1) vi0_3=some r:=h
  unfold Rz at h
  obtain ⟨K,h⟩|⟨K,h⟩:=Bm h
  ·exact wa J 2 (eNf bk1 0 K (wa J 5 (Zj [] (j1 vi0_3 h))))
  refine wa J 2 (eNt bk1 0 K ?_)
  refine wO J 17 h fun d e h=>Zo (Zo6 N ((Utf8.decode s_ vi0_3).1:Int) _ e) [] [] ?_
  refine wB J 3 h (fun h=>?_) fun h=>wa J 3 (Zj [] (ih3 (vi0_3+(Utf8.decode s_ vi0_3).2) h))
  cases h
  exact wr J 6 func217 []
 exact Zj [] (ih N (0:Nat) h)
theorem Zs7 (N:Nat) (s_:ByteArray) (r:Int) (h:Zaz N s_=some r) :
 Fn Tryz.prog 201 ⟨0,[.c (.s s_),.c (.cl 171 [] [])],[],[],0,.I r,[],[]⟩:=by
 refine Zv func201 rfl (fun E F w=>?_)
 unfold Zaz at h
 refine wO J 8 h fun x1 d h=>Zo (ZtI N s_ true _ d) [] [] ?_
 cases h
 exact wr J 2 func201 []
theorem ZpU (N:Nat) (s_:ByteArray) (r:Bool) (h:H2 N s_=some r) :
 Fn Tryz.prog 170 ⟨0,[.c (.s s_),.c (.cl 171 [] [])],[],[],0,.O r,[],[]⟩:=by
 refine Zv func170 rfl (fun E F w=>?_)
 unfold H2 at h
 refine wO J 8 h fun x1 d h=>Zo (Zs7 N s_ _ d) [] [] ?_
 cases h
 exact wr J 3 func170 []
theorem Ztc (N:Nat) (s_:ByteArray) (r:Bool) (h:Za1 N s_=some r) :
 Fn Tryz.prog 126 ⟨0,[.c (.s s_)],[],[],0,.O r,[],[]⟩:=by
 refine Zv func126 rfl (fun E F w=>?_)
 unfold Za1 at h
 refine wO J 7 h fun x1 d h=>Zo (ZpU N s_ _ d) [] [] ?_
 cases h
 exact wr J 3 func126 []
theorem Zlz (N:Nat) (v_:Zk) (r:Bool) (h:z77 N v_=some r) :
 Fn Tryz.prog 77 ⟨0,[.a (XI v_)],[],[],0,.O r,[],[]⟩:=by
 refine Zv func77 rfl (fun E F w=>?_)
 unfold z77 at h
 refine wB J 17 h (fun h=>?_) fun h=>?_
 ·refine Zp J 7 h (fun h=>?_) fun h=>?_
  ·cases h
   exact wr J 11 func77 []
  refine wB J 5 h (fun h=>?_) fun h=>?_
  ·cases h
   exact wr J 6 func77 []
  cases h
  exact wr J 6 func77 []
 refine Zp J 6 h (fun h=>?_) fun h=>?_
 ·cases h
  exact wr J 7 func77 []
 refine Zp J 7 h (fun h=>?_) fun h=>?_
 ·cases h
  exact wr J 12 func77 []
 refine Zp J 6 h (fun h=>?_) fun h=>?_
 ·cases h
  exact wr J 6 func77 []
 refine wO J 2 h fun x1 c h=>Zo (Ztc N v_.S _ c) [] [] ?_
 cases h
 exact wr J 3 func77 []
theorem ZjV (N:Nat) (s_:Yg) (v_:Zk) (r:Bool) (h:Hv N s_ v_=some r) :
 Fn Tryz.prog 40 ⟨0,[.a (V8 s_),.a (XI v_)],[],[],0,.O r,[],[]⟩:=by
 refine Zv func40 rfl (fun E F w=>?_)
 unfold Hv at h
 refine wO J 9 h fun x1 c h=>Zo (Zs2 N v_ _ c) [] [] ?_
 refine wO J 5 h fun x2 d h=>Zo (Zm1 N s_ _ d) [] [] ?_
 refine Zp J 1 h (fun h=>?_) fun h=>?_
 ·cases h
  exact wr J 24 func40 []
 refine wO J 1 h fun x3 e h=>Zo (Zlz N v_ _ e) [] [] ?_
 refine Zp J 2 h (fun h=>?_) fun h=>?_
 ·cases h
  exact wr J 20 func40 []
 refine Zp J 7 h (fun h=>?_) fun h=>?_
 ·cases h
  exact wr J 13 func40 []
 refine wB J 6 h (fun h=>?_) fun h=>?_
 ·cases h
  exact wr J 7 func40 []
 cases h
 exact wr J 7 func40 []
theorem ZmC (N:Nat) (f_:T4) (v_:Zk) (r:Bool) (h:z39 N f_ v_=some r) :
 Fn Tryz.prog 39 ⟨0,[.a (Ur f_),.a (XI v_)],[],[],0,.O r,[],[]⟩:=by
 refine Zv func39 rfl (fun E F w=>?_)
 unfold z39 at h
 refine wa J 10 (QU ?_)
 refine wB J 1 h (fun h=>?_) fun h=>?_
 ·cases h
  exact wr J 7 func39 []
 refine wO J 3 h fun x1 c h=>Zo (ZjV N f_.Sort' v_ _ c) [] [] ?_
 cases h
 exact wr J 3 func39 []
theorem ZnJ (N:Nat) (s1_:(List T4)) (s2_:(List Zk)) (r:Bool) (h:Bp N s1_ s2_=some r) :
 Fn Tryz.prog 42 ⟨2,[.S 0,.S 1,.c (.cl 39 [] [])],[(0,.sl Y7 s1_),(1,.sl Zw s2_)],[],2,.O r,[],[]⟩:=by
 refine Zv func42 rfl (fun E F w=>?_)
 unfold Bp at h
 refine wB J 13 h (fun h=>?_) fun h=>wa J 9 (Zz (σ:=Unit) (fun st=>(Lq s1_ s2_ [])) (fun st=>Zbr=some r) ?_ (fun j1=>?_))
 ·cases h
  exact wr J 5 func42 []
 ·intro _ h
  replace h:Zbr=some r:=h
  unfold Zbr at h
  cases h
  exact wr J 4 func42 []
 refine wa J 1 (ZH (σ:=Int) (fun st=>(Lq s1_ s2_ [(1,.S 1),(2,.c (.cl 39 [] [])),(15,.S 0),(16,.I (s1_.length:Int)),(17,.I st)])) (fun n st=>RF N s1_ s2_ n st) (r:=r) (fun _=>rfl) ?_ (fun ih=>?_))
 ·intro n2 ih3
  intro d h
  replace h:RF N s1_ s2_ (n2+1) d=some r:=h
  unfold RF at h
  refine Zp J 5 h (fun h=>wa J 2 (Zj [] (j1 () h))) fun h=>?_
  refine wO J 7 h fun e f h=>Zt J WD f ?_
  refine wO J 9 h fun g i h=>Zt J Yd i ?_
  refine wO J 9 h fun j k h=>Zo (ZmC N e g _ k) [] [] ?_
  refine wB J 2 h (fun h=>?_) fun h=>wa J 7 (Zj [] (ih3 (Zi (d+1)) h))
  cases h
  exact wr J 5 func42 []
 exact Zj [] (ih N 0 h)
theorem Zfo (N:Nat) (g_:T5) (m_:T8) (s_:ZM) (r:Bool) (h:Sb N g_ m_ s_=some r) :
 Fn Tryz.prog 19 ⟨9,[.a (Yr 0 1 2 3 g_),.a (YT 4 5 6 m_),.a (VD 7 8 s_)],((0,.sl rS g_.Roles)::(1,.sl ZQ g_.Decls)::(2,.sl YQ g_.Edges)::(3,.sl Z8 g_.Timeouts)::(4,.sl rB m_.Finals)::(5,.sl YL m_.Moves)::(6,.sl Z8 m_.Timeouts)::Us 7 8 s_ []),[],9,.O r,[],[]⟩:=by
 refine Zv func19 rfl (fun E F w=>?_)
 unfold Sb at h
 refine wO J 15 h fun x1 c h=>Zo (ZiP N g_ m_ _ c) [] [(0,.sl 0),(1,.sl 1),(2,.sl 2),(3,.sl 3),(4,.sl 4),(5,.sl 5),(6,.sl 6)] ?_
 refine Zp J 1 h (fun h=>wa J 20 (Zy ?_)) fun h=>?_
 ·cases h
  exact Yc J func19 []
 refine Zp J 5 h (fun h=>wa J 15 (Zy ?_)) fun h=>?_
 ·cases h
  exact Yc J func19 []
 refine Zp J 7 h (fun h=>wa J 8 (Zy ?_)) fun h=>?_
 ·cases h
  exact Yc J func19 []
 refine wO J 1 h fun x2 d h=>Zo (Zjy N g_ _ d) [] [(0,.sl 0),(1,.sl 1),(2,.sl 2),(3,.sl 3)] ?_
 refine wO J 3 h fun x3 e h=>W2 (ZnJ N x2 s_.Known _ e) [] [(0,.sl 12),(1,.sl 7)] [12] (.inr ⟨rfl,trivial⟩) (wa J 2 (Zy ?_))
 cases h
 exact Yc J func19 []
theorem Zpd (N:Nat) (y_:T9) (c0_:ZM) (c1_:T3) (r:Bool) (h:Mx N y_ c0_ c1_=some r) :
 Fn Tryz.prog 47 ⟨5,[.a (QJ y_),.B 0 0,.B 3 0],(Us 1 2 c0_ [(4,.sl Zw c1_.Values)]),[(0,.box (VD 1 2 c0_) 37),(3,.box (QI 4 c1_) 75)],5,.O r,[],[(0,.box (VD 1 2 c0_) 37),(3,.box (QI 4 c1_) 75)]⟩:=by
 refine Zv func47 rfl (fun E F w=>?_)
 unfold Mx at h
 refine Zp J 13 h (fun h=>?_) fun h=>?_
 ·cases h
  exact wr J 22 func47 []
 refine Zp J 7 h (fun h=>?_) fun h=>?_
 ·cases h
  exact wr J 15 func47 []
 refine wB J 7 h (fun h=>?_) fun h=>?_
 ·cases h
  exact wr J 8 func47 []
 cases h
 exact wr J 8 func47 []
theorem Ztd (N:Nat) (s_:(List T9)) (c0_:ZM) (c1_:T3) (r:Int) (h:LW N s_ c0_ c1_=some r) :
 Fn Tryz.prog 46 ⟨6,[.S 0,.c (.cl 47 [] [1,4])],((0,.sl YL s_)::Us 2 3 c0_ [(5,.sl Zw c1_.Values)]),[(1,.box (VD 2 3 c0_) 37),(4,.box (QI 5 c1_) 75)],6,.I r,[],[(1,.box (VD 2 3 c0_) 37),(4,.box (QI 5 c1_) 75)]⟩:=by
 refine Zv func46 rfl (fun E F w=>?_)
 unfold LW at h
 refine wa J 11 (Zz (σ:=Unit) (fun st=>(ZhN c0_ c1_ s_ c1_.Values [])) (fun st=>Zdm=some r) ?_ (fun j1=>?_))
 ·intro _ h
  replace h:Zdm=some r:=h
  unfold Zdm at h
  cases h
  exact wr J 4 func46 []
 refine wa J 1 (ZH (σ:=Int) (fun st=>(ZhN c0_ c1_ s_ c1_.Values [(0,.S 0),(1,.c (.cl 47 [] [1,4])),(7,.I (s_.length:Int)),(8,.I st)])) (fun n st=>Ti N s_ c0_ c1_ n st) (r:=r) (fun _=>rfl) ?_ (fun ih=>?_))
 ·intro n2 ih3
  intro d h
  replace h:Ti N s_ c0_ c1_ (n2+1) d=some r:=h
  unfold Ti at h
  refine Zp J 5 h (fun h=>wa J 2 (Zj [] (j1 () h))) fun h=>?_
  refine wO J 14 h fun e f h=>Zt J YX f ?_
  refine wO J 1 h fun g i h=>Zo (Zpd N e c0_ c1_ _ i) [] [(0,.bp 1 0),(1,.sl 2),(2,.sl 3),(3,.bp 4 0),(4,.sl 5)] ?_
  refine wB J 1 h (fun h=>?_) fun h=>wa J 7 (Zj [] (ih3 (Zi (d+1)) h))
  cases h
  exact wr J 6 func46 []
 exact Zj [] (ih N 0 h)
theorem Zrk (N:Nat) (f_:T4) (x_:Zk) (r:Bool) (h:z85 N f_ x_=some r) :
 Fn Tryz.prog 85 ⟨0,[.a (Ur f_),.a (XI x_)],[],[],0,.O r,[],[]⟩:=by
 refine Zv func85 rfl (fun E F w=>?_)
 unfold z85 at h
 refine wO J 11 h fun x1 c h=>Zo (ZjV N f_.Sort' x_ _ c) [] [] ?_
 cases h
 exact wr J 2 func85 []
theorem Zsa (N:Nat) (s1_:(List T4)) (s2_:(List Zk)) (r:Bool) (h:Zbp N s1_ s2_=some r) :
 Fn Tryz.prog 42 ⟨2,[.S 0,.S 1,.c (.cl 85 [] [])],[(0,.sl Y7 s1_),(1,.sl Zw s2_)],[],2,.O r,[],[]⟩:=by
 refine Zv func42 rfl (fun E F w=>?_)
 unfold Zbp at h
 refine wB J 13 h (fun h=>?_) fun h=>wa J 9 (Zz (σ:=Unit) (fun st=>(Lq s1_ s2_ [])) (fun st=>Zcg=some r) ?_ (fun j1=>?_))
 ·cases h
  exact wr J 5 func42 []
 ·intro _ h
  replace h:Zcg=some r:=h
  unfold Zcg at h
  cases h
  exact wr J 4 func42 []
 refine wa J 1 (ZH (σ:=Int) (fun st=>(Lq s1_ s2_ [(1,.S 1),(2,.c (.cl 85 [] [])),(15,.S 0),(16,.I (s1_.length:Int)),(17,.I st)])) (fun n st=>QD N s1_ s2_ n st) (r:=r) (fun _=>rfl) ?_ (fun ih=>?_))
 ·intro n2 ih3
  intro d h
  replace h:QD N s1_ s2_ (n2+1) d=some r:=h
  unfold QD at h
  refine Zp J 5 h (fun h=>wa J 2 (Zj [] (j1 () h))) fun h=>?_
  refine wO J 7 h fun e f h=>Zt J WD f ?_
  refine wO J 9 h fun g i h=>Zt J Yd i ?_
  refine wO J 9 h fun j k h=>Zo (Zrk N e g _ k) [] [] ?_
  refine wB J 2 h (fun h=>?_) fun h=>wa J 7 (Zj [] (ih3 (Zi (d+1)) h))
  cases h
  exact wr J 5 func42 []
 exact Zj [] (ih N 0 h)
theorem Zqo (N:Nat) (l_:(List T4)) (v_:(List Zk)) (r:Bool) (h:La N l_ v_=some r) :
 Fn Tryz.prog 48 ⟨2,[.S 0,.S 1],[(0,.sl Y7 l_),(1,.sl Zw v_)],[],2,.O r,[],[]⟩:=by
 refine Zv func48 rfl (fun E F w=>?_)
 unfold La at h
 refine wO J 8 h fun x1 c h=>Zo (Zsa N l_ v_ _ c) [] [(0,.sl 0),(1,.sl 1)] ?_
 cases h
 exact wr J 2 func48 []
theorem ZfO (N:Nat) (v_:Zk) (r:Int) (h:Mk N v_=some r) :
 Fn Tryz.prog 141 ⟨0,[.a (XI v_)],[],[],0,.I r,[],[]⟩:=by
 refine Zv func141 rfl (fun E F w=>?_)
 unfold Mk at h
 refine wB J 12 h (fun h=>?_) fun h=>?_
 ·cases h
  exact wr J 8 func141 []
 cases h
 exact wr J 8 func141 []
theorem Zmr (N:Nat) (r_:Int) (r:Bool) (h:Zav N r_=some r) :
 Fn Tryz.prog 192 ⟨0,[.c (.i .i32 r_)],[],[],0,.O r,[],[]⟩:=by
 refine Zv func192 rfl (fun E F w=>?_)
 unfold Zav at h
 refine wB J 9 h (fun h=>?_) fun h=>?_
 ·cases h
  exact wr J 5 func192 []
 cases h
 exact wr J 5 func192 []
theorem ZqQ (N:Nat) (s_:ByteArray) (truth_:Bool) (r:Int) (h:ZbM N s_ truth_=some r) :
 Fn Tryz.prog 217 ⟨0,[.c (.s s_),.c (.cl 192 [] []),.O truth_],[],[],0,.I r,[],[]⟩:=by
 refine Zv func217 rfl (fun E F w=>?_)
 unfold ZbM at h
 refine wa J 8 (eRn J (fun bk1=>wa J 1 (Zz (σ:=Nat) (fun st=>(Hl (W4 bk1 s_ st) [])) (fun st=>Zc4 st=some r) ?_ (fun j1=>?_))))
 ·intro vi0_1 h
  replace h:Zc4 vi0_1=some r:=h
  unfold Zc4 at h
  cases h
  exact wr J 4 func217 []
 refine wa J 1 (ZH (σ:=Nat) (fun st=>(Hl (W4 bk1 s_ st) [(1,.c (.cl 192 [] [])),(2,.O truth_),(10,.c (.v (.pointer (some ⟨bk1,0,none⟩))))])) (fun n st=>Qc N s_ truth_ n st) (r:=r) (fun _=>rfl) ?_ (fun ih=>?_))
 ·intro n2 ih3
  intro vi0_3 h
  replace h:Qc N s_ truth_ (n2+1) vi0_3=some r:=h
  unfold Qc at h
  obtain ⟨K,h⟩|⟨K,h⟩:=Bm h
  ·exact wa J 2 (eNf bk1 0 K (wa J 5 (Zj [] (j1 vi0_3 h))))
  refine wa J 2 (eNt bk1 0 K ?_)
  refine wO J 17 h fun d e h=>Zo (Zmr N ((Utf8.decode s_ vi0_3).1:Int) _ e) [] [] ?_
  refine wB J 3 h (fun h=>?_) fun h=>wa J 3 (Zj [] (ih3 (vi0_3+(Utf8.decode s_ vi0_3).2) h))
  cases h
  exact wr J 6 func217 []
 exact Zj [] (ih N (0:Nat) h)
theorem Ztu (N:Nat) (s_:ByteArray) (r:Int) (h:ZcD N s_=some r) :
 Fn Tryz.prog 201 ⟨0,[.c (.s s_),.c (.cl 192 [] [])],[],[],0,.I r,[],[]⟩:=by
 refine Zv func201 rfl (fun E F w=>?_)
 unfold ZcD at h
 refine wO J 8 h fun x1 d h=>Zo (ZqQ N s_ true _ d) [] [] ?_
 cases h
 exact wr J 2 func201 []
theorem ZtW (N:Nat) (s_:ByteArray) (r:Bool) (h:H3 N s_=some r) :
 Fn Tryz.prog 170 ⟨0,[.c (.s s_),.c (.cl 192 [] [])],[],[],0,.O r,[],[]⟩:=by
 refine Zv func170 rfl (fun E F w=>?_)
 unfold H3 at h
 refine wO J 8 h fun x1 d h=>Zo (Ztu N s_ _ d) [] [] ?_
 cases h
 exact wr J 3 func170 []
theorem ZkV (N:Nat) (s_:Yg) (v_:Zk) (r:Bool) (h:MW N s_ v_=some r) :
 Fn Tryz.prog 140 ⟨0,[.a (V8 s_),.a (XI v_)],[],[],0,.O r,[],[]⟩:=by
 refine Zv func140 rfl (fun E F w=>?_)
 unfold MW at h
 refine wB J 15 h (fun h=>wa J 13 (Zy ?_)) fun h=>?_
 ·cases h
  exact wr J 5 func140 []
 refine wO J 1 h fun x1 c h=>Zo (ZfO N v_ _ c) [] [] ?_
 refine wB J 5 h (fun h=>wa J 6 (Zy ?_)) fun h=>?_
 ·cases h
  exact wr J 5 func140 []
 refine wO J 1 h fun x2 d h=>Zo (ZfO N v_ _ d) [] [] (wa J 4 (Zy ?_))
 refine eB h (fun h=>?_) fun h=>?_
 ·cases h
  exact wr J 5 func140 []
 refine wB J 9 h (fun h=>?_) fun h=>?_
 ·cases h
  exact wr J 8 func140 []
 refine Zp J 8 h (fun h=>?_) fun h=>?_
 ·cases h
  exact wr J 7 func140 []
 refine wO J 2 h fun x3 e h=>Zo (ZtW N v_.S _ e) [] [] ?_
 cases h
 exact wr J 4 func140 []
theorem Zkc (N:Nat) (l_:(List T0)) (label_:Int) (known_:(List Zk)) (r:Bool) (h:LO N l_ label_ known_=some r) :
 Fn Tryz.prog 86 ⟨2,[.S 0,.I label_,.S 1],[(0,.sl ZQ l_),(1,.sl Zw known_)],[],2,.O r,[],[]⟩:=by
 refine Zv func86 rfl (fun E F w=>?_)
 unfold LO at h
 refine wB J 10 h (fun h=>?_) fun h=>?_
 ·cases h
  exact wr J 16 func86 []
 refine wB J 6 h (fun h=>?_) fun h=>?_
 ·cases h
  exact wr J 10 func86 []
 refine wO J 1 h fun x1 c h=>Zo (Zgj N l_ _ c) [] [(0,.sl 0)] ?_
 refine wB J 3 h (fun h=>?_) fun h=>?_
 ·cases h
  exact wr J 5 func86 []
 refine wO J 5 h fun x2 d h=>Zo (ZjO N l_ _ d) [] [(0,.sl 0)] ?_
 refine wB J 11 h (fun h=>?_) fun h=>wa J 9 (Zz (σ:=Unit) (fun st=>⟨[],[],[(0,.sl ZQ l_),(1,.sl Zw known_)],3⟩) (fun st=>Zda=some r) ?_ (fun j1=>?_))
 ·cases h
  exact wr J 5 func86 []
 ·intro _ h
  replace h:Zda=some r:=h
  unfold Zda at h
  cases h
  exact wr J 4 func86 []
 refine wa J 1 (ZH (σ:=Int) (fun st=>⟨[(7,.S 2),(30,.S 1),(31,.I (known_.length:Int)),(32,.I st)],[(2,.own Y7 x2 true)],[(0,.sl ZQ l_),(1,.sl Zw known_)],3⟩) (fun n st=>Sn N known_ x2 n st) (r:=r) (fun _=>rfl) ?_ (fun ih=>?_))
 ·intro n2 ih3
  intro e h
  replace h:Sn N known_ x2 (n2+1) e=some r:=h
  unfold Sn at h
  refine Zp J 5 h (fun h=>wa J 2 (Zj [] (j1 () h))) fun h=>?_
  refine wO J 7 h fun f g h=>Zt J Yd g (wa J 9 (QU ?_))
  refine Zp J 1 h (fun h=>wa J 9 (Zy (wa J 7 (Zj [] (ih3 (Zi (e+1)) h))))) fun h=>?_
  refine wO J 2 h fun i j h=>ZT J Y7 j (wa J 1 (Z9 J WD j ?_))
  refine wO J 1 h fun k l h=>Zo (ZkV N i.Sort' f _ l) [] [] (wa J 2 (Zy ?_))
  refine eB h (fun h=>?_) fun h=>wa J 7 (Zj [] (ih3 (Zi (e+1)) h))
  cases h
  exact wr J 5 func86 []
 exact Zj [] (ih N 0 h)
theorem ZjR (N:Nat) (l_:(List T4)) (values_:(List Zk)) (r:Bool) (h:M6 N l_ values_=some r) :
 Fn Tryz.prog 87 ⟨2,[.S 0,.S 1],[(0,.sl Y7 l_),(1,.sl Zw values_)],[],2,.O r,[],[]⟩:=by
 refine Zv func87 rfl (fun E F w=>?_)
 unfold M6 at h
 refine wB J 13 h (fun h=>?_) fun h=>wa J 9 (Zz (σ:=Unit) (fun st=>(Lq l_ values_ [])) (fun st=>B8=some r) ?_ (fun j1=>?_))
 ·cases h
  exact wr J 5 func87 []
 ·intro _ h
  replace h:B8=some r:=h
  unfold B8 at h
  cases h
  exact wr J 4 func87 []
 refine wa J 1 (ZH (σ:=Int) (fun st=>(Lq l_ values_ [(1,.S 1),(12,.S 0),(13,.I (l_.length:Int)),(14,.I st)])) (fun n st=>RY N l_ values_ n st) (r:=r) (fun _=>rfl) ?_ (fun ih=>?_))
 ·intro n2 ih3
  intro c h
  replace h:RY N l_ values_ (n2+1) c=some r:=h
  unfold RY at h
  refine Zp J 5 h (fun h=>wa J 2 (Zj [] (j1 () h))) fun h=>?_
  refine wO J 7 h fun d e h=>Zt J WD e ?_
  refine wO J 11 h fun f g h=>Zt J Yd g ?_
  refine wO J 1 h fun i j h=>Zo (ZkV N d.Sort' f _ j) [] [] (wa J 1 (Zy ?_))
  refine eB h (fun h=>?_) fun h=>wa J 7 (Zj [] (ih3 (Zi (c+1)) h))
  cases h
  exact wr J 5 func87 []
 exact Zj [] (ih N 0 h)
theorem Zgg (N:Nat) (s_:(List Zk)) (r:(List Zk)) (h:Mu N s_=some r) :
 Fn Tryz.prog 51 ⟨1,[.S 0],[(0,.sl Zw s_)],[],2,.S 1,[],[(1,.own Zw r true)]⟩:=by
 refine Zv func51 rfl (fun E F w=>?_)
 unfold Mu at h
 refine wa J 8 (eNi Zw s_ false ?_)
 intro nb hnb
 cases nb
 ·refine wa J 5 (Z5 J [] Yd ([]:List Zk) ?_)
  refine wO J 1 h fun x1 c h=>Yk J Zw c ?_
  cases h
  exact wr J 2 func51 [(1,.sl 2)]
 ·obtain rfl:=hnb rfl
  replace h:(some ([]:List Zk):Option (List Zk))=some r:=h
  cases h
  exact wr J 6 func51 [(1,.nil)]
theorem Zjq (N:Nat) (d_:T0) (values_:(List Zk)) (known_:(List Zk)) (r:(List Zk)) (h:LJ N d_ values_ known_=some r) :
 Fn Tryz.prog 89 ⟨5,[.a (YM 0 1 2 d_),.S 3,.S 4],(YJ 0 1 2 d_ [(3,.sl Zw values_),(4,.sl Zw known_)]),[],6,.S 5,[],[(5,.own Zw r true)]⟩:=by
 refine Zv func89 rfl (fun E F w=>?_)
 unfold LJ at h
 refine wO J 8 h fun x1 c h=>Zo (Zgg N known_ _ c) [] [(0,.sl 4)] ?_
 refine wO J 7 h fun x2 d h=>SO J Zw d ?_
 refine wO J 1 h fun x3 e h=>eCw J Zw e ?_
 cases h
 exact wr J 6 func89 [(5,.sl 6)]
theorem Zui (N:Nat) (g_:T6) (l_:(List Zk)) (r:Bool) (h:H5 N g_ l_=some r) :
 Fn Tryz.prog 88 ⟨3,[.a [.sl 0,.sl 1],.S 2],[(0,.sl Yy g_.Diffs),(1,.sl (rP (rI .i64) (rI .i64)) g_.Equals),(2,.sl Zw l_)],[],3,.O r,[],[]⟩:=by
 refine Zv func88 rfl (fun E F w=>?_)
 unfold H5 at h
 refine wa J 13 (Zz (σ:=Unit) (fun st=>(By g_.Diffs g_.Equals l_ [(1,.S 2),(2,.B 3 0)])) (fun st=>BL N g_ l_=some r) ?_ (fun j1=>?_))
 ·intro _ h
  replace h:BL N g_ l_=some r:=h
  unfold BL at h
  refine wa J 8 (Zz (σ:=Unit) (fun st=>(ZeQ g_.Diffs g_.Equals l_ [])) (fun st=>ZaY=some r) ?_ (fun j12=>?_))
  ·intro _ h
   replace h:ZaY=some r:=h
   unfold ZaY at h
   cases h
   exact wr J 4 func88 []
  refine wa J 1 (ZH (σ:=Int) (fun st=>(ZeQ g_.Diffs g_.Equals l_ [(1,.S 2),(55,.S 1),(56,.I (g_.Equals.length:Int)),(57,.I st)])) (fun n st=>Rg g_ l_ n st) (r:=r) (fun _=>rfl) ?_ (fun ih=>?_))
  ·intro n9 ih14
   intro c h
   replace h:Rg g_ l_ (n9+1) c=some r:=h
   unfold Rg at h
   refine Zp J 5 h (fun h=>wa J 2 (Zj [] (j12 () h))) fun h=>?_
   refine wO J 6 h fun d e h=>Zt J (oP (oI .i64) (oI .i64)) e (wa J 7 (US 0 rfl ?_))
   refine wO J 1 h fun f g h=>Zt J Yd g ?_
   refine wB J 4 h (fun h=>wa J 23 (Zy ?_)) fun h=>wa J 1 (US 1 rfl ?_)
   ·cases h
    exact wr J 5 func88 []
   refine wO J 1 h fun j k h=>Zt J Yd k ?_
   refine wB J 5 h (fun h=>wa J 14 (Zy ?_)) fun h=>wa J 1 (US 0 rfl ?_)
   ·cases h
    exact wr J 5 func88 []
   refine wO J 1 h fun l m h=>Zt J Yd m (wa J 3 (US 1 rfl ?_))
   refine wO J 1 h fun o p h=>Zt J Yd p (wa J 4 (Zy ?_))
   refine eB h (fun h=>?_) fun h=>wa J 7 (Zj [] (ih14 (Zi (c+1)) h))
   cases h
   exact wr J 5 func88 []
  exact Zj [] (ih N 0 h)
 refine wa J 1 (ZH (σ:=Int) (fun st=>(By g_.Diffs g_.Equals l_ [(1,.S 2),(2,.B 3 0),(13,.S 0),(14,.I (g_.Diffs.length:Int)),(15,.I st)])) (fun n st=>Ui N g_ l_ n st) (r:=r) (fun _=>rfl) ?_ (fun ih=>?_))
 ·intro n14 ih15
  intro q h
  replace h:Ui N g_ l_ (n14+1) q=some r:=h
  unfold Ui at h
  refine Zp J 5 h (fun h=>wa J 2 (Zj [] (j1 () h))) fun h=>?_
  refine wO J 6 h fun s t h=>Zt J Tx t (wa J 20 (Zz (σ:=Int × Int) (fun st=>(ZkE s st.1 st.2 g_.Diffs g_.Equals l_ [(1,.S 2),(2,.B 3 0),(6,.B 5 0),(7,.B 6 0),(13,.S 0),(14,.I (g_.Diffs.length:Int)),(15,.I q)])) (fun st=>BH q (Ui N g_ l_ n14) s st.1 st.2=some r) ?_ (fun j22=>?_)))
  ·rintro ⟨u,v⟩ h
   replace h:BH q (Ui N g_ l_ n14) s u v=some r:=h
   unfold BH at h
   refine wa J 2 (US 0 rfl (wa J 1 (US 1 rfl ?_)))
   refine wB J 6 h (fun h=>?_) fun h=>wa J 7 (Zj [] (ih15 (Zi (q+1)) h))
   cases h
   exact wr J 5 func88 []
  refine wa J 1 (ZH (σ:=Int × Int × Int) (fun st=>(ZkE s st.1 st.2.1 g_.Diffs g_.Equals l_ [(1,.S 2),(2,.B 3 0),(6,.B 5 0),(7,.B 6 0),(13,.S 0),(14,.I (g_.Diffs.length:Int)),(15,.I q),(24,.a [.I s.X,.I s.Y]),(25,.I st.2.2)])) (fun n st=>VT N l_ q (Ui N g_ l_ n14) s n st.1 st.2.1 st.2.2) (r:=r) (fun _=>rfl) ?_ (fun ih=>?_))
  ·intro n16 ih24
   rintro ⟨x,y,z⟩ h
   replace h:VT N l_ q (Ui N g_ l_ n14) s (n16+1) x y z=some r:=h
   unfold VT at h
   refine Zp J 5 h (fun h=>wa J 2 (Zj [] (j22 (x,y) h))) fun h=>?_
   refine wO J 7 h fun A C h=>eAx (SC.i .i64) ([s.X,s.Y]:List Int) C ?_
   refine wB J 9 h (fun h=>wa J 6 (Zj [] (ih24 (x,y,(Zi (z+1))) h))) fun h=>?_
   refine wO J 7 h fun D G h=>Zt J Yd G ?_
   refine wB J 4 h (fun h=>?_) fun h=>?_
   ·cases h
    exact wr J 5 func88 []
   refine wO J 6 h fun H R h=>Zt J Yd R ?_
   refine wO J 1 h fun T U h=>Zo (ZfO N H _ U) [] [] ?_
   obtain ⟨K,h⟩|⟨K,h⟩:=oc h
   ·exact US 0 (by exact eq_of_beq K) (wa J 7 (Zj [] (ih24 (T,y,(Zi (z+1))) h)))
   obtain ⟨K,h⟩|⟨K,h⟩:=oc h
   ·exact US 1 (by exact eq_of_beq K) (wa J 7 (Zj [] (ih24 (x,T,(Zi (z+1))) h)))
   cases h
  exact Zj [] (ih N (0,0,0) h)
 exact Zj [] (ih N 0 h)
theorem Znp (N:Nat) (decls_:(List T0)) (label_:Int) (values_:(List Zk)) (known_:(List Zk)) (r:Bool) (h:Dv N decls_ label_ values_ known_=some r) :
 Fn Tryz.prog 49 ⟨3,[.S 0,.I label_,.S 1,.S 2],[(0,.sl ZQ decls_),(1,.sl Zw values_),(2,.sl Zw known_)],[],3,.O r,[],[]⟩:=by
 refine Zv func49 rfl (fun E F w=>?_)
 unfold Dv at h
 refine wO J 10 h fun x1 c h=>Zo (Zkc N decls_ label_ known_ _ c) [] [(0,.sl 0),(1,.sl 2)] ?_
 refine wB J 2 h (fun h=>?_) fun h=>?_
 ·cases h
  exact wr J 15 func49 []
 refine wO J 2 h fun x2 d h=>Zt J Xf d ?_
 refine wO J 3 h fun x3 e h=>Zo (ZjR N x2.Fields values_ _ e) [] [(0,.sl 4),(1,.sl 1)] ?_
 refine wB J 3 h (fun h=>?_) fun h=>?_
 ·cases h
  exact wr J 5 func49 []
 refine wO J 6 h fun x4 f h=>Zt J Xf f ?_
 refine wO J 11 h fun x5 g h=>Zo (Zjq N x4 values_ known_ _ g) [] [(0,.sl 8),(1,.sl 9),(2,.sl 10),(3,.sl 1),(4,.sl 2)] ?_
 obtain ⟨x6,i,h⟩:=ob h
 refine W2 (Zui N x4.Guard x5 _ i) [] [(0,.sl 9),(1,.sl 10),(2,.sl 12)] [12] (.inr ⟨rfl,trivial⟩) (wa J 1 (Zy ?_))
 cases h
 exact Yc J func49 []
theorem Zf1 (N:Nat) (x_:ByteArray) (r:Bool) (h:M4 N x_=some r) :
 Fn Tryz.prog 184 ⟨0,[.c (.s x_)],[],[],0,.O r,[],[]⟩:=by
 refine Zv func184 rfl (fun E F w=>?_)
 unfold M4 at h
 cases h
 exact wr J 11 func184 []
theorem ZnQ (N:Nat) (x_:ByteArray) (y_:ByteArray) (r:Int) (h:P4 N x_ y_=some r) :
 Fn Tryz.prog 137 ⟨0,[.c (.s x_),.c (.s y_)],[],[],0,.I r,[],[]⟩:=by
 refine Zv func137 rfl (fun E F w=>?_)
 unfold P4 at h
 refine wO J 7 h fun x1 d h=>Zo (Zf1 N x_ _ d) [] [] ?_
 refine wO J 5 h fun x2 e h=>Zo (Zf1 N y_ _ e) [] [] ?_
 refine wB J 7 h (fun h=>?_) fun h=>?_
 ·refine wB J 6 h (fun h=>?_) fun h=>?_
  ·cases h
   exact wr J 5 func137 []
  cases h
  exact wr J 6 func137 []
 refine wB J 7 h (fun h=>?_) fun h=>?_
 ·cases h
  exact wr J 5 func137 []
 refine wB J 9 h (fun h=>?_) fun h=>?_
 ·cases h
  exact wr J 5 func137 []
 refine wB J 9 h (fun h=>?_) fun h=>?_
 ·cases h
  exact wr J 5 func137 []
 cases h
 exact wr J 6 func137 []
theorem Ztf (N:Nat) (a_:Zk) (b_:Zk) (r:Int) (h:Dc N a_ b_=some r) :
 Fn Tryz.prog 84 ⟨0,[.a (XI a_),.a (XI b_)],[],[],0,.I r,[],[]⟩:=by
 refine Zv func84 rfl (fun E F w=>?_)
 unfold Dc at h
 refine wO J 12 h fun x1 c h=>Zo (Bg N a_.Kind b_.Kind _ c) [] [] ?_
 refine wO J 4 h fun x2 d h=>Zo (Bg N a_.N b_.N _ d) [] [] ?_
 refine wO J 6 h fun x3 e h=>Zo (Bg N (a_.S.size:Int) (b_.S.size:Int) _ e) [] [] ?_
 refine wO J 4 h fun x4 f h=>Zo (ZnQ N a_.S b_.S _ f) [] [] (Z5 J [] (oI .i64) ([x1,x2,x3,x4]:List Int) ?_)
 obtain ⟨x5,g,h⟩:=ob h
 refine W2 (Zhx N ([x1,x2,x3,x4]:List Int) _ g) [] [(0,.sl 2)] [2] (.inr ⟨rfl,trivial⟩) (wa J 1 (Zy ?_))
 cases h
 exact Yc J func84 []
theorem Zpj (N:Nat) (x_:Zk) (y_:Zk) (r:Bool) (h:VB N x_ y_=some r) :
 Fn Tryz.prog 83 ⟨0,[.a (XI x_),.a (XI y_)],[],[],0,.O r,[],[]⟩:=by
 refine Zv func83 rfl (fun E F w=>?_)
 unfold VB at h
 refine wO J 10 h fun x1 c h=>Zo (Ztf N x_ y_ _ c) [] [] ?_
 cases h
 exact wr J 3 func83 []
theorem Zul (N:Nat) (s1_:(List Zk)) (s2_:(List Zk)) (r:Bool) (h:Ge N s1_ s2_=some r) :
 Fn Tryz.prog 82 ⟨2,[.S 0,.S 1,.c (.cl 83 [] [])],[(0,.sl Zw s1_),(1,.sl Zw s2_)],[],2,.O r,[],[]⟩:=by
 refine Zv func82 rfl (fun E F w=>?_)
 unfold Ge at h
 refine wB J 13 h (fun h=>?_) fun h=>wa J 9 (Zz (σ:=Unit) (fun st=>(ZbJ s1_ s2_ [])) (fun st=>ZcP=some r) ?_ (fun j1=>?_))
 ·cases h
  exact wr J 5 func82 []
 ·intro _ h
  replace h:ZcP=some r:=h
  unfold ZcP at h
  cases h
  exact wr J 4 func82 []
 refine wa J 1 (ZH (σ:=Int) (fun st=>(ZbJ s1_ s2_ [(1,.S 1),(2,.c (.cl 83 [] [])),(15,.S 0),(16,.I (s1_.length:Int)),(17,.I st)])) (fun n st=>U3 N s1_ s2_ n st) (r:=r) (fun _=>rfl) ?_ (fun ih=>?_))
 ·intro n2 ih3
  intro d h
  replace h:U3 N s1_ s2_ (n2+1) d=some r:=h
  unfold U3 at h
  refine Zp J 5 h (fun h=>wa J 2 (Zj [] (j1 () h))) fun h=>?_
  refine wO J 7 h fun e f h=>Zt J Yd f ?_
  refine wO J 9 h fun g i h=>Zt J Yd i ?_
  refine wO J 9 h fun j k h=>Zo (Zpj N e g _ k) [] [] ?_
  refine wB J 2 h (fun h=>?_) fun h=>wa J 7 (Zj [] (ih3 (Zi (d+1)) h))
  cases h
  exact wr J 5 func82 []
 exact Zj [] (ih N 0 h)
theorem Zem (N:Nat) (a_:(List Zk)) (b_:(List Zk)) (r:Bool) (h:Sj N a_ b_=some r) :
 Fn Tryz.prog 44 ⟨2,[.S 0,.S 1],[(0,.sl Zw a_),(1,.sl Zw b_)],[],2,.O r,[],[]⟩:=by
 refine Zv func44 rfl (fun E F w=>?_)
 unfold Sj at h
 refine wO J 8 h fun x1 c h=>Zo (Zul N a_ b_ _ c) [] [(0,.sl 0),(1,.sl 1)] ?_
 cases h
 exact wr J 2 func44 []
theorem ZsX (N:Nat) (decls_:(List T0)) (label_:Int) (values_:(List Zk)) (known_:(List Zk)) (r:(List Zk) × Int) (h:z50 N decls_ label_ values_ known_=some r) :
 Fn Tryz.prog 50 ⟨3,[.S 0,.I label_,.S 1,.S 2],[(0,.sl ZQ decls_),(1,.sl Zw values_),(2,.sl Zw known_)],[],4,.t [.inl (.sl 3),.inl (.I r.2)],[],[(3,.own Zw r.1 true)]⟩:=by
 refine Zv func50 rfl (fun E F w=>?_)
 unfold z50 at h
 refine wO J 11 h fun x1 c h=>Zo (Zkc N decls_ label_ known_ _ c) [] [(0,.sl 0),(1,.sl 2)] ?_
 refine wB J 2 h (fun h=>?_) fun h=>?_
 ·cases h
  exact wr J 6 func50 [(3,.nil)]
 refine wO J 7 h fun x2 d h=>Zt J Xf d ?_
 refine wO J 3 h fun x3 e h=>Zo (ZjR N x2.Fields values_ _ e) [] [(0,.sl 4),(1,.sl 1)] ?_
 refine wB J 2 h (fun h=>?_) fun h=>?_
 ·cases h
  exact wr J 6 func50 [(3,.nil)]
 refine wO J 6 h fun x4 f h=>Zt J Xf f ?_
 refine wO J 3 h fun x5 g h=>Zo (Zjq N x4 values_ known_ _ g) [] [(0,.sl 8),(1,.sl 9),(2,.sl 10),(3,.sl 1),(4,.sl 2)] ?_
 cases h
 exact wr J 3 func50 [(3,.sl 11)]
theorem ZpJ (N:Nat) (g_:T5) (m_:T8) (s_:ZM) (x_:T3) (r:ZM × Int) (h:z25 N g_ m_ s_ x_=some r) :
 Fn Tryz.prog 25 ⟨10,[.a (Yr 0 1 2 3 g_),.a (YT 4 5 6 m_),.a (VD 7 8 s_),.a (QI 9 x_)],((0,.sl rS g_.Roles)::(1,.sl ZQ g_.Decls)::(2,.sl YQ g_.Edges)::(3,.sl Z8 g_.Timeouts)::(4,.sl rB m_.Finals)::(5,.sl YL m_.Moves)::(6,.sl Z8 m_.Timeouts)::Us 7 8 s_ [(9,.sl Zw x_.Values)]),[],12,.t [.inr (VD 10 11 r.1),.inl (.I r.2)],(Us 10 11 r.1 []),[]⟩:=by
 refine Zv func25 rfl (fun E F w=>?_)
 unfold z25 at h
 refine wO J 14 h fun x1 c h=>Zo (Ztd N m_.Moves s_ x_ _ c) [] [(0,.sl 5),(1,.bp 12 0),(2,.sl 7),(3,.sl 8),(4,.bp 13 0),(5,.sl 9)] ?_
 refine wB J 13 h (fun h=>?_) fun h=>?_
 ·cases h
  exact wr J 7 func25 [(10,.nil),(11,.nil)]
 refine wB J 7 h (fun h=>?_) fun h=>?_
 ·cases h
  exact wr J 7 func25 [(10,.nil),(11,.nil)]
 refine wO J 7 h fun x2 d h=>Zt J Xf d ?_
 refine wO J 4 h fun x3 e h=>Zo (Zqo N x2.Fields x_.Values _ e) [] [(0,.sl 16),(1,.sl 9)] (wa J 2 (Zy ?_))
 refine eB h (fun h=>?_) fun h=>?_
 ·cases h
  exact wr J 7 func25 [(10,.nil),(11,.nil)]
 refine wO J 12 h fun x4 f h=>Zo (Znp N g_.Decls x_.Label x_.Values s_.Known _ f) [] [(0,.sl 1),(1,.sl 9),(2,.sl 7)] (wa J 3 (Zz (σ:=Bool) (fun st=>⟨[(4,.B 10 0),(5,.B 11 0),(6,.B 12 0),(7,.B 13 0),(8,.B 14 0),(10,.I x1),(40,.O st)],[(10,.box (Yr 0 1 2 3 g_) 27),(11,.box (YT 4 5 6 m_) 31),(12,.box (VD 7 8 s_) 37),(13,.box (QI 9 x_) 75),(14,.box [.I 0,.nil,.nil] 37)],((0,.sl rS g_.Roles)::(1,.sl ZQ g_.Decls)::(2,.sl YQ g_.Edges)::(3,.sl Z8 g_.Timeouts)::(4,.sl rB m_.Finals)::(5,.sl YL m_.Moves)::(6,.sl Z8 m_.Timeouts)::Us 7 8 s_ [(9,.sl Zw x_.Values)]),19⟩) (fun st=>Sh N g_ m_ s_ x_ x1 st=some r) ?_ (fun j1=>?_)))
 ·intro g h
  replace h:Sh N g_ m_ s_ x_ x1 g=some r:=h
  unfold Sh at h
  refine eB h (fun h=>?_) fun h=>?_
  ·cases h
   exact wr J 7 func25 [(10,.nil),(11,.nil)]
  refine wO J 8 h fun x7 i h=>Zt J YX i ?_
  refine wO J 16 h fun x8 j h=>Zo (ZsX N g_.Decls x_.Label x_.Values s_.Known _ j) [] [(0,.sl 1),(1,.sl 9),(2,.sl 7)] ?_
  refine Zp J 12 h (fun h=>wa J 8 (Xh [21] ?_)) fun h=>?_
  ·cases h
   exact Yc J func25 [(10,.sl 21),(11,.nil)]
  refine wO J 4 h fun x9 k h=>Zo (Zgg N x_.Values _ k) [] [(0,.sl 9)] (wa J 9 (Xh [21] (Xh [22] ?_)))
  cases h
  exact Yc J func25 [(10,.sl 21),(11,.sl 22)]
 refine eB h (fun h=>wa J 2 (Zj [] (j1 true h))) fun h=>?_
 refine wO J 5 h fun l m h=>Zt J YX m ?_
 refine Zp J 3 h (fun h=>wa J 9 (Zj [] (j1 false h))) fun h=>?_
 exact wO J 4 h fun o p h=>Zo (Zem N x_.Values s_.Pending _ p) [] [(0,.sl 9),(1,.sl 8)] (wa J 4 (Zj [] (j1 (!o) h)))
theorem ZfT (N:Nat) (g_:T5) (m_:T8) (history_:(List T3)) (r:ZM × Int × Int) (h:z7 N g_ m_ history_=some r) :
 Fn Tryz.prog 7 ⟨8,[.a (Yr 0 1 2 3 g_),.a (YT 4 5 6 m_),.S 7],((0,.sl rS g_.Roles)::(1,.sl ZQ g_.Decls)::(2,.sl YQ g_.Edges)::(3,.sl Z8 g_.Timeouts)::YZ 4 5 6 m_ [(7,.sl Sa history_)]),[],10,.t [.inr (VD 8 9 r.1),.inl (.I r.2.1),.inl (.I r.2.2)],(Us 8 9 r.1 []),[]⟩:=by
 refine Zv func7 rfl (fun E F w=>?_)
 unfold z7 at h
 refine wO J 12 h fun x1 c h=>Zo (Zf7 N g_ m_ _ c) [] [(0,.sl 0),(1,.sl 1),(2,.sl 2),(3,.sl 3),(4,.sl 4),(5,.sl 5),(6,.sl 6)] ?_
 refine wO J 8 h fun x2 d h=>Zo (Zfo N g_ m_ x1 _ d) [] [(0,.sl 0),(1,.sl 1),(2,.sl 2),(3,.sl 3),(4,.sl 4),(5,.sl 5),(6,.sl 6),(7,.sl 11),(8,.sl 12)] ?_
 refine wB J 2 h (fun h=>?_) fun h=>wa J 9 (Zz (σ:=Int × (List Zk) × (List Zk)) (fun st=>⟨[(2,.S 7),(6,.B 10 0)],[(10,.box [.I st.1,.sl 13,.sl 14] 37)],((0,.sl rS g_.Roles)::(1,.sl ZQ g_.Decls)::(2,.sl YQ g_.Edges)::(3,.sl Z8 g_.Timeouts)::YZ 4 5 6 m_ [(7,.sl Sa history_),(13,.sl Zw st.2.1),(14,.sl Zw st.2.2)]),15⟩) (fun st=>ZaD history_ st.1 st.2.1 st.2.2=some r) ?_ (fun j1=>?_))
 ·cases h
  exact wr J 8 func7 [(8,.nil),(9,.nil)]
 ·rintro ⟨e,f,g⟩ h
  replace h:ZaD history_ e f g=some r:=h
  unfold ZaD at h
  cases h
  exact wr J 9 func7 [(8,.sl 13),(9,.sl 14)]
 refine wa J 1 (ZH (σ:=Int × (List Zk) × (List Zk) × Int) (fun st=>⟨[(2,.S 7),(3,.B 8 0),(4,.B 9 0),(6,.B 10 0),(22,.S 7),(23,.I (history_.length:Int)),(24,.I st.2.2.2)],[(8,.box (Yr 0 1 2 3 g_) 27),(9,.box (YT 4 5 6 m_) 31),(10,.box [.I st.1,.sl 13,.sl 14] 37)],((0,.sl rS g_.Roles)::(1,.sl ZQ g_.Decls)::(2,.sl YQ g_.Edges)::(3,.sl Z8 g_.Timeouts)::YZ 4 5 6 m_ [(7,.sl Sa history_),(13,.sl Zw st.2.1),(14,.sl Zw st.2.2.1)]),15⟩) (fun n st=>Qr N g_ m_ history_ n st.1 st.2.1 st.2.2.1 st.2.2.2) (r:=r) (fun _=>rfl) ?_ (fun ih=>?_))
 ·intro n2 ih3
  rintro ⟨i,j,k,l⟩ h
  replace h:Qr N g_ m_ history_ (n2+1) i j k l=some r:=h
  unfold Qr at h
  refine Zp J 5 h (fun h=>wa J 2 (Zj [] (j1 (i,j,k) h))) fun h=>?_
  refine wO J 7 h fun m o h=>Zt J oO3 o ?_
  refine wO J 11 h fun p q h=>Zo (ZpJ N g_ m_ (⟨i,j,k⟩:ZM) m _ q) [] [(0,.sl 0),(1,.sl 1),(2,.sl 2),(3,.sl 3),(4,.sl 4),(5,.sl 5),(6,.sl 6),(7,.sl 13),(8,.sl 14),(9,.sl 16)] ?_
  refine wB J 13 h (fun h=>?_) fun h=>wa J 11 (Zj [(13,.sl 18),(14,.sl 19)] (ih3 (p.1.At,p.1.Known,p.1.Pending,(Zi (l+1))) h))
  cases h
  exact wr J 10 func7 [(8,.sl 13),(9,.sl 14)]
 exact Zj [(13,.sl 11),(14,.sl 12)] (ih N (x1.At,x1.Known,x1.Pending,0) h)
theorem Zgf (N:Nat) (g_:T5) (m_:T8) (s_:ZM) (r:Bool) (h:Bf N g_ m_ s_=some r) :
 Fn Tryz.prog 15 ⟨9,[.a (Yr 0 1 2 3 g_),.a (YT 4 5 6 m_),.a (VD 7 8 s_)],((0,.sl rS g_.Roles)::(1,.sl ZQ g_.Decls)::(2,.sl YQ g_.Edges)::(3,.sl Z8 g_.Timeouts)::(4,.sl rB m_.Finals)::(5,.sl YL m_.Moves)::(6,.sl Z8 m_.Timeouts)::Us 7 8 s_ []),[],9,.O r,[],[]⟩:=by
 refine Zv func15 rfl (fun E F w=>?_)
 unfold Bf at h
 refine wO J 12 h fun x1 c h=>Zo (Zfo N g_ m_ s_ _ c) [] [(0,.sl 0),(1,.sl 1),(2,.sl 2),(3,.sl 3),(4,.sl 4),(5,.sl 5),(6,.sl 6),(7,.sl 7),(8,.sl 8)] ?_
 refine Zp J 1 h (fun h=>?_) fun h=>?_
 ·cases h
  exact wr J 9 func15 []
 refine wO J 4 h fun x2 d h=>Zt J oB d ?_
 cases h
 exact wr J 4 func15 []
theorem ZmJ (N:Nat) (a_:ZM) (b_:ZM) (r:Bool) (h:z20 N a_ b_=some r) :
 Fn Tryz.prog 20 ⟨4,[.a (VD 0 1 a_),.a (VD 2 3 b_)],(Us 0 1 a_ (Us 2 3 b_ [])),[],4,.O r,[],[]⟩:=by
 refine Zv func20 rfl (fun E F w=>?_)
 unfold z20 at h
 refine Zp J 14 h (fun h=>?_) fun h=>?_
 ·cases h
  exact wr J 15 func20 []
 refine wO J 4 h fun x1 c h=>Zo (Zem N a_.Known b_.Known _ c) [] [(0,.sl 0),(1,.sl 2)] ?_
 refine Zp J 2 h (fun h=>?_) fun h=>?_
 ·cases h
  exact wr J 8 func20 []
 refine wO J 4 h fun x2 d h=>Zo (Zem N a_.Pending b_.Pending _ d) [] [(0,.sl 1),(1,.sl 3)] ?_
 cases h
 exact wr J 3 func20 []
theorem ZsT (N:Nat) (r:Bool) (h:z5 N=some r) :
 Fn Tryz.prog 5 ⟨0,[],[],[],0,.O r,[],[]⟩:=by
 refine Zv func5 rfl (fun E F w=>?_)
 unfold z5 at h
 refine wO J 6 h fun x1 c h=>Zo (Zk1 N _ c) [] [] ?_
 refine wO J 12 h fun x2 d h=>Zo (Zjw N 3 3 _ d) [] [] ?_
 obtain ⟨x3,e,h⟩:=ob h
 refine Zo (ZfT N x1.1 x1.2 x2 _ e) [9] [(0,.sl 0),(1,.sl 1),(2,.sl 2),(3,.sl 3),(4,.sl 4),(5,.sl 5),(6,.sl 6),(7,.sl 9)] (wa J 8 (Zy ?_))
 refine wO J 4 h fun x4 f h=>Zo (Zjw N 3 4 _ f) [] [] ?_
 obtain ⟨x5,g,h⟩:=ob h
 refine Zo (ZfT N x1.1 x1.2 x4 _ g) [13] [(0,.sl 0),(1,.sl 1),(2,.sl 2),(3,.sl 3),(4,.sl 4),(5,.sl 5),(6,.sl 6),(7,.sl 13)] (wa J 8 (Zy ?_))
 refine Zp J 5 h (fun h=>?_) fun h=>?_
 ·cases h
  exact wr J 38 func5 []
 refine Zp J 4 h (fun h=>?_) fun h=>?_
 ·cases h
  exact wr J 34 func5 []
 refine wO J 3 h fun x6 i h=>Zo (Zgf N x1.1 x1.2 x3.1 _ i) [] [(0,.sl 0),(1,.sl 1),(2,.sl 2),(3,.sl 3),(4,.sl 4),(5,.sl 5),(6,.sl 6),(7,.sl 10),(8,.sl 11)] ?_
 refine Zp J 2 h (fun h=>?_) fun h=>?_
 ·cases h
  exact wr J 28 func5 []
 refine Zp J 4 h (fun h=>?_) fun h=>?_
 ·cases h
  exact wr J 24 func5 []
 refine Zp J 4 h (fun h=>?_) fun h=>?_
 ·cases h
  exact wr J 20 func5 []
 refine wO J 3 h fun x7 j h=>Zo (Zfo N x1.1 x1.2 x3.1 _ j) [] [(0,.sl 0),(1,.sl 1),(2,.sl 2),(3,.sl 3),(4,.sl 4),(5,.sl 5),(6,.sl 6),(7,.sl 10),(8,.sl 11)] ?_
 refine Zp J 2 h (fun h=>?_) fun h=>?_
 ·cases h
  exact wr J 14 func5 []
 refine wO J 2 h fun x8 k h=>Zo (ZmJ N x3.1 x3.1 _ k) [] [(0,.sl 10),(1,.sl 11),(2,.sl 10),(3,.sl 11)] ?_
 refine Zp J 2 h (fun h=>?_) fun h=>?_
 ·cases h
  exact wr J 9 func5 []
 refine wO J 2 h fun x9 l h=>Zo (Zf7 N x1.1 x1.2 _ l) [] [(0,.sl 0),(1,.sl 1),(2,.sl 2),(3,.sl 3),(4,.sl 4),(5,.sl 5),(6,.sl 6)] ?_
 cases h
 exact wr J 6 func5 []
theorem Zr8 (N:Nat) (l_:(List T0)) (r:Bool) (h:z45 N l_=some r) :
 Fn Tryz.prog 45 ⟨1,[.S 0],[(0,.sl ZQ l_)],[],1,.O r,[],[]⟩:=by
 refine Zv func45 rfl (fun E F w=>?_)
 unfold z45 at h
 refine wa J 13 (Zz (σ:=Int) (fun st=>(Hs l_ [(0,.S 0),(3,.I st)])) (fun st=>Bx l_ st=some r) ?_ (fun j1=>?_))
 ·intro c h
  replace h:Bx l_ c=some r:=h
  unfold Bx at h
  refine wB J 6 h (fun h=>?_) fun h=>?_
  ·cases h
   exact wr J 5 func45 []
  cases h
  exact wr J 5 func45 []
 refine wa J 1 (ZH (σ:=Int × Int) (fun st=>(Hs l_ [(0,.S 0),(3,.I st.1),(4,.I st.2)])) (fun n st=>Qa l_ n st.1 st.2) (r:=r) (fun _=>rfl) ?_ (fun ih=>?_))
 ·intro n2 ih3
  rintro ⟨d,e⟩ h
  replace h:Qa l_ (n2+1) d e=some r:=h
  unfold Qa at h
  refine Zp J 8 h (fun h=>wa J 2 (Zj [] (j1 d h))) fun h=>?_
  refine wO J 8 h fun f g h=>Zt J Xf g ?_
  refine wO J 5 h fun i j h=>Zt J Xf j ?_
  exact wO J 7 h fun k l h=>Zt J Xf l (wa J 7 (Zy (wa J 6 (Zj [] (ih3 ((Zi (d+(Zi ((Zi ((f.Fields.length:Int)+(i.Guard.Diffs.length:Int)))+(k.Guard.Equals.length:Int))))),(Zi (e+1))) h)))))
 exact Zj [] (ih N (0,0) h)
theorem Zoq (N:Nat) (g_:T5) (r:Bool) (h:z22 N g_=some r) :
 Fn Tryz.prog 22 ⟨4,[.a (Yr 0 1 2 3 g_)],(Yx 0 1 2 3 g_ []),[],4,.O r,[],[]⟩:=by
 refine Zv func22 rfl (fun E F w=>?_)
 unfold z22 at h
 refine Zp J 11 h (fun h=>?_) fun h=>?_
 ·cases h
  exact wr J 24 func22 []
 refine Zp J 6 h (fun h=>?_) fun h=>?_
 ·cases h
  exact wr J 18 func22 []
 refine Zp J 6 h (fun h=>?_) fun h=>?_
 ·cases h
  exact wr J 12 func22 []
 refine Zp J 6 h (fun h=>?_) fun h=>?_
 ·cases h
  exact wr J 6 func22 []
 refine wO J 2 h fun x1 c h=>Zo (Zr8 N g_.Decls _ c) [] [(0,.sl 1)] ?_
 cases h
 exact wr J 3 func22 []
theorem ZpL (N:Nat) (m_:T8) (r:Bool) (h:z23 N m_=some r) :
 Fn Tryz.prog 23 ⟨3,[.a (YT 0 1 2 m_)],(YZ 0 1 2 m_ []),[],3,.O r,[],[]⟩:=by
 refine Zv func23 rfl (fun E F w=>?_)
 unfold z23 at h
 refine Zp J 11 h (fun h=>?_) fun h=>?_
 ·cases h
  exact wr J 19 func23 []
 refine Zp J 6 h (fun h=>?_) fun h=>?_
 ·cases h
  exact wr J 13 func23 []
 refine wB J 6 h (fun h=>?_) fun h=>?_
 ·cases h
  exact wr J 7 func23 []
 cases h
 exact wr J 7 func23 []
theorem Zl1 (N:Nat) (l_:(List Zk)) (r:Bool) (h:z12 N l_=some r) :
 Fn Tryz.prog 12 ⟨1,[.S 0],[(0,.sl Zw l_)],[],1,.O r,[],[]⟩:=by
 refine Zv func12 rfl (fun E F w=>?_)
 unfold z12 at h
 refine wa J 9 (Zz (σ:=Unit) (fun st=>⟨[(0,.S 0)],[],[(0,.sl Zw l_)],1⟩) (fun st=>Zbh l_=some r) ?_ (fun j1=>?_))
 ·intro _ h
  replace h:Zbh l_=some r:=h
  unfold Zbh at h
  cases h
  exact wr J 7 func12 []
 refine wa J 1 (ZH (σ:=Int) (fun st=>⟨[(0,.S 0),(3,.I st)],[],[(0,.sl Zw l_)],1⟩) (fun n st=>Qs l_ n st) (r:=r) (fun _=>rfl) ?_ (fun ih=>?_))
 ·intro n2 ih3
  intro c h
  replace h:Qs l_ (n2+1) c=some r:=h
  unfold Qs at h
  refine Zp J 8 h (fun h=>wa J 2 (Zj [] (j1 () h))) fun h=>?_
  refine wO J 8 h fun x9 d h=>Zt J Yd d ?_
  refine wB J 5 h (fun h=>?_) fun h=>wa J 8 (Zj [] (ih3 (Zi (c+1)) h))
  cases h
  exact wr J 5 func12 []
 exact Zj [] (ih N 0 h)
theorem Zg0 (N:Nat) (c_:Int) (r:Bool) (h:HP N c_=some r) :
 Fn Tryz.prog 151 ⟨0,[.c (.i .u8 c_)],[],[],0,.O r,[],[]⟩:=by
 refine Zv func151 rfl (fun E F w=>?_)
 unfold HP at h
 refine Zp J 9 h (fun h=>?_) fun h=>?_
 ·refine wB J 7 h (fun h=>?_) fun h=>?_
  ·cases h
   exact wr J 6 func151 []
  cases h
  exact wr J 6 func151 []
 refine wB J 4 h (fun h=>?_) fun h=>?_
 ·cases h
  exact wr J 9 func151 []
 refine wB J 3 h (fun h=>?_) fun h=>?_
 ·cases h
  exact wr J 6 func151 []
 cases h
 exact wr J 6 func151 []
theorem Zmu (N:Nat) (c_:Int) (r:Bool) (h:ZdK N c_=some r) :
 Fn Tryz.prog 197 ⟨0,[.c (.i .u8 c_)],[],[],0,.O r,[],[]⟩:=by
 refine Zv func197 rfl (fun E F w=>?_)
 unfold ZdK at h
 refine wB J 9 h (fun h=>?_) fun h=>?_
 ·cases h
  exact wr J 5 func197 []
 cases h
 exact wr J 5 func197 []
theorem ZqZ (N:Nat) (c_:Int) (r:Bool) (h:ZeM N c_=some r) :
 Fn Tryz.prog 152 ⟨0,[.c (.i .u8 c_)],[],[],0,.O r,[],[]⟩:=by
 refine Zv func152 rfl (fun E F w=>?_)
 unfold ZeM at h
 refine wO J 7 h fun x1 d h=>Zo (Zg0 N c_ _ d) [] [] ?_
 refine wB J 1 h (fun h=>?_) fun h=>?_
 ·cases h
  exact wr J 9 func152 []
 refine wO J 1 h fun x2 e h=>Zo (Zmu N c_ _ e) [] [] ?_
 refine wB J 2 h (fun h=>?_) fun h=>?_
 ·cases h
  exact wr J 5 func152 []
 cases h
 exact wr J 5 func152 []
theorem Zes (N:Nat) (s_:ByteArray) (r:Bool) (h:PB N s_=some r) :
 Fn Tryz.prog 105 ⟨0,[.c (.s s_)],[],[],0,.O r,[],[]⟩:=by
 refine Zv func105 rfl (fun E F w=>?_)
 unfold PB at h
 refine wB J 10 h (fun h=>?_) fun h=>?_
 ·cases h
  exact wr J 16 func105 []
 refine wO J 1 h fun x1 d h=>W3 J d ?_
 obtain ⟨x2,e,h⟩:=ob h
 refine Zo (Zg0 N x1 _ e) [] [] ?_
 refine wB J 3 h (fun h=>?_) fun h=>?_
 ·cases h
  exact wr J 10 func105 []
 refine wB J 5 h (fun h=>?_) fun h=>wa J 7 (Zz (σ:=Unit) (fun st=>(Wp [])) (fun st=>Zap=some r) ?_ (fun j1=>?_))
 ·cases h
  exact wr J 5 func105 []
 ·intro _ h
  replace h:Zap=some r:=h
  unfold Zap at h
  cases h
  exact wr J 4 func105 []
 refine wa J 1 (ZH (σ:=Int) (fun st=>(Wp [(0,.c (.s s_)),(3,.I st)])) (fun n st=>Pd N s_ n st) (r:=r) (fun _=>rfl) ?_ (fun ih=>?_))
 ·intro n2 ih3
  intro f h
  replace h:Pd N s_ (n2+1) f=some r:=h
  unfold Pd at h
  refine Zp J 8 h (fun h=>wa J 2 (Zj [] (j1 () h))) fun h=>?_
  refine wO J 8 h fun g i h=>W3 J i ?_
  obtain ⟨j,k,h⟩:=ob h
  refine Zo (ZqZ N g _ k) [] [] ?_
  refine wB J 2 h (fun h=>?_) fun h=>wa J 8 (Zj [] (ih3 (Zi (f+1)) h))
  cases h
  exact wr J 5 func105 []
 exact Zj [] (ih N 0 h)
theorem Zre (N:Nat) (r:(List ByteArray)) (h:Zaw N=some r) :
 Fn Tryz.prog 146 ⟨0,[],[],[],1,.S 0,[],[(0,.own rS r true)]⟩:=by
 refine Zv func146 rfl (fun E F w=>?_)
 unfold Zaw at h
 refine wa J 6 (Z5 J [] oS ([(str [97,103,97,105,110]),(str [97,110,100]),(str [97,115]),(str [97,116]),(str [99,97,108,108]),(str [99,104,111,105,99,101]),(str [101,108,115,101]),(str [102,114,111,109]),(str [105,102]),(str [105,110,116]),(str [108,101,110]),(str [108,111,111,112]),(str [109,101,115,115,97,103,101]),(str [111,102]),(str [111,102,102,101,114]),(str [111,110]),(str [111,114]),(str [112,97,114]),(str [112,108,97,121,115]),(str [112,114,111,116,111,99,111,108]),(str [115,101,114,118,105,99,101]),(str [116,101,120,116]),(str [116,105,109,101,115]),(str [116,111]),(str [118,97,114]),(str [119,104,101,114,101]),(str [119,104,105,108,101]),(str [119,105,116,104,105,110])]:List ByteArray) ?_)
 cases h
 exact wr J 2 func146 [(0,.sl 0)]
theorem Zrf (N:Nat) (l_:(List ByteArray)) (s_:ByteArray) (r:Bool) (h:Da N l_ s_=some r) :
 Fn Tryz.prog 145 ⟨1,[.S 0,.c (.s s_)],[(0,.sl rS l_)],[],1,.O r,[],[]⟩:=by
 refine Zv func145 rfl (fun E F w=>?_)
 unfold Da at h
 refine wa J 9 (Zz (σ:=Unit) (fun st=>(RR l_ [])) (fun st=>DV=some r) ?_ (fun j1=>?_))
 ·intro _ h
  replace h:DV=some r:=h
  unfold DV at h
  cases h
  exact wr J 4 func145 []
 refine wa J 1 (ZH (σ:=Int) (fun st=>(RR l_ [(0,.S 0),(1,.c (.s s_)),(5,.I st)])) (fun n st=>QF l_ s_ n st) (r:=r) (fun _=>rfl) ?_ (fun ih=>?_))
 ·intro n2 ih3
  intro d h
  replace h:QF l_ s_ (n2+1) d=some r:=h
  unfold QF at h
  refine Zp J 8 h (fun h=>wa J 2 (Zj [] (j1 () h))) fun h=>?_
  refine wO J 8 h fun x9 e h=>Zt J oS e ?_
  refine wB J 4 h (fun h=>?_) fun h=>wa J 8 (Zj [] (ih3 (Zi (d+1)) h))
  cases h
  exact wr J 5 func145 []
 exact Zj [] (ih N 0 h)
theorem Zcd (N:Nat) (s_:ByteArray) (r:Bool) (h:Q9 N s_=some r) :
 Fn Tryz.prog 97 ⟨0,[.c (.s s_)],[],[],0,.O r,[],[]⟩:=by
 refine Zv func97 rfl (fun E F w=>?_)
 unfold Q9 at h
 refine wO J 7 h fun x1 d h=>Zo (Zes N s_ _ d) [] [] ?_
 refine Zp J 1 h (fun h=>?_) fun h=>?_
 ·cases h
  exact wr J 7 func97 []
 obtain ⟨x2,e,h⟩:=ob h
 refine Zo (Zre N _ e) [] [] ?_
 refine wO J 1 h fun x3 f h=>W2 (Zrf N x2 s_ _ f) [] [(0,.sl 0)] [0] (.inr ⟨rfl,trivial⟩) ?_
 cases h
 exact wr J 4 func97 []
theorem Zt3 (N:Nat) (l_:(List ByteArray)) (s_:ByteArray) (r:Int) (h:LC N l_ s_=some r) :
 Fn Tryz.prog 98 ⟨1,[.S 0,.c (.s s_)],[(0,.sl rS l_)],[],1,.I r,[],[]⟩:=by
 refine Zv func98 rfl (fun E F w=>?_)
 unfold LC at h
 refine wa J 9 (Zz (σ:=Unit) (fun st=>(RR l_ [])) (fun st=>Bu=some r) ?_ (fun j1=>?_))
 ·intro _ h
  replace h:Bu=some r:=h
  unfold Bu at h
  cases h
  exact wr J 4 func98 []
 refine wa J 1 (ZH (σ:=Int) (fun st=>(RR l_ [(0,.S 0),(1,.c (.s s_)),(5,.I st)])) (fun n st=>QK l_ s_ n st) (r:=r) (fun _=>rfl) ?_ (fun ih=>?_))
 ·intro n2 ih3
  intro d h
  replace h:QK l_ s_ (n2+1) d=some r:=h
  unfold QK at h
  refine Zp J 8 h (fun h=>wa J 2 (Zj [] (j1 () h))) fun h=>?_
  refine wO J 8 h fun x9 e h=>Zt J oS e ?_
  refine wB J 4 h (fun h=>?_) fun h=>wa J 8 (Zj [] (ih3 (Zi (d+1)) h))
  cases h
  exact wr J 6 func98 []
 exact Zj [] (ih N 0 h)
theorem ZaK (N:Nat) (decls_:(List T0)) (r:Int) (h:Q5 N decls_=some r) :
 Fn Tryz.prog 90 ⟨1,[.S 0],[(0,.sl ZQ decls_)],[],1,.I r,[],[]⟩:=by
 refine Zv func90 rfl (fun E F w=>?_)
 unfold Q5 at h
 refine wa J 13 (Zz (σ:=Int) (fun st=>(Hs decls_ [(3,.I st)])) (fun st=>Do st=some r) ?_ (fun j1=>?_))
 ·intro c h
  replace h:Do c=some r:=h
  unfold Do at h
  cases h
  exact wr J 5 func90 []
 refine wa J 1 (ZH (σ:=Int × Int) (fun st=>(Hs decls_ [(0,.S 0),(3,.I st.1),(4,.I st.2)])) (fun n st=>Rw decls_ n st.1 st.2) (r:=r) (fun _=>rfl) ?_ (fun ih=>?_))
 ·intro n2 ih3
  rintro ⟨d,e⟩ h
  replace h:Rw decls_ (n2+1) d e=some r:=h
  unfold Rw at h
  refine Zp J 8 h (fun h=>wa J 2 (Zj [] (j1 d h))) fun h=>?_
  exact wO J 8 h fun x9 f h=>Zt J Xf f (wa J 12 (Zj [] (ih3 ((Zi (d+(x9.Fields.length:Int))),(Zi (e+1))) h)))
 exact Zj [] (ih N (0,0) h)
theorem Zuh (N:Nat) (s_:Yg) (r:Bool) (h:GN N s_=some r) :
 Fn Tryz.prog 147 ⟨0,[.a (V8 s_)],[],[],0,.O r,[],[]⟩:=by
 refine Zv func147 rfl (fun E F w=>?_)
 unfold GN at h
 refine wa J 17 (Zz (σ:=Int × Int) (fun st=>⟨[(1,.B 0 0),(3,.I st.1),(4,.I st.2)],[(0,.box (V8 s_) 97)],[],1⟩) (fun st=>M9 s_ st.1 st.2=some r) ?_ (fun j1=>?_))
 ·rintro ⟨c,d⟩ h
  replace h:M9 s_ c d=some r:=h
  unfold M9 at h
  refine wB J 6 h (fun h=>?_) fun h=>?_
  ·refine Zp J 11 h (fun h=>?_) fun h=>?_
   ·cases h
    exact wr J 14 func147 []
   refine wB J 6 h (fun h=>?_) fun h=>?_
   ·cases h
    exact wr J 8 func147 []
   cases h
   exact wr J 8 func147 []
  refine Zp J 5 h (fun h=>?_) fun h=>?_
  ·cases h
   exact wr J 20 func147 []
  refine Zp J 6 h (fun h=>?_) fun h=>?_
  ·cases h
   exact wr J 14 func147 []
  refine wB J 6 h (fun h=>?_) fun h=>?_
  ·cases h
   exact wr J 8 func147 []
  cases h
  exact wr J 8 func147 []
 exact eB h (fun h=>wa J 5 (Zj [] (j1 (0,40) h))) fun h=>wa J 2 (Zj [] (j1 ((-1000),1000) h))
theorem ZqT (N:Nat) (s_:ByteArray) (r:Bool) (h:D4 N s_=some r) :
 Fn Tryz.prog 195 ⟨0,[.c (.s s_)],[],[],0,.O r,[],[]⟩:=by
 refine Zv func195 rfl (fun E F w=>?_)
 unfold D4 at h
 refine wO J 7 h fun x1 d h=>Zo (Zcd N s_ _ d) [] [] ?_
 cases h
 exact wr J 2 func195 []
theorem Zq4 (N:Nat) (s_:ByteArray) (r:Bool) (h:Dn N s_=some r) :
 Fn Tryz.prog 148 ⟨0,[.c (.s s_)],[],[],0,.O r,[],[]⟩:=by
 refine Zv func148 rfl (fun E F w=>?_)
 unfold Dn at h
 refine wa J 13 (Zz (σ:=Unit) (fun st=>(Wp [(0,.c (.s s_))])) (fun st=>Ld s_=some r) ?_ (fun j1=>?_))
 ·intro _ h
  replace h:Ld s_=some r:=h
  unfold Ld at h
  cases h
  exact wr J 7 func148 []
 refine wa J 1 (ZH (σ:=Int × Int) (fun st=>(Wp [(0,.c (.s s_)),(3,.I st.1),(4,.I st.2)])) (fun n st=>UR N s_ n st.1 st.2) (r:=r) (fun _=>rfl) ?_ (fun ih=>?_))
 ·intro n2 ih6
  rintro ⟨d,e⟩ h
  replace h:UR N s_ (n2+1) d e=some r:=h
  unfold UR at h
  refine Zp J 8 h (fun h=>wa J 2 (Zj [] (j1 () h))) fun h=>?_
  refine wa J 11 (Zz (σ:=Bool) (fun st=>(Wp [(0,.c (.s s_)),(3,.I d),(4,.I e),(20,.O st)])) (fun st=>RM N s_ d e (UR N s_ n2) st=some r) ?_ (fun j9=>?_))
  ·intro f h
   replace h:RM N s_ d e (UR N s_ n2) f=some r:=h
   unfold RM at h
   refine WA h (fun h=>wa J 8 (Zj [] (ih6 (d,(Zi (e+1))) h))) fun h=>?_
   refine wO J 7 h fun g i h=>Q6 J i ?_
   obtain ⟨j,k,h⟩:=ob h
   refine Zo (ZqT N g _ k) [] [] ?_
   refine wB J 2 h (fun h=>?_) fun h=>wa J 13 (Zj [] (ih6 ((Zi (e+1)),(Zi (e+1))) h))
   cases h
   exact wr J 5 func148 []
  refine eB h (fun h=>wa J 6 (Zj [] (j9 true h))) fun h=>?_
  exact wO J 2 h fun l m h=>W3 J m (wa J 3 (Zj [] (j9 (l==46) h)))
 exact Zj [] (ih N (0,0) h)
theorem Zgv (N:Nat) (decls_:(List T0)) (x_:Int) (r:T4) (h:MX N decls_ x_=some r) :
 Fn Tryz.prog 143 ⟨1,[.S 0,.I x_],[(0,.sl ZQ decls_)],[],1,.a (Ur r),[],[]⟩:=by
 refine Zv func143 rfl (fun E F w=>?_)
 unfold MX at h
 refine wa J 9 (Zz (σ:=Unit) (fun st=>⟨[(4,.B 1 0)],[(1,.box [.s (str []),.I 0,.I 0,.I 0] 99)],[(0,.sl ZQ decls_)],2⟩) (fun st=>ZaX=some r) ?_ (fun j1=>?_))
 ·intro _ h
  replace h:ZaX=some r:=h
  unfold ZaX at h
  cases h
  exact wr J 5 func143 []
 refine wa J 1 (ZH (σ:=Int × Int) (fun st=>⟨[(0,.S 0),(1,.I st.1),(4,.B 1 0),(5,.I st.2)],[(1,.box [.s (str []),.I 0,.I 0,.I 0] 99)],[(0,.sl ZQ decls_)],2⟩) (fun n st=>P1 decls_ n st.1 st.2) (r:=r) (fun _=>rfl) ?_ (fun ih=>?_))
 ·intro n2 ih3
  rintro ⟨c,d⟩ h
  replace h:P1 decls_ (n2+1) c d=some r:=h
  unfold P1 at h
  refine Zp J 8 h (fun h=>wa J 2 (Zj [] (j1 () h))) fun h=>?_
  refine wO J 10 h fun e f h=>Zt J Xf f ?_
  refine Zp J 5 h (fun h=>?_) fun h=>?_
  ·exact wO J 6 h fun g i h=>Zt J Xf i (wa J 12 (Zj [] (ih3 ((Zi (c-(g.Fields.length:Int))),(Zi (d+1))) h)))
  refine wO J 5 h fun j k h=>Zt J Xf k ?_
  refine wO J 3 h fun l m h=>Zt J WD m ?_
  cases h
  exact wr J 3 func143 []
 exact Zj [] (ih N (x_,0) h)
theorem ZiN (N:Nat) (decls_:(List T0)) (x_:Int) (r:Bool) (h:LD N decls_ x_=some r) :
 Fn Tryz.prog 196 ⟨1,[.S 0,.I x_],[(0,.sl ZQ decls_)],[],1,.O r,[],[]⟩:=by
 refine Zv func196 rfl (fun E F w=>?_)
 unfold LD at h
 refine Zp J 9 h (fun h=>?_) fun h=>?_
 ·cases h
  exact wr J 15 func196 []
 refine wO J 2 h fun x1 c h=>Zo (ZaK N decls_ _ c) [] [(0,.sl 0)] ?_
 refine Zp J 3 h (fun h=>?_) fun h=>?_
 ·cases h
  exact wr J 9 func196 []
 refine wO J 2 h fun x2 d h=>Zo (Zgv N decls_ x_ _ d) [] [(0,.sl 0)] ?_
 cases h
 exact wr J 6 func196 []
theorem ZnN (N:Nat) (decls_:(List T0)) (g_:T6) (r:Bool) (h:HM N decls_ g_=some r) :
 Fn Tryz.prog 149 ⟨3,[.S 0,.a [.sl 1,.sl 2]],[(0,.sl ZQ decls_),(1,.sl Yy g_.Diffs),(2,.sl (rP (rI .i64) (rI .i64)) g_.Equals)],[],3,.O r,[],[]⟩:=by
 refine Zv func149 rfl (fun E F w=>?_)
 unfold HM at h
 refine wO J 8 h fun x1 c h=>Zo (ZaK N decls_ _ c) [] [(0,.sl 0)] (wa J 7 (Zz (σ:=Unit) (fun st=>(B7 decls_ g_.Diffs g_.Equals [(0,.S 0),(3,.B 3 0)])) (fun st=>Hj N decls_ g_=some r) ?_ (fun j1=>?_)))
 ·intro _ h
  replace h:Hj N decls_ g_=some r:=h
  unfold Hj at h
  refine wa J 5 (Zz (σ:=Unit) (fun st=>(B7 decls_ g_.Diffs g_.Equals [(3,.B 3 0)])) (fun st=>Pu g_=some r) ?_ (fun j3=>?_))
  ·intro _ h
   replace h:Pu g_=some r:=h
   unfold Pu at h
   refine wB J 7 h (fun h=>?_) fun h=>?_
   ·cases h
    exact wr J 7 func149 []
   cases h
   exact wr J 7 func149 []
  refine wa J 1 (ZH (σ:=Int) (fun st=>(B7 decls_ g_.Diffs g_.Equals [(0,.S 0),(3,.B 3 0),(8,.I st)])) (fun n st=>Pa N decls_ g_ n st) (r:=r) (fun _=>rfl) ?_ (fun ih=>?_))
  ·intro n3 ih5
   intro d h
   replace h:Pa N decls_ g_ (n3+1) d=some r:=h
   unfold Pa at h
   refine Zp J 9 h (fun h=>wa J 2 (Zj [] (j3 () h))) fun h=>?_
   refine wO J 10 h fun e f h=>Zt J (oP (oI .i64) (oI .i64)) f (UD 0 rfl ?_)
   refine wO J 1 h fun g i h=>Zo (ZiN N decls_ e.1 _ i) [] [(0,.sl 0)] ?_
   refine wB J 2 h (fun h=>?_) fun h=>?_
   ·cases h
    exact wr J 16 func149 []
   refine wO J 4 h fun j k h=>Zt J (oP (oI .i64) (oI .i64)) k (UD 1 rfl ?_)
   refine wO J 1 h fun l m h=>Zo (ZiN N decls_ j.2 _ m) [] [(0,.sl 0)] ?_
   refine wB J 3 h (fun h=>?_) fun h=>wa J 8 (Zj [] (ih5 (Zi (d+1)) h))
   cases h
   exact wr J 5 func149 []
  exact Zj [] (ih N 0 h)
 refine wa J 1 (ZH (σ:=Int) (fun st=>(B7 decls_ g_.Diffs g_.Equals [(0,.S 0),(3,.B 3 0),(5,.I x1),(6,.I st)])) (fun n st=>Rm N decls_ g_ x1 n st) (r:=r) (fun _=>rfl) ?_ (fun ih=>?_))
 ·intro n4 ih6
  intro o h
  replace h:Rm N decls_ g_ x1 (n4+1) o=some r:=h
  unfold Rm at h
  refine Zp J 9 h (fun h=>wa J 2 (Zj [] (j1 () h))) fun h=>?_
  refine wO J 9 h fun p q h=>Zt J Tx q ?_
  refine wB J 10 h (fun h=>?_) fun h=>?_
  ·cases h
   exact wr J 32 func149 []
  refine wB J 6 h (fun h=>?_) fun h=>?_
  ·cases h
   exact wr J 26 func149 []
  refine wB J 5 h (fun h=>?_) fun h=>?_
  ·cases h
   exact wr J 21 func149 []
  refine wB J 6 h (fun h=>?_) fun h=>?_
  ·cases h
   exact wr J 15 func149 []
  refine wB J 5 h (fun h=>?_) fun h=>?_
  ·cases h
   exact wr J 10 func149 []
  refine wB J 5 h (fun h=>?_) fun h=>wa J 8 (Zj [] (ih6 (Zi (o+1)) h))
  cases h
  exact wr J 5 func149 []
 exact Zj [] (ih N 0 h)
theorem ZjB (N:Nat) (decls_:(List T0)) (r:Bool) (h:L2 N decls_=some r) :
 Fn Tryz.prog 99 ⟨1,[.S 0],[(0,.sl ZQ decls_)],[],1,.O r,[],[]⟩:=by
 refine Zv func99 rfl (fun E F w=>?_)
 unfold L2 at h
 refine wB J 11 h (fun h=>?_) fun h=>?_
 ·cases h
  exact wr J 10 func99 []
 refine wO J 1 h fun x1 c h=>Zo (ZaK N decls_ _ c) [] [(0,.sl 0)] ?_
 refine wB J 3 h (fun h=>?_) fun h=>wa J 11 (Zz (σ:=Unit) (fun st=>(Hs decls_ [])) (fun st=>Dh=some r) ?_ (fun j1=>?_))
 ·cases h
  exact wr J 5 func99 []
 ·intro _ h
  replace h:Dh=some r:=h
  unfold Dh at h
  cases h
  exact wr J 4 func99 []
 refine wa J 1 (ZH (σ:=Int × Int) (fun st=>(Hs decls_ [(0,.S 0),(3,.I st.1),(4,.I st.2)])) (fun n st=>Xi N decls_ n st.1 st.2) (r:=r) (fun _=>rfl) ?_ (fun ih=>?_))
 ·intro n82 ih75
  rintro ⟨d,e⟩ h
  replace h:Xi N decls_ (n82+1) d e=some r:=h
  unfold Xi at h
  refine Zp J 8 h (fun h=>wa J 2 (Zj [] (j1 () h))) fun h=>?_
  refine wO J 8 h fun f g h=>Zt J Xf g (wa J 9 (Zz (σ:=Unit) (fun st=>(ZbY f decls_ [(0,.S 0),(3,.I d),(4,.I e),(5,.B 5 0)])) (fun st=>L3 N decls_ d e (Xi N decls_ n82) f=some r) ?_ (fun j124=>?_)))
  ·intro _ h
   replace h:L3 N decls_ d e (Xi N decls_ n82) f=some r:=h
   unfold L3 at h
   refine wa J 5 (Zz (σ:=Unit) (fun st=>(ZbY f decls_ [(0,.S 0),(3,.I d),(4,.I e),(5,.B 5 0)])) (fun st=>Lw N decls_ d e (Xi N decls_ n82) f=some r) ?_ (fun j126=>?_))
   ·intro _ h
    replace h:Lw N decls_ d e (Xi N decls_ n82) f=some r:=h
    unfold Lw at h
    refine wO J 5 h fun i j h=>Zo (Zq4 N f.Name _ j) [] [] ?_
    refine wB J 2 h (fun h=>?_) fun h=>?_
    ·cases h
     exact wr J 24 func99 []
    refine wB J 6 h (fun h=>?_) fun h=>?_
    ·cases h
     exact wr J 18 func99 []
    refine wB J 6 h (fun h=>?_) fun h=>?_
    ·cases h
     exact wr J 12 func99 []
    refine wO J 3 h fun k l h=>Zo (ZnN N decls_ f.Guard _ l) [] [(0,.sl 0),(1,.sl 3),(2,.sl 4)] ?_
    refine wB J 3 h (fun h=>?_) fun h=>wa J 16 (Zj [] (ih75 ((Zi (d+(f.Fields.length:Int))),(Zi (e+1))) h))
    cases h
    exact wr J 5 func99 []
   refine wa J 1 (ZH (σ:=Int) (fun st=>(ZbY f decls_ [(0,.S 0),(3,.I d),(4,.I e),(5,.B 5 0),(7,.I st)])) (fun n st=>VE N decls_ d e (Xi N decls_ n82) f n st) (r:=r) (fun _=>rfl) ?_ (fun ih=>?_))
   ·intro n95 ih137
    intro m h
    replace h:VE N decls_ d e (Xi N decls_ n82) f (n95+1) m=some r:=h
    unfold VE at h
    refine Zp J 9 h (fun h=>wa J 2 (Zj [] (j126 () h))) fun h=>?_
    refine wO J 10 h fun o p h=>Zt J WD p ?_
    refine wO J 2 h fun q s h=>Zo (Zuh N o.Sort' _ s) [] [] ?_
    refine wB J 2 h (fun h=>?_) fun h=>?_
    ·cases h
     exact wr J 15 func99 []
    refine wO J 3 h fun t u h=>Zt J WD u ?_
    refine wO J 2 h fun v x h=>Zo (Zcd N t.Name _ x) [] [] ?_
    refine wB J 3 h (fun h=>?_) fun h=>wa J 6 (Zz (σ:=Unit) (fun st=>⟨[(0,.S 0),(3,.I d),(4,.I e),(5,.B 5 0),(7,.I m)],[(5,.box (YM 2 3 4 f) 106)],((0,.sl ZQ decls_)::YJ 2 3 4 f []),8⟩) (fun st=>Lf m (VE N decls_ d e (Xi N decls_ n82) f n95)=some r) ?_ (fun j144=>?_))
    ·cases h
     exact wr J 5 func99 []
    ·intro _ h
     replace h:Lf m (VE N decls_ d e (Xi N decls_ n82) f n95)=some r:=h
     unfold Lf at h
     exact wa J 6 (Zj [] (ih137 (Zi (m+1)) h))
    refine wa J 1 (ZH (σ:=Int) (fun st=>⟨[(0,.S 0),(3,.I d),(4,.I e),(5,.B 5 0),(7,.I m),(8,.I st)],[(5,.box (YM 2 3 4 f) 106)],((0,.sl ZQ decls_)::YJ 2 3 4 f []),8⟩) (fun n st=>Qx f m (VE N decls_ d e (Xi N decls_ n82) f n95) n st) (r:=r) (fun _=>rfl) ?_ (fun ih=>?_))
    ·intro n97 ih146
     intro y h
     replace h:Qx f m (VE N decls_ d e (Xi N decls_ n82) f n95) (n97+1) y=some r:=h
     unfold Qx at h
     refine Zp J 7 h (fun h=>wa J 2 (Zj [] (j144 () h))) fun h=>?_
     refine wO J 9 h fun z A h=>Zt J WD A ?_
     refine wO J 5 h fun C D h=>Zt J WD D (wa J 3 (Zy ?_))
     refine eB h (fun h=>?_) fun h=>wa J 8 (Zj [] (ih146 (Zi (y+1)) h))
     cases h
     exact wr J 5 func99 []
    exact Zj [] (ih N 0 h)
   exact Zj [] (ih N 0 h)
  refine wa J 1 (ZH (σ:=Int) (fun st=>(ZbY f decls_ [(0,.S 0),(3,.I d),(4,.I e),(5,.B 5 0),(6,.I st)])) (fun n st=>Pc N decls_ d e (Xi N decls_ n82) f n st) (r:=r) (fun _=>rfl) ?_ (fun ih=>?_))
  ·intro n98 ih147
   intro G h
   replace h:Pc N decls_ d e (Xi N decls_ n82) f (n98+1) G=some r:=h
   unfold Pc at h
   refine Zp J 7 h (fun h=>wa J 2 (Zj [] (j124 () h))) fun h=>?_
   refine wO J 8 h fun H R h=>Zt J Xf R (wa J 5 (Zy ?_))
   refine eB h (fun h=>?_) fun h=>wa J 8 (Zj [] (ih147 (Zi (G+1)) h))
   cases h
   exact wr J 5 func99 []
  exact Zj [] (ih N 0 h)
 exact Zj [] (ih N (0,0) h)
theorem Zn8 (N:Nat) (g_:T5) (r:Bool) (h:GK N g_=some r) :
 Fn Tryz.prog 58 ⟨4,[.a (Yr 0 1 2 3 g_)],(Yx 0 1 2 3 g_ []),[],4,.O r,[],[]⟩:=by
 refine Zv func58 rfl (fun E F w=>?_)
 unfold GK at h
 refine wa J 10 (Zz (σ:=Unit) (fun st=>(Tp g_ [(1,.B 4 0)])) (fun st=>LP N g_=some r) ?_ (fun j1=>?_))
 ·intro _ h
  replace h:LP N g_=some r:=h
  unfold LP at h
  refine wO J 4 h fun c d h=>Zo (Zcd N g_.Name _ d) [] [] ?_
  refine Zp J 1 h (fun h=>?_) fun h=>?_
  ·cases h
   exact wr J 18 func58 []
  refine Zp J 6 h (fun h=>?_) fun h=>?_
  ·cases h
   exact wr J 12 func58 []
  refine Zp J 6 h (fun h=>?_) fun h=>?_
  ·cases h
   exact wr J 6 func58 []
  refine wO J 2 h fun e f h=>Zo (ZjB N g_.Decls _ f) [] [(0,.sl 1)] ?_
  cases h
  exact wr J 3 func58 []
 refine wa J 1 (ZH (σ:=Int) (fun st=>(Tp g_ [(1,.B 4 0),(3,.I st)])) (fun n st=>RW N g_ n st) (r:=r) (fun _=>rfl) ?_ (fun ih=>?_))
 ·intro n2 ih3
  intro g h
  replace h:RW N g_ (n2+1) g=some r:=h
  unfold RW at h
  refine Zp J 9 h (fun h=>wa J 2 (Zj [] (j1 () h))) fun h=>?_
  refine wO J 9 h fun i j h=>Zt J oS j ?_
  refine wO J 1 h fun k l h=>Zo (Zcd N i _ l) [] [] ?_
  refine wB J 2 h (fun h=>wa J 11 (Zy ?_)) fun h=>?_
  ·cases h
   exact wr J 5 func58 []
  refine wO J 5 h fun m o h=>Zt J oS o ?_
  refine wO J 1 h fun p q h=>Zo (Zt3 N g_.Roles m _ q) [] [(0,.sl 0)] (wa J 3 (Zy ?_))
  refine eB h (fun h=>?_) fun h=>wa J 8 (Zj [] (ih3 (Zi (g+1)) h))
  cases h
  exact wr J 5 func58 []
 exact Zj [] (ih N 0 h)
theorem BK (N:Nat) (g_:T5) (s_:Int) (r:Bool) (h:SJ N g_ s_=some r) :
 Fn Tryz.prog 100 ⟨4,[.a (Yr 0 1 2 3 g_),.I s_],(Yx 0 1 2 3 g_ []),[],4,.O r,[],[]⟩:=by
 refine Zv func100 rfl (fun E F w=>?_)
 unfold SJ at h
 refine wB J 10 h (fun h=>?_) fun h=>?_
 ·cases h
  exact wr J 7 func100 []
 cases h
 exact wr J 7 func100 []
theorem Zmb (N:Nat) (g_:T5) (r:Bool) (h:BX N g_=some r) :
 Fn Tryz.prog 59 ⟨4,[.a (Yr 0 1 2 3 g_)],(Yx 0 1 2 3 g_ []),[],4,.O r,[],[]⟩:=by
 refine Zv func59 rfl (fun E F w=>?_)
 unfold BX at h
 refine wa J 10 (Zz (σ:=Unit) (fun st=>(Tp g_ [(1,.B 4 0)])) (fun st=>Lm N g_=some r) ?_ (fun j1=>?_))
 ·intro _ h
  replace h:Lm N g_=some r:=h
  unfold Lm at h
  refine Zp J 6 h (fun h=>?_) fun h=>?_
  ·cases h
   exact wr J 24 func59 []
  refine Zp J 5 h (fun h=>?_) fun h=>?_
  ·cases h
   exact wr J 19 func59 []
  refine wO J 3 h fun c d h=>Zo (BK N g_ g_.Start _ d) [] [(0,.sl 0),(1,.sl 1),(2,.sl 2),(3,.sl 3)] ?_
  refine Zp J 2 h (fun h=>?_) fun h=>?_
  ·cases h
   exact wr J 13 func59 []
  refine wO J 3 h fun e f h=>Zo (BK N g_ g_.End _ f) [] [(0,.sl 0),(1,.sl 1),(2,.sl 2),(3,.sl 3)] ?_
  refine wB J 2 h (fun h=>?_) fun h=>?_
  ·cases h
   exact wr J 7 func59 []
  cases h
  exact wr J 7 func59 []
 refine wa J 1 (ZH (σ:=Int) (fun st=>(Tp g_ [(1,.B 4 0),(3,.I st)])) (fun n st=>Qj N g_ n st) (r:=r) (fun _=>rfl) ?_ (fun ih=>?_))
 ·intro n2 ih3
  intro g h
  replace h:Qj N g_ (n2+1) g=some r:=h
  unfold Qj at h
  refine Zp J 9 h (fun h=>wa J 2 (Zj [] (j1 () h))) fun h=>?_
  refine wO J 9 h fun i j h=>Zt J Wh j ?_
  refine wO J 9 h fun k l h=>Zo (BK N g_ i.From _ l) [] [(0,.sl 0),(1,.sl 1),(2,.sl 2),(3,.sl 3)] ?_
  refine wB J 2 h (fun h=>?_) fun h=>?_
  ·cases h
   exact wr J 66 func59 []
  refine wO J 3 h fun m o h=>Zo (BK N g_ i.To _ o) [] [(0,.sl 0),(1,.sl 1),(2,.sl 2),(3,.sl 3)] ?_
  refine wB J 3 h (fun h=>?_) fun h=>?_
  ·cases h
   exact wr J 59 func59 []
  refine wB J 6 h (fun h=>?_) fun h=>?_
  ·cases h
   exact wr J 53 func59 []
  refine wB J 9 h (fun h=>?_) fun h=>?_
  ·cases h
   exact wr J 44 func59 []
  refine wB J 6 h (fun h=>?_) fun h=>?_
  ·cases h
   exact wr J 38 func59 []
  refine wB J 9 h (fun h=>?_) fun h=>?_
  ·cases h
   exact wr J 29 func59 []
  refine wB J 9 h (fun h=>?_) fun h=>?_
  ·cases h
   exact wr J 20 func59 []
  refine wB J 6 h (fun h=>?_) fun h=>?_
  ·cases h
   exact wr J 14 func59 []
  refine wB J 9 h (fun h=>?_) fun h=>wa J 8 (Zj [] (ih3 (Zi (g+1)) h))
  cases h
  exact wr J 5 func59 []
 exact Zj [] (ih N 0 h)
theorem ZpT (N:Nat) (g_:T5) (r:Bool) (h:DP N g_=some r) :
 Fn Tryz.prog 60 ⟨4,[.a (Yr 0 1 2 3 g_)],(Yx 0 1 2 3 g_ []),[],4,.O r,[],[]⟩:=by
 refine Zv func60 rfl (fun E F w=>?_)
 unfold DP at h
 refine wa J 10 (Zz (σ:=Unit) (fun st=>(MA g_ [])) (fun st=>DU=some r) ?_ (fun j1=>?_))
 ·intro _ h
  replace h:DU=some r:=h
  unfold DU at h
  cases h
  exact wr J 4 func60 []
 refine wa J 1 (ZH (σ:=Int) (fun st=>(Tp g_ [(1,.B 4 0),(3,.I st)])) (fun n st=>WI N g_ n st) (r:=r) (fun _=>rfl) ?_ (fun ih=>?_))
 ·intro n12 ih33
  intro c h
  replace h:WI N g_ (n12+1) c=some r:=h
  unfold WI at h
  refine Zp J 9 h (fun h=>wa J 2 (Zj [] (j1 () h))) fun h=>?_
  refine wO J 9 h fun d e h=>Zt J Wh e ?_
  refine wa J 10 (Zz (σ:=Bool) (fun st=>(ZcZ g_ d [(1,.B 4 0),(3,.I c),(4,.B 6 0),(27,.O st)])) (fun st=>Hg N g_ c (WI N g_ n12) d st=some r) ?_ (fun j54=>?_))
  ·intro f h
   replace h:Hg N g_ c (WI N g_ n12) d f=some r:=h
   unfold Hg at h
   refine eB h (fun h=>?_) fun h=>wa J 6 (Zz (σ:=Unit) (fun st=>⟨[(1,.B 4 0),(3,.I c)],[(4,.box (Yr 0 1 2 3 g_) 27)],(Yx 0 1 2 3 g_ []),7⟩) (fun st=>HD c (WI N g_ n12)=some r) ?_ (fun j55=>?_))
   ·cases h
    exact wr J 5 func60 []
   ·intro _ h
    replace h:HD c (WI N g_ n12)=some r:=h
    unfold HD at h
    exact wa J 6 (Zj [] (ih33 (Zi (c+1)) h))
   refine wa J 1 (ZH (σ:=Int) (fun st=>(ZcZ g_ d [(1,.B 4 0),(3,.I c),(4,.B 6 0),(5,.I st)])) (fun n st=>VJ g_ c (WI N g_ n12) d n st) (r:=r) (fun _=>rfl) ?_ (fun ih=>?_))
   ·intro n14 ih60
    intro g h
    replace h:VJ g_ c (WI N g_ n12) d (n14+1) g=some r:=h
    unfold VJ at h
    refine Zp J 9 h (fun h=>wa J 2 (Zj [] (j55 () h))) fun h=>?_
    refine wO J 9 h fun i j h=>Zt J Wh j ?_
    refine wa J 11 (Zz (σ:=Bool) (fun st=>(Zhe g_ d i [(1,.B 4 0),(3,.I c),(4,.B 6 0),(5,.I g),(6,.B 8 0),(69,.O st)])) (fun st=>SH d g (VJ g_ c (WI N g_ n12) d n14) i st=some r) ?_ (fun j63=>?_))
    ·intro k h
     replace h:SH d g (VJ g_ c (WI N g_ n12) d n14) i k=some r:=h
     unfold SH at h
     refine eB h (fun h=>?_) fun h=>?_
     ·cases h
      exact wr J 5 func60 []
     refine Zp J 7 h (fun h=>wa J 33 (Zj [] (ih60 (Zi (g+1)) h))) fun h=>?_
     refine Zp J 7 h (fun h=>wa J 26 (Zj [] (ih60 (Zi (g+1)) h))) fun h=>?_
     refine wB J 8 h (fun h=>?_) fun h=>?_
     ·cases h
      exact wr J 15 func60 []
     refine wB J 10 h (fun h=>?_) fun h=>wa J 8 (Zj [] (ih60 (Zi (g+1)) h))
     cases h
     exact wr J 5 func60 []
    refine WA h (fun h=>wa J 27 (Zj [] (j63 false h))) fun h=>?_
    refine Zp J 7 h (fun h=>wa J 20 (Zj [] (j63 false h))) fun h=>wa J 4 (QU ?_)
    refine wB J 1 h (fun h=>wa J 14 (Zj [] (j63 true h))) fun h=>?_
    exact wB J 9 h (fun h=>wa J 5 (Zj [] (j63 true h))) fun h=>wa J 5 (Zj [] (j63 d.Again h))
   exact Zj [] (ih N 0 h)
  exact eB h (fun h=>wa J 7 (Zj [] (j54 (d.From==g_.Start) h))) fun h=>wa J 7 (Zj [] (j54 false h))
 exact Zj [] (ih N 0 h)
theorem ZoE (N:Nat) (g_:T5) (r:(List Int)) (h:Bn N g_=some r) :
 Fn Tryz.prog 101 ⟨4,[.a (Yr 0 1 2 3 g_)],(Yx 0 1 2 3 g_ []),[],5,.S 4,[],[(4,.own (rI .i64) r true)]⟩:=by
 refine Zv func101 rfl (fun E F w=>?_)
 unfold Bn at h
 refine wO J 9 h fun x1 c h=>UM J (oI .i64) c (wa J 7 (Zz (σ:=(List Int)) (fun st=>(Zd7 g_ st [(1,.B 4 0),(3,.S 5)])) (fun st=>Hf N g_ st=some r) ?_ (fun j1=>?_)))
 ·intro d h
  replace h:Hf N g_ d=some r:=h
  unfold Hf at h
  refine wO J 5 h fun x6 e h=>ZT J (rI .i64) e (XW J [] (oI .i64) 0 e (wa J 6 (Zz (σ:=(List Int)) (fun st=>⟨[(3,.S 5)],[(5,.own (rI .i64) st true)],(Yx 0 1 2 3 g_ []),7⟩) (fun st=>GA st=some r) ?_ (fun j3=>?_))))
  ·intro f h
   replace h:GA f=some r:=h
   unfold GA at h
   cases h
   exact wr J 5 func101 [(4,.sl 5)]
  refine wa J 1 (ZH (σ:=(List Int) × Int) (fun st=>(GI g_ st.1 [(1,.B 4 0),(3,.S 5),(5,.I st.2)])) (fun n st=>Ub N g_ n st.1 st.2) (r:=r) (fun _=>rfl) ?_ (fun ih=>?_))
  ·intro n13 ih14
   rintro ⟨g,i⟩ h
   replace h:Ub N g_ (n13+1) g i=some r:=h
   unfold Ub at h
   refine Zp J 8 h (fun h=>wa J 2 (Zj [] (j3 g h))) fun h=>wa J 8 (Zz (σ:=(List Int)) (fun st=>(GI g_ st [(1,.B 4 0),(3,.S 5),(5,.I i)])) (fun st=>BB i (Ub N g_ n13) st=some r) ?_ (fun j21=>?_))
   ·intro j h
    replace h:BB i (Ub N g_ n13) j=some r:=h
    unfold BB at h
    exact wa J 6 (Zj [] (ih14 (j,(Zi (i+1))) h))
   refine wa J 1 (ZH (σ:=(List Int) × Int) (fun st=>(GI g_ st.1 [(1,.B 4 0),(3,.S 5),(5,.I i),(6,.I st.2)])) (fun n st=>V5 g_ i (Ub N g_ n13) n st.1 st.2) (r:=r) (fun _=>rfl) ?_ (fun ih=>?_))
   ·intro n15 ih23
    rintro ⟨k,l⟩ h
    replace h:V5 g_ i (Ub N g_ n13) (n15+1) k l=some r:=h
    unfold V5 at h
    refine Zp J 9 h (fun h=>wa J 2 (Zj [] (j21 k h))) fun h=>?_
    refine wO J 9 h fun m o h=>Zt J Wh o ?_
    refine wO J 9 h fun p q h=>ZT J (rI .i64) q (Z9 J (oI .i64) q ?_)
    refine Zp J 3 h (fun h=>wa J 16 (Zj [] (ih23 (k,(Zi (l+1))) h))) fun h=>?_
    refine wO J 3 h fun s t h=>ZT J (rI .i64) t (Z9 J (oI .i64) t ?_)
    refine Zp J 3 h (fun h=>wa J 8 (Zj [] (ih23 (k,(Zi (l+1))) h))) fun h=>?_
    exact wO J 7 h fun u v h=>ZT J (rI .i64) v (XW J [] (oI .i64) (Zi (i+1)) v (wa J 7 (Zj [] (ih23 ((ZW k m.From (Zi (i+1))),(Zi (l+1))) h))))
   exact Zj [] (ih N (g,0) h)
  exact Zj [] (ih N ((ZW d g_.End 0),0) h)
 refine wa J 1 (ZH (σ:=(List Int) × Int) (fun st=>(Zd7 g_ st.1 [(1,.B 4 0),(3,.S 5),(4,.I st.2)])) (fun n st=>QR N g_ n st.1 st.2) (r:=r) (fun _=>rfl) ?_ (fun ih=>?_))
 ·intro n16 ih24
  rintro ⟨x,y⟩ h
  replace h:QR N g_ (n16+1) x y=some r:=h
  unfold QR at h
  refine Zp J 8 h (fun h=>wa J 2 (Zj [] (j1 x h))) fun h=>?_
  exact wO J 7 h fun z A h=>ZT J (rI .i64) A (XW J [] (oI .i64) (-1) A (wa J 7 (Zj [] (ih24 ((ZW x y (-1)),(Zi (y+1))) h))))
 exact Zj [] (ih N (x1,0) h)
theorem Zqx (N:Nat) (g_:T5) (i_:Int) (k_:Int) (r:Bool) (h:D2 N g_ i_ k_=some r) :
 Fn Tryz.prog 150 ⟨4,[.a (Yr 0 1 2 3 g_),.I i_,.I k_],(Yx 0 1 2 3 g_ []),[],4,.O r,[],[]⟩:=by
 refine Zv func150 rfl (fun E F w=>?_)
 unfold D2 at h
 refine wO J 10 h fun x1 c h=>Zt J Wh c ?_
 refine wO J 5 h fun x2 d h=>Zt J Wh d (wa J 6 (Zy ?_))
 refine wB J 9 h (fun h=>?_) fun h=>?_
 ·cases h
  exact wr J 10 func150 []
 refine wB J 11 h (fun h=>?_) fun h=>?_
 ·cases h
  exact wr J 10 func150 []
 cases h
 exact wr J 9 func150 []
theorem ZrD (N:Nat) (g_:T5) (s_:Int) (r:(List Int)) (h:G8 N g_ s_=some r) :
 Fn Tryz.prog 102 ⟨4,[.a (Yr 0 1 2 3 g_),.I s_],(Yx 0 1 2 3 g_ []),[],5,.S 4,[],[(4,.own (rI .i64) r true)]⟩:=by
 refine Zv func102 rfl (fun E F w=>?_)
 unfold G8 at h
 refine wa J 14 (Zz (σ:=(List Int)) (fun st=>⟨[(5,.S 5)],[(5,.own (rI .i64) st true)],(Yx 0 1 2 3 g_ []),6⟩) (fun st=>DH st=some r) ?_ (fun j1=>?_))
 ·intro c h
  replace h:DH c=some r:=h
  unfold DH at h
  cases h
  exact wr J 5 func102 [(4,.sl 5)]
 refine wa J 1 (ZH (σ:=(List Int) × Int) (fun st=>(Zd7 g_ st.1 [(1,.I s_),(2,.B 4 0),(5,.S 5),(6,.I st.2)])) (fun n st=>Vj N g_ s_ n st.1 st.2) (r:=r) (fun _=>rfl) ?_ (fun ih=>?_))
 ·intro n12 ih12
  rintro ⟨d,e⟩ h
  replace h:Vj N g_ s_ (n12+1) d e=some r:=h
  unfold Vj at h
  refine Zp J 9 h (fun h=>wa J 2 (Zj [] (j1 d h))) fun h=>?_
  refine wO J 10 h fun f g h=>Zt J Wh g ?_
  refine wB J 5 h (fun h=>wa J 7 (Zj [] (ih12 (d,(Zi (e+1))) h))) fun h=>wa J 7 (Zz (σ:=Int) (fun st=>(GI g_ d [(1,.I s_),(2,.B 4 0),(5,.S 5),(6,.I e),(7,.I st)])) (fun st=>ME d e (Vj N g_ s_ n12) st=some r) ?_ (fun j19=>?_))
  ·intro i h
   replace h:ME d e (Vj N g_ s_ n12) i=some r:=h
   unfold ME at h
   refine wO J 3 h fun j k h=>SO J (rI .i64) k (wa J 1 (Z5 J [] (oI .i64) ([e]:List Int) ?_))
   refine wO J 2 h fun l m h=>SO J (rI .i64) m ?_
   obtain ⟨o,p,h⟩:=ob h
   refine eAv J (rI .i64) m p ?_
   obtain ⟨q,s,h⟩:=ob h
   exact eAz J (rI .i64) k s (wa J 1 (Zy (wa J 6 (Zj [(5,.sl 11)] (ih12 (q,(Zi (e+1))) h)))))
  refine wa J 1 (ZH (σ:=Int) (fun st=>(GI g_ d [(1,.I s_),(2,.B 4 0),(5,.S 5),(6,.I e),(7,.I st)])) (fun n st=>SS N g_ d e (Vj N g_ s_ n12) n st) (r:=r) (fun _=>rfl) ?_ (fun ih=>?_))
  ·intro n14 ih21
   intro t h
   replace h:SS N g_ d e (Vj N g_ s_ n12) (n14+1) t=some r:=h
   unfold SS at h
   refine Zp J 8 h (fun h=>wa J 8 (Zy (wa J 2 (Zj [] (j19 t h))))) fun h=>?_
   refine wO J 3 h fun u v h=>ZT J (rI .i64) v (Z9 J (oI .i64) v ?_)
   refine wO J 1 h fun x y h=>Zo (Zqx N g_ u e _ y) [] [(0,.sl 0),(1,.sl 1),(2,.sl 2),(3,.sl 3)] (wa J 1 (Zy ?_))
   exact eB h (fun h=>wa J 9 (Zj [] (ih21 (Zi (t+1)) h))) fun h=>wa J 2 (Zj [] (j19 t h))
  exact Zj [] (ih N 0 h)
 exact Zj [(5,.nil)] (ih N (([]:List Int),0) h)
theorem Zpv (N:Nat) (g_:T5) (r:Bool) (h:BQ N g_=some r) :
 Fn Tryz.prog 61 ⟨4,[.a (Yr 0 1 2 3 g_)],(Yx 0 1 2 3 g_ []),[],4,.O r,[],[]⟩:=by
 refine Zv func61 rfl (fun E F w=>?_)
 unfold BQ at h
 refine wO J 9 h fun x1 c h=>UM J oB c ?_
 refine wO J 7 h fun x2 d h=>ZT J rB d (XW J [] oB true d (wa J 6 (Zz (σ:=(List Bool)) (fun st=>(Zal g_ st [(1,.B 4 0),(3,.S 5)])) (fun st=>Hp N g_ st=some r) ?_ (fun j1=>?_))))
 ·intro e h
  replace h:Hp N g_ e=some r:=h
  unfold Hp at h
  refine wO J 3 h fun f g h=>Zo (ZoE N g_ _ g) [] [(0,.sl 0),(1,.sl 1),(2,.sl 2),(3,.sl 3)] (wa J 7 (Zz (σ:=Unit) (fun st=>⟨[(1,.B 4 0)],[(4,.box (Yr 0 1 2 3 g_) 27)],(Yx 0 1 2 3 g_ []),8⟩) (fun st=>Md N g_=some r) ?_ (fun j12=>?_)))
  ·intro _ h
   replace h:Md N g_=some r:=h
   unfold Md at h
   refine wO J 5 h fun i j h=>Zo (ZrD N g_ g_.End _ j) [] [(0,.sl 0),(1,.sl 1),(2,.sl 2),(3,.sl 3)] ?_
   cases h
   exact wr J 4 func61 []
  refine wa J 1 (ZH (σ:=Int) (fun st=>⟨[(1,.B 4 0),(3,.S 5),(6,.S 7),(7,.I st)],[(4,.box (Yr 0 1 2 3 g_) 27),(5,.own rB e true),(7,.own (rI .i64) f true)],(Yx 0 1 2 3 g_ []),8⟩) (fun n st=>Q1 N g_ e f n st) (r:=r) (fun _=>rfl) ?_ (fun ih=>?_))
  ·intro n9 ih14
   intro k h
   replace h:Q1 N g_ e f (n9+1) k=some r:=h
   unfold Q1 at h
   refine Zp J 8 h (fun h=>wa J 2 (Zj [] (j12 () h))) fun h=>?_
   refine wO J 8 h fun l m h=>ZT J rB m (Z9 J oB m ?_)
   refine wB J 2 h (fun h=>?_) fun h=>?_
   ·cases h
    exact wr J 12 func61 []
   refine wO J 2 h fun o p h=>ZT J (rI .i64) p (Z9 J (oI .i64) p ?_)
   refine wB J 3 h (fun h=>?_) fun h=>wa J 8 (Zj [] (ih14 (Zi (k+1)) h))
   cases h
   exact wr J 5 func61 []
  exact Zj [] (ih N 0 h)
 refine wa J 1 (ZH (σ:=(List Bool) × Int) (fun st=>(Zal g_ st.1 [(1,.B 4 0),(3,.S 5),(4,.I st.2)])) (fun n st=>VV N g_ n st.1 st.2) (r:=r) (fun _=>rfl) ?_ (fun ih=>?_))
 ·intro n14 ih15
  rintro ⟨q,s⟩ h
  replace h:VV N g_ (n14+1) q s=some r:=h
  unfold VV at h
  refine Zp J 8 h (fun h=>wa J 2 (Zj [] (j1 q h))) fun h=>wa J 8 (Zz (σ:=(List Bool)) (fun st=>(Zal g_ st [(1,.B 4 0),(3,.S 5),(4,.I s)])) (fun st=>GY s (VV N g_ n14) st=some r) ?_ (fun j22=>?_))
  ·intro t h
   replace h:GY s (VV N g_ n14) t=some r:=h
   unfold GY at h
   exact wa J 6 (Zj [] (ih15 (t,(Zi (s+1))) h))
  refine wa J 1 (ZH (σ:=(List Bool) × Int) (fun st=>(Zal g_ st.1 [(1,.B 4 0),(3,.S 5),(4,.I s),(5,.I st.2)])) (fun n st=>Ty g_ s (VV N g_ n14) n st.1 st.2) (r:=r) (fun _=>rfl) ?_ (fun ih=>?_))
  ·intro n16 ih24
   rintro ⟨u,v⟩ h
   replace h:Ty g_ s (VV N g_ n14) (n16+1) u v=some r:=h
   unfold Ty at h
   refine Zp J 9 h (fun h=>wa J 2 (Zj [] (j22 u h))) fun h=>?_
   refine wO J 9 h fun x y h=>Zt J Wh y ?_
   refine wO J 6 h fun z A h=>Zt J Wh A ?_
   refine wO J 2 h fun C D h=>ZT J rB D (Z9 J oB D ?_)
   refine wB J 1 h (fun h=>?_) fun h=>?_
   ·exact wO J 10 h fun G H h=>ZT J rB H (XW J [] oB true H (Zy (wa J 6 (Zj [] (ih24 ((ZW u x.To true),(Zi (v+1))) h)))))
   refine wO J 4 h fun R T h=>Zt J Wh T ?_
   refine wO J 2 h fun U X h=>ZT J rB X (Z9 J oB X ?_)
   exact wO J 1 h fun Y Z h=>ZT J rB Z (XW J [] oB U Z (Zy (wa J 6 (Zj [] (ih24 ((ZW u x.To U),(Zi (v+1))) h)))))
  exact Zj [] (ih N (q,0) h)
 exact Zj [] (ih N ((ZW x1 g_.Start true),0) h)
theorem Zl5 (N:Nat) (g_:T5) (r:Bool) (h:D8 N g_=some r) :
 Fn Tryz.prog 62 ⟨4,[.a (Yr 0 1 2 3 g_)],(Yx 0 1 2 3 g_ []),[],4,.O r,[],[]⟩:=by
 refine Zv func62 rfl (fun E F w=>?_)
 unfold D8 at h
 refine wa J 10 (Zz (σ:=Unit) (fun st=>(MA g_ [])) (fun st=>G3=some r) ?_ (fun j1=>?_))
 ·intro _ h
  replace h:G3=some r:=h
  unfold G3 at h
  cases h
  exact wr J 4 func62 []
 refine wa J 1 (ZH (σ:=Int) (fun st=>(Tp g_ [(1,.B 4 0),(3,.I st)])) (fun n st=>Te N g_ n st) (r:=r) (fun _=>rfl) ?_ (fun ih=>?_))
 ·intro n2 ih3
  intro c h
  replace h:Te N g_ (n2+1) c=some r:=h
  unfold Te at h
  refine Zp J 9 h (fun h=>wa J 2 (Zj [] (j1 () h))) fun h=>?_
  refine wO J 9 h fun d e h=>Zt J RZ e ?_
  refine wO J 9 h fun f g h=>Zo (BK N g_ d.State _ g) [] [(0,.sl 0),(1,.sl 1),(2,.sl 2),(3,.sl 3)] ?_
  refine wB J 2 h (fun h=>wa J 59 (Zy ?_)) fun h=>?_
  ·cases h
   exact wr J 5 func62 []
  refine Zp J 3 h (fun h=>?_) fun h=>?_
  ·refine wB J 18 h (fun h=>wa J 38 (Zy ?_)) fun h=>?_
   ·cases h
    exact wr J 5 func62 []
   refine wB J 5 h (fun h=>wa J 33 (Zy ?_)) fun h=>?_
   ·cases h
    exact wr J 5 func62 []
   refine wB J 5 h (fun h=>wa J 28 (Zy ?_)) fun h=>?_
   ·cases h
    exact wr J 5 func62 []
   refine wB J 8 h (fun h=>wa J 20 (Zy ?_)) fun h=>?_
   ·cases h
    exact wr J 5 func62 []
   refine wO J 4 h fun i j h=>Zt J Wh j ?_
   refine wB J 7 h (fun h=>wa J 8 (Zy ?_)) fun h=>?_
   ·cases h
    exact wr J 5 func62 []
   refine wO J 4 h fun k l h=>Zt J Wh l (wa J 3 (Zy ?_))
   refine eB h (fun h=>?_) fun h=>wa J 8 (Zj [] (ih3 (Zi (c+1)) h))
   cases h
   exact wr J 5 func62 []
  refine wO J 6 h fun m o h=>Zt J RZ o ?_
  refine wB J 6 h (fun h=>wa J 43 (Zy ?_)) fun h=>?_
  ·cases h
   exact wr J 5 func62 []
  refine wB J 5 h (fun h=>wa J 38 (Zy ?_)) fun h=>?_
  ·cases h
   exact wr J 5 func62 []
  refine wB J 5 h (fun h=>wa J 33 (Zy ?_)) fun h=>?_
  ·cases h
   exact wr J 5 func62 []
  refine wB J 5 h (fun h=>wa J 28 (Zy ?_)) fun h=>?_
  ·cases h
   exact wr J 5 func62 []
  refine wB J 8 h (fun h=>wa J 20 (Zy ?_)) fun h=>?_
  ·cases h
   exact wr J 5 func62 []
  refine wO J 4 h fun p q h=>Zt J Wh q ?_
  refine wB J 7 h (fun h=>wa J 8 (Zy ?_)) fun h=>?_
  ·cases h
   exact wr J 5 func62 []
  refine wO J 4 h fun s t h=>Zt J Wh t (wa J 3 (Zy ?_))
  refine eB h (fun h=>?_) fun h=>wa J 8 (Zj [] (ih3 (Zi (c+1)) h))
  cases h
  exact wr J 5 func62 []
 exact Zj [] (ih N 0 h)
theorem Zqh (N:Nat) (g_:T5) (r:Bool) (h:Ls N g_=some r) :
 Fn Tryz.prog 30 ⟨4,[.a (Yr 0 1 2 3 g_)],(Yx 0 1 2 3 g_ []),[],4,.O r,[],[]⟩:=by
 refine Zv func30 rfl (fun E F w=>?_)
 unfold Ls at h
 refine wO J 8 h fun x1 c h=>Zo (Zn8 N g_ _ c) [] [(0,.sl 0),(1,.sl 1),(2,.sl 2),(3,.sl 3)] ?_
 refine Zp J 1 h (fun h=>?_) fun h=>?_
 ·cases h
  exact wr J 17 func30 []
 refine wO J 1 h fun x2 d h=>Zo (Zmb N g_ _ d) [] [(0,.sl 0),(1,.sl 1),(2,.sl 2),(3,.sl 3)] ?_
 refine Zp J 2 h (fun h=>?_) fun h=>?_
 ·cases h
  exact wr J 13 func30 []
 refine wO J 1 h fun x3 e h=>Zo (ZpT N g_ _ e) [] [(0,.sl 0),(1,.sl 1),(2,.sl 2),(3,.sl 3)] ?_
 refine Zp J 2 h (fun h=>?_) fun h=>?_
 ·cases h
  exact wr J 9 func30 []
 refine wO J 1 h fun x4 f h=>Zo (Zpv N g_ _ f) [] [(0,.sl 0),(1,.sl 1),(2,.sl 2),(3,.sl 3)] ?_
 refine Zp J 2 h (fun h=>?_) fun h=>?_
 ·cases h
  exact wr J 5 func30 []
 refine wO J 1 h fun x5 g h=>Zo (Zl5 N g_ _ g) [] [(0,.sl 0),(1,.sl 1),(2,.sl 2),(3,.sl 3)] ?_
 cases h
 exact wr J 3 func30 []
end Gx
end
