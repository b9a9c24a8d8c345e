/- Each function of the statement computes what its plain definition says, part 1. -/
import Derived.Test.YtdlhgdfjpilcjaaGreatDoorExplainWhyBase
import Derived.Test.YtdlhgdfjpilcjaaGreatDoorExplainWhyLib
set_option linter.all false
section
set_option maxRecDepth 10000
set_option maxHeartbeats 4000000
open Go Go.Kx Go.Proofs Tryz
namespace Gx
theorem ZiO (N:Nat) (c_:Int) (r:Bool) (h:PN N c_=some r) :
 Fn Tryz.prog 262 ⟨0,[.c (.i .u8 c_)],[],[],0,.O r,[],[]⟩:=by
 refine Zs func262 rfl (fun E F w=>?_)
 unfold PN at h
 refine Zo J 9 h (fun h=>?_) fun h=>?_
 ·refine wB J 7 h (fun h=>?_) fun h=>?_
  ·cases h
   exact wr J 6 func262 []
  cases h
  exact wr J 6 func262 []
 refine wB J 4 h (fun h=>?_) fun h=>?_
 ·cases h
  exact wr J 9 func262 []
 refine wB J 3 h (fun h=>?_) fun h=>?_
 ·cases h
  exact wr J 6 func262 []
 cases h
 exact wr J 6 func262 []
theorem Zsz (N:Nat) (c_:Int) (r:Bool) (h:BS N c_=some r) :
 Fn Tryz.prog 284 ⟨0,[.c (.i .u8 c_)],[],[],0,.O r,[],[]⟩:=by
 refine Zs func284 rfl (fun E F w=>?_)
 unfold BS at h
 refine wB J 9 h (fun h=>?_) fun h=>?_
 ·cases h
  exact wr J 5 func284 []
 cases h
 exact wr J 5 func284 []
theorem Zph (N:Nat) (c_:Int) (r:Bool) (h:Gl N c_=some r) :
 Fn Tryz.prog 263 ⟨0,[.c (.i .u8 c_)],[],[],0,.O r,[],[]⟩:=by
 refine Zs func263 rfl (fun E F w=>?_)
 unfold Gl at h
 refine wO J 7 h fun x1 d h=>Zn (ZiO N c_ _ d) [] [] ?_
 refine wB J 1 h (fun h=>?_) fun h=>?_
 ·cases h
  exact wr J 9 func263 []
 refine wO J 1 h fun x2 e h=>Zn (Zsz N c_ _ e) [] [] ?_
 refine wB J 2 h (fun h=>?_) fun h=>?_
 ·cases h
  exact wr J 5 func263 []
 cases h
 exact wr J 5 func263 []
theorem ZqV (N:Nat) (s_:ByteArray) (r:Bool) (h:Dj N s_=some r) :
 Fn Tryz.prog 220 ⟨0,[.c (.s s_)],[],[],0,.O r,[],[]⟩:=by
 refine Zs func220 rfl (fun E F w=>?_)
 unfold Dj at h
 refine wB J 10 h (fun h=>?_) fun h=>?_
 ·cases h
  exact wr J 16 func220 []
 refine wB J 5 h (fun h=>?_) fun h=>?_
 ·cases h
  exact wr J 11 func220 []
 refine wO J 1 h fun x1 d h=>XW J d ?_
 obtain ⟨x2,e,h⟩:=ob h
 refine Zn (ZiO N x1 _ e) [] [] ?_
 refine wB J 3 h (fun h=>?_) fun h=>wa J 9 (ZB (σ:=Unit) (fun st=>(VO [])) (fun st=>L5=some r) ?_ (fun j1=>?_))
 ·cases h
  exact wr J 5 func220 []
 ·intro _ h
  replace h:L5=some r:=h
  unfold L5 at h
  cases h
  exact wr J 4 func220 []
 refine wa J 1 (ZF (σ:=Int) (fun st=>(VO [(0,.c (.s s_)),(18,.I (s_.size:Int)),(19,.I st)])) (fun n st=>Uu N s_ n st) (r:=r) (fun _=>rfl) ?_ (fun ih=>?_))
 ·intro n2 ih3
  intro f h
  replace h:Uu N s_ (n2+1) f=some r:=h
  unfold Uu at h
  refine Zo J 5 h (fun h=>wa J 2 (Zj [] (j1 () h))) fun h=>?_
  refine wO J 13 h fun g i h=>XW J i ?_
  obtain ⟨j,k,h⟩:=ob h
  refine Zn (Zph N g _ k) [] [] ?_
  refine wB J 2 h (fun h=>?_) fun h=>wa J 7 (Zj [] (ih3 (Zi (f+1)) h))
  cases h
  exact wr J 5 func220 []
 exact Zj [] (ih N 0 h)
theorem Zp3 (N:Nat) (s_:(List ByteArray)) (v_:ByteArray) (r:Int) (h:HP N s_ v_=some r) :
 Fn Tryz.prog 264 ⟨1,[.S 0,.c (.s v_)],[(0,.sl rS s_)],[],1,.I r,[],[]⟩:=by
 refine Zs func264 rfl (fun E F w=>?_)
 unfold HP at h
 refine wa J 11 (ZB (σ:=Unit) (fun st=>(RD s_ [])) (fun st=>DW=some r) ?_ (fun j1=>?_))
 ·intro _ h
  replace h:DW=some r:=h
  unfold DW at h
  cases h
  exact wr J 4 func264 []
 refine wa J 1 (ZF (σ:=Int) (fun st=>(RD s_ [(0,.S 0),(1,.c (.s v_)),(7,.I (s_.length:Int)),(8,.I st)])) (fun n st=>S5 s_ v_ n st) (r:=r) (fun _=>rfl) ?_ (fun ih=>?_))
 ·intro n2 ih3
  intro d h
  replace h:S5 s_ v_ (n2+1) d=some r:=h
  unfold S5 at h
  refine Zo J 5 h (fun h=>wa J 2 (Zj [] (j1 () h))) fun h=>?_
  refine wO J 14 h fun x9 e h=>Zq J oS e ?_
  refine wB J 3 h (fun h=>?_) fun h=>wa J 7 (Zj [] (ih3 (Zi (d+1)) h))
  cases h
  exact wr J 6 func264 []
 exact Zj [] (ih N 0 h)
theorem ZfP (N:Nat) (s_:(List ByteArray)) (v_:ByteArray) (r:Bool) (h:MY N s_ v_=some r) :
 Fn Tryz.prog 221 ⟨1,[.S 0,.c (.s v_)],[(0,.sl rS s_)],[],1,.O r,[],[]⟩:=by
 refine Zs func221 rfl (fun E F w=>?_)
 unfold MY at h
 refine wO J 8 h fun x1 d h=>Zn (Zp3 N s_ v_ _ d) [] [(0,.sl 0)] ?_
 cases h
 exact wr J 3 func221 []
theorem Zai (N:Nat) (s_:ByteArray) (r:Bool) (h:z146 N s_=some r) :
 Fn Tryz.prog 146 ⟨0,[.c (.s s_)],[],[],0,.O r,[],[]⟩:=by
 refine Zs func146 rfl (fun E F w=>?_)
 unfold z146 at h
 refine wO J 13 h fun x1 d h=>Zn (ZqV N s_ _ d) [] [] ?_
 refine Zo J 1 h (fun h=>?_) fun h=>eSb [] oS ([(str [97,103,97,105,110]),(str [97,110,100]),(str [97,115]),(str [97,116]),(str [99,97,108,108]),(str [99,104,111,105,99,101]),(str [101,108,115,101]),(str [102,114,111,109]),(str [105,102]),(str [105,110,116]),(str [108,101,110]),(str [108,111,111,112]),(str [109,101,115,115,97,103,101]),(str [111,102]),(str [111,102,102,101,114]),(str [111,110]),(str [111,114]),(str [112,97,114]),(str [112,108,97,121,115]),(str [112,114,111,116,111,99,111,108]),(str [115,101,114,118,105,99,101]),(str [116,101,120,116]),(str [116,105,109,101,115]),(str [116,111]),(str [118,97,114]),(str [119,104,101,114,101]),(str [119,104,105,108,101]),(str [119,105,116,104,105,110])]:List ByteArray) ?_
 ·cases h
  exact wr J 7 func146 []
 refine wO J 1 h fun x2 e h=>Xe (ZfP N ([(str [97,103,97,105,110]),(str [97,110,100]),(str [97,115]),(str [97,116]),(str [99,97,108,108]),(str [99,104,111,105,99,101]),(str [101,108,115,101]),(str [102,114,111,109]),(str [105,102]),(str [105,110,116]),(str [108,101,110]),(str [108,111,111,112]),(str [109,101,115,115,97,103,101]),(str [111,102]),(str [111,102,102,101,114]),(str [111,110]),(str [111,114]),(str [112,97,114]),(str [112,108,97,121,115]),(str [112,114,111,116,111,99,111,108]),(str [115,101,114,118,105,99,101]),(str [116,101,120,116]),(str [116,105,109,101,115]),(str [116,111]),(str [118,97,114]),(str [119,104,101,114,101]),(str [119,104,105,108,101]),(str [119,105,116,104,105,110])]:List ByteArray) s_ _ e) [] [(0,.sl 1)] [1] (.inr ⟨rfl,trivial⟩) ?_
 cases h
 exact wr J 4 func146 []
theorem Zqy (N:Nat) (g_:T5) (r:Bool) (h:DT N g_=some r) :
 Fn Tryz.prog 208 ⟨4,[.a (ZT 0 1 2 3 g_)],(Yh 0 1 2 3 g_ []),[],4,.O r,[],[]⟩:=by
 refine Zs func208 rfl (fun E F w=>?_)
 unfold DT at h
 refine wO J 10 h fun x1 c h=>Zn (Zai N g_.Name _ c) [] [] ?_
 refine wB J 2 h (fun h=>?_) fun h=>?_
 ·cases h
  exact wr J 17 func208 []
 refine wB J 6 h (fun h=>?_) fun h=>?_
 ·cases h
  exact wr J 11 func208 []
 refine wB J 6 h (fun h=>?_) fun h=>wa J 10 (ZB (σ:=Unit) (fun st=>(MX g_ [])) (fun st=>DE=some r) ?_ (fun j1=>?_))
 ·cases h
  exact wr J 5 func208 []
 ·intro _ h
  replace h:DE=some r:=h
  unfold DE at h
  cases h
  exact wr J 4 func208 []
 refine wa J 1 (ZF (σ:=Int) (fun st=>(Ty g_ [(1,.B 4 0),(22,.S 0),(23,.I (g_.Roles.length:Int)),(24,.I st)])) (fun n st=>SX N g_ n st) (r:=r) (fun _=>rfl) ?_ (fun ih=>?_))
 ·intro n2 ih3
  intro d h
  replace h:SX N g_ (n2+1) d=some r:=h
  unfold SX at h
  refine Zo J 5 h (fun h=>wa J 2 (Zj [] (j1 () h))) fun h=>?_
  refine wO J 7 h fun e f h=>Zq J oS f ?_
  refine wO J 7 h fun g i h=>Zn (Zai N e _ i) [] [] ?_
  refine wB J 2 h (fun h=>?_) fun h=>?_
  ·cases h
   exact wr J 13 func208 []
  refine wO J 3 h fun j k h=>Gz J rS k ?_
  refine wO J 1 h fun l m h=>Zn (ZfP N j e _ m) [] [(0,.sl 6)] ?_
  refine wB J 2 h (fun h=>?_) fun h=>wa J 7 (Zj [] (ih3 (Zi (d+1)) h))
  cases h
  exact wr J 5 func208 []
 exact Zj [] (ih N 0 h)
theorem Zqu (N:Nat) (g_:T5) (r:Bool) (h:G8 N g_=some r) :
 Fn Tryz.prog 209 ⟨4,[.a (ZT 0 1 2 3 g_)],(Yh 0 1 2 3 g_ []),[],4,.O r,[],[]⟩:=by
 refine Zs func209 rfl (fun E F w=>?_)
 unfold G8 at h
 refine wB J 12 h (fun h=>?_) fun h=>?_
 ·cases h
  exact wr J 34 func209 []
 refine wB J 5 h (fun h=>?_) fun h=>?_
 ·cases h
  exact wr J 29 func209 []
 refine wB J 8 h (fun h=>?_) fun h=>?_
 ·cases h
  exact wr J 21 func209 []
 refine wB J 10 h (fun h=>?_) fun h=>?_
 ·cases h
  exact wr J 11 func209 []
 refine wB J 6 h (fun h=>?_) fun h=>wa J 10 (ZB (σ:=Unit) (fun st=>(MX g_ [])) (fun st=>H5=some r) ?_ (fun j1=>?_))
 ·cases h
  exact wr J 5 func209 []
 ·intro _ h
  replace h:H5=some r:=h
  unfold H5 at h
  cases h
  exact wr J 4 func209 []
 refine wa J 1 (ZF (σ:=Int) (fun st=>(Ty g_ [(1,.B 4 0),(39,.S 2),(40,.I (g_.Edges.length:Int)),(41,.I st)])) (fun n st=>Qs g_ n st) (r:=r) (fun _=>rfl) ?_ (fun ih=>?_))
 ·intro n2 ih3
  intro c h
  replace h:Qs g_ (n2+1) c=some r:=h
  unfold Qs at h
  refine Zo J 5 h (fun h=>wa J 2 (Zj [] (j1 () h))) fun h=>?_
  refine wO J 6 h fun x9 d h=>Zq J XX d ?_
  refine wB J 26 h (fun h=>?_) fun h=>?_
  ·cases h
   exact wr J 41 func209 []
  refine wB J 10 h (fun h=>?_) fun h=>?_
  ·cases h
   exact wr J 31 func209 []
  refine wB J 11 h (fun h=>?_) fun h=>?_
  ·cases h
   exact wr J 20 func209 []
  refine wB J 7 h (fun h=>?_) fun h=>?_
  ·cases h
   exact wr J 13 func209 []
  refine wB J 8 h (fun h=>?_) fun h=>wa J 7 (Zj [] (ih3 (Zi (c+1)) h))
  cases h
  exact wr J 5 func209 []
 exact Zj [] (ih N 0 h)
theorem Zig (N:Nat) (l_:(List T0)) (r:(List T4)) (h:Lw N l_=some r) :
 Fn Tryz.prog 142 ⟨1,[.S 0],[(0,.sl ZL l_)],[],2,.S 1,[],[(1,.own YM r true)]⟩:=by
 refine Zs func142 rfl (fun E F w=>?_)
 unfold Lw at h
 refine wa J 15 (ZB (σ:=(List T4)) (fun st=>(Zd1 st l_ [(3,.S 1)])) (fun st=>LK st=some r) ?_ (fun j1=>?_))
 ·intro c h
  replace h:LK c=some r:=h
  unfold LK at h
  cases h
  exact wr J 5 func142 [(1,.sl 1)]
 refine wa J 1 (ZF (σ:=(List T4) × Int) (fun st=>(Zd1 st.1 l_ [(3,.S 1),(6,.S 0),(7,.I (l_.length:Int)),(8,.I st.2)])) (fun n st=>R6 l_ n st.1 st.2) (r:=r) (fun _=>rfl) ?_ (fun ih=>?_))
 ·intro n2 ih3
  rintro ⟨d,e⟩ h
  replace h:R6 l_ (n2+1) d e=some r:=h
  unfold R6 at h
  refine Zo J 5 h (fun h=>wa J 2 (Zj [] (j1 d h))) fun h=>?_
  refine wO J 6 h fun f g h=>Zq J Yg g ?_
  exact wO J 8 h fun i j h=>Yr J YM j (wa J 7 (Zj [(1,.sl 7)] (ih3 (i,(Zi (e+1))) h)))
 exact Zj [(1,.nil)] (ih N (([]:List T4),0) h)
theorem Zij (N:Nat) (s_:ByteArray) (r:Int) (h:Zbw N s_=some r) :
 Fn Tryz.prog 297 ⟨0,[.c (.s s_)],[],[],0,.I r,[],[]⟩:=by
 refine Zs func297 rfl (fun E F w=>?_)
 unfold Zbw at h
 refine wa J 8 (eRn J (fun bk1=>wa J 1 (ZB (σ:=Int × Nat) (fun st=>(Mq (WE bk1 s_ st.2) [(2,.I st.1)])) (fun st=>Bf st.1 st.2=some r) ?_ (fun j1=>?_))))
 ·rintro ⟨d,vi0_1⟩ h
  replace h:Bf d vi0_1=some r:=h
  unfold Bf at h
  cases h
  exact wr J 5 func297 []
 refine wa J 1 (ZF (σ:=Int × Nat) (fun st=>(Mq (WE bk1 s_ st.2) [(2,.I st.1),(4,.c (.v (.pointer (some ⟨bk1,0,none⟩))))])) (fun n st=>DG s_ n st.1 st.2) (r:=r) (fun _=>rfl) ?_ (fun ih=>?_))
 ·intro n2 ih3
  rintro ⟨e,vi0_3⟩ h
  replace h:DG s_ (n2+1) e vi0_3=some r:=h
  unfold DG at h
  obtain ⟨K,h⟩|⟨K,h⟩:=oc h
  ·exact wa J 2 (eNt bk1 0 K (wa J 12 (Zj [] (ih3 ((Zi (e+1)),(vi0_3+(Utf8.decode s_ vi0_3).2)) h))))
  exact wa J 2 (eNf bk1 0 K (wa J 5 (Zj [] (j1 (e,vi0_3) h))))
 exact Zj [] (ih N (0,(0:Nat)) h)
theorem Zj2 (N:Nat) (s_:ByteArray) (r:Int × Int) (h:ZcF N s_=some r) :
 Fn Tryz.prog 306 ⟨0,[.c (.s s_)],[],[],0,.t [.inl (.i .i32 r.1),.inl (.I r.2)],[],[]⟩:=by
 refine Zs func306 rfl (fun E F w=>?_)
 unfold ZcF at h
 refine wB J 17 h (fun h=>?_) fun h=>?_
 ·cases h
  exact wr J 6 func306 []
 refine wO J 5 h fun x1 d h=>XW J d ?_
 cases h
theorem ZkD (N:Nat) (s_:ByteArray) (r:Int × Int) (h:ZcM N s_=some r) :
 Fn Tryz.prog 298 ⟨0,[.c (.s s_)],[],[],0,.t [.inl (.i .i32 r.1),.inl (.I r.2)],[],[]⟩:=by
 refine Zs func298 rfl (fun E F w=>?_)
 unfold ZcM at h
 refine Zo J 11 h (fun h=>?_) fun h=>?_
 ·refine wO J 8 h fun x4 d h=>Zn (Zj2 N s_ _ d) [] [] ?_
  cases h
  exact wr J 6 func298 []
 refine wO J 1 h fun x1 e h=>XW J e ?_
 refine wB J 3 h (fun h=>?_) fun h=>?_
 ·refine wO J 4 h fun x2 f h=>XW J f ?_
  cases h
  exact wr J 4 func298 []
 refine wO J 3 h fun x3 g h=>Zn (Zj2 N s_ _ g) [] [] ?_
 cases h
 exact wr J 6 func298 []
theorem ZpP (N:Nat) (s_:ByteArray) (n_:Int) (r:(List ByteArray)) (h:ZeN N s_ n_=some r) :
 Fn Tryz.prog 281 ⟨0,[.c (.s s_),.I n_],[],[],1,.S 0,[],[(0,.own rS r true)]⟩:=by
 refine Zs func281 rfl (fun E F w=>?_)
 unfold ZeN at h
 refine wO J 7 h fun x1 d h=>Zn (Zij N s_ _ d) [] [] ?_
 refine wa J 8 (ZB (σ:=Bool) (fun st=>(VO [(0,.c (.s s_)),(1,.I n_),(5,.I x1),(18,.O st)])) (fun st=>Gw N s_ n_ x1 st=some r) ?_ (fun j1=>?_))
 ·intro e h
  replace h:Gw N s_ n_ x1 e=some r:=h
  unfold Gw at h
  refine ZB (σ:=Int) (fun st=>(VO [(0,.c (.s s_)),(1,.I st)])) (fun st=>HQ N s_ st=some r) ?_ (fun j2=>?_)
  ·intro f h
   replace h:HQ N s_ f=some r:=h
   unfold HQ at h
   refine wO J 3 h fun x2 g h=>Ue J oS g (wa J 7 (ZB (σ:=ByteArray × (List ByteArray)) (fun st=>(Zch st.2 [(0,.c (.s st.1)),(1,.I f),(6,.S 0)])) (fun st=>Bs f st.1 st.2=some r) ?_ (fun j3=>?_)))
   ·rintro ⟨i,j⟩ h
    replace h:Bs f i j=some r:=h
    unfold Bs at h
    refine Zo J 6 h (fun h=>?_) fun h=>?_
    ·cases h
     exact wr J 7 func281 [(0,.sl 0)]
    refine wO J 6 h fun k l h=>Z9 J rS l (Xj J [] oS i l ?_)
    cases h
    exact wr J 6 func281 [(0,.sl 0)]
   refine wa J 1 (ZF (σ:=ByteArray × (List ByteArray) × Int) (fun st=>(Zch st.2.1 [(0,.c (.s st.1)),(1,.I f),(6,.S 0),(7,.I st.2.2)])) (fun n st=>L8 N f n st.1 st.2.1 st.2.2) (r:=r) (fun _=>rfl) ?_ (fun ih=>?_))
   ·intro n2 ih5
    rintro ⟨m,o,p⟩ h
    replace h:L8 N f (n2+1) m o p=some r:=h
    unfold L8 at h
    refine Zo J 8 h (fun h=>wa J 2 (Zj [] (j3 (m,o) h))) fun h=>?_
    refine wO J 7 h fun q t h=>Zn (ZkD N m _ t) [] [] ?_
    refine wO J 12 h fun u v h=>Rm J v ?_
    obtain ⟨x,y,h⟩:=ob h
    refine Z9 J rS y (Xj J [] oS u y ?_)
    exact wO J 4 h fun z A h=>Rm J A (wa J 8 (Zj [] (ih5 (z,(ZW o p u),(Zi (p+1))) h)))
   exact Zj [] (ih N (s_,x2,0) h)
  exact eB h (fun h=>wa J 5 (Zj [] (j2 x1 h))) fun h=>wa J 2 (Zj [] (j2 n_ h))
 exact eB h (fun h=>wa J 5 (Zj [] (j1 true h))) fun h=>wa J 5 (Zj [] (j1 (decide (n_ > x1)) h))
theorem Zo3 (N:Nat) (s_:ByteArray) (c_:Int) (r:Int) (h:ZcB N s_ c_=some r) :
 Fn Tryz.prog 307 ⟨0,[.c (.s s_),.c (.i .u8 c_)],[],[],0,.I r,[],[]⟩:=by
 refine Zs func307 rfl (fun E F w=>?_)
 unfold ZcB at h
 refine wa J 8 (eEx (Zqw func312 (by kernel_rfl) (by kernel_rfl) (by kernel_rfl) (by kernel_rfl) s_ c_) (fun _=>trivial) ?_)
 cases h
 exact wr J 2 func307 []
theorem ZkW (N:Nat) (s_:ByteArray) (substr_:ByteArray) (r:Int) (h:Zco N s_ substr_=some r) :
 Fn Tryz.prog 300 ⟨0,[.c (.s s_),.c (.s substr_)],[],[],0,.I r,[],[]⟩:=by
 refine Zs func300 rfl (fun E F w=>?_)
 unfold Zco at h
 refine wB J 17 h (fun h=>?_) fun h=>?_
 ·cases h
  exact wr J 11 func300 []
 refine wB J 6 h (fun h=>?_) fun h=>?_
 ·cases h
  exact wr J 5 func300 []
 refine wB J 7 h (fun h=>?_) fun h=>?_
 ·refine wO J 5 h fun x1 d h=>XW J d ?_
  obtain ⟨x2,e,h⟩:=ob h
  refine Zn (Zo3 N s_ x1 _ e) [] [] ?_
  cases h
  exact wr J 2 func300 []
 refine wB J 9 h (fun h=>?_) fun h=>?_
 ·cases h
  exact wr J 5 func300 []
 cases h
theorem ZiF (N:Nat) (s_:ByteArray) (substr_:ByteArray) (r:Int) (h:Ml N s_ substr_=some r) :
 Fn Tryz.prog 283 ⟨0,[.c (.s s_),.c (.s substr_)],[],[],0,.I r,[],[]⟩:=by
 refine Zs func283 rfl (fun E F w=>?_)
 unfold Ml at h
 refine wO J 8 h fun x1 d h=>Zn (ZkW N s_ substr_ _ d) [] [] ?_
 cases h
 exact wr J 2 func283 []
theorem Zqs (N:Nat) (s_:ByteArray) (substr_:ByteArray) (r:Int) (h:LQ N s_ substr_=some r) :
 Fn Tryz.prog 282 ⟨0,[.c (.s s_),.c (.s substr_)],[],[],0,.I r,[],[]⟩:=by
 refine Zs func282 rfl (fun E F w=>?_)
 unfold LQ at h
 refine wB J 11 h (fun h=>?_) fun h=>?_
 ·refine wO J 4 h fun x1 d h=>Zn (Zij N s_ _ d) [] [] ?_
  cases h
  exact wr J 3 func282 []
 refine wB J 9 h (fun h=>?_) fun h=>wa J 7 (ZF (σ:=ByteArray × Int) (fun st=>(VO [(0,.c (.s st.1)),(1,.c (.s substr_)),(5,.I st.2)])) (fun n st=>LG N substr_ n st.1 st.2) (r:=r) (fun _=>rfl) ?_ (fun ih=>?_))
 ·refine wO J 5 h fun x2 e h=>XW J e (eEx (Zot func299 (by kernel_rfl) (by kernel_rfl) (by kernel_rfl) (by kernel_rfl) s_ x2) (fun _=>trivial) ?_)
  cases h
  exact wr J 2 func282 []
 ·intro n1 ih1
  rintro ⟨f,g⟩ h
  replace h:LG N substr_ (n1+1) f g=some r:=h
  unfold LG at h
  refine wO J 5 h fun i j h=>Zn (ZiF N f substr_ _ j) [] [] ?_
  refine wB J 8 h (fun h=>?_) fun h=>?_
  ·cases h
   exact wr J 6 func282 []
  exact wO J 14 h fun k l h=>Rm J l (wa J 3 (Zj [] (ih1 (k,(Zi (g+1))) h)))
 exact Zj [] (ih N (s_,0) h)
theorem Zna (N:Nat) (s_:ByteArray) (sep_:ByteArray) (sepSave_:Int) (n_:Int) (r:(List ByteArray)) (h:Zb9 N s_ sep_ sepSave_ n_=some r) :
 Fn Tryz.prog 261 ⟨0,[.c (.s s_),.c (.s sep_),.I sepSave_,.I n_],[],[],1,.S 0,[],[(0,.own rS r true)]⟩:=by
 refine Zs func261 rfl (fun E F w=>?_)
 unfold Zb9 at h
 refine wB J 10 h (fun h=>?_) fun h=>?_
 ·cases h
  exact wr J 5 func261 [(0,.nil)]
 refine wB J 8 h (fun h=>?_) fun h=>wa J 8 (ZB (σ:=Int) (fun st=>(VO [(0,.c (.s s_)),(1,.c (.s sep_)),(2,.I sepSave_),(3,.I st)])) (fun st=>MH N s_ sep_ sepSave_ st=some r) ?_ (fun j1=>?_))
 ·refine wO J 5 h fun x1 d h=>Zn (ZpP N s_ n_ _ d) [] [] ?_
  cases h
  exact wr J 2 func261 [(0,.sl 0)]
 ·intro e h
  replace h:MH N s_ sep_ sepSave_ e=some r:=h
  unfold MH at h
  refine wO J 12 h fun x3 f h=>Ue J oS f (wa J 13 (ZB (σ:=ByteArray × (List ByteArray) × Int) (fun st=>(Zch st.2.1 [(0,.c (.s st.1)),(9,.S 0),(10,.I st.2.2)])) (fun st=>Qu st.1 st.2.1 st.2.2=some r) ?_ (fun j2=>?_)))
  ·rintro ⟨g,i,j⟩ h
   replace h:Qu g i j=some r:=h
   unfold Qu at h
   refine wO J 5 h fun k l h=>Z9 J rS l (Xj J [] oS g l ?_)
   refine wO J 6 h fun m o h=>UQ J rS o (wa J 2 (eSl rS 2 o ?_))
   cases h
   exact Z4 J func261 [(0,.sl 2)]
  refine wa J 1 (ZF (σ:=ByteArray × (List ByteArray) × Int) (fun st=>(Zch st.2.1 [(0,.c (.s st.1)),(1,.c (.s sep_)),(2,.I sepSave_),(3,.I (Zi ((YI e (Zi ((s_.size:Int)+1)))-1))),(9,.S 0),(10,.I st.2.2)])) (fun n st=>Sb N s_ sep_ sepSave_ e n st.1 st.2.1 st.2.2) (r:=r) (fun _=>rfl) ?_ (fun ih=>?_))
  ·intro n2 ih4
   rintro ⟨p,q,t⟩ h
   replace h:Sb N s_ sep_ sepSave_ e (n2+1) p q t=some r:=h
   unfold Sb at h
   refine Zo J 7 h (fun h=>wa J 2 (Zj [] (j2 (p,q,t) h))) fun h=>?_
   refine wO J 7 h fun u v h=>Zn (ZiF N p sep_ _ v) [] [] ?_
   refine wB J 8 h (fun h=>wa J 2 (Zj [] (j2 (p,q,t) h))) fun h=>?_
   refine wO J 10 h fun x y h=>Rm J y ?_
   obtain ⟨z,A,h⟩:=ob h
   refine Z9 J rS A (Xj J [] oS x A ?_)
   exact wO J 8 h fun C D h=>Rm J D (wa J 8 (Zj [] (ih4 (C,(ZW q t x),(Zi (t+1))) h)))
  exact Zj [] (ih N (s_,x3,0) h)
 refine VH h (fun h=>wa J 2 (Zj [] (j1 n_ h))) fun h=>?_
 exact wO J 4 h fun G H h=>Zn (Zqs N s_ sep_ _ H) [] [] (wa J 3 (Zj [] (j1 (Zi (G+1)) h)))
theorem Zq8 (N:Nat) (s_:ByteArray) (sep_:ByteArray) (r:(List ByteArray)) (h:H6 N s_ sep_=some r) :
 Fn Tryz.prog 217 ⟨0,[.c (.s s_),.c (.s sep_)],[],[],1,.S 0,[],[(0,.own rS r true)]⟩:=by
 refine Zs func217 rfl (fun E F w=>?_)
 unfold H6 at h
 refine wO J 8 h fun x1 d h=>Zn (Zna N s_ sep_ 0 (-1) _ d) [] [] ?_
 cases h
 exact wr J 2 func217 [(0,.sl 0)]
theorem ZpX (N:Nat) (w_:ByteArray) (r:Bool) (h:ZaW N w_=some r) :
 Fn Tryz.prog 218 ⟨0,[.c (.s w_)],[],[],0,.O r,[],[]⟩:=by
 refine Zs func218 rfl (fun E F w=>?_)
 unfold ZaW at h
 refine wO J 7 h fun x1 d h=>Zn (Zai N w_ _ d) [] [] ?_
 cases h
 exact wr J 3 func218 []
theorem Zkk (N:Nat) (s_:(List ByteArray)) (r:Int) (h:Za3 N s_=some r) :
 Fn Tryz.prog 260 ⟨1,[.S 0,.c (.cl 218 [] [])],[(0,.sl rS s_)],[],1,.I r,[],[]⟩:=by
 refine Zs func260 rfl (fun E F w=>?_)
 unfold Za3 at h
 refine wa J 11 (ZB (σ:=Unit) (fun st=>(RD s_ [])) (fun st=>DQ=some r) ?_ (fun j1=>?_))
 ·intro _ h
  replace h:DQ=some r:=h
  unfold DQ at h
  cases h
  exact wr J 4 func260 []
 refine wa J 1 (ZF (σ:=Int) (fun st=>(RD s_ [(0,.S 0),(1,.c (.cl 218 [] [])),(7,.I (s_.length:Int)),(8,.I st)])) (fun n st=>Qj N s_ n st) (r:=r) (fun _=>rfl) ?_ (fun ih=>?_))
 ·intro n2 ih3
  intro d h
  replace h:Qj N s_ (n2+1) d=some r:=h
  unfold Qj at h
  refine Zo J 5 h (fun h=>wa J 2 (Zj [] (j1 () h))) fun h=>?_
  refine wO J 14 h fun e f h=>Zq J oS f ?_
  refine wO J 1 h fun g i h=>Zn (ZpX N e _ i) [] [] ?_
  refine wB J 1 h (fun h=>?_) fun h=>wa J 7 (Zj [] (ih3 (Zi (d+1)) h))
  cases h
  exact wr J 6 func260 []
 exact Zj [] (ih N 0 h)
theorem ZnR (N:Nat) (s_:(List ByteArray)) (r:Bool) (h:Zcc N s_=some r) :
 Fn Tryz.prog 216 ⟨1,[.S 0,.c (.cl 218 [] [])],[(0,.sl rS s_)],[],1,.O r,[],[]⟩:=by
 refine Zs func216 rfl (fun E F w=>?_)
 unfold Zcc at h
 refine wO J 8 h fun x1 d h=>Zn (Zkk N s_ _ d) [] [(0,.sl 0)] ?_
 cases h
 exact wr J 3 func216 []
theorem ZnD (N:Nat) (s_:ByteArray) (r:Bool) (h:H9 N s_=some r) :
 Fn Tryz.prog 143 ⟨0,[.c (.s s_)],[],[],0,.O r,[],[]⟩:=by
 refine Zs func143 rfl (fun E F w=>?_)
 unfold H9 at h
 refine Zo J 10 h (fun h=>?_) fun h=>?_
 ·cases h
  exact wr J 7 func143 []
 refine wO J 1 h fun x1 d h=>Zn (Zq8 N s_ (str [46]) _ d) [] [] ?_
 obtain ⟨x2,e,h⟩:=ob h
 refine Xe (ZnR N x1 _ e) [] [(0,.sl 0)] [0] (.inr ⟨rfl,trivial⟩) ?_
 cases h
 exact wr J 4 func143 []
theorem Zrc (N:Nat) (x_:T0) (c0_:T0) (r:Bool) (h:BO N x_ c0_=some r) :
 Fn Tryz.prog 145 ⟨7,[.a (Yt 0 1 2 x_),.B 3 0],(Yn 0 1 2 x_ (Yn 4 5 6 c0_ [])),[(3,.box (Yt 4 5 6 c0_) 75)],7,.O r,[],[(3,.box (Yt 4 5 6 c0_) 75)]⟩:=by
 refine Zs func145 rfl (fun E F w=>?_)
 unfold BO at h
 cases h
 exact wr J 14 func145 []
theorem Zne (N:Nat) (s_:(List T0)) (c0_:T0) (r:Int) (h:ZbT N s_ c0_=some r) :
 Fn Tryz.prog 219 ⟨5,[.S 0,.c (.cl 145 [] [1])],((0,.sl ZL s_)::Yn 2 3 4 c0_ []),[(1,.box (Yt 2 3 4 c0_) 75)],5,.I r,[],[(1,.box (Yt 2 3 4 c0_) 75)]⟩:=by
 refine Zs func219 rfl (fun E F w=>?_)
 unfold ZbT at h
 refine wa J 11 (ZB (σ:=Unit) (fun st=>⟨[],[(1,.box (Yt 2 3 4 c0_) 75)],((0,.sl ZL s_)::Yn 2 3 4 c0_ []),5⟩) (fun st=>Hc=some r) ?_ (fun j1=>?_))
 ·intro _ h
  replace h:Hc=some r:=h
  unfold Hc at h
  cases h
  exact wr J 4 func219 []
 refine wa J 1 (ZF (σ:=Int) (fun st=>⟨[(0,.S 0),(1,.c (.cl 145 [] [1])),(7,.I (s_.length:Int)),(8,.I st)],[(1,.box (Yt 2 3 4 c0_) 75)],((0,.sl ZL s_)::Yn 2 3 4 c0_ []),5⟩) (fun n st=>SR N s_ c0_ n st) (r:=r) (fun _=>rfl) ?_ (fun ih=>?_))
 ·intro n2 ih3
  intro d h
  replace h:SR N s_ c0_ (n2+1) d=some r:=h
  unfold SR at h
  refine Zo J 5 h (fun h=>wa J 2 (Zj [] (j1 () h))) fun h=>?_
  refine wO J 14 h fun e f h=>Zq J Yg f ?_
  refine wO J 1 h fun g i h=>Zn (Zrc N e c0_ _ i) [] [(0,.sl 6),(1,.sl 7),(2,.sl 8),(3,.bp 1 0),(4,.sl 2),(5,.sl 3),(6,.sl 4)] ?_
  refine wB J 1 h (fun h=>?_) fun h=>wa J 7 (Zj [] (ih3 (Zi (d+1)) h))
  cases h
  exact wr J 6 func219 []
 exact Zj [] (ih N 0 h)
theorem Znb (N:Nat) (s_:(List T0)) (c0_:T0) (r:Bool) (h:Gu N s_ c0_=some r) :
 Fn Tryz.prog 144 ⟨5,[.S 0,.c (.cl 145 [] [1])],((0,.sl ZL s_)::Yn 2 3 4 c0_ []),[(1,.box (Yt 2 3 4 c0_) 75)],5,.O r,[],[(1,.box (Yt 2 3 4 c0_) 75)]⟩:=by
 refine Zs func144 rfl (fun E F w=>?_)
 unfold Gu at h
 refine wO J 8 h fun x1 d h=>Zn (Zne N s_ c0_ _ d) [] [(0,.sl 0),(1,.bp 1 0),(2,.sl 2),(3,.sl 3),(4,.sl 4)] ?_
 cases h
 exact wr J 3 func144 []
theorem Zkq (N:Nat) (s_:Yb) (r:Bool) (h:DK N s_=some r) :
 Fn Tryz.prog 147 ⟨0,[.a (UG s_)],[],[],0,.O r,[],[]⟩:=by
 refine Zs func147 rfl (fun E F w=>?_)
 unfold DK at h
 refine wB J 17 h (fun h=>?_) fun h=>?_
 ·refine Zo J 7 h (fun h=>?_) fun h=>?_
  ·cases h
   exact wr J 13 func147 []
  refine wB J 7 h (fun h=>?_) fun h=>?_
  ·cases h
   exact wr J 6 func147 []
  cases h
  exact wr J 6 func147 []
 refine Zo J 6 h (fun h=>?_) fun h=>?_
 ·cases h
  exact wr J 7 func147 []
 refine Zo J 7 h (fun h=>?_) fun h=>?_
 ·cases h
  exact wr J 13 func147 []
 refine wB J 7 h (fun h=>?_) fun h=>?_
 ·cases h
  exact wr J 6 func147 []
 cases h
 exact wr J 6 func147 []
theorem ZkU (N:Nat) (x_:T4) (c0_:T4) (r:Bool) (h:ZbR N x_ c0_=some r) :
 Fn Tryz.prog 149 ⟨1,[.a (WM x_),.B 0 0],[],[(0,.box (WM c0_) 68)],1,.O r,[],[(0,.box (WM c0_) 68)]⟩:=by
 refine Zs func149 rfl (fun E F w=>?_)
 unfold ZbR at h
 cases h
 exact wr J 14 func149 []
theorem Zrv (N:Nat) (s_:(List T4)) (c0_:T4) (r:Int) (h:ZbY N s_ c0_=some r) :
 Fn Tryz.prog 222 ⟨2,[.S 0,.c (.cl 149 [] [1])],[(0,.sl YM s_)],[(1,.box (WM c0_) 68)],2,.I r,[],[(1,.box (WM c0_) 68)]⟩:=by
 refine Zs func222 rfl (fun E F w=>?_)
 unfold ZbY at h
 refine wa J 11 (ZB (σ:=Unit) (fun st=>⟨[],[(1,.box (WM c0_) 68)],[(0,.sl YM s_)],2⟩) (fun st=>DO=some r) ?_ (fun j1=>?_))
 ·intro _ h
  replace h:DO=some r:=h
  unfold DO at h
  cases h
  exact wr J 4 func222 []
 refine wa J 1 (ZF (σ:=Int) (fun st=>⟨[(0,.S 0),(1,.c (.cl 149 [] [1])),(7,.I (s_.length:Int)),(8,.I st)],[(1,.box (WM c0_) 68)],[(0,.sl YM s_)],2⟩) (fun n st=>Qt N s_ c0_ n st) (r:=r) (fun _=>rfl) ?_ (fun ih=>?_))
 ·intro n2 ih3
  intro d h
  replace h:Qt N s_ c0_ (n2+1) d=some r:=h
  unfold Qt at h
  refine Zo J 5 h (fun h=>wa J 2 (Zj [] (j1 () h))) fun h=>?_
  refine wO J 14 h fun e f h=>Zq J Xq f ?_
  refine wO J 1 h fun g i h=>Zn (ZkU N e c0_ _ i) [] [(0,.bp 1 0)] ?_
  refine wB J 1 h (fun h=>?_) fun h=>wa J 7 (Zj [] (ih3 (Zi (d+1)) h))
  cases h
  exact wr J 6 func222 []
 exact Zj [] (ih N 0 h)
theorem ZlO (N:Nat) (s_:(List T4)) (c0_:T4) (r:Bool) (h:H7 N s_ c0_=some r) :
 Fn Tryz.prog 148 ⟨2,[.S 0,.c (.cl 149 [] [1])],[(0,.sl YM s_)],[(1,.box (WM c0_) 68)],2,.O r,[],[(1,.box (WM c0_) 68)]⟩:=by
 refine Zs func148 rfl (fun E F w=>?_)
 unfold H7 at h
 refine wO J 8 h fun x1 d h=>Zn (Zrv N s_ c0_ _ d) [] [(0,.sl 0),(1,.bp 1 0)] ?_
 cases h
 exact wr J 3 func148 []
theorem ZpL (N:Nat) (g_:T6) (all_:(List T4)) (r:Bool) (h:Gj N g_ all_=some r) :
 Fn Tryz.prog 150 ⟨3,[.a [.sl 0,.sl 1],.S 2],[(0,.sl YO g_.Diffs),(1,.sl (rP (rI .i64) (rI .i64)) g_.Equals),(2,.sl YM all_)],[],3,.O r,[],[]⟩:=by
 refine Zs func150 rfl (fun E F w=>?_)
 unfold Gj at h
 refine wB J 13 h (fun h=>?_) fun h=>?_
 ·cases h
  exact wr J 11 func150 []
 refine wB J 6 h (fun h=>?_) fun h=>wa J 10 (ZB (σ:=Unit) (fun st=>(ZfW g_.Diffs g_.Equals all_ [(1,.S 2),(2,.B 3 0)])) (fun st=>Mo N g_ all_=some r) ?_ (fun j1=>?_))
 ·cases h
  exact wr J 5 func150 []
 ·intro _ h
  replace h:Mo N g_ all_=some r:=h
  unfold Mo at h
  refine wa J 8 (ZB (σ:=Unit) (fun st=>⟨[],[],[(0,.sl YO g_.Diffs),(1,.sl (rP (rI .i64) (rI .i64)) g_.Equals),(2,.sl YM all_)],4⟩) (fun st=>DC=some r) ?_ (fun j3=>?_))
  ·intro _ h
   replace h:DC=some r:=h
   unfold DC at h
   cases h
   exact wr J 4 func150 []
  refine wa J 1 (ZF (σ:=Int) (fun st=>⟨[(1,.S 2),(56,.S 1),(57,.I (g_.Equals.length:Int)),(58,.I st)],[],[(0,.sl YO g_.Diffs),(1,.sl (rP (rI .i64) (rI .i64)) g_.Equals),(2,.sl YM all_)],4⟩) (fun n st=>Vj N g_ all_ n st) (r:=r) (fun _=>rfl) ?_ (fun ih=>?_))
  ·intro n13 ih14
   intro c h
   replace h:Vj N g_ all_ (n13+1) c=some r:=h
   unfold Vj at h
   refine Zo J 5 h (fun h=>wa J 2 (Zj [] (j3 () h))) fun h=>?_
   refine wO J 6 h fun d e h=>Zq J (oP (oI .i64) (oI .i64)) e (wa J 9 (ZB (σ:=Unit) (fun st=>⟨[(1,.S 2),(56,.S 1),(57,.I (g_.Equals.length:Int)),(58,.I c)],[],[(0,.sl YO g_.Diffs),(1,.sl (rP (rI .i64) (rI .i64)) g_.Equals),(2,.sl YM all_)],6⟩) (fun st=>P2 c (Vj N g_ all_ n13)=some r) ?_ (fun j21=>?_)))
   ·intro _ h
    replace h:P2 c (Vj N g_ all_ n13)=some r:=h
    unfold P2 at h
    exact wa J 5 (Zj [] (ih14 (Zi (c+1)) h))
   refine wa J 1 (ZF (σ:=Int) (fun st=>⟨[(1,.S 2),(56,.S 1),(57,.I (g_.Equals.length:Int)),(58,.I c),(62,.a [.I d.1,.I d.2]),(63,.I st)],[],[(0,.sl YO g_.Diffs),(1,.sl (rP (rI .i64) (rI .i64)) g_.Equals),(2,.sl YM all_)],6⟩) (fun n st=>QI all_ c (Vj N g_ all_ n13) d n st) (r:=r) (fun _=>rfl) ?_ (fun ih=>?_))
   ·intro n15 ih23
    intro f h
    replace h:QI all_ c (Vj N g_ all_ n13) d (n15+1) f=some r:=h
    unfold QI at h
    refine Zo J 5 h (fun h=>wa J 2 (Zj [] (j21 () h))) fun h=>?_
    refine wO J 6 h fun g j h=>eAx (SC.i .i64) ([d.1,d.2]:List Int) j ?_
    refine wB J 7 h (fun h=>?_) fun h=>?_
    ·cases h
     exact wr J 20 func150 []
    refine wB J 6 h (fun h=>?_) fun h=>?_
    ·cases h
     exact wr J 14 func150 []
    refine wO J 2 h fun k l h=>Zq J Xq l ?_
    refine wB J 6 h (fun h=>?_) fun h=>wa J 7 (Zj [] (ih23 (Zi (f+1)) h))
    cases h
    exact wr J 5 func150 []
   exact Zj [] (ih N 0 h)
  exact Zj [] (ih N 0 h)
 refine wa J 1 (ZF (σ:=Int) (fun st=>(ZfW g_.Diffs g_.Equals all_ [(1,.S 2),(2,.B 3 0),(22,.S 0),(23,.I (g_.Diffs.length:Int)),(24,.I st)])) (fun n st=>SO N g_ all_ n st) (r:=r) (fun _=>rfl) ?_ (fun ih=>?_))
 ·intro n16 ih24
  intro m h
  replace h:SO N g_ all_ (n16+1) m=some r:=h
  unfold SO at h
  refine Zo J 5 h (fun h=>wa J 2 (Zj [] (j1 () h))) fun h=>?_
  refine wO J 6 h fun o p h=>Zq J Ut p ?_
  refine wB J 13 h (fun h=>?_) fun h=>?_
  ·cases h
   exact wr J 25 func150 []
  refine wB J 10 h (fun h=>?_) fun h=>?_
  ·cases h
   exact wr J 15 func150 []
  refine wB J 5 h (fun h=>?_) fun h=>?_
  ·cases h
   exact wr J 10 func150 []
  refine wB J 5 h (fun h=>?_) fun h=>wa J 7 (Zj [] (ih24 (Zi (m+1)) h))
  cases h
  exact wr J 5 func150 []
 exact Zj [] (ih N 0 h)
theorem Zfh (N:Nat) (l_:(List T0)) (r:Bool) (h:Mf N l_=some r) :
 Fn Tryz.prog 71 ⟨1,[.S 0],[(0,.sl ZL l_)],[],1,.O r,[],[]⟩:=by
 refine Zs func71 rfl (fun E F w=>?_)
 unfold Mf at h
 refine wB J 11 h (fun h=>?_) fun h=>?_
 ·cases h
  exact wr J 5 func71 []
 refine wO J 5 h fun x1 c h=>Zn (Zig N l_ _ c) [] [(0,.sl 0)] ?_
 refine wB J 9 h (fun h=>?_) fun h=>wa J 13 (ZB (σ:=Unit) (fun st=>⟨[],[],[(0,.sl ZL l_)],2⟩) (fun st=>HS=some r) ?_ (fun j1=>?_))
 ·cases h
  exact wr J 5 func71 []
 ·intro _ h
  replace h:HS=some r:=h
  unfold HS at h
  cases h
  exact wr J 4 func71 []
 refine wa J 1 (ZF (σ:=Int × Int) (fun st=>(Zd1 x1 l_ [(0,.S 0),(3,.S 1),(4,.I st.1),(17,.S 0),(18,.I (l_.length:Int)),(19,.I st.2)])) (fun n st=>Wi N l_ x1 n st.1 st.2) (r:=r) (fun _=>rfl) ?_ (fun ih=>?_))
 ·intro n12 ih12
  rintro ⟨d,e⟩ h
  replace h:Wi N l_ x1 (n12+1) d e=some r:=h
  unfold Wi at h
  refine Zo J 5 h (fun h=>wa J 2 (Zj [] (j1 () h))) fun h=>?_
  refine wO J 7 h fun f g h=>Zq J Yg g ?_
  refine wO J 10 h fun i j h=>Zn (ZnD N f.Name _ j) [] [] ?_
  refine wB J 2 h (fun h=>?_) fun h=>?_
  ·cases h
   exact wr J 24 func71 []
  refine wB J 6 h (fun h=>?_) fun h=>?_
  ·cases h
   exact wr J 18 func71 []
  refine wB J 6 h (fun h=>?_) fun h=>?_
  ·cases h
   exact wr J 12 func71 []
  refine wO J 2 h fun k l h=>Gz J ZL l ?_
  refine wO J 1 h fun m o h=>Zn (Znb N k f _ o) [] [(0,.sl 7),(1,.bp 6 0),(2,.sl 3),(3,.sl 4),(4,.sl 5)] ?_
  refine wB J 2 h (fun h=>?_) fun h=>wa J 19 (ZB (σ:=Unit) (fun st=>(Zif x1 f l_ [(0,.S 0),(3,.S 1),(4,.I (Zi (d+(f.Fields.length:Int)))),(6,.B 6 0),(17,.S 0),(18,.I (l_.length:Int)),(19,.I e)])) (fun st=>MV N x1 d e (Wi N l_ x1 n12) f=some r) ?_ (fun j19=>?_))
  ·cases h
   exact wr J 5 func71 []
  ·intro _ h
   replace h:MV N x1 d e (Wi N l_ x1 n12) f=some r:=h
   unfold MV at h
   refine wO J 5 h fun p q h=>Xe (ZpL N f.Guard x1 _ q) [] [(0,.sl 4),(1,.sl 5),(2,.sl 1)] [1] (.inr ⟨rfl,trivial⟩) ?_
   refine wB J 2 h (fun h=>?_) fun h=>wa J 7 (Zj [] (ih12 ((Zi (d+(f.Fields.length:Int))),(Zi (e+1))) h))
   cases h
   exact wr J 5 func71 []
  refine wa J 1 (ZF (σ:=Int) (fun st=>(Zif x1 f l_ [(0,.S 0),(3,.S 1),(4,.I (Zi (d+(f.Fields.length:Int)))),(6,.B 6 0),(17,.S 0),(18,.I (l_.length:Int)),(19,.I e),(53,.S 3),(54,.I (f.Fields.length:Int)),(55,.I st)])) (fun n st=>Qc N x1 d e (Wi N l_ x1 n12) f n st) (r:=r) (fun _=>rfl) ?_ (fun ih=>?_))
  ·intro n14 ih21
   intro s h
   replace h:Qc N x1 d e (Wi N l_ x1 n12) f (n14+1) s=some r:=h
   unfold Qc at h
   refine Zo J 5 h (fun h=>wa J 2 (Zj [] (j19 () h))) fun h=>?_
   refine wO J 7 h fun t u h=>Zq J Xq u ?_
   refine wO J 9 h fun v x h=>Zn (Zai N t.Name _ x) [] [] ?_
   refine wB J 2 h (fun h=>?_) fun h=>?_
   ·cases h
    exact wr J 19 func71 []
   refine wO J 2 h fun y z h=>Zn (Zkq N t.Sort' _ z) [] [] ?_
   refine wB J 3 h (fun h=>?_) fun h=>?_
   ·cases h
    exact wr J 13 func71 []
   refine wO J 3 h fun A C h=>Gz J YM C ?_
   refine wO J 1 h fun D G h=>Zn (ZlO N A t _ G) [] [(0,.sl 10),(1,.bp 9 0)] ?_
   refine wB J 2 h (fun h=>?_) fun h=>wa J 7 (Zj [] (ih21 (Zi (s+1)) h))
   cases h
   exact wr J 5 func71 []
  exact Zj [] (ih N 0 h)
 exact Zj [] (ih N (0,0) h)
theorem ZhJ (N:Nat) (d_:T0) (r:(List T1)) (h:z72 N d_=some r) :
 Fn Tryz.prog 72 ⟨3,[.a (Yt 0 1 2 d_)],(Yn 0 1 2 d_ []),[],4,.S 3,[],[(3,.own YO r true)]⟩:=by
 refine Zs func72 rfl (fun E F w=>?_)
 unfold z72 at h
 refine wa J 17 (ZB (σ:=(List T1)) (fun st=>⟨[(1,.B 3 0),(3,.S 4)],[(3,.box (Yt 0 1 2 d_) 75),(4,.own YO st true)],(Yn 0 1 2 d_ []),5⟩) (fun st=>GR N d_ st=some r) ?_ (fun j1=>?_))
 ·intro c h
  replace h:GR N d_ c=some r:=h
  unfold GR at h
  refine wO J 6 h fun x9 d h=>Yr J YO d (wa J 11 (ZB (σ:=(List T1)) (fun st=>⟨[(3,.S 6)],[(6,.own YO st true)],(Yn 0 1 2 d_ []),7⟩) (fun st=>DJ st=some r) ?_ (fun j3=>?_)))
  ·intro e h
   replace h:DJ e=some r:=h
   unfold DJ at h
   cases h
   exact wr J 5 func72 [(3,.sl 6)]
  refine wa J 1 (ZF (σ:=(List T1) × Int) (fun st=>⟨[(3,.S 6),(44,.S 2),(45,.I (d_.Guard.Equals.length:Int)),(46,.I st.2)],[(6,.own YO st.1 true)],(Yn 0 1 2 d_ []),7⟩) (fun n st=>S7 d_ n st.1 st.2) (r:=r) (fun _=>rfl) ?_ (fun ih=>?_))
  ·intro n3 ih5
   rintro ⟨f,g⟩ h
   replace h:S7 d_ (n3+1) f g=some r:=h
   unfold S7 at h
   refine Zo J 5 h (fun h=>wa J 2 (Zj [] (j3 f h))) fun h=>?_
   refine wO J 6 h fun i j h=>Zq J (oP (oI .i64) (oI .i64)) j (wa J 6 (XA 0 rfl (wa J 1 (XA 1 rfl (wa J 2 (XA 1 rfl (wa J 1 (XA 0 rfl (wa J 2 (Z8 J [] Ut ([(⟨i.1,i.2,0⟩:T1),(⟨i.2,i.1,0⟩:T1)]:List T1) ?_))))))))))
   obtain ⟨k,l,h⟩:=ob h
   exact Yr J YO l (wa J 7 (Zj [(6,.sl 10)] (ih5 (k,(Zi (g+1))) h)))
  exact Zj [(6,.sl 5)] (ih N (x9,0) h)
 refine wa J 1 (ZF (σ:=(List T1) × Int) (fun st=>⟨[(1,.B 3 0),(3,.S 4),(9,.S 0),(10,.I (d_.Fields.length:Int)),(11,.I st.2)],[(3,.box (Yt 0 1 2 d_) 75),(4,.own YO st.1 true)],(Yn 0 1 2 d_ []),5⟩) (fun n st=>S4 N d_ n st.1 st.2) (r:=r) (fun _=>rfl) ?_ (fun ih=>?_))
 ·intro n4 ih6
  rintro ⟨m,o⟩ h
  replace h:S4 N d_ (n4+1) m o=some r:=h
  unfold S4 at h
  refine Zo J 5 h (fun h=>wa J 2 (Zj [] (j1 m h))) fun h=>?_
  refine wO J 7 h fun p q h=>Zq J Xq q (wa J 24 (Z8 J [] Ut ([(⟨(Zi (d_.First+o)),(-1),p.Sort'.Hi⟩:T1),(⟨(-1),(Zi (d_.First+o)),(Zi (0-p.Sort'.Lo))⟩:T1)]:List T1) ?_))
  obtain ⟨s,t,h⟩:=ob h
  exact Yr J YO t (wa J 7 (Zj [(4,.sl 8)] (ih6 (s,(Zi (o+1))) h)))
 exact Zj [(4,.nil)] (ih N (([]:List T1),0) h)
theorem Zen (N:Nat) (decls_:(List T0)) (label_:Int) (r:(List T1) × Int) (h:z37 N decls_ label_=some r) :
 Fn Tryz.prog 37 ⟨1,[.S 0,.I label_],[(0,.sl ZL decls_)],[],2,.t [.inl (.sl 1),.inl (.I r.2)],[],[(1,.own YO r.1 true)]⟩:=by
 refine Zs func37 rfl (fun E F w=>?_)
 unfold z37 at h
 refine wB J 11 h (fun h=>?_) fun h=>?_
 ·cases h
  exact wr J 17 func37 [(1,.nil)]
 refine wB J 6 h (fun h=>?_) fun h=>?_
 ·cases h
  exact wr J 11 func37 [(1,.nil)]
 refine wO J 1 h fun x1 c h=>Zn (Zfh N decls_ _ c) [] [(0,.sl 0)] ?_
 refine wB J 3 h (fun h=>?_) fun h=>?_
 ·cases h
  exact wr J 6 func37 [(1,.nil)]
 refine wO J 6 h fun x2 d h=>Zq J Yg d ?_
 refine wO J 1 h fun x3 e h=>Zn (ZhJ N x2 _ e) [] [(0,.sl 2),(1,.sl 3),(2,.sl 4)] ?_
 cases h
 exact wr J 3 func37 [(1,.sl 5)]
theorem Zsc (N:Nat) (l_:(List T0)) (r:Bool) (h:GB N l_=some r) :
 Fn Tryz.prog 210 ⟨1,[.S 0],[(0,.sl ZL l_)],[],1,.O r,[],[]⟩:=by
 refine Zs func210 rfl (fun E F w=>?_)
 unfold GB at h
 refine wB J 11 h (fun h=>?_) fun h=>?_
 ·cases h
  exact wr J 5 func210 []
 refine wO J 5 h fun x1 c h=>Zn (Zen N l_ 0 _ c) [] [(0,.sl 0)] ?_
 cases h
 exact wr J 12 func210 []
theorem Zm5 (N:Nat) (g_:T5) (r:Bool) (h:DY N g_=some r) :
 Fn Tryz.prog 211 ⟨4,[.a (ZT 0 1 2 3 g_)],(Yh 0 1 2 3 g_ []),[],4,.O r,[],[]⟩:=by
 refine Zs func211 rfl (fun E F w=>?_)
 unfold DY at h
 refine wa J 13 (ZB (σ:=Unit) (fun st=>(MX g_ [])) (fun st=>Gc=some r) ?_ (fun j1=>?_))
 ·intro _ h
  replace h:Gc=some r:=h
  unfold Gc at h
  cases h
  exact wr J 4 func211 []
 refine wa J 1 (ZF (σ:=Int) (fun st=>(Ty g_ [(1,.B 4 0),(8,.S 2),(9,.I (g_.Edges.length:Int)),(10,.I st)])) (fun n st=>X2 N g_ n st) (r:=r) (fun _=>rfl) ?_ (fun ih=>?_))
 ·intro n12 ih33
  intro c h
  replace h:X2 N g_ (n12+1) c=some r:=h
  unfold X2 at h
  refine Zo J 5 h (fun h=>wa J 2 (Zj [] (j1 () h))) fun h=>?_
  refine wO J 7 h fun d e h=>Zq J XX e ?_
  refine wa J 14 (ZB (σ:=Bool) (fun st=>(Bb g_ d [(1,.B 4 0),(3,.I c),(4,.B 6 0),(8,.S 2),(9,.I (g_.Edges.length:Int)),(10,.I c),(30,.O st)])) (fun st=>Q2 N g_ c (X2 N g_ n12) d st=some r) ?_ (fun j54=>?_))
  ·intro f h
   replace h:Q2 N g_ c (X2 N g_ n12) d f=some r:=h
   unfold Q2 at h
   refine eB h (fun h=>?_) fun h=>wa J 9 (ZB (σ:=Unit) (fun st=>⟨[(1,.B 4 0),(8,.S 2),(9,.I (g_.Edges.length:Int)),(10,.I c)],[(4,.box (ZT 0 1 2 3 g_) 27)],(Yh 0 1 2 3 g_ []),7⟩) (fun st=>MG c (X2 N g_ n12)=some r) ?_ (fun j55=>?_))
   ·cases h
    exact wr J 5 func211 []
   ·intro _ h
    replace h:MG c (X2 N g_ n12)=some r:=h
    unfold MG at h
    exact wa J 5 (Zj [] (ih33 (Zi (c+1)) h))
   refine wa J 1 (ZF (σ:=Int) (fun st=>(Bb g_ d [(1,.B 4 0),(3,.I c),(4,.B 6 0),(8,.S 2),(9,.I (g_.Edges.length:Int)),(10,.I c),(32,.S 2),(33,.I (g_.Edges.length:Int)),(34,.I st)])) (fun n st=>Vh g_ c (X2 N g_ n12) d n st) (r:=r) (fun _=>rfl) ?_ (fun ih=>?_))
   ·intro n14 ih60
    intro g h
    replace h:Vh g_ c (X2 N g_ n12) d (n14+1) g=some r:=h
    unfold Vh at h
    refine Zo J 5 h (fun h=>wa J 2 (Zj [] (j55 () h))) fun h=>?_
    refine wO J 7 h fun i j h=>Zq J XX j ?_
    refine wa J 12 (ZB (σ:=Bool) (fun st=>(Zje g_ d i [(1,.B 4 0),(3,.I c),(4,.B 6 0),(6,.B 8 0),(8,.S 2),(9,.I (g_.Edges.length:Int)),(10,.I c),(32,.S 2),(33,.I (g_.Edges.length:Int)),(34,.I g),(68,.O st)])) (fun st=>Sk d g (Vh g_ c (X2 N g_ n12) d n14) i st=some r) ?_ (fun j63=>?_))
    ·intro k h
     replace h:Sk d g (Vh g_ c (X2 N g_ n12) d n14) i k=some r:=h
     unfold Sk at h
     refine eB h (fun h=>?_) fun h=>?_
     ·cases h
      exact wr J 5 func211 []
     refine Zo J 7 h (fun h=>wa J 32 (Zj [] (ih60 (Zi (g+1)) h))) fun h=>?_
     refine Zo J 7 h (fun h=>wa J 25 (Zj [] (ih60 (Zi (g+1)) h))) fun h=>?_
     refine wB J 8 h (fun h=>?_) fun h=>?_
     ·cases h
      exact wr J 15 func211 []
     refine wB J 10 h (fun h=>?_) fun h=>wa J 7 (Zj [] (ih60 (Zi (g+1)) h))
     cases h
     exact wr J 5 func211 []
    refine VH h (fun h=>wa J 27 (Zj [] (j63 false h))) fun h=>?_
    refine Zo J 7 h (fun h=>wa J 20 (Zj [] (j63 false h))) fun h=>wa J 4 (R9 ?_)
    refine wB J 1 h (fun h=>wa J 14 (Zj [] (j63 true h))) fun h=>?_
    exact wB J 9 h (fun h=>wa J 5 (Zj [] (j63 true h))) fun h=>wa J 5 (Zj [] (j63 d.Again h))
   exact Zj [] (ih N 0 h)
  refine eB h (fun h=>wa J 11 (Zj [] (j54 true h))) fun h=>?_
  exact wB J 3 h (fun h=>wa J 8 (Zj [] (j54 (d.From==g_.Start) h))) fun h=>wa J 8 (Zj [] (j54 false h))
 exact Zj [] (ih N 0 h)
theorem Zpq (N:Nat) (g_:T5) (r:Bool) (h:z212 N g_=some r) :
 Fn Tryz.prog 212 ⟨4,[.a (ZT 0 1 2 3 g_)],(Yh 0 1 2 3 g_ []),[],4,.O r,[],[]⟩:=by
 refine Zs func212 rfl (fun E F w=>?_)
 unfold z212 at h
 refine wa J 17 (ZB (σ:=Unit) (fun st=>(MX g_ [])) (fun st=>Hy=some r) ?_ (fun j1=>?_))
 ·intro _ h
  replace h:Hy=some r:=h
  unfold Hy at h
  cases h
  exact wr J 4 func212 []
 refine wa J 1 (ZF (σ:=Int × Int) (fun st=>(Ty g_ [(1,.B 4 0),(3,.I st.1),(7,.S 3),(8,.I (g_.Timeouts.length:Int)),(9,.I st.2)])) (fun n st=>Ul g_ n st.1 st.2) (r:=r) (fun _=>rfl) ?_ (fun ih=>?_))
 ·intro n2 ih3
  rintro ⟨c,d⟩ h
  replace h:Ul g_ (n2+1) c d=some r:=h
  unfold Ul at h
  refine Zo J 5 h (fun h=>wa J 2 (Zj [] (j1 () h))) fun h=>?_
  refine wO J 6 h fun e f h=>Zq J Uv f ?_
  refine wB J 12 h (fun h=>wa J 43 (ZA ?_)) fun h=>?_
  ·cases h
   exact wr J 5 func212 []
  refine wB J 5 h (fun h=>wa J 38 (ZA ?_)) fun h=>?_
  ·cases h
   exact wr J 5 func212 []
  refine wB J 5 h (fun h=>wa J 33 (ZA ?_)) fun h=>?_
  ·cases h
   exact wr J 5 func212 []
  refine wB J 5 h (fun h=>wa J 28 (ZA ?_)) fun h=>?_
  ·cases h
   exact wr J 5 func212 []
  refine wB J 8 h (fun h=>wa J 20 (ZA ?_)) fun h=>?_
  ·cases h
   exact wr J 5 func212 []
  refine wO J 4 h fun g i h=>Zq J XX i ?_
  refine wB J 7 h (fun h=>wa J 8 (ZA ?_)) fun h=>?_
  ·cases h
   exact wr J 5 func212 []
  refine wO J 4 h fun j k h=>Zq J XX k (wa J 3 (ZA ?_))
  refine eB h (fun h=>?_) fun h=>wa J 12 (Zj [] (ih3 (e.State,(Zi (d+1))) h))
  cases h
  exact wr J 5 func212 []
 exact Zj [] (ih N ((-1),0) h)
theorem ZpA (N:Nat) (x_:Int) (y_:Int) (r:Int × Int) (h:ZeZ N x_ y_=some r) :
 Fn Tryz.prog 252 ⟨0,[.c (.i .u64 x_),.c (.i .u64 y_)],[],[],0,.t [.inl (.i .u64 r.1),.inl (.i .u64 r.2)],[],[]⟩:=by
 refine Zs func252 rfl (fun E F w=>?_)
 unfold ZeZ at h
 refine wO J 8 h fun x1 d h=>Qm d ?_
 refine wO J 5 h fun x2 e h=>Qm e ?_
 refine wO J 5 h fun x3 f h=>Qm f ?_
 refine wO J 5 h fun x4 g h=>Qm g ?_
 refine wO J 15 h fun x5 j h=>Qm j ?_
 refine wO J 6 h fun x6 k h=>Qm k ?_
 refine wO J 5 h fun x7 l h=>Qm l ?_
 refine wO J 19 h fun x8 m h=>Qm m ?_
 cases h
 exact wr J 10 func252 []
theorem Zoe (N:Nat) (x_:Int) (y_:Int) (r:Int × Int) (h:Dd N x_ y_=some r) :
 Fn Tryz.prog 201 ⟨0,[.c (.i .u64 x_),.c (.i .u64 y_)],[],[],0,.t [.inl (.i .u64 r.1),.inl (.i .u64 r.2)],[],[]⟩:=by
 refine Zs func201 rfl (fun E F w=>?_)
 unfold Dd at h
 refine wO J 12 h fun x1 d h=>Zn (ZpA N x_ y_ _ d) [] [] ?_
 cases h
 exact wr J 13 func201 []
theorem ZlH (N:Nat) (x_:(List Int)) (count_:Int) (r:(List Int)) (h:LZ N x_ count_=some r) :
 Fn Tryz.prog 255 ⟨1,[.S 0,.I count_],[(0,.sl (rI .i64) x_)],[],2,.S 1,[],[(1,.own (rI .i64) r true)]⟩:=by
 refine Zs func255 rfl (fun E F w=>?_)
 unfold LZ at h
 refine wB J 10 h (fun h=>?_) fun h=>?_
 ·cases h
 refine wO J 9 h fun x1 d h=>Zn (Zoe N (wk .u64 ((x_.length:Int))) (wk .u64 (count_)) _ d) [] [] ?_
 refine wa J 12 (ZB (σ:=Bool) (fun st=>(PA x_ [(0,.S 0),(6,.c (.i .u64 x1.2)),(26,.O st)])) (fun st=>PT N x_ x1 st=some r) ?_ (fun j2=>?_))
 ·intro e h
  replace h:PT N x_ x1 e=some r:=h
  unfold PT at h
  refine eB h (fun h=>?_) fun h=>?_
  ·cases h
  refine wO J 6 h fun x2 f h=>Ue J (oI .i64) f ?_
  refine wO J 6 h fun x3 g h=>eCp J (rI .i64) g (wa J 3 (ZB (σ:=(List Int)) (fun st=>(BM st x_ [(7,.S 1)])) (fun st=>Dr st=some r) ?_ (fun j4=>?_)))
  ·intro j h
   replace h:Dr j=some r:=h
   unfold Dr at h
   cases h
   exact wr J 5 func255 [(1,.sl 1)]
  refine wa J 1 (ZF (σ:=(List Int) × Int) (fun st=>(BM st.1 x_ [(7,.S 1),(8,.I st.2)])) (fun n st=>Ri n st.1 st.2) (r:=r) (fun _=>rfl) ?_ (fun ih=>?_))
  ·intro n2 ih6
   rintro ⟨k,l⟩ h
   replace h:Ri (n2+1) k l=some r:=h
   unfold Ri at h
   refine Zo J 8 h (fun h=>wa J 2 (Zj [] (j4 k h))) fun h=>?_
   refine wO J 7 h fun m o h=>UQ J (rI .i64) o ?_
   refine wO J 2 h fun p q h=>UQ J (rI .i64) q ?_
   obtain ⟨s,t,h⟩:=ob h
   exact eDw J (rI .i64) q t (wa J 2 (ZA (wa J 1 (Zj [] (ih6 (s.1,(Zi (l+s.2))) h)))))
  exact Zj [] (ih N (x3.1,x3.2) h)
 exact eB h (fun h=>wa J 4 (Zj [] (j2 true h))) fun h=>wa J 4 (Zj [] (j2 (decide (x1.2 > 9223372036854775807)) h))
theorem ZhK (N:Nat) (g_:T5) (from_:Int) (back_:Bool) (r:(List Int)) (h:P0 N g_ from_ back_=some r) :
 Fn Tryz.prog 214 ⟨4,[.a (ZT 0 1 2 3 g_),.I from_,.O back_],(Yh 0 1 2 3 g_ []),[],5,.S 4,[],[(4,.own (rI .i64) r true)]⟩:=by
 refine Zs func214 rfl (fun E F w=>?_)
 unfold P0 at h
 refine wa J 7 (Z8 J [] (oI .i64) ([(-1)]:List Int) ?_)
 refine wO J 2 h fun x1 c h=>Xe (ZlH N ([(-1)]:List Int) g_.States _ c) [] [(0,.sl 5)] [5] (.inr ⟨rfl,⟨(Zcr _),trivial⟩⟩) ?_
 refine wO J 6 h fun x2 d h=>Z9 J (rI .i64) d (Xj J [] (oI .i64) 0 d (wa J 5 (Z8 J [] (oI .i64) ([from_]:List Int) (wa J 2 (ZB (σ:=(List Int)) (fun st=>⟨[(7,.S 6)],[(6,.own (rI .i64) st true)],(Yh 0 1 2 3 g_ []),9⟩) (fun st=>Za5 st=some r) ?_ (fun j1=>?_))))))
 ·intro e h
  replace h:Za5 e=some r:=h
  unfold Za5 at h
  cases h
  exact wr J 5 func214 [(4,.sl 6)]
 refine wa J 1 (ZF (σ:=(List Int) × (List Int)) (fun st=>⟨[(2,.O back_),(3,.B 4 0),(7,.S 6),(8,.S 9)],[(4,.box (ZT 0 1 2 3 g_) 27),(6,.own (rI .i64) st.1 true),(9,.own (rI .i64) st.2 true)],(Yh 0 1 2 3 g_ []),10⟩) (fun n st=>Vg N g_ back_ n st.1 st.2) (r:=r) (fun _=>rfl) ?_ (fun ih=>?_))
 ·intro n12 ih30
  rintro ⟨f,g⟩ h
  replace h:Vg N g_ back_ (n12+1) f g=some r:=h
  unfold Vg at h
  refine Zo J 7 h (fun h=>wa J 2 (Zj [] (j1 f h))) fun h=>wa J 11 (ZB (σ:=(List Int) × (List Int)) (fun st=>(ZhQ g_ st.1 st.2 [(2,.O back_),(3,.B 4 0),(7,.S 6),(8,.S 10)])) (fun st=>Me (Vg N g_ back_ n12) st.1 st.2=some r) ?_ (fun j49=>?_))
  ·rintro ⟨i,j⟩ h
   replace h:Me (Vg N g_ back_ n12) i j=some r:=h
   unfold Me at h
   exact wO J 3 h fun k l h=>UQ J (rI .i64) l (wa J 2 (eSl (rI .i64) 11 l (Zj [(9,.sl 11)] (ih30 (i,k) h))))
  refine wa J 1 (ZF (σ:=(List Int) × (List Int) × Int) (fun st=>(ZhQ g_ st.1 st.2.1 [(2,.O back_),(3,.B 4 0),(7,.S 6),(8,.S 10),(28,.S 2),(29,.I (g_.Edges.length:Int)),(30,.I st.2.2)])) (fun n st=>VQ g_ back_ (Vg N g_ back_ n12) n st.1 st.2.1 st.2.2) (r:=r) (fun _=>rfl) ?_ (fun ih=>?_))
  ·intro n14 ih54
   rintro ⟨m,o,p⟩ h
   replace h:VQ g_ back_ (Vg N g_ back_ n12) (n14+1) m o p=some r:=h
   unfold VQ at h
   refine Zo J 5 h (fun h=>wa J 2 (Zj [] (j49 (m,o) h))) fun h=>?_
   refine wO J 6 h fun q s h=>Zq J XX s (wa J 12 (ZA (wa J 5 (ZB (σ:=Int × Int) (fun st=>⟨[(2,.O back_),(3,.B 4 0),(7,.S 6),(8,.S 10),(11,.I st.1),(12,.I st.2),(28,.S 2),(29,.I (g_.Edges.length:Int)),(30,.I p)],[(4,.box (ZT 0 1 2 3 g_) 27),(6,.own (rI .i64) m true),(10,.own (rI .i64) o true)],(Yh 0 1 2 3 g_ []),13⟩) (fun st=>Pa m o p (VQ g_ back_ (Vg N g_ back_ n12) n14) st.1 st.2=some r) ?_ (fun j57=>?_)))))
   ·rintro ⟨t,u⟩ h
    replace h:Pa m o p (VQ g_ back_ (Vg N g_ back_ n12) n14) t u=some r:=h
    unfold Pa at h
    refine wO J 4 h fun v x h=>Z9 J (rI .i64) x (YJ J (oI .i64) x ?_)
    refine Zo J 2 h (fun h=>wa J 14 (Zj [] (ih54 (m,o,(Zi (p+1))) h))) fun h=>?_
    refine wO J 2 h fun y z h=>Z9 J (rI .i64) z (YJ J (oI .i64) z ?_)
    refine Zo J 3 h (fun h=>wa J 7 (Zj [] (ih54 (m,o,(Zi (p+1))) h))) fun h=>?_
    refine wO J 7 h fun A C h=>Z9 J (rI .i64) C (YJ J (oI .i64) C ?_)
    refine wO J 1 h fun D G h=>Z9 J (rI .i64) G (Xj J [] (oI .i64) (Zi (A+1)) G (wa J 4 (Z8 J [] (oI .i64) ([u]:List Int) ?_)))
    obtain ⟨H,R,h⟩:=ob h
    exact Yr J (rI .i64) R (wa J 7 (Zj [(10,.sl 18)] (ih54 ((ZW m u (Zi (A+1))),H,(Zi (p+1))) h)))
   exact eB h (fun h=>wa J 7 (Zj [] (j57 (q.To,q.From) h))) fun h=>wa J 2 (Zj [] (j57 (q.From,q.To) h))
  exact Zj [(10,.sl 9)] (ih N (f,g,0) h)
 exact Zj [(9,.sl 8)] (ih N ((ZW x1 from_ 0),([from_]:List Int)) h)
theorem Zol (N:Nat) (s_:(List Int)) (v_:Int) (r:Int) (h:ZaY N s_ v_=some r) :
 Fn Tryz.prog 254 ⟨1,[.S 0,.I v_],[(0,.sl (rI .i64) s_)],[],1,.I r,[],[]⟩:=by
 refine Zs func254 rfl (fun E F w=>?_)
 unfold ZaY at h
 refine wa J 11 (ZB (σ:=Unit) (fun st=>(PA s_ [])) (fun st=>HH=some r) ?_ (fun j1=>?_))
 ·intro _ h
  replace h:HH=some r:=h
  unfold HH at h
  cases h
  exact wr J 4 func254 []
 refine wa J 1 (ZF (σ:=Int) (fun st=>(PA s_ [(0,.S 0),(1,.I v_),(7,.I (s_.length:Int)),(8,.I st)])) (fun n st=>S3 s_ v_ n st) (r:=r) (fun _=>rfl) ?_ (fun ih=>?_))
 ·intro n2 ih3
  intro c h
  replace h:S3 s_ v_ (n2+1) c=some r:=h
  unfold S3 at h
  refine Zo J 5 h (fun h=>wa J 2 (Zj [] (j1 () h))) fun h=>?_
  refine wO J 14 h fun x9 d h=>Zq J (oI .i64) d ?_
  refine wB J 3 h (fun h=>?_) fun h=>wa J 7 (Zj [] (ih3 (Zi (c+1)) h))
  cases h
  exact wr J 6 func254 []
 exact Zj [] (ih N 0 h)
theorem Zjp (N:Nat) (s_:(List Int)) (v_:Int) (r:Bool) (h:z213 N s_ v_=some r) :
 Fn Tryz.prog 213 ⟨1,[.S 0,.I v_],[(0,.sl (rI .i64) s_)],[],1,.O r,[],[]⟩:=by
 refine Zs func213 rfl (fun E F w=>?_)
 unfold z213 at h
 refine wO J 8 h fun x1 c h=>Zn (Zol N s_ v_ _ c) [] [(0,.sl 0)] ?_
 cases h
 exact wr J 3 func213 []
theorem ZpI (N:Nat) (g_:T5) (r:Bool) (h:Pk N g_=some r) :
 Fn Tryz.prog 133 ⟨4,[.a (ZT 0 1 2 3 g_)],(Yh 0 1 2 3 g_ []),[],4,.O r,[],[]⟩:=by
 refine Zs func133 rfl (fun E F w=>?_)
 unfold Pk at h
 refine wO J 8 h fun x1 c h=>Zn (Zqy N g_ _ c) [] [(0,.sl 0),(1,.sl 1),(2,.sl 2),(3,.sl 3)] ?_
 refine Zo J 1 h (fun h=>?_) fun h=>?_
 ·cases h
  exact wr J 34 func133 []
 refine wO J 1 h fun x2 d h=>Zn (Zqu N g_ _ d) [] [(0,.sl 0),(1,.sl 1),(2,.sl 2),(3,.sl 3)] ?_
 refine Zo J 2 h (fun h=>?_) fun h=>?_
 ·cases h
  exact wr J 30 func133 []
 refine wO J 2 h fun x3 e h=>Zn (Zsc N g_.Decls _ e) [] [(0,.sl 1)] ?_
 refine Zo J 2 h (fun h=>?_) fun h=>?_
 ·cases h
  exact wr J 25 func133 []
 refine wO J 1 h fun x4 f h=>Zn (Zm5 N g_ _ f) [] [(0,.sl 0),(1,.sl 1),(2,.sl 2),(3,.sl 3)] ?_
 refine Zo J 2 h (fun h=>?_) fun h=>?_
 ·cases h
  exact wr J 21 func133 []
 refine wO J 1 h fun x5 g h=>Zn (Zpq N g_ _ g) [] [(0,.sl 0),(1,.sl 1),(2,.sl 2),(3,.sl 3)] ?_
 refine Zo J 2 h (fun h=>?_) fun h=>?_
 ·cases h
  exact wr J 17 func133 []
 refine wO J 3 h fun x6 i h=>Zn (ZhK N g_ g_.Start false _ i) [] [(0,.sl 0),(1,.sl 1),(2,.sl 2),(3,.sl 3)] ?_
 obtain ⟨x7,j,h⟩:=ob h
 refine Xe (Zjp N x6 (-1) _ j) [] [(0,.sl 5)] [5] (.inr ⟨rfl,trivial⟩) ?_
 refine Zo J 3 h (fun h=>?_) fun h=>?_
 ·cases h
  exact wr J 9 func133 []
 refine wO J 3 h fun x8 k h=>Zn (ZhK N g_ g_.End true _ k) [] [(0,.sl 0),(1,.sl 1),(2,.sl 2),(3,.sl 3)] ?_
 obtain ⟨x9,l,h⟩:=ob h
 refine Xe (Zjp N x8 (-1) _ l) [] [(0,.sl 6)] [6] (.inr ⟨rfl,trivial⟩) ?_
 cases h
 exact wr J 4 func133 []
theorem Zek (N:Nat) (m_:T8) (n_:Int) (r:Bool) (h:Pv N m_ n_=some r) :
 Fn Tryz.prog 241 ⟨3,[.a (ZX 0 1 2 m_),.I n_],(ZZ 0 1 2 m_ []),[],3,.O r,[],[]⟩:=by
 refine Zs func241 rfl (fun E F w=>?_)
 unfold Pv at h
 refine wB J 10 h (fun h=>?_) fun h=>?_
 ·cases h
  exact wr J 7 func241 []
 cases h
 exact wr J 7 func241 []
theorem ZqG (N:Nat) (m_:T8) (r:Bool) (h:LY N m_=some r) :
 Fn Tryz.prog 188 ⟨3,[.a (ZX 0 1 2 m_)],(ZZ 0 1 2 m_ []),[],3,.O r,[],[]⟩:=by
 refine Zs func188 rfl (fun E F w=>?_)
 unfold LY at h
 refine wB J 12 h (fun h=>?_) fun h=>?_
 ·cases h
  exact wr J 41 func188 []
 refine wB J 5 h (fun h=>?_) fun h=>?_
 ·cases h
  exact wr J 36 func188 []
 refine wB J 5 h (fun h=>?_) fun h=>?_
 ·cases h
  exact wr J 31 func188 []
 refine wB J 5 h (fun h=>?_) fun h=>?_
 ·cases h
  exact wr J 26 func188 []
 refine wO J 3 h fun x1 c h=>Zn (Zek N m_ m_.Start _ c) [] [(0,.sl 0),(1,.sl 1),(2,.sl 2)] ?_
 refine wB J 3 h (fun h=>?_) fun h=>?_
 ·cases h
  exact wr J 19 func188 []
 refine wB J 8 h (fun h=>?_) fun h=>?_
 ·cases h
  exact wr J 11 func188 []
 refine wB J 6 h (fun h=>?_) fun h=>wa J 10 (ZB (σ:=Unit) (fun st=>(He m_ [])) (fun st=>Bw=some r) ?_ (fun j1=>?_))
 ·cases h
  exact wr J 5 func188 []
 ·intro _ h
  replace h:Bw=some r:=h
  unfold Bw at h
  cases h
  exact wr J 4 func188 []
 refine wa J 1 (ZF (σ:=Int) (fun st=>(De m_ [(1,.B 3 0),(45,.S 1),(46,.I (m_.Moves.length:Int)),(47,.I st)])) (fun n st=>TL N m_ n st) (r:=r) (fun _=>rfl) ?_ (fun ih=>?_))
 ·intro n2 ih3
  intro d h
  replace h:TL N m_ (n2+1) d=some r:=h
  unfold TL at h
  refine Zo J 5 h (fun h=>wa J 2 (Zj [] (j1 () h))) fun h=>?_
  refine wO J 6 h fun e f h=>Zq J YH f ?_
  refine wO J 9 h fun g i h=>Zn (Zek N m_ e.From _ i) [] [(0,.sl 0),(1,.sl 1),(2,.sl 2)] ?_
  refine wB J 2 h (fun h=>?_) fun h=>?_
  ·cases h
   exact wr J 39 func188 []
  refine wO J 3 h fun j k h=>Zn (Zek N m_ e.To _ k) [] [(0,.sl 0),(1,.sl 1),(2,.sl 2)] ?_
  refine wB J 3 h (fun h=>?_) fun h=>?_
  ·cases h
   exact wr J 32 func188 []
  refine wB J 5 h (fun h=>?_) fun h=>?_
  ·cases h
   exact wr J 27 func188 []
  refine wB J 5 h (fun h=>?_) fun h=>?_
  ·cases h
   exact wr J 22 func188 []
  refine wB J 7 h (fun h=>?_) fun h=>?_
  ·cases h
   exact wr J 15 func188 []
  refine wB J 5 h (fun h=>?_) fun h=>?_
  ·cases h
   exact wr J 10 func188 []
  refine wB J 5 h (fun h=>?_) fun h=>wa J 7 (Zj [] (ih3 (Zi (d+1)) h))
  cases h
  exact wr J 5 func188 []
 exact Zj [] (ih N 0 h)
section
variable [LxP]
theorem Zb3 (N:Nat) (x_:T9) (r:TQ) (h:Sn N x_=some r) :
 Fn Tryz.prog 244 ⟨0,[.a (UF x_)],[],[],0,.a (ZeP r),[],[]⟩:=by
 refine Zs func244 rfl (fun E F w=>?_)
 unfold Sn at h
 cases h
 exact wr J 16 func244 []
end
section
variable [LxP]
theorem Zis (N:Nat) (x_:Int) (r:Bool) (h:HX N x_=some r) :
 Fn Tryz.prog 270 ⟨0,[.I x_],[],[],0,.O r,[],[]⟩:=by
 refine Zs func270 rfl (fun E F w=>?_)
 unfold HX at h
 cases h
 exact wr J 11 func270 []
end
section
variable [LxP]
theorem Dw (N:Nat) (x_:Int) (y_:Int) (r:Int) (h:z232 N x_ y_=some r) :
 Fn Tryz.prog 232 ⟨0,[.I x_,.I y_],[],[],0,.I r,[],[]⟩:=by
 refine Zs func232 rfl (fun E F w=>?_)
 unfold z232 at h
 refine wO J 7 h fun x1 c h=>Zn (Zis N x_ _ c) [] [] ?_
 refine wO J 5 h fun x2 d h=>Zn (Zis N y_ _ d) [] [] ?_
 refine wB J 7 h (fun h=>?_) fun h=>?_
 ·refine wB J 6 h (fun h=>?_) fun h=>?_
  ·cases h
   exact wr J 5 func232 []
  cases h
  exact wr J 6 func232 []
 refine wB J 7 h (fun h=>?_) fun h=>?_
 ·cases h
  exact wr J 5 func232 []
 refine wB J 9 h (fun h=>?_) fun h=>?_
 ·cases h
  exact wr J 5 func232 []
 refine wB J 9 h (fun h=>?_) fun h=>?_
 ·cases h
  exact wr J 5 func232 []
 cases h
 exact wr J 6 func232 []
end
section
variable [LxP]
theorem ZgF (N:Nat) (vals_:(List Int)) (r:Int) (h:Tn N vals_=some r) :
 Fn Tryz.prog 231 ⟨1,[.S 0],[(0,.sl (rI .i64) vals_)],[],1,.I r,[],[]⟩:=by
 refine Zs func231 rfl (fun E F w=>?_)
 unfold Tn at h
 refine wa J 15 (ZB (σ:=Unit) (fun st=>(PA vals_ [(3,.I 0)])) (fun st=>Zaq=some r) ?_ (fun j1=>?_))
 ·intro _ h
  replace h:Zaq=some r:=h
  unfold Zaq at h
  cases h
  exact wr J 5 func231 []
 refine wa J 1 (ZF (σ:=Int) (fun st=>(PA vals_ [(3,.I 0),(6,.S 0),(7,.I (vals_.length:Int)),(8,.I st)])) (fun n st=>Ws vals_ n st) (r:=r) (fun _=>rfl) ?_ (fun ih=>?_))
 ·intro n2 ih3
  intro c h
  replace h:Ws vals_ (n2+1) c=some r:=h
  unfold Ws at h
  refine Zo J 5 h (fun h=>wa J 2 (Zj [] (j1 () h))) fun h=>?_
  refine wO J 6 h fun x9 d h=>Zq J (oI .i64) d ?_
  refine wB J 9 h (fun h=>?_) fun h=>wa J 7 (Zj [] (ih3 (Zi (c+1)) h))
  cases h
  exact wr J 6 func231 []
 exact Zj [] (ih N 0 h)
end
section
variable [LxP]
theorem Zpd (N:Nat) (x_:TQ) (y_:TQ) (r:Int) (h:L6 N x_ y_=some r) :
 Fn Tryz.prog 245 ⟨0,[.a (ZeP x_),.a (ZeP y_)],[],[],0,.I r,[],[]⟩:=by
 refine Zs func245 rfl (fun E F w=>?_)
 unfold L6 at h
 refine wB J 15 h (fun h=>?_) fun h=>?_
 ·refine wB J 7 h (fun h=>?_) fun h=>?_
  ·cases h
   exact wr J 5 func245 []
  cases h
  exact wr J 6 func245 []
 refine wO J 8 h fun x1 c h=>Zn (Dw N x_.peer' y_.peer' _ c) [] [] ?_
 refine wO J 4 h fun x2 d h=>Zn (Dw N x_.label' y_.label' _ d) [] [] (Z8 J [] (oI .i64) ([x1,x2]:List Int) ?_)
 obtain ⟨x3,e,h⟩:=ob h
 refine Xe (ZgF N ([x1,x2]:List Int) _ e) [] [(0,.sl 2)] [2] (.inr ⟨rfl,trivial⟩) (wa J 1 (ZA ?_))
 cases h
 exact Z4 J func245 []
end
section
variable [LxP]
theorem Zok (N:Nat) (i_:Int) (k_:Int) (c0_:T8) (r:Int) (h:Pd N i_ k_ c0_=some r) :
 Fn Tryz.prog 243 ⟨4,[.I i_,.I k_,.B 0 0],(ZZ 1 2 3 c0_ []),[(0,.box (ZX 1 2 3 c0_) 31)],4,.I r,[],[(0,.box (ZX 1 2 3 c0_) 31)]⟩:=by
 refine Zs func243 rfl (fun E F w=>?_)
 unfold Pd at h
 refine wO J 9 h fun x1 c h=>Zq J YH c ?_
 refine wO J 1 h fun x2 d h=>Zn (Zb3 N x1 _ d) [] [] ?_
 refine wO J 3 h fun x3 e h=>Zq J YH e ?_
 refine wO J 1 h fun x4 f h=>Zn (Zb3 N x3 _ f) [] [] ?_
 obtain ⟨x5,g,h⟩:=ob h
 refine Zn (Zpd N x2 x4 _ g) [] [] (wa J 1 (ZA ?_))
 cases h
 exact Z4 J func243 []
end
theorem Zrb (N:Nat) (m_:T8) (r:Yz) (h:GQ N m_=some r) :
 Fn Tryz.prog 189 ⟨3,[.a (ZX 0 1 2 m_)],(ZZ 0 1 2 m_ []),[],8,.B 3 0,(Wz 4 5 6 7 r []),[(3,.box (XS 4 5 6 7 r) 170)]⟩:=by
 refine Zs func189 rfl (fun E F w=>?_)
 unfold GQ at h
 obtain ⟨us,hus,h⟩:=ob h
 obtain ⟨K,h⟩|⟨K,h⟩:=oc h
 ·cases h
 have hne:us≠[]:=by intro e;rw [e] at K;cases K
 refine wm J (Ue J Zrt hus (wm J (ZA (eGt (rI .i64) 4 hne (fun q=>?_)))))
 refine wm J (ZF (σ:=List Value × List (List Int) × Int) (fun st=>(ZgS m_ m_.Role m_.States m_.Start (Yl (rI .i64) w.heap.size q.1 q.2 st.1 st.2.1 none) (Vu q.1 q.2 us.length) [(1,.B 3 0),(3,.B 5 0),(15,.S 1),(16,.I (m_.Moves.length:Int)),(17,.I st.2.2)]))
  (fun n st=>bif Nat.beq st.2.1.length us.length then Qh N m_ n st.2.1 st.2.2 else none) (r:=r) (fun st=>by cases Nat.beq st.2.1.length us.length<;>rfl) ?_ (fun ih=>?_))
 ·intro n1 ih1
  rintro ⟨vs,xss,i⟩ h
  obtain ⟨hl,h⟩:=og h
  replace hl:Nat.beq xss.length us.length=true:=hl
  have hl':=Zd hl
  replace h:Qh N m_ (n1+1) xss i=some r:=h
  unfold Qh at h
  obtain ⟨K,h⟩|⟨K,h⟩:=BZ h
  ·refine wH J 5 K (wm J (eTn (b:=q.1) (p0:=q.2) (len:=us.length) J (wm J (ZF (σ:=List (List Int) × Int) (fun st=>(ZgS m_ m_.Role m_.States m_.Start (Yl (rI .i64) w.heap.size q.1 q.2 vs st.1 none) (Vu q.1 q.2 us.length) [(1,.B 3 0),(3,.B 5 0),(44,.S 4),(45,.I (us.length:Int)),(46,.I st.2)]))
    (fun n st=>bif Nat.beq st.1.length us.length then TE N m_ n st.1 st.2 else none) (r:=r) (fun st=>by cases Nat.beq st.1.length us.length<;>rfl) ?_ (fun ih=>?_)))))
   ·intro n2 ih2
    rintro ⟨yss,j⟩ h
    obtain ⟨hl,h⟩:=og h
    replace hl:Nat.beq yss.length us.length=true:=hl
    have hl':=Zd hl
    replace h:TE N m_ (n2+1) yss j=some r:=h
    unfold TE at h
    rw [hl'] at h
    obtain ⟨K,h⟩|⟨K,h⟩:=BZ h
    ·cases h
     exact wH J 5 K (eGf (R:=rI .i64) (b:=q.1) (p0:=q.2) (vs:=vs) 4 hl' (wm J (Z4 J func189 [(3,.bp 5 0),(4,.sl 0),(5,.sl 1),(6,.sl 2),(7,.sl 4)])))
    obtain ⟨xs,hxs,h⟩:=ob h
    obtain ⟨hk,h⟩:=og h
    unfold DB at hk
    rw [Zc,Zc,decide_eq_true_eq] at hk
    obtain ⟨k1,k2,k3⟩:=hk
    obtain ⟨j1,j2,j3⟩:=TN hxs
    have hn:(decide (0≤j) && decide (j < (us.length:Int)))=true:=by rw [hl'] at j2;simp [j1,j2]
    refine wH J 5 K (eGk (R:=rI .i64) (b:=q.1) (p0:=q.2) (vs:=vs) 4 j3 (wm J (eTx (b:=q.1) (p0:=q.2) (len:=us.length) J hn (eTl (R:=rI .i64) (n1:=w.heap.size) (b:=q.1) (p0:=q.2) (vs:=vs) (xss:=yss) (h:=some j.toNat) 4 6 j.toNat J (wm J (eSr (q:=6) ZrO k3 (ZiP k2) (cf:=XC N m_) ⟨Tryz.f243,func243,rfl,rfl⟩ (fun a b ha hb=>@Zok PJ N a b m_ (XC N m_ a b) ?_) [(0,.bp 3 0),(1,.sl 0),(2,.sl 1),(3,.sl 2)] (eGp (R:=rI .i64) (b:=q.1) (p0:=q.2) (vs:=vs) (xss:=yss) (j:=j.toNat) (xs:=XL (XC N m_) xs) 4 6 (wm J (Zj [] (ih2 (yss.set j.toNat (XL (XC N m_) xs),(Zi (j+1))) ?_))))))))))
    ·have:=List.all_eq_true.1 (List.all_eq_true.1 k1 a ha) b hb
     obtain ⟨z,hz⟩:=Option.isSome_iff_exists.1 this
     unfold XC
     rw [hz];rfl
    ·show (bif Nat.beq (yss.set j.toNat _).length us.length then _ else none)=some r
     rw [List.length_set,hl]
     exact h
   ·refine Zj [] (ih N (xss,0) ?_)
    show (bif Nat.beq xss.length us.length then _ else none)=some r
    rw [hl];exact h
  refine wH J 5 K ?_
  obtain ⟨x,hx,h⟩:=ob h
  obtain ⟨xs,hxs,h⟩:=ob h
  obtain ⟨ys,hys,h⟩:=ob h
  obtain ⟨j1,j2,j3⟩:=TN hxs
  have hn:(decide (0≤x.From) && decide (x.From < (us.length:Int)))=true:=by rw [hl'] at j2;simp [j1,j2]
  have hj:Nat.blt x.From.toNat xss.length=true:=Nat.ble_eq_true_of_le (by omega)
  refine wm J (Zq J YH hx (eGk (R:=rI .i64) (b:=q.1) (p0:=q.2) (vs:=vs) 4 j3 (wm J (eTx (b:=q.1) (p0:=q.2) (len:=us.length) J hn (eTl (R:=rI .i64) (n1:=w.heap.size) (b:=q.1) (p0:=q.2) (vs:=vs) (xss:=xss) (h:=some x.From.toNat) 4 7 x.From.toNat J (wm J (Z8 J [] (oI .i64) ([i]:List Int) (Yr J (rI .i64) hys (eTx (b:=q.1) (p0:=q.2) (len:=us.length) J hn (eTt (eTs (R:=rI .i64) (b:=q.1) (p0:=q.2) (vs:=vs) (xss:=xss) (xs:=ys) 4 10 x.From.toNat J hj (fun v=>wm J (Zj [] (ih1 (vs.set x.From.toNat v,xss.set x.From.toNat ys,(Zi (i+1))) ?_))))))))))))))
  show (bif Nat.beq (xss.set x.From.toNat ys).length us.length then _ else none)=some r
  rw [List.length_set,hl]
  exact h
 refine Zj [] (ih N (List.replicate us.length (.slice none 0 0),List.replicate us.length [],0) ?_)
 show (bif Nat.beq (List.replicate us.length []).length us.length then _ else none)=some r
 rw [List.length_replicate,Nat.beq_refl]
 exact h
theorem ZmK (N:Nat) (t_:Yz) (r:Bool) (h:LD N t_=some r) :
 Fn Tryz.prog 190 ⟨5,[.B 0 0],(Wz 1 2 3 4 t_ []),[(0,.box (XS 1 2 3 4 t_) 170)],5,.O r,[],[(0,.box (XS 1 2 3 4 t_) 170)]⟩:=by
 refine Zs func190 rfl (fun E F w=>?_)
 unfold LD at h
 refine wa J 14 (ZB (σ:=Unit) (fun st=>(M6 t_ [])) (fun st=>BV=some r) ?_ (fun j1=>?_))
 ·intro _ h
  replace h:BV=some r:=h
  unfold BV at h
  cases h
  exact wr J 4 func190 []
 refine wa J 1 (ZF (σ:=Int) (fun st=>(M6 t_ [(0,.B 0 0),(11,.S 4),(12,.I (t_.out'.length:Int)),(13,.I st)])) (fun n st=>XP N t_ n st) (r:=r) (fun _=>rfl) ?_ (fun ih=>?_))
 ·intro n12 ih12
  intro c h
  replace h:XP N t_ (n12+1) c=some r:=h
  unfold XP at h
  refine Zo J 5 h (fun h=>wa J 2 (Zj [] (j1 () h))) fun h=>?_
  refine wO J 6 h fun d e h=>Zq J (XQ (rI .i64)) e (wa J 7 (ZB (σ:=Unit) (fun st=>⟨[(0,.B 0 0),(11,.S 4),(12,.I (t_.out'.length:Int)),(13,.I c)],[(0,.box (XS 1 2 3 4 t_) 170)],(Wz 1 2 3 4 t_ []),7⟩) (fun st=>Rz c (XP N t_ n12)=some r) ?_ (fun j19=>?_)))
  ·intro _ h
   replace h:Rz c (XP N t_ n12)=some r:=h
   unfold Rz at h
   exact wa J 5 (Zj [] (ih12 (Zi (c+1)) h))
  refine wa J 1 (ZF (σ:=Int) (fun st=>⟨[(0,.B 0 0),(4,.S 6),(5,.I st),(11,.S 4),(12,.I (t_.out'.length:Int)),(13,.I c)],[(0,.box (XS 1 2 3 4 t_) 170)],(Wz 1 2 3 4 t_ [(6,.sl (rI .i64) d)]),7⟩) (fun n st=>UJ N t_ c (XP N t_ n12) d n st) (r:=r) (fun _=>rfl) ?_ (fun ih=>?_))
  ·intro n14 ih21
   intro f h
   replace h:UJ N t_ c (XP N t_ n12) d (n14+1) f=some r:=h
   unfold UJ at h
   refine Zo J 8 h (fun h=>wa J 2 (Zj [] (j19 () h))) fun h=>?_
   refine wO J 14 h fun g i h=>Zq J (oI .i64) i ?_
   refine wO J 1 h fun j k h=>Zq J YH k ?_
   refine wO J 8 h fun l m h=>Zq J (oI .i64) m ?_
   refine wO J 1 h fun o p h=>Zq J YH p (wa J 5 (ZA ?_))
   refine wO J 3 h fun q s h=>Zn (Zb3 N j _ s) [] [] ?_
   refine wO J 1 h fun t u h=>Zn (Zb3 N o _ u) [] [] (R9 ?_)
   refine wB J 1 h (fun h=>wa J 6 (ZA ?_)) fun h=>wa J 6 (ZA ?_)
   ·cases h
    exact wr J 5 func190 []
   refine eB h (fun h=>?_) fun h=>wa J 8 (Zj [] (ih21 (Zi (f+1)) h))
   cases h
   exact wr J 5 func190 []
  exact Zj [] (ih N 1 h)
 exact Zj [] (ih N 0 h)
theorem Zro (N:Nat) (t_:Yz) (r:Bool) (h:QU N t_=some r) :
 Fn Tryz.prog 191 ⟨5,[.B 0 0],(Wz 1 2 3 4 t_ []),[(0,.box (XS 1 2 3 4 t_) 170)],5,.O r,[],[(0,.box (XS 1 2 3 4 t_) 170)]⟩:=by
 refine Zs func191 rfl (fun E F w=>?_)
 unfold QU at h
 refine wO J 11 h fun x1 c h=>Ue J oB c ?_
 refine wO J 10 h fun x2 d h=>Z9 J rB d (Xj J [] oB true d (wa J 8 (Z8 J [] (oI .i64) ([t_.Machine.Start]:List Int) (wa J 7 (ZB (σ:=(List Int)) (fun st=>⟨[(0,.B 0 0),(4,.S 8)],[(0,.box (XS 1 2 3 4 t_) 170),(8,.own (rI .i64) st true)],(Wz 1 2 3 4 t_ []),9⟩) (fun st=>BI t_ st=some r) ?_ (fun j1=>?_))))))
 ·intro e h
  replace h:BI t_ e=some r:=h
  unfold BI at h
  cases h
  exact wr J 12 func191 []
 refine wa J 1 (ZF (σ:=(List Bool) × (List Int) × Int) (fun st=>⟨[(0,.B 0 0),(3,.S 5),(4,.S 8),(5,.I st.2.2)],[(0,.box (XS 1 2 3 4 t_) 170),(5,.own rB st.1 true),(8,.own (rI .i64) st.2.1 true)],(Wz 1 2 3 4 t_ []),9⟩) (fun n st=>Wq N t_ n st.1 st.2.1 st.2.2) (r:=r) (fun _=>rfl) ?_ (fun ih=>?_))
 ·intro n12 ih12
  rintro ⟨f,g,i⟩ h
  replace h:Wq N t_ (n12+1) f g i=some r:=h
  unfold Wq at h
  refine Zo J 8 h (fun h=>wa J 2 (Zj [] (j1 g h))) fun h=>?_
  refine wO J 12 h fun j k h=>Z9 J (rI .i64) k (YJ J (oI .i64) k ?_)
  obtain ⟨l,m,h⟩:=ob h
  refine Zq J (XQ (rI .i64)) m (wa J 3 (ZA (ZB (σ:=(List Bool) × (List Int)) (fun st=>⟨[(0,.B 0 0),(3,.S 5),(4,.S 12),(5,.I i)],[(0,.box (XS 1 2 3 4 t_) 170),(5,.own rB st.1 true),(12,.own (rI .i64) st.2 true)],(Wz 1 2 3 4 t_ []),13⟩) (fun st=>Bm i (Wq N t_ n12) st.1 st.2=some r) ?_ (fun j19=>?_))))
  ·rintro ⟨o,p⟩ h
   replace h:Bm i (Wq N t_ n12) o p=some r:=h
   unfold Bm at h
   exact wa J 6 (Zj [(8,.sl 12)] (ih12 (o,p,(Zi (i+1))) h))
  refine wa J 1 (ZF (σ:=(List Bool) × (List Int) × Int) (fun st=>⟨[(0,.B 0 0),(3,.S 5),(4,.S 12),(5,.I i),(43,.S 11),(44,.I (l.length:Int)),(45,.I st.2.2)],[(0,.box (XS 1 2 3 4 t_) 170),(5,.own rB st.1 true),(12,.own (rI .i64) st.2.1 true)],(Wz 1 2 3 4 t_ [(11,.sl (rI .i64) l)]),13⟩) (fun n st=>VY t_ i (Wq N t_ n12) l n st.1 st.2.1 st.2.2) (r:=r) (fun _=>rfl) ?_ (fun ih=>?_))
  ·intro n14 ih21
   rintro ⟨q,s,t⟩ h
   replace h:VY t_ i (Wq N t_ n12) l (n14+1) q s t=some r:=h
   unfold VY at h
   refine Zo J 5 h (fun h=>wa J 2 (Zj [] (j19 (q,s) h))) fun h=>?_
   refine wO J 6 h fun u v h=>Zq J (oI .i64) v ?_
   refine wO J 11 h fun x y h=>Zq J YH y ?_
   refine wO J 8 h fun z A h=>Z9 J rB A (YJ J oB A ?_)
   refine Zo J 2 h (fun h=>wa J 7 (Zj [] (ih21 (q,s,(Zi (t+1))) h))) fun h=>?_
   refine wO J 5 h fun C D h=>Z9 J rB D (Xj J [] oB true D (wa J 4 (Z8 J [] (oI .i64) ([x.To]:List Int) ?_)))
   obtain ⟨G,H,h⟩:=ob h
   exact Yr J (rI .i64) H (wa J 7 (Zj [(12,.sl 18)] (ih21 ((ZW q x.To true),G,(Zi (t+1))) h)))
  exact Zj [(12,.sl 8)] (ih N (f,g,0) h)
 exact Zj [(8,.sl 7)] (ih N ((ZW x1 t_.Machine.Start true),([t_.Machine.Start]:List Int),0) h)
theorem ZmM (N:Nat) (t_:Yz) (r:Bool) (h:Mu N t_=some r) :
 Fn Tryz.prog 192 ⟨5,[.B 0 0],(Wz 1 2 3 4 t_ []),[(0,.box (XS 1 2 3 4 t_) 170)],5,.O r,[],[(0,.box (XS 1 2 3 4 t_) 170)]⟩:=by
 refine Zs func192 rfl (fun E F w=>?_)
 unfold Mu at h
 refine wa J 15 (ZB (σ:=Unit) (fun st=>(M6 t_ [])) (fun st=>Zav=some r) ?_ (fun j1=>?_))
 ·intro _ h
  replace h:Zav=some r:=h
  unfold Zav at h
  cases h
  exact wr J 4 func192 []
 refine wa J 1 (ZF (σ:=Int) (fun st=>(M6 t_ [(0,.B 0 0),(11,.S 2),(12,.I (t_.Machine.Moves.length:Int)),(13,.I st)])) (fun n st=>XZ N t_ n st) (r:=r) (fun _=>rfl) ?_ (fun ih=>?_))
 ·intro n12 ih12
  intro c h
  replace h:XZ N t_ (n12+1) c=some r:=h
  unfold XZ at h
  refine Zo J 5 h (fun h=>wa J 2 (Zj [] (j1 () h))) fun h=>?_
  refine wO J 6 h fun d e h=>Zq J YH e ?_
  refine wB J 11 h (fun h=>wa J 6 (Zj [] (ih12 (Zi (c+1)) h))) fun h=>?_
  refine wB J 9 h (fun h=>wa J 32 (ZA ?_)) fun h=>?_
  ·cases h
   exact wr J 5 func192 []
  refine wO J 6 h fun f g h=>Zq J (XQ (rI .i64)) g ?_
  refine wB J 5 h (fun h=>wa J 20 (ZA ?_)) fun h=>?_
  ·cases h
   exact wr J 5 func192 []
  refine wB J 10 h (fun h=>wa J 10 (ZA ?_)) fun h=>?_
  ·cases h
   exact wr J 5 func192 []
  refine wO J 7 h fun i j h=>Zq J oB j (wa J 2 (ZA ?_))
  refine eB h (fun h=>?_) fun h=>wa J 12 (ZB (σ:=Unit) (fun st=>⟨[(0,.B 0 0),(11,.S 2),(12,.I (t_.Machine.Moves.length:Int)),(13,.I c)],[(0,.box (XS 1 2 3 4 t_) 170)],(Wz 1 2 3 4 t_ []),10⟩) (fun st=>Px c (XZ N t_ n12)=some r) ?_ (fun j19=>?_))
  ·cases h
   exact wr J 5 func192 []
  ·intro _ h
   replace h:Px c (XZ N t_ n12)=some r:=h
   unfold Px at h
   exact wa J 5 (Zj [] (ih12 (Zi (c+1)) h))
  refine wa J 1 (ZF (σ:=Int) (fun st=>⟨[(0,.B 0 0),(4,.B 6 0),(11,.S 2),(12,.I (t_.Machine.Moves.length:Int)),(13,.I c),(60,.S 2),(61,.I (t_.Machine.Moves.length:Int)),(62,.I st)],[(0,.box (XS 1 2 3 4 t_) 170),(6,.box (UF d) 52)],(Wz 1 2 3 4 t_ []),10⟩) (fun n st=>V7 t_ c (XZ N t_ n12) d n st) (r:=r) (fun _=>rfl) ?_ (fun ih=>?_))
  ·intro n14 ih21
   intro k h
   replace h:V7 t_ c (XZ N t_ n12) d (n14+1) k=some r:=h
   unfold V7 at h
   refine Zo J 5 h (fun h=>wa J 2 (Zj [] (j19 () h))) fun h=>?_
   refine wO J 6 h fun l m h=>Zq J YH m ?_
   refine Zo J 12 h (fun h=>wa J 19 (Zj [] (ih21 (Zi (k+1)) h))) fun h=>?_
   refine wB J 4 h (fun h=>?_) fun h=>?_
   ·cases h
    exact wr J 13 func192 []
   refine wB J 8 h (fun h=>?_) fun h=>wa J 7 (Zj [] (ih21 (Zi (k+1)) h))
   cases h
   exact wr J 5 func192 []
  exact Zj [] (ih N 0 h)
 exact Zj [] (ih N 0 h)
theorem ZsE (N:Nat) (t_:Yz) (r:Bool) (h:Mb N t_=some r) :
 Fn Tryz.prog 193 ⟨5,[.B 0 0],(Wz 1 2 3 4 t_ []),[(0,.box (XS 1 2 3 4 t_) 170)],5,.O r,[],[(0,.box (XS 1 2 3 4 t_) 170)]⟩:=by
 refine Zs func193 rfl (fun E F w=>?_)
 unfold Mb at h
 refine wa J 15 (ZB (σ:=Unit) (fun st=>(M6 t_ [])) (fun st=>ZaC=some r) ?_ (fun j1=>?_))
 ·intro _ h
  replace h:ZaC=some r:=h
  unfold ZaC at h
  cases h
  exact wr J 4 func193 []
 refine wa J 1 (ZF (σ:=Int) (fun st=>(M6 t_ [(0,.B 0 0),(10,.S 3),(11,.I (t_.Machine.Timeouts.length:Int)),(12,.I st)])) (fun n st=>YF t_ n st) (r:=r) (fun _=>rfl) ?_ (fun ih=>?_))
 ·intro n2 ih6
  intro c h
  replace h:YF t_ (n2+1) c=some r:=h
  unfold YF at h
  refine Zo J 5 h (fun h=>wa J 2 (Zj [] (j1 () h))) fun h=>?_
  refine wO J 7 h fun d e h=>Zq J Uv e ?_
  refine wa J 11 (ZB (σ:=Bool) (fun st=>⟨[(0,.B 0 0),(4,.B 6 0),(10,.S 3),(11,.I (t_.Machine.Timeouts.length:Int)),(12,.I c),(59,.O st)],[(0,.box (XS 1 2 3 4 t_) 170),(6,.box (GK d) 54)],(Wz 1 2 3 4 t_ []),7⟩) (fun st=>Xh t_ c (YF t_ n2) d st=some r) ?_ (fun j9=>?_))
  ·intro f h
   replace h:Xh t_ c (YF t_ n2) d f=some r:=h
   unfold Xh at h
   refine eB h (fun h=>?_) fun h=>?_
   ·cases h
    exact wr J 5 func193 []
   refine wO J 11 h fun g i h=>Zq J YH i (wa J 3 (ZA ?_))
   refine wB J 8 h (fun h=>?_) fun h=>?_
   ·cases h
    exact wr J 14 func193 []
   refine wB J 5 h (fun h=>?_) fun h=>?_
   ·cases h
    exact wr J 9 func193 []
   refine wB J 4 h (fun h=>?_) fun h=>wa J 7 (Zj [] (ih6 (Zi (c+1)) h))
   cases h
   exact wr J 5 func193 []
  refine VH h (fun h=>?_) fun h=>?_
  ·refine wB J 20 h (fun h=>wa J 20 (ZA (Zj [] (j9 true h)))) fun h=>?_
   refine wB J 5 h (fun h=>wa J 15 (ZA (Zj [] (j9 true h)))) fun h=>?_
   exact wB J 5 h (fun h=>wa J 10 (ZA (Zj [] (j9 true h)))) fun h=>wa J 10 (ZA (Zj [] (j9 (decide (d.Else≥(t_.Machine.Moves.length:Int))) h)))
  refine wO J 7 h fun j k h=>Zq J Uv k ?_
  refine wB J 7 h (fun h=>wa J 25 (ZA (Zj [] (j9 true h)))) fun h=>?_
  refine wB J 5 h (fun h=>wa J 20 (ZA (Zj [] (j9 true h)))) fun h=>?_
  refine wB J 5 h (fun h=>wa J 15 (ZA (Zj [] (j9 true h)))) fun h=>?_
  exact wB J 5 h (fun h=>wa J 10 (ZA (Zj [] (j9 true h)))) fun h=>wa J 10 (ZA (Zj [] (j9 (decide (d.Else≥(t_.Machine.Moves.length:Int))) h)))
 exact Zj [] (ih N 0 h)
theorem Zii (N:Nat) (m_:T8) (r:(Option Yz) × Bool) (h:Tt N m_=some r) :
 Fn Tryz.prog 107 ⟨3,[.a (ZX 0 1 2 m_)],(ZZ 0 1 2 m_ []),[],8,(Pq r.1 (.t [.inl (.v (.pointer none)),.inl (.b r.2)]) fun q=>.t [.inl (.bp 3 0),.inl (.b r.2)]),(Pq r.1 [] fun q=>(Wz 4 5 6 7 q [])),(Pq r.1 [] fun q=>[(3,.box (XS 4 5 6 7 q) 170)])⟩:=by
 refine Zs func107 rfl (fun E F w=>?_)
 unfold Tt at h
 refine wO J 10 h fun x1 c h=>Zn (ZqG N m_ _ c) [] [(0,.sl 0),(1,.sl 1),(2,.sl 2)] ?_
 refine wB J 2 h (fun h=>?_) fun h=>?_
 ·cases h
  exact wr J 6 func107 []
 refine wO J 5 h fun x2 d h=>Zn (Zrb N m_ _ d) [] [(0,.sl 0),(1,.sl 1),(2,.sl 2)] ?_
 refine wO J 6 h fun x3 e h=>Zn (ZmK N x2 _ e) [] [(0,.bp 4 0),(1,.sl 5),(2,.sl 6),(3,.sl 7),(4,.sl 8)] ?_
 refine Zo J 1 h (fun h=>?_) fun h=>?_
 ·cases h
  exact wr J 14 func107 [(3,.bp 4 0),(4,.sl 5),(5,.sl 6),(6,.sl 7),(7,.sl 8)]
 refine wO J 1 h fun x4 f h=>Zn (Zro N x2 _ f) [] [(0,.bp 4 0),(1,.sl 5),(2,.sl 6),(3,.sl 7),(4,.sl 8)] ?_
 refine Zo J 2 h (fun h=>?_) fun h=>?_
 ·cases h
  exact wr J 10 func107 [(3,.bp 4 0),(4,.sl 5),(5,.sl 6),(6,.sl 7),(7,.sl 8)]
 refine wO J 1 h fun x5 g h=>Zn (ZmM N x2 _ g) [] [(0,.bp 4 0),(1,.sl 5),(2,.sl 6),(3,.sl 7),(4,.sl 8)] ?_
 refine Zo J 2 h (fun h=>?_) fun h=>?_
 ·cases h
  exact wr J 6 func107 [(3,.bp 4 0),(4,.sl 5),(5,.sl 6),(6,.sl 7),(7,.sl 8)]
 refine wO J 1 h fun x6 i h=>Zn (ZsE N x2 _ i) [] [(0,.bp 4 0),(1,.sl 5),(2,.sl 6),(3,.sl 7),(4,.sl 8)] ?_
 cases h
 exact wr J 4 func107 [(3,.bp 4 0),(4,.sl 5),(5,.sl 6),(6,.sl 7),(7,.sl 8)]
theorem ZiR (N:Nat) (m_:T8) (r:(Option Yz) × Bool) (h:Tt N m_=some r) (ho:r.1=none):Fn Tryz.prog 107 ⟨3,[.a (ZX 0 1 2 m_)],(ZZ 0 1 2 m_ []),[],8,.t [.inl (.v (.pointer none)),.inl (.b r.2)],[],[]⟩:=by
 have hf:=Zii N m_ r h
 rw [ho] at hf
 exact hf
theorem ZfC (N:Nat) (m_:T8) (r:(Option Yz) × Bool) (h:Tt N m_=some r) (q:Yz) (ho:r.1=some q):Fn Tryz.prog 107 ⟨3,[.a (ZX 0 1 2 m_)],(ZZ 0 1 2 m_ []),[],8,.t [.inl (.bp 3 0),.inl (.b r.2)],(Wz 4 5 6 7 q []),[(3,.box (XS 4 5 6 7 q) 170)]⟩:=by
 have hf:=Zii N m_ r h
 rw [ho] at hf
 exact hf
theorem ZhS (N:Nat) (m_:T8) (r:Bool) (h:Tm N m_=some r) :
 Fn Tryz.prog 134 ⟨3,[.a (ZX 0 1 2 m_)],(ZZ 0 1 2 m_ []),[],3,.O r,[],[]⟩:=by
 refine Zs func134 rfl (fun E F w=>?_)
 unfold Tm at h
 obtain ⟨x1,c,h⟩:=ob h
 rcases oO h with ⟨ox1,h⟩ | ⟨q2,ox1,h⟩
 ·refine wa J 8 (Zn (ZiR N m_ _ c ox1) [] [(0,.sl 0),(1,.sl 1),(2,.sl 2)] ?_)
  cases h
  exact wr J 11 func134 []
 refine wa J 8 (Zn (ZfC N m_ _ c q2 ox1) [] [(0,.sl 0),(1,.sl 1),(2,.sl 2)] ?_)
 cases h
 exact wr J 11 func134 []
theorem Zp1 (N:Nat) (x_:T9) (c0_:T5) (r:Bool) (h:Pj N x_ c0_=some r) :
 Fn Tryz.prog 132 ⟨5,[.a (UF x_),.B 0 0],(Yh 1 2 3 4 c0_ []),[(0,.box (ZT 1 2 3 4 c0_) 27)],5,.O r,[],[(0,.box (ZT 1 2 3 4 c0_) 27)]⟩:=by
 refine Zs func132 rfl (fun E F w=>?_)
 unfold Pj at h
 refine wB J 14 h (fun h=>?_) fun h=>?_
 ·cases h
  exact wr J 9 func132 []
 cases h
 exact wr J 9 func132 []
theorem Znj (N:Nat) (s_:(List T9)) (c0_:T5) (r:Int) (h:Hr N s_ c0_=some r) :
 Fn Tryz.prog 92 ⟨6,[.S 0,.c (.cl 132 [] [1])],((0,.sl Xn s_)::Yh 2 3 4 5 c0_ []),[(1,.box (ZT 2 3 4 5 c0_) 27)],6,.I r,[],[(1,.box (ZT 2 3 4 5 c0_) 27)]⟩:=by
 refine Zs func92 rfl (fun E F w=>?_)
 unfold Hr at h
 refine wa J 11 (ZB (σ:=Unit) (fun st=>⟨[],[(1,.box (ZT 2 3 4 5 c0_) 27)],((0,.sl Xn s_)::Yh 2 3 4 5 c0_ []),6⟩) (fun st=>ZaR=some r) ?_ (fun j1=>?_))
 ·intro _ h
  replace h:ZaR=some r:=h
  unfold ZaR at h
  cases h
  exact wr J 4 func92 []
 refine wa J 1 (ZF (σ:=Int) (fun st=>⟨[(0,.S 0),(1,.c (.cl 132 [] [1])),(7,.I (s_.length:Int)),(8,.I st)],[(1,.box (ZT 2 3 4 5 c0_) 27)],((0,.sl Xn s_)::Yh 2 3 4 5 c0_ []),6⟩) (fun n st=>UI N s_ c0_ n st) (r:=r) (fun _=>rfl) ?_ (fun ih=>?_))
 ·intro n2 ih3
  intro d h
  replace h:UI N s_ c0_ (n2+1) d=some r:=h
  unfold UI at h
  refine Zo J 5 h (fun h=>wa J 2 (Zj [] (j1 () h))) fun h=>?_
  refine wO J 14 h fun e f h=>Zq J YH f ?_
  refine wO J 1 h fun g i h=>Zn (Zp1 N e c0_ _ i) [] [(0,.bp 1 0),(1,.sl 2),(2,.sl 3),(3,.sl 4),(4,.sl 5)] ?_
  refine wB J 1 h (fun h=>?_) fun h=>wa J 7 (Zj [] (ih3 (Zi (d+1)) h))
  cases h
  exact wr J 6 func92 []
 exact Zj [] (ih N 0 h)
theorem Zpl (N:Nat) (s_:(List T9)) (c0_:T5) (r:Bool) (h:HE N s_ c0_=some r) :
 Fn Tryz.prog 135 ⟨6,[.S 0,.c (.cl 132 [] [1])],((0,.sl Xn s_)::Yh 2 3 4 5 c0_ []),[(1,.box (ZT 2 3 4 5 c0_) 27)],6,.O r,[],[(1,.box (ZT 2 3 4 5 c0_) 27)]⟩:=by
 refine Zs func135 rfl (fun E F w=>?_)
 unfold HE at h
 refine wO J 8 h fun x1 d h=>Zn (Znj N s_ c0_ _ d) [] [(0,.sl 0),(1,.bp 1 0),(2,.sl 2),(3,.sl 3),(4,.sl 4),(5,.sl 5)] ?_
 cases h
 exact wr J 3 func135 []
theorem Zji (N:Nat) (g_:T5) (m_:T8) (r:Bool) (h:Vb N g_ m_=some r) :
 Fn Tryz.prog 60 ⟨7,[.a (ZT 0 1 2 3 g_),.a (ZX 4 5 6 m_)],((0,.sl rS g_.Roles)::(1,.sl ZL g_.Decls)::(2,.sl Yf g_.Edges)::(3,.sl Z2 g_.Timeouts)::ZZ 4 5 6 m_ []),[],7,.O r,[],[]⟩:=by
 refine Zs func60 rfl (fun E F w=>?_)
 unfold Vb at h
 refine wO J 14 h fun x1 c h=>Zn (ZpI N g_ _ c) [] [(0,.sl 0),(1,.sl 1),(2,.sl 2),(3,.sl 3)] ?_
 refine Zo J 1 h (fun h=>?_) fun h=>?_
 ·cases h
  exact wr J 20 func60 []
 refine wO J 1 h fun x2 d h=>Zn (ZhS N m_ _ d) [] [(0,.sl 4),(1,.sl 5),(2,.sl 6)] ?_
 refine Zo J 2 h (fun h=>?_) fun h=>?_
 ·cases h
  exact wr J 16 func60 []
 refine Zo J 8 h (fun h=>?_) fun h=>?_
 ·cases h
  exact wr J 8 func60 []
 refine wO J 3 h fun x3 e h=>Zn (Zpl N m_.Moves g_ _ e) [] [(0,.sl 5),(1,.bp 7 0),(2,.sl 0),(3,.sl 1),(4,.sl 2),(5,.sl 3)] ?_
 cases h
 exact wr J 4 func60 []
theorem Zfz (N:Nat) (g_:T5) (r:(List T4)) (h:Hv N g_=some r) :
 Fn Tryz.prog 61 ⟨4,[.a (ZT 0 1 2 3 g_)],(Yh 0 1 2 3 g_ []),[],5,.S 4,[],[(4,.own YM r true)]⟩:=by
 refine Zs func61 rfl (fun E F w=>?_)
 unfold Hv at h
 refine wa J 17 (ZB (σ:=(List T4)) (fun st=>⟨[(3,.S 5)],[(5,.own YM st true)],(Yh 0 1 2 3 g_ []),6⟩) (fun st=>Dk st=some r) ?_ (fun j1=>?_))
 ·intro c h
  replace h:Dk c=some r:=h
  unfold Dk at h
  cases h
  exact wr J 5 func61 [(4,.sl 5)]
 refine wa J 1 (ZF (σ:=(List T4) × Int) (fun st=>⟨[(3,.S 5),(7,.S 1),(8,.I (g_.Decls.length:Int)),(9,.I st.2)],[(5,.own YM st.1 true)],(Yh 0 1 2 3 g_ []),6⟩) (fun n st=>RC g_ n st.1 st.2) (r:=r) (fun _=>rfl) ?_ (fun ih=>?_))
 ·intro n2 ih3
  rintro ⟨d,e⟩ h
  replace h:RC g_ (n2+1) d e=some r:=h
  unfold RC at h
  refine Zo J 5 h (fun h=>wa J 2 (Zj [] (j1 d h))) fun h=>?_
  refine wO J 6 h fun f g h=>Zq J Yg g ?_
  exact wO J 8 h fun i j h=>Yr J YM j (wa J 7 (Zj [(5,.sl 11)] (ih3 (i,(Zi (e+1))) h)))
 exact Zj [(5,.nil)] (ih N (([]:List T4),0) h)
theorem ZeR (N:Nat) (g_:T5) (m_:T8) (r:ZJ) (h:z24 N g_ m_=some r) :
 Fn Tryz.prog 24 ⟨7,[.a (ZT 0 1 2 3 g_),.a (ZX 4 5 6 m_)],((0,.sl rS g_.Roles)::(1,.sl ZL g_.Decls)::(2,.sl Yf g_.Edges)::(3,.sl Z2 g_.Timeouts)::ZZ 4 5 6 m_ []),[],9,.a (Xy 7 8 r),(XG 7 8 r []),[]⟩:=by
 refine Zs func24 rfl (fun E F w=>?_)
 unfold z24 at h
 refine wO J 11 h fun x1 c h=>Zn (Zji N g_ m_ _ c) [] [(0,.sl 0),(1,.sl 1),(2,.sl 2),(3,.sl 3),(4,.sl 4),(5,.sl 5),(6,.sl 6)] ?_
 refine wB J 2 h (fun h=>?_) fun h=>?_
 ·cases h
  exact wr J 6 func24 [(7,.nil),(8,.nil)]
 refine wO J 7 h fun x2 d h=>Zn (Zfz N g_ _ d) [] [(0,.sl 0),(1,.sl 1),(2,.sl 2),(3,.sl 3)] ?_
 refine wO J 1 h fun x3 e h=>Ue J Z5 e (wa J 2 (ZA (UD [11] ?_)))
 cases h
 exact Z4 J func24 [(7,.sl 11),(8,.nil)]
theorem Zfm (N:Nat) (v_:Zm) (r:Int) (h:My N v_=some r) :
 Fn Tryz.prog 167 ⟨0,[.a (Xx v_)],[],[],0,.I r,[],[]⟩:=by
 refine Zs func167 rfl (fun E F w=>?_)
 unfold My at h
 refine wB J 17 h (fun h=>?_) fun h=>?_
 ·cases h
  exact wr J 7 func167 []
 refine wB J 6 h (fun h=>?_) fun h=>?_
 ·cases h
  exact wr J 8 func167 []
 cases h
 exact wr J 7 func167 []
theorem ZqT (N:Nat) (s_:Yb) (r:Bool) (h:LW N s_=some r) :
 Fn Tryz.prog 168 ⟨0,[.a (UG s_)],[],[],0,.O r,[],[]⟩:=by
 refine Zs func168 rfl (fun E F w=>?_)
 unfold LW at h
 refine wa J 22 (ZB (σ:=Int × Int) (fun st=>⟨[(1,.B 0 0),(3,.I st.1),(4,.I st.2)],[(0,.box (UG s_) 66)],[],1⟩) (fun st=>Mw s_ st.1 st.2=some r) ?_ (fun j1=>?_))
 ·rintro ⟨c,d⟩ h
  replace h:Mw s_ c d=some r:=h
  unfold Mw at h
  refine Zo J 8 h (fun h=>?_) fun h=>?_
  ·cases h
   exact wr J 14 func168 []
  refine wB J 7 h (fun h=>?_) fun h=>?_
  ·cases h
   exact wr J 7 func168 []
  cases h
  exact wr J 7 func168 []
 refine eB h (fun h=>wa J 5 (Zj [] (j1 ((-1000),1000) h))) fun h=>?_
 refine wB J 6 h (fun h=>wa J 5 (Zj [] (j1 (0,40) h))) fun h=>?_
 cases h
 exact wr J 5 func168 []
theorem Zqp (N:Nat) (c_:Int) (r:Bool) (h:By N c_=some r) :
 Fn Tryz.prog 269 ⟨0,[.c (.i .i32 c_)],[],[],0,.O r,[],[]⟩:=by
 refine Zs func269 rfl (fun E F w=>?_)
 unfold By at h
 refine wB J 9 h (fun h=>?_) fun h=>?_
 ·cases h
  exact wr J 5 func269 []
 cases h
 exact wr J 5 func269 []
theorem Zpe (N:Nat) (s_:ByteArray) (truth_:Bool) (r:Int) (h:Zcx N s_ truth_=some r) :
 Fn Tryz.prog 294 ⟨0,[.c (.s s_),.c (.cl 269 [] []),.O truth_],[],[],0,.I r,[],[]⟩:=by
 refine Zs func294 rfl (fun E F w=>?_)
 unfold Zcx at h
 refine wa J 8 (eRn J (fun bk1=>wa J 1 (ZB (σ:=Nat) (fun st=>(Mq (WE bk1 s_ st) [])) (fun st=>Zbs st=some r) ?_ (fun j1=>?_))))
 ·intro vi0_1 h
  replace h:Zbs vi0_1=some r:=h
  unfold Zbs at h
  cases h
  exact wr J 4 func294 []
 refine wa J 1 (ZF (σ:=Nat) (fun st=>(Mq (WE bk1 s_ st) [(1,.c (.cl 269 [] [])),(2,.O truth_),(10,.c (.v (.pointer (some ⟨bk1,0,none⟩))))])) (fun n st=>RM N s_ truth_ n st) (r:=r) (fun _=>rfl) ?_ (fun ih=>?_))
 ·intro n2 ih3
  intro vi0_3 h
  replace h:RM N s_ truth_ (n2+1) vi0_3=some r:=h
  unfold RM at h
  obtain ⟨K,h⟩|⟨K,h⟩:=BZ h
  ·exact wa J 2 (eNf bk1 0 K (wa J 5 (Zj [] (j1 vi0_3 h))))
  refine wa J 2 (eNt bk1 0 K ?_)
  refine wO J 17 h fun d e h=>Zn (Zqp N ((Utf8.decode s_ vi0_3).1:Int) _ e) [] [] ?_
  refine wB J 3 h (fun h=>?_) fun h=>wa J 3 (Zj [] (ih3 (vi0_3+(Utf8.decode s_ vi0_3).2) h))
  cases h
  exact wr J 6 func294 []
 exact Zj [] (ih N (0:Nat) h)
theorem ZrZ (N:Nat) (s_:ByteArray) (r:Int) (h:ZcA N s_=some r) :
 Fn Tryz.prog 275 ⟨0,[.c (.s s_),.c (.cl 269 [] [])],[],[],0,.I r,[],[]⟩:=by
 refine Zs func275 rfl (fun E F w=>?_)
 unfold ZcA at h
 refine wO J 8 h fun x1 d h=>Zn (Zpe N s_ true _ d) [] [] ?_
 cases h
 exact wr J 2 func275 []
theorem ZmP (N:Nat) (s_:ByteArray) (r:Bool) (h:G9 N s_=some r) :
 Fn Tryz.prog 246 ⟨0,[.c (.s s_),.c (.cl 269 [] [])],[],[],0,.O r,[],[]⟩:=by
 refine Zs func246 rfl (fun E F w=>?_)
 unfold G9 at h
 refine wO J 8 h fun x1 d h=>Zn (ZrZ N s_ _ d) [] [] ?_
 cases h
 exact wr J 3 func246 []
theorem Znl (N:Nat) (s_:ByteArray) (r:Bool) (h:ZcD N s_=some r) :
 Fn Tryz.prog 230 ⟨0,[.c (.s s_)],[],[],0,.O r,[],[]⟩:=by
 refine Zs func230 rfl (fun E F w=>?_)
 unfold ZcD at h
 refine wO J 7 h fun x1 d h=>Zn (ZmP N s_ _ d) [] [] ?_
 cases h
 exact wr J 3 func230 []
theorem Zih (N:Nat) (v_:Zm) (r:Bool) (h:Mp N v_=some r) :
 Fn Tryz.prog 169 ⟨0,[.a (Xx v_)],[],[],0,.O r,[],[]⟩:=by
 refine Zs func169 rfl (fun E F w=>?_)
 unfold Mp at h
 refine wB J 17 h (fun h=>?_) fun h=>?_
 ·refine Zo J 7 h (fun h=>?_) fun h=>?_
  ·cases h
   exact wr J 11 func169 []
  refine wB J 5 h (fun h=>?_) fun h=>?_
  ·cases h
   exact wr J 6 func169 []
  cases h
  exact wr J 6 func169 []
 refine Zo J 6 h (fun h=>?_) fun h=>?_
 ·cases h
  exact wr J 7 func169 []
 refine Zo J 7 h (fun h=>?_) fun h=>?_
 ·cases h
  exact wr J 12 func169 []
 refine Zo J 6 h (fun h=>?_) fun h=>?_
 ·cases h
  exact wr J 6 func169 []
 refine wO J 2 h fun x1 c h=>Zn (Znl N v_.S _ c) [] [] ?_
 cases h
 exact wr J 3 func169 []
theorem Zdx (N:Nat) (s_:Yb) (v_:Zm) (r:Bool) (h:Q6 N s_ v_=some r) :
 Fn Tryz.prog 90 ⟨0,[.a (UG s_),.a (Xx v_)],[],[],0,.O r,[],[]⟩:=by
 refine Zs func90 rfl (fun E F w=>?_)
 unfold Q6 at h
 refine wO J 9 h fun x1 c h=>Zn (Zfm N v_ _ c) [] [] ?_
 refine wO J 5 h fun x2 d h=>Zn (ZqT N s_ _ d) [] [] ?_
 refine Zo J 1 h (fun h=>?_) fun h=>?_
 ·cases h
  exact wr J 24 func90 []
 refine wO J 1 h fun x3 e h=>Zn (Zih N v_ _ e) [] [] ?_
 refine Zo J 2 h (fun h=>?_) fun h=>?_
 ·cases h
  exact wr J 20 func90 []
 refine Zo J 7 h (fun h=>?_) fun h=>?_
 ·cases h
  exact wr J 13 func90 []
 refine wB J 6 h (fun h=>?_) fun h=>?_
 ·cases h
  exact wr J 7 func90 []
 cases h
 exact wr J 7 func90 []
theorem ZkF (N:Nat) (f_:T4) (v_:Zm) (r:Bool) (h:z89 N f_ v_=some r) :
 Fn Tryz.prog 89 ⟨0,[.a (WM f_),.a (Xx v_)],[],[],0,.O r,[],[]⟩:=by
 refine Zs func89 rfl (fun E F w=>?_)
 unfold z89 at h
 refine wa J 10 (R9 ?_)
 refine wB J 1 h (fun h=>?_) fun h=>?_
 ·cases h
  exact wr J 7 func89 []
 refine wO J 3 h fun x1 c h=>Zn (Zdx N f_.Sort' v_ _ c) [] [] ?_
 cases h
 exact wr J 3 func89 []
theorem ZqM (N:Nat) (s1_:(List T4)) (s2_:(List Zm)) (r:Bool) (h:Hd N s1_ s2_=some r) :
 Fn Tryz.prog 91 ⟨2,[.S 0,.S 1,.c (.cl 89 [] [])],[(0,.sl YM s1_),(1,.sl ZD s2_)],[],2,.O r,[],[]⟩:=by
 refine Zs func91 rfl (fun E F w=>?_)
 unfold Hd at h
 refine wB J 13 h (fun h=>?_) fun h=>wa J 9 (ZB (σ:=Unit) (fun st=>(Rp s1_ s2_ [])) (fun st=>Bd=some r) ?_ (fun j1=>?_))
 ·cases h
  exact wr J 5 func91 []
 ·intro _ h
  replace h:Bd=some r:=h
  unfold Bd at h
  cases h
  exact wr J 4 func91 []
 refine wa J 1 (ZF (σ:=Int) (fun st=>(Rp s1_ s2_ [(1,.S 1),(2,.c (.cl 89 [] [])),(15,.S 0),(16,.I (s1_.length:Int)),(17,.I st)])) (fun n st=>SU N s1_ s2_ n st) (r:=r) (fun _=>rfl) ?_ (fun ih=>?_))
 ·intro n2 ih3
  intro d h
  replace h:SU N s1_ s2_ (n2+1) d=some r:=h
  unfold SU at h
  refine Zo J 5 h (fun h=>wa J 2 (Zj [] (j1 () h))) fun h=>?_
  refine wO J 7 h fun e f h=>Zq J Xq f ?_
  refine wO J 9 h fun g i h=>Zq J Z5 i ?_
  refine wO J 9 h fun j k h=>Zn (ZkF N e g _ k) [] [] ?_
  refine wB J 2 h (fun h=>?_) fun h=>wa J 7 (Zj [] (ih3 (Zi (d+1)) h))
  cases h
  exact wr J 5 func91 []
 exact Zj [] (ih N 0 h)
theorem ZcQ (N:Nat) (g_:T5) (m_:T8) (s_:ZJ) (r:Bool) (h:z46 N g_ m_ s_=some r) :
 Fn Tryz.prog 46 ⟨9,[.a (ZT 0 1 2 3 g_),.a (ZX 4 5 6 m_),.a (Xy 7 8 s_)],((0,.sl rS g_.Roles)::(1,.sl ZL g_.Decls)::(2,.sl Yf g_.Edges)::(3,.sl Z2 g_.Timeouts)::(4,.sl rB m_.Finals)::(5,.sl Xn m_.Moves)::(6,.sl Z2 m_.Timeouts)::XG 7 8 s_ []),[],9,.O r,[],[]⟩:=by
 refine Zs func46 rfl (fun E F w=>?_)
 unfold z46 at h
 refine wO J 15 h fun x1 c h=>Zn (Zji N g_ m_ _ c) [] [(0,.sl 0),(1,.sl 1),(2,.sl 2),(3,.sl 3),(4,.sl 4),(5,.sl 5),(6,.sl 6)] ?_
 refine Zo J 1 h (fun h=>wa J 20 (ZA ?_)) fun h=>?_
 ·cases h
  exact Z4 J func46 []
 refine Zo J 5 h (fun h=>wa J 15 (ZA ?_)) fun h=>?_
 ·cases h
  exact Z4 J func46 []
 refine Zo J 7 h (fun h=>wa J 8 (ZA ?_)) fun h=>?_
 ·cases h
  exact Z4 J func46 []
 refine wO J 1 h fun x2 d h=>Zn (Zfz N g_ _ d) [] [(0,.sl 0),(1,.sl 1),(2,.sl 2),(3,.sl 3)] ?_
 refine wO J 3 h fun x3 e h=>Xe (ZqM N x2 s_.Known _ e) [] [(0,.sl 12),(1,.sl 7)] [12] (.inr ⟨rfl,trivial⟩) (wa J 2 (ZA ?_))
 cases h
 exact Z4 J func46 []
theorem Zpu (N:Nat) (g_:T5) (m_:T8) (r:Bool) (h:QH N g_ m_=some r) :
 Fn Tryz.prog 30 ⟨7,[.a (ZT 0 1 2 3 g_),.a (ZX 4 5 6 m_)],((0,.sl rS g_.Roles)::(1,.sl ZL g_.Decls)::(2,.sl Yf g_.Edges)::(3,.sl Z2 g_.Timeouts)::ZZ 4 5 6 m_ []),[],7,.O r,[],[]⟩:=by
 refine Zs func30 rfl (fun E F w=>?_)
 unfold QH at h
 refine wO J 12 h fun x1 c h=>Zn (ZeR N g_ m_ _ c) [] [(0,.sl 0),(1,.sl 1),(2,.sl 2),(3,.sl 3),(4,.sl 4),(5,.sl 5),(6,.sl 6)] ?_
 obtain ⟨x2,d,h⟩:=ob h
 refine Zn (ZcQ N g_ m_ x1 _ d) [] [(0,.sl 0),(1,.sl 1),(2,.sl 2),(3,.sl 3),(4,.sl 4),(5,.sl 5),(6,.sl 6),(7,.sl 9),(8,.sl 10)] (wa J 1 (ZA ?_))
 cases h
 exact Z4 J func30 []
theorem Zfc (N:Nat) (m_:T8) (state_:Int) (r:(List Int)) (h:z53 N m_ state_=some r) :
 Fn Tryz.prog 53 ⟨3,[.a (ZX 0 1 2 m_),.I state_],(ZZ 0 1 2 m_ []),[],4,.S 3,[(3,.sl (rI .i64) r)],[]⟩:=by
 refine Zs func53 rfl (fun E F w=>?_)
 unfold z53 at h
 obtain ⟨x1,c,h⟩:=ob h
 rcases oO h with ⟨ox1,h⟩ | ⟨q2,ox1,h⟩
 ·refine wa J 8 (Zn (ZiR N m_ _ c ox1) [] [(0,.sl 0),(1,.sl 1),(2,.sl 2)] ?_)
  refine wB J 12 h (fun h=>?_) fun h=>?_
  ·cases h
   exact wr J 15 func53 [(3,.nil)]
  refine wB J 4 h (fun h=>?_) fun h=>?_
  ·cases h
   exact wr J 11 func53 [(3,.nil)]
  refine wB J 6 h (fun h=>?_) fun h=>?_
  ·cases h
   exact wr J 5 func53 [(3,.nil)]
  cases h
 refine wa J 8 (Zn (ZfC N m_ _ c q2 ox1) [] [(0,.sl 0),(1,.sl 1),(2,.sl 2)] ?_)
 refine wB J 12 h (fun h=>?_) fun h=>?_
 ·cases h
  exact wr J 15 func53 [(3,.nil)]
 refine wB J 4 h (fun h=>?_) fun h=>?_
 ·cases h
  exact wr J 11 func53 [(3,.nil)]
 refine wB J 6 h (fun h=>?_) fun h=>?_
 ·cases h
  exact wr J 5 func53 [(3,.nil)]
 refine wO J 9 h fun x3 d h=>Zq J (XQ (rI .i64)) d ?_
 cases h
 exact wr J 3 func53 [(3,.sl 10)]
theorem Vv (N:Nat) (i_:Int) (r:ByteArray) (h:Wg N i_=some r):Fn Tryz.prog 65 ⟨1,[.I i_],[],[(0,.abs powT)],1,.c (.s r),[],[(0,.abs powT)]⟩:=by
 unfold Wg at h
 cases hb:(decide ((-9223372036854775808)≤i_) && decide (i_≤9223372036854775807)) with
 | false=>rw [hb] at h;cases h
 | true =>
  rw [hb] at h
  simp only [cond_true,Option.some.injEq] at h
  subst h
  simp only [Zc,decide_eq_true_eq] at hb
  exact ZsO i_ hb.1 hb.2
theorem ZrV (N:Nat) (f_:T4) (r:ByteArray) (h:DU N f_=some r) :
 Fn Tryz.prog 38 ⟨1,[.a (WM f_)],[],[(0,.abs powT)],1,.c (.s r),[],[(0,.abs powT)]⟩:=by
 refine Zs func38 rfl (fun E F w=>?_)
 unfold DU at h
 refine wa J 17 (ZB (σ:=ByteArray) (fun st=>⟨[(1,.B 1 0),(3,.c (.s st))],[(0,.abs powT),(1,.box (WM f_) 68)],[],2⟩) (fun st=>QQ N f_ st=some r) ?_ (fun j1=>?_))
 ·intro d h
  replace h:QQ N f_ d=some r:=h
  unfold QQ at h
  refine wO J 4 h fun x1 e h=>ZC e ?_
  refine wO J 1 h fun x2 f h=>ZC f ?_
  obtain ⟨x3,g,h⟩:=ob h
  refine ZC g ?_
  refine wO J 3 h fun x4 i h=>Zn (Vv N f_.Sort'.Lo _ i) [] [(0,.sl 0)] ?_
  obtain ⟨x5,j,h⟩:=ob h
  refine ZC j ?_
  obtain ⟨x6,k,h⟩:=ob h
  refine ZC k ?_
  refine wO J 3 h fun x7 l h=>Zn (Vv N f_.Sort'.Hi _ l) [] [(0,.sl 0)] ?_
  obtain ⟨x8,m,h⟩:=ob h
  refine ZC m (wa J 1 (ZA ?_))
  cases h
  exact Z4 J func38 []
 exact eB h (fun h=>wa J 4 (Zj [] (j1 (str [116,101,120,116]) h))) fun h=>wa J 2 (Zj [] (j1 (str [105,110,116]) h))
theorem ZfI (N:Nat) (decls_:(List T0)) (x_:Int) (r:T0 × T4 × Bool) (h:Dy N decls_ x_=some r) :
 Fn Tryz.prog 152 ⟨1,[.S 0,.I x_],[(0,.sl ZL decls_)],[],4,.t [.inr (Yt 1 2 3 r.1),.inr (WM r.2.1),.inl (.b r.2.2)],(Yn 1 2 3 r.1 []),[]⟩:=by
 refine Zs func152 rfl (fun E F w=>?_)
 unfold Dy at h
 refine wa J 13 (ZB (σ:=Unit) (fun st=>(ZhR decls_ [(4,.B 1 0),(5,.B 2 0)])) (fun st=>ZbH=some r) ?_ (fun j1=>?_))
 ·intro _ h
  replace h:ZbH=some r:=h
  unfold ZbH at h
  cases h
  exact wr J 8 func152 [(1,.nil),(2,.nil),(3,.nil)]
 refine wa J 1 (ZF (σ:=Int × Int) (fun st=>(ZhR decls_ [(1,.I st.1),(4,.B 1 0),(5,.B 2 0),(9,.S 0),(10,.I (decls_.length:Int)),(11,.I st.2)])) (fun n st=>Si decls_ n st.1 st.2) (r:=r) (fun _=>rfl) ?_ (fun ih=>?_))
 ·intro n2 ih3
  rintro ⟨c,d⟩ h
  replace h:Si decls_ (n2+1) c d=some r:=h
  unfold Si at h
  refine Zo J 5 h (fun h=>wa J 2 (Zj [] (j1 () h))) fun h=>?_
  refine wO J 6 h fun e f h=>Zq J Yg f ?_
  refine Zo J 10 h (fun h=>wa J 22 (Zj [] (ih3 ((Zi (c-(e.Fields.length:Int))),(Zi (d+1))) h))) fun h=>?_
  refine Zo J 7 h (fun h=>wa J 15 (Zj [] (ih3 ((Zi (c-(e.Fields.length:Int))),(Zi (d+1))) h))) fun h=>?_
  refine wO J 7 h fun g i h=>Zq J Xq i (wa J 4 (ZA ?_))
  cases h
  exact Z4 J func152 [(1,.sl 4),(2,.sl 5),(3,.sl 6)]
 exact Zj [] (ih N (x_,0) h)
theorem Zao (N:Nat) (decls_:(List T0)) (x_:Int) (r:ByteArray) (h:TK N decls_ x_=some r) :
 Fn Tryz.prog 74 ⟨1,[.S 0,.I x_],[(0,.sl ZL decls_)],[],1,.c (.s r),[],[]⟩:=by
 refine Zs func74 rfl (fun E F w=>?_)
 unfold TK at h
 refine wO J 8 h fun x1 d h=>Zn (ZfI N decls_ x_ _ d) [] [(0,.sl 0)] ?_
 refine wO J 14 h fun x2 e h=>ZC e ?_
 refine wO J 2 h fun x3 f h=>ZC f ?_
 cases h
 exact wr J 2 func74 []
theorem BB (N:Nat) (decls_:(List T0)) (x_:Int) (r:ByteArray) (h:TM N decls_ x_=some r) :
 Fn Tryz.prog 151 ⟨1,[.S 0,.I x_],[(0,.sl ZL decls_)],[],1,.c (.s r),[],[]⟩:=by
 refine Zs func151 rfl (fun E F w=>?_)
 unfold TM at h
 refine wO J 9 h fun x1 d h=>Zn (ZfI N decls_ x_ _ d) [] [(0,.sl 0)] ?_
 refine Zo J 17 h (fun h=>?_) fun h=>?_
 ·refine wO J 6 h fun x5 e h=>Zn (Zao N decls_ x_ _ e) [] [(0,.sl 0)] ?_
  cases h
  exact wr J 2 func151 []
 refine wO J 5 h fun x2 f h=>Zn (Zao N decls_ x_ _ f) [] [(0,.sl 0)] ?_
 obtain ⟨x3,g,h⟩:=ob h
 refine ZC g ?_
 obtain ⟨x4,i,h⟩:=ob h
 refine ZC i ?_
 cases h
 exact wr J 2 func151 []
theorem Zsi (N:Nat) (decls_:(List T0)) (d_:T1) (r:ByteArray) (h:GN N decls_ d_=some r) :
 Fn Tryz.prog 73 ⟨2,[.S 0,.a (Da d_)],[(0,.sl ZL decls_)],[(1,.abs powT)],2,.c (.s r),[],[(1,.abs powT)]⟩:=by
 refine Zs func73 rfl (fun E F w=>?_)
 unfold GN at h
 refine wa J 13 (ZB (σ:=Bool) (fun st=>⟨[(0,.S 0),(3,.B 2 0),(6,.O st)],[(1,.abs powT),(2,.box (Da d_) 128)],[(0,.sl ZL decls_)],3⟩) (fun st=>Ql N decls_ d_ st=some r) ?_ (fun j1=>?_))
 ·intro d h
  replace h:Ql N decls_ d_ d=some r:=h
  unfold Ql at h
  refine eB h (fun h=>?_) fun h=>?_
  ·refine wO J 5 h fun x1 e h=>Zn (Vv N d_.C _ e) [] [(0,.sl 1)] ?_
   obtain ⟨x2,f,h⟩:=ob h
   refine ZC f ?_
   cases h
   exact wr J 2 func73 []
  refine wB J 8 h (fun h=>?_) fun h=>?_
  ·refine wO J 6 h fun x3 g h=>Zn (BB N decls_ d_.X _ g) [] [(0,.sl 0)] ?_
   obtain ⟨x4,i,h⟩:=ob h
   refine ZC i ?_
   refine wO J 2 h fun x5 j h=>Zn (Vv N d_.C _ j) [] [(0,.sl 1)] ?_
   obtain ⟨x6,k,h⟩:=ob h
   refine ZC k (wa J 1 (ZA ?_))
   cases h
   exact Z4 J func73 []
  refine wB J 8 h (fun h=>?_) fun h=>?_
  ·refine wO J 6 h fun x7 l h=>Zn (BB N decls_ d_.Y _ l) [] [(0,.sl 0)] ?_
   obtain ⟨x8,m,h⟩:=ob h
   refine ZC m ?_
   refine wO J 3 h fun x9 o h=>Zn (Vv N (Zi (0-d_.C)) _ o) [] [(0,.sl 1)] ?_
   obtain ⟨p,q,h⟩:=ob h
   refine ZC q (wa J 1 (ZA ?_))
   cases h
   exact Z4 J func73 []
  refine wO J 8 h fun t u h=>Zn (BB N decls_ d_.X _ u) [] [(0,.sl 0)] ?_
  obtain ⟨v,x,h⟩:=ob h
  refine ZC x ?_
  refine wO J 3 h fun y z h=>Zn (BB N decls_ d_.Y _ z) [] [(0,.sl 0)] ?_
  obtain ⟨A,D,h⟩:=ob h
  refine ZC D (wa J 1 (ZA ?_))
  refine wB J 9 h (fun h=>?_) fun h=>?_
  ·refine wO J 4 h fun G H h=>ZC H ?_
   refine wO J 2 h fun R T h=>Zn (Vv N d_.C _ T) [] [(0,.sl 1)] ?_
   obtain ⟨U,Z,h⟩:=ob h
   refine ZC Z ?_
   cases h
   exact wr J 2 func73 []
  refine Zo J 8 h (fun h=>?_) fun h=>?_
  ·cases h
   exact wr J 8 func73 []
  refine wO J 4 h fun a0 b0 h=>ZC b0 ?_
  refine wO J 3 h fun c0 d0 h=>Zn (Vv N (Zi (0-d_.C)) _ d0) [] [(0,.sl 1)] ?_
  obtain ⟨e0,f0,h⟩:=ob h
  refine ZC f0 ?_
  cases h
  exact wr J 2 func73 []
 exact eB h (fun h=>wa J 6 (Zj [] (j1 (decide (d_.Y < 0)) h))) fun h=>wa J 6 (Zj [] (j1 false h))
theorem Zfi (N:Nat) (decls_:(List T0)) (label_:Int) (part_:Int) (r:ByteArray) (h:z39 N decls_ label_ part_=some r) :
 Fn Tryz.prog 39 ⟨2,[.S 0,.I label_,.I part_],[(0,.sl ZL decls_)],[(1,.abs powT)],2,.c (.s r),[],[(1,.abs powT)]⟩:=by
 refine Zs func39 rfl (fun E F w=>?_)
 unfold z39 at h
 refine wO J 9 h fun x1 d h=>Zn (Zen N decls_ label_ _ d) [] [(0,.sl 0)] ?_
 refine wB J 11 h (fun h=>?_) fun h=>?_
 ·cases h
  exact wr J 9 func39 []
 refine wB J 4 h (fun h=>?_) fun h=>?_
 ·cases h
  exact wr J 5 func39 []
 refine wO J 6 h fun x2 e h=>Zq J Yg e ?_
 refine wB J 14 h (fun h=>?_) fun h=>?_
 ·refine wO J 7 h fun x3 f h=>Zq J Ut f ?_
  refine wO J 1 h fun x4 g h=>Zn (Zsi N decls_ x3 _ g) [] [(0,.sl 0),(1,.sl 1)] ?_
  cases h
  exact wr J 2 func39 []
 refine Zo J 20 h (fun h=>?_) fun h=>?_
 ·cases h
  exact wr J 6 func39 []
 refine wO J 7 h fun x5 i h=>Zq J (oP (oI .i64) (oI .i64)) i (P9 0 rfl ?_)
 refine wO J 1 h fun x6 j h=>Zn (Zao N decls_ x5.1 _ j) [] [(0,.sl 0)] ?_
 obtain ⟨x7,k,h⟩:=ob h
 refine ZC k ?_
 refine wO J 4 h fun x8 l h=>Zq J (oP (oI .i64) (oI .i64)) l (P9 1 rfl ?_)
 refine wO J 1 h fun x9 m h=>Zn (Zao N decls_ x8.2 _ m) [] [(0,.sl 0)] ?_
 obtain ⟨o,p,h⟩:=ob h
 refine ZC p (wa J 1 (ZA ?_))
 cases h
 exact Z4 J func39 []
theorem ZaS (N:Nat) (elems_:List ByteArray) (sep_:ByteArray) (r:ByteArray) (h:TW N elems_ sep_=some r):Fn Tryz.prog 40 ⟨1,[.S 0,.c (.s sep_)],[(0,.sl rS elems_)],[],1,.c (.s r),[],[]⟩:=by
  unfold TW at h
  cases hb:(decide (elems_.length≤140737488355328) && decide ((Xr sep_.data.toList (elems_.map (·.data.toList))).length≤140737488355328)) with
  | false=>rw [hb] at h;cases h
  | true =>
    rw [hb] at h
    simp only [cond_true,Option.some.injEq] at h
    subst h
    simp only [Zc,decide_eq_true_eq] at hb
    exact ZnM elems_ sep_ hb.1 hb.2
theorem ZfY (N:Nat) (decls_:(List T0)) (label_:Int) (r:ByteArray) (h:M9 N decls_ label_=some r) :
 Fn Tryz.prog 13 ⟨2,[.S 0,.I label_],[(0,.sl ZL decls_)],[(1,.abs powT)],2,.c (.s r),[],[(1,.abs powT)]⟩:=by
 refine Zs func13 rfl (fun E F w=>?_)
 unfold M9 at h
 refine wO J 9 h fun x1 d h=>Zn (Zen N decls_ label_ _ d) [] [(0,.sl 0)] ?_
 refine wB J 11 h (fun h=>?_) fun h=>?_
 ·cases h
  exact wr J 5 func13 []
 refine wO J 6 h fun x2 e h=>Zq J Yg e (wa J 17 (ZB (σ:=(List ByteArray)) (fun st=>(Zhx powT x2 st decls_ [(0,.S 0),(1,.I label_),(7,.B 7 0),(8,.S 8),(9,.c .nil)])) (fun st=>PO N decls_ label_ x2 st=some r) ?_ (fun j1=>?_)))
 ·intro f h
  replace h:PO N decls_ label_ x2 f=some r:=h
  unfold PO at h
  refine wa J 14 (ZB (σ:=(List ByteArray)) (fun st=>(Zfq powT x2 f st decls_ [(7,.B 7 0),(8,.S 8),(9,.S 9)])) (fun st=>Q1 N x2 f st=some r) ?_ (fun j3=>?_))
  ·intro g h
   replace h:Q1 N x2 f g=some r:=h
   unfold Q1 at h
   refine wO J 4 h fun i j h=>ZC j ?_
   refine wO J 1 h fun k l h=>Xe (ZaS N f (str [44,32]) _ l) [] [(0,.sl 8)] [8] (.inr ⟨rfl,trivial⟩) ?_
   obtain ⟨m,o,h⟩:=ob h
   refine ZC o ?_
   obtain ⟨p,q,h⟩:=ob h
   refine ZC q (wa J 1 (ZA ?_))
   refine Zo J 7 h (fun h=>?_) fun h=>?_
   ·cases h
    exact wr J 7 func13 []
   refine wO J 4 h fun t u h=>Xe (ZaS N g (str [32,97,110,100,32]) _ u) [] [(0,.sl 9)] [9] (.inr ⟨rfl,trivial⟩) ?_
   obtain ⟨v,x,h⟩:=ob h
   refine ZC x ?_
   obtain ⟨y,z,h⟩:=ob h
   refine ZC z ?_
   cases h
   exact wr J 7 func13 []
  refine wa J 1 (ZF (σ:=(List ByteArray) × Int) (fun st=>(Zfq powT x2 f st.1 decls_ [(0,.S 0),(1,.I label_),(7,.B 7 0),(8,.S 8),(9,.S 9),(47,.I (Zi ((x2.Guard.Diffs.length:Int)+(x2.Guard.Equals.length:Int)))),(48,.I st.2)])) (fun n st=>Qr N decls_ label_ x2 f n st.1 st.2) (r:=r) (fun _=>rfl) ?_ (fun ih=>?_))
  ·intro n3 ih5
   rintro ⟨A,C⟩ h
   replace h:Qr N decls_ label_ x2 f (n3+1) A C=some r:=h
   unfold Qr at h
   refine Zo J 5 h (fun h=>wa J 2 (Zj [] (j3 A h))) fun h=>?_
   refine wO J 14 h fun D G h=>Zn (Zfi N decls_ label_ C _ G) [] [(0,.sl 0),(1,.sl 1)] (Z8 J [] oS ([D]:List ByteArray) ?_)
   obtain ⟨H,R,h⟩:=ob h
   exact Yr J rS R (wa J 7 (Zj [(9,.sl 11)] (ih5 (H,(Zi (C+1))) h)))
  exact Zj [(9,.nil)] (ih N (([]:List ByteArray),0) h)
 refine wa J 1 (ZF (σ:=(List ByteArray) × Int) (fun st=>(Zhx powT x2 st.1 decls_ [(0,.S 0),(1,.I label_),(7,.B 7 0),(8,.S 8),(9,.c .nil),(27,.S 4),(28,.I (x2.Fields.length:Int)),(29,.I st.2)])) (fun n st=>RU N decls_ label_ x2 n st.1 st.2) (r:=r) (fun _=>rfl) ?_ (fun ih=>?_))
 ·intro n4 ih6
  rintro ⟨T,U⟩ h
  replace h:RU N decls_ label_ x2 (n4+1) T U=some r:=h
  unfold RU at h
  refine Zo J 5 h (fun h=>wa J 2 (Zj [] (j1 T h))) fun h=>?_
  refine wO J 6 h fun X Y h=>Zq J Xq Y ?_
  refine wO J 7 h fun Z a0 h=>Zn (ZrV N X _ a0) [] [(0,.sl 1)] (Z8 J [] oS ([Z]:List ByteArray) ?_)
  obtain ⟨b0,c0,h⟩:=ob h
  exact Yr J rS c0 (wa J 7 (Zj [(8,.sl 12)] (ih6 (b0,(Zi (U+1))) h)))
 exact Zj [(8,.nil)] (ih N (([]:List ByteArray),0) h)
theorem ZlB (N:Nat) (t_:Yj) (c0_:Int) (r:Bool) (h:ZaQ N t_ c0_=some r) :
 Fn Tryz.prog 137 ⟨1,[.a (GK t_),.B 0 0],[],[(0,.box [.I c0_] 3)],1,.O r,[],[(0,.box [.I c0_] 3)]⟩:=by
 refine Zs func137 rfl (fun E F w=>?_)
 unfold ZaQ at h
 cases h
 exact wr J 13 func137 []
theorem Zlw (N:Nat) (s_:(List Yj)) (c0_:Int) (r:Int) (h:BN N s_ c0_=some r) :
 Fn Tryz.prog 136 ⟨2,[.S 0,.c (.cl 137 [] [1])],[(0,.sl Z2 s_)],[(1,.box [.I c0_] 3)],2,.I r,[],[(1,.box [.I c0_] 3)]⟩:=by
 refine Zs func136 rfl (fun E F w=>?_)
 unfold BN at h
 refine wa J 11 (ZB (σ:=Unit) (fun st=>⟨[],[(1,.box [.I c0_] 3)],[(0,.sl Z2 s_)],2⟩) (fun st=>B6=some r) ?_ (fun j1=>?_))
 ·intro _ h
  replace h:B6=some r:=h
  unfold B6 at h
  cases h
  exact wr J 4 func136 []
 refine wa J 1 (ZF (σ:=Int) (fun st=>⟨[(0,.S 0),(1,.c (.cl 137 [] [1])),(7,.I (s_.length:Int)),(8,.I st)],[(1,.box [.I c0_] 3)],[(0,.sl Z2 s_)],2⟩) (fun n st=>Rn N s_ c0_ n st) (r:=r) (fun _=>rfl) ?_ (fun ih=>?_))
 ·intro n2 ih3
  intro d h
  replace h:Rn N s_ c0_ (n2+1) d=some r:=h
  unfold Rn at h
  refine Zo J 5 h (fun h=>wa J 2 (Zj [] (j1 () h))) fun h=>?_
  refine wO J 14 h fun e f h=>Zq J Uv f ?_
  refine wO J 1 h fun g i h=>Zn (ZlB N e c0_ _ i) [] [(0,.bp 1 0)] ?_
  refine wB J 1 h (fun h=>?_) fun h=>wa J 7 (Zj [] (ih3 (Zi (d+1)) h))
  cases h
  exact wr J 6 func136 []
 exact Zj [] (ih N 0 h)
theorem ZqU (N:Nat) (m_:T8) (state_:Int) (r:Yj × Bool) (h:DR N m_ state_=some r) :
 Fn Tryz.prog 64 ⟨3,[.a (ZX 0 1 2 m_),.I state_],(ZZ 0 1 2 m_ []),[],3,.t [.inr (GK r.1),.inl (.b r.2)],[],[]⟩:=by
 refine Zs func64 rfl (fun E F w=>?_)
 unfold DR at h
 refine wO J 11 h fun x1 c h=>Zn (ZhS N m_ _ c) [] [(0,.sl 0),(1,.sl 1),(2,.sl 2)] ?_
 refine wB J 2 h (fun h=>?_) fun h=>?_
 ·cases h
  exact wr J 7 func64 []
 refine wO J 7 h fun x2 d h=>Zn (Zlw N m_.Timeouts state_ _ d) [] [(0,.sl 2),(1,.bp 4 0)] ?_
 refine wB J 8 h (fun h=>?_) fun h=>?_
 ·cases h
  exact wr J 7 func64 []
 refine wO J 7 h fun x3 e h=>Zq J Uv e ?_
 cases h
 exact wr J 4 func64 []
theorem Zf2 (N:Nat) (g_:T5) (m_:T8) (state_:Int) (r:(List ByteArray)) (h:z31 N g_ m_ state_=some r) :
 Fn Tryz.prog 31 ⟨8,[.a (ZT 0 1 2 3 g_),.a (ZX 4 5 6 m_),.I state_],((0,.sl rS g_.Roles)::(1,.sl ZL g_.Decls)::(2,.sl Yf g_.Edges)::(3,.sl Z2 g_.Timeouts)::ZZ 4 5 6 m_ []),[(7,.abs powT)],9,.S 8,[],[(8,.own rS r true),(7,.abs powT)]⟩:=by
 refine Zs func31 rfl (fun E F w=>?_)
 unfold z31 at h
 refine wO J 15 h fun x1 c h=>Zn (Zfc N m_ state_ _ c) [] [(0,.sl 4),(1,.sl 5),(2,.sl 6)] (wa J 3 (ZB (σ:=(List ByteArray)) (fun st=>⟨[(2,.I state_),(3,.B 8 0),(4,.B 9 0),(7,.S 11)],[(7,.abs powT),(8,.box (ZT 0 1 2 3 g_) 27),(9,.box (ZX 4 5 6 m_) 31),(11,.own rS st true)],((0,.sl rS g_.Roles)::(1,.sl ZL g_.Decls)::(2,.sl Yf g_.Edges)::(3,.sl Z2 g_.Timeouts)::ZZ 4 5 6 m_ []),12⟩) (fun st=>RX N g_ m_ state_ st=some r) ?_ (fun j1=>?_)))
 ·intro d h
  replace h:RX N g_ m_ state_ d=some r:=h
  unfold RX at h
  refine wO J 5 h fun e f h=>Zn (ZqU N m_ state_ _ f) [] [(0,.sl 4),(1,.sl 5),(2,.sl 6)] ?_
  refine Zo J 11 h (fun h=>?_) fun h=>?_
  ·refine wO J 8 h fun g i h=>Zq J oB i ?_
   refine Zo J 2 h (fun h=>?_) fun h=>wa J 3 (Z8 J [] oS ([(str [116,104,101,32,101,110,100])]:List ByteArray) ?_)
   ·cases h
    exact wr J 7 func31 [(8,.sl 11)]
   obtain ⟨j,k,h⟩:=ob h
   refine Yr J rS k ?_
   cases h
   exact wr J 7 func31 [(8,.sl 15)]
  refine wO J 7 h fun l m h=>Zq J YH m ?_
  refine wO J 8 h fun o p h=>Zn (Vv N e.1.Ticks _ p) [] [(0,.sl 7)] ?_
  obtain ⟨q,s,h⟩:=ob h
  refine ZC s ?_
  obtain ⟨t,u,h⟩:=ob h
  refine ZC u ?_
  refine wO J 4 h fun v x h=>Zq J Yg x ?_
  refine wO J 2 h fun y z h=>ZC z ?_
  obtain ⟨A,C,h⟩:=ob h
  refine ZC C ?_
  refine wO J 4 h fun D G h=>Zq J oS G ?_
  refine wO J 1 h fun H R h=>ZC R (Z8 J [] oS ([H]:List ByteArray) ?_)
  obtain ⟨T,U,h⟩:=ob h
  refine Yr J rS U (wa J 1 (ZA ?_))
  refine wO J 6 h fun X Y h=>Zq J oB Y ?_
  refine Zo J 2 h (fun h=>?_) fun h=>wa J 3 (Z8 J [] oS ([(str [116,104,101,32,101,110,100])]:List ByteArray) ?_)
  ·cases h
   exact wr J 7 func31 [(8,.sl 21)]
  obtain ⟨Z,a0,h⟩:=ob h
  refine Yr J rS a0 ?_
  cases h
  exact wr J 7 func31 [(8,.sl 24)]
 refine wa J 1 (ZF (σ:=(List ByteArray) × Int) (fun st=>⟨[(2,.I state_),(3,.B 8 0),(4,.B 9 0),(7,.S 11),(17,.S 10),(18,.I (x1.length:Int)),(19,.I st.2)],[(7,.abs powT),(8,.box (ZT 0 1 2 3 g_) 27),(9,.box (ZX 4 5 6 m_) 31),(11,.own rS st.1 true)],((0,.sl rS g_.Roles)::(1,.sl ZL g_.Decls)::(2,.sl Yf g_.Edges)::(3,.sl Z2 g_.Timeouts)::ZZ 4 5 6 m_ [(10,.sl (rI .i64) x1)]),12⟩) (fun n st=>UE N g_ m_ state_ x1 n st.1 st.2) (r:=r) (fun _=>rfl) ?_ (fun ih=>?_))
 ·intro n2 ih3
  rintro ⟨b0,c0⟩ h
  replace h:UE N g_ m_ state_ x1 (n2+1) b0 c0=some r:=h
  unfold UE at h
  refine Zo J 5 h (fun h=>wa J 2 (Zj [] (j1 b0 h))) fun h=>?_
  refine wO J 6 h fun d0 e0 h=>Zq J (oI .i64) e0 ?_
  refine wO J 8 h fun f0 g0 h=>Zq J YH g0 ?_
  refine wO J 10 h fun i0 j0 h=>Zq J oS j0 ?_
  refine wB J 10 h (fun h=>?_) fun h=>?_
  ·refine wO J 7 h fun k0 l0 h=>Zq J Yg l0 ?_
   refine wO J 2 h fun m0 o0 h=>ZC o0 ?_
   obtain ⟨p0,q0,h⟩:=ob h
   refine ZC q0 ?_
   refine wO J 1 h fun s0 t0 h=>ZC t0 (Z8 J [] oS ([s0]:List ByteArray) ?_)
   obtain ⟨u0,v0,h⟩:=ob h
   exact Yr J rS v0 (wa J 8 (Zj [(11,.sl 21)] (ih3 (u0,(Zi (c0+1))) h)))
  refine wB J 7 h (fun h=>?_) fun h=>?_
  ·refine wO J 7 h fun x0 y0 h=>Zn (ZfY N g_.Decls f0.Label _ y0) [] [(0,.sl 1),(1,.sl 7)] ?_
   obtain ⟨z0,A0,h⟩:=ob h
   refine ZC A0 ?_
   obtain ⟨B0,C0,h⟩:=ob h
   refine ZC C0 ?_
   refine wO J 1 h fun D0 G0 h=>ZC G0 (Z8 J [] oS ([D0]:List ByteArray) ?_)
   obtain ⟨H0,I0,h⟩:=ob h
   exact Yr J rS I0 (wa J 8 (Zj [(11,.sl 17)] (ih3 (H0,(Zi (c0+1))) h)))
  refine wO J 7 h fun L0 M0 h=>Zn (ZfY N g_.Decls f0.Label _ M0) [] [(0,.sl 1),(1,.sl 7)] ?_
  obtain ⟨O0,R0,h⟩:=ob h
  refine ZC R0 ?_
  obtain ⟨S0,T0,h⟩:=ob h
  refine ZC T0 ?_
  refine wO J 1 h fun U0 V0 h=>ZC V0 (Z8 J [] oS ([U0]:List ByteArray) ?_)
  obtain ⟨X0,Y0,h⟩:=ob h
  exact Yr J rS Y0 (wa J 8 (Zj [(11,.sl 17)] (ih3 (X0,(Zi (c0+1))) h)))
 exact Zj [(11,.nil)] (ih N (([]:List ByteArray),0) h)
theorem Zon (N:Nat) (g_:T5) (m_:T8) (state_:Int) (r:(List ByteArray) × Int) (h:UL N g_ m_ state_=some r) :
 Fn Tryz.prog 10 ⟨8,[.a (ZT 0 1 2 3 g_),.a (ZX 4 5 6 m_),.I state_],((0,.sl rS g_.Roles)::(1,.sl ZL g_.Decls)::(2,.sl Yf g_.Edges)::(3,.sl Z2 g_.Timeouts)::ZZ 4 5 6 m_ []),[(7,.abs powT)],9,.t [.inl (.sl 8),.inl (.I r.2)],[],[(8,.own rS r.1 true),(7,.abs powT)]⟩:=by
 refine Zs func10 rfl (fun E F w=>?_)
 unfold UL at h
 refine wO J 12 h fun x1 c h=>Zn (Zpu N g_ m_ _ c) [] [(0,.sl 0),(1,.sl 1),(2,.sl 2),(3,.sl 3),(4,.sl 4),(5,.sl 5),(6,.sl 6)] ?_
 refine wB J 2 h (fun h=>?_) fun h=>?_
 ·cases h
  exact wr J 16 func10 [(8,.nil)]
 refine wB J 4 h (fun h=>?_) fun h=>?_
 ·cases h
  exact wr J 12 func10 [(8,.nil)]
 refine wB J 6 h (fun h=>?_) fun h=>?_
 ·cases h
  exact wr J 6 func10 [(8,.nil)]
 refine wO J 7 h fun x2 d h=>Zn (Zf2 N g_ m_ state_ _ d) [] [(0,.sl 0),(1,.sl 1),(2,.sl 2),(3,.sl 3),(4,.sl 4),(5,.sl 5),(6,.sl 6),(7,.sl 7)] ?_
 cases h
 exact wr J 3 func10 [(8,.sl 10)]
theorem Zrz (N:Nat) (y_:T9) (c0_:ZJ) (c1_:T3) (r:Bool) (h:PF N y_ c0_ c1_=some r) :
 Fn Tryz.prog 93 ⟨5,[.a (UF y_),.B 0 0,.B 3 0],(XG 1 2 c0_ [(4,.sl ZD c1_.Values)]),[(0,.box (Xy 1 2 c0_) 48),(3,.box (X5 4 c1_) 46)],5,.O r,[],[(0,.box (Xy 1 2 c0_) 48),(3,.box (X5 4 c1_) 46)]⟩:=by
 refine Zs func93 rfl (fun E F w=>?_)
 unfold PF at h
 refine Zo J 13 h (fun h=>?_) fun h=>?_
 ·cases h
  exact wr J 22 func93 []
 refine Zo J 7 h (fun h=>?_) fun h=>?_
 ·cases h
  exact wr J 15 func93 []
 refine wB J 7 h (fun h=>?_) fun h=>?_
 ·cases h
  exact wr J 8 func93 []
 cases h
 exact wr J 8 func93 []
theorem Zri (N:Nat) (s_:(List T9)) (c0_:ZJ) (c1_:T3) (r:Int) (h:P8 N s_ c0_ c1_=some r) :
 Fn Tryz.prog 92 ⟨6,[.S 0,.c (.cl 93 [] [1,4])],((0,.sl Xn s_)::XG 2 3 c0_ [(5,.sl ZD c1_.Values)]),[(1,.box (Xy 2 3 c0_) 48),(4,.box (X5 5 c1_) 46)],6,.I r,[],[(1,.box (Xy 2 3 c0_) 48),(4,.box (X5 5 c1_) 46)]⟩:=by
 refine Zs func92 rfl (fun E F w=>?_)
 unfold P8 at h
 refine wa J 11 (ZB (σ:=Unit) (fun st=>(Zg8 c0_ c1_ s_ c1_.Values [])) (fun st=>BL=some r) ?_ (fun j1=>?_))
 ·intro _ h
  replace h:BL=some r:=h
  unfold BL at h
  cases h
  exact wr J 4 func92 []
 refine wa J 1 (ZF (σ:=Int) (fun st=>(Zg8 c0_ c1_ s_ c1_.Values [(0,.S 0),(1,.c (.cl 93 [] [1,4])),(7,.I (s_.length:Int)),(8,.I st)])) (fun n st=>UR N s_ c0_ c1_ n st) (r:=r) (fun _=>rfl) ?_ (fun ih=>?_))
 ·intro n2 ih3
  intro d h
  replace h:UR N s_ c0_ c1_ (n2+1) d=some r:=h
  unfold UR at h
  refine Zo J 5 h (fun h=>wa J 2 (Zj [] (j1 () h))) fun h=>?_
  refine wO J 14 h fun e f h=>Zq J YH f ?_
  refine wO J 1 h fun g i h=>Zn (Zrz N e c0_ c1_ _ i) [] [(0,.bp 1 0),(1,.sl 2),(2,.sl 3),(3,.bp 4 0),(4,.sl 5)] ?_
  refine wB J 1 h (fun h=>?_) fun h=>wa J 7 (Zj [] (ih3 (Zi (d+1)) h))
  cases h
  exact wr J 6 func92 []
 exact Zj [] (ih N 0 h)
theorem Zkm (N:Nat) (f_:T4) (x_:Zm) (r:Bool) (h:BT N f_ x_=some r) :
 Fn Tryz.prog 170 ⟨0,[.a (WM f_),.a (Xx x_)],[],[],0,.O r,[],[]⟩:=by
 refine Zs func170 rfl (fun E F w=>?_)
 unfold BT at h
 refine wO J 11 h fun x1 c h=>Zn (Zdx N f_.Sort' x_ _ c) [] [] ?_
 cases h
 exact wr J 2 func170 []
theorem ZmQ (N:Nat) (s1_:(List T4)) (s2_:(List Zm)) (r:Bool) (h:ZbL N s1_ s2_=some r) :
 Fn Tryz.prog 91 ⟨2,[.S 0,.S 1,.c (.cl 170 [] [])],[(0,.sl YM s1_),(1,.sl ZD s2_)],[],2,.O r,[],[]⟩:=by
 refine Zs func91 rfl (fun E F w=>?_)
 unfold ZbL at h
 refine wB J 13 h (fun h=>?_) fun h=>wa J 9 (ZB (σ:=Unit) (fun st=>(Rp s1_ s2_ [])) (fun st=>Zbq=some r) ?_ (fun j1=>?_))
 ·cases h
  exact wr J 5 func91 []
 ·intro _ h
  replace h:Zbq=some r:=h
  unfold Zbq at h
  cases h
  exact wr J 4 func91 []
 refine wa J 1 (ZF (σ:=Int) (fun st=>(Rp s1_ s2_ [(1,.S 1),(2,.c (.cl 170 [] [])),(15,.S 0),(16,.I (s1_.length:Int)),(17,.I st)])) (fun n st=>R8 N s1_ s2_ n st) (r:=r) (fun _=>rfl) ?_ (fun ih=>?_))
 ·intro n2 ih3
  intro d h
  replace h:R8 N s1_ s2_ (n2+1) d=some r:=h
  unfold R8 at h
  refine Zo J 5 h (fun h=>wa J 2 (Zj [] (j1 () h))) fun h=>?_
  refine wO J 7 h fun e f h=>Zq J Xq f ?_
  refine wO J 9 h fun g i h=>Zq J Z5 i ?_
  refine wO J 9 h fun j k h=>Zn (Zkm N e g _ k) [] [] ?_
  refine wB J 2 h (fun h=>?_) fun h=>wa J 7 (Zj [] (ih3 (Zi (d+1)) h))
  cases h
  exact wr J 5 func91 []
 exact Zj [] (ih N 0 h)
theorem ZoK (N:Nat) (l_:(List T4)) (v_:(List Zm)) (r:Bool) (h:MN N l_ v_=some r) :
 Fn Tryz.prog 94 ⟨2,[.S 0,.S 1],[(0,.sl YM l_),(1,.sl ZD v_)],[],2,.O r,[],[]⟩:=by
 refine Zs func94 rfl (fun E F w=>?_)
 unfold MN at h
 refine wO J 8 h fun x1 c h=>Zn (ZmQ N l_ v_ _ c) [] [(0,.sl 0),(1,.sl 1)] ?_
 cases h
 exact wr J 2 func94 []
theorem Gk (N:Nat) (v_:Zm) (r:Int) (h:TS N v_=some r) :
 Fn Tryz.prog 110 ⟨0,[.a (Xx v_)],[],[],0,.I r,[],[]⟩:=by
 refine Zs func110 rfl (fun E F w=>?_)
 unfold TS at h
 refine wB J 12 h (fun h=>?_) fun h=>?_
 ·cases h
  exact wr J 8 func110 []
 cases h
 exact wr J 8 func110 []
theorem Zs2 (N:Nat) (r_:Int) (r:Bool) (h:BD N r_=some r) :
 Fn Tryz.prog 247 ⟨0,[.c (.i .i32 r_)],[],[],0,.O r,[],[]⟩:=by
 refine Zs func247 rfl (fun E F w=>?_)
 unfold BD at h
 refine wB J 9 h (fun h=>?_) fun h=>?_
 ·cases h
  exact wr J 5 func247 []
 cases h
 exact wr J 5 func247 []
theorem Zn0 (N:Nat) (s_:ByteArray) (truth_:Bool) (r:Int) (h:BE N s_ truth_=some r) :
 Fn Tryz.prog 294 ⟨0,[.c (.s s_),.c (.cl 247 [] []),.O truth_],[],[],0,.I r,[],[]⟩:=by
 refine Zs func294 rfl (fun E F w=>?_)
 unfold BE at h
 refine wa J 8 (eRn J (fun bk1=>wa J 1 (ZB (σ:=Nat) (fun st=>(Mq (WE bk1 s_ st) [])) (fun st=>BX st=some r) ?_ (fun j1=>?_))))
 ·intro vi0_1 h
  replace h:BX vi0_1=some r:=h
  unfold BX at h
  cases h
  exact wr J 4 func294 []
 refine wa J 1 (ZF (σ:=Nat) (fun st=>(Mq (WE bk1 s_ st) [(1,.c (.cl 247 [] [])),(2,.O truth_),(10,.c (.v (.pointer (some ⟨bk1,0,none⟩))))])) (fun n st=>Ra N s_ truth_ n st) (r:=r) (fun _=>rfl) ?_ (fun ih=>?_))
 ·intro n2 ih3
  intro vi0_3 h
  replace h:Ra N s_ truth_ (n2+1) vi0_3=some r:=h
  unfold Ra at h
  obtain ⟨K,h⟩|⟨K,h⟩:=BZ h
  ·exact wa J 2 (eNf bk1 0 K (wa J 5 (Zj [] (j1 vi0_3 h))))
  refine wa J 2 (eNt bk1 0 K ?_)
  refine wO J 17 h fun d e h=>Zn (Zs2 N ((Utf8.decode s_ vi0_3).1:Int) _ e) [] [] ?_
  refine wB J 3 h (fun h=>?_) fun h=>wa J 3 (Zj [] (ih3 (vi0_3+(Utf8.decode s_ vi0_3).2) h))
  cases h
  exact wr J 6 func294 []
 exact Zj [] (ih N (0:Nat) h)
theorem Zqc (N:Nat) (s_:ByteArray) (r:Int) (h:Zbt N s_=some r) :
 Fn Tryz.prog 275 ⟨0,[.c (.s s_),.c (.cl 247 [] [])],[],[],0,.I r,[],[]⟩:=by
 refine Zs func275 rfl (fun E F w=>?_)
 unfold Zbt at h
 refine wO J 8 h fun x1 d h=>Zn (Zn0 N s_ true _ d) [] [] ?_
 cases h
 exact wr J 2 func275 []
theorem Zoq (N:Nat) (s_:ByteArray) (r:Bool) (h:GL N s_=some r) :
 Fn Tryz.prog 246 ⟨0,[.c (.s s_),.c (.cl 247 [] [])],[],[],0,.O r,[],[]⟩:=by
 refine Zs func246 rfl (fun E F w=>?_)
 unfold GL at h
 refine wO J 8 h fun x1 d h=>Zn (Zqc N s_ _ d) [] [] ?_
 cases h
 exact wr J 3 func246 []
theorem Zhb (N:Nat) (s_:Yb) (v_:Zm) (r:Bool) (h:Lh N s_ v_=some r) :
 Fn Tryz.prog 194 ⟨0,[.a (UG s_),.a (Xx v_)],[],[],0,.O r,[],[]⟩:=by
 refine Zs func194 rfl (fun E F w=>?_)
 unfold Lh at h
 refine wB J 15 h (fun h=>wa J 13 (ZA ?_)) fun h=>?_
 ·cases h
  exact wr J 5 func194 []
 refine wO J 1 h fun x1 c h=>Zn (Gk N v_ _ c) [] [] ?_
 refine wB J 5 h (fun h=>wa J 6 (ZA ?_)) fun h=>?_
 ·cases h
  exact wr J 5 func194 []
 refine wO J 1 h fun x2 d h=>Zn (Gk N v_ _ d) [] [] (wa J 4 (ZA ?_))
 refine eB h (fun h=>?_) fun h=>?_
 ·cases h
  exact wr J 5 func194 []
 refine wB J 9 h (fun h=>?_) fun h=>?_
 ·cases h
  exact wr J 8 func194 []
 refine Zo J 8 h (fun h=>?_) fun h=>?_
 ·cases h
  exact wr J 7 func194 []
 refine wO J 2 h fun x3 e h=>Zn (Zoq N v_.S _ e) [] [] ?_
 cases h
 exact wr J 4 func194 []
theorem Zc4 (N:Nat) (l_:(List T0)) (label_:Int) (known_:(List Zm)) (r:Bool) (h:QP N l_ label_ known_=some r) :
 Fn Tryz.prog 108 ⟨2,[.S 0,.I label_,.S 1],[(0,.sl ZL l_),(1,.sl ZD known_)],[],2,.O r,[],[]⟩:=by
 refine Zs func108 rfl (fun E F w=>?_)
 unfold QP at h
 refine wB J 10 h (fun h=>?_) fun h=>?_
 ·cases h
  exact wr J 16 func108 []
 refine wB J 6 h (fun h=>?_) fun h=>?_
 ·cases h
  exact wr J 10 func108 []
 refine wO J 1 h fun x1 c h=>Zn (Zfh N l_ _ c) [] [(0,.sl 0)] ?_
 refine wB J 3 h (fun h=>?_) fun h=>?_
 ·cases h
  exact wr J 5 func108 []
 refine wO J 5 h fun x2 d h=>Zn (Zig N l_ _ d) [] [(0,.sl 0)] ?_
 refine wB J 11 h (fun h=>?_) fun h=>wa J 9 (ZB (σ:=Unit) (fun st=>⟨[],[],[(0,.sl ZL l_),(1,.sl ZD known_)],3⟩) (fun st=>Za6=some r) ?_ (fun j1=>?_))
 ·cases h
  exact wr J 5 func108 []
 ·intro _ h
  replace h:Za6=some r:=h
  unfold Za6 at h
  cases h
  exact wr J 4 func108 []
 refine wa J 1 (ZF (σ:=Int) (fun st=>⟨[(7,.S 2),(30,.S 1),(31,.I (known_.length:Int)),(32,.I st)],[(2,.own YM x2 true)],[(0,.sl ZL l_),(1,.sl ZD known_)],3⟩) (fun n st=>Tl N known_ x2 n st) (r:=r) (fun _=>rfl) ?_ (fun ih=>?_))
 ·intro n2 ih3
  intro e h
  replace h:Tl N known_ x2 (n2+1) e=some r:=h
  unfold Tl at h
  refine Zo J 5 h (fun h=>wa J 2 (Zj [] (j1 () h))) fun h=>?_
  refine wO J 7 h fun f g h=>Zq J Z5 g (wa J 9 (R9 ?_))
  refine Zo J 1 h (fun h=>wa J 9 (ZA (wa J 7 (Zj [] (ih3 (Zi (e+1)) h))))) fun h=>?_
  refine wO J 2 h fun i j h=>Z9 J YM j (wa J 1 (YJ J Xq j ?_))
  refine wO J 1 h fun k l h=>Zn (Zhb N i.Sort' f _ l) [] [] (wa J 2 (ZA ?_))
  refine eB h (fun h=>?_) fun h=>wa J 7 (Zj [] (ih3 (Zi (e+1)) h))
  cases h
  exact wr J 5 func108 []
 exact Zj [] (ih N 0 h)
theorem ZdK (N:Nat) (l_:(List T4)) (values_:(List Zm)) (r:Bool) (h:Qv N l_ values_=some r) :
 Fn Tryz.prog 117 ⟨2,[.S 0,.S 1],[(0,.sl YM l_),(1,.sl ZD values_)],[],2,.O r,[],[]⟩:=by
 refine Zs func117 rfl (fun E F w=>?_)
 unfold Qv at h
 refine wB J 13 h (fun h=>?_) fun h=>wa J 9 (ZB (σ:=Unit) (fun st=>(Rp l_ values_ [])) (fun st=>Zba=some r) ?_ (fun j1=>?_))
 ·cases h
  exact wr J 5 func117 []
 ·intro _ h
  replace h:Zba=some r:=h
  unfold Zba at h
  cases h
  exact wr J 4 func117 []
 refine wa J 1 (ZF (σ:=Int) (fun st=>(Rp l_ values_ [(1,.S 1),(12,.S 0),(13,.I (l_.length:Int)),(14,.I st)])) (fun n st=>RG N l_ values_ n st) (r:=r) (fun _=>rfl) ?_ (fun ih=>?_))
 ·intro n2 ih3
  intro c h
  replace h:RG N l_ values_ (n2+1) c=some r:=h
  unfold RG at h
  refine Zo J 5 h (fun h=>wa J 2 (Zj [] (j1 () h))) fun h=>?_
  refine wO J 7 h fun d e h=>Zq J Xq e ?_
  refine wO J 11 h fun f g h=>Zq J Z5 g ?_
  refine wO J 1 h fun i j h=>Zn (Zhb N d.Sort' f _ j) [] [] (wa J 1 (ZA ?_))
  refine eB h (fun h=>?_) fun h=>wa J 7 (Zj [] (ih3 (Zi (c+1)) h))
  cases h
  exact wr J 5 func117 []
 exact Zj [] (ih N 0 h)
theorem Ze0 (N:Nat) (s_:(List Zm)) (r:(List Zm)) (h:z55 N s_=some r) :
 Fn Tryz.prog 55 ⟨1,[.S 0],[(0,.sl ZD s_)],[],2,.S 1,[],[(1,.own ZD r true)]⟩:=by
 refine Zs func55 rfl (fun E F w=>?_)
 unfold z55 at h
 refine wa J 8 (eNi ZD s_ false ?_)
 intro nb hnb
 cases nb
 ·refine wa J 5 (Z8 J [] Z5 ([]:List Zm) ?_)
  refine wO J 1 h fun x1 c h=>Yr J ZD c ?_
  cases h
  exact wr J 2 func55 [(1,.sl 2)]
 ·obtain rfl:=hnb rfl
  replace h:(some ([]:List Zm):Option (List Zm))=some r:=h
  cases h
  exact wr J 6 func55 [(1,.nil)]
theorem Zep (N:Nat) (d_:T0) (values_:(List Zm)) (known_:(List Zm)) (r:(List Zm)) (h:SY N d_ values_ known_=some r) :
 Fn Tryz.prog 114 ⟨5,[.a (Yt 0 1 2 d_),.S 3,.S 4],(Yn 0 1 2 d_ [(3,.sl ZD values_),(4,.sl ZD known_)]),[],6,.S 5,[],[(5,.own ZD r true)]⟩:=by
 refine Zs func114 rfl (fun E F w=>?_)
 unfold SY at h
 refine wO J 8 h fun x1 c h=>Zn (Ze0 N known_ _ c) [] [(0,.sl 4)] ?_
 refine wO J 7 h fun x2 d h=>UQ J ZD d ?_
 refine wO J 1 h fun x3 e h=>eCw J ZD e ?_
 cases h
 exact wr J 6 func114 [(5,.sl 6)]
theorem Zhs (N:Nat) (g_:T6) (l_:(List Zm)) (r:Bool) (h:Lv N g_ l_=some r) :
 Fn Tryz.prog 116 ⟨3,[.a [.sl 0,.sl 1],.S 2],[(0,.sl YO g_.Diffs),(1,.sl (rP (rI .i64) (rI .i64)) g_.Equals),(2,.sl ZD l_)],[],3,.O r,[],[]⟩:=by
 refine Zs func116 rfl (fun E F w=>?_)
 unfold Lv at h
 refine wa J 13 (ZB (σ:=Unit) (fun st=>(Rl g_.Diffs g_.Equals l_ [(1,.S 2),(2,.B 3 0)])) (fun st=>H1 N g_ l_=some r) ?_ (fun j1=>?_))
 ·intro _ h
  replace h:H1 N g_ l_=some r:=h
  unfold H1 at h
  refine wa J 8 (ZB (σ:=Unit) (fun st=>(ZbO g_.Diffs g_.Equals l_ [])) (fun st=>Zbv=some r) ?_ (fun j12=>?_))
  ·intro _ h
   replace h:Zbv=some r:=h
   unfold Zbv at h
   cases h
   exact wr J 4 func116 []
  refine wa J 1 (ZF (σ:=Int) (fun st=>(ZbO g_.Diffs g_.Equals l_ [(1,.S 2),(55,.S 1),(56,.I (g_.Equals.length:Int)),(57,.I st)])) (fun n st=>Sj g_ l_ n st) (r:=r) (fun _=>rfl) ?_ (fun ih=>?_))
  ·intro n9 ih14
   intro c h
   replace h:Sj g_ l_ (n9+1) c=some r:=h
   unfold Sj at h
   refine Zo J 5 h (fun h=>wa J 2 (Zj [] (j12 () h))) fun h=>?_
   refine wO J 6 h fun d e h=>Zq J (oP (oI .i64) (oI .i64)) e (wa J 7 (XA 0 rfl ?_))
   refine wO J 1 h fun f g h=>Zq J Z5 g ?_
   refine wB J 4 h (fun h=>wa J 23 (ZA ?_)) fun h=>wa J 1 (XA 1 rfl ?_)
   ·cases h
    exact wr J 5 func116 []
   refine wO J 1 h fun j k h=>Zq J Z5 k ?_
   refine wB J 5 h (fun h=>wa J 14 (ZA ?_)) fun h=>wa J 1 (XA 0 rfl ?_)
   ·cases h
    exact wr J 5 func116 []
   refine wO J 1 h fun l m h=>Zq J Z5 m (wa J 3 (XA 1 rfl ?_))
   refine wO J 1 h fun o p h=>Zq J Z5 p (wa J 4 (ZA ?_))
   refine eB h (fun h=>?_) fun h=>wa J 7 (Zj [] (ih14 (Zi (c+1)) h))
   cases h
   exact wr J 5 func116 []
  exact Zj [] (ih N 0 h)
 refine wa J 1 (ZF (σ:=Int) (fun st=>(Rl g_.Diffs g_.Equals l_ [(1,.S 2),(2,.B 3 0),(13,.S 0),(14,.I (g_.Diffs.length:Int)),(15,.I st)])) (fun n st=>VI N g_ l_ n st) (r:=r) (fun _=>rfl) ?_ (fun ih=>?_))
 ·intro n14 ih15
  intro q h
  replace h:VI N g_ l_ (n14+1) q=some r:=h
  unfold VI at h
  refine Zo J 5 h (fun h=>wa J 2 (Zj [] (j1 () h))) fun h=>?_
  refine wO J 6 h fun s t h=>Zq J Ut t (wa J 20 (ZB (σ:=Int × Int) (fun st=>(ZfH s st.1 st.2 g_.Diffs g_.Equals l_ [(1,.S 2),(2,.B 3 0),(6,.B 5 0),(7,.B 6 0),(13,.S 0),(14,.I (g_.Diffs.length:Int)),(15,.I q)])) (fun st=>G1 q (VI N g_ l_ n14) s st.1 st.2=some r) ?_ (fun j22=>?_)))
  ·rintro ⟨u,v⟩ h
   replace h:G1 q (VI N g_ l_ n14) s u v=some r:=h
   unfold G1 at h
   refine wa J 2 (XA 0 rfl (wa J 1 (XA 1 rfl ?_)))
   refine wB J 6 h (fun h=>?_) fun h=>wa J 7 (Zj [] (ih15 (Zi (q+1)) h))
   cases h
   exact wr J 5 func116 []
  refine wa J 1 (ZF (σ:=Int × Int × Int) (fun st=>(ZfH s st.1 st.2.1 g_.Diffs g_.Equals l_ [(1,.S 2),(2,.B 3 0),(6,.B 5 0),(7,.B 6 0),(13,.S 0),(14,.I (g_.Diffs.length:Int)),(15,.I q),(24,.a [.I s.X,.I s.Y]),(25,.I st.2.2)])) (fun n st=>VL N l_ q (VI N g_ l_ n14) s n st.1 st.2.1 st.2.2) (r:=r) (fun _=>rfl) ?_ (fun ih=>?_))
  ·intro n16 ih24
   rintro ⟨x,y,z⟩ h
   replace h:VL N l_ q (VI N g_ l_ n14) s (n16+1) x y z=some r:=h
   unfold VL at h
   refine Zo J 5 h (fun h=>wa J 2 (Zj [] (j22 (x,y) h))) fun h=>?_
   refine wO J 7 h fun A C h=>eAx (SC.i .i64) ([s.X,s.Y]:List Int) C ?_
   refine wB J 9 h (fun h=>wa J 6 (Zj [] (ih24 (x,y,(Zi (z+1))) h))) fun h=>?_
   refine wO J 7 h fun D G h=>Zq J Z5 G ?_
   refine wB J 4 h (fun h=>?_) fun h=>?_
   ·cases h
    exact wr J 5 func116 []
   refine wO J 6 h fun H R h=>Zq J Z5 R ?_
   refine wO J 1 h fun T U h=>Zn (Gk N H _ U) [] [] ?_
   obtain ⟨K,h⟩|⟨K,h⟩:=oc h
   ·exact XA 0 (by exact eq_of_beq K) (wa J 7 (Zj [] (ih24 (T,y,(Zi (z+1))) h)))
   obtain ⟨K,h⟩|⟨K,h⟩:=oc h
   ·exact XA 1 (by exact eq_of_beq K) (wa J 7 (Zj [] (ih24 (x,T,(Zi (z+1))) h)))
   cases h
  exact Zj [] (ih N (0,0,0) h)
 exact Zj [] (ih N 0 h)
theorem Zie (N:Nat) (decls_:(List T0)) (label_:Int) (values_:(List Zm)) (known_:(List Zm)) (r:Bool) (h:MC N decls_ label_ values_ known_=some r) :
 Fn Tryz.prog 56 ⟨3,[.S 0,.I label_,.S 1,.S 2],[(0,.sl ZL decls_),(1,.sl ZD values_),(2,.sl ZD known_)],[],3,.O r,[],[]⟩:=by
 refine Zs func56 rfl (fun E F w=>?_)
 unfold MC at h
 refine wO J 10 h fun x1 c h=>Zn (Zc4 N decls_ label_ known_ _ c) [] [(0,.sl 0),(1,.sl 2)] ?_
 refine wB J 2 h (fun h=>?_) fun h=>?_
 ·cases h
  exact wr J 15 func56 []
 refine wO J 2 h fun x2 d h=>Zq J Yg d ?_
 refine wO J 3 h fun x3 e h=>Zn (ZdK N x2.Fields values_ _ e) [] [(0,.sl 4),(1,.sl 1)] ?_
 refine wB J 3 h (fun h=>?_) fun h=>?_
 ·cases h
  exact wr J 5 func56 []
 refine wO J 6 h fun x4 f h=>Zq J Yg f ?_
 refine wO J 11 h fun x5 g h=>Zn (Zep N x4 values_ known_ _ g) [] [(0,.sl 8),(1,.sl 9),(2,.sl 10),(3,.sl 1),(4,.sl 2)] ?_
 obtain ⟨x6,i,h⟩:=ob h
 refine Xe (Zhs N x4.Guard x5 _ i) [] [(0,.sl 9),(1,.sl 10),(2,.sl 12)] [12] (.inr ⟨rfl,trivial⟩) (wa J 1 (ZA ?_))
 cases h
 exact Z4 J func56 []
theorem ZfK (N:Nat) (x_:ByteArray) (r:Bool) (h:Lu N x_=some r) :
 Fn Tryz.prog 271 ⟨0,[.c (.s x_)],[],[],0,.O r,[],[]⟩:=by
 refine Zs func271 rfl (fun E F w=>?_)
 unfold Lu at h
 cases h
 exact wr J 11 func271 []
theorem Znw (N:Nat) (x_:ByteArray) (y_:ByteArray) (r:Int) (h:z233 N x_ y_=some r) :
 Fn Tryz.prog 233 ⟨0,[.c (.s x_),.c (.s y_)],[],[],0,.I r,[],[]⟩:=by
 refine Zs func233 rfl (fun E F w=>?_)
 unfold z233 at h
 refine wO J 7 h fun x1 d h=>Zn (ZfK N x_ _ d) [] [] ?_
 refine wO J 5 h fun x2 e h=>Zn (ZfK N y_ _ e) [] [] ?_
 refine wB J 7 h (fun h=>?_) fun h=>?_
 ·refine wB J 6 h (fun h=>?_) fun h=>?_
  ·cases h
   exact wr J 5 func233 []
  cases h
  exact wr J 6 func233 []
 refine wB J 7 h (fun h=>?_) fun h=>?_
 ·cases h
  exact wr J 5 func233 []
 refine wB J 9 h (fun h=>?_) fun h=>?_
 ·cases h
  exact wr J 5 func233 []
 refine wB J 9 h (fun h=>?_) fun h=>?_
 ·cases h
  exact wr J 5 func233 []
 cases h
 exact wr J 6 func233 []
theorem ZgG (N:Nat) (a_:Zm) (b_:Zm) (r:Int) (h:z173 N a_ b_=some r) :
 Fn Tryz.prog 173 ⟨0,[.a (Xx a_),.a (Xx b_)],[],[],0,.I r,[],[]⟩:=by
 refine Zs func173 rfl (fun E F w=>?_)
 unfold z173 at h
 refine wO J 12 h fun x1 c h=>Zn (Dw N a_.Kind b_.Kind _ c) [] [] ?_
 refine wO J 4 h fun x2 d h=>Zn (Dw N a_.N b_.N _ d) [] [] ?_
 refine wO J 6 h fun x3 e h=>Zn (Dw N (a_.S.size:Int) (b_.S.size:Int) _ e) [] [] ?_
 refine wO J 4 h fun x4 f h=>Zn (Znw N a_.S b_.S _ f) [] [] (Z8 J [] (oI .i64) ([x1,x2,x3,x4]:List Int) ?_)
 obtain ⟨x5,g,h⟩:=ob h
 refine Xe (ZgF N ([x1,x2,x3,x4]:List Int) _ g) [] [(0,.sl 2)] [2] (.inr ⟨rfl,trivial⟩) (wa J 1 (ZA ?_))
 cases h
 exact Z4 J func173 []
theorem ZqC (N:Nat) (x_:Zm) (y_:Zm) (r:Bool) (h:W4 N x_ y_=some r) :
 Fn Tryz.prog 172 ⟨0,[.a (Xx x_),.a (Xx y_)],[],[],0,.O r,[],[]⟩:=by
 refine Zs func172 rfl (fun E F w=>?_)
 unfold W4 at h
 refine wO J 10 h fun x1 c h=>Zn (ZgG N x_ y_ _ c) [] [] ?_
 cases h
 exact wr J 3 func172 []
theorem ZnW (N:Nat) (s1_:(List Zm)) (s2_:(List Zm)) (r:Bool) (h:GZ N s1_ s2_=some r) :
 Fn Tryz.prog 171 ⟨2,[.S 0,.S 1,.c (.cl 172 [] [])],[(0,.sl ZD s1_),(1,.sl ZD s2_)],[],2,.O r,[],[]⟩:=by
 refine Zs func171 rfl (fun E F w=>?_)
 unfold GZ at h
 refine wB J 13 h (fun h=>?_) fun h=>wa J 9 (ZB (σ:=Unit) (fun st=>(RL s1_ s2_ [])) (fun st=>Zb0=some r) ?_ (fun j1=>?_))
 ·cases h
  exact wr J 5 func171 []
 ·intro _ h
  replace h:Zb0=some r:=h
  unfold Zb0 at h
  cases h
  exact wr J 4 func171 []
 refine wa J 1 (ZF (σ:=Int) (fun st=>(RL s1_ s2_ [(1,.S 1),(2,.c (.cl 172 [] [])),(15,.S 0),(16,.I (s1_.length:Int)),(17,.I st)])) (fun n st=>UY N s1_ s2_ n st) (r:=r) (fun _=>rfl) ?_ (fun ih=>?_))
 ·intro n2 ih3
  intro d h
  replace h:UY N s1_ s2_ (n2+1) d=some r:=h
  unfold UY at h
  refine Zo J 5 h (fun h=>wa J 2 (Zj [] (j1 () h))) fun h=>?_
  refine wO J 7 h fun e f h=>Zq J Z5 f ?_
  refine wO J 9 h fun g i h=>Zq J Z5 i ?_
  refine wO J 9 h fun j k h=>Zn (ZqC N e g _ k) [] [] ?_
  refine wB J 2 h (fun h=>?_) fun h=>wa J 7 (Zj [] (ih3 (Zi (d+1)) h))
  cases h
  exact wr J 5 func171 []
 exact Zj [] (ih N 0 h)
theorem Zsw (N:Nat) (a_:(List Zm)) (b_:(List Zm)) (r:Bool) (h:RI N a_ b_=some r) :
 Fn Tryz.prog 95 ⟨2,[.S 0,.S 1],[(0,.sl ZD a_),(1,.sl ZD b_)],[],2,.O r,[],[]⟩:=by
 refine Zs func95 rfl (fun E F w=>?_)
 unfold RI at h
 refine wO J 8 h fun x1 c h=>Zn (ZnW N a_ b_ _ c) [] [(0,.sl 0),(1,.sl 1)] ?_
 cases h
 exact wr J 2 func95 []
theorem Zl4 (N:Nat) (decls_:(List T0)) (label_:Int) (values_:(List Zm)) (known_:(List Zm)) (r:(List Zm) × Int) (h:TP N decls_ label_ values_ known_=some r) :
 Fn Tryz.prog 96 ⟨3,[.S 0,.I label_,.S 1,.S 2],[(0,.sl ZL decls_),(1,.sl ZD values_),(2,.sl ZD known_)],[],4,.t [.inl (.sl 3),.inl (.I r.2)],[],[(3,.own ZD r.1 true)]⟩:=by
 refine Zs func96 rfl (fun E F w=>?_)
 unfold TP at h
 refine wO J 11 h fun x1 c h=>Zn (Zc4 N decls_ label_ known_ _ c) [] [(0,.sl 0),(1,.sl 2)] ?_
 refine wB J 2 h (fun h=>?_) fun h=>?_
 ·cases h
  exact wr J 6 func96 [(3,.nil)]
 refine wO J 7 h fun x2 d h=>Zq J Yg d ?_
 refine wO J 3 h fun x3 e h=>Zn (ZdK N x2.Fields values_ _ e) [] [(0,.sl 4),(1,.sl 1)] ?_
 refine wB J 2 h (fun h=>?_) fun h=>?_
 ·cases h
  exact wr J 6 func96 [(3,.nil)]
 refine wO J 6 h fun x4 f h=>Zq J Yg f ?_
 refine wO J 3 h fun x5 g h=>Zn (Zep N x4 values_ known_ _ g) [] [(0,.sl 8),(1,.sl 9),(2,.sl 10),(3,.sl 1),(4,.sl 2)] ?_
 cases h
 exact wr J 3 func96 [(3,.sl 11)]
theorem Zm3 (N:Nat) (g_:T5) (m_:T8) (s_:ZJ) (x_:T3) (r:ZJ × Int) (h:TB N g_ m_ s_ x_=some r) :
 Fn Tryz.prog 47 ⟨10,[.a (ZT 0 1 2 3 g_),.a (ZX 4 5 6 m_),.a (Xy 7 8 s_),.a (X5 9 x_)],((0,.sl rS g_.Roles)::(1,.sl ZL g_.Decls)::(2,.sl Yf g_.Edges)::(3,.sl Z2 g_.Timeouts)::(4,.sl rB m_.Finals)::(5,.sl Xn m_.Moves)::(6,.sl Z2 m_.Timeouts)::XG 7 8 s_ [(9,.sl ZD x_.Values)]),[],12,.t [.inr (Xy 10 11 r.1),.inl (.I r.2)],(XG 10 11 r.1 []),[]⟩:=by
 refine Zs func47 rfl (fun E F w=>?_)
 unfold TB at h
 refine wO J 14 h fun x1 c h=>Zn (Zri N m_.Moves s_ x_ _ c) [] [(0,.sl 5),(1,.bp 12 0),(2,.sl 7),(3,.sl 8),(4,.bp 13 0),(5,.sl 9)] ?_
 refine wB J 13 h (fun h=>?_) fun h=>?_
 ·cases h
  exact wr J 7 func47 [(10,.nil),(11,.nil)]
 refine wB J 7 h (fun h=>?_) fun h=>?_
 ·cases h
  exact wr J 7 func47 [(10,.nil),(11,.nil)]
 refine wO J 7 h fun x2 d h=>Zq J Yg d ?_
 refine wO J 4 h fun x3 e h=>Zn (ZoK N x2.Fields x_.Values _ e) [] [(0,.sl 16),(1,.sl 9)] (wa J 2 (ZA ?_))
 refine eB h (fun h=>?_) fun h=>?_
 ·cases h
  exact wr J 7 func47 [(10,.nil),(11,.nil)]
 refine wO J 12 h fun x4 f h=>Zn (Zie N g_.Decls x_.Label x_.Values s_.Known _ f) [] [(0,.sl 1),(1,.sl 9),(2,.sl 7)] (wa J 3 (ZB (σ:=Bool) (fun st=>⟨[(4,.B 10 0),(5,.B 11 0),(6,.B 12 0),(7,.B 13 0),(8,.B 14 0),(10,.I x1),(40,.O st)],[(10,.box (ZT 0 1 2 3 g_) 27),(11,.box (ZX 4 5 6 m_) 31),(12,.box (Xy 7 8 s_) 48),(13,.box (X5 9 x_) 46),(14,.box [.I 0,.nil,.nil] 48)],((0,.sl rS g_.Roles)::(1,.sl ZL g_.Decls)::(2,.sl Yf g_.Edges)::(3,.sl Z2 g_.Timeouts)::(4,.sl rB m_.Finals)::(5,.sl Xn m_.Moves)::(6,.sl Z2 m_.Timeouts)::XG 7 8 s_ [(9,.sl ZD x_.Values)]),19⟩) (fun st=>TF N g_ m_ s_ x_ x1 st=some r) ?_ (fun j1=>?_)))
 ·intro g h
  replace h:TF N g_ m_ s_ x_ x1 g=some r:=h
  unfold TF at h
  refine eB h (fun h=>?_) fun h=>?_
  ·cases h
   exact wr J 7 func47 [(10,.nil),(11,.nil)]
  refine wO J 8 h fun x7 i h=>Zq J YH i ?_
  refine wO J 16 h fun x8 j h=>Zn (Zl4 N g_.Decls x_.Label x_.Values s_.Known _ j) [] [(0,.sl 1),(1,.sl 9),(2,.sl 7)] ?_
  refine Zo J 12 h (fun h=>wa J 8 (UD [21] ?_)) fun h=>?_
  ·cases h
   exact Z4 J func47 [(10,.sl 21),(11,.nil)]
  refine wO J 4 h fun x9 k h=>Zn (Ze0 N x_.Values _ k) [] [(0,.sl 9)] (wa J 9 (UD [21] (UD [22] ?_)))
  cases h
  exact Z4 J func47 [(10,.sl 21),(11,.sl 22)]
 refine eB h (fun h=>wa J 2 (Zj [] (j1 true h))) fun h=>?_
 refine wO J 5 h fun l m h=>Zq J YH m ?_
 refine Zo J 3 h (fun h=>wa J 9 (Zj [] (j1 false h))) fun h=>?_
 exact wO J 4 h fun o p h=>Zn (Zsw N x_.Values s_.Pending _ p) [] [(0,.sl 9),(1,.sl 8)] (wa J 4 (Zj [] (j1 (!o) h)))
theorem Zc8 (N:Nat) (g_:T5) (m_:T8) (history_:(List T3)) (r:ZJ × Int × Int) (h:X6 N g_ m_ history_=some r) :
 Fn Tryz.prog 17 ⟨8,[.a (ZT 0 1 2 3 g_),.a (ZX 4 5 6 m_),.S 7],((0,.sl rS g_.Roles)::(1,.sl ZL g_.Decls)::(2,.sl Yf g_.Edges)::(3,.sl Z2 g_.Timeouts)::ZZ 4 5 6 m_ [(7,.sl Yv history_)]),[],10,.t [.inr (Xy 8 9 r.1),.inl (.I r.2.1),.inl (.I r.2.2)],(XG 8 9 r.1 []),[]⟩:=by
 refine Zs func17 rfl (fun E F w=>?_)
 unfold X6 at h
 refine wO J 12 h fun x1 c h=>Zn (ZeR N g_ m_ _ c) [] [(0,.sl 0),(1,.sl 1),(2,.sl 2),(3,.sl 3),(4,.sl 4),(5,.sl 5),(6,.sl 6)] ?_
 refine wO J 8 h fun x2 d h=>Zn (ZcQ N g_ m_ x1 _ d) [] [(0,.sl 0),(1,.sl 1),(2,.sl 2),(3,.sl 3),(4,.sl 4),(5,.sl 5),(6,.sl 6),(7,.sl 11),(8,.sl 12)] ?_
 refine wB J 2 h (fun h=>?_) fun h=>wa J 9 (ZB (σ:=Int × (List Zm) × (List Zm)) (fun st=>⟨[(2,.S 7),(6,.B 10 0)],[(10,.box [.I st.1,.sl 13,.sl 14] 48)],((0,.sl rS g_.Roles)::(1,.sl ZL g_.Decls)::(2,.sl Yf g_.Edges)::(3,.sl Z2 g_.Timeouts)::ZZ 4 5 6 m_ [(7,.sl Yv history_),(13,.sl ZD st.2.1),(14,.sl ZD st.2.2)]),15⟩) (fun st=>Zad history_ st.1 st.2.1 st.2.2=some r) ?_ (fun j1=>?_))
 ·cases h
  exact wr J 8 func17 [(8,.nil),(9,.nil)]
 ·rintro ⟨e,f,g⟩ h
  replace h:Zad history_ e f g=some r:=h
  unfold Zad at h
  cases h
  exact wr J 9 func17 [(8,.sl 13),(9,.sl 14)]
 refine wa J 1 (ZF (σ:=Int × (List Zm) × (List Zm) × Int) (fun st=>⟨[(2,.S 7),(3,.B 8 0),(4,.B 9 0),(6,.B 10 0),(22,.S 7),(23,.I (history_.length:Int)),(24,.I st.2.2.2)],[(8,.box (ZT 0 1 2 3 g_) 27),(9,.box (ZX 4 5 6 m_) 31),(10,.box [.I st.1,.sl 13,.sl 14] 48)],((0,.sl rS g_.Roles)::(1,.sl ZL g_.Decls)::(2,.sl Yf g_.Edges)::(3,.sl Z2 g_.Timeouts)::ZZ 4 5 6 m_ [(7,.sl Yv history_),(13,.sl ZD st.2.1),(14,.sl ZD st.2.2.1)]),15⟩) (fun n st=>Rx N g_ m_ history_ n st.1 st.2.1 st.2.2.1 st.2.2.2) (r:=r) (fun _=>rfl) ?_ (fun ih=>?_))
 ·intro n2 ih3
  rintro ⟨i,j,k,l⟩ h
  replace h:Rx N g_ m_ history_ (n2+1) i j k l=some r:=h
  unfold Rx at h
  refine Zo J 5 h (fun h=>wa J 2 (Zj [] (j1 (i,j,k) h))) fun h=>?_
  refine wO J 7 h fun m o h=>Zq J W1 o ?_
  refine wO J 11 h fun p q h=>Zn (Zm3 N g_ m_ (⟨i,j,k⟩:ZJ) m _ q) [] [(0,.sl 0),(1,.sl 1),(2,.sl 2),(3,.sl 3),(4,.sl 4),(5,.sl 5),(6,.sl 6),(7,.sl 13),(8,.sl 14),(9,.sl 16)] ?_
  refine wB J 13 h (fun h=>?_) fun h=>wa J 11 (Zj [(13,.sl 18),(14,.sl 19)] (ih3 (p.1.At,p.1.Known,p.1.Pending,(Zi (l+1))) h))
  cases h
  exact wr J 10 func17 [(8,.sl 13),(9,.sl 14)]
 exact Zj [(13,.sl 11),(14,.sl 12)] (ih N (x1.At,x1.Known,x1.Pending,0) h)
theorem Zmf (N:Nat) (s_:(List T3)) (r:(List T3)) (h:Mg N s_=some r) :
 Fn Tryz.prog 44 ⟨1,[.S 0],[(0,.sl Yv s_)],[],2,.S 1,[],[(1,.own Yv r true)]⟩:=by
 refine Zs func44 rfl (fun E F w=>?_)
 unfold Mg at h
 refine wa J 8 (eNi Yv s_ false ?_)
 intro nb hnb
 cases nb
 ·refine wa J 5 (Z8 J [] W1 ([]:List T3) ?_)
  refine wO J 1 h fun x1 c h=>Yr J Yv c ?_
  cases h
  exact wr J 2 func44 [(1,.sl 2)]
 ·obtain rfl:=hnb rfl
  replace h:(some ([]:List T3):Option (List T3))=some r:=h
  cases h
  exact wr J 6 func44 [(1,.nil)]
theorem Zss (N:Nat) (decls_:(List T0)) (label_:Int) (own_:(List Zm)) (known_:(List Zm)) (r:(List Zm)) (h:Dg N decls_ label_ own_ known_=some r) :
 Fn Tryz.prog 175 ⟨3,[.S 0,.I label_,.S 1,.S 2],[(0,.sl ZL decls_),(1,.sl ZD own_),(2,.sl ZD known_)],[],4,.S 3,[],[(3,.own ZD r true)]⟩:=by
 refine Zs func175 rfl (fun E F w=>?_)
 unfold Dg at h
 refine wa J 6 (Z8 J [] Z5 ([]:List Zm) ?_)
 refine wO J 1 h fun x1 c h=>Yr J ZD c ?_
 refine wO J 7 h fun x2 d h=>Zq J Yg d ?_
 refine wO J 2 h fun x3 e h=>UQ J ZD e ?_
 refine wO J 1 h fun x4 f h=>eCw J ZD f ?_
 cases h
 exact wr J 6 func175 [(3,.sl 4)]
theorem Zi3 (N:Nat) (all_:(List Zm)) (x_:Int) (r:Int × Bool) (h:Mv N all_ x_=some r) :
 Fn Tryz.prog 234 ⟨1,[.S 0,.I x_],[(0,.sl ZD all_)],[],1,.t [.inl (.I r.1),.inl (.b r.2)],[],[]⟩:=by
 refine Zs func234 rfl (fun E F w=>?_)
 unfold Mv at h
 refine wB J 11 h (fun h=>?_) fun h=>?_
 ·cases h
  exact wr J 6 func234 []
 refine wO J 6 h fun x1 c h=>Zq J Z5 c ?_
 refine wO J 1 h fun x2 d h=>Zn (Zfm N x1 _ d) [] [] ?_
 refine wO J 2 h fun x3 e h=>Zq J Z5 e (wa J 5 (ZA ?_))
 cases h
 exact Z4 J func234 []
theorem Zk4 (N:Nat) (x_:T6) (all_:(List Zm)) (r:Int × Bool) (h:Ms N x_ all_=some r) :
 Fn Tryz.prog 174 ⟨3,[.a [.sl 0,.sl 1],.S 2],[(0,.sl YO x_.Diffs),(1,.sl (rP (rI .i64) (rI .i64)) x_.Equals),(2,.sl ZD all_)],[],3,.t [.inl (.I r.1),.inl (.b r.2)],[],[]⟩:=by
 refine Zs func174 rfl (fun E F w=>?_)
 unfold Ms at h
 refine wa J 14 (ZB (σ:=Unit) (fun st=>(Rl x_.Diffs x_.Equals all_ [(1,.S 2),(2,.B 3 0)])) (fun st=>Zam N x_ all_=some r) ?_ (fun j1=>?_))
 ·intro _ h
  replace h:Zam N x_ all_=some r:=h
  unfold Zam at h
  refine wa J 8 (ZB (σ:=Unit) (fun st=>(ZbO x_.Diffs x_.Equals all_ [])) (fun st=>BQ=some r) ?_ (fun j3=>?_))
  ·intro _ h
   replace h:BQ=some r:=h
   unfold BQ at h
   cases h
   exact wr J 5 func174 []
  refine wa J 1 (ZF (σ:=Int) (fun st=>(Rl x_.Diffs x_.Equals all_ [(1,.S 2),(2,.B 3 0),(55,.S 1),(56,.I (x_.Equals.length:Int)),(57,.I st)])) (fun n st=>Sz x_ all_ n st) (r:=r) (fun _=>rfl) ?_ (fun ih=>?_))
  ·intro n3 ih5
   intro c h
   replace h:Sz x_ all_ (n3+1) c=some r:=h
   unfold Sz at h
   refine Zo J 5 h (fun h=>wa J 2 (Zj [] (j3 () h))) fun h=>?_
   refine wO J 7 h fun d e h=>Zq J (oP (oI .i64) (oI .i64)) e (wa J 8 (XA 0 rfl ?_))
   refine wO J 1 h fun f g h=>Zq J Z5 g (wa J 2 (XA 1 rfl ?_))
   refine wO J 1 h fun i j h=>Zq J Z5 j (wa J 5 (ZA ?_))
   refine wB J 6 h (fun h=>?_) fun h=>?_
   ·cases h
    exact wr J 23 func174 []
   refine wB J 5 h (fun h=>?_) fun h=>?_
   ·cases h
    exact wr J 18 func174 []
   refine wB J 7 h (fun h=>?_) fun h=>wa J 7 (Zj [] (ih5 (Zi (c+1)) h))
   cases h
   exact wr J 11 func174 []
  exact Zj [] (ih N 0 h)
 refine wa J 1 (ZF (σ:=Int) (fun st=>(Rl x_.Diffs x_.Equals all_ [(1,.S 2),(2,.B 3 0),(17,.S 0),(18,.I (x_.Diffs.length:Int)),(19,.I st)])) (fun n st=>Qn N x_ all_ n st) (r:=r) (fun _=>rfl) ?_ (fun ih=>?_))
 ·intro n4 ih6
  intro k h
  replace h:Qn N x_ all_ (n4+1) k=some r:=h
  unfold Qn at h
  refine Zo J 5 h (fun h=>wa J 2 (Zj [] (j1 () h))) fun h=>?_
  refine wO J 7 h fun l m h=>Zq J Ut m ?_
  refine wO J 10 h fun o p h=>Zn (Zi3 N all_ l.X _ p) [] [(0,.sl 2)] ?_
  refine wO J 11 h fun q s h=>Zn (Zi3 N all_ l.Y _ s) [] [(0,.sl 2)] ?_
  refine wB J 11 h (fun h=>?_) fun h=>?_
  ·cases h
   exact wr J 19 func174 []
  refine wB J 4 h (fun h=>?_) fun h=>?_
  ·cases h
   exact wr J 15 func174 []
  refine wB J 8 h (fun h=>?_) fun h=>wa J 7 (Zj [] (ih6 (Zi (k+1)) h))
  cases h
  exact wr J 7 func174 []
 exact Zj [] (ih N 0 h)
theorem ZoB (N:Nat) (a_:(List Zm)) (b_:(List Zm)) (r:Int) (h:Do N a_ b_=some r) :
 Fn Tryz.prog 176 ⟨2,[.S 0,.S 1],[(0,.sl ZD a_),(1,.sl ZD b_)],[],2,.I r,[],[]⟩:=by
 refine Zs func176 rfl (fun E F w=>?_)
 unfold Do at h
 refine wa J 11 (ZB (σ:=Unit) (fun st=>(RL a_ b_ [(0,.S 0)])) (fun st=>BC a_=some r) ?_ (fun j1=>?_))
 ·intro _ h
  replace h:BC a_=some r:=h
  unfold BC at h
  cases h
  exact wr J 6 func176 []
 refine wa J 1 (ZF (σ:=Int) (fun st=>(RL a_ b_ [(0,.S 0),(1,.S 1),(7,.I (a_.length:Int)),(8,.I st)])) (fun n st=>Qq N a_ b_ n st) (r:=r) (fun _=>rfl) ?_ (fun ih=>?_))
 ·intro n2 ih3
  intro c h
  replace h:Qq N a_ b_ (n2+1) c=some r:=h
  unfold Qq at h
  refine Zo J 5 h (fun h=>wa J 2 (Zj [] (j1 () h))) fun h=>?_
  refine wB J 16 h (fun h=>wa J 11 (ZA ?_)) fun h=>?_
  ·cases h
   exact wr J 6 func176 []
  refine wO J 2 h fun d e h=>Zq J Z5 e ?_
  refine wO J 3 h fun f g h=>Zq J Z5 g ?_
  refine wO J 1 h fun i j h=>Zn (ZgG N d f _ j) [] [] (wa J 2 (ZA ?_))
  refine eB h (fun h=>?_) fun h=>wa J 7 (Zj [] (ih3 (Zi (c+1)) h))
  cases h
  exact wr J 6 func176 []
 exact Zj [] (ih N 0 h)
theorem ZkT (N:Nat) (g_:T5) (s_:ZJ) (x_:T3) (e_:Int) (r:Int × Int) (h:Lc N g_ s_ x_ e_=some r) :
 Fn Tryz.prog 97 ⟨7,[.a (ZT 0 1 2 3 g_),.a (Xy 4 5 s_),.a (X5 6 x_),.I e_],((0,.sl rS g_.Roles)::(1,.sl ZL g_.Decls)::(2,.sl Yf g_.Edges)::(3,.sl Z2 g_.Timeouts)::XG 4 5 s_ [(6,.sl ZD x_.Values)]),[],7,.t [.inl (.I r.1),.inl (.I r.2)],[],[]⟩:=by
 refine Zs func97 rfl (fun E F w=>?_)
 unfold Lc at h
 refine wB J 19 h (fun h=>?_) fun h=>?_
 ·cases h
  exact wr J 6 func97 []
 refine wB J 6 h (fun h=>?_) fun h=>?_
 ·cases h
  exact wr J 6 func97 []
 refine wO J 9 h fun x1 c h=>Zq J Yg c ?_
 refine wB J 15 h (fun h=>?_) fun h=>wa J 10 (ZB (σ:=Unit) (fun st=>(Zka g_ s_ x_ x1 g_.Roles g_.Decls g_.Edges g_.Timeouts x_.Values [(4,.B 7 0),(5,.B 8 0),(6,.B 9 0),(10,.B 14 0)])) (fun st=>Q3 N g_ s_ x_ x1=some r) ?_ (fun j1=>?_))
 ·cases h
  exact wr J 6 func97 []
 ·intro _ h
  replace h:Q3 N g_ s_ x_ x1=some r:=h
  unfold Q3 at h
  refine wO J 13 h fun d e h=>Zn (Zss N g_.Decls x_.Label x_.Values s_.Known _ e) [] [(0,.sl 1),(1,.sl 6),(2,.sl 4)] ?_
  obtain ⟨f,g,h⟩:=ob h
  refine Xe (Zk4 N x1.Guard d _ g) [] [(0,.sl 12),(1,.sl 13),(2,.sl 15)] [15] (.inr ⟨rfl,trivial⟩) (wa J 5 (ZA ?_))
  refine wB J 4 h (fun h=>?_) fun h=>?_
  ·cases h
   exact wr J 7 func97 []
  refine wO J 8 h fun i j h=>Zn (ZoB N x_.Values s_.Pending _ j) [] [(0,.sl 6),(1,.sl 5)] ?_
  cases h
  exact wr J 3 func97 []
 refine wa J 1 (ZF (σ:=Int) (fun st=>(Zka g_ s_ x_ x1 g_.Roles g_.Decls g_.Edges g_.Timeouts x_.Values [(4,.B 7 0),(5,.B 8 0),(6,.B 9 0),(10,.B 14 0),(34,.S 11),(35,.I (x1.Fields.length:Int)),(36,.I st)])) (fun n st=>UN N g_ s_ x_ x1 n st) (r:=r) (fun _=>rfl) ?_ (fun ih=>?_))
 ·intro n2 ih3
  intro k h
  replace h:UN N g_ s_ x_ x1 (n2+1) k=some r:=h
  unfold UN at h
  refine Zo J 5 h (fun h=>wa J 2 (Zj [] (j1 () h))) fun h=>?_
  refine wO J 7 h fun l m h=>Zq J Xq m ?_
  refine wO J 12 h fun o p h=>Zq J Z5 p ?_
  refine wO J 1 h fun q s h=>Zn (Zdx N l.Sort' o _ s) [] [] (wa J 1 (ZA ?_))
  refine eB h (fun h=>?_) fun h=>wa J 7 (Zj [] (ih3 (Zi (k+1)) h))
  cases h
  exact wr J 7 func97 []
 exact Zj [] (ih N 0 h)
theorem ZmI (N:Nat) (g_:T5) (m_:T8) (history_:(List T3)) (r:Xu × Bool × Int) (h:R7 N g_ m_ history_=some r) :
 Fn Tryz.prog 48 ⟨8,[.a (ZT 0 1 2 3 g_),.a (ZX 4 5 6 m_),.S 7],((0,.sl rS g_.Roles)::(1,.sl ZL g_.Decls)::(2,.sl Yf g_.Edges)::(3,.sl Z2 g_.Timeouts)::ZZ 4 5 6 m_ [(7,.sl Yv history_)]),[],8,.t [.inr (Zdc r.1),.inl (.b r.2.1),.inl (.I r.2.2)],[],[]⟩:=by
 refine Zs func48 rfl (fun E F w=>?_)
 unfold R7 at h
 refine wO J 13 h fun x1 c h=>Zn (Zc8 N g_ m_ history_ _ c) [] [(0,.sl 0),(1,.sl 1),(2,.sl 2),(3,.sl 3),(4,.sl 4),(5,.sl 5),(6,.sl 6),(7,.sl 7)] (wa J 21 (ZB (σ:=Bool) (fun st=>⟨[(2,.S 7),(3,.B 8 0),(4,.B 9 0),(6,.B 10 0),(8,.I x1.2.2),(9,.B 13 0),(10,.I x1.2.1),(21,.O st)],[(8,.box (ZT 0 1 2 3 g_) 27),(9,.box (ZX 4 5 6 m_) 31),(10,.box [.I 0,.I 0,.I 0,.I 0] 107),(13,.box (Xy 11 12 x1.1) 48)],((0,.sl rS g_.Roles)::(1,.sl ZL g_.Decls)::(2,.sl Yf g_.Edges)::(3,.sl Z2 g_.Timeouts)::(4,.sl rB m_.Finals)::(5,.sl Xn m_.Moves)::(6,.sl Z2 m_.Timeouts)::(7,.sl Yv history_)::XG 11 12 x1.1 []),14⟩) (fun st=>Ly N g_ m_ history_ x1 st=some r) ?_ (fun j1=>?_)))
 ·intro d h
  replace h:Ly N g_ m_ history_ x1 d=some r:=h
  unfold Ly at h
  refine eB h (fun h=>?_) fun h=>?_
  ·cases h
   exact wr J 9 func48 []
  refine wO J 7 h fun x2 e h=>Zq J W1 e ?_
  refine wO J 16 h fun x3 f h=>Zn (ZkT N g_ x1.1 x2 x1.2.2 _ f) [] [(0,.sl 0),(1,.sl 1),(2,.sl 2),(3,.sl 3),(4,.sl 11),(5,.sl 12),(6,.sl 15)] ?_
  refine wB J 17 h (fun h=>?_) fun h=>?_
  ·cases h
   exact wr J 15 func48 []
  refine wB J 7 h (fun h=>?_) fun h=>?_
  ·cases h
   exact wr J 15 func48 []
  cases h
  exact wr J 15 func48 []
 exact eB h (fun h=>wa J 2 (Zj [] (j1 true h))) fun h=>wa J 5 (Zj [] (j1 (x1.2.2==1) h))
theorem ZaG (N:Nat) (l_:(List ByteArray)) (i_:Int) (r:ByteArray) (h:Tx N l_ i_=some r) :
 Fn Tryz.prog 98 ⟨1,[.S 0,.I i_],[(0,.sl rS l_)],[],1,.c (.s r),[],[]⟩:=by
 refine Zs func98 rfl (fun E F w=>?_)
 unfold Tx at h
 refine wB J 10 h (fun h=>?_) fun h=>?_
 ·cases h
  exact wr J 11 func98 []
 refine wB J 6 h (fun h=>?_) fun h=>?_
 ·cases h
  exact wr J 5 func98 []
 refine wO J 6 h fun x1 d h=>Zq J oS d ?_
 cases h
 exact wr J 3 func98 []
theorem ZrI (N:Nat) (decls_:(List T0)) (r:(List ByteArray)) (h:BG N decls_=some r) :
 Fn Tryz.prog 99 ⟨1,[.S 0],[(0,.sl ZL decls_)],[],2,.S 1,[],[(1,.own rS r true)]⟩:=by
 refine Zs func99 rfl (fun E F w=>?_)
 unfold BG at h
 refine wa J 15 (ZB (σ:=(List ByteArray)) (fun st=>⟨[(3,.S 1)],[(1,.own rS st true)],[(0,.sl ZL decls_)],2⟩) (fun st=>Di st=some r) ?_ (fun j1=>?_))
 ·intro c h
  replace h:Di c=some r:=h
  unfold Di at h
  cases h
  exact wr J 5 func99 [(1,.sl 1)]
 refine wa J 1 (ZF (σ:=(List ByteArray) × Int) (fun st=>⟨[(3,.S 1),(6,.S 0),(7,.I (decls_.length:Int)),(8,.I st.2)],[(1,.own rS st.1 true)],[(0,.sl ZL decls_)],2⟩) (fun n st=>RT decls_ n st.1 st.2) (r:=r) (fun _=>rfl) ?_ (fun ih=>?_))
 ·intro n2 ih3
  rintro ⟨d,e⟩ h
  replace h:RT decls_ (n2+1) d e=some r:=h
  unfold RT at h
  refine Zo J 5 h (fun h=>wa J 2 (Zj [] (j1 d h))) fun h=>?_
  refine wO J 6 h fun f g h=>Zq J Yg g (wa J 8 (Z8 J [] oS ([f.Name]:List ByteArray) ?_))
  obtain ⟨i,j,h⟩:=ob h
  exact Yr J rS j (wa J 7 (Zj [(1,.sl 8)] (ih3 (i,(Zi (e+1))) h)))
 exact Zj [(1,.nil)] (ih N (([]:List ByteArray),0) h)
theorem Zln (N:Nat) (c0_:ByteArray) (r:ByteArray) (h:BJ N c0_=some r) :
 Fn Tryz.prog 153 ⟨1,[.B 0 0],[],[(0,.box [.v (.pointer none),.nil] 132)],2,.t [],[],[(1,.buf r 5),(0,.box [.bp 0 0,.sl 1] 132)]⟩:=by
 refine Zs func153 rfl (fun E F w=>?_)
 unfold BJ at h
 refine wa J 6 (ePz (wa J 5 (eCu (eNe func223 (by kernel_rfl) (by kernel_rfl) (by kernel_rfl) (by kernel_rfl) (eCq ?_)))))
 cases h
 exact wr J 4 func153 [(1,.nil)]
theorem Zqz (N:Nat) (c_:Int) (c0_:ByteArray) (r:Unit × ByteArray) (h:Dx N c_ c0_=some r) :
 Fn Tryz.prog 177 ⟨1,[.B 0 0,.c (.i .u8 c_)],[],[(0,.box [.v (.pointer none),.nil] 132)],2,.c (.v .nilIface),[],[(1,.buf r.2 5),(0,.box [.bp 0 0,.sl 1] 132)]⟩:=by
 refine Zs func177 rfl (fun E F w=>?_)
 unfold Dx at h
 refine wO J 7 h fun x1 d h=>Zn (Zln N ByteArray.empty _ d) [] [(0,.bp 0 0)] (wa J 9 (Z8 J [] (oI .u8) ([c_]:List Int) ?_))
 obtain ⟨x2,e,h⟩:=ob h
 refine eBo (ty:=5) (fr:=true) (q:=2) J e ?_
 cases h
 exact wr J 8 func177 [(1,.sl 3)]
theorem Zqj (N:Nat) (c0_:ByteArray) (r:Unit) (h:ZbZ N c0_=some r) :
 Fn Tryz.prog 153 ⟨2,[.B 0 0],[],[(0,.box [.bp 0 0,.sl 1] 132),(1,.buf c0_ 5)],2,.t [],[],[(0,.box [.bp 0 0,.sl 1] 132),(1,.buf c0_ 5)]⟩:=by
 refine Zs func153 rfl (fun E F w=>?_)
 unfold ZbZ at h
 refine wa J 6 (ePn false (wa J 9 (ePs ?_)))
 cases h
 exact wr J 3 func153 []
theorem Mn (N:Nat) (c_:Int) (c0_:ByteArray) (r:Unit × ByteArray) (h:U7 N c_ c0_=some r) :
 Fn Tryz.prog 177 ⟨2,[.B 0 0,.c (.i .u8 c_)],[],[(0,.box [.bp 0 0,.sl 1] 132),(1,.buf c0_ 5)],3,.c (.v .nilIface),[],[(1,.gone),(2,.buf r.2 5),(0,.box [.bp 0 0,.sl 2] 132)]⟩:=by
 refine Zs func177 rfl (fun E F w=>?_)
 unfold U7 at h
 refine wO J 7 h fun x1 d h=>Zn (Zqj N c0_ _ d) [] [(0,.bp 0 0),(1,.sl 1)] (wa J 9 (Z8 J [] (oI .u8) ([c_]:List Int) ?_))
 obtain ⟨x2,e,h⟩:=ob h
 refine eBo (ty:=5) (fr:=true) (q:=2) J e ?_
 cases h
 exact wr J 8 func177 [(2,.sl 3)]
theorem Zp7 (N:Nat) (c0_:ByteArray) (r:ByteArray) (h:Zcy N c0_=some r) :
 Fn Tryz.prog 77 ⟨2,[.B 0 0],[],[(0,.box [.bp 0 0,.sl 1] 132),(1,.buf c0_ 5)],2,.c (.s r),[],[(0,.box [.bp 0 0,.sl 1] 132),(1,.gone)]⟩:=by
 refine Zs func77 rfl (fun E F w=>?_)
 unfold Zcy at h
 refine wO J 10 h fun x1 d h=>eUd (ty:=5) (ZjY d) (wa J 4 (eBl (sb:=c0_) (ty:=5) J ?_))
 obtain ⟨x2,e,h⟩:=ob h
 refine eUs (ty:=5) (ZjY e) (wa J 1 (ZA ?_))
 cases h
 exact Z4 J func77 []
theorem Zg0 (N:Nat) (v_:Zm) (r:ByteArray) (h:Mt N v_=some r) :
 Fn Tryz.prog 101 ⟨1,[.a (Xx v_)],[],[(0,.abs powT)],1,.c (.s r),[],[(0,.abs powT)]⟩:=by
 refine Zs func101 rfl (fun E F w=>?_)
 unfold Mt at h
 refine wO J 10 h fun x1 d h=>Zn (Zih N v_ _ d) [] [] ?_
 refine wB J 3 h (fun h=>?_) fun h=>?_
 ·cases h
  exact wr J 5 func101 []
 refine wB J 8 h (fun h=>?_) fun h=>?_
 ·refine wO J 5 h fun x2 e h=>Zn (Vv N v_.N _ e) [] [(0,.sl 0)] ?_
  cases h
  exact wr J 2 func101 []
 refine wO J 9 h fun x3 f h=>Zn (Zqz N 34 ByteArray.empty _ f) [] [(0,.bp 2 0)] (wa J 9 (ZB (σ:=ByteArray) (fun st=>⟨[(3,.B 2 0)],[(0,.abs powT),(2,.box [.bp 2 0,.sl 4] 132),(4,.buf st 5)],[],5⟩) (fun st=>HB N st=some r) ?_ (fun j1=>?_)))
 ·intro g h
  replace h:HB N g=some r:=h
  unfold HB at h
  refine wO J 2 h fun i j h=>Zn (Mn N 34 g _ j) [] [(0,.bp 2 0),(1,.sl 4)] ?_
  refine wO J 3 h fun k l h=>Zn (Zp7 N i.2 _ l) [] [(0,.bp 2 0),(1,.sl 5)] ?_
  cases h
  exact wr J 2 func101 []
 refine wa J 1 (ZF (σ:=ByteArray × Int) (fun st=>⟨[(1,.B 1 0),(3,.B 2 0),(19,.I (v_.S.size:Int)),(20,.I st.2)],[(0,.abs powT),(1,.box (Xx v_) 83),(2,.box [.bp 2 0,.sl 4] 132),(4,.buf st.1 5)],[],5⟩) (fun n st=>Ts N v_ n st.1 st.2) (r:=r) (fun _=>rfl) ?_ (fun ih=>?_))
 ·intro n2 ih3
  rintro ⟨m,o⟩ h
  replace h:Ts N v_ (n2+1) m o=some r:=h
  unfold Ts at h
  refine Zo J 5 h (fun h=>wa J 2 (Zj [] (j1 m h))) fun h=>?_
  refine wO J 15 h fun p q h=>XW J q ?_
  refine wB J 2 h (fun h=>?_) fun h=>?_
  ·refine wO J 9 h fun t u h=>Zn (Mn N 92 m _ u) [] [(0,.bp 2 0),(1,.sl 4)] ?_
   refine wO J 5 h fun v x h=>XW J x ?_
   obtain ⟨y,z,h⟩:=ob h
   exact Zn (Mn N v t.2 _ z) [] [(0,.bp 2 0),(1,.sl 5)] (wa J 6 (Zj [(4,.sl 6)] (ih3 (y.2,(Zi (o+1))) h)))
  refine wO J 3 h fun A C h=>XW J C ?_
  refine Zo J 3 h (fun h=>?_) fun h=>?_
  ·refine wO J 6 h fun D G h=>XW J G ?_
   obtain ⟨H,R,h⟩:=ob h
   exact Zn (Mn N D m _ R) [] [(0,.bp 2 0),(1,.sl 4)] (wa J 6 (Zj [(4,.sl 5)] (ih3 (H.2,(Zi (o+1))) h)))
  refine wO J 2 h fun T U h=>Zn (Mn N 92 m _ U) [] [(0,.bp 2 0),(1,.sl 4)] ?_
  refine wO J 5 h fun X Y h=>XW J Y ?_
  obtain ⟨Z,a0,h⟩:=ob h
  exact Zn (Mn N X T.2 _ a0) [] [(0,.bp 2 0),(1,.sl 5)] (wa J 6 (Zj [(4,.sl 6)] (ih3 (Z.2,(Zi (o+1))) h)))
 exact Zj [(4,.sl 3)] (ih N (x3.2,0) h)
theorem Ztj (N:Nat) (l_:(List Zm)) (r:ByteArray) (h:HG N l_=some r) :
 Fn Tryz.prog 100 ⟨2,[.S 0],[(0,.sl ZD l_)],[(1,.abs powT)],2,.c (.s r),[],[(1,.abs powT)]⟩:=by
 refine Zs func100 rfl (fun E F w=>?_)
 unfold HG at h
 refine wa J 15 (ZB (σ:=(List ByteArray)) (fun st=>⟨[(3,.S 2)],[(1,.abs powT),(2,.own rS st true)],[(0,.sl ZD l_)],3⟩) (fun st=>Mk N st=some r) ?_ (fun j1=>?_))
 ·intro d h
  replace h:Mk N d=some r:=h
  unfold Mk at h
  refine wO J 3 h fun e f h=>Xe (ZaS N d (str [44,32]) _ f) [] [(0,.sl 2)] [2] (.inr ⟨rfl,trivial⟩) ?_
  obtain ⟨g,i,h⟩:=ob h
  refine ZC i ?_
  obtain ⟨j,k,h⟩:=ob h
  refine ZC k ?_
  cases h
  exact wr J 2 func100 []
 refine wa J 1 (ZF (σ:=(List ByteArray) × Int) (fun st=>⟨[(3,.S 2),(6,.S 0),(7,.I (l_.length:Int)),(8,.I st.2)],[(1,.abs powT),(2,.own rS st.1 true)],[(0,.sl ZD l_)],3⟩) (fun n st=>Qi N l_ n st.1 st.2) (r:=r) (fun _=>rfl) ?_ (fun ih=>?_))
 ·intro n2 ih3
  rintro ⟨l,m⟩ h
  replace h:Qi N l_ (n2+1) l m=some r:=h
  unfold Qi at h
  refine Zo J 5 h (fun h=>wa J 2 (Zj [] (j1 l h))) fun h=>?_
  refine wO J 6 h fun o p h=>Zq J Z5 p ?_
  refine wO J 7 h fun q t h=>Zn (Zg0 N o _ t) [] [(0,.sl 1)] (Z8 J [] oS ([q]:List ByteArray) ?_)
  obtain ⟨u,v,h⟩:=ob h
  exact Yr J rS v (wa J 7 (Zj [(2,.sl 6)] (ih3 (u,(Zi (m+1))) h)))
 exact Zj [(2,.nil)] (ih N (([]:List ByteArray),0) h)
theorem Zog (N:Nat) (g_:T5) (x_:T3) (r:ByteArray) (h:LN N g_ x_=some r) :
 Fn Tryz.prog 49 ⟨6,[.a (ZT 0 1 2 3 g_),.a (X5 4 x_)],(Yh 0 1 2 3 g_ [(4,.sl ZD x_.Values)]),[(5,.abs powT)],6,.c (.s r),[],[(5,.abs powT)]⟩:=by
 refine Zs func49 rfl (fun E F w=>?_)
 unfold LN at h
 refine wa J 17 (ZB (σ:=ByteArray × ByteArray) (fun st=>⟨[(2,.B 6 0),(3,.B 7 0),(5,.c (.s st.1)),(6,.c (.s st.2))],[(5,.abs powT),(6,.box (ZT 0 1 2 3 g_) 27),(7,.box (X5 4 x_) 46)],(Yh 0 1 2 3 g_ [(4,.sl ZD x_.Values)]),8⟩) (fun st=>QM N g_ x_ st.1 st.2=some r) ?_ (fun j1=>?_))
 ·rintro ⟨d,e⟩ h
  replace h:QM N g_ x_ d e=some r:=h
  unfold QM at h
  refine wO J 6 h fun x1 f h=>Zn (ZaG N g_.Roles x_.Role _ f) [] [(0,.sl 0)] ?_
  refine wO J 1 h fun x2 g h=>ZC g ?_
  refine wO J 2 h fun x3 i h=>Zn (ZrI N g_.Decls _ i) [] [(0,.sl 1)] ?_
  refine wO J 2 h fun x4 j h=>Xe (ZaG N x3 x_.Label _ j) [] [(0,.sl 8)] [8] (.inr ⟨rfl,trivial⟩) ?_
  obtain ⟨x5,k,h⟩:=ob h
  refine ZC k ?_
  refine wO J 2 h fun x6 l h=>Zn (Ztj N x_.Values _ l) [] [(0,.sl 4),(1,.sl 5)] ?_
  obtain ⟨x7,m,h⟩:=ob h
  refine ZC m ?_
  refine wO J 1 h fun x8 o h=>ZC o ?_
  refine wO J 4 h fun x9 p h=>Zn (ZaG N g_.Roles x_.Peer _ p) [] [(0,.sl 0)] ?_
  obtain ⟨q,t,h⟩:=ob h
  refine ZC t (wa J 1 (ZA ?_))
  cases h
  exact Z4 J func49 []
 exact eB h (fun h=>wa J 5 (Zj [] (j1 ((str [32,115,101,110,100,115,32]),(str [32,116,111,32])) h))) fun h=>wa J 2 (Zj [] (j1 ((str [32,103,101,116,115,32]),(str [32,102,114,111,109,32])) h))
theorem Zoa (N:Nat) (g_:T5) (m_:T8) (b_:Xu) (x_:T3) (r:ByteArray) (h:z50 N g_ m_ b_ x_=some r) :
 Fn Tryz.prog 50 ⟨9,[.a (ZT 0 1 2 3 g_),.a (ZX 4 5 6 m_),.a (Zdc b_),.a (X5 7 x_)],((0,.sl rS g_.Roles)::(1,.sl ZL g_.Decls)::(2,.sl Yf g_.Edges)::(3,.sl Z2 g_.Timeouts)::ZZ 4 5 6 m_ [(7,.sl ZD x_.Values)]),[(8,.abs powT)],9,.c (.s r),[],[(8,.abs powT)]⟩:=by
 refine Zs func50 rfl (fun E F w=>?_)
 unfold z50 at h
 refine wB J 20 h (fun h=>?_) fun h=>?_
 ·refine wO J 7 h fun x1 d h=>Zn (ZaG N g_.Roles m_.Role _ d) [] [(0,.sl 0)] ?_
  obtain ⟨x2,e,h⟩:=ob h
  refine ZC e ?_
  cases h
  exact wr J 2 func50 []
 refine wB J 6 h (fun h=>?_) fun h=>?_
 ·cases h
  exact wr J 5 func50 []
 refine wB J 6 h (fun h=>?_) fun h=>?_
 ·refine wO J 6 h fun x3 f h=>Zn (Vv N (x_.Values.length:Int) _ f) [] [(0,.sl 8)] ?_
  obtain ⟨x4,g,h⟩:=ob h
  refine ZC g ?_
  obtain ⟨x5,i,h⟩:=ob h
  refine ZC i ?_
  refine wO J 4 h fun x6 j h=>Zq J Yg j ?_
  refine wO J 3 h fun x7 k h=>Zn (Vv N (x6.Fields.length:Int) _ k) [] [(0,.sl 8)] ?_
  obtain ⟨x8,l,h⟩:=ob h
  refine ZC l (wa J 1 (ZA ?_))
  cases h
  exact Z4 J func50 []
 refine Zo J 6 h (fun h=>?_) fun h=>?_
 ·refine Zo J 6 h (fun h=>?_) fun h=>?_
  ·cases h
   exact wr J 7 func50 []
  refine wO J 9 h fun m o h=>Zn (Zfi N g_.Decls x_.Label b_.Part _ o) [] [(0,.sl 1),(1,.sl 8)] ?_
  obtain ⟨p,q,h⟩:=ob h
  refine ZC q ?_
  cases h
  exact wr J 2 func50 []
 refine wO J 7 h fun x9 t h=>Zq J Yg t ?_
 refine wO J 4 h fun u v h=>Zq J Xq v (wa J 3 (ZA ?_))
 refine wO J 6 h fun x y h=>Zq J Z5 y ?_
 refine wO J 1 h fun z A h=>Zn (Zg0 N x _ A) [] [(0,.sl 8)] ?_
 obtain ⟨C,D,h⟩:=ob h
 refine ZC D ?_
 obtain ⟨G,H,h⟩:=ob h
 refine ZC H ?_
 refine wO J 2 h fun R T h=>ZC T ?_
 obtain ⟨U,X,h⟩:=ob h
 refine ZC X ?_
 refine wO J 3 h fun Y Z h=>Zn (Vv N u.Sort'.Lo _ Z) [] [(0,.sl 8)] ?_
 obtain ⟨a0,b0,h⟩:=ob h
 refine ZC b0 ?_
 obtain ⟨c0,d0,h⟩:=ob h
 refine ZC d0 ?_
 refine wO J 3 h fun e0 f0 h=>Zn (Vv N u.Sort'.Hi _ f0) [] [(0,.sl 8)] ?_
 obtain ⟨g0,i0,h⟩:=ob h
 refine ZC i0 (wa J 1 (ZA ?_))
 cases h
 exact Z4 J func50 []
theorem Zp6 (N:Nat) (g_:T5) (m_:T8) (history_:(List T3)) (r:ByteArray × Int) (h:Qg N g_ m_ history_=some r) :
 Fn Tryz.prog 18 ⟨9,[.a (ZT 0 1 2 3 g_),.a (ZX 4 5 6 m_),.S 7],((0,.sl rS g_.Roles)::(1,.sl ZL g_.Decls)::(2,.sl Yf g_.Edges)::(3,.sl Z2 g_.Timeouts)::ZZ 4 5 6 m_ [(7,.sl Yv history_)]),[(8,.abs powT)],9,.t [.inl (.s r.1),.inl (.I r.2)],[],[(8,.abs powT)]⟩:=by
 refine Zs func18 rfl (fun E F w=>?_)
 unfold Qg at h
 refine wO J 12 h fun x1 c h=>Zn (ZmI N g_ m_ history_ _ c) [] [(0,.sl 0),(1,.sl 1),(2,.sl 2),(3,.sl 3),(4,.sl 4),(5,.sl 5),(6,.sl 6),(7,.sl 7)] ?_
 refine wB J 15 h (fun h=>?_) fun h=>?_
 ·cases h
  exact wr J 11 func18 []
 refine wB J 4 h (fun h=>?_) fun h=>?_
 ·cases h
  exact wr J 7 func18 []
 refine wO J 7 h fun x2 d h=>Zq J W1 d ?_
 refine wO J 8 h fun x3 e h=>Zn (Zog N g_ x2 _ e) [] [(0,.sl 0),(1,.sl 1),(2,.sl 2),(3,.sl 3),(4,.sl 13),(5,.sl 8)] ?_
 obtain ⟨x4,f,h⟩:=ob h
 refine ZC f ?_
 refine wO J 4 h fun x5 g h=>Zn (Zoa N g_ m_ x1.1 x2 _ g) [] [(0,.sl 0),(1,.sl 1),(2,.sl 2),(3,.sl 3),(4,.sl 4),(5,.sl 5),(6,.sl 6),(7,.sl 13),(8,.sl 8)] ?_
 obtain ⟨x6,i,h⟩:=ob h
 refine ZC i (wa J 2 (ZA ?_))
 cases h
 exact Z4 J func18 []
theorem ZiZ (N:Nat) (g_:T5) (m_:T8) (history_:(List T3)) (x_:T3) (r:ByteArray × Int) (h:UA N g_ m_ history_ x_=some r) :
 Fn Tryz.prog 15 ⟨10,[.a (ZT 0 1 2 3 g_),.a (ZX 4 5 6 m_),.S 7,.a (X5 8 x_)],((0,.sl rS g_.Roles)::(1,.sl ZL g_.Decls)::(2,.sl Yf g_.Edges)::(3,.sl Z2 g_.Timeouts)::ZZ 4 5 6 m_ [(7,.sl Yv history_),(8,.sl ZD x_.Values)]),[(9,.abs powT)],10,.t [.inl (.s r.1),.inl (.I r.2)],[],[(9,.abs powT)]⟩:=by
 refine Zs func15 rfl (fun E F w=>?_)
 unfold UA at h
 refine wO J 13 h fun x1 c h=>Zn (Zc8 N g_ m_ history_ _ c) [] [(0,.sl 0),(1,.sl 1),(2,.sl 2),(3,.sl 3),(4,.sl 4),(5,.sl 5),(6,.sl 6),(7,.sl 7)] ?_
 refine wB J 17 h (fun h=>?_) fun h=>?_
 ·cases h
  exact wr J 6 func15 []
 refine wB J 7 h (fun h=>?_) fun h=>?_
 ·cases h
  exact wr J 6 func15 []
 refine wO J 8 h fun x2 d h=>Zn (Zmf N history_ _ d) [] [(0,.sl 7)] (wa J 1 (Z8 J [] W1 ([x_]:List T3) ?_))
 obtain ⟨x3,e,h⟩:=ob h
 refine Yr J Yv e ?_
 obtain ⟨x4,f,h⟩:=ob h
 refine Zn (Zp6 N g_ m_ x3 _ f) [18] [(0,.sl 0),(1,.sl 1),(2,.sl 2),(3,.sl 3),(4,.sl 4),(5,.sl 5),(6,.sl 6),(7,.sl 18),(8,.sl 9)] (wa J 5 (ZA ?_))
 refine wB J 6 h (fun h=>?_) fun h=>?_
 ·cases h
  exact wr J 11 func15 []
 refine wB J 4 h (fun h=>?_) fun h=>?_
 ·cases h
  exact wr J 7 func15 []
 refine wO J 8 h fun x5 g h=>Zn (Zf2 N g_ m_ x1.1.At _ g) [] [(0,.sl 0),(1,.sl 1),(2,.sl 2),(3,.sl 3),(4,.sl 4),(5,.sl 5),(6,.sl 6),(7,.sl 9)] ?_
 obtain ⟨x6,i,h⟩:=ob h
 refine Xe (ZaS N x5 (str [59,32]) _ i) [] [(0,.sl 19)] [19] (.inr ⟨rfl,trivial⟩) ?_
 refine wB J 8 h (fun h=>?_) fun h=>?_
 ·refine wO J 7 h fun x7 j h=>ZC j ?_
  refine wO J 1 h fun x8 k h=>ZC k ?_
  cases h
  exact wr J 3 func15 []
 refine wO J 5 h fun x9 l h=>ZC l ?_
 refine wO J 1 h fun m o h=>ZC o ?_
 cases h
 exact wr J 3 func15 []
theorem Zg1 (N:Nat) (i_:Int) (j_:Int) (r:Int) (h:ZbP N i_ j_=some r) :
 Fn Tryz.prog 248 ⟨0,[.I i_,.I j_],[],[],0,.I r,[],[]⟩:=by
 refine Zs func248 rfl (fun E F w=>?_)
 unfold ZbP at h
 refine wB J 13 h (fun h=>?_) fun h=>?_
 ·cases h
  exact wr J 5 func248 []
 refine wB J 6 h (fun h=>?_) fun h=>?_
 ·cases h
  exact wr J 10 func248 []
 refine wB J 5 h (fun h=>?_) fun h=>?_
 ·cases h
  exact wr J 5 func248 []
 cases h
 exact wr J 7 func248 []
theorem Zrl (N:Nat) (n_:Int) (r:ZY) (h:Zdw N n_=some r) :
 Fn Tryz.prog 195 ⟨0,[.I n_],[],[],1,.a (VZ 0 r),[(0,.sl (rI .i64) r.B)],[]⟩:=by
 refine Zs func195 rfl (fun E F w=>?_)
 unfold Zdw at h
 refine wO J 12 h fun x1 c h=>Ue J (oI .i64) c (wa J 11 (ZB (σ:=(List Int)) (fun st=>(ZaH st n_ [(2,.B 0 0),(3,.B 2 0)])) (fun st=>BP n_ st=some r) ?_ (fun j1=>?_)))
 ·intro d h
  replace h:BP n_ d=some r:=h
  unfold BP at h
  refine wa J 5 (UD [1] ?_)
  cases h
  exact Z4 J func195 [(0,.sl 1)]
 refine wa J 1 (ZF (σ:=(List Int) × Int) (fun st=>(ZaH st.1 n_ [(0,.I n_),(2,.B 0 0),(3,.B 2 0),(15,.I (Zi (n_+1))),(16,.I st.2)])) (fun n st=>Sd N n_ n st.1 st.2) (r:=r) (fun _=>rfl) ?_ (fun ih=>?_))
 ·intro n12 ih12
  rintro ⟨e,f⟩ h
  replace h:Sd N n_ (n12+1) e f=some r:=h
  unfold Sd at h
  refine Zo J 5 h (fun h=>wa J 2 (Zj [] (j1 e h))) fun h=>wa J 15 (ZB (σ:=(List Int)) (fun st=>(ZaH st n_ [(0,.I n_),(2,.B 0 0),(3,.B 2 0),(15,.I (Zi (n_+1))),(16,.I f)])) (fun st=>BW f (Sd N n_ n12) st=some r) ?_ (fun j19=>?_))
  ·intro g h
   replace h:BW f (Sd N n_ n12) g=some r:=h
   unfold BW at h
   exact wa J 5 (Zj [] (ih12 (g,(Zi (f+1))) h))
  refine wa J 1 (ZF (σ:=(List Int) × Int) (fun st=>(ZaH st.1 n_ [(0,.I n_),(2,.B 0 0),(3,.B 2 0),(4,.I f),(15,.I (Zi (n_+1))),(16,.I f),(20,.I (Zi (n_+1))),(21,.I st.2)])) (fun n st=>Dc N n_ f (Sd N n_ n12) n st.1 st.2) (r:=r) (fun _=>rfl) ?_ (fun ih=>?_))
  ·intro n14 ih21
   rintro ⟨i,j⟩ h
   replace h:Dc N n_ f (Sd N n_ n12) (n14+1) i j=some r:=h
   unfold Dc at h
   refine Zo J 5 h (fun h=>wa J 2 (Zj [] (j19 i h))) fun h=>?_
   refine wO J 20 h fun k l h=>Zn (Zg1 N f j _ l) [] [] ?_
   obtain ⟨m,o,h⟩:=ob h
   exact Z9 J (rI .i64) o (Xj J [] (oI .i64) k o (ZA (wa J 5 (Zj [] (ih21 ((ZW i (Zi ((Zi (f * (Zi (n_+1))))+j)) k),(Zi (j+1))) h)))))
  exact Zj [] (ih N (e,0) h)
 exact Zj [] (ih N (x1,0) h)
theorem Zno (N:Nat) (n_:Int) (r:ZY × Int) (h:z109 N n_=some r) :
 Fn Tryz.prog 109 ⟨0,[.I n_],[],[],1,.t [.inr (VZ 0 r.1),.inl (.I r.2)],[(0,.sl (rI .i64) r.1.B)],[]⟩:=by
 refine Zs func109 rfl (fun E F w=>?_)
 unfold z109 at h
 refine wB J 11 h (fun h=>?_) fun h=>?_
 ·cases h
  exact wr J 11 func109 [(0,.nil)]
 refine wB J 4 h (fun h=>?_) fun h=>?_
 ·cases h
  exact wr J 7 func109 [(0,.nil)]
 refine wO J 5 h fun x1 c h=>Zn (Zrl N n_ _ c) [] [] ?_
 cases h
 exact wr J 3 func109 [(0,.sl 1)]
end Gx
end
