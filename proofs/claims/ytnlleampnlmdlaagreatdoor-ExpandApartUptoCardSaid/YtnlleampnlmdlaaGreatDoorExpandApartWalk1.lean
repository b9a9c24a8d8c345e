/- Each function of the statement computes what its plain definition says, part 1. -/
import Derived.Test.YtnlleampnlmdlaaGreatDoorExpandApartBase
import Derived.Test.YtnlleampnlmdlaaGreatDoorExpandApartLib
set_option linter.all false
section
set_option maxRecDepth 10000
set_option maxHeartbeats 4000000
open Go Go.Kx Go.Proofs Tryz
namespace Gx
theorem z180_ct (N:Nat) (s_:ByteArray) (c_:Int) (r:Int) (h:z180 N s_ c_=some r) :
 Fn Tryz.prog 180 ⟨0,[.c (.s s_),.c (.i .u8 c_)],[],[],0,.I r,[],[]⟩:=by
 refine eFn func180 rfl (fun E F w=>?_)
 unfold z180 at h
 refine wa J 8 (eEx (ext_indexByte func208 (by kernel_rfl) (by kernel_rfl) (by kernel_rfl) (by kernel_rfl) s_ c_) (fun _=>trivial) ?_)
 cases h
 exact wr J 2 func180 []
theorem z138_ct (N:Nat) (s_:ByteArray) (c_:Int) (r:Int) (h:z138 N s_ c_=some r) :
 Fn Tryz.prog 138 ⟨0,[.c (.s s_),.c (.i .u8 c_)],[],[],0,.I r,[],[]⟩:=by
 refine eFn func138 rfl (fun E F w=>?_)
 unfold z138 at h
 refine wO J 8 h fun x1 d h=>eCl (z180_ct N s_ c_ _ d) [] [] ?_
 cases h
 exact wr J 2 func138 []
theorem z205_ct (N:Nat) (r_:Int) (r:Bool) (h:z205 N r_=some r) :
 Fn Tryz.prog 205 ⟨0,[.c (.i .i32 r_)],[],[],0,.O r,[],[]⟩:=by
 refine eFn func205 rfl (fun E F w=>?_)
 unfold z205 at h
 refine wB' J 11 h (fun h=>?_) fun h=>?_
 ·refine wB' J 11 h (fun h=>?_) fun h=>?_
  ·cases h
   exact wr J 12 func205 []
  refine wB J 5 h (fun h=>?_) fun h=>?_
  ·cases h
   exact wr J 5 func205 []
  cases h
  exact wr J 7 func205 []
 refine wB J 5 h (fun h=>?_) fun h=>?_
 ·cases h
  exact wr J 5 func205 []
 refine wB' J 6 h (fun h=>?_) fun h=>?_
 ·cases h
  exact wr J 12 func205 []
 refine wB J 5 h (fun h=>?_) fun h=>?_
 ·cases h
  exact wr J 5 func205 []
 cases h
 exact wr J 7 func205 []
theorem z178_ct (N:Nat) (s_:ByteArray) (r_:Int) (r:Int) (h:z178 N s_ r_=some r) :
 Fn Tryz.prog 178 ⟨0,[.c (.s s_),.c (.i .i32 r_)],[],[],0,.I r,[],[]⟩:=by
 refine eFn func178 rfl (fun E F w=>?_)
 unfold z178 at h
 refine wa J 10 (eCut (σ:=Bool) (fun st=>(zz0 [(0,.c (.s s_)),(1,.c (.i .i32 r_)),(160,.O st)])) (fun st=>z178_k8 N s_ r_ st=some r) ?_ (fun j1=>?_))
 ·intro d h
  replace h:z178_k8 N s_ r_ d=some r:=h
  unfold z178_k8 at h
  refine eB h (fun h=>?_) fun h=>?_
  ·refine wO J 6 h fun x1 e h=>eCl (z138_ct N s_ (wk .u8 (r_)) _ e) [] [] ?_
   cases h
   exact wr J 2 func178 []
  obtain ⟨K,h⟩|⟨K,h⟩:=oc h
  ·refine wH J 7 K (wa J 5 (eRn J (fun bk2=>wa J 1 (eCut (σ:=Nat) (fun st=>⟨[],[(0,.abs (itR bk2 s_ st))],[],1⟩) (fun st=>z178_k1 st=some r) ?_ (fun j2=>?_)))))
   ·intro vi0_2 h
    replace h:z178_k1 vi0_2=some r:=h
    unfold z178_k1 at h
    cases h
    exact wr J 4 func178 []
   refine wa J 1 (eLoop (σ:=Nat) (fun st=>⟨[(175,.c (.v (.pointer (some ⟨bk2,0,none⟩))))],[(0,.abs (itR bk2 s_ st))],[],1⟩) (fun n st=>z178_l2 s_ n st) (r:=r) (fun _=>rfl) ?_ (fun ih=>?_))
   ·intro n2 ih4
    intro vi0_4 h
    replace h:z178_l2 s_ (n2+1) vi0_4=some r:=h
    unfold z178_l2 at h
    obtain ⟨K,h⟩|⟨K,h⟩:=oc' h
    ·exact wa J 2 (eNf bk2 0 K (wa J 5 (eSub [] (j2 vi0_4 h))))
    refine wa J 2 (eNt bk2 0 K ?_)
    refine wB J 18 h (fun h=>?_) fun h=>wa J 3 (eSub [] (ih4 (vi0_4+(Utf8.decode s_ vi0_4).2) h))
    cases h
    exact wr J 6 func178 []
   exact eSub [] (ih N (0:Nat) h)
  refine wH J 7 K ?_
  refine wO J 4 h fun x3 f h=>eCl (z205_ct N r_ _ f) [] [] ?_
  refine wB J 3 h (fun h=>?_) fun h=>wa J 5 (eCr (wa J 19 (eCut (σ:=Unit) (fun st=>(zz0 [])) (fun st=>z178_k3=some r) ?_ (fun j5=>?_))))
  ·cases h
   exact wr J 5 func178 []
  ·intro _ h
   replace h:z178_k3=some r:=h
   unfold z178_k3 at h
   cases h
   exact wr J 5 func178 []
  refine wa J 1 (eLoop (σ:=Unit) (fun st=>(zz0 [(0,.c (.s s_)),(7,.c (.s (Utf8.encode r_))),(8,.I (w64 (((Utf8.encode r_).size:Int)-1))),(9,.I (w64 (((Utf8.encode r_).size:Int)-1)))])) (fun n st=>z178_l4 N s_ r_ n) (r:=r) (fun _=>rfl) ?_ (fun ih=>?_))
  ·intro n10 ih15
   intro _ h
   replace h:z178_l4 N s_ r_ (n10+1)=some r:=h
   unfold z178_l4 at h
   refine wB' J 8 h (fun h=>wa J 2 (eSub [] (j5 () h))) fun h=>?_
   refine wO J 9 h fun g j h=>eSx J j ?_
   refine wO J 2 h fun k l h=>eSx J l (wa J 1 (eEnd (eCut (σ:=Int) (fun st=>(zz0 [(0,.c (.s s_)),(7,.c (.s (Utf8.encode r_))),(8,.I (w64 (((Utf8.encode r_).size:Int)-1))),(9,.I st)])) (fun st=>z178_k7 N s_ r_ st=some r) ?_ (fun j20=>?_))))
   ·intro m h
    replace h:z178_k7 N s_ r_ m=some r:=h
    unfold z178_k7 at h
    refine wa J 5 (eCut (σ:=Unit) (fun st=>(zz0 [(8,.I (w64 (((Utf8.encode r_).size:Int)-1))),(9,.I m)])) (fun st=>z178_k5 r_ m=some r) ?_ (fun j21=>?_))
    ·intro _ h
     replace h:z178_k5 r_ m=some r:=h
     unfold z178_k5 at h
     cases h
     exact wr J 8 func178 []
    refine wa J 1 (eLoop (σ:=Int) (fun st=>(zz0 [(0,.c (.s s_)),(7,.c (.s (Utf8.encode r_))),(8,.I (w64 (((Utf8.encode r_).size:Int)-1))),(9,.I m),(12,.I st)])) (fun n st=>z178_l6 s_ r_ m n st) (r:=r) (fun _=>rfl) ?_ (fun ih=>?_))
    ·intro n12 ih23
     intro o h
     replace h:z178_l6 s_ r_ m (n12+1) o=some r:=h
     unfold z178_l6 at h
     refine wB' J 8 h (fun h=>wa J 2 (eSub [] (j21 () h))) fun h=>?_
     refine wO J 10 h fun p q h=>eSx J q ?_
     refine wO J 4 h fun t u h=>eSx J u (wa J 1 (eEnd ?_))
     refine eB h (fun h=>?_) fun h=>wa J 8 (eSub [] (ih23 (w64 (o+1)) h))
     cases h
    exact eSub [] (ih N 1 h)
   refine eB' h (fun h=>wa J 2 (eSub [] (j20 (w64 (((Utf8.encode r_).size:Int)-1)) h))) fun h=>?_
   refine wO J 6 h fun x y h=>eSs J y ?_
   refine wO J 2 h fun z A h=>eSx J A ?_
   obtain ⟨C,D,h⟩:=ob h
   refine eCl (z138_ct N x z _ D) [] [] (wa J 1 (eEnd ?_))
   refine wB J 6 h (fun h=>?_) fun h=>wa J 9 (eSub [] (j20 (w64 ((w64 (((Utf8.encode r_).size:Int)-1))+(w64 (C+1)))) h))
   cases h
   exact wr J 5 func178 []
  exact eSub [] (ih N () h)
 exact eB h (fun h=>wa J 5 (eSub [] (j1 (decide (r_ < 128)) h))) fun h=>wa J 5 (eSub [] (j1 false h))
theorem z136_ct (N:Nat) (s_:ByteArray) (r_:Int) (r:Bool) (h:z136 N s_ r_=some r) :
 Fn Tryz.prog 136 ⟨0,[.c (.s s_),.c (.i .i32 r_)],[],[],0,.O r,[],[]⟩:=by
 refine eFn func136 rfl (fun E F w=>?_)
 unfold z136 at h
 refine wO J 8 h fun x1 d h=>eCl (z178_ct N s_ r_ _ d) [] [] ?_
 cases h
 exact wr J 3 func136 []
theorem z179_ct (N:Nat) (s_:ByteArray) (prefix_:ByteArray) (r:Bool) (h:z179 N s_ prefix_=some r) :
 Fn Tryz.prog 179 ⟨0,[.c (.s s_),.c (.s prefix_)],[],[],0,.O r,[],[]⟩:=by
 refine eFn func179 rfl (fun E F w=>?_)
 unfold z179 at h
 refine wB' J 12 h (fun h=>?_) fun h=>?_
 ·cases h
  exact wr J 9 func179 []
 refine wO J 3 h fun x1 d h=>eSs J d ?_
 cases h
 exact wr J 5 func179 []
theorem z137_ct (N:Nat) (s_:ByteArray) (prefix_:ByteArray) (r:Bool) (h:z137 N s_ prefix_=some r) :
 Fn Tryz.prog 137 ⟨0,[.c (.s s_),.c (.s prefix_)],[],[],0,.O r,[],[]⟩:=by
 refine eFn func137 rfl (fun E F w=>?_)
 unfold z137 at h
 refine wO J 8 h fun x1 d h=>eCl (z179_ct N s_ prefix_ _ d) [] [] ?_
 cases h
 exact wr J 2 func137 []
theorem z80_ct (N:Nat) (c_:T5) (r:T5) (h:z80 N c_=some r) :
 Fn Tryz.prog 80 ⟨1,[.B 0 0],[],[(0,.box (cC5 c_) 154)],1,.t [],[],[(0,.box (cC5 r) 154)]⟩:=by
 refine eFn func80 rfl (fun E F w=>?_)
 unfold z80 at h
 refine eCut (σ:=Int) (fun st=>(zz1 c_.s' st [])) (fun st=>z80_k1 c_ st=some r) ?_ (fun j1=>?_)
 ·intro vbk0_0_1_1 h
  replace h:z80_k1 c_ vbk0_0_1_1=some r:=h
  unfold z80_k1 at h
  cases h
  exact eRet J func80 []
 refine wa J 1 (eLoop (σ:=Int) (fun st=>(zz1 c_.s' st [(0,.B 0 0)])) (fun n st=>z80_l2 N c_ n st) (r:=r) (fun _=>rfl) ?_ (fun ih=>?_))
 ·intro n2 ih3
  intro vbk0_0_1_3 h
  replace h:z80_l2 N c_ (n2+1) vbk0_0_1_3=some r:=h
  unfold z80_l2 at h
  refine wa J 13 (eEnd ?_)
  refine eB' h (fun h=>wa J 2 (eSub [] (j1 vbk0_0_1_3 h))) fun h=>?_
  refine wO J 13 h fun c d h=>eSs J d (wa J 1 (eEnd ?_))
  refine wO J 4 h fun e f h=>eSx J f ?_
  refine wO J 1 h fun g i h=>eCl (z136_ct N (str [32,9,10,13]) (wk .i32 (e)) _ i) [] [] ?_
  refine wB J 2 h (fun h=>wa J 13 (eSub [] (ih3 (w64 (vbk0_0_1_3+1)) h))) fun h=>?_
  refine wO J 4 h fun j k h=>eCl (z137_ct N c (str [47,47]) _ k) [] [] ?_
  refine wB' J 2 h (fun h=>?_) fun h=>?_
  ·cases h
   exact wr J 1 func80 []
  refine wO J 4 h fun l m h=>eCl (z138_ct N c 10 _ m) [] [] ?_
  exact wB J 8 h (fun h=>wa J 21 (eSub [] (ih3 (w64 (vbk0_0_1_3+(w64 ((w64 ((c.size:Int)-1))+1)))) h))) fun h=>wa J 16 (eSub [] (ih3 (w64 (vbk0_0_1_3+(w64 (l+1)))) h))
 exact eSub [] (ih N c_.at' h)
theorem z82_ct (N:Nat) (c_:Int) (r:Bool) (h:z82 N c_=some r) :
 Fn Tryz.prog 82 ⟨0,[.c (.i .u8 c_)],[],[],0,.O r,[],[]⟩:=by
 refine eFn func82 rfl (fun E F w=>?_)
 unfold z82 at h
 refine wB' J 9 h (fun h=>?_) fun h=>?_
 ·refine wB J 7 h (fun h=>?_) fun h=>?_
  ·cases h
   exact wr J 6 func82 []
  cases h
  exact wr J 6 func82 []
 refine wB J 4 h (fun h=>?_) fun h=>?_
 ·cases h
  exact wr J 9 func82 []
 refine wB J 3 h (fun h=>?_) fun h=>?_
 ·cases h
  exact wr J 6 func82 []
 cases h
 exact wr J 6 func82 []
theorem z84_ct (N:Nat) (c_:Int) (r:Bool) (h:z84 N c_=some r) :
 Fn Tryz.prog 84 ⟨0,[.c (.i .u8 c_)],[],[],0,.O r,[],[]⟩:=by
 refine eFn func84 rfl (fun E F w=>?_)
 unfold z84 at h
 refine wB J 9 h (fun h=>?_) fun h=>?_
 ·cases h
  exact wr J 5 func84 []
 cases h
 exact wr J 5 func84 []
theorem z141_ct (N:Nat) (c_:Int) (r:Bool) (h:z141 N c_=some r) :
 Fn Tryz.prog 141 ⟨0,[.c (.i .u8 c_)],[],[],0,.O r,[],[]⟩:=by
 refine eFn func141 rfl (fun E F w=>?_)
 unfold z141 at h
 refine wO J 7 h fun x1 d h=>eCl (z82_ct N c_ _ d) [] [] ?_
 refine wB J 1 h (fun h=>?_) fun h=>?_
 ·cases h
  exact wr J 9 func141 []
 refine wO J 1 h fun x2 e h=>eCl (z84_ct N c_ _ e) [] [] ?_
 refine wB J 2 h (fun h=>?_) fun h=>?_
 ·cases h
  exact wr J 5 func141 []
 cases h
 exact wr J 5 func141 []
theorem z140_0_ct (N:Nat) (c_:T5) (r:ByteArray × T5) (h:z140_0 N c_=some r) :
 Fn Tryz.prog 140 ⟨1,[.B 0 0,.c (.cl 141 [] [])],[],[(0,.box (cC5 c_) 154)],1,.c (.s r.1),[],[(0,.box (cC5 r.2) 154)]⟩:=by
 refine eFn func140 rfl (fun E F w=>?_)
 unfold z140_0 at h
 refine wa J 13 (eCut (σ:=Int) (fun st=>(zz1 c_.s' st [(0,.B 0 0),(5,.I c_.at')])) (fun st=>z140_0_k1 c_ st=some r) ?_ (fun j1=>?_))
 ·intro vbk0_0_1_1 h
  replace h:z140_0_k1 c_ vbk0_0_1_1=some r:=h
  unfold z140_0_k1 at h
  refine wO J 11 h fun x9 d h=>eSs J d (wa J 1 (eEnd ?_))
  cases h
  exact eRet J func140 []
 refine wa J 1 (eLoop (σ:=Int) (fun st=>(zz1 c_.s' st [(0,.B 0 0),(1,.c (.cl 141 [] [])),(5,.I c_.at')])) (fun n st=>z140_0_l2 N c_ n st) (r:=r) (fun _=>rfl) ?_ (fun ih=>?_))
 ·intro n2 ih3
  intro vbk0_0_1_3 h
  replace h:z140_0_l2 N c_ (n2+1) vbk0_0_1_3=some r:=h
  unfold z140_0_l2 at h
  refine wB' J 14 h (fun h=>wa J 12 (eEnd (wa J 2 (eSub [] (j1 vbk0_0_1_3 h))))) fun h=>?_
  refine wO J 9 h fun e f h=>eSx J f ?_
  obtain ⟨g,i,h⟩:=ob h
  refine eCl (z141_ct N e _ i) [] [] (wa J 1 (eEnd ?_))
  exact eB h (fun h=>wa J 14 (eSub [] (ih3 (w64 (vbk0_0_1_3+1)) h))) fun h=>wa J 2 (eSub [] (j1 vbk0_0_1_3 h))
 exact eSub [] (ih N c_.at' h)
theorem z83_ct (N:Nat) (c_:T5) (r:T4 × Int × T5) (h:z83 N c_=some r) :
 Fn Tryz.prog 83 ⟨1,[.B 0 0],[],[(0,.box (cC5 c_) 154)],1,.t [.inr (cC4 r.1),.inl (.I r.2.1)],[],[(0,.box (cC5 r.2.2) 154)]⟩:=by
 refine eFn func83 rfl (fun E F w=>?_)
 unfold z83 at h
 refine wO J 8 h fun x1 c h=>eCl (z140_0_ct N c_ _ c) [] [(0,.bp 0 0)] ?_
 refine wB J 9 h (fun h=>?_) fun h=>?_
 ·cases h
  exact wr J 7 func83 []
 cases h
 exact wr J 9 func83 []
theorem z140_1_ct (N:Nat) (c_:T5) (r:ByteArray × T5) (h:z140_1 N c_=some r) :
 Fn Tryz.prog 140 ⟨1,[.B 0 0,.c (.cl 84 [] [])],[],[(0,.box (cC5 c_) 154)],1,.c (.s r.1),[],[(0,.box (cC5 r.2) 154)]⟩:=by
 refine eFn func140 rfl (fun E F w=>?_)
 unfold z140_1 at h
 refine wa J 13 (eCut (σ:=Int) (fun st=>(zz1 c_.s' st [(0,.B 0 0),(5,.I c_.at')])) (fun st=>z140_1_k1 c_ st=some r) ?_ (fun j1=>?_))
 ·intro vbk0_0_1_1 h
  replace h:z140_1_k1 c_ vbk0_0_1_1=some r:=h
  unfold z140_1_k1 at h
  refine wO J 11 h fun x9 d h=>eSs J d (wa J 1 (eEnd ?_))
  cases h
  exact eRet J func140 []
 refine wa J 1 (eLoop (σ:=Int) (fun st=>(zz1 c_.s' st [(0,.B 0 0),(1,.c (.cl 84 [] [])),(5,.I c_.at')])) (fun n st=>z140_1_l2 N c_ n st) (r:=r) (fun _=>rfl) ?_ (fun ih=>?_))
 ·intro n2 ih3
  intro vbk0_0_1_3 h
  replace h:z140_1_l2 N c_ (n2+1) vbk0_0_1_3=some r:=h
  unfold z140_1_l2 at h
  refine wB' J 14 h (fun h=>wa J 12 (eEnd (wa J 2 (eSub [] (j1 vbk0_0_1_3 h))))) fun h=>?_
  refine wO J 9 h fun e f h=>eSx J f ?_
  obtain ⟨g,i,h⟩:=ob h
  refine eCl (z84_ct N e _ i) [] [] (wa J 1 (eEnd ?_))
  exact eB h (fun h=>wa J 14 (eSub [] (ih3 (w64 (vbk0_0_1_3+1)) h))) fun h=>wa J 2 (eSub [] (j1 vbk0_0_1_3 h))
 exact eSub [] (ih N c_.at' h)
theorem z85_ct (N:Nat) (c_:T5) (r:T4 × Int × T5) (h:z85 N c_=some r) :
 Fn Tryz.prog 85 ⟨1,[.B 0 0],[],[(0,.box (cC5 c_) 154)],1,.t [.inr (cC4 r.1),.inl (.I r.2.1)],[],[(0,.box (cC5 r.2.2) 154)]⟩:=by
 refine eFn func85 rfl (fun E F w=>?_)
 unfold z85 at h
 refine wO J 8 h fun x1 d h=>eCl (z140_1_ct N c_ _ d) [] [(0,.bp 0 0)] ?_
 refine wa J 16 (eCut (σ:=Bool) (fun st=>(zz4 x1.2 [(2,.B 1 0),(4,.c (.s x1.1)),(30,.O st)])) (fun st=>z85_k4 N x1 st=some r) ?_ (fun j1=>?_))
 ·intro e h
  replace h:z85_k4 N x1 e=some r:=h
  unfold z85_k4 at h
  refine eB h (fun h=>?_) fun h=>?_
  ·cases h
   exact wr J 7 func85 []
  refine wa J 9 (eCut (σ:=Bool) (fun st=>(zz4 x1.2 [(2,.B 1 0),(4,.c (.s x1.1)),(44,.O st)])) (fun st=>z85_k3 N x1 st=some r) ?_ (fun j2=>?_))
  ·intro f h
   replace h:z85_k3 N x1 f=some r:=h
   unfold z85_k3 at h
   refine eB h (fun h=>?_) fun h=>wa J 15 (eCut (σ:=Int) (fun st=>(zz11 x1.2 st [(2,.B 1 0),(5,.B 2 0)])) (fun st=>z85_k1 x1 st=some r) ?_ (fun j3=>?_))
   ·cases h
    exact wr J 7 func85 []
   ·intro g h
    replace h:z85_k1 x1 g=some r:=h
    unfold z85_k1 at h
    cases h
    exact wr J 6 func85 []
   refine wa J 1 (eLoop (σ:=Int × Int) (fun st=>(zz11 x1.2 st.1 [(2,.B 1 0),(4,.c (.s x1.1)),(5,.B 2 0),(48,.I (x1.1.size:Int)),(49,.I st.2)])) (fun n st=>z85_l2 x1 n st.1 st.2) (r:=r) (fun _=>rfl) ?_ (fun ih=>?_))
   ·intro n2 ih5
    rintro ⟨i,j⟩ h
    replace h:z85_l2 x1 (n2+1) i j=some r:=h
    unfold z85_l2 at h
    refine wB' J 5 h (fun h=>wa J 2 (eSub [] (j3 i h))) fun h=>?_
    exact wO J 15 h fun k l h=>eSx J l (wa J 5 (eEnd (wa J 5 (eSub [] (ih5 ((w64 ((w64 (10 * i))+(w64 ((wk .u8 (k-48)))))),(w64 (j+1))) h)))))
   exact eSub [] (ih N (0,0) h)
  refine eB h (fun h=>wa J 10 (eSub [] (j2 true h))) fun h=>?_
  refine wB' J 4 h (fun h=>wa J 6 (eSub [] (j2 false h))) fun h=>?_
  exact wO J 1 h fun m o h=>eSx J o (wa J 4 (eSub [] (j2 (m==48) h)))
 refine eB' h (fun h=>wa J 11 (eEnd (eSub [] (j1 false h)))) fun h=>?_
 refine wO J 8 h fun p q h=>eSx J q ?_
 obtain ⟨u,v,h⟩:=ob h
 exact eCl (z141_ct N p _ v) [] [] (wa J 1 (eEnd (eSub [] (j1 u h))))
theorem z86_ct (N:Nat) (c_:T5) (r:T4 × Int × T5) (h:z86 N c_=some r) :
 Fn Tryz.prog 86 ⟨1,[.B 0 0],[],[(0,.box (cC5 c_) 154)],1,.t [.inr (cC4 r.1),.inl (.I r.2.1)],[],[(0,.box (cC5 r.2.2) 154)]⟩:=by
 refine eFn func86 rfl (fun E F w=>?_)
 unfold z86 at h
 refine wa J 21 (eCut (σ:=Int) (fun st=>⟨[(2,.B 1 0)],[(0,.box [.s c_.s',.I st] 154),(1,.box [.I 0,.s (str []),.I 0,.I 0] 158)],[],2⟩) (fun st=>z86_k1 c_ st=some r) ?_ (fun j1=>?_))
 ·intro vbk0_0_1_1 h
  replace h:z86_k1 c_ vbk0_0_1_1=some r:=h
  unfold z86_k1 at h
  cases h
  exact wr J 6 func86 []
 refine wa J 1 (eLoop (σ:=Int × (List Int)) (fun st=>(zz12 c_.s' st.1 st.2 [(0,.B 0 0),(2,.B 1 0),(4,.S 2)])) (fun n st=>z86_l2 c_ n st.1 st.2) (r:=r) (fun _=>rfl) ?_ (fun ih=>?_))
 ·intro n2 ih6
  rintro ⟨vbk0_0_1_6,d⟩ h
  replace h:z86_l2 c_ (n2+1) vbk0_0_1_6 d=some r:=h
  unfold z86_l2 at h
  refine wa J 13 (eEnd ?_)
  refine eB' h (fun h=>wa J 2 (eSub [] (j1 vbk0_0_1_6 h))) fun h=>?_
  refine wO J 14 h fun e f h=>eSx J f (wa J 1 (eEnd ?_))
  refine wB J 6 h (fun h=>?_) fun h=>wa J 8 (eCut (σ:=Int × Int) (fun st=>(zz12 c_.s' st.1 d [(0,.B 0 0),(2,.B 1 0),(4,.S 2),(5,.c (.i .u8 st.2))])) (fun st=>z86_k3 c_ d (z86_l2 c_ n2) st.1 st.2=some r) ?_ (fun j9=>?_))
  ·refine wB J 19 h (fun h=>?_) fun h=>wa J 5 (eCs d ?_)
   ·cases h
    exact wr J 7 func86 []
   cases h
   exact wr J 4 func86 []
  ·rintro ⟨vbk0_0_1_9,g⟩ h
   replace h:z86_k3 c_ d (z86_l2 c_ n2) vbk0_0_1_9 g=some r:=h
   unfold z86_k3 at h
   refine wB J 6 h (fun h=>?_) fun h=>?_
   ·cases h
    exact wr J 11 func86 []
   refine wB J 4 h (fun h=>?_) fun h=>wa J 5 (eBs J [] (oI .u8) ([g]:List Int) ?_)
   ·cases h
    exact wr J 7 func86 []
   obtain ⟨j,k,h⟩:=ob h
   exact eAp J (rI .u8) k (wa J 13 (eSub [(2,.sl 4)] (ih6 ((w64 (vbk0_0_1_9+1)),j) h)))
  refine eB' h (fun h=>wa J 2 (eSub [] (j9 (vbk0_0_1_6,e) h))) fun h=>?_
  refine wB J 26 h (fun h=>wa J 23 (eEnd ?_)) fun h=>?_
  ·cases h
   exact wr J 7 func86 []
  refine wO J 8 h fun l m h=>eSx J m ?_
  refine wB' J 2 h (fun h=>wa J 12 (eEnd ?_)) fun h=>?_
  ·exact wO J 11 h fun o p h=>eSx J p (wa J 1 (eEnd (eSub [] (j9 ((w64 (vbk0_0_1_6+1)),o) h))))
  refine wO J 8 h fun q u h=>eSx J u (wa J 3 (eEnd ?_))
  refine eB h (fun h=>?_) fun h=>?_
  ·cases h
   exact wr J 7 func86 []
  exact wO J 11 h fun v x h=>eSx J x (wa J 1 (eEnd (eSub [] (j9 ((w64 (vbk0_0_1_6+1)),v) h))))
 exact eSub [(2,.nil)] (ih N ((w64 (c_.at'+1)),([]:List Int)) h)
theorem z209_ct (N:Nat) (s_:ByteArray) (substr_:ByteArray) (r:Int) (h:z209 N s_ substr_=some r) :
 Fn Tryz.prog 209 ⟨0,[.c (.s s_),.c (.s substr_)],[],[],0,.I r,[],[]⟩:=by
 refine eFn func209 rfl (fun E F w=>?_)
 unfold z209 at h
 refine wB J 17 h (fun h=>?_) fun h=>?_
 ·cases h
  exact wr J 11 func209 []
 refine wB J 6 h (fun h=>?_) fun h=>?_
 ·cases h
  exact wr J 5 func209 []
 refine wB J 7 h (fun h=>?_) fun h=>?_
 ·refine wO J 5 h fun x1 d h=>eSx J d ?_
  obtain ⟨x2,e,h⟩:=ob h
  refine eCl (z180_ct N s_ x1 _ e) [] [] ?_
  cases h
  exact wr J 2 func209 []
 refine wB J 9 h (fun h=>?_) fun h=>?_
 ·cases h
  exact wr J 5 func209 []
 cases h
theorem z181_ct (N:Nat) (s_:ByteArray) (substr_:ByteArray) (r:Int) (h:z181 N s_ substr_=some r) :
 Fn Tryz.prog 181 ⟨0,[.c (.s s_),.c (.s substr_)],[],[],0,.I r,[],[]⟩:=by
 refine eFn func181 rfl (fun E F w=>?_)
 unfold z181 at h
 refine wO J 8 h fun x1 d h=>eCl (z209_ct N s_ substr_ _ d) [] [] ?_
 cases h
 exact wr J 2 func181 []
theorem z139_ct (N:Nat) (s_:ByteArray) (substr_:ByteArray) (r:Bool) (h:z139 N s_ substr_=some r) :
 Fn Tryz.prog 139 ⟨0,[.c (.s s_),.c (.s substr_)],[],[],0,.O r,[],[]⟩:=by
 refine eFn func139 rfl (fun E F w=>?_)
 unfold z139 at h
 refine wO J 8 h fun x1 d h=>eCl (z181_ct N s_ substr_ _ d) [] [] ?_
 cases h
 exact wr J 3 func139 []
theorem z81_ct (N:Nat) (c_:T5) (r:T4 × Int × T5) (h:z81 N c_=some r) :
 Fn Tryz.prog 81 ⟨1,[.B 0 0],[],[(0,.box (cC5 c_) 154)],1,.t [.inr (cC4 r.1),.inl (.I r.2.1)],[],[(0,.box (cC5 r.2.2) 154)]⟩:=by
 refine eFn func81 rfl (fun E F w=>?_)
 unfold z81 at h
 refine wa J 11 (eCut (σ:=Unit) (fun st=>(zz4 c_ [(0,.B 0 0),(2,.B 1 0)])) (fun st=>z81_k1 N c_=some r) ?_ (fun j1=>?_))
 ·intro _ h
  replace h:z81_k1 N c_=some r:=h
  unfold z81_k1 at h
  refine wO J 15 h fun c d h=>eSs J d (wa J 1 (eEnd ?_))
  refine wO J 4 h fun e f h=>eCl (z139_ct N (str [40,41,123,125,44,59,58,46,43,45,42,47,37,60,62,61,33]) c _ f) [] [] ?_
  refine wB J 2 h (fun h=>?_) fun h=>?_
  ·cases h
   exact wr J 7 func81 []
  cases h
  exact wr J 20 func81 []
 refine wa J 1 (eLoop (σ:=Int) (fun st=>(zz4 c_ [(0,.B 0 0),(2,.B 1 0),(7,.a [.s (str [45,62]),.s (str [46,46]),.s (str [60,61]),.s (str [62,61]),.s (str [61,61]),.s (str [33,61]),.s (str [38,38]),.s (str [124,124])]),(8,.I st)])) (fun n st=>z81_l2 N c_ n st) (r:=r) (fun _=>rfl) ?_ (fun ih=>?_))
 ·intro n2 ih3
  intro g h
  replace h:z81_l2 N c_ (n2+1) g=some r:=h
  unfold z81_l2 at h
  refine wB' J 5 h (fun h=>wa J 2 (eSub [] (j1 () h))) fun h=>?_
  refine wO J 6 h fun i j h=>eAx SC.s ([(str [45,62]),(str [46,46]),(str [60,61]),(str [62,61]),(str [61,61]),(str [33,61]),(str [38,38]),(str [124,124])]:List ByteArray) j ?_
  refine wO J 12 h fun k l h=>eSs J l ?_
  refine wO J 1 h fun m o h=>eCl (z137_ct N k i _ o) [] [] (eEnd ?_)
  refine eB h (fun h=>?_) fun h=>wa J 7 (eSub [] (ih3 (w64 (g+1)) h))
  cases h
  exact wr J 19 func81 []
 exact eSub [] (ih N 0 h)
theorem z32_ct (N:Nat) (s_:ByteArray) (r:(List T4) × Int × Int) (h:z32 N s_=some r) :
 Fn Tryz.prog 32 ⟨0,[.c (.s s_)],[],[],1,.t [.inl (.sl 0),.inl (.I r.2.1),.inl (.I r.2.2)],[],[(0,.own rR4 r.1 true)]⟩:=by
 refine eFn func32 rfl (fun E F w=>?_)
 unfold z32 at h
 refine wB J 13 h (fun h=>?_) fun h=>?_
 ·cases h
  exact wr J 7 func32 [(0,.nil)]
 refine wO J 13 h fun x1 d h=>eCl (z80_ct N (⟨s_,0⟩:T5) _ d) [] [(0,.bp 0 0)] (wa J 1 (eCut (σ:=(List T4)) (fun st=>⟨[(2,.S 1)],[(1,.own rR4 st true)],[],2⟩) (fun st=>z32_k1 st=some r) ?_ (fun j1=>?_)))
 ·intro e h
  replace h:z32_k1 e=some r:=h
  unfold z32_k1 at h
  cases h
  exact wr J 7 func32 [(0,.sl 1)]
 refine wa J 1 (eLoop (σ:=(List T4) × ByteArray × Int) (fun st=>⟨[(0,.c (.s s_)),(2,.S 1),(5,.B 0 0)],[(0,.box [.s st.2.1,.I st.2.2] 154),(1,.own rR4 st.1 true)],[],2⟩) (fun n st=>z32_l2 N s_ n st.1 st.2.1 st.2.2) (r:=r) (fun _=>rfl) ?_ (fun ih=>?_))
 ·intro n2 ih12
  rintro ⟨f,g,i⟩ h
  replace h:z32_l2 N s_ (n2+1) f g i=some r:=h
  unfold z32_l2 at h
  refine wB' J 11 h (fun h=>wa J 2 (eSub [] (j1 f h))) fun h=>?_
  refine wO J 18 h fun j k h=>eSx J k ?_
  refine wO J 6 h fun l m h=>eCl (z82_ct N j _ m) [] [] ?_
  refine wB J 2 h (fun h=>?_) fun h=>?_
  ·refine wO J 18 h fun o p h=>eCl (z83_ct N (⟨g,i⟩:T5) _ p) [] [(0,.bp 0 0)] ?_
   refine wB J 13 h (fun h=>?_) fun h=>wa J 11 (eBs J [] oO4 ([(⟨o.1.Kind,o.1.Text,o.1.Value,i⟩:T4)]:List T4) ?_)
   ·cases h
    exact wr J 9 func32 [(0,.nil)]
   obtain ⟨q,u,h⟩:=ob h
   refine eAp J rR4 u ?_
   exact wO J 5 h fun v x h=>eCl (z80_ct N o.2.2 _ x) [] [(0,.bp 0 0)] (wa J 1 (eSub [(1,.sl 4)] (ih12 (q,v.s',v.at') h)))
  refine wO J 4 h fun y z h=>eCl (z84_ct N j _ z) [] [] ?_
  refine wB J 2 h (fun h=>?_) fun h=>?_
  ·refine wO J 18 h fun A C h=>eCl (z85_ct N (⟨g,i⟩:T5) _ C) [] [(0,.bp 0 0)] ?_
   refine wB J 13 h (fun h=>?_) fun h=>wa J 11 (eBs J [] oO4 ([(⟨A.1.Kind,A.1.Text,A.1.Value,i⟩:T4)]:List T4) ?_)
   ·cases h
    exact wr J 9 func32 [(0,.nil)]
   obtain ⟨D,G,h⟩:=ob h
   refine eAp J rR4 G ?_
   exact wO J 5 h fun H R h=>eCl (z80_ct N A.2.2 _ R) [] [(0,.bp 0 0)] (wa J 1 (eSub [(1,.sl 4)] (ih12 (D,H.s',H.at') h)))
  refine wB J 7 h (fun h=>?_) fun h=>?_
  ·refine wO J 18 h fun T U h=>eCl (z86_ct N (⟨g,i⟩:T5) _ U) [] [(0,.bp 0 0)] ?_
   refine wB J 13 h (fun h=>?_) fun h=>wa J 11 (eBs J [] oO4 ([(⟨T.1.Kind,T.1.Text,T.1.Value,i⟩:T4)]:List T4) ?_)
   ·cases h
    exact wr J 9 func32 [(0,.nil)]
   obtain ⟨X,Y,h⟩:=ob h
   refine eAp J rR4 Y ?_
   exact wO J 5 h fun Z a0 h=>eCl (z80_ct N T.2.2 _ a0) [] [(0,.bp 0 0)] (wa J 1 (eSub [(1,.sl 4)] (ih12 (X,Z.s',Z.at') h)))
  refine wO J 14 h fun b0 c0 h=>eCl (z81_ct N (⟨g,i⟩:T5) _ c0) [] [(0,.bp 0 0)] ?_
  refine wB J 13 h (fun h=>?_) fun h=>wa J 11 (eBs J [] oO4 ([(⟨b0.1.Kind,b0.1.Text,b0.1.Value,i⟩:T4)]:List T4) ?_)
  ·cases h
   exact wr J 9 func32 [(0,.nil)]
  obtain ⟨d0,e0,h⟩:=ob h
  refine eAp J rR4 e0 ?_
  exact wO J 5 h fun f0 g0 h=>eCl (z80_ct N b0.2.2 _ g0) [] [(0,.bp 0 0)] (wa J 1 (eSub [(1,.sl 4)] (ih12 (d0,f0.s',f0.at') h)))
 exact eSub [(1,.nil)] (ih N (([]:List T4),x1.s',x1.at') h)
theorem z143_ct (N:Nat) (p_:T19) (r:T4) (h:z143 N p_=some r) :
 Fn Tryz.prog 143 ⟨2,[.B 0 0],[(1,.sl rR4 p_.l')],[(0,.box (cC19 1 p_) 99)],2,.a (cC4 r),[],[(0,.box (cC19 1 p_) 99)]⟩:=by
 refine eFn func143 rfl (fun E F w=>?_)
 unfold z143 at h
 refine wB J 13 h (fun h=>wa J 11 (eEnd ?_)) fun h=>wa J 11 (eEnd ?_)
 ·cases h
  exact wr J 6 func143 []
 refine eB h (fun h=>?_) fun h=>?_
 ·cases h
  exact wr J 6 func143 []
 refine wO J 12 h fun x1 c h=>eIx J oO4 c (wa J 2 (eEnd ?_))
 cases h
 exact eRet J func143 []
theorem z144_ct (N:Nat) (p_:T19) (s_:ByteArray) (r:Bool) (h:z144 N p_ s_=some r) :
 Fn Tryz.prog 144 ⟨2,[.B 0 0,.c (.s s_)],[(1,.sl rR4 p_.l')],[(0,.box (cC19 1 p_) 99)],2,.O r,[],[(0,.box (cC19 1 p_) 99)]⟩:=by
 refine eFn func144 rfl (fun E F w=>?_)
 unfold z144 at h
 refine wO J 7 h fun x1 d h=>eCl (z143_ct N p_ _ d) [] [(0,.bp 0 0),(1,.sl 1)] ?_
 refine wB J 9 h (fun h=>?_) fun h=>?_
 ·cases h
  exact wr J 12 func144 []
 refine wB J 5 h (fun h=>?_) fun h=>?_
 ·cases h
  exact wr J 7 func144 []
 cases h
 exact wr J 7 func144 []
theorem z90_ct (N:Nat) (p_:T19) (s_:ByteArray) (r:Bool × T19) (h:z90 N p_ s_=some r) :
 Fn Tryz.prog 90 ⟨2,[.B 0 0,.c (.s s_)],[(1,.sl rR4 p_.l')],[(0,.box (cC19 1 p_) 99)],3,.O r.1,[(2,.sl rR4 r.2.l')],[(0,.box (cC19 2 r.2) 99)]⟩:=by
 refine eFn func90 rfl (fun E F w=>?_)
 unfold z90 at h
 refine wO J 9 h fun x1 d h=>eCl (z144_ct N p_ s_ _ d) [] [(0,.bp 0 0),(1,.sl 1)] ?_
 refine wB J 2 h (fun h=>?_) fun h=>?_
 ·cases h
  exact wr J 5 func90 [(2,.sl 1)]
 cases h
 exact wr J 17 func90 [(2,.sl 1)]
theorem z142_ct (N:Nat) (p_:T19) (e_:Int) (r:T19) (h:z142 N p_ e_=some r) :
 Fn Tryz.prog 142 ⟨2,[.B 0 0,.I e_],[(1,.sl rR4 p_.l')],[(0,.box (cC19 1 p_) 99)],3,.t [],[(2,.sl rR4 r.l')],[(0,.box (cC19 2 r) 99)]⟩:=by
 refine eFn func142 rfl (fun E F w=>?_)
 unfold z142 at h
 refine wB J 9 h (fun h=>?_) fun h=>wa J 30 (eEnd ?_)
 ·cases h
  exact wr J 1 func142 [(2,.sl 1)]
 refine eB' h (fun h=>?_) fun h=>?_
 ·cases h
  exact wr J 2 func142 [(2,.sl 1)]
 refine wO J 11 h fun x1 c h=>eIx J oO4 c (wa J 5 (eEnd ?_))
 cases h
 exact eRet J func142 [(2,.sl 1)]
theorem z87_ct (N:Nat) (p_:T19) (s_:ByteArray) (r:T19) (h:z87 N p_ s_=some r) :
 Fn Tryz.prog 87 ⟨2,[.B 0 0,.c (.s s_)],[(1,.sl rR4 p_.l')],[(0,.box (cC19 1 p_) 99)],3,.t [],[(2,.sl rR4 r.l')],[(0,.box (cC19 2 r) 99)]⟩:=by
 refine eFn func87 rfl (fun E F w=>?_)
 unfold z87 at h
 refine wO J 4 h fun x1 d h=>eCl (z90_ct N p_ s_ _ d) [] [(0,.bp 0 0),(1,.sl 1)] ?_
 refine wB' J 2 h (fun h=>?_) fun h=>?_
 ·cases h
  exact wr J 2 func87 [(2,.sl 2)]
 refine wO J 3 h fun x2 e h=>eCl (z142_ct N x1.2 3 _ e) [] [(0,.bp 0 0),(1,.sl 2)] ?_
 cases h
 exact wr J 1 func87 [(2,.sl 3)]
theorem z97_ct (N:Nat) (s_:ByteArray) (r:Bool) (h:z97 N s_=some r) :
 Fn Tryz.prog 97 ⟨0,[.c (.s s_)],[],[],0,.O r,[],[]⟩:=by
 refine eFn func97 rfl (fun E F w=>?_)
 unfold z97 at h
 refine wB J 10 h (fun h=>?_) fun h=>?_
 ·cases h
  exact wr J 16 func97 []
 refine wB J 5 h (fun h=>?_) fun h=>?_
 ·cases h
  exact wr J 11 func97 []
 refine wO J 1 h fun x1 d h=>eSx J d ?_
 obtain ⟨x2,e,h⟩:=ob h
 refine eCl (z82_ct N x1 _ e) [] [] ?_
 refine wB J 3 h (fun h=>?_) fun h=>wa J 9 (eCut (σ:=Unit) (fun st=>(zz0 [])) (fun st=>z97_k1=some r) ?_ (fun j1=>?_))
 ·cases h
  exact wr J 5 func97 []
 ·intro _ h
  replace h:z97_k1=some r:=h
  unfold z97_k1 at h
  cases h
  exact wr J 4 func97 []
 refine wa J 1 (eLoop (σ:=Int) (fun st=>(zz0 [(0,.c (.s s_)),(18,.I (s_.size:Int)),(19,.I st)])) (fun n st=>z97_l2 N s_ n st) (r:=r) (fun _=>rfl) ?_ (fun ih=>?_))
 ·intro n2 ih3
  intro f h
  replace h:z97_l2 N s_ (n2+1) f=some r:=h
  unfold z97_l2 at h
  refine wB' J 5 h (fun h=>wa J 2 (eSub [] (j1 () h))) fun h=>?_
  refine wO J 13 h fun g i h=>eSx J i ?_
  obtain ⟨j,k,h⟩:=ob h
  refine eCl (z141_ct N g _ k) [] [] ?_
  refine wB J 2 h (fun h=>?_) fun h=>wa J 7 (eSub [] (ih3 (w64 (f+1)) h))
  cases h
  exact wr J 5 func97 []
 exact eSub [] (ih N 0 h)
theorem z122_ct (N:Nat) (s_:(List ByteArray)) (v_:ByteArray) (r:Int) (h:z122 N s_ v_=some r) :
 Fn Tryz.prog 122 ⟨1,[.S 0,.c (.s v_)],[(0,.sl rS s_)],[],1,.I r,[],[]⟩:=by
 refine eFn func122 rfl (fun E F w=>?_)
 unfold z122 at h
 refine wa J 11 (eCut (σ:=Unit) (fun st=>(zz2 s_ [])) (fun st=>z122_k1=some r) ?_ (fun j1=>?_))
 ·intro _ h
  replace h:z122_k1=some r:=h
  unfold z122_k1 at h
  cases h
  exact wr J 4 func122 []
 refine wa J 1 (eLoop (σ:=Int) (fun st=>(zz2 s_ [(0,.S 0),(1,.c (.s v_)),(7,.I (s_.length:Int)),(8,.I st)])) (fun n st=>z122_l2 s_ v_ n st) (r:=r) (fun _=>rfl) ?_ (fun ih=>?_))
 ·intro n2 ih3
  intro d h
  replace h:z122_l2 s_ v_ (n2+1) d=some r:=h
  unfold z122_l2 at h
  refine wB' J 5 h (fun h=>wa J 2 (eSub [] (j1 () h))) fun h=>?_
  refine wO J 14 h fun x9 e h=>eIx J oS e ?_
  refine wB J 3 h (fun h=>?_) fun h=>wa J 7 (eSub [] (ih3 (w64 (d+1)) h))
  cases h
  exact wr J 6 func122 []
 exact eSub [] (ih N 0 h)
theorem z54_ct (N:Nat) (s_:(List ByteArray)) (v_:ByteArray) (r:Bool) (h:z54 N s_ v_=some r) :
 Fn Tryz.prog 54 ⟨1,[.S 0,.c (.s v_)],[(0,.sl rS s_)],[],1,.O r,[],[]⟩:=by
 refine eFn func54 rfl (fun E F w=>?_)
 unfold z54 at h
 refine wO J 8 h fun x1 d h=>eCl (z122_ct N s_ v_ _ d) [] [(0,.sl 0)] ?_
 cases h
 exact wr J 3 func54 []
theorem z41_ct (N:Nat) (s_:ByteArray) (r:Bool) (h:z41 N s_=some r) :
 Fn Tryz.prog 41 ⟨0,[.c (.s s_)],[],[],0,.O r,[],[]⟩:=by
 refine eFn func41 rfl (fun E F w=>?_)
 unfold z41 at h
 refine wO J 13 h fun x1 d h=>eCl (z97_ct N s_ _ d) [] [] ?_
 refine wB' J 1 h (fun h=>?_) fun h=>eSb [] oS ([(str [97,103,97,105,110]),(str [97,110,100]),(str [97,115]),(str [97,116]),(str [99,97,108,108]),(str [99,104,111,105,99,101]),(str [101,108,115,101]),(str [102,114,111,109]),(str [105,102]),(str [105,110,116]),(str [108,101,110]),(str [108,111,111,112]),(str [109,101,115,115,97,103,101]),(str [111,102]),(str [111,102,102,101,114]),(str [111,110]),(str [111,114]),(str [112,97,114]),(str [112,108,97,121,115]),(str [112,114,111,116,111,99,111,108]),(str [115,101,114,118,105,99,101]),(str [116,101,120,116]),(str [116,105,109,101,115]),(str [116,111]),(str [118,97,114]),(str [119,104,101,114,101]),(str [119,104,105,108,101]),(str [119,105,116,104,105,110])]:List ByteArray) ?_
 ·cases h
  exact wr J 7 func41 []
 refine wO J 1 h fun x2 e h=>eCb (z54_ct N ([(str [97,103,97,105,110]),(str [97,110,100]),(str [97,115]),(str [97,116]),(str [99,97,108,108]),(str [99,104,111,105,99,101]),(str [101,108,115,101]),(str [102,114,111,109]),(str [105,102]),(str [105,110,116]),(str [108,101,110]),(str [108,111,111,112]),(str [109,101,115,115,97,103,101]),(str [111,102]),(str [111,102,102,101,114]),(str [111,110]),(str [111,114]),(str [112,97,114]),(str [112,108,97,121,115]),(str [112,114,111,116,111,99,111,108]),(str [115,101,114,118,105,99,101]),(str [116,101,120,116]),(str [116,105,109,101,115]),(str [116,111]),(str [118,97,114]),(str [119,104,101,114,101]),(str [119,104,105,108,101]),(str [119,105,116,104,105,110])]:List ByteArray) s_ _ e) [] [(0,.sl 1)] [1] (.inr ⟨rfl,trivial⟩) ?_
 cases h
 exact wr J 4 func41 []
theorem z88_ct (N:Nat) (p_:T19) (r:ByteArray × T19) (h:z88 N p_=some r) :
 Fn Tryz.prog 88 ⟨2,[.B 0 0],[(1,.sl rR4 p_.l')],[(0,.box (cC19 1 p_) 99)],3,.c (.s r.1),[(2,.sl rR4 r.2.l')],[(0,.box (cC19 2 r.2) 99)]⟩:=by
 refine eFn func88 rfl (fun E F w=>?_)
 unfold z88 at h
 refine wO J 7 h fun x1 d h=>eCl (z143_ct N p_ _ d) [] [(0,.bp 0 0),(1,.sl 1)] ?_
 refine wB J 10 h (fun h=>?_) fun h=>?_
 ·refine wO J 10 h fun x2 e h=>eCl (z142_ct N p_ 3 _ e) [] [(0,.bp 0 0),(1,.sl 1)] ?_
  cases h
  exact wr J 5 func88 [(2,.sl 3)]
 refine wO J 2 h fun x3 f h=>eCl (z41_ct N x1.Text _ f) [] [] ?_
 refine wB' J 3 h (fun h=>?_) fun h=>?_
 ·cases h
  exact wr J 19 func88 [(2,.sl 1)]
 refine wO J 4 h fun x4 g h=>eCl (z142_ct N p_ 3 _ g) [] [(0,.bp 0 0),(1,.sl 1)] ?_
 cases h
 exact wr J 5 func88 [(2,.sl 3)]
theorem z89_ct (N:Nat) (p_:T19) (r:(List ByteArray) × T19) (h:z89 N p_=some r) :
 Fn Tryz.prog 89 ⟨2,[.B 0 0],[(1,.sl rR4 p_.l')],[(0,.box (cC19 1 p_) 99)],4,.S 2,[(3,.sl rR4 r.2.l')],[(2,.own rS r.1 true),(0,.box (cC19 3 r.2) 99)]⟩:=by
 refine eFn func89 rfl (fun E F w=>?_)
 unfold z89 at h
 refine wO J 7 h fun x1 c h=>eCl (z88_ct N p_ _ c) [] [(0,.bp 0 0),(1,.sl 1)] (eBs J [] oS ([x1.1]:List ByteArray) (wa J 3 (eCut (σ:=(List T4) × Int × Int × Int × Int × (List ByteArray)) (fun st=>⟨[(3,.S 5)],[(0,.box [.sl 4,.I st.2.1,.I st.2.2.1,.I st.2.2.2.1,.I st.2.2.2.2.1] 99),(5,.own rS st.2.2.2.2.2 true)],[(1,.sl rR4 p_.l'),(4,.sl rR4 st.1)],6⟩) (fun st=>z89_k1 st.1 st.2.1 st.2.2.1 st.2.2.2.1 st.2.2.2.2.1 st.2.2.2.2.2=some r) ?_ (fun j1=>?_))))
 ·rintro ⟨vbk0_0_0_1,vbk0_0_1_1,vbk0_0_2_1,vbk0_0_3_1,vbk0_0_4_1,d⟩ h
  replace h:z89_k1 vbk0_0_0_1 vbk0_0_1_1 vbk0_0_2_1 vbk0_0_3_1 vbk0_0_4_1 d=some r:=h
  unfold z89_k1 at h
  cases h
  exact wr J 5 func89 [(2,.sl 5),(3,.sl 4)]
 refine wa J 1 (eLoop (σ:=(List T4) × Int × Int × Int × Int × (List ByteArray)) (fun st=>⟨[(0,.B 0 0),(3,.S 5)],[(0,.box [.sl 4,.I st.2.1,.I st.2.2.1,.I st.2.2.2.1,.I st.2.2.2.2.1] 99),(5,.own rS st.2.2.2.2.2 true)],[(1,.sl rR4 p_.l'),(4,.sl rR4 st.1)],6⟩) (fun n st=>z89_l2 N n st.1 st.2.1 st.2.2.1 st.2.2.2.1 st.2.2.2.2.1 st.2.2.2.2.2) (r:=r) (fun _=>rfl) ?_ (fun ih=>?_))
 ·intro n2 ih3
  rintro ⟨vbk0_0_0_3,vbk0_0_1_3,vbk0_0_2_3,vbk0_0_3_3,vbk0_0_4_3,e⟩ h
  replace h:z89_l2 N (n2+1) vbk0_0_0_3 vbk0_0_1_3 vbk0_0_2_3 vbk0_0_3_3 vbk0_0_4_3 e=some r:=h
  unfold z89_l2 at h
  refine wO J 4 h fun f g h=>eCl (z90_ct N (⟨vbk0_0_0_3,vbk0_0_1_3,vbk0_0_2_3,vbk0_0_3_3,vbk0_0_4_3⟩:T19) (str [44]) _ g) [] [(0,.bp 0 0),(1,.sl 4)] ?_
  refine wB' J 1 h (fun h=>wa J 2 (eSub [(4,.sl 6)] (j1 (f.2.l',f.2.n',f.2.end',f.2.at',f.2.err',e) h))) fun h=>?_
  refine wO J 6 h fun i j h=>eCl (z88_ct N f.2 _ j) [] [(0,.bp 0 0),(1,.sl 6)] (eBs J [] oS ([i.1]:List ByteArray) ?_)
  obtain ⟨k,l,h⟩:=ob h
  exact eAp J rS l (wa J 3 (eSub [(4,.sl 7),(5,.sl 9)] (ih3 (i.2.l',i.2.n',i.2.end',i.2.at',i.2.err',k) h)))
 exact eSub [(4,.sl 2),(5,.sl 3)] (ih N (x1.2.l',x1.2.n',x1.2.end',x1.2.at',x1.2.err',([x1.1]:List ByteArray)) h)
theorem z145_ct (N:Nat) (p_:T19) (r:ByteArray × T19) (h:z145 N p_=some r) :
 Fn Tryz.prog 145 ⟨2,[.B 0 0],[(1,.sl rR4 p_.l')],[(0,.box (cC19 1 p_) 99)],3,.c (.s r.1),[(2,.sl rR4 r.2.l')],[(0,.box (cC19 2 r.2) 99)]⟩:=by
 refine eFn func145 rfl (fun E F w=>?_)
 unfold z145 at h
 refine wO J 7 h fun x1 d h=>eCl (z88_ct N p_ _ d) [] [(0,.bp 0 0),(1,.sl 1)] (wa J 3 (eCut (σ:=(List T4) × Int × Int × Int × Int × ByteArray) (fun st=>⟨[(3,.c (.s st.2.2.2.2.2))],[(0,.box [.sl 3,.I st.2.1,.I st.2.2.1,.I st.2.2.2.1,.I st.2.2.2.2.1] 99)],[(1,.sl rR4 p_.l'),(3,.sl rR4 st.1)],4⟩) (fun st=>z145_k1 st.1 st.2.1 st.2.2.1 st.2.2.2.1 st.2.2.2.2.1 st.2.2.2.2.2=some r) ?_ (fun j1=>?_)))
 ·rintro ⟨vbk0_0_0_1,vbk0_0_1_1,vbk0_0_2_1,vbk0_0_3_1,vbk0_0_4_1,e⟩ h
  replace h:z145_k1 vbk0_0_0_1 vbk0_0_1_1 vbk0_0_2_1 vbk0_0_3_1 vbk0_0_4_1 e=some r:=h
  unfold z145_k1 at h
  cases h
  exact wr J 5 func145 [(2,.sl 3)]
 refine wa J 1 (eLoop (σ:=(List T4) × Int × Int × Int × Int × ByteArray) (fun st=>⟨[(0,.B 0 0),(3,.c (.s st.2.2.2.2.2))],[(0,.box [.sl 3,.I st.2.1,.I st.2.2.1,.I st.2.2.2.1,.I st.2.2.2.2.1] 99)],[(1,.sl rR4 p_.l'),(3,.sl rR4 st.1)],4⟩) (fun n st=>z145_l2 N n st.1 st.2.1 st.2.2.1 st.2.2.2.1 st.2.2.2.2.1 st.2.2.2.2.2) (r:=r) (fun _=>rfl) ?_ (fun ih=>?_))
 ·intro n2 ih3
  rintro ⟨vbk0_0_0_3,vbk0_0_1_3,vbk0_0_2_3,vbk0_0_3_3,vbk0_0_4_3,f⟩ h
  replace h:z145_l2 N (n2+1) vbk0_0_0_3 vbk0_0_1_3 vbk0_0_2_3 vbk0_0_3_3 vbk0_0_4_3 f=some r:=h
  unfold z145_l2 at h
  refine wO J 4 h fun g i h=>eCl (z90_ct N (⟨vbk0_0_0_3,vbk0_0_1_3,vbk0_0_2_3,vbk0_0_3_3,vbk0_0_4_3⟩:T19) (str [46]) _ i) [] [(0,.bp 0 0),(1,.sl 3)] ?_
  refine wB' J 1 h (fun h=>wa J 2 (eSub [(3,.sl 4)] (j1 (g.2.l',g.2.n',g.2.end',g.2.at',g.2.err',f) h))) fun h=>?_
  refine wO J 6 h fun j k h=>eCl (z88_ct N g.2 _ k) [] [(0,.bp 0 0),(1,.sl 4)] ?_
  obtain ⟨l,m,h⟩:=ob h
  refine eCa m ?_
  obtain ⟨o,p,h⟩:=ob h
  exact eCa p (wa J 3 (eSub [(3,.sl 5)] (ih3 (j.2.l',j.2.n',j.2.end',j.2.at',j.2.err',o) h)))
 exact eSub [(3,.sl 2)] (ih N (x1.2.l',x1.2.n',x1.2.end',x1.2.at',x1.2.err',x1.1) h)
theorem z183_ct (N:Nat) (p_:T19) (r:Int × T19) (h:z183 N p_=some r) :
 Fn Tryz.prog 183 ⟨2,[.B 0 0],[(1,.sl rR4 p_.l')],[(0,.box (cC19 1 p_) 99)],3,.I r.1,[(2,.sl rR4 r.2.l')],[(0,.box (cC19 2 r.2) 99)]⟩:=by
 refine eFn func183 rfl (fun E F w=>?_)
 unfold z183 at h
 refine wO J 7 h fun x1 c h=>eCl (z143_ct N p_ _ c) [] [(0,.bp 0 0),(1,.sl 1)] ?_
 refine wB' J 10 h (fun h=>?_) fun h=>?_
 ·cases h
  exact wr J 19 func183 [(2,.sl 1)]
 refine wO J 4 h fun x2 d h=>eCl (z142_ct N p_ 3 _ d) [] [(0,.bp 0 0),(1,.sl 1)] ?_
 cases h
 exact wr J 5 func183 [(2,.sl 3)]
theorem z182_ct (N:Nat) (p_:T19) (r:Int × T19) (h:z182 N p_=some r) :
 Fn Tryz.prog 182 ⟨2,[.B 0 0],[(1,.sl rR4 p_.l')],[(0,.box (cC19 1 p_) 99)],3,.I r.1,[(2,.sl rR4 r.2.l')],[(0,.box (cC19 2 r.2) 99)]⟩:=by
 refine eFn func182 rfl (fun E F w=>?_)
 unfold z182 at h
 refine wO J 8 h fun x1 c h=>eCl (z90_ct N p_ (str [45]) _ c) [] [(0,.bp 0 0),(1,.sl 1)] ?_
 refine wB J 1 h (fun h=>?_) fun h=>?_
 ·refine wO J 4 h fun x2 d h=>eCl (z183_ct N x1.2 _ d) [] [(0,.bp 0 0),(1,.sl 2)] ?_
  cases h
  exact wr J 3 func182 [(2,.sl 3)]
 refine wO J 5 h fun x3 e h=>eCl (z183_ct N x1.2 _ e) [] [(0,.bp 0 0),(1,.sl 2)] ?_
 cases h
 exact wr J 2 func182 [(2,.sl 3)]
theorem z146_ct (N:Nat) (p_:T19) (r:T0 × T19) (h:z146 N p_=some r) :
 Fn Tryz.prog 146 ⟨2,[.B 0 0],[(1,.sl rR4 p_.l')],[(0,.box (cC19 1 p_) 99)],3,.a (cC0 r.1),[(2,.sl rR4 r.2.l')],[(0,.box (cC19 2 r.2) 99)]⟩:=by
 refine eFn func146 rfl (fun E F w=>?_)
 unfold z146 at h
 refine wO J 7 h fun x1 c h=>eCl (z88_ct N p_ _ c) [] [(0,.bp 0 0),(1,.sl 1)] ?_
 refine wO J 7 h fun x2 d h=>eCl (z87_ct N x1.2 (str [58]) _ d) [] [(0,.bp 0 0),(1,.sl 3)] ?_
 refine wO J 17 h fun x3 e h=>eCl (z90_ct N x2 (str [105,110,116]) _ e) [] [(0,.bp 0 0),(1,.sl 5)] ?_
 refine wB' J 2 h (fun h=>?_) fun h=>?_
 ·refine wO J 5 h fun x9 f h=>eCl (z182_ct N x3.2 _ f) [] [(0,.bp 0 0),(1,.sl 6)] ?_
  refine wO J 7 h fun g i h=>eCl (z87_ct N x9.2 (str [46,46]) _ i) [] [(0,.bp 0 0),(1,.sl 7)] ?_
  refine wO J 4 h fun j k h=>eCl (z182_ct N g _ k) [] [(0,.bp 0 0),(1,.sl 8)] ?_
  cases h
  exact wr J 9 func146 [(2,.sl 9)]
 refine wO J 4 h fun x5 l h=>eCl (z87_ct N x3.2 (str [116,101,120,116]) _ l) [] [(0,.bp 0 0),(1,.sl 6)] ?_
 refine wO J 15 h fun x6 m h=>eCl (z183_ct N x5 _ m) [] [(0,.bp 0 0),(1,.sl 7)] ?_
 refine wO J 7 h fun x7 o h=>eCl (z87_ct N x6.2 (str [46,46]) _ o) [] [(0,.bp 0 0),(1,.sl 8)] ?_
 refine wO J 4 h fun x8 p h=>eCl (z183_ct N x7 _ p) [] [(0,.bp 0 0),(1,.sl 9)] ?_
 cases h
 exact wr J 9 func146 [(2,.sl 10)]
theorem z222_ct (N:Nat) (s_:ByteArray) (c_:Int) (r:Int) (h:z222 N s_ c_=some r) :
 Fn Tryz.prog 222 ⟨0,[.c (.s s_),.c (.i .u8 c_)],[],[],0,.I r,[],[]⟩:=by
 refine eFn func222 rfl (fun E F w=>?_)
 unfold z222 at h
 refine wa J 12 (eCut (σ:=Unit) (fun st=>(zz0 [])) (fun st=>z222_k1=some r) ?_ (fun j1=>?_))
 ·intro _ h
  replace h:z222_k1=some r:=h
  unfold z222_k1 at h
  cases h
  exact wr J 4 func222 []
 refine wa J 1 (eLoop (σ:=Int) (fun st=>(zz0 [(0,.c (.s s_)),(1,.c (.i .u8 c_)),(5,.I st)])) (fun n st=>z222_l2 s_ c_ n st) (r:=r) (fun _=>rfl) ?_ (fun ih=>?_))
 ·intro n2 ih3
  intro d h
  replace h:z222_l2 s_ c_ (n2+1) d=some r:=h
  unfold z222_l2 at h
  refine wB' J 6 h (fun h=>wa J 2 (eSub [] (j1 () h))) fun h=>?_
  refine wO J 8 h fun x9 e h=>eSx J e ?_
  refine wB J 3 h (fun h=>?_) fun h=>wa J 8 (eSub [] (ih3 (w64 (d-1)) h))
  cases h
  exact wr J 6 func222 []
 exact eSub [] (ih N (w64 ((s_.size:Int)-1)) h)
theorem z210_ct (N:Nat) (s_:ByteArray) (c_:Int) (r:Int) (h:z210 N s_ c_=some r) :
 Fn Tryz.prog 210 ⟨0,[.c (.s s_),.c (.i .u8 c_)],[],[],0,.I r,[],[]⟩:=by
 refine eFn func210 rfl (fun E F w=>?_)
 unfold z210 at h
 refine wO J 8 h fun x1 d h=>eCl (z222_ct N s_ c_ _ d) [] [] ?_
 cases h
 exact wr J 2 func210 []
theorem z184_ct (N:Nat) (p_:T19) (r:T18 × T19) (h:z184 N p_=some r) :
 Fn Tryz.prog 184 ⟨2,[.B 0 0],[(1,.sl rR4 p_.l')],[(0,.box (cC19 1 p_) 99)],3,.a (cC18 r.1),[(2,.sl rR4 r.2.l')],[(0,.box (cC19 2 r.2) 99)]⟩:=by
 refine eFn func184 rfl (fun E F w=>?_)
 unfold z184 at h
 refine wO J 8 h fun x1 d h=>eCl (z144_ct N p_ (str [45]) _ d) [] [(0,.bp 0 0),(1,.sl 1)] ?_
 refine wB J 1 h (fun h=>?_) fun h=>?_
 ·refine wO J 10 h fun x2 e h=>eCl (z182_ct N p_ _ e) [] [(0,.bp 0 0),(1,.sl 1)] ?_
  cases h
  exact wr J 3 func184 [(2,.sl 3)]
 refine wO J 1 h fun x3 f h=>eCl (z143_ct N p_ _ f) [] [(0,.bp 0 0),(1,.sl 1)] ?_
 refine wB J 4 h (fun h=>?_) fun h=>?_
 ·refine wO J 4 h fun x4 g h=>eCl (z182_ct N p_ _ g) [] [(0,.bp 0 0),(1,.sl 1)] ?_
  cases h
  exact wr J 3 func184 [(2,.sl 3)]
 refine wO J 16 h fun x5 i h=>eCl (z90_ct N p_ (str [108,101,110]) _ i) [] [(0,.bp 0 0),(1,.sl 1)] (wa J 1 (eCut (σ:=(List T4) × Int × Int × Int × Int × Int × ByteArray) (fun st=>⟨[(0,.B 0 0),(2,.B 2 0),(3,.B 3 0),(4,.c (.s st.2.2.2.2.2.2))],[(0,.box [.sl 5,.I st.2.1,.I st.2.2.1,.I st.2.2.2.1,.I st.2.2.2.2.1] 99),(2,.box [.I 0,.s (str []),.s (str []),.I 0] 76),(3,.box [.I st.2.2.2.2.2.1,.s (str []),.s (str []),.I 0] 76)],[(1,.sl rR4 p_.l'),(5,.sl rR4 st.1)],6⟩) (fun st=>z184_k2 N st.1 st.2.1 st.2.2.1 st.2.2.2.1 st.2.2.2.2.1 st.2.2.2.2.2.1 st.2.2.2.2.2.2=some r) ?_ (fun j1=>?_)))
 ·rintro ⟨vbk0_0_0_1,vbk0_0_1_1,vbk0_0_2_1,vbk0_0_3_1,vbk0_0_4_1,j,k⟩ h
  replace h:z184_k2 N vbk0_0_0_1 vbk0_0_1_1 vbk0_0_2_1 vbk0_0_3_1 vbk0_0_4_1 j k=some r:=h
  unfold z184_k2 at h
  refine wO J 10 h fun l m h=>eCl (z210_ct N k 46 _ m) [] [] (wa J 7 (eCut (σ:=ByteArray × ByteArray) (fun st=>⟨[(0,.B 0 0),(2,.B 2 0),(3,.B 3 0)],[(0,.box [.sl 5,.I vbk0_0_1_1,.I vbk0_0_2_1,.I vbk0_0_3_1,.I vbk0_0_4_1] 99),(2,.box [.I 0,.s (str []),.s (str []),.I 0] 76),(3,.box [.I j,.s st.1,.s st.2,.I 0] 76)],[(1,.sl rR4 p_.l'),(5,.sl rR4 vbk0_0_0_1)],6⟩) (fun st=>z184_k1 N vbk0_0_0_1 vbk0_0_1_1 vbk0_0_2_1 vbk0_0_3_1 vbk0_0_4_1 j st.1 st.2=some r) ?_ (fun j2=>?_)))
  ·rintro ⟨o,p⟩ h
   replace h:z184_k1 N vbk0_0_0_1 vbk0_0_1_1 vbk0_0_2_1 vbk0_0_3_1 vbk0_0_4_1 j o p=some r:=h
   unfold z184_k1 at h
   refine wO J 4 h fun q t h=>eCl (z90_ct N (⟨vbk0_0_0_1,vbk0_0_1_1,vbk0_0_2_1,vbk0_0_3_1,vbk0_0_4_1⟩:T19) (str [43]) _ t) [] [(0,.bp 0 0),(1,.sl 5)] ?_
   refine wB J 1 h (fun h=>?_) fun h=>?_
   ·refine wO J 3 h fun u v h=>eCl (z183_ct N q.2 _ v) [] [(0,.bp 0 0),(1,.sl 6)] ?_
    cases h
    exact wr J 8 func184 [(2,.sl 7)]
   refine wO J 4 h fun x y h=>eCl (z90_ct N q.2 (str [45]) _ y) [] [(0,.bp 0 0),(1,.sl 6)] ?_
   refine wB' J 1 h (fun h=>?_) fun h=>?_
   ·cases h
    exact wr J 7 func184 [(2,.sl 7)]
   refine wO J 3 h fun z A h=>eCl (z183_ct N x.2 _ A) [] [(0,.bp 0 0),(1,.sl 7)] ?_
   cases h
   exact wr J 9 func184 [(2,.sl 8)]
  refine eB' h (fun h=>wa J 2 (eSub [] (j2 ((str []),k) h))) fun h=>?_
  refine wO J 4 h fun C D h=>eSs J D ?_
  exact wO J 3 h fun G H h=>eSs J H (wa J 4 (eEnd (eSub [] (j2 (C,G) h))))
 refine eB' h (fun h=>?_) fun h=>?_
 ·exact wO J 3 h fun R T h=>eCl (z145_ct N x5.2 _ T) [] [(0,.bp 0 0),(1,.sl 4)] (wa J 2 (eSub [] (j1 (R.2.l',R.2.n',R.2.end',R.2.at',R.2.err',2,R.1) h)))
 refine wO J 9 h fun U X h=>eCl (z87_ct N x5.2 (str [40]) _ X) [] [(0,.bp 0 0),(1,.sl 4)] ?_
 refine wO J 4 h fun Y Z h=>eCl (z145_ct N U _ Z) [] [(0,.bp 0 0),(1,.sl 5)] ?_
 exact wO J 4 h fun a0 b0 h=>eCl (z87_ct N Y.2 (str [41]) _ b0) [] [(0,.bp 0 0),(1,.sl 6)] (wa J 1 (eSub [(5,.sl 7)] (j1 (a0.l',a0.n',a0.end',a0.at',a0.err',3,Y.1) h)))
theorem z103_ct (N:Nat) (r:(List ByteArray)) (h:z103 N=some r) :
 Fn Tryz.prog 103 ⟨0,[],[],[],1,.S 0,[],[(0,.own rS r true)]⟩:=by
 refine eFn func103 rfl (fun E F w=>?_)
 unfold z103 at h
 refine wa J 6 (eBs J [] oS ([(str [60]),(str [60,61]),(str [61,61]),(str [62,61]),(str [62])]:List ByteArray) ?_)
 cases h
 exact wr J 2 func103 [(0,.sl 0)]
theorem z147_ct (N:Nat) (p_:T19) (r:T14 × T19) (h:z147 N p_=some r) :
 Fn Tryz.prog 147 ⟨2,[.B 0 0],[(1,.sl rR4 p_.l')],[(0,.box (cC19 1 p_) 99)],3,.a [.I r.1.Left.Kind,.s r.1.Left.Message,.s r.1.Left.Field,.I r.1.Left.N,.s r.1.Op,.I r.1.Right.Kind,.s r.1.Right.Message,.s r.1.Right.Field,.I r.1.Right.N],[(2,.sl rR4 r.2.l')],[(0,.box (cC19 2 r.2) 99)]⟩:=by
 refine eFn func147 rfl (fun E F w=>?_)
 unfold z147 at h
 refine wO J 7 h fun x1 c h=>eCl (z184_ct N p_ _ c) [] [(0,.bp 0 0),(1,.sl 1)] ?_
 refine wO J 8 h fun x2 d h=>eCl (z143_ct N x1.2 _ d) [] [(0,.bp 0 0),(1,.sl 3)] ?_
 refine wB' J 9 h (fun h=>wa J 5 (eEnd ?_)) fun h=>?_
 ·refine wO J 3 h fun x8 e h=>eCl (z142_ct N x1.2 3 _ e) [] [(0,.bp 0 0),(1,.sl 3)] ?_
  refine wO J 4 h fun x9 f h=>eCl (z184_ct N x8 _ f) [] [(0,.bp 0 0),(1,.sl 6)] ?_
  cases h
  exact wr J 8 func147 [(2,.sl 7)]
 obtain ⟨x3,g,h⟩:=ob h
 refine eCl (z103_ct N _ g) [] [] ?_
 refine wO J 2 h fun x4 i h=>eCb (z54_ct N x3 x2.Text _ i) [] [(0,.sl 6)] [6] (.inr ⟨rfl,trivial⟩) (wa J 1 (eEnd ?_))
 refine eB h (fun h=>?_) fun h=>?_
 ·refine wO J 21 h fun x5 j h=>eCl (z184_ct N (⟨x1.2.l',(w64 (x1.2.n'+1)),x1.2.end',x1.2.at',x1.2.err'⟩:T19) _ j) [] [(0,.bp 0 0),(1,.sl 3)] ?_
  cases h
  exact wr J 8 func147 [(2,.sl 7)]
 refine wO J 3 h fun x6 k h=>eCl (z142_ct N x1.2 3 _ k) [] [(0,.bp 0 0),(1,.sl 3)] ?_
 refine wO J 4 h fun x7 l h=>eCl (z184_ct N x6 _ l) [] [(0,.bp 0 0),(1,.sl 7)] ?_
 cases h
 exact wr J 8 func147 [(2,.sl 8)]
theorem z91_ct (N:Nat) (p_:T19) (r:T16 × T19) (h:z91 N p_=some r) :
 Fn Tryz.prog 91 ⟨2,[.B 0 0],[(1,.sl rR4 p_.l')],[(0,.box (cC19 1 p_) 99)],5,.a [.s r.1.Name,.sl 2,.sl 3],(vV16 2 3 r.1 [(4,.sl rR4 r.2.l')]),[(0,.box (cC19 4 r.2) 99)]⟩:=by
 refine eFn func91 rfl (fun E F w=>?_)
 unfold z91 at h
 refine wO J 7 h fun x1 c h=>eCl (z145_ct N p_ _ c) [] [(0,.bp 0 0),(1,.sl 1)] ?_
 refine wO J 7 h fun x2 d h=>eCl (z87_ct N x1.2 (str [40]) _ d) [] [(0,.bp 0 0),(1,.sl 3)] ?_
 refine wO J 5 h fun x3 e h=>eCl (z90_ct N x2 (str [41]) _ e) [] [(0,.bp 0 0),(1,.sl 5)] (wa J 2 (eCut (σ:=(List T4) × Int × Int × Int × Int × (List T0)) (fun st=>⟨[(0,.B 0 0),(2,.B 2 0),(3,.B 4 0)],[(0,.box [.sl 7,.I st.2.1,.I st.2.2.1,.I st.2.2.2.1,.I st.2.2.2.2.1] 99),(2,.box [.s (str []),.nil,.nil] 32),(4,.box [.s x1.1,.sl 8,.nil] 32),(8,.own rR0 st.2.2.2.2.2 true)],[(1,.sl rR4 p_.l'),(7,.sl rR4 st.1)],9⟩) (fun st=>z91_k3 N x1 st.1 st.2.1 st.2.2.1 st.2.2.2.1 st.2.2.2.2.1 st.2.2.2.2.2=some r) ?_ (fun j1=>?_)))
 ·rintro ⟨vbk0_0_0_1,vbk0_0_1_1,vbk0_0_2_1,vbk0_0_3_1,vbk0_0_4_1,f⟩ h
  replace h:z91_k3 N x1 vbk0_0_0_1 vbk0_0_1_1 vbk0_0_2_1 vbk0_0_3_1 vbk0_0_4_1 f=some r:=h
  unfold z91_k3 at h
  refine wO J 4 h fun g i h=>eCl (z90_ct N (⟨vbk0_0_0_1,vbk0_0_1_1,vbk0_0_2_1,vbk0_0_3_1,vbk0_0_4_1⟩:T19) (str [119,104,101,114,101]) _ i) [] [(0,.bp 0 0),(1,.sl 7)] ?_
  refine wB' J 1 h (fun h=>?_) fun h=>?_
  ·refine wO J 5 h fun j k h=>eCl (z87_ct N g.2 (str [59]) _ k) [] [(0,.bp 0 0),(1,.sl 9)] (wa J 6 (eFr [8] ?_))
   cases h
   exact eRet J func91 [(2,.sl 8),(3,.nil),(4,.sl 10)]
  refine wO J 6 h fun l m h=>eCl (z147_ct N g.2 _ m) [] [(0,.bp 0 0),(1,.sl 9)] (eBs J [] oO14 ([l.1]:List T14) ?_)
  obtain ⟨o,p,h⟩:=ob h
  refine eAn J rR14 p (wa J 2 (eEnd (eCut (σ:=(List T4) × Int × Int × Int × Int × (List T14)) (fun st=>(zz13 st.2.1 st.2.2.1 st.2.2.2.1 st.2.2.2.2.1 x1.1 f st.2.2.2.2.2 p_.l' st.1 [(0,.B 0 0),(2,.B 2 0),(3,.B 4 0)])) (fun st=>z91_k1 N x1 f st.1 st.2.1 st.2.2.1 st.2.2.2.1 st.2.2.2.2.1 st.2.2.2.2.2=some r) ?_ (fun j5=>?_))))
  ·rintro ⟨vbk0_0_0_5,vbk0_0_1_5,vbk0_0_2_5,vbk0_0_3_5,vbk0_0_4_5,q⟩ h
   replace h:z91_k1 N x1 f vbk0_0_0_5 vbk0_0_1_5 vbk0_0_2_5 vbk0_0_3_5 vbk0_0_4_5 q=some r:=h
   unfold z91_k1 at h
   refine wO J 3 h fun t u h=>eCl (z87_ct N (⟨vbk0_0_0_5,vbk0_0_1_5,vbk0_0_2_5,vbk0_0_3_5,vbk0_0_4_5⟩:T19) (str [59]) _ u) [] [(0,.bp 0 0),(1,.sl 13)] (wa J 6 (eFr [8] (eFr [14] ?_)))
   cases h
   exact eRet J func91 [(2,.sl 8),(3,.sl 14),(4,.sl 15)]
  refine wa J 1 (eLoop (σ:=(List T4) × Int × Int × Int × Int × (List T14)) (fun st=>(zz13 st.2.1 st.2.2.1 st.2.2.2.1 st.2.2.2.2.1 x1.1 f st.2.2.2.2.2 p_.l' st.1 [(0,.B 0 0),(2,.B 2 0),(3,.B 4 0)])) (fun n st=>z91_l2 N x1 f n st.1 st.2.1 st.2.2.1 st.2.2.2.1 st.2.2.2.2.1 st.2.2.2.2.2) (r:=r) (fun _=>rfl) ?_ (fun ih=>?_))
  ·intro n4 ih7
   rintro ⟨vbk0_0_0_7,vbk0_0_1_7,vbk0_0_2_7,vbk0_0_3_7,vbk0_0_4_7,v⟩ h
   replace h:z91_l2 N x1 f (n4+1) vbk0_0_0_7 vbk0_0_1_7 vbk0_0_2_7 vbk0_0_3_7 vbk0_0_4_7 v=some r:=h
   unfold z91_l2 at h
   refine wO J 4 h fun x y h=>eCl (z90_ct N (⟨vbk0_0_0_7,vbk0_0_1_7,vbk0_0_2_7,vbk0_0_3_7,vbk0_0_4_7⟩:T19) (str [97,110,100]) _ y) [] [(0,.bp 0 0),(1,.sl 13)] ?_
   refine wB' J 1 h (fun h=>wa J 2 (eSub [(13,.sl 15)] (j5 (x.2.l',x.2.n',x.2.end',x.2.at',x.2.err',v) h))) fun h=>?_
   refine wO J 7 h fun z A h=>eCl (z147_ct N x.2 _ A) [] [(0,.bp 0 0),(1,.sl 15)] (eBs J [] oO14 ([z.1]:List T14) ?_)
   obtain ⟨C,D,h⟩:=ob h
   exact eAp J rR14 D (wa J 2 (eEnd (wa J 1 (eSub [(13,.sl 16),(14,.sl 18)] (ih7 (z.2.l',z.2.n',z.2.end',z.2.at',z.2.err',C) h)))))
  exact eSub [(13,.sl 10),(14,.sl 12)] (ih N (l.2.l',l.2.n',l.2.end',l.2.at',l.2.err',o) h)
 refine eB' h (fun h=>wa J 2 (eSub [(7,.sl 6),(8,.nil)] (j1 (x3.2.l',x3.2.n',x3.2.end',x3.2.at',x3.2.err',([]:List T0)) h))) fun h=>?_
 refine wO J 6 h fun G H h=>eCl (z146_ct N x3.2 _ H) [] [(0,.bp 0 0),(1,.sl 6)] (eBs J [] oO0 ([G.1]:List T0) ?_)
 obtain ⟨R,T,h⟩:=ob h
 refine eAn J rR0 T (wa J 2 (eEnd (wa J 1 (eCut (σ:=(List T4) × Int × Int × Int × Int × (List T0)) (fun st=>(zz14 st.2.1 st.2.2.1 st.2.2.2.1 st.2.2.2.2.1 x1.1 st.2.2.2.2.2 p_.l' st.1 [(0,.B 0 0),(2,.B 2 0),(3,.B 4 0)])) (fun st=>z91_k4 N x1 st.1 st.2.1 st.2.2.1 st.2.2.2.1 st.2.2.2.2.1 st.2.2.2.2.2=some r) ?_ (fun j8=>?_)))))
 ·rintro ⟨vbk0_0_0_8,vbk0_0_1_8,vbk0_0_2_8,vbk0_0_3_8,vbk0_0_4_8,U⟩ h
  replace h:z91_k4 N x1 vbk0_0_0_8 vbk0_0_1_8 vbk0_0_2_8 vbk0_0_3_8 vbk0_0_4_8 U=some r:=h
  unfold z91_k4 at h
  exact wO J 2 h fun X Y h=>eCl (z87_ct N (⟨vbk0_0_0_8,vbk0_0_1_8,vbk0_0_2_8,vbk0_0_3_8,vbk0_0_4_8⟩:T19) (str [41]) _ Y) [] [(0,.bp 0 0),(1,.sl 10)] (wa J 1 (eSub [(7,.sl 12),(8,.sl 11)] (j1 (X.l',X.n',X.end',X.at',X.err',U) h)))
 refine wa J 1 (eLoop (σ:=(List T4) × Int × Int × Int × Int × (List T0)) (fun st=>(zz14 st.2.1 st.2.2.1 st.2.2.2.1 st.2.2.2.2.1 x1.1 st.2.2.2.2.2 p_.l' st.1 [(0,.B 0 0),(2,.B 2 0),(3,.B 4 0)])) (fun n st=>z91_l5 N x1 n st.1 st.2.1 st.2.2.1 st.2.2.2.1 st.2.2.2.2.1 st.2.2.2.2.2) (r:=r) (fun _=>rfl) ?_ (fun ih=>?_))
 ·intro n6 ih10
  rintro ⟨vbk0_0_0_10,vbk0_0_1_10,vbk0_0_2_10,vbk0_0_3_10,vbk0_0_4_10,Z⟩ h
  replace h:z91_l5 N x1 (n6+1) vbk0_0_0_10 vbk0_0_1_10 vbk0_0_2_10 vbk0_0_3_10 vbk0_0_4_10 Z=some r:=h
  unfold z91_l5 at h
  refine wO J 4 h fun a0 b0 h=>eCl (z90_ct N (⟨vbk0_0_0_10,vbk0_0_1_10,vbk0_0_2_10,vbk0_0_3_10,vbk0_0_4_10⟩:T19) (str [44]) _ b0) [] [(0,.bp 0 0),(1,.sl 10)] ?_
  refine wB' J 1 h (fun h=>wa J 2 (eSub [(10,.sl 12)] (j8 (a0.2.l',a0.2.n',a0.2.end',a0.2.at',a0.2.err',Z) h))) fun h=>?_
  refine wO J 7 h fun c0 d0 h=>eCl (z146_ct N a0.2 _ d0) [] [(0,.bp 0 0),(1,.sl 12)] (eBs J [] oO0 ([c0.1]:List T0) ?_)
  obtain ⟨e0,f0,h⟩:=ob h
  exact eAp J rR0 f0 (wa J 2 (eEnd (wa J 1 (eSub [(10,.sl 13),(11,.sl 15)] (ih10 (c0.2.l',c0.2.n',c0.2.end',c0.2.at',c0.2.err',e0) h)))))
 exact eSub [(10,.sl 7),(11,.sl 9)] (ih N (G.2.l',G.2.n',G.2.end',G.2.at',G.2.err',R) h)
theorem z186_ct (N:Nat) (rc:T19→Option ((List T15) × T19)) (rc_Psyntax_parser_items_ct:(∀ (p_:T19) (r:(List T15) × T19),rc p_=some r→Fn Tryz.prog 92 ⟨2,[.B 0 0],[(1,.sl rR4 p_.l')],[(0,.box (cC19 1 p_) 99)],4,.S 2,[(3,.sl rR4 r.2.l')],[(2,.own rR15 r.1 true),(0,.box (cC19 3 r.2) 99)]⟩)) (p_:T19) (r:(List T15) × T19) (h:z186 N rc p_=some r) :
 Fn Tryz.prog 186 ⟨2,[.B 0 0],[(1,.sl rR4 p_.l')],[(0,.box (cC19 1 p_) 99)],4,.S 2,[(3,.sl rR4 r.2.l')],[(2,.own rR15 r.1 true),(0,.box (cC19 3 r.2) 99)]⟩:=by
 refine eFn func186 rfl (fun E F w=>?_)
 unfold z186 at h
 refine wO J 7 h fun x1 c h=>eCl (z87_ct N p_ (str [123]) _ c) [] [(0,.bp 0 0),(1,.sl 1)] ?_
 refine wO J 4 h fun x2 d h=>eCl (rc_Psyntax_parser_items_ct x1 _ d) [] [(0,.bp 0 0),(1,.sl 2)] ?_
 refine wO J 5 h fun x3 e h=>eCl (z87_ct N x2.2 (str [125]) _ e) [] [(0,.bp 0 0),(1,.sl 4)] ?_
 cases h
 exact wr J 6 func186 [(2,.sl 3),(3,.sl 5)]
theorem z185_ct (N:Nat) (rc:T19→Option ((List T15) × T19)) (rc_Psyntax_parser_items_ct:(∀ (p_:T19) (r:(List T15) × T19),rc p_=some r→Fn Tryz.prog 92 ⟨2,[.B 0 0],[(1,.sl rR4 p_.l')],[(0,.box (cC19 1 p_) 99)],4,.S 2,[(3,.sl rR4 r.2.l')],[(2,.own rR15 r.1 true),(0,.box (cC19 3 r.2) 99)]⟩)) (p_:T19) (r:T15 × T19) (h:z185 N rc p_=some r) :
 Fn Tryz.prog 185 ⟨2,[.B 0 0],[(1,.sl rR4 p_.l')],[(0,.box (cC19 1 p_) 99)],5,.a [.I r.1.Kind,.s r.1.From,.sl 2,.s r.1.Name,.s r.1.As,.I r.1.Ticks,.sl 3],[(2,.sl rS r.1.To),(3,.sl (rSl rR15) r.1.Blocks),(4,.sl rR4 r.2.l')],[(0,.box (cC19 4 r.2) 99)]⟩:=by
 refine eFn func185 rfl (fun E F w=>?_)
 unfold z185 at h
 refine wO J 7 h fun x1 c h=>eCl (z87_ct N p_ (str [97,116]) _ c) [] [(0,.bp 0 0),(1,.sl 1)] ?_
 refine wO J 4 h fun x2 d h=>eCl (z88_ct N x1 _ d) [] [(0,.bp 0 0),(1,.sl 3)] ?_
 refine wO J 8 h fun x3 e h=>eCl (z90_ct N x2.2 (str [119,105,116,104,105,110]) _ e) [] [(0,.bp 0 0),(1,.sl 4)] (wa J 1 (eCut (σ:=(List T4) × Int × Int × Int × Int × Int) (fun st=>⟨[(0,.B 0 0),(2,.B 2 0),(3,.B 5 0)],[(0,.box [.sl 7,.I st.2.1,.I st.2.2.1,.I st.2.2.2.1,.I st.2.2.2.2.1] 99),(2,.box [.I 0,.s (str []),.nil,.s (str []),.s (str []),.I 0,.nil] 27),(5,.box [.I 2,.s x2.1,.nil,.s (str []),.s (str []),.I st.2.2.2.2.2,.nil] 27)],[(1,.sl rR4 p_.l'),(7,.sl rR4 st.1)],8⟩) (fun st=>z185_k3 N rc x2 st.1 st.2.1 st.2.2.1 st.2.2.2.1 st.2.2.2.2.1 st.2.2.2.2.2=some r) ?_ (fun j1=>?_)))
 ·rintro ⟨vbk0_0_0_1,vbk0_0_1_1,vbk0_0_2_1,vbk0_0_3_1,vbk0_0_4_1,f⟩ h
  replace h:z185_k3 N rc x2 vbk0_0_0_1 vbk0_0_1_1 vbk0_0_2_1 vbk0_0_3_1 vbk0_0_4_1 f=some r:=h
  unfold z185_k3 at h
  refine wO J 3 h fun g i h=>eCl (z186_ct N rc rc_Psyntax_parser_items_ct (⟨vbk0_0_0_1,vbk0_0_1_1,vbk0_0_2_1,vbk0_0_3_1,vbk0_0_4_1⟩:T19) _ i) [] [(0,.bp 0 0),(1,.sl 7)] (eBs J [8] (oSl rR15) ([g.1]:List (List T15)) (wa J 4 (eCut (σ:=(List T4) × Int × Int × Int × Int × (List (List T15))) (fun st=>(zz15 st.2.1 st.2.2.1 st.2.2.2.1 st.2.2.2.2.1 x2.1 f st.2.2.2.2.2 p_.l' st.1 [(0,.B 0 0),(2,.B 2 0),(3,.B 5 0)])) (fun st=>z185_k1 N rc x2 f st.1 st.2.1 st.2.2.1 st.2.2.2.1 st.2.2.2.2.1 st.2.2.2.2.2=some r) ?_ (fun j2=>?_))))
  ·rintro ⟨vbk0_0_0_2,vbk0_0_1_2,vbk0_0_2_2,vbk0_0_3_2,vbk0_0_4_2,j⟩ h
   replace h:z185_k1 N rc x2 f vbk0_0_0_2 vbk0_0_1_2 vbk0_0_2_2 vbk0_0_3_2 vbk0_0_4_2 j=some r:=h
   unfold z185_k1 at h
   refine wB' J 7 h (fun h=>wa J 7 (eFr [12] ?_)) fun h=>?_
   ·cases h
    exact eRet J func185 [(2,.nil),(3,.sl 12),(4,.sl 11)]
   refine wO J 4 h fun k l h=>eCl (z87_ct N (⟨vbk0_0_0_2,vbk0_0_1_2,vbk0_0_2_2,vbk0_0_3_2,vbk0_0_4_2⟩:T19) (str [101,108,115,101]) _ l) [] [(0,.bp 0 0),(1,.sl 11)] ?_
   refine wO J 5 h fun m o h=>eCl (z186_ct N rc rc_Psyntax_parser_items_ct k _ o) [] [(0,.bp 0 0),(1,.sl 13)] (eBs J [14] (oSl rR15) ([m.1]:List (List T15)) ?_)
   obtain ⟨p,q,h⟩:=ob h
   refine eAp J (rSl rR15) q (wa J 2 (eEnd (wa J 5 (eFr [17] ?_))))
   cases h
   exact eRet J func185 [(2,.nil),(3,.sl 17),(4,.sl 15)]
  refine wa J 1 (eLoop (σ:=(List T4) × Int × Int × Int × Int × (List (List T15))) (fun st=>(zz15 st.2.1 st.2.2.1 st.2.2.2.1 st.2.2.2.2.1 x2.1 f st.2.2.2.2.2 p_.l' st.1 [(0,.B 0 0),(2,.B 2 0),(3,.B 5 0)])) (fun n st=>z185_l2 N rc x2 f n st.1 st.2.1 st.2.2.1 st.2.2.2.1 st.2.2.2.2.1 st.2.2.2.2.2) (r:=r) (fun _=>rfl) ?_ (fun ih=>?_))
  ·intro n2 ih4
   rintro ⟨vbk0_0_0_4,vbk0_0_1_4,vbk0_0_2_4,vbk0_0_3_4,vbk0_0_4_4,t⟩ h
   replace h:z185_l2 N rc x2 f (n2+1) vbk0_0_0_4 vbk0_0_1_4 vbk0_0_2_4 vbk0_0_3_4 vbk0_0_4_4 t=some r:=h
   unfold z185_l2 at h
   refine wO J 4 h fun u v h=>eCl (z90_ct N (⟨vbk0_0_0_4,vbk0_0_1_4,vbk0_0_2_4,vbk0_0_3_4,vbk0_0_4_4⟩:T19) (str [111,114]) _ v) [] [(0,.bp 0 0),(1,.sl 11)] ?_
   refine wB' J 1 h (fun h=>wa J 2 (eSub [(11,.sl 13)] (j2 (u.2.l',u.2.n',u.2.end',u.2.at',u.2.err',t) h))) fun h=>?_
   refine wO J 7 h fun x y h=>eCl (z186_ct N rc rc_Psyntax_parser_items_ct u.2 _ y) [] [(0,.bp 0 0),(1,.sl 13)] (eBs J [14] (oSl rR15) ([x.1]:List (List T15)) ?_)
   obtain ⟨z,A,h⟩:=ob h
   exact eAp J (rSl rR15) A (wa J 2 (eEnd (wa J 1 (eSub [(11,.sl 15),(12,.sl 17)] (ih4 (x.2.l',x.2.n',x.2.end',x.2.at',x.2.err',z) h)))))
  exact eSub [(11,.sl 9),(12,.sl 10)] (ih N (g.2.l',g.2.n',g.2.end',g.2.at',g.2.err',([g.1]:List (List T15))) h)
 refine eB' h (fun h=>wa J 2 (eSub [(7,.sl 6)] (j1 (x3.2.l',x3.2.n',x3.2.end',x3.2.at',x3.2.err',0) h))) fun h=>?_
 refine wO J 5 h fun C D h=>eCl (z143_ct N x3.2 _ D) [] [(0,.bp 0 0),(1,.sl 6)] ?_
 refine wB' J 9 h (fun h=>?_) fun h=>?_
 ·exact wO J 14 h fun G H h=>eCl (z183_ct N x3.2 _ H) [] [(0,.bp 0 0),(1,.sl 6)] (wa J 3 (eSub [(7,.sl 8)] (j1 (G.2.l',G.2.n',G.2.end',G.2.at',G.2.err',G.1) h)))
 refine wB J 4 h (fun h=>?_) fun h=>?_
 ·refine wO J 9 h fun R T h=>eCl (z142_ct N x3.2 2 _ T) [] [(0,.bp 0 0),(1,.sl 6)] ?_
  exact wO J 3 h fun U X h=>eCl (z183_ct N R _ X) [] [(0,.bp 0 0),(1,.sl 8)] (wa J 3 (eSub [(7,.sl 9)] (j1 (U.2.l',U.2.n',U.2.end',U.2.at',U.2.err',U.1) h)))
 refine wB' J 6 h (fun h=>?_) fun h=>?_
 ·exact wO J 4 h fun Y Z h=>eCl (z183_ct N x3.2 _ Z) [] [(0,.bp 0 0),(1,.sl 6)] (wa J 3 (eSub [(7,.sl 8)] (j1 (Y.2.l',Y.2.n',Y.2.end',Y.2.at',Y.2.err',Y.1) h)))
 refine wO J 3 h fun a0 b0 h=>eCl (z142_ct N x3.2 2 _ b0) [] [(0,.bp 0 0),(1,.sl 6)] ?_
 exact wO J 3 h fun c0 d0 h=>eCl (z183_ct N a0 _ d0) [] [(0,.bp 0 0),(1,.sl 8)] (wa J 3 (eSub [(7,.sl 9)] (j1 (c0.2.l',c0.2.n',c0.2.end',c0.2.at',c0.2.err',c0.1) h)))
theorem z148_ct (N:Nat) (rc:T19→Option ((List T15) × T19)) (rc_Psyntax_parser_items_ct:(∀ (p_:T19) (r:(List T15) × T19),rc p_=some r→Fn Tryz.prog 92 ⟨2,[.B 0 0],[(1,.sl rR4 p_.l')],[(0,.box (cC19 1 p_) 99)],4,.S 2,[(3,.sl rR4 r.2.l')],[(2,.own rR15 r.1 true),(0,.box (cC19 3 r.2) 99)]⟩)) (p_:T19) (r:T15 × T19) (h:z148 N rc p_=some r) :
 Fn Tryz.prog 148 ⟨2,[.B 0 0],[(1,.sl rR4 p_.l')],[(0,.box (cC19 1 p_) 99)],5,.a [.I r.1.Kind,.s r.1.From,.sl 2,.s r.1.Name,.s r.1.As,.I r.1.Ticks,.sl 3],[(2,.sl rS r.1.To),(3,.sl (rSl rR15) r.1.Blocks),(4,.sl rR4 r.2.l')],[(0,.box (cC19 4 r.2) 99)]⟩:=by
 refine eFn func148 rfl (fun E F w=>?_)
 unfold z148 at h
 refine wO J 9 h fun x1 c h=>eCl (z90_ct N p_ (str [99,104,111,105,99,101]) _ c) [] [(0,.bp 0 0),(1,.sl 1)] ?_
 refine wB J 2 h (fun h=>?_) fun h=>?_
 ·refine wO J 4 h fun x2 d h=>eCl (z185_ct N rc rc_Psyntax_parser_items_ct x1.2 _ d) [] [(0,.bp 0 0),(1,.sl 3)] ?_
  cases h
  exact wr J 2 func148 [(2,.sl 4),(3,.sl 5),(4,.sl 6)]
 refine wO J 4 h fun x3 e h=>eCl (z90_ct N x1.2 (str [108,111,111,112]) _ e) [] [(0,.bp 0 0),(1,.sl 3)] ?_
 refine wB J 2 h (fun h=>?_) fun h=>?_
 ·refine wO J 4 h fun x4 f h=>eCl (z145_ct N x3.2 _ f) [] [(0,.bp 0 0),(1,.sl 4)] ?_
  refine wO J 7 h fun x5 g h=>eCl (z186_ct N rc rc_Psyntax_parser_items_ct x4.2 _ g) [] [(0,.bp 0 0),(1,.sl 5)] (eBs J [7] (oSl rR15) ([x5.1]:List (List T15)) (wa J 8 (eFr [9] ?_)))
  cases h
  exact eRet J func148 [(2,.nil),(3,.sl 9),(4,.sl 8)]
 refine wO J 4 h fun x6 i h=>eCl (z90_ct N x3.2 (str [97,103,97,105,110]) _ i) [] [(0,.bp 0 0),(1,.sl 4)] ?_
 refine wB J 2 h (fun h=>?_) fun h=>?_
 ·refine wO J 4 h fun x7 j h=>eCl (z145_ct N x6.2 _ j) [] [(0,.bp 0 0),(1,.sl 5)] ?_
  refine wO J 7 h fun x8 k h=>eCl (z87_ct N x7.2 (str [59]) _ k) [] [(0,.bp 0 0),(1,.sl 6)] ?_
  cases h
  exact wr J 6 func148 [(2,.nil),(3,.nil),(4,.sl 8)]
 refine wO J 4 h fun x9 l h=>eCl (z90_ct N x6.2 (str [112,97,114]) _ l) [] [(0,.bp 0 0),(1,.sl 5)] ?_
 refine wB' J 2 h (fun h=>?_) fun h=>?_
 ·refine wO J 4 h fun m o h=>eCl (z90_ct N x9.2 (str [99,97,108,108]) _ o) [] [(0,.bp 0 0),(1,.sl 6)] ?_
  refine wB' J 2 h (fun h=>?_) fun h=>?_
  ·refine wO J 6 h fun p q h=>eCl (z88_ct N m.2 _ q) [] [(0,.bp 0 0),(1,.sl 7)] ?_
   refine wO J 7 h fun t u h=>eCl (z87_ct N p.2 (str [45,62]) _ u) [] [(0,.bp 0 0),(1,.sl 8)] ?_
   refine wO J 4 h fun v x h=>eCl (z89_ct N t _ x) [] [(0,.bp 0 0),(1,.sl 10)] ?_
   refine wO J 6 h fun y z h=>eCl (z87_ct N v.2 (str [58]) _ z) [] [(0,.bp 0 0),(1,.sl 12)] ?_
   refine wO J 4 h fun A C h=>eCl (z145_ct N y _ C) [] [(0,.bp 0 0),(1,.sl 13)] ?_
   refine wO J 6 h fun D G h=>eCl (z87_ct N A.2 (str [59]) _ G) [] [(0,.bp 0 0),(1,.sl 14)] (wa J 6 (eFr [11] ?_))
   cases h
   exact eRet J func148 [(2,.sl 11),(3,.nil),(4,.sl 15)]
  refine wO J 4 h fun H R h=>eCl (z88_ct N m.2 _ R) [] [(0,.bp 0 0),(1,.sl 7)] ?_
  refine wO J 7 h fun T U h=>eCl (z87_ct N H.2 (str [40]) _ U) [] [(0,.bp 0 0),(1,.sl 8)] ?_
  refine wO J 4 h fun X Y h=>eCl (z89_ct N T _ Y) [] [(0,.bp 0 0),(1,.sl 10)] ?_
  refine wO J 6 h fun Z a0 h=>eCl (z87_ct N X.2 (str [41]) _ a0) [] [(0,.bp 0 0),(1,.sl 12)] ?_
  refine wO J 4 h fun b0 c0 h=>eCl (z87_ct N Z (str [97,115]) _ c0) [] [(0,.bp 0 0),(1,.sl 13)] ?_
  refine wO J 4 h fun d0 e0 h=>eCl (z88_ct N b0 _ e0) [] [(0,.bp 0 0),(1,.sl 14)] ?_
  refine wO J 6 h fun f0 g0 h=>eCl (z87_ct N d0.2 (str [59]) _ g0) [] [(0,.bp 0 0),(1,.sl 15)] (wa J 6 (eFr [11] ?_))
  cases h
  exact eRet J func148 [(2,.sl 11),(3,.nil),(4,.sl 16)]
 refine wO J 4 h fun i0 j0 h=>eCl (z186_ct N rc rc_Psyntax_parser_items_ct x9.2 _ j0) [] [(0,.bp 0 0),(1,.sl 6)] (eBs J [7] (oSl rR15) ([i0.1]:List (List T15)) ?_)
 refine wO J 7 h fun k0 l0 h=>eCl (z87_ct N i0.2 (str [97,110,100]) _ l0) [] [(0,.bp 0 0),(1,.sl 8)] ?_
 refine wO J 6 h fun m0 o0 h=>eCl (z186_ct N rc rc_Psyntax_parser_items_ct k0 _ o0) [] [(0,.bp 0 0),(1,.sl 11)] (eBs J [12] (oSl rR15) ([m0.1]:List (List T15)) ?_)
 obtain ⟨p0,q0,h⟩:=ob h
 refine eAp J (rSl rR15) q0 (wa J 2 (eEnd (wa J 1 (eCut (σ:=(List T4) × Int × Int × Int × Int × (List (List T15))) (fun st=>(zz16 st.2.1 st.2.2.1 st.2.2.2.1 st.2.2.2.2.1 st.2.2.2.2.2 p_.l' st.1 [(2,.B 2 0),(5,.B 10 0)])) (fun st=>z148_k1 st.1 st.2.1 st.2.2.1 st.2.2.2.1 st.2.2.2.2.1 st.2.2.2.2.2=some r) ?_ (fun j1=>?_)))))
 ·rintro ⟨vbk0_0_0_1,vbk0_0_1_1,vbk0_0_2_1,vbk0_0_3_1,vbk0_0_4_1,s0⟩ h
  replace h:z148_k1 vbk0_0_0_1 vbk0_0_1_1 vbk0_0_2_1 vbk0_0_3_1 vbk0_0_4_1 s0=some r:=h
  unfold z148_k1 at h
  refine wa J 5 (eFr [17] ?_)
  cases h
  exact eRet J func148 [(2,.nil),(3,.sl 17),(4,.sl 16)]
 refine wa J 1 (eLoop (σ:=(List T4) × Int × Int × Int × Int × (List (List T15))) (fun st=>(zz16 st.2.1 st.2.2.1 st.2.2.2.1 st.2.2.2.2.1 st.2.2.2.2.2 p_.l' st.1 [(0,.B 0 0),(2,.B 2 0),(5,.B 10 0)])) (fun n st=>z148_l2 N rc n st.1 st.2.1 st.2.2.1 st.2.2.2.1 st.2.2.2.2.1 st.2.2.2.2.2) (r:=r) (fun _=>rfl) ?_ (fun ih=>?_))
 ·intro n2 ih3
  rintro ⟨vbk0_0_0_3,vbk0_0_1_3,vbk0_0_2_3,vbk0_0_3_3,vbk0_0_4_3,t0⟩ h
  replace h:z148_l2 N rc (n2+1) vbk0_0_0_3 vbk0_0_1_3 vbk0_0_2_3 vbk0_0_3_3 vbk0_0_4_3 t0=some r:=h
  unfold z148_l2 at h
  refine wO J 4 h fun u0 v0 h=>eCl (z90_ct N (⟨vbk0_0_0_3,vbk0_0_1_3,vbk0_0_2_3,vbk0_0_3_3,vbk0_0_4_3⟩:T19) (str [97,110,100]) _ v0) [] [(0,.bp 0 0),(1,.sl 16)] ?_
  refine wB' J 1 h (fun h=>wa J 2 (eSub [(16,.sl 18)] (j1 (u0.2.l',u0.2.n',u0.2.end',u0.2.at',u0.2.err',t0) h))) fun h=>?_
  refine wO J 7 h fun x0 y0 h=>eCl (z186_ct N rc rc_Psyntax_parser_items_ct u0.2 _ y0) [] [(0,.bp 0 0),(1,.sl 18)] (eBs J [19] (oSl rR15) ([x0.1]:List (List T15)) ?_)
  obtain ⟨z0,A0,h⟩:=ob h
  exact eAp J (rSl rR15) A0 (wa J 2 (eEnd (wa J 1 (eSub [(16,.sl 20),(17,.sl 22)] (ih3 (x0.2.l',x0.2.n',x0.2.end',x0.2.at',x0.2.err',z0) h)))))
 exact eSub [(16,.sl 13),(17,.sl 15)] (ih N (m0.2.l',m0.2.n',m0.2.end',m0.2.at',m0.2.err',p0) h)
theorem z92_b_ct (N:Nat) (rc:T19→Option ((List T15) × T19)) (rc_Psyntax_parser_items_ct:(∀ (p_:T19) (r:(List T15) × T19),rc p_=some r→Fn Tryz.prog 92 ⟨2,[.B 0 0],[(1,.sl rR4 p_.l')],[(0,.box (cC19 1 p_) 99)],4,.S 2,[(3,.sl rR4 r.2.l')],[(2,.own rR15 r.1 true),(0,.box (cC19 3 r.2) 99)]⟩)) (p_:T19) (r:(List T15) × T19) (h:z92_b N rc p_=some r) :
 Fn Tryz.prog 92 ⟨2,[.B 0 0],[(1,.sl rR4 p_.l')],[(0,.box (cC19 1 p_) 99)],4,.S 2,[(3,.sl rR4 r.2.l')],[(2,.own rR15 r.1 true),(0,.box (cC19 3 r.2) 99)]⟩:=by
 refine eFn func92 rfl (fun E F w=>?_)
 unfold z92_b at h
 refine wa J 9 (eLoop (σ:=(List T4) × Int × Int × Int × Int × (List T15)) (fun st=>⟨[(0,.B 0 0),(3,.S 3)],[(0,.box [.sl 2,.I st.2.1,.I st.2.2.1,.I st.2.2.2.1,.I st.2.2.2.2.1] 99),(3,.own rR15 st.2.2.2.2.2 true)],[(1,.sl rR4 p_.l'),(2,.sl rR4 st.1)],4⟩) (fun n st=>z92_l1 N rc n st.1 st.2.1 st.2.2.1 st.2.2.2.1 st.2.2.2.2.1 st.2.2.2.2.2) (r:=r) (fun _=>rfl) ?_ (fun ih=>?_))
 ·intro n1 ih1
  rintro ⟨vbk0_0_0_1,vbk0_0_1_1,vbk0_0_2_1,vbk0_0_3_1,vbk0_0_4_1,c⟩ h
  replace h:z92_l1 N rc (n1+1) vbk0_0_0_1 vbk0_0_1_1 vbk0_0_2_1 vbk0_0_3_1 vbk0_0_4_1 c=some r:=h
  unfold z92_l1 at h
  refine wO J 4 h fun d e h=>eCl (z143_ct N (⟨vbk0_0_0_1,vbk0_0_1_1,vbk0_0_2_1,vbk0_0_3_1,vbk0_0_4_1⟩:T19) _ e) [] [(0,.bp 0 0),(1,.sl 2)] ?_
  refine wB J 10 h (fun h=>?_) fun h=>?_
  ·cases h
   exact wr J 19 func92 [(2,.sl 3),(3,.sl 2)]
  refine wO J 2 h fun f g h=>eCl (z41_ct N d.Text _ g) [] [] ?_
  refine wB' J 2 h (fun h=>?_) fun h=>eBs J [] oS ([(str [99,104,111,105,99,101]),(str [108,111,111,112]),(str [97,103,97,105,110]),(str [112,97,114]),(str [99,97,108,108])]:List ByteArray) ?_
  ·refine wO J 13 h fun i j h=>eCl (z148_ct N rc rc_Psyntax_parser_items_ct (⟨vbk0_0_0_1,vbk0_0_1_1,vbk0_0_2_1,vbk0_0_3_1,vbk0_0_4_1⟩:T19) _ j) [] [(0,.bp 0 0),(1,.sl 2)] (eBs J [] oO15 ([i.1]:List T15) ?_)
   obtain ⟨k,l,h⟩:=ob h
   exact eAp J rR15 l (wa J 3 (eSub [(2,.sl 7),(3,.sl 9)] (ih1 (i.2.l',i.2.n',i.2.end',i.2.at',i.2.err',k) h)))
  refine wO J 2 h fun m o h=>eCb (z54_ct N ([(str [99,104,111,105,99,101]),(str [108,111,111,112]),(str [97,103,97,105,110]),(str [112,97,114]),(str [99,97,108,108])]:List ByteArray) d.Text _ o) [] [(0,.sl 5)] [5] (.inr ⟨rfl,trivial⟩) ?_
  refine wB J 4 h (fun h=>?_) fun h=>?_
  ·cases h
   exact wr J 6 func92 [(2,.sl 3),(3,.sl 2)]
  refine wO J 5 h fun p q h=>eCl (z148_ct N rc rc_Psyntax_parser_items_ct (⟨vbk0_0_0_1,vbk0_0_1_1,vbk0_0_2_1,vbk0_0_3_1,vbk0_0_4_1⟩:T19) _ q) [] [(0,.bp 0 0),(1,.sl 2)] (eBs J [] oO15 ([p.1]:List T15) ?_)
  obtain ⟨s,t,h⟩:=ob h
  exact eAp J rR15 t (wa J 3 (eSub [(2,.sl 8),(3,.sl 10)] (ih1 (p.2.l',p.2.n',p.2.end',p.2.at',p.2.err',s) h)))
 exact eSub [(2,.sl 1),(3,.nil)] (ih N (p_.l',p_.n',p_.end',p_.at',p_.err',([]:List T15)) h)
theorem z92_rct:∀ (N:Nat) (p_:T19) (r:(List T15) × T19) (h:z92_r N p_=some r),Fn Tryz.prog 92 ⟨2,[.B 0 0],[(1,.sl rR4 p_.l')],[(0,.box (cC19 1 p_) 99)],4,.S 2,[(3,.sl rR4 r.2.l')],[(2,.own rR15 r.1 true),(0,.box (cC19 3 r.2) 99)]⟩:=by
 intro N
 induction N with
 | zero=>intros;rename_i h;cases h
 | succ N ih=>intro p_ r h;exact z92_b_ct N (z92_r N) ih p_ r h
theorem z92_ct (N:Nat) (p_:T19) (r:(List T15) × T19) (h:z92 N p_=some r):Fn Tryz.prog 92 ⟨2,[.B 0 0],[(1,.sl rR4 p_.l')],[(0,.box (cC19 1 p_) 99)],4,.S 2,[(3,.sl rR4 r.2.l')],[(2,.own rR15 r.1 true),(0,.box (cC19 3 r.2) 99)]⟩:=z92_rct N p_ r h
theorem z33_ct (N:Nat) (p_:T19) (r:T17 × T19) (h:z33 N p_=some r) :
 Fn Tryz.prog 33 ⟨2,[.B 0 0],[(1,.sl rR4 p_.l')],[(0,.box (cC19 1 p_) 99)],6,.a [.s r.1.Name,.sl 2,.sl 3,.sl 4],(vV17 2 3 4 r.1 [(5,.sl rR4 r.2.l')]),[(0,.box (cC19 5 r.2) 99)]⟩:=by
 refine eFn func33 rfl (fun E F w=>?_)
 unfold z33 at h
 refine wO J 7 h fun x1 c h=>eCl (z87_ct N p_ (str [112,114,111,116,111,99,111,108]) _ c) [] [(0,.bp 0 0),(1,.sl 1)] ?_
 refine wO J 4 h fun x2 d h=>eCl (z88_ct N x1 _ d) [] [(0,.bp 0 0),(1,.sl 3)] ?_
 refine wO J 7 h fun x3 e h=>eCl (z87_ct N x2.2 (str [40]) _ e) [] [(0,.bp 0 0),(1,.sl 4)] ?_
 refine wO J 4 h fun x4 f h=>eCl (z89_ct N x3 _ f) [] [(0,.bp 0 0),(1,.sl 6)] ?_
 refine wO J 6 h fun x5 g h=>eCl (z87_ct N x4.2 (str [41]) _ g) [] [(0,.bp 0 0),(1,.sl 8)] ?_
 refine wO J 4 h fun x6 i h=>eCl (z87_ct N x5 (str [123]) _ i) [] [(0,.bp 0 0),(1,.sl 9)] (wa J 2 (eCut (σ:=(List T4) × Int × Int × Int × Int × (List T16)) (fun st=>(zz17 st.2.1 st.2.2.1 st.2.2.2.1 st.2.2.2.2.1 x2.1 x4.1 st.2.2.2.2.2 p_.l' st.1 [(0,.B 0 0),(2,.B 2 0),(3,.B 5 0)])) (fun st=>z33_k1 N x2 x4 st.1 st.2.1 st.2.2.1 st.2.2.2.1 st.2.2.2.2.1 st.2.2.2.2.2=some r) ?_ (fun j1=>?_)))
 ·rintro ⟨vbk0_0_0_1,vbk0_0_1_1,vbk0_0_2_1,vbk0_0_3_1,vbk0_0_4_1,j⟩ h
  replace h:z33_k1 N x2 x4 vbk0_0_0_1 vbk0_0_1_1 vbk0_0_2_1 vbk0_0_3_1 vbk0_0_4_1 j=some r:=h
  unfold z33_k1 at h
  refine wO J 3 h fun k l h=>eCl (z92_ct N (⟨vbk0_0_0_1,vbk0_0_1_1,vbk0_0_2_1,vbk0_0_3_1,vbk0_0_4_1⟩:T19) _ l) [] [(0,.bp 0 0),(1,.sl 11)] ?_
  refine wO J 6 h fun m o h=>eCl (z87_ct N k.2 (str [125]) _ o) [] [(0,.bp 0 0),(1,.sl 14)] (wa J 6 (eFr [7] (eFr [12] (eFr [13] ?_))))
  cases h
  exact eRet J func33 [(2,.sl 7),(3,.sl 12),(4,.sl 13),(5,.sl 15)]
 refine wa J 1 (eLoop (σ:=(List T4) × Int × Int × Int × Int × (List T16)) (fun st=>(zz17 st.2.1 st.2.2.1 st.2.2.2.1 st.2.2.2.2.1 x2.1 x4.1 st.2.2.2.2.2 p_.l' st.1 [(0,.B 0 0),(2,.B 2 0),(3,.B 5 0)])) (fun n st=>z33_l2 N x2 x4 n st.1 st.2.1 st.2.2.1 st.2.2.2.1 st.2.2.2.2.1 st.2.2.2.2.2) (r:=r) (fun _=>rfl) ?_ (fun ih=>?_))
 ·intro n2 ih3
  rintro ⟨vbk0_0_0_3,vbk0_0_1_3,vbk0_0_2_3,vbk0_0_3_3,vbk0_0_4_3,p⟩ h
  replace h:z33_l2 N x2 x4 (n2+1) vbk0_0_0_3 vbk0_0_1_3 vbk0_0_2_3 vbk0_0_3_3 vbk0_0_4_3 p=some r:=h
  unfold z33_l2 at h
  refine wO J 4 h fun q t h=>eCl (z90_ct N (⟨vbk0_0_0_3,vbk0_0_1_3,vbk0_0_2_3,vbk0_0_3_3,vbk0_0_4_3⟩:T19) (str [109,101,115,115,97,103,101]) _ t) [] [(0,.bp 0 0),(1,.sl 11)] ?_
  refine wB' J 1 h (fun h=>wa J 2 (eSub [(11,.sl 13)] (j1 (q.2.l',q.2.n',q.2.end',q.2.at',q.2.err',p) h))) fun h=>?_
  refine wO J 7 h fun u v h=>eCl (z91_ct N q.2 _ v) [] [(0,.bp 0 0),(1,.sl 13)] (eBs J [] oO16 ([u.1]:List T16) ?_)
  obtain ⟨x,y,h⟩:=ob h
  exact eAp J rR16 y (wa J 2 (eEnd (wa J 1 (eSub [(11,.sl 16),(12,.sl 18)] (ih3 (u.2.l',u.2.n',u.2.end',u.2.at',u.2.err',x) h)))))
 exact eSub [(11,.sl 10),(12,.nil)] (ih N (x6.l',x6.n',x6.end',x6.at',x6.err',([]:List T16)) h)
theorem z99_ct (N:Nat) (w_:ByteArray) (r:Bool) (h:z99 N w_=some r) :
 Fn Tryz.prog 99 ⟨0,[.c (.s w_)],[],[],0,.O r,[],[]⟩:=by
 refine eFn func99 rfl (fun E F w=>?_)
 unfold z99 at h
 refine wO J 7 h fun x1 d h=>eCl (z41_ct N w_ _ d) [] [] ?_
 cases h
 exact wr J 3 func99 []
theorem z131_2_ct (N:Nat) (s_:(List ByteArray)) (r:Int) (h:z131_2 N s_=some r) :
 Fn Tryz.prog 131 ⟨1,[.S 0,.c (.cl 99 [] [])],[(0,.sl rS s_)],[],1,.I r,[],[]⟩:=by
 refine eFn func131 rfl (fun E F w=>?_)
 unfold z131_2 at h
 refine wa J 11 (eCut (σ:=Unit) (fun st=>(zz2 s_ [])) (fun st=>z131_2_k1=some r) ?_ (fun j1=>?_))
 ·intro _ h
  replace h:z131_2_k1=some r:=h
  unfold z131_2_k1 at h
  cases h
  exact wr J 4 func131 []
 refine wa J 1 (eLoop (σ:=Int) (fun st=>(zz2 s_ [(0,.S 0),(1,.c (.cl 99 [] [])),(7,.I (s_.length:Int)),(8,.I st)])) (fun n st=>z131_2_l2 N s_ n st) (r:=r) (fun _=>rfl) ?_ (fun ih=>?_))
 ·intro n2 ih3
  intro d h
  replace h:z131_2_l2 N s_ (n2+1) d=some r:=h
  unfold z131_2_l2 at h
  refine wB' J 5 h (fun h=>wa J 2 (eSub [] (j1 () h))) fun h=>?_
  refine wO J 14 h fun e f h=>eIx J oS f ?_
  refine wO J 1 h fun g i h=>eCl (z99_ct N e _ i) [] [] ?_
  refine wB J 1 h (fun h=>?_) fun h=>wa J 7 (eSub [] (ih3 (w64 (d+1)) h))
  cases h
  exact wr J 6 func131 []
 exact eSub [] (ih N 0 h)
theorem z98_3_ct (N:Nat) (s_:(List ByteArray)) (r:Bool) (h:z98_3 N s_=some r) :
 Fn Tryz.prog 98 ⟨1,[.S 0,.c (.cl 99 [] [])],[(0,.sl rS s_)],[],1,.O r,[],[]⟩:=by
 refine eFn func98 rfl (fun E F w=>?_)
 unfold z98_3 at h
 refine wO J 8 h fun x1 d h=>eCl (z131_2_ct N s_ _ d) [] [(0,.sl 0)] ?_
 cases h
 exact wr J 3 func98 []
theorem z42_ct (N:Nat) (l_:(List ByteArray)) (most_:Int) (r:Bool) (h:z42 N l_ most_=some r) :
 Fn Tryz.prog 42 ⟨1,[.S 0,.I most_],[(0,.sl rS l_)],[],1,.O r,[],[]⟩:=by
 refine eFn func42 rfl (fun E F w=>?_)
 unfold z42 at h
 refine wB' J 10 h (fun h=>?_) fun h=>?_
 ·cases h
  exact wr J 12 func42 []
 refine wB' J 6 h (fun h=>?_) fun h=>?_
 ·cases h
  exact wr J 6 func42 []
 refine wO J 1 h fun x1 c h=>eCl (z98_3_ct N l_ _ c) [] [(0,.sl 0)] ?_
 cases h
 exact wr J 4 func42 []
theorem z223_ct (N:Nat) (s_:ByteArray) (r:Int) (h:z223 N s_=some r) :
 Fn Tryz.prog 223 ⟨0,[.c (.s s_)],[],[],0,.I r,[],[]⟩:=by
 refine eFn func223 rfl (fun E F w=>?_)
 unfold z223 at h
 refine wa J 8 (eRn J (fun bk1=>wa J 1 (eCut (σ:=Int × Nat) (fun st=>⟨[(2,.I st.1)],[(0,.abs (itR bk1 s_ st.2))],[],1⟩) (fun st=>z223_k1 st.1 st.2=some r) ?_ (fun j1=>?_))))
 ·rintro ⟨d,vi0_1⟩ h
  replace h:z223_k1 d vi0_1=some r:=h
  unfold z223_k1 at h
  cases h
  exact wr J 5 func223 []
 refine wa J 1 (eLoop (σ:=Int × Nat) (fun st=>⟨[(2,.I st.1),(4,.c (.v (.pointer (some ⟨bk1,0,none⟩))))],[(0,.abs (itR bk1 s_ st.2))],[],1⟩) (fun n st=>z223_l2 s_ n st.1 st.2) (r:=r) (fun _=>rfl) ?_ (fun ih=>?_))
 ·intro n2 ih3
  rintro ⟨e,vi0_3⟩ h
  replace h:z223_l2 s_ (n2+1) e vi0_3=some r:=h
  unfold z223_l2 at h
  obtain ⟨K,h⟩|⟨K,h⟩:=oc h
  ·exact wa J 2 (eNt bk1 0 K (wa J 12 (eSub [] (ih3 ((w64 (e+1)),(vi0_3+(Utf8.decode s_ vi0_3).2)) h))))
  exact wa J 2 (eNf bk1 0 K (wa J 5 (eSub [] (j1 (e,vi0_3) h))))
 exact eSub [] (ih N (0,(0:Nat)) h)
theorem z232_ct (N:Nat) (s_:ByteArray) (r:Int × Int) (h:z232 N s_=some r) :
 Fn Tryz.prog 232 ⟨0,[.c (.s s_)],[],[],0,.t [.inl (.i .i32 r.1),.inl (.I r.2)],[],[]⟩:=by
 refine eFn func232 rfl (fun E F w=>?_)
 unfold z232 at h
 refine wB J 17 h (fun h=>?_) fun h=>?_
 ·cases h
  exact wr J 6 func232 []
 refine wO J 5 h fun x1 d h=>eSx J d ?_
 cases h
theorem z224_ct (N:Nat) (s_:ByteArray) (r:Int × Int) (h:z224 N s_=some r) :
 Fn Tryz.prog 224 ⟨0,[.c (.s s_)],[],[],0,.t [.inl (.i .i32 r.1),.inl (.I r.2)],[],[]⟩:=by
 refine eFn func224 rfl (fun E F w=>?_)
 unfold z224 at h
 refine wB' J 11 h (fun h=>?_) fun h=>?_
 ·refine wO J 8 h fun x4 d h=>eCl (z232_ct N s_ _ d) [] [] ?_
  cases h
  exact wr J 6 func224 []
 refine wO J 1 h fun x1 e h=>eSx J e ?_
 refine wB J 3 h (fun h=>?_) fun h=>?_
 ·refine wO J 4 h fun x2 f h=>eSx J f ?_
  cases h
  exact wr J 4 func224 []
 refine wO J 3 h fun x3 g h=>eCl (z232_ct N s_ _ g) [] [] ?_
 cases h
 exact wr J 6 func224 []
theorem z211_ct (N:Nat) (s_:ByteArray) (n_:Int) (r:(List ByteArray)) (h:z211 N s_ n_=some r) :
 Fn Tryz.prog 211 ⟨0,[.c (.s s_),.I n_],[],[],1,.S 0,[],[(0,.own rS r true)]⟩:=by
 refine eFn func211 rfl (fun E F w=>?_)
 unfold z211 at h
 refine wO J 7 h fun x1 d h=>eCl (z223_ct N s_ _ d) [] [] ?_
 refine wa J 8 (eCut (σ:=Bool) (fun st=>(zz0 [(0,.c (.s s_)),(1,.I n_),(5,.I x1),(18,.O st)])) (fun st=>z211_k4 N s_ n_ x1 st=some r) ?_ (fun j1=>?_))
 ·intro e h
  replace h:z211_k4 N s_ n_ x1 e=some r:=h
  unfold z211_k4 at h
  refine eCut (σ:=Int) (fun st=>(zz0 [(0,.c (.s s_)),(1,.I st)])) (fun st=>z211_k3 N s_ st=some r) ?_ (fun j2=>?_)
  ·intro f h
   replace h:z211_k3 N s_ f=some r:=h
   unfold z211_k3 at h
   refine wO J 3 h fun x2 g h=>eMk J oS g (wa J 7 (eCut (σ:=ByteArray × (List ByteArray)) (fun st=>(zz5 st.2 [(0,.c (.s st.1)),(1,.I f),(6,.S 0)])) (fun st=>z211_k1 f st.1 st.2=some r) ?_ (fun j3=>?_)))
   ·rintro ⟨i,j⟩ h
    replace h:z211_k1 f i j=some r:=h
    unfold z211_k1 at h
    refine wB' J 6 h (fun h=>?_) fun h=>?_
    ·cases h
     exact wr J 7 func211 [(0,.sl 0)]
    refine wO J 6 h fun k l h=>eIo J rS l (eSt J [] oS i l ?_)
    cases h
    exact wr J 6 func211 [(0,.sl 0)]
   refine wa J 1 (eLoop (σ:=ByteArray × (List ByteArray) × Int) (fun st=>(zz5 st.2.1 [(0,.c (.s st.1)),(1,.I f),(6,.S 0),(7,.I st.2.2)])) (fun n st=>z211_l2 N f n st.1 st.2.1 st.2.2) (r:=r) (fun _=>rfl) ?_ (fun ih=>?_))
   ·intro n2 ih5
    rintro ⟨m,o,p⟩ h
    replace h:z211_l2 N f (n2+1) m o p=some r:=h
    unfold z211_l2 at h
    refine wB' J 8 h (fun h=>wa J 2 (eSub [] (j3 (m,o) h))) fun h=>?_
    refine wO J 7 h fun q t h=>eCl (z224_ct N m _ t) [] [] ?_
    refine wO J 12 h fun u v h=>eSs J v ?_
    obtain ⟨x,y,h⟩:=ob h
    refine eIo J rS y (eSt J [] oS u y ?_)
    exact wO J 4 h fun z A h=>eSs J A (wa J 8 (eSub [] (ih5 (z,(setL' o p u),(w64 (p+1))) h)))
   exact eSub [] (ih N (s_,x2,0) h)
  exact eB h (fun h=>wa J 5 (eSub [] (j2 x1 h))) fun h=>wa J 2 (eSub [] (j2 n_ h))
 exact eB h (fun h=>wa J 5 (eSub [] (j1 true h))) fun h=>wa J 5 (eSub [] (j1 (decide (n_ > x1)) h))
theorem z212_ct (N:Nat) (s_:ByteArray) (substr_:ByteArray) (r:Int) (h:z212 N s_ substr_=some r) :
 Fn Tryz.prog 212 ⟨0,[.c (.s s_),.c (.s substr_)],[],[],0,.I r,[],[]⟩:=by
 refine eFn func212 rfl (fun E F w=>?_)
 unfold z212 at h
 refine wB J 11 h (fun h=>?_) fun h=>?_
 ·refine wO J 4 h fun x1 d h=>eCl (z223_ct N s_ _ d) [] [] ?_
  cases h
  exact wr J 3 func212 []
 refine wB J 9 h (fun h=>?_) fun h=>wa J 7 (eLoop (σ:=ByteArray × Int) (fun st=>(zz0 [(0,.c (.s st.1)),(1,.c (.s substr_)),(5,.I st.2)])) (fun n st=>z212_l1 N substr_ n st.1 st.2) (r:=r) (fun _=>rfl) ?_ (fun ih=>?_))
 ·refine wO J 5 h fun x2 e h=>eSx J e (eEx (ext_countByte func225 (by kernel_rfl) (by kernel_rfl) (by kernel_rfl) (by kernel_rfl) s_ x2) (fun _=>trivial) ?_)
  cases h
  exact wr J 2 func212 []
 ·intro n1 ih1
  rintro ⟨f,g⟩ h
  replace h:z212_l1 N substr_ (n1+1) f g=some r:=h
  unfold z212_l1 at h
  refine wO J 5 h fun i j h=>eCl (z181_ct N f substr_ _ j) [] [] ?_
  refine wB J 8 h (fun h=>?_) fun h=>?_
  ·cases h
   exact wr J 6 func212 []
  exact wO J 14 h fun k l h=>eSs J l (wa J 3 (eSub [] (ih1 (k,(w64 (g+1))) h)))
 exact eSub [] (ih N (s_,0) h)
theorem z187_ct (N:Nat) (s_:ByteArray) (sep_:ByteArray) (sepSave_:Int) (n_:Int) (r:(List ByteArray)) (h:z187 N s_ sep_ sepSave_ n_=some r) :
 Fn Tryz.prog 187 ⟨0,[.c (.s s_),.c (.s sep_),.I sepSave_,.I n_],[],[],1,.S 0,[],[(0,.own rS r true)]⟩:=by
 refine eFn func187 rfl (fun E F w=>?_)
 unfold z187 at h
 refine wB J 10 h (fun h=>?_) fun h=>?_
 ·cases h
  exact wr J 5 func187 [(0,.nil)]
 refine wB J 8 h (fun h=>?_) fun h=>wa J 8 (eCut (σ:=Int) (fun st=>(zz0 [(0,.c (.s s_)),(1,.c (.s sep_)),(2,.I sepSave_),(3,.I st)])) (fun st=>z187_k3 N s_ sep_ sepSave_ st=some r) ?_ (fun j1=>?_))
 ·refine wO J 5 h fun x1 d h=>eCl (z211_ct N s_ n_ _ d) [] [] ?_
  cases h
  exact wr J 2 func187 [(0,.sl 0)]
 ·intro e h
  replace h:z187_k3 N s_ sep_ sepSave_ e=some r:=h
  unfold z187_k3 at h
  refine wO J 12 h fun x3 f h=>eMk J oS f (wa J 13 (eCut (σ:=ByteArray × (List ByteArray) × Int) (fun st=>(zz5 st.2.1 [(0,.c (.s st.1)),(9,.S 0),(10,.I st.2.2)])) (fun st=>z187_k1 st.1 st.2.1 st.2.2=some r) ?_ (fun j2=>?_)))
  ·rintro ⟨g,i,j⟩ h
   replace h:z187_k1 g i j=some r:=h
   unfold z187_k1 at h
   refine wO J 5 h fun k l h=>eIo J rS l (eSt J [] oS g l ?_)
   refine wO J 6 h fun m o h=>eVw J rS o (wa J 2 (eSl rS 2 o ?_))
   cases h
   exact eRet J func187 [(0,.sl 2)]
  refine wa J 1 (eLoop (σ:=ByteArray × (List ByteArray) × Int) (fun st=>(zz5 st.2.1 [(0,.c (.s st.1)),(1,.c (.s sep_)),(2,.I sepSave_),(3,.I (w64 ((minI e (w64 ((s_.size:Int)+1)))-1))),(9,.S 0),(10,.I st.2.2)])) (fun n st=>z187_l2 N s_ sep_ sepSave_ e n st.1 st.2.1 st.2.2) (r:=r) (fun _=>rfl) ?_ (fun ih=>?_))
  ·intro n2 ih4
   rintro ⟨p,q,t⟩ h
   replace h:z187_l2 N s_ sep_ sepSave_ e (n2+1) p q t=some r:=h
   unfold z187_l2 at h
   refine wB' J 7 h (fun h=>wa J 2 (eSub [] (j2 (p,q,t) h))) fun h=>?_
   refine wO J 7 h fun u v h=>eCl (z181_ct N p sep_ _ v) [] [] ?_
   refine wB J 8 h (fun h=>wa J 2 (eSub [] (j2 (p,q,t) h))) fun h=>?_
   refine wO J 10 h fun x y h=>eSs J y ?_
   obtain ⟨z,A,h⟩:=ob h
   refine eIo J rS A (eSt J [] oS x A ?_)
   exact wO J 8 h fun C D h=>eSs J D (wa J 8 (eSub [] (ih4 (C,(setL' q t x),(w64 (t+1))) h)))
  exact eSub [] (ih N (s_,x3,0) h)
 refine eB' h (fun h=>wa J 2 (eSub [] (j1 n_ h))) fun h=>?_
 exact wO J 4 h fun G H h=>eCl (z212_ct N s_ sep_ _ H) [] [] (wa J 3 (eSub [] (j1 (w64 (G+1)) h)))
theorem z149_ct (N:Nat) (s_:ByteArray) (sep_:ByteArray) (r:(List ByteArray)) (h:z149 N s_ sep_=some r) :
 Fn Tryz.prog 149 ⟨0,[.c (.s s_),.c (.s sep_)],[],[],1,.S 0,[],[(0,.own rS r true)]⟩:=by
 refine eFn func149 rfl (fun E F w=>?_)
 unfold z149 at h
 refine wO J 8 h fun x1 d h=>eCl (z187_ct N s_ sep_ 0 (-1) _ d) [] [] ?_
 cases h
 exact wr J 2 func149 [(0,.sl 0)]
theorem z150_ct (N:Nat) (w_:ByteArray) (r:Bool) (h:z150 N w_=some r) :
 Fn Tryz.prog 150 ⟨0,[.c (.s w_)],[],[],0,.O r,[],[]⟩:=by
 refine eFn func150 rfl (fun E F w=>?_)
 unfold z150 at h
 refine wO J 7 h fun x1 d h=>eCl (z41_ct N w_ _ d) [] [] ?_
 cases h
 exact wr J 3 func150 []
theorem z131_4_ct (N:Nat) (s_:(List ByteArray)) (r:Int) (h:z131_4 N s_=some r) :
 Fn Tryz.prog 131 ⟨1,[.S 0,.c (.cl 150 [] [])],[(0,.sl rS s_)],[],1,.I r,[],[]⟩:=by
 refine eFn func131 rfl (fun E F w=>?_)
 unfold z131_4 at h
 refine wa J 11 (eCut (σ:=Unit) (fun st=>(zz2 s_ [])) (fun st=>z131_4_k1=some r) ?_ (fun j1=>?_))
 ·intro _ h
  replace h:z131_4_k1=some r:=h
  unfold z131_4_k1 at h
  cases h
  exact wr J 4 func131 []
 refine wa J 1 (eLoop (σ:=Int) (fun st=>(zz2 s_ [(0,.S 0),(1,.c (.cl 150 [] [])),(7,.I (s_.length:Int)),(8,.I st)])) (fun n st=>z131_4_l2 N s_ n st) (r:=r) (fun _=>rfl) ?_ (fun ih=>?_))
 ·intro n2 ih3
  intro d h
  replace h:z131_4_l2 N s_ (n2+1) d=some r:=h
  unfold z131_4_l2 at h
  refine wB' J 5 h (fun h=>wa J 2 (eSub [] (j1 () h))) fun h=>?_
  refine wO J 14 h fun e f h=>eIx J oS f ?_
  refine wO J 1 h fun g i h=>eCl (z150_ct N e _ i) [] [] ?_
  refine wB J 1 h (fun h=>?_) fun h=>wa J 7 (eSub [] (ih3 (w64 (d+1)) h))
  cases h
  exact wr J 6 func131 []
 exact eSub [] (ih N 0 h)
theorem z98_5_ct (N:Nat) (s_:(List ByteArray)) (r:Bool) (h:z98_5 N s_=some r) :
 Fn Tryz.prog 98 ⟨1,[.S 0,.c (.cl 150 [] [])],[(0,.sl rS s_)],[],1,.O r,[],[]⟩:=by
 refine eFn func98 rfl (fun E F w=>?_)
 unfold z98_5 at h
 refine wO J 8 h fun x1 d h=>eCl (z131_4_ct N s_ _ d) [] [(0,.sl 0)] ?_
 cases h
 exact wr J 3 func98 []
theorem z101_ct (N:Nat) (s_:ByteArray) (r:Bool) (h:z101 N s_=some r) :
 Fn Tryz.prog 101 ⟨0,[.c (.s s_)],[],[],0,.O r,[],[]⟩:=by
 refine eFn func101 rfl (fun E F w=>?_)
 unfold z101 at h
 refine wB' J 10 h (fun h=>?_) fun h=>?_
 ·cases h
  exact wr J 7 func101 []
 refine wO J 1 h fun x1 d h=>eCl (z149_ct N s_ (str [46]) _ d) [] [] ?_
 obtain ⟨x2,e,h⟩:=ob h
 refine eCb (z98_5_ct N x1 _ e) [] [(0,.sl 0)] [0] (.inr ⟨rfl,trivial⟩) ?_
 cases h
 exact wr J 4 func101 []
theorem z100_ct (N:Nat) (x_:T15) (r:Bool) (h:z100 N x_=some r) :
 Fn Tryz.prog 100 ⟨2,[.a [.I x_.Kind,.s x_.From,.sl 0,.s x_.Name,.s x_.As,.I x_.Ticks,.sl 1]],[(0,.sl rS x_.To),(1,.sl (rSl rR15) x_.Blocks)],[],2,.O r,[],[]⟩:=by
 refine eFn func100 rfl (fun E F w=>?_)
 unfold z100 at h
 refine wB J 24 h (fun h=>?_) fun h=>?_
 ·refine wO J 5 h fun x1 c h=>eCl (z41_ct N x_.From _ c) [] [] ?_
  refine wB' J 1 h (fun h=>?_) fun h=>?_
  ·cases h
   exact wr J 25 func100 []
  refine wO J 2 h fun x2 d h=>eCl (z42_ct N x_.To 5 _ d) [] [(0,.sl 0)] ?_
  refine wB' J 2 h (fun h=>?_) fun h=>?_
  ·cases h
   exact wr J 20 func100 []
  refine wO J 2 h fun x3 e h=>eCl (z101_ct N x_.Name _ e) [] [] ?_
  refine wB' J 2 h (fun h=>?_) fun h=>?_
  ·cases h
   exact wr J 15 func100 []
  refine wB' J 5 h (fun h=>?_) fun h=>?_
  ·cases h
   exact wr J 10 func100 []
  refine wB J 5 h (fun h=>?_) fun h=>?_
  ·cases h
   exact wr J 5 func100 []
  cases h
  exact wr J 5 func100 []
 refine wB J 6 h (fun h=>?_) fun h=>wa J 7 (eCut (σ:=Bool) (fun st=>⟨[(1,.B 2 0),(3,.I (x_.Blocks.length:Int)),(8,.I x_.Kind),(81,.O st)],[(2,.box [.I x_.Kind,.s x_.From,.sl 0,.s x_.Name,.s x_.As,.I x_.Ticks,.sl 1] 27)],[(0,.sl rS x_.To),(1,.sl (rSl rR15) x_.Blocks)],3⟩) (fun st=>z100_k1 N x_ st=some r) ?_ (fun j1=>?_))
 ·refine wO J 5 h fun x4 f h=>eCl (z41_ct N x_.From _ f) [] [] ?_
  refine wB' J 1 h (fun h=>?_) fun h=>?_
  ·cases h
   exact wr J 39 func100 []
  refine wB' J 6 h (fun h=>?_) fun h=>?_
  ·cases h
   exact wr J 33 func100 []
  refine wB' J 5 h (fun h=>?_) fun h=>?_
  ·cases h
   exact wr J 28 func100 []
  refine wB' J 5 h (fun h=>?_) fun h=>?_
  ·cases h
   exact wr J 23 func100 []
  refine wB' J 5 h (fun h=>?_) fun h=>?_
  ·cases h
   exact wr J 18 func100 []
  refine wB' J 5 h (fun h=>?_) fun h=>?_
  ·cases h
   exact wr J 13 func100 []
  refine wB J 8 h (fun h=>?_) fun h=>?_
  ·cases h
   exact wr J 5 func100 []
  cases h
  exact wr J 5 func100 []
 ·intro g h
  replace h:z100_k1 N x_ g=some r:=h
  unfold z100_k1 at h
  refine eB h (fun h=>?_) fun h=>?_
  ·refine wB' J 7 h (fun h=>?_) fun h=>?_
   ·cases h
    exact wr J 34 func100 []
   refine wB' J 6 h (fun h=>?_) fun h=>?_
   ·cases h
    exact wr J 28 func100 []
   refine wO J 2 h fun x5 i h=>eCl (z101_ct N x_.Name _ i) [] [] ?_
   refine wB' J 2 h (fun h=>?_) fun h=>?_
   ·cases h
    exact wr J 23 func100 []
   refine wB' J 5 h (fun h=>?_) fun h=>?_
   ·cases h
    exact wr J 18 func100 []
   refine wB' J 5 h (fun h=>?_) fun h=>?_
   ·cases h
    exact wr J 13 func100 []
   refine wB J 8 h (fun h=>?_) fun h=>?_
   ·cases h
    exact wr J 5 func100 []
   cases h
   exact wr J 5 func100 []
  refine wB J 6 h (fun h=>?_) fun h=>?_
  ·refine wB' J 7 h (fun h=>?_) fun h=>?_
   ·cases h
    exact wr J 30 func100 []
   refine wB' J 6 h (fun h=>?_) fun h=>?_
   ·cases h
    exact wr J 24 func100 []
   refine wB' J 5 h (fun h=>?_) fun h=>?_
   ·cases h
    exact wr J 19 func100 []
   refine wB' J 5 h (fun h=>?_) fun h=>?_
   ·cases h
    exact wr J 14 func100 []
   refine wB' J 5 h (fun h=>?_) fun h=>?_
   ·cases h
    exact wr J 9 func100 []
   refine wB J 4 h (fun h=>?_) fun h=>?_
   ·cases h
    exact wr J 5 func100 []
   cases h
   exact wr J 5 func100 []
  refine wB' J 6 h (fun h=>?_) fun h=>?_
  ·cases h
   exact wr J 7 func100 []
  refine wB' J 7 h (fun h=>?_) fun h=>?_
  ·cases h
   exact wr J 25 func100 []
  refine wO J 2 h fun x6 j h=>eCl (z42_ct N x_.To 6 _ j) [] [(0,.sl 0)] ?_
  refine wB' J 2 h (fun h=>?_) fun h=>?_
  ·cases h
   exact wr J 20 func100 []
  refine wO J 2 h fun x7 k h=>eCl (z41_ct N x_.Name _ k) [] [] ?_
  refine wB' J 2 h (fun h=>?_) fun h=>?_
  ·cases h
   exact wr J 15 func100 []
  refine wO J 2 h fun x8 l h=>eCl (z41_ct N x_.As _ l) [] [] ?_
  refine wB' J 2 h (fun h=>?_) fun h=>?_
  ·cases h
   exact wr J 10 func100 []
  refine wB J 5 h (fun h=>?_) fun h=>?_
  ·cases h
   exact wr J 5 func100 []
  cases h
  exact wr J 5 func100 []
 exact eB h (fun h=>wa J 2 (eSub [] (j1 true h))) fun h=>wa J 5 (eSub [] (j1 (x_.Kind==4) h))
theorem z43_b_ct (N:Nat) (rc:(List T15)→Int→Int→Option (Bool × Int)) (rc_syntax_validItems_ct:(∀ (l_:(List T15)) (depth_:Int) (n_:Int) (r:Bool × Int),rc l_ depth_ n_=some r→Fn Tryz.prog 43 ⟨2,[.S 0,.I depth_,.B 1 0],[(0,.sl rR15 l_)],[(1,.box [.I n_] 3)],2,.O r.1,[],[(1,.box [.I r.2] 3)]⟩)) (l_:(List T15)) (depth_:Int) (n_:Int) (r:Bool × Int) (h:z43_b N rc l_ depth_ n_=some r) :
 Fn Tryz.prog 43 ⟨2,[.S 0,.I depth_,.B 1 0],[(0,.sl rR15 l_)],[(1,.box [.I n_] 3)],2,.O r.1,[],[(1,.box [.I r.2] 3)]⟩:=by
 refine eFn func43 rfl (fun E F w=>?_)
 unfold z43_b at h
 refine wa J 11 (eCut (σ:=Int) (fun st=>⟨[],[(1,.box [.I st] 3)],[(0,.sl rR15 l_)],2⟩) (fun st=>z43_k1 st=some r) ?_ (fun j1=>?_))
 ·intro vbk1_1_0_1 h
  replace h:z43_k1 vbk1_1_0_1=some r:=h
  unfold z43_k1 at h
  cases h
  exact wr J 4 func43 []
 refine wa J 1 (eLoop (σ:=Int × Int) (fun st=>⟨[(1,.I depth_),(2,.B 1 0),(11,.S 0),(12,.I (l_.length:Int)),(13,.I st.2)],[(1,.box [.I st.1] 3)],[(0,.sl rR15 l_)],2⟩) (fun n st=>z43_l2 N rc l_ depth_ n st.1 st.2) (r:=r) (fun _=>rfl) ?_ (fun ih=>?_))
 ·intro n12 ih12
  rintro ⟨vbk1_1_0_12,c⟩ h
  replace h:z43_l2 N rc l_ depth_ (n12+1) vbk1_1_0_12 c=some r:=h
  unfold z43_l2 at h
  refine wB' J 5 h (fun h=>wa J 2 (eSub [] (j1 vbk1_1_0_12 h))) fun h=>?_
  refine wO J 6 h fun d e h=>eIx J oO15 e ?_
  refine wB J 19 h (fun h=>?_) fun h=>?_
  ·cases h
   exact wr J 16 func43 []
  refine wB J 6 h (fun h=>?_) fun h=>?_
  ·cases h
   exact wr J 10 func43 []
  refine wO J 1 h fun f g h=>eCl (z100_ct N d _ g) [] [(0,.sl 3),(1,.sl 4)] ?_
  refine wB J 3 h (fun h=>?_) fun h=>wa J 9 (eCut (σ:=Int) (fun st=>⟨[(1,.I depth_),(2,.B 1 0),(11,.S 0),(12,.I (l_.length:Int)),(13,.I c)],[(1,.box [.I st] 3)],[(0,.sl rR15 l_)],6⟩) (fun st=>z43_k3 c (z43_l2 N rc l_ depth_ n12) st=some r) ?_ (fun j19=>?_))
  ·cases h
   exact wr J 5 func43 []
  ·intro vbk1_1_0_19 h
   replace h:z43_k3 c (z43_l2 N rc l_ depth_ n12) vbk1_1_0_19=some r:=h
   unfold z43_k3 at h
   exact wa J 5 (eSub [] (ih12 (vbk1_1_0_19,(w64 (c+1))) h))
  refine wa J 1 (eLoop (σ:=Int × Int) (fun st=>⟨[(1,.I depth_),(2,.B 1 0),(11,.S 0),(12,.I (l_.length:Int)),(13,.I c),(36,.S 4),(37,.I (d.Blocks.length:Int)),(38,.I st.2)],[(1,.box [.I st.1] 3)],[(0,.sl rR15 l_),(4,.sl (rSl rR15) d.Blocks)],6⟩) (fun n st=>z43_l4 rc depth_ c (z43_l2 N rc l_ depth_ n12) d n st.1 st.2) (r:=r) (fun _=>rfl) ?_ (fun ih=>?_))
  ·intro n14 ih21
   rintro ⟨vbk1_1_0_21,i⟩ h
   replace h:z43_l4 rc depth_ c (z43_l2 N rc l_ depth_ n12) d (n14+1) vbk1_1_0_21 i=some r:=h
   unfold z43_l4 at h
   refine wB' J 5 h (fun h=>wa J 2 (eSub [] (j19 vbk1_1_0_21 h))) fun h=>?_
   refine wO J 6 h fun j k h=>eIx J (oSl rR15) k ?_
   refine wO J 9 h fun l m h=>eCl (rc_syntax_validItems_ct j (w64 (depth_+1)) vbk1_1_0_21 _ m) [] [(0,.sl 7),(1,.bp 1 0)] ?_
   refine wB J 2 h (fun h=>?_) fun h=>wa J 7 (eSub [] (ih21 (l.2,(w64 (i+1))) h))
   cases h
   exact wr J 5 func43 []
  exact eSub [] (ih N ((w64 (vbk1_1_0_12+1)),0) h)
 exact eSub [] (ih N (n_,0) h)
theorem z43_rct:∀ (N:Nat) (l_:(List T15)) (depth_:Int) (n_:Int) (r:Bool × Int) (h:z43_r N l_ depth_ n_=some r),Fn Tryz.prog 43 ⟨2,[.S 0,.I depth_,.B 1 0],[(0,.sl rR15 l_)],[(1,.box [.I n_] 3)],2,.O r.1,[],[(1,.box [.I r.2] 3)]⟩:=by
 intro N
 induction N with
 | zero=>intros;rename_i h;cases h
 | succ N ih=>intro l_ depth_ n_ r h;exact z43_b_ct N (z43_r N) ih l_ depth_ n_ r h
theorem z43_ct (N:Nat) (l_:(List T15)) (depth_:Int) (n_:Int) (r:Bool × Int) (h:z43 N l_ depth_ n_=some r):Fn Tryz.prog 43 ⟨2,[.S 0,.I depth_,.B 1 0],[(0,.sl rR15 l_)],[(1,.box [.I n_] 3)],2,.O r.1,[],[(1,.box [.I r.2] 3)]⟩:=z43_rct N l_ depth_ n_ r h
theorem z151_ct (N:Nat) (n_:Int) (r:Bool) (h:z151 N n_=some r) :
 Fn Tryz.prog 151 ⟨0,[.I n_],[],[],0,.O r,[],[]⟩:=by
 refine eFn func151 rfl (fun E F w=>?_)
 unfold z151 at h
 refine wB J 9 h (fun h=>?_) fun h=>?_
 ·cases h
  exact wr J 5 func151 []
 cases h
 exact wr J 5 func151 []
theorem z102_ct (N:Nat) (t_:T18) (r:Bool) (h:z102 N t_=some r) :
 Fn Tryz.prog 102 ⟨0,[.a (cC18 t_)],[],[],0,.O r,[],[]⟩:=by
 refine eFn func102 rfl (fun E F w=>?_)
 unfold z102 at h
 refine wO J 10 h fun x1 c h=>eCl (z151_ct N t_.N _ c) [] [] ?_
 refine wB J 2 h (fun h=>?_) fun h=>?_
 ·cases h
  exact wr J 5 func102 []
 refine wB J 14 h (fun h=>?_) fun h=>wa J 7 (eCut (σ:=Bool) (fun st=>⟨[(1,.B 0 0),(19,.O st)],[(0,.box (cC18 t_) 76)],[],1⟩) (fun st=>z102_k1 N t_ st=some r) ?_ (fun j1=>?_))
 ·refine wB J 7 h (fun h=>?_) fun h=>?_
  ·cases h
   exact wr J 6 func102 []
  cases h
  exact wr J 6 func102 []
 ·intro d h
  replace h:z102_k1 N t_ d=some r:=h
  unfold z102_k1 at h
  refine eB' h (fun h=>?_) fun h=>?_
  ·cases h
   exact wr J 7 func102 []
  refine wO J 5 h fun x2 e h=>eCl (z41_ct N t_.Field _ e) [] [] ?_
  refine wB' J 1 h (fun h=>?_) fun h=>?_
  ·cases h
   exact wr J 11 func102 []
  refine wB J 4 h (fun h=>?_) fun h=>?_
  ·cases h
   exact wr J 7 func102 []
  refine wO J 2 h fun x3 f h=>eCl (z101_ct N t_.Message _ f) [] [] ?_
  cases h
  exact wr J 4 func102 []
 exact eB h (fun h=>wa J 2 (eSub [] (j1 true h))) fun h=>wa J 5 (eSub [] (j1 (t_.Kind==3) h))
theorem z44_ct (N:Nat) (m_:T16) (r:Bool) (h:z44 N m_=some r) :
 Fn Tryz.prog 44 ⟨2,[.a [.s m_.Name,.sl 0,.sl 1]],(vV16 0 1 m_ []),[],2,.O r,[],[]⟩:=by
 refine eFn func44 rfl (fun E F w=>?_)
 unfold z44 at h
 refine wO J 10 h fun x1 c h=>eCl (z101_ct N m_.Name _ c) [] [] ?_
 refine wB J 2 h (fun h=>?_) fun h=>?_
 ·cases h
  exact wr J 17 func44 []
 refine wB J 6 h (fun h=>?_) fun h=>?_
 ·cases h
  exact wr J 11 func44 []
 refine wB J 6 h (fun h=>?_) fun h=>wa J 10 (eCut (σ:=Unit) (fun st=>⟨[(1,.B 2 0)],[(2,.box [.s m_.Name,.sl 0,.sl 1] 32)],(vV16 0 1 m_ []),3⟩) (fun st=>z44_k3 N m_=some r) ?_ (fun j1=>?_))
 ·cases h
  exact wr J 5 func44 []
 ·intro _ h
  replace h:z44_k3 N m_=some r:=h
  unfold z44_k3 at h
  refine wa J 8 (eCut (σ:=Unit) (fun st=>⟨[],[],(vV16 0 1 m_ []),3⟩) (fun st=>z44_k1=some r) ?_ (fun j6=>?_))
  ·intro _ h
   replace h:z44_k1=some r:=h
   unfold z44_k1 at h
   cases h
   exact wr J 4 func44 []
  refine wa J 1 (eLoop (σ:=Int) (fun st=>⟨[(74,.S 1),(75,.I (m_.Where.length:Int)),(76,.I st)],[],(vV16 0 1 m_ []),3⟩) (fun n st=>z44_l2 N m_ n st) (r:=r) (fun _=>rfl) ?_ (fun ih=>?_))
  ·intro n3 ih8
   intro d h
   replace h:z44_l2 N m_ (n3+1) d=some r:=h
   unfold z44_l2 at h
   refine wB' J 5 h (fun h=>wa J 2 (eSub [] (j6 () h))) fun h=>?_
   refine wO J 6 h fun e f h=>eIx J oO14 f ?_
   refine wO J 8 h fun g i h=>eCl (z102_ct N e.Left _ i) [] [] ?_
   refine wB J 2 h (fun h=>wa J 12 (eEnd ?_)) fun h=>?_
   ·cases h
    exact wr J 5 func44 []
   refine wO J 2 h fun j k h=>eCl (z102_ct N e.Right _ k) [] [] ?_
   refine wB J 3 h (fun h=>wa J 6 (eEnd ?_)) fun h=>?_
   ·cases h
    exact wr J 5 func44 []
   obtain ⟨l,m,h⟩:=ob h
   refine eCl (z103_ct N _ m) [] [] ?_
   refine wO J 2 h fun o p h=>eCb (z54_ct N l e.Op _ p) [] [(0,.sl 5)] [5] (.inr ⟨rfl,trivial⟩) (wa J 2 (eEnd ?_))
   refine eB h (fun h=>?_) fun h=>wa J 7 (eSub [] (ih8 (w64 (d+1)) h))
   cases h
   exact wr J 5 func44 []
  exact eSub [] (ih N 0 h)
 refine wa J 1 (eLoop (σ:=Int) (fun st=>⟨[(1,.B 2 0),(25,.S 0),(26,.I (m_.Fields.length:Int)),(27,.I st)],[(2,.box [.s m_.Name,.sl 0,.sl 1] 32)],(vV16 0 1 m_ []),3⟩) (fun n st=>z44_l4 N m_ n st) (r:=r) (fun _=>rfl) ?_ (fun ih=>?_))
 ·intro n4 ih9
  intro q h
  replace h:z44_l4 N m_ (n4+1) q=some r:=h
  unfold z44_l4 at h
  refine wB' J 5 h (fun h=>wa J 2 (eSub [] (j1 () h))) fun h=>?_
  refine wO J 6 h fun t u h=>eIx J oO0 u (wa J 16 (eCut (σ:=Int) (fun st=>⟨[(1,.B 2 0),(4,.B 4 0),(5,.I st),(25,.S 0),(26,.I (m_.Fields.length:Int)),(27,.I q)],[(2,.box [.s m_.Name,.sl 0,.sl 1] 32),(4,.box (cC0 t) 128)],(vV16 0 1 m_ []),5⟩) (fun st=>z44_k5 N q (z44_l4 N m_ n4) t st=some r) ?_ (fun j12=>?_)))
  ·intro v h
   replace h:z44_k5 N q (z44_l4 N m_ n4) t v=some r:=h
   unfold z44_k5 at h
   refine wO J 4 h fun x y h=>eCl (z41_ct N t.Name _ y) [] [] ?_
   refine wB J 2 h (fun h=>?_) fun h=>?_
   ·cases h
    exact wr J 38 func44 []
   refine wB' J 5 h (fun h=>?_) fun h=>?_
   ·refine wB J 18 h (fun h=>?_) fun h=>?_
    ·cases h
     exact wr J 15 func44 []
    refine wB J 10 h (fun h=>?_) fun h=>wa J 7 (eSub [] (ih9 (w64 (q+1)) h))
    cases h
    exact wr J 5 func44 []
   refine wB J 7 h (fun h=>?_) fun h=>?_
   ·cases h
    exact wr J 26 func44 []
   refine wB J 11 h (fun h=>?_) fun h=>?_
   ·cases h
    exact wr J 15 func44 []
   refine wB J 10 h (fun h=>?_) fun h=>wa J 7 (eSub [] (ih9 (w64 (q+1)) h))
   cases h
   exact wr J 5 func44 []
  exact eB h (fun h=>wa J 4 (eSub [] (j12 0 h))) fun h=>wa J 2 (eSub [] (j12 (-999999) h))
 exact eSub [] (ih N 0 h)
theorem z105_ct (N:Nat) (elems_:List ByteArray) (sep_:ByteArray) (r:ByteArray) (h:z105 N elems_ sep_=some r):Fn Tryz.prog 105 ⟨1,[.S 0,.c (.s sep_)],[(0,.sl rS elems_)],[],1,.c (.s r),[],[]⟩:=by
  unfold z105 at h
  cases hb:(decide (elems_.length≤140737488355328) && decide ((joinL sep_.data.toList (elems_.map (·.data.toList))).length≤140737488355328)) with
  | false=>rw [hb] at h;cases h
  | true =>
    rw [hb] at h
    simp only [cond_true,Option.some.injEq] at h
    subst h
    simp only [Bool.and_eq_true,decide_eq_true_eq] at hb
    exact join_fn elems_ sep_ hb.1 hb.2
theorem repL_eq (l:List UInt8):∀ n:Nat,Go.Lib.repeatL l n=repL l n
 | 0=>rfl
 | n+1=>by show l++Go.Lib.repeatL l n=l++repL l n;rw [repL_eq l n]
theorem z153_ct (N:Nat) (s_:ByteArray) (count_:Int) (r:ByteArray) (h:z153 N s_ count_=some r):Fn Tryz.prog 153 ⟨0,[.c (.s s_),.I count_],[],[],0,.c (.s r),[],[]⟩:=by
 unfold z153 at h
 cases hb:((decide (0≤count_) && decide (count_≤140737488355328)) && decide (s_.size * count_.toNat≤140737488355328)) with
 | false=>rw [hb] at h;cases h
 | true =>
  rw [hb] at h
  simp only [cond_true,Option.some.injEq] at h
  subst h
  simp only [Bool.and_eq_true,decide_eq_true_eq] at hb
  obtain ⟨⟨h1,h2⟩,h3⟩:=hb
  obtain ⟨c,rfl⟩:=Int.eq_ofNat_of_zero_le h1
  have:=repeat_fn s_ c (by omega) h3
  rw [repL_eq] at this
  exact this
theorem z188_6_ct (N:Nat) (c0_:T20) (r:T20) (h:z188_6 N c0_=some r) :
 Fn Tryz.prog 188 ⟨1,[.B 0 0],[],[(0,.box [.v (.pointer none),.nil,.I c0_.depth'] 177)],2,.t [],[],[(1,.buf r.Builder 5),(0,.box [.bp 0 0,.sl 1,.I r.depth'] 177)]⟩:=by
 refine eFn func188 rfl (fun E F w=>?_)
 unfold z188_6 at h
 refine wa J 6 (ePz (wa J 5 (eCu (eNe func213 (by kernel_rfl) (by kernel_rfl) (by kernel_rfl) (by kernel_rfl) (eCq ?_)))))
 cases h
 exact wr J 4 func188 [(1,.nil)]
theorem z152_7_ct (N:Nat) (s_:ByteArray) (c0_:T20) (r:Int × Unit × T20) (h:z152_7 N s_ c0_=some r) :
 Fn Tryz.prog 152 ⟨1,[.B 0 0,.c (.s s_)],[],[(0,.box [.v (.pointer none),.nil,.I c0_.depth'] 177)],2,.t [.inl (.I r.1),.inl (.v .nilIface)],[],[(1,.buf r.2.2.Builder 5),(0,.box [.bp 0 0,.sl 1,.I r.2.2.depth'] 177)]⟩:=by
 refine eFn func152 rfl (fun E F w=>?_)
 unfold z152_7 at h
 refine wO J 8 h fun x1 d h=>eCl (z188_6_ct N (⟨ByteArray.empty,c0_.depth'⟩:T20) _ d) [] [(0,.bp 0 0)] ?_
 refine wO J 9 h fun x2 e h=>eBt (ty:=5) J e ?_
 cases h
 exact wr J 11 func152 [(1,.sl 2)]
theorem z104_8_ct (N:Nat) (s_:(List ByteArray)) (c0_:T20) (r:T20) (h:z104_8 N s_ c0_=some r) :
 Fn Tryz.prog 104 ⟨2,[.B 1 0,.S 0],[(0,.sl rS s_)],[(1,.box [.v (.pointer none),.nil,.I c0_.depth'] 177)],3,.t [],[],[(2,.buf r.Builder 5),(1,.box [.bp 1 0,.sl 2,.I r.depth'] 177)]⟩:=by
 refine eFn func104 rfl (fun E F w=>?_)
 unfold z104_8 at h
 refine wO J 8 h fun x1 c h=>eCl (z153_ct N (str [9]) c0_.depth' _ c) [] [] ?_
 refine wO J 1 h fun x2 d h=>eCl (z105_ct N s_ (str []) _ d) [] [(0,.sl 0)] ?_
 obtain ⟨x3,e,h⟩:=ob h
 refine eCa e ?_
 obtain ⟨x4,f,h⟩:=ob h
 refine eCa f ?_
 obtain ⟨x5,g,h⟩:=ob h
 refine eCl (z152_7_ct N x4 (⟨ByteArray.empty,c0_.depth'⟩:T20) _ g) [] [(0,.bp 1 0)] (eEnd ?_)
 cases h
 exact eRet J func104 [(2,.sl 2)]
theorem z155_ct (N:Nat) (i_:Int) (r:ByteArray) (h:z155 N i_=some r):Fn Tryz.prog 155 ⟨1,[.I i_],[],[(0,.abs powT)],1,.c (.s r),[],[(0,.abs powT)]⟩:=by
 unfold z155 at h
 cases hb:(decide ((-9223372036854775808)≤i_) && decide (i_≤9223372036854775807)) with
 | false=>rw [hb] at h;cases h
 | true =>
  rw [hb] at h
  simp only [cond_true,Option.some.injEq] at h
  subst h
  simp only [Bool.and_eq_true,decide_eq_true_eq] at hb
  exact itoa_fn i_ hb.1 hb.2
theorem z156_ct (N:Nat) (t_:T18) (r:ByteArray) (h:z156 N t_=some r) :
 Fn Tryz.prog 156 ⟨1,[.a (cC18 t_)],[],[(0,.abs powT)],1,.c (.s r),[],[(0,.abs powT)]⟩:=by
 refine eFn func156 rfl (fun E F w=>?_)
 unfold z156 at h
 refine wB J 12 h (fun h=>?_) fun h=>wa J 15 (eCut (σ:=ByteArray) (fun st=>⟨[(1,.B 1 0),(3,.c (.s st))],[(0,.abs powT),(1,.box (cC18 t_) 76)],[],2⟩) (fun st=>z156_k2 N t_ st=some r) ?_ (fun j1=>?_))
 ·refine wO J 5 h fun x1 d h=>eCl (z155_ct N t_.N _ d) [] [(0,.sl 0)] ?_
  cases h
  exact wr J 2 func156 []
 ·intro e h
  replace h:z156_k2 N t_ e=some r:=h
  unfold z156_k2 at h
  refine wa J 7 (eCut (σ:=ByteArray) (fun st=>⟨[(1,.B 1 0),(3,.c (.s st))],[(0,.abs powT),(1,.box (cC18 t_) 76)],[],2⟩) (fun st=>z156_k1 N t_ st=some r) ?_ (fun j2=>?_))
  ·intro f h
   replace h:z156_k1 N t_ f=some r:=h
   unfold z156_k1 at h
   refine wB J 9 h (fun h=>?_) fun h=>?_
   ·refine wO J 5 h fun x6 g h=>eCl (z155_ct N t_.N _ g) [] [(0,.sl 0)] ?_
    obtain ⟨x7,i,h⟩:=ob h
    refine eCa i ?_
    obtain ⟨x8,j,h⟩:=ob h
    refine eCa j ?_
    cases h
    exact wr J 8 func156 []
   refine wB' J 8 h (fun h=>?_) fun h=>?_
   ·cases h
    exact wr J 8 func156 []
   refine wO J 6 h fun x9 k h=>eCl (z155_ct N (w64 (0-t_.N)) _ k) [] [(0,.sl 0)] ?_
   obtain ⟨l,m,h⟩:=ob h
   refine eCa m ?_
   obtain ⟨o,p,h⟩:=ob h
   refine eCa p ?_
   cases h
   exact wr J 8 func156 []
  refine eB' h (fun h=>wa J 2 (eSub [] (j2 e h))) fun h=>?_
  refine wO J 3 h fun q t h=>eCa t ?_
  obtain ⟨u,v,h⟩:=ob h
  exact eCa v (wa J 2 (eSub [] (j2 u h)))
 refine eB' h (fun h=>wa J 2 (eSub [] (j1 t_.Field h))) fun h=>?_
 refine wO J 4 h fun x y h=>eCa y ?_
 exact wO J 1 h fun z A h=>eCa A (wa J 2 (eSub [] (j1 z h)))
theorem z188_9_ct (N:Nat) (c0_:T20) (r:Unit) (h:z188_9 N c0_=some r) :
 Fn Tryz.prog 188 ⟨2,[.B 0 0],[],[(0,.box [.bp 0 0,.sl 1,.I c0_.depth'] 177),(1,.buf c0_.Builder 5)],2,.t [],[],[(0,.box [.bp 0 0,.sl 1,.I c0_.depth'] 177),(1,.buf c0_.Builder 5)]⟩:=by
 refine eFn func188 rfl (fun E F w=>?_)
 unfold z188_9 at h
 refine wa J 6 (ePn false (wa J 9 (ePs ?_)))
 cases h
 exact wr J 3 func188 []
theorem z152_10_ct (N:Nat) (s_:ByteArray) (c0_:T20) (r:Int × Unit × T20) (h:z152_10 N s_ c0_=some r) :
 Fn Tryz.prog 152 ⟨2,[.B 0 0,.c (.s s_)],[],[(0,.box [.bp 0 0,.sl 1,.I c0_.depth'] 177),(1,.buf c0_.Builder 5)],3,.t [.inl (.I r.1),.inl (.v .nilIface)],[],[(1,.gone),(2,.buf r.2.2.Builder 5),(0,.box [.bp 0 0,.sl 2,.I r.2.2.depth'] 177)]⟩:=by
 refine eFn func152 rfl (fun E F w=>?_)
 unfold z152_10 at h
 refine wO J 8 h fun x1 d h=>eCl (z188_9_ct N c0_ _ d) [] [(0,.bp 0 0),(1,.sl 1)] ?_
 refine wO J 9 h fun x2 e h=>eBt (ty:=5) J e ?_
 cases h
 exact wr J 11 func152 [(2,.sl 2)]
theorem z104_11_ct (N:Nat) (s_:(List ByteArray)) (c0_:T20) (r:T20) (h:z104_11 N s_ c0_=some r) :
 Fn Tryz.prog 104 ⟨3,[.B 1 0,.S 0],[(0,.sl rS s_)],[(1,.box [.bp 1 0,.sl 2,.I c0_.depth'] 177),(2,.buf c0_.Builder 5)],4,.t [],[],[(2,.gone),(3,.buf r.Builder 5),(1,.box [.bp 1 0,.sl 3,.I r.depth'] 177)]⟩:=by
 refine eFn func104 rfl (fun E F w=>?_)
 unfold z104_11 at h
 refine wO J 8 h fun x1 c h=>eCl (z153_ct N (str [9]) c0_.depth' _ c) [] [] ?_
 refine wO J 1 h fun x2 d h=>eCl (z105_ct N s_ (str []) _ d) [] [(0,.sl 0)] ?_
 obtain ⟨x3,e,h⟩:=ob h
 refine eCa e ?_
 obtain ⟨x4,f,h⟩:=ob h
 refine eCa f ?_
 obtain ⟨x5,g,h⟩:=ob h
 refine eCl (z152_10_ct N x4 c0_ _ g) [] [(0,.bp 1 0),(1,.sl 2)] (eEnd ?_)
 cases h
 exact eRet J func104 [(3,.sl 3)]
theorem z106_12_ct (N:Nat) (m_:T16) (c0_:T20) (r:T20) (h:z106_12 N m_ c0_=some r) :
 Fn Tryz.prog 106 ⟨5,[.B 2 0,.a [.s m_.Name,.sl 0,.sl 1]],(vV16 0 1 m_ []),[(2,.box [.bp 2 0,.sl 3,.I c0_.depth'] 177),(3,.buf c0_.Builder 5),(4,.abs powT)],6,.t [],[],[(3,.gone),(5,.buf r.Builder 5),(2,.box [.bp 2 0,.sl 5,.I r.depth'] 177),(4,.abs powT)]⟩:=by
 refine eFn func106 rfl (fun E F w=>?_)
 unfold z106_12 at h
 refine wa J 17 (eCut (σ:=(List ByteArray)) (fun st=>(zz18 c0_.depth' c0_.Builder powT m_.Name st m_ [(0,.B 2 0),(3,.B 5 0),(4,.S 6),(5,.c .nil)])) (fun st=>z106_12_k3 N m_ c0_ st=some r) ?_ (fun j1=>?_))
 ·intro d h
  replace h:z106_12_k3 N m_ c0_ d=some r:=h
  unfold z106_12_k3 at h
  refine wa J 8 (eCut (σ:=(List ByteArray)) (fun st=>(zz19 c0_.depth' c0_.Builder powT m_.Name d st m_ [(0,.B 2 0),(3,.B 5 0),(4,.S 6),(5,.S 7)])) (fun st=>z106_12_k1 N m_ c0_ d st=some r) ?_ (fun j6=>?_))
  ·intro e h
   replace h:z106_12_k1 N m_ c0_ d e=some r:=h
   unfold z106_12_k1 at h
   refine wB' J 11 h (fun h=>?_) fun h=>?_
   ·refine wO J 7 h fun f g h=>eCb (z105_ct N d (str [44,32]) _ g) [] [(0,.sl 6)] [6] (.inr ⟨rfl,trivial⟩) (wa J 1 (eBs J [] oS ([(str [109,101,115,115,97,103,101,32]),m_.Name,(str [40]),f,(str [41]),(str []),(str [59])]:List ByteArray) ?_))
    obtain ⟨i,j,h⟩:=ob h
    refine eCl (z104_11_ct N ([(str [109,101,115,115,97,103,101,32]),m_.Name,(str [40]),f,(str [41]),(str []),(str [59])]:List ByteArray) c0_ _ j) [8] [(0,.sl 8),(1,.bp 2 0),(2,.sl 3)] (eEnd ?_)
    cases h
    exact eRet J func106 [(5,.sl 9)]
   refine wO J 3 h fun k l h=>eCb (z105_ct N e (str [32,97,110,100,32]) _ l) [] [(0,.sl 7)] [7] (.inr ⟨rfl,trivial⟩) ?_
   obtain ⟨m,o,h⟩:=ob h
   refine eCa o ?_
   refine wO J 7 h fun p q h=>eCb (z105_ct N d (str [44,32]) _ q) [] [(0,.sl 6)] [6] (.inr ⟨rfl,trivial⟩) (wa J 1 (eBs J [] oS ([(str [109,101,115,115,97,103,101,32]),m_.Name,(str [40]),p,(str [41]),m,(str [59])]:List ByteArray) ?_))
   obtain ⟨u,v,h⟩:=ob h
   refine eCl (z104_11_ct N ([(str [109,101,115,115,97,103,101,32]),m_.Name,(str [40]),p,(str [41]),m,(str [59])]:List ByteArray) c0_ _ v) [8] [(0,.sl 8),(1,.bp 2 0),(2,.sl 3)] (eEnd ?_)
   cases h
   exact eRet J func106 [(5,.sl 9)]
  refine wa J 1 (eLoop (σ:=(List ByteArray) × Int) (fun st=>(zz19 c0_.depth' c0_.Builder powT m_.Name d st.1 m_ [(0,.B 2 0),(3,.B 5 0),(4,.S 6),(5,.S 7),(43,.S 1),(44,.I (m_.Where.length:Int)),(45,.I st.2)])) (fun n st=>z106_12_l2 N m_ c0_ d n st.1 st.2) (r:=r) (fun _=>rfl) ?_ (fun ih=>?_))
  ·intro n3 ih8
   rintro ⟨x,y⟩ h
   replace h:z106_12_l2 N m_ c0_ d (n3+1) x y=some r:=h
   unfold z106_12_l2 at h
   refine wB' J 5 h (fun h=>wa J 2 (eSub [] (j6 x h))) fun h=>?_
   refine wO J 6 h fun z A h=>eIx J oO14 A ?_
   refine wO J 8 h fun C D h=>eCl (z156_ct N z.Left _ D) [] [(0,.sl 4)] ?_
   obtain ⟨G,H,h⟩:=ob h
   refine eCa H ?_
   refine wO J 2 h fun R T h=>eCa T ?_
   obtain ⟨U,X,h⟩:=ob h
   refine eCa X ?_
   refine wO J 2 h fun Y Z h=>eCl (z156_ct N z.Right _ Z) [] [(0,.sl 4)] ?_
   obtain ⟨a0,b0,h⟩:=ob h
   refine eCa b0 (eBs J [] oS ([a0]:List ByteArray) ?_)
   obtain ⟨c0,d0,h⟩:=ob h
   exact eAp J rS d0 (wa J 1 (eEnd (wa J 5 (eSub [(7,.sl 11)] (ih8 (c0,(w64 (y+1))) h)))))
  exact eSub [(7,.nil)] (ih N (([]:List ByteArray),0) h)
 refine wa J 1 (eLoop (σ:=(List ByteArray) × Int) (fun st=>(zz18 c0_.depth' c0_.Builder powT m_.Name st.1 m_ [(0,.B 2 0),(3,.B 5 0),(4,.S 6),(5,.c .nil),(13,.S 0),(14,.I (m_.Fields.length:Int)),(15,.I st.2)])) (fun n st=>z106_12_l4 N m_ c0_ n st.1 st.2) (r:=r) (fun _=>rfl) ?_ (fun ih=>?_))
 ·intro n4 ih9
  rintro ⟨e0,f0⟩ h
  replace h:z106_12_l4 N m_ c0_ (n4+1) e0 f0=some r:=h
  unfold z106_12_l4 at h
  refine wB' J 5 h (fun h=>wa J 2 (eSub [] (j1 e0 h))) fun h=>?_
  refine wO J 6 h fun g0 i0 h=>eIx J oO0 i0 (wa J 16 (eCut (σ:=ByteArray) (fun st=>⟨[(0,.B 2 0),(3,.B 5 0),(4,.S 6),(5,.c .nil),(7,.B 8 0),(8,.c (.s st)),(13,.S 0),(14,.I (m_.Fields.length:Int)),(15,.I f0)],[(2,.box [.bp 2 0,.sl 3,.I c0_.depth'] 177),(3,.buf c0_.Builder 5),(4,.abs powT),(5,.box [.s m_.Name,.sl 0,.sl 1] 32),(6,.own rS e0 true),(8,.box (cC0 g0) 128)],(vV16 0 1 m_ []),9⟩) (fun st=>z106_12_k5 N e0 f0 (z106_12_l4 N m_ c0_ n4) g0 st=some r) ?_ (fun j12=>?_)))
  ·intro j0 h
   replace h:z106_12_k5 N e0 f0 (z106_12_l4 N m_ c0_ n4) g0 j0=some r:=h
   unfold z106_12_k5 at h
   refine wO J 5 h fun k0 l0 h=>eCa l0 ?_
   refine wO J 3 h fun m0 o0 h=>eCl (z155_ct N g0.Sort'.Lo _ o0) [] [(0,.sl 4)] ?_
   obtain ⟨p0,q0,h⟩:=ob h
   refine eCa q0 ?_
   obtain ⟨s0,t0,h⟩:=ob h
   refine eCa t0 ?_
   refine wO J 3 h fun u0 v0 h=>eCl (z155_ct N g0.Sort'.Hi _ v0) [] [(0,.sl 4)] ?_
   obtain ⟨x0,y0,h⟩:=ob h
   refine eCa y0 (eBs J [] oS ([x0]:List ByteArray) ?_)
   obtain ⟨z0,A0,h⟩:=ob h
   exact eAp J rS A0 (wa J 1 (eEnd (wa J 5 (eSub [(6,.sl 10)] (ih9 (z0,(w64 (f0+1))) h)))))
  exact eB h (fun h=>wa J 4 (eSub [] (j12 (str [58,32,116,101,120,116,32]) h))) fun h=>wa J 2 (eSub [] (j12 (str [58,32,105,110,116,32]) h))
 exact eSub [(6,.nil)] (ih N (([]:List ByteArray),0) h)
theorem z157_13_ct (N:Nat) (rc:(List T15)→T20→Option T20) (rc_Psyntax_printer_items_al_ct:(∀ (l_:(List T15)) (c0_:T20) (r:T20),rc l_ c0_=some r→Fn Tryz.prog 107 ⟨4,[.B 1 0,.S 0],[(0,.sl rR15 l_)],[(1,.box [.bp 1 0,.sl 2,.I c0_.depth'] 177),(2,.buf c0_.Builder 5),(3,.abs powT)],5,.t [],[],[(2,.gone),(4,.buf r.Builder 5),(1,.box [.bp 1 0,.sl 4,.I r.depth'] 177),(3,.abs powT)]⟩)) (head_:ByteArray) (word_:ByteArray) (last_:ByteArray) (l_:(List (List T15))) (c0_:T20) (r:T20) (h:z157_13 N rc head_ word_ last_ l_ c0_=some r) :
 Fn Tryz.prog 157 ⟨4,[.B 1 0,.c (.s head_),.c (.s word_),.c (.s last_),.S 0],[(0,.sl (rSl rR15) l_)],[(1,.box [.bp 1 0,.sl 2,.I c0_.depth'] 177),(2,.buf c0_.Builder 5),(3,.abs powT)],5,.t [],[],[(2,.gone),(4,.buf r.Builder 5),(1,.box [.bp 1 0,.sl 4,.I r.depth'] 177),(3,.abs powT)]⟩:=by
 refine eFn func157 rfl (fun E F w=>?_)
 unfold z157_13 at h
 refine wa J 7 (eCut (σ:=ByteArray × Int) (fun st=>⟨[(0,.B 1 0)],[(1,.box [.bp 1 0,.sl 4,.I st.2] 177),(3,.abs powT),(4,.buf st.1 5)],[(0,.sl (rSl rR15) l_)],5⟩) (fun st=>z157_13_k1 N st.1 st.2=some r) ?_ (fun j1=>?_))
 ·rintro ⟨vbk1_1_1_1,vbk1_1_2_1⟩ h
  replace h:z157_13_k1 N vbk1_1_1_1 vbk1_1_2_1=some r:=h
  unfold z157_13_k1 at h
  refine wa J 2 (eBs J [] oS ([(str [125])]:List ByteArray) ?_)
  obtain ⟨d,e,h⟩:=ob h
  refine eCl (z104_11_ct N ([(str [125])]:List ByteArray) (⟨vbk1_1_1_1,vbk1_1_2_1⟩:T20) _ e) [5] [(0,.sl 5),(1,.bp 1 0),(2,.sl 4)] ?_
  cases h
  exact wr J 1 func157 [(4,.sl 6)]
 refine wa J 1 (eLoop (σ:=ByteArray × Int × Int) (fun st=>⟨[(0,.B 1 0),(1,.c (.s head_)),(2,.c (.s word_)),(3,.c (.s last_)),(4,.S 0),(12,.S 0),(13,.I (l_.length:Int)),(14,.I st.2.2)],[(1,.box [.bp 1 0,.sl 4,.I st.2.1] 177),(3,.abs powT),(4,.buf st.1 5)],[(0,.sl (rSl rR15) l_)],5⟩) (fun n st=>z157_13_l2 N rc head_ word_ last_ l_ n st.1 st.2.1 st.2.2) (r:=r) (fun _=>rfl) ?_ (fun ih=>?_))
 ·intro n2 ih6
  rintro ⟨vbk1_1_1_6,vbk1_1_2_6,f⟩ h
  replace h:z157_13_l2 N rc head_ word_ last_ l_ (n2+1) vbk1_1_1_6 vbk1_1_2_6 f=some r:=h
  unfold z157_13_l2 at h
  refine wB' J 5 h (fun h=>wa J 2 (eSub [] (j1 (vbk1_1_1_6,vbk1_1_2_6) h))) fun h=>?_
  refine wO J 7 h fun g i h=>eIx J (oSl rR15) i (wa J 12 (eCut (σ:=ByteArray × Int) (fun st=>⟨[(0,.B 1 0),(1,.c (.s head_)),(2,.c (.s word_)),(3,.c (.s last_)),(4,.S 0),(11,.S 6),(12,.S 0),(13,.I (l_.length:Int)),(14,.I f)],[(1,.box [.bp 1 0,.sl 7,.I st.2] 177),(3,.abs powT),(7,.buf st.1 5)],[(0,.sl (rSl rR15) l_),(6,.sl rR15 g)],8⟩) (fun st=>z157_13_k3 rc f (z157_13_l2 N rc head_ word_ last_ l_ n2) g st.1 st.2=some r) ?_ (fun j9=>?_)))
  ·rintro ⟨vbk1_1_1_9,vbk1_1_2_9⟩ h
   replace h:z157_13_k3 rc f (z157_13_l2 N rc head_ word_ last_ l_ n2) g vbk1_1_1_9 vbk1_1_2_9=some r:=h
   unfold z157_13_k3 at h
   exact wO J 16 h fun j k h=>eCl (rc_Psyntax_printer_items_al_ct g (⟨vbk1_1_1_9,(w64 (vbk1_1_2_9+1))⟩:T20) _ k) [] [(0,.sl 6),(1,.bp 1 0),(2,.sl 7),(3,.sl 3)] (wa J 16 (eSub [(4,.sl 8)] (ih6 (j.Builder,(w64 (j.depth'-1)),(w64 (f+1))) h)))
  refine eB h (fun h=>wa J 4 (eBs J [] oS ([head_,(str [32,123])]:List ByteArray) ?_)) fun h=>?_
  ·obtain ⟨l,m,h⟩:=ob h
   exact eCl (z104_11_ct N ([head_,(str [32,123])]:List ByteArray) (⟨vbk1_1_1_6,vbk1_1_2_6⟩:T20) _ m) [7] [(0,.sl 7),(1,.bp 1 0),(2,.sl 4)] (wa J 1 (eSub [(7,.sl 8)] (j9 (l.Builder,l.depth') h)))
  refine wB' J 9 h (fun h=>wa J 9 (eBs J [] oS ([(str [125,32]),word_,(str [32,123])]:List ByteArray) ?_)) fun h=>?_
  ·obtain ⟨o,p,h⟩:=ob h
   exact eCl (z104_11_ct N ([(str [125,32]),word_,(str [32,123])]:List ByteArray) (⟨vbk1_1_1_6,vbk1_1_2_6⟩:T20) _ p) [7] [(0,.sl 7),(1,.bp 1 0),(2,.sl 4)] (wa J 1 (eSub [(7,.sl 8)] (j9 (o.Builder,o.depth') h)))
  refine wB J 5 h (fun h=>wa J 4 (eBs J [] oS ([(str [125,32]),last_,(str [32,123])]:List ByteArray) ?_)) fun h=>wa J 4 (eBs J [] oS ([(str [125,32]),word_,(str [32,123])]:List ByteArray) ?_)
  ·obtain ⟨q,u,h⟩:=ob h
   exact eCl (z104_11_ct N ([(str [125,32]),last_,(str [32,123])]:List ByteArray) (⟨vbk1_1_1_6,vbk1_1_2_6⟩:T20) _ u) [7] [(0,.sl 7),(1,.bp 1 0),(2,.sl 4)] (wa J 1 (eSub [(7,.sl 8)] (j9 (q.Builder,q.depth') h)))
  obtain ⟨v,x,h⟩:=ob h
  exact eCl (z104_11_ct N ([(str [125,32]),word_,(str [32,123])]:List ByteArray) (⟨vbk1_1_1_6,vbk1_1_2_6⟩:T20) _ x) [7] [(0,.sl 7),(1,.bp 1 0),(2,.sl 4)] (wa J 1 (eSub [(7,.sl 8)] (j9 (v.Builder,v.depth') h)))
 exact eSub [(4,.sl 2)] (ih N (c0_.Builder,c0_.depth',0) h)
theorem z107_14_b_ct (N:Nat) (rc:(List T15)→T20→Option T20) (rc_Psyntax_printer_items_al_ct:(∀ (l_:(List T15)) (c0_:T20) (r:T20),rc l_ c0_=some r→Fn Tryz.prog 107 ⟨4,[.B 1 0,.S 0],[(0,.sl rR15 l_)],[(1,.box [.bp 1 0,.sl 2,.I c0_.depth'] 177),(2,.buf c0_.Builder 5),(3,.abs powT)],5,.t [],[],[(2,.gone),(4,.buf r.Builder 5),(1,.box [.bp 1 0,.sl 4,.I r.depth'] 177),(3,.abs powT)]⟩)) (l_:(List T15)) (c0_:T20) (r:T20) (h:z107_14_b N rc l_ c0_=some r) :
 Fn Tryz.prog 107 ⟨4,[.B 1 0,.S 0],[(0,.sl rR15 l_)],[(1,.box [.bp 1 0,.sl 2,.I c0_.depth'] 177),(2,.buf c0_.Builder 5),(3,.abs powT)],5,.t [],[],[(2,.gone),(4,.buf r.Builder 5),(1,.box [.bp 1 0,.sl 4,.I r.depth'] 177),(3,.abs powT)]⟩:=by
 refine eFn func107 rfl (fun E F w=>?_)
 unfold z107_14_b at h
 refine wa J 6 (eCut (σ:=ByteArray × Int) (fun st=>⟨[],[(1,.box [.bp 1 0,.sl 4,.I st.2] 177),(3,.abs powT),(4,.buf st.1 5)],[(0,.sl rR15 l_)],5⟩) (fun st=>z107_14_k1 st.1 st.2=some r) ?_ (fun j1=>?_))
 ·rintro ⟨vbk1_1_1_1,vbk1_1_2_1⟩ h
  replace h:z107_14_k1 vbk1_1_1_1 vbk1_1_2_1=some r:=h
  unfold z107_14_k1 at h
  cases h
  exact eRet J func107 [(4,.sl 4)]
 refine wa J 1 (eLoop (σ:=ByteArray × Int × Int) (fun st=>⟨[(0,.B 1 0),(6,.S 0),(7,.I (l_.length:Int)),(8,.I st.2.2)],[(1,.box [.bp 1 0,.sl 4,.I st.2.1] 177),(3,.abs powT),(4,.buf st.1 5)],[(0,.sl rR15 l_)],5⟩) (fun n st=>z107_14_l2 N rc l_ n st.1 st.2.1 st.2.2) (r:=r) (fun _=>rfl) ?_ (fun ih=>?_))
 ·intro n2 ih3
  rintro ⟨vbk1_1_1_3,vbk1_1_2_3,c⟩ h
  replace h:z107_14_l2 N rc l_ (n2+1) vbk1_1_1_3 vbk1_1_2_3 c=some r:=h
  unfold z107_14_l2 at h
  refine wB' J 5 h (fun h=>wa J 2 (eSub [] (j1 (vbk1_1_1_3,vbk1_1_2_3) h))) fun h=>?_
  refine wO J 6 h fun d e h=>eIx J oO15 e ?_
  refine wB J 15 h (fun h=>?_) fun h=>?_
  ·refine wO J 7 h fun f g h=>eCl (z105_ct N d.To (str [44,32]) _ g) [] [(0,.sl 6)] (wa J 2 (eBs J [] oS ([d.From,(str [32,45,62,32]),f,(str [58,32]),d.Name,(str [59])]:List ByteArray) ?_))
   obtain ⟨i,j,h⟩:=ob h
   exact eCl (z104_11_ct N ([d.From,(str [32,45,62,32]),f,(str [58,32]),d.Name,(str [59])]:List ByteArray) (⟨vbk1_1_1_3,vbk1_1_2_3⟩:T20) _ j) [9] [(0,.sl 9),(1,.bp 1 0),(2,.sl 4)] (eEnd (wa J 6 (eSub [(4,.sl 10)] (ih3 (i.Builder,i.depth',(w64 (c+1))) h))))
  refine wB J 6 h (fun h=>?_) fun h=>?_
  ·refine wB' J 7 h (fun h=>?_) fun h=>?_
   ·refine wO J 5 h fun k l h=>eCa l ?_
    exact wO J 2 h fun m o h=>eCl (z157_13_ct N rc rc_Psyntax_printer_items_al_ct k (str [111,114]) (str []) d.Blocks (⟨vbk1_1_1_3,vbk1_1_2_3⟩:T20) _ o) [] [(0,.sl 7),(1,.bp 1 0),(2,.sl 4),(3,.sl 3)] (wa J 7 (eSub [(4,.sl 9)] (ih3 (m.Builder,m.depth',(w64 (c+1))) h)))
   refine wO J 5 h fun p q h=>eCa q ?_
   obtain ⟨s,u,h⟩:=ob h
   refine eCa u ?_
   refine wO J 2 h fun v x h=>eCl (z155_ct N d.Ticks _ x) [] [(0,.sl 3)] ?_
   obtain ⟨y,z,h⟩:=ob h
   refine eCa z ?_
   exact wO J 2 h fun A C h=>eCl (z157_13_ct N rc rc_Psyntax_printer_items_al_ct y (str [111,114]) (str [101,108,115,101]) d.Blocks (⟨vbk1_1_1_3,vbk1_1_2_3⟩:T20) _ C) [] [(0,.sl 7),(1,.bp 1 0),(2,.sl 4),(3,.sl 3)] (eEnd (wa J 6 (eSub [(4,.sl 9)] (ih3 (A.Builder,A.depth',(w64 (c+1))) h))))
  refine wB J 6 h (fun h=>?_) fun h=>?_
  ·refine wO J 5 h fun D G h=>eCa G ?_
   exact wO J 2 h fun H R h=>eCl (z157_13_ct N rc rc_Psyntax_printer_items_al_ct D (str []) (str []) d.Blocks (⟨vbk1_1_1_3,vbk1_1_2_3⟩:T20) _ R) [] [(0,.sl 7),(1,.bp 1 0),(2,.sl 4),(3,.sl 3)] (wa J 7 (eSub [(4,.sl 9)] (ih3 (H.Builder,H.depth',(w64 (c+1))) h)))
  refine wB J 6 h (fun h=>wa J 5 (eBs J [] oS ([(str [97,103,97,105,110,32]),d.Name,(str [59])]:List ByteArray) ?_)) fun h=>?_
  ·obtain ⟨T,U,h⟩:=ob h
   exact eCl (z104_11_ct N ([(str [97,103,97,105,110,32]),d.Name,(str [59])]:List ByteArray) (⟨vbk1_1_1_3,vbk1_1_2_3⟩:T20) _ U) [9] [(0,.sl 9),(1,.bp 1 0),(2,.sl 4)] (wa J 7 (eSub [(4,.sl 10)] (ih3 (T.Builder,T.depth',(w64 (c+1))) h)))
  refine wB J 6 h (fun h=>?_) fun h=>?_
  ·exact wO J 5 h fun X Y h=>eCl (z157_13_ct N rc rc_Psyntax_printer_items_al_ct (str [112,97,114]) (str [97,110,100]) (str []) d.Blocks (⟨vbk1_1_1_3,vbk1_1_2_3⟩:T20) _ Y) [] [(0,.sl 7),(1,.bp 1 0),(2,.sl 4),(3,.sl 3)] (wa J 7 (eSub [(4,.sl 9)] (ih3 (X.Builder,X.depth',(w64 (c+1))) h)))
  refine wB' J 6 h (fun h=>wa J 8 (eSub [] (ih3 (vbk1_1_1_3,vbk1_1_2_3,(w64 (c+1))) h))) fun h=>?_
  refine wO J 7 h fun Z a0 h=>eCl (z105_ct N d.To (str [44,32]) _ a0) [] [(0,.sl 6)] (wa J 2 (eBs J [] oS ([(str [99,97,108,108,32]),d.Name,(str [40]),Z,(str [41,32,97,115,32]),d.As,(str [59])]:List ByteArray) ?_))
  obtain ⟨b0,c0,h⟩:=ob h
  exact eCl (z104_11_ct N ([(str [99,97,108,108,32]),d.Name,(str [40]),Z,(str [41,32,97,115,32]),d.As,(str [59])]:List ByteArray) (⟨vbk1_1_1_3,vbk1_1_2_3⟩:T20) _ c0) [9] [(0,.sl 9),(1,.bp 1 0),(2,.sl 4)] (eEnd (wa J 6 (eSub [(4,.sl 10)] (ih3 (b0.Builder,b0.depth',(w64 (c+1))) h))))
 exact eSub [(4,.sl 2)] (ih N (c0_.Builder,c0_.depth',0) h)
theorem z107_14_rct:∀ (N:Nat) (l_:(List T15)) (c0_:T20) (r:T20) (h:z107_14_r N l_ c0_=some r),Fn Tryz.prog 107 ⟨4,[.B 1 0,.S 0],[(0,.sl rR15 l_)],[(1,.box [.bp 1 0,.sl 2,.I c0_.depth'] 177),(2,.buf c0_.Builder 5),(3,.abs powT)],5,.t [],[],[(2,.gone),(4,.buf r.Builder 5),(1,.box [.bp 1 0,.sl 4,.I r.depth'] 177),(3,.abs powT)]⟩:=by
 intro N
 induction N with
 | zero=>intros;rename_i h;cases h
 | succ N ih=>intro l_ c0_ r h;exact z107_14_b_ct N (z107_14_r N) ih l_ c0_ r h
theorem z107_14_ct (N:Nat) (l_:(List T15)) (c0_:T20) (r:T20) (h:z107_14 N l_ c0_=some r):Fn Tryz.prog 107 ⟨4,[.B 1 0,.S 0],[(0,.sl rR15 l_)],[(1,.box [.bp 1 0,.sl 2,.I c0_.depth'] 177),(2,.buf c0_.Builder 5),(3,.abs powT)],5,.t [],[],[(2,.gone),(4,.buf r.Builder 5),(1,.box [.bp 1 0,.sl 4,.I r.depth'] 177),(3,.abs powT)]⟩:=z107_14_rct N l_ c0_ r h
theorem z108_15_ct (N:Nat) (c0_:T20) (r:ByteArray) (h:z108_15 N c0_=some r) :
 Fn Tryz.prog 108 ⟨2,[.B 0 0],[],[(0,.box [.bp 0 0,.sl 1,.I c0_.depth'] 177),(1,.buf c0_.Builder 5)],2,.c (.s r),[],[(0,.box [.bp 0 0,.sl 1,.I c0_.depth'] 177),(1,.gone)]⟩:=by
 refine eFn func108 rfl (fun E F w=>?_)
 unfold z108_15 at h
 refine wO J 10 h fun x1 d h=>eUd (ty:=5) (gdB_ok d) (wa J 4 (eBl (sb:=c0_.Builder) (ty:=5) J ?_))
 obtain ⟨x2,e,h⟩:=ob h
 refine eUs (ty:=5) (gdB_ok e) (wa J 1 (eEnd ?_))
 cases h
 exact eRet J func108 []
theorem z108_16_ct (N:Nat) (c0_:T20) (r:ByteArray) (h:z108_16 N c0_=some r) :
 Fn Tryz.prog 108 ⟨1,[.B 0 0],[],[(0,.box [.v (.pointer none),.nil,.I c0_.depth'] 177)],1,.c (.s r),[],[(0,.box [.v (.pointer none),.nil,.I c0_.depth'] 177)]⟩:=by
 refine eFn func108 rfl (fun E F w=>?_)
 unfold z108_16 at h
 refine wa J 10 (eUn (wa J 5 (eUz (wa J 1 (eEnd ?_)))))
 cases h
 exact eRet J func108 []
theorem z45_ct (N:Nat) (l_:(List T17)) (r:ByteArray) (h:z45 N l_=some r) :
 Fn Tryz.prog 45 ⟨2,[.S 0],[(0,.sl rR17 l_)],[(1,.abs powT)],2,.c (.s r),[],[(1,.abs powT)]⟩:=by
 refine eFn func45 rfl (fun E F w=>?_)
 unfold z45 at h
 refine wa J 18 (ePl ?_)
 refine wB' J 5 h (fun h=>?_) fun h=>?_
 ·refine wO J 7 h fun d e h=>eCl (z108_16_ct N (⟨ByteArray.empty,0⟩:T20) _ e) [] [(0,.bp 2 0)] ?_
  cases h
  exact wr J 2 func45 []
 refine wO J 6 h fun f g h=>eIx J oO17 g ?_
 refine wO J 11 h fun i j h=>eCl (z105_ct N f.Roles (str [44,32]) _ j) [] [(0,.sl 4)] (eBs J [] oS ([(str [112,114,111,116,111,99,111,108,32]),f.Name,(str [40]),i,(str [41,32,123])]:List ByteArray) ?_)
 obtain ⟨k,l,h⟩:=ob h
 refine eCl (z104_8_ct N ([(str [112,114,111,116,111,99,111,108,32]),f.Name,(str [40]),i,(str [41,32,123])]:List ByteArray) (⟨ByteArray.empty,0⟩:T20) _ l) [8] [(0,.sl 8),(1,.bp 2 0)] (eEnd (wa J 19 (eCut (σ:=ByteArray × Int) (fun st=>(zz20 powT st.2 f.Name st.1 l_ f [(3,.B 2 0),(5,.B 7 0),(10,.S 0),(11,.I (l_.length:Int)),(12,.I 0)])) (fun st=>z45_k4 N l_ f st.1 st.2=some r) ?_ (fun j15=>?_))))
 ·rintro ⟨m,o⟩ h
  replace h:z45_k4 N l_ f m o=some r:=h
  unfold z45_k4 at h
  refine wO J 5 h fun p q h=>eCl (z107_14_ct N f.Body (⟨m,o⟩:T20) _ q) [] [(0,.sl 6),(1,.bp 2 0),(2,.sl 10),(3,.sl 1)] (wa J 14 (eBs J [] oS ([(str [125])]:List ByteArray) ?_))
  obtain ⟨t,u,h⟩:=ob h
  refine eCl (z104_11_ct N ([(str [125])]:List ByteArray) (⟨p.Builder,(w64 (p.depth'-1))⟩:T20) _ u) [12] [(0,.sl 12),(1,.bp 2 0),(2,.sl 11)] (wa J 6 (eLoopI (σ:=ByteArray × Int × Int) (fun st=>⟨[(3,.B 2 0),(10,.S 0),(11,.I (l_.length:Int)),(12,.I st.2.2)],[(1,.abs powT),(2,.box [.bp 2 0,.sl 14,.I st.2.1] 177),(14,.buf st.1 5)],[(0,.sl rR17 l_)],15⟩) (fun n st=>z45_l1 N l_ n st.1 st.2.1 st.2.2) (r:=r) (fun _=>rfl) ?_ (fun ih=>?_)))
  ·intro n15 ih17
   rintro ⟨v,x,y⟩ h
   replace h:z45_l1 N l_ (n15+1) v x y=some r:=h
   unfold z45_l1 at h
   refine wB' J 5 h (fun h=>?_) fun h=>?_
   ·refine wO J 7 h fun z A h=>eCl (z108_15_ct N (⟨v,x⟩:T20) _ A) [] [(0,.bp 2 0),(1,.sl 14)] ?_
    cases h
    exact wr J 2 func45 []
   refine wO J 6 h fun C D h=>eIx J oO17 D ?_
   refine wO J 11 h fun G H h=>eCl (z105_ct N C.Roles (str [44,32]) _ H) [] [(0,.sl 16)] (eBs J [] oS ([(str [112,114,111,116,111,99,111,108,32]),C.Name,(str [40]),G,(str [41,32,123])]:List ByteArray) ?_)
   obtain ⟨R,T,h⟩:=ob h
   refine eCl (z104_11_ct N ([(str [112,114,111,116,111,99,111,108,32]),C.Name,(str [40]),G,(str [41,32,123])]:List ByteArray) (⟨v,x⟩:T20) _ T) [20] [(0,.sl 20),(1,.bp 2 0),(2,.sl 14)] (eEnd (wa J 19 (eCut (σ:=ByteArray × Int) (fun st=>(zz21 powT st.2 C.Name st.1 l_ C [(3,.B 2 0),(5,.B 19 0),(10,.S 0),(11,.I (l_.length:Int)),(12,.I y)])) (fun st=>z45_k2 N y (z45_l1 N l_ n15) C st.1 st.2=some r) ?_ (fun j24=>?_))))
   ·rintro ⟨U,X⟩ h
    replace h:z45_k2 N y (z45_l1 N l_ n15) C U X=some r:=h
    unfold z45_k2 at h
    refine wO J 5 h fun Y Z h=>eCl (z107_14_ct N C.Body (⟨U,X⟩:T20) _ Z) [] [(0,.sl 18),(1,.bp 2 0),(2,.sl 22),(3,.sl 1)] (wa J 14 (eBs J [] oS ([(str [125])]:List ByteArray) ?_))
    obtain ⟨a0,b0,h⟩:=ob h
    exact eCl (z104_11_ct N ([(str [125])]:List ByteArray) (⟨Y.Builder,(w64 (Y.depth'-1))⟩:T20) _ b0) [24] [(0,.sl 24),(1,.bp 2 0),(2,.sl 23)] (wa J 6 (eSub [(14,.sl 25)] (ih17 (a0.Builder,a0.depth',(w64 (y+1))) h)))
   refine wa J 1 (eLoop (σ:=ByteArray × Int × Int) (fun st=>(zz21 powT st.2.1 C.Name st.1 l_ C [(3,.B 2 0),(5,.B 19 0),(10,.S 0),(11,.I (l_.length:Int)),(12,.I y),(32,.S 17),(33,.I (C.Messages.length:Int)),(34,.I st.2.2)])) (fun n st=>z45_l3 N y (z45_l1 N l_ n15) C n st.1 st.2.1 st.2.2) (r:=r) (fun _=>rfl) ?_ (fun ih=>?_))
   ·intro n17 ih26
    rintro ⟨c0,d0,e0⟩ h
    replace h:z45_l3 N y (z45_l1 N l_ n15) C (n17+1) c0 d0 e0=some r:=h
    unfold z45_l3 at h
    refine wB' J 5 h (fun h=>wa J 2 (eSub [] (j24 (c0,d0) h))) fun h=>?_
    refine wO J 6 h fun f0 g0 h=>eIx J oO16 g0 ?_
    exact wO J 7 h fun i0 j0 h=>eCl (z106_12_ct N f0 (⟨c0,d0⟩:T20) _ j0) [] [(0,.sl 24),(1,.sl 25),(2,.bp 2 0),(3,.sl 22),(4,.sl 1)] (wa J 6 (eSub [(22,.sl 27)] (ih26 (i0.Builder,i0.depth',(w64 (e0+1))) h)))
   exact eSub [(22,.sl 21)] (ih N (R.Builder,(w64 (R.depth'+1)),0) h)
  exact eSub [(14,.sl 13)] (ih N (t.Builder,t.depth',(w64 ((0:Int)+(1:Int)))) h)
 refine wa J 1 (eLoop (σ:=ByteArray × Int × Int) (fun st=>(zz20 powT st.2.1 f.Name st.1 l_ f [(3,.B 2 0),(5,.B 7 0),(10,.S 0),(11,.I (l_.length:Int)),(12,.I 0),(32,.S 5),(33,.I (f.Messages.length:Int)),(34,.I st.2.2)])) (fun n st=>z45_l5 N l_ f n st.1 st.2.1 st.2.2) (r:=r) (fun _=>rfl) ?_ (fun ih=>?_))
 ·intro n18 ih27
  rintro ⟨k0,l0,m0⟩ h
  replace h:z45_l5 N l_ f (n18+1) k0 l0 m0=some r:=h
  unfold z45_l5 at h
  refine wB' J 5 h (fun h=>wa J 2 (eSub [] (j15 (k0,l0) h))) fun h=>?_
  refine wO J 6 h fun o0 p0 h=>eIx J oO16 p0 ?_
  exact wO J 7 h fun q0 s0 h=>eCl (z106_12_ct N o0 (⟨k0,l0⟩:T20) _ s0) [] [(0,.sl 12),(1,.sl 13),(2,.bp 2 0),(3,.sl 10),(4,.sl 1)] (wa J 6 (eSub [(10,.sl 15)] (ih27 (q0.Builder,q0.depth',(w64 (m0+1))) h)))
 exact eSub [(10,.sl 9)] (ih N (k.Builder,(w64 (k.depth'+1)),0) h)
theorem z18_ct (N:Nat) (l_:(List T17)) (r:Bool) (h:z18 N l_=some r) :
 Fn Tryz.prog 18 ⟨2,[.S 0],[(0,.sl rR17 l_)],[(1,.abs powT)],2,.O r,[],[(1,.abs powT)]⟩:=by
 refine eFn func18 rfl (fun E F w=>?_)
 unfold z18 at h
 refine wB J 11 h (fun h=>?_) fun h=>wa J 9 (eCut (σ:=Unit) (fun st=>⟨[(0,.S 0)],[(1,.abs powT)],[(0,.sl rR17 l_)],2⟩) (fun st=>z18_k1 N l_=some r) ?_ (fun j1=>?_))
 ·cases h
  exact wr J 5 func18 []
 ·intro _ h
  replace h:z18_k1 N l_=some r:=h
  unfold z18_k1 at h
  refine wO J 3 h fun c d h=>eCl (z45_ct N l_ _ d) [] [(0,.sl 0),(1,.sl 1)] ?_
  cases h
  exact wr J 4 func18 []
 refine wa J 1 (eLoop (σ:=Int) (fun st=>⟨[(0,.S 0),(11,.S 0),(12,.I (l_.length:Int)),(13,.I st)],[(1,.abs powT)],[(0,.sl rR17 l_)],2⟩) (fun n st=>z18_l2 N l_ n st) (r:=r) (fun _=>rfl) ?_ (fun ih=>?_))
 ·intro n12 ih12
  intro e h
  replace h:z18_l2 N l_ (n12+1) e=some r:=h
  unfold z18_l2 at h
  refine wB' J 5 h (fun h=>wa J 2 (eSub [] (j1 () h))) fun h=>?_
  refine wO J 6 h fun f g h=>eIx J oO17 g ?_
  refine wO J 14 h fun i j h=>eCl (z41_ct N f.Name _ j) [] [] ?_
  refine wB J 2 h (fun h=>?_) fun h=>?_
  ·cases h
   exact wr J 23 func18 []
  refine wO J 2 h fun k l h=>eCl (z42_ct N f.Roles 6 _ l) [] [(0,.sl 3)] ?_
  refine wB J 3 h (fun h=>?_) fun h=>?_
  ·cases h
   exact wr J 17 func18 []
  refine wB J 6 h (fun h=>?_) fun h=>?_
  ·cases h
   exact wr J 11 func18 []
  refine wO J 2 h fun m o h=>eCl (z43_ct N f.Body 1 0 _ o) [] [(0,.sl 5),(1,.bp 7 0)] ?_
  refine wB J 3 h (fun h=>?_) fun h=>wa J 9 (eCut (σ:=Unit) (fun st=>⟨[(0,.S 0),(11,.S 0),(12,.I (l_.length:Int)),(13,.I e)],[(1,.abs powT)],[(0,.sl rR17 l_)],8⟩) (fun st=>z18_k3 e (z18_l2 N l_ n12)=some r) ?_ (fun j19=>?_))
  ·cases h
   exact wr J 5 func18 []
  ·intro _ h
   replace h:z18_k3 e (z18_l2 N l_ n12)=some r:=h
   unfold z18_k3 at h
   exact wa J 5 (eSub [] (ih12 (w64 (e+1)) h))
  refine wa J 1 (eLoop (σ:=Int) (fun st=>⟨[(0,.S 0),(11,.S 0),(12,.I (l_.length:Int)),(13,.I e),(40,.S 4),(41,.I (f.Messages.length:Int)),(42,.I st)],[(1,.abs powT)],[(0,.sl rR17 l_),(4,.sl rR16 f.Messages)],8⟩) (fun n st=>z18_l4 N e (z18_l2 N l_ n12) f n st) (r:=r) (fun _=>rfl) ?_ (fun ih=>?_))
  ·intro n14 ih21
   intro p h
   replace h:z18_l4 N e (z18_l2 N l_ n12) f (n14+1) p=some r:=h
   unfold z18_l4 at h
   refine wB' J 5 h (fun h=>wa J 2 (eSub [] (j19 () h))) fun h=>?_
   refine wO J 6 h fun q s h=>eIx J oO16 s ?_
   refine wO J 7 h fun t u h=>eCl (z44_ct N q _ u) [] [(0,.sl 9),(1,.sl 10)] ?_
   refine wB J 2 h (fun h=>?_) fun h=>wa J 7 (eSub [] (ih21 (w64 (p+1)) h))
   cases h
   exact wr J 5 func18 []
  exact eSub [] (ih N 0 h)
 exact eSub [] (ih N 0 h)
theorem z15_ct (N:Nat) (s_:ByteArray) (r:(List T17) × Int × Int) (h:z15 N s_=some r) :
 Fn Tryz.prog 15 ⟨1,[.c (.s s_)],[],[(0,.abs powT)],2,.t [.inl (.sl 1),.inl (.I r.2.1),.inl (.I r.2.2)],[(1,.sl rR17 r.1)],[(0,.abs powT)]⟩:=by
 refine eFn func15 rfl (fun E F w=>?_)
 unfold z15 at h
 refine wO J 9 h fun x1 d h=>eCl (z32_ct N s_ _ d) [] [] ?_
 refine wB J 14 h (fun h=>?_) fun h=>wa J 12 (eCut (σ:=(List T17) × (List T4) × Int × Int × Int × Int) (fun st=>⟨[(2,.S 3),(6,.B 2 0)],[(0,.abs powT),(2,.box [.sl 4,.I st.2.2.1,.I st.2.2.2.1,.I st.2.2.2.2.1,.I st.2.2.2.2.2] 99),(3,.own rR17 st.1 true)],[(4,.sl rR4 st.2.1)],5⟩) (fun st=>z15_k1 N st.1 st.2.1 st.2.2.1 st.2.2.2.1 st.2.2.2.2.1 st.2.2.2.2.2=some r) ?_ (fun j1=>?_))
 ·cases h
  exact wr J 9 func15 [(1,.nil)]
 ·rintro ⟨e,f,g,i,j,k⟩ h
  replace h:z15_k1 N e f g i j k=some r:=h
  unfold z15_k1 at h
  refine wB J 9 h (fun h=>wa J 14 (eEnd ?_)) fun h=>?_
  ·cases h
   exact eRet J func15 [(1,.nil)]
  refine wO J 6 h fun l m h=>eCl (z18_ct N e _ m) [3] [(0,.sl 3),(1,.sl 0)] ?_
  refine wB J 2 h (fun h=>?_) fun h=>?_
  ·cases h
   exact wr J 7 func15 [(1,.nil)]
  cases h
  exact wr J 9 func15 [(1,.sl 3)]
 refine wa J 1 (eLoop (σ:=(List T17) × (List T4) × Int × Int × Int × Int) (fun st=>⟨[(2,.S 3),(5,.S 1),(6,.B 2 0)],[(0,.abs powT),(2,.box [.sl 4,.I st.2.2.1,.I st.2.2.2.1,.I st.2.2.2.2.1,.I st.2.2.2.2.2] 99),(3,.own rR17 st.1 true)],[(1,.sl rR4 x1.1),(4,.sl rR4 st.2.1)],5⟩) (fun n st=>z15_l2 N x1 n st.1 st.2.1 st.2.2.1 st.2.2.2.1 st.2.2.2.2.1 st.2.2.2.2.2) (r:=r) (fun _=>rfl) ?_ (fun ih=>?_))
 ·intro n2 ih3
  rintro ⟨o,p,q,u,v,x⟩ h
  replace h:z15_l2 N x1 (n2+1) o p q u v x=some r:=h
  unfold z15_l2 at h
  refine wB' J 11 h (fun h=>wa J 9 (eSub [] (j1 (o,p,q,u,v,x) h))) fun h=>?_
  refine wB' J 7 h (fun h=>wa J 2 (eSub [] (j1 (o,p,q,u,v,x) h))) fun h=>?_
  refine wO J 6 h fun y z h=>eCl (z33_ct N (⟨p,q,u,v,x⟩:T19) _ z) [] [(0,.bp 2 0),(1,.sl 4)] (eBs J [] oO17 ([y.1]:List T17) ?_)
  obtain ⟨A,C,h⟩:=ob h
  exact eAp J rR17 C (wa J 3 (eSub [(3,.sl 10),(4,.sl 8)] (ih3 (A,y.2.l',y.2.n',y.2.end',y.2.at',y.2.err') h)))
 exact eFr [1] (eSub [(3,.nil),(4,.sl 1)] (ih N (([]:List T17),x1.1,0,(s_.size:Int),0,0) h))
theorem z23_17_ct (N:Nat) (q_:T17) (c0_:T17) (r:Bool) (h:z23_17 N q_ c0_=some r) :
 Fn Tryz.prog 23 ⟨7,[.a [.s q_.Name,.sl 0,.sl 1,.sl 2],.B 3 0],(vV17 0 1 2 q_ (vV17 4 5 6 c0_ [])),[(3,.box [.s c0_.Name,.sl 4,.sl 5,.sl 6] 35)],7,.O r,[],[(3,.box [.s c0_.Name,.sl 4,.sl 5,.sl 6] 35)]⟩:=by
 refine eFn func23 rfl (fun E F w=>?_)
 unfold z23_17 at h
 cases h
 exact wr J 14 func23 []
theorem z53_18_ct (N:Nat) (s_:(List T17)) (c0_:T17) (r:Int) (h:z53_18 N s_ c0_=some r) :
 Fn Tryz.prog 53 ⟨5,[.S 0,.c (.cl 23 [] [1])],((0,.sl rR17 s_)::vV17 2 3 4 c0_ []),[(1,.box [.s c0_.Name,.sl 2,.sl 3,.sl 4] 35)],5,.I r,[],[(1,.box [.s c0_.Name,.sl 2,.sl 3,.sl 4] 35)]⟩:=by
 refine eFn func53 rfl (fun E F w=>?_)
 unfold z53_18 at h
 refine wa J 11 (eCut (σ:=Unit) (fun st=>(zz6 c0_.Name s_ c0_ [])) (fun st=>z53_18_k1=some r) ?_ (fun j1=>?_))
 ·intro _ h
  replace h:z53_18_k1=some r:=h
  unfold z53_18_k1 at h
  cases h
  exact wr J 4 func53 []
 refine wa J 1 (eLoop (σ:=Int) (fun st=>(zz6 c0_.Name s_ c0_ [(0,.S 0),(1,.c (.cl 23 [] [1])),(7,.I (s_.length:Int)),(8,.I st)])) (fun n st=>z53_18_l2 N s_ c0_ n st) (r:=r) (fun _=>rfl) ?_ (fun ih=>?_))
 ·intro n2 ih3
  intro d h
  replace h:z53_18_l2 N s_ c0_ (n2+1) d=some r:=h
  unfold z53_18_l2 at h
  refine wB' J 5 h (fun h=>wa J 2 (eSub [] (j1 () h))) fun h=>?_
  refine wO J 14 h fun e f h=>eIx J oO17 f ?_
  refine wO J 1 h fun g i h=>eCl (z23_17_ct N e c0_ _ i) [] [(0,.sl 6),(1,.sl 7),(2,.sl 8),(3,.bp 1 0),(4,.sl 2),(5,.sl 3),(6,.sl 4)] ?_
  refine wB J 1 h (fun h=>?_) fun h=>wa J 7 (eSub [] (ih3 (w64 (d+1)) h))
  cases h
  exact wr J 6 func53 []
 exact eSub [] (ih N 0 h)
theorem z22_19_ct (N:Nat) (s_:(List T17)) (c0_:T17) (r:Bool) (h:z22_19 N s_ c0_=some r) :
 Fn Tryz.prog 22 ⟨5,[.S 0,.c (.cl 23 [] [1])],((0,.sl rR17 s_)::vV17 2 3 4 c0_ []),[(1,.box [.s c0_.Name,.sl 2,.sl 3,.sl 4] 35)],5,.O r,[],[(1,.box [.s c0_.Name,.sl 2,.sl 3,.sl 4] 35)]⟩:=by
 refine eFn func22 rfl (fun E F w=>?_)
 unfold z22_19 at h
 refine wO J 8 h fun x1 d h=>eCl (z53_18_ct N s_ c0_ _ d) [] [(0,.sl 0),(1,.bp 1 0),(2,.sl 2),(3,.sl 3),(4,.sl 4)] ?_
 cases h
 exact wr J 3 func22 []
theorem z25_ct (N:Nat) (l_:(List ByteArray)) (i_:Int) (r:Bool) (h:z25 N l_ i_=some r) :
 Fn Tryz.prog 25 ⟨1,[.S 0,.I i_],[(0,.sl rS l_)],[],1,.O r,[],[]⟩:=by
 refine eFn func25 rfl (fun E F w=>?_)
 unfold z25 at h
 refine wO J 8 h fun x1 c h=>eIs J rS c ?_
 refine wO J 2 h fun x2 d h=>eIx J oS d ?_
 refine wO J 1 h fun x3 e h=>eCl (z54_ct N x1 x2 _ e) [] [(0,.sl 1)] (wa J 1 (eEnd ?_))
 cases h
 exact eRet J func25 []
theorem z56_20_ct (N:Nat) (k_:T16) (c0_:T16) (r:Bool) (h:z56_20 N k_ c0_=some r) :
 Fn Tryz.prog 56 ⟨5,[.a [.s k_.Name,.sl 0,.sl 1],.B 2 0],(vV16 0 1 k_ (vV16 3 4 c0_ [])),[(2,.box [.s c0_.Name,.sl 3,.sl 4] 32)],5,.O r,[],[(2,.box [.s c0_.Name,.sl 3,.sl 4] 32)]⟩:=by
 refine eFn func56 rfl (fun E F w=>?_)
 unfold z56_20 at h
 cases h
 exact wr J 14 func56 []
theorem z123_21_ct (N:Nat) (s_:(List T16)) (c0_:T16) (r:Int) (h:z123_21 N s_ c0_=some r) :
 Fn Tryz.prog 123 ⟨4,[.S 0,.c (.cl 56 [] [1])],((0,.sl rR16 s_)::vV16 2 3 c0_ []),[(1,.box [.s c0_.Name,.sl 2,.sl 3] 32)],4,.I r,[],[(1,.box [.s c0_.Name,.sl 2,.sl 3] 32)]⟩:=by
 refine eFn func123 rfl (fun E F w=>?_)
 unfold z123_21 at h
 refine wa J 11 (eCut (σ:=Unit) (fun st=>⟨[],[(1,.box [.s c0_.Name,.sl 2,.sl 3] 32)],((0,.sl rR16 s_)::vV16 2 3 c0_ []),4⟩) (fun st=>z123_21_k1=some r) ?_ (fun j1=>?_))
 ·intro _ h
  replace h:z123_21_k1=some r:=h
  unfold z123_21_k1 at h
  cases h
  exact wr J 4 func123 []
 refine wa J 1 (eLoop (σ:=Int) (fun st=>⟨[(0,.S 0),(1,.c (.cl 56 [] [1])),(7,.I (s_.length:Int)),(8,.I st)],[(1,.box [.s c0_.Name,.sl 2,.sl 3] 32)],((0,.sl rR16 s_)::vV16 2 3 c0_ []),4⟩) (fun n st=>z123_21_l2 N s_ c0_ n st) (r:=r) (fun _=>rfl) ?_ (fun ih=>?_))
 ·intro n2 ih3
  intro d h
  replace h:z123_21_l2 N s_ c0_ (n2+1) d=some r:=h
  unfold z123_21_l2 at h
  refine wB' J 5 h (fun h=>wa J 2 (eSub [] (j1 () h))) fun h=>?_
  refine wO J 14 h fun e f h=>eIx J oO16 f ?_
  refine wO J 1 h fun g i h=>eCl (z56_20_ct N e c0_ _ i) [] [(0,.sl 5),(1,.sl 6),(2,.bp 1 0),(3,.sl 2),(4,.sl 3)] ?_
  refine wB J 1 h (fun h=>?_) fun h=>wa J 7 (eSub [] (ih3 (w64 (d+1)) h))
  cases h
  exact wr J 6 func123 []
 exact eSub [] (ih N 0 h)
theorem z55_22_ct (N:Nat) (s_:(List T16)) (c0_:T16) (r:Bool) (h:z55_22 N s_ c0_=some r) :
 Fn Tryz.prog 55 ⟨4,[.S 0,.c (.cl 56 [] [1])],((0,.sl rR16 s_)::vV16 2 3 c0_ []),[(1,.box [.s c0_.Name,.sl 2,.sl 3] 32)],4,.O r,[],[(1,.box [.s c0_.Name,.sl 2,.sl 3] 32)]⟩:=by
 refine eFn func55 rfl (fun E F w=>?_)
 unfold z55_22 at h
 refine wO J 8 h fun x1 d h=>eCl (z123_21_ct N s_ c0_ _ d) [] [(0,.sl 0),(1,.bp 1 0),(2,.sl 2),(3,.sl 3)] ?_
 cases h
 exact wr J 3 func55 []
theorem z58_23_ct (N:Nat) (x_:T0) (c0_:T0) (r:Bool) (h:z58_23 N x_ c0_=some r) :
 Fn Tryz.prog 58 ⟨1,[.a (cC0 x_),.B 0 0],[],[(0,.box (cC0 c0_) 128)],1,.O r,[],[(0,.box (cC0 c0_) 128)]⟩:=by
 refine eFn func58 rfl (fun E F w=>?_)
 unfold z58_23 at h
 cases h
 exact wr J 14 func58 []
theorem z124_24_ct (N:Nat) (s_:(List T0)) (c0_:T0) (r:Int) (h:z124_24 N s_ c0_=some r) :
 Fn Tryz.prog 124 ⟨2,[.S 0,.c (.cl 58 [] [1])],[(0,.sl rR0 s_)],[(1,.box (cC0 c0_) 128)],2,.I r,[],[(1,.box (cC0 c0_) 128)]⟩:=by
 refine eFn func124 rfl (fun E F w=>?_)
 unfold z124_24 at h
 refine wa J 11 (eCut (σ:=Unit) (fun st=>⟨[],[(1,.box (cC0 c0_) 128)],[(0,.sl rR0 s_)],2⟩) (fun st=>z124_24_k1=some r) ?_ (fun j1=>?_))
 ·intro _ h
  replace h:z124_24_k1=some r:=h
  unfold z124_24_k1 at h
  cases h
  exact wr J 4 func124 []
 refine wa J 1 (eLoop (σ:=Int) (fun st=>⟨[(0,.S 0),(1,.c (.cl 58 [] [1])),(7,.I (s_.length:Int)),(8,.I st)],[(1,.box (cC0 c0_) 128)],[(0,.sl rR0 s_)],2⟩) (fun n st=>z124_24_l2 N s_ c0_ n st) (r:=r) (fun _=>rfl) ?_ (fun ih=>?_))
 ·intro n2 ih3
  intro d h
  replace h:z124_24_l2 N s_ c0_ (n2+1) d=some r:=h
  unfold z124_24_l2 at h
  refine wB' J 5 h (fun h=>wa J 2 (eSub [] (j1 () h))) fun h=>?_
  refine wO J 14 h fun e f h=>eIx J oO0 f ?_
  refine wO J 1 h fun g i h=>eCl (z58_23_ct N e c0_ _ i) [] [(0,.bp 1 0)] ?_
  refine wB J 1 h (fun h=>?_) fun h=>wa J 7 (eSub [] (ih3 (w64 (d+1)) h))
  cases h
  exact wr J 6 func124 []
 exact eSub [] (ih N 0 h)
theorem z57_25_ct (N:Nat) (s_:(List T0)) (c0_:T0) (r:Bool) (h:z57_25 N s_ c0_=some r) :
 Fn Tryz.prog 57 ⟨2,[.S 0,.c (.cl 58 [] [1])],[(0,.sl rR0 s_)],[(1,.box (cC0 c0_) 128)],2,.O r,[],[(1,.box (cC0 c0_) 128)]⟩:=by
 refine eFn func57 rfl (fun E F w=>?_)
 unfold z57_25 at h
 refine wO J 8 h fun x1 d h=>eCl (z124_24_ct N s_ c0_ _ d) [] [(0,.sl 0),(1,.bp 1 0)] ?_
 cases h
 exact wr J 3 func57 []
theorem z125_26_ct (N:Nat) (k_:T16) (c0_:T18) (r:Bool) (h:z125_26 N k_ c0_=some r) :
 Fn Tryz.prog 125 ⟨3,[.a [.s k_.Name,.sl 0,.sl 1],.B 2 0],(vV16 0 1 k_ []),[(2,.box (cC18 c0_) 76)],3,.O r,[],[(2,.box (cC18 c0_) 76)]⟩:=by
 refine eFn func125 rfl (fun E F w=>?_)
 unfold z125_26 at h
 cases h
 exact wr J 14 func125 []
theorem z123_27_ct (N:Nat) (s_:(List T16)) (c0_:T18) (r:Int) (h:z123_27 N s_ c0_=some r) :
 Fn Tryz.prog 123 ⟨2,[.S 0,.c (.cl 125 [] [1])],[(0,.sl rR16 s_)],[(1,.box (cC18 c0_) 76)],2,.I r,[],[(1,.box (cC18 c0_) 76)]⟩:=by
 refine eFn func123 rfl (fun E F w=>?_)
 unfold z123_27 at h
 refine wa J 11 (eCut (σ:=Unit) (fun st=>⟨[],[(1,.box (cC18 c0_) 76)],[(0,.sl rR16 s_)],2⟩) (fun st=>z123_27_k1=some r) ?_ (fun j1=>?_))
 ·intro _ h
  replace h:z123_27_k1=some r:=h
  unfold z123_27_k1 at h
  cases h
  exact wr J 4 func123 []
 refine wa J 1 (eLoop (σ:=Int) (fun st=>⟨[(0,.S 0),(1,.c (.cl 125 [] [1])),(7,.I (s_.length:Int)),(8,.I st)],[(1,.box (cC18 c0_) 76)],[(0,.sl rR16 s_)],2⟩) (fun n st=>z123_27_l2 N s_ c0_ n st) (r:=r) (fun _=>rfl) ?_ (fun ih=>?_))
 ·intro n2 ih3
  intro d h
  replace h:z123_27_l2 N s_ c0_ (n2+1) d=some r:=h
  unfold z123_27_l2 at h
  refine wB' J 5 h (fun h=>wa J 2 (eSub [] (j1 () h))) fun h=>?_
  refine wO J 14 h fun e f h=>eIx J oO16 f ?_
  refine wO J 1 h fun g i h=>eCl (z125_26_ct N e c0_ _ i) [] [(0,.sl 3),(1,.sl 4),(2,.bp 1 0)] ?_
  refine wB J 1 h (fun h=>?_) fun h=>wa J 7 (eSub [] (ih3 (w64 (d+1)) h))
  cases h
  exact wr J 6 func123 []
 exact eSub [] (ih N 0 h)
theorem z126_28_ct (N:Nat) (f_:T0) (c0_:T18) (r:Bool) (h:z126_28 N f_ c0_=some r) :
 Fn Tryz.prog 126 ⟨1,[.a (cC0 f_),.B 0 0],[],[(0,.box (cC18 c0_) 76)],1,.O r,[],[(0,.box (cC18 c0_) 76)]⟩:=by
 refine eFn func126 rfl (fun E F w=>?_)
 unfold z126_28 at h
 cases h
 exact wr J 14 func126 []
theorem z124_29_ct (N:Nat) (s_:(List T0)) (c0_:T18) (r:Int) (h:z124_29 N s_ c0_=some r) :
 Fn Tryz.prog 124 ⟨2,[.S 0,.c (.cl 126 [] [1])],[(0,.sl rR0 s_)],[(1,.box (cC18 c0_) 76)],2,.I r,[],[(1,.box (cC18 c0_) 76)]⟩:=by
 refine eFn func124 rfl (fun E F w=>?_)
 unfold z124_29 at h
 refine wa J 11 (eCut (σ:=Unit) (fun st=>⟨[],[(1,.box (cC18 c0_) 76)],[(0,.sl rR0 s_)],2⟩) (fun st=>z124_29_k1=some r) ?_ (fun j1=>?_))
 ·intro _ h
  replace h:z124_29_k1=some r:=h
  unfold z124_29_k1 at h
  cases h
  exact wr J 4 func124 []
 refine wa J 1 (eLoop (σ:=Int) (fun st=>⟨[(0,.S 0),(1,.c (.cl 126 [] [1])),(7,.I (s_.length:Int)),(8,.I st)],[(1,.box (cC18 c0_) 76)],[(0,.sl rR0 s_)],2⟩) (fun n st=>z124_29_l2 N s_ c0_ n st) (r:=r) (fun _=>rfl) ?_ (fun ih=>?_))
 ·intro n2 ih3
  intro d h
  replace h:z124_29_l2 N s_ c0_ (n2+1) d=some r:=h
  unfold z124_29_l2 at h
  refine wB' J 5 h (fun h=>wa J 2 (eSub [] (j1 () h))) fun h=>?_
  refine wO J 14 h fun e f h=>eIx J oO0 f ?_
  refine wO J 1 h fun g i h=>eCl (z126_28_ct N e c0_ _ i) [] [(0,.bp 1 0)] ?_
  refine wB J 1 h (fun h=>?_) fun h=>wa J 7 (eSub [] (ih3 (w64 (d+1)) h))
  cases h
  exact wr J 6 func124 []
 exact eSub [] (ih N 0 h)
theorem z59_ct (N:Nat) (c_:T7) (m_:T16) (t_:T18) (r:Int) (h:z59 N c_ m_ t_=some r) :
 Fn Tryz.prog 59 ⟨8,[.B 0 0,.a [.s m_.Name,.sl 6,.sl 7],.a (cC18 t_)],(vV7 1 2 3 4 5 c_ (vV16 6 7 m_ [])),[(0,.box (cC7 1 2 3 4 5 c_) 86)],8,.I r,[],[(0,.box (cC7 1 2 3 4 5 c_) 86)]⟩:=by
 refine eFn func59 rfl (fun E F w=>?_)
 unfold z59 at h
 refine wa J 13 (eCut (σ:=ByteArray × (List T0) × (List T14)) (fun st=>⟨[(4,.B 8 0),(5,.B 9 0)],[(0,.box (cC7 1 2 3 4 5 c_) 86),(8,.box [.s st.1,.sl 10,.sl 11] 32),(9,.box (cC18 t_) 76)],(vV7 1 2 3 4 5 c_ (vV16 6 7 m_ [(10,.sl rR0 st.2.1),(11,.sl rR14 st.2.2)])),12⟩) (fun st=>z59_k1 N t_ st.1 st.2.1 st.2.2=some r) ?_ (fun j1=>?_))
 ·rintro ⟨c,d,e⟩ h
  replace h:z59_k1 N t_ c d e=some r:=h
  unfold z59_k1 at h
  refine wO J 5 h fun x3 f h=>eCl (z124_29_ct N d t_ _ f) [] [(0,.sl 10),(1,.bp 9 0)] ?_
  refine wB J 8 h (fun h=>?_) fun h=>?_
  ·cases h
   exact wr J 5 func59 []
  refine wO J 7 h fun x4 g h=>eIx J oO0 g ?_
  cases h
  exact wr J 5 func59 []
 refine eB' h (fun h=>wa J 2 (eSub [(10,.sl 6),(11,.sl 7)] (j1 (m_.Name,m_.Fields,m_.Where) h))) fun h=>?_
 refine wO J 9 h fun x5 i h=>eCl (z123_27_ct N c_.p'.Messages t_ _ i) [] [(0,.sl 3),(1,.bp 9 0)] ?_
 refine wB J 8 h (fun h=>?_) fun h=>?_
 ·cases h
  exact wr J 5 func59 []
 exact wO J 9 h fun x6 j h=>eIx J oO16 j (wa J 3 (eSub [(10,.sl 11),(11,.sl 12)] (j1 (x6.Name,x6.Fields,x6.Where) h)))
theorem z60_ct (N:Nat) (s_:(List T8)) (r:(List T8)) (h:z60 N s_=some r) :
 Fn Tryz.prog 60 ⟨1,[.S 0],[(0,.sl rR8 s_)],[],2,.S 1,[],[(1,.own rR8 r true)]⟩:=by
 refine eFn func60 rfl (fun E F w=>?_)
 unfold z60 at h
 refine wa J 8 (eNi rR8 s_ false ?_)
 intro nb hnb
 cases nb
 ·refine wa J 5 (eBs J [] oO8 ([]:List T8) ?_)
  refine wO J 1 h fun x1 c h=>eAp J rR8 c ?_
  cases h
  exact wr J 2 func60 [(1,.sl 2)]
 ·obtain rfl:=hnb rfl
  replace h:(some ([]:List T8):Option (List T8))=some r:=h
  cases h
  exact wr J 6 func60 [(1,.nil)]
theorem z127_30_ct (N:Nat) (m_:T16) (c0_:T15) (r:Bool) (h:z127_30 N m_ c0_=some r) :
 Fn Tryz.prog 127 ⟨5,[.a [.s m_.Name,.sl 0,.sl 1],.B 2 0],(vV16 0 1 m_ [(3,.sl rS c0_.To),(4,.sl (rSl rR15) c0_.Blocks)]),[(2,.box [.I c0_.Kind,.s c0_.From,.sl 3,.s c0_.Name,.s c0_.As,.I c0_.Ticks,.sl 4] 27)],5,.O r,[],[(2,.box [.I c0_.Kind,.s c0_.From,.sl 3,.s c0_.Name,.s c0_.As,.I c0_.Ticks,.sl 4] 27)]⟩:=by
 refine eFn func127 rfl (fun E F w=>?_)
 unfold z127_30 at h
 cases h
 exact wr J 14 func127 []
theorem z123_31_ct (N:Nat) (s_:(List T16)) (c0_:T15) (r:Int) (h:z123_31 N s_ c0_=some r) :
 Fn Tryz.prog 123 ⟨4,[.S 0,.c (.cl 127 [] [1])],[(0,.sl rR16 s_),(2,.sl rS c0_.To),(3,.sl (rSl rR15) c0_.Blocks)],[(1,.box [.I c0_.Kind,.s c0_.From,.sl 2,.s c0_.Name,.s c0_.As,.I c0_.Ticks,.sl 3] 27)],4,.I r,[],[(1,.box [.I c0_.Kind,.s c0_.From,.sl 2,.s c0_.Name,.s c0_.As,.I c0_.Ticks,.sl 3] 27)]⟩:=by
 refine eFn func123 rfl (fun E F w=>?_)
 unfold z123_31 at h
 refine wa J 11 (eCut (σ:=Unit) (fun st=>⟨[],[(1,.box [.I c0_.Kind,.s c0_.From,.sl 2,.s c0_.Name,.s c0_.As,.I c0_.Ticks,.sl 3] 27)],[(0,.sl rR16 s_),(2,.sl rS c0_.To),(3,.sl (rSl rR15) c0_.Blocks)],4⟩) (fun st=>z123_31_k1=some r) ?_ (fun j1=>?_))
 ·intro _ h
  replace h:z123_31_k1=some r:=h
  unfold z123_31_k1 at h
  cases h
  exact wr J 4 func123 []
 refine wa J 1 (eLoop (σ:=Int) (fun st=>⟨[(0,.S 0),(1,.c (.cl 127 [] [1])),(7,.I (s_.length:Int)),(8,.I st)],[(1,.box [.I c0_.Kind,.s c0_.From,.sl 2,.s c0_.Name,.s c0_.As,.I c0_.Ticks,.sl 3] 27)],[(0,.sl rR16 s_),(2,.sl rS c0_.To),(3,.sl (rSl rR15) c0_.Blocks)],4⟩) (fun n st=>z123_31_l2 N s_ c0_ n st) (r:=r) (fun _=>rfl) ?_ (fun ih=>?_))
 ·intro n2 ih3
  intro d h
  replace h:z123_31_l2 N s_ c0_ (n2+1) d=some r:=h
  unfold z123_31_l2 at h
  refine wB' J 5 h (fun h=>wa J 2 (eSub [] (j1 () h))) fun h=>?_
  refine wO J 14 h fun e f h=>eIx J oO16 f ?_
  refine wO J 1 h fun g i h=>eCl (z127_30_ct N e c0_ _ i) [] [(0,.sl 5),(1,.sl 6),(2,.bp 1 0),(3,.sl 2),(4,.sl 3)] ?_
  refine wB J 1 h (fun h=>?_) fun h=>wa J 7 (eSub [] (ih3 (w64 (d+1)) h))
  cases h
  exact wr J 6 func123 []
 exact eSub [] (ih N 0 h)
theorem z55_32_ct (N:Nat) (s_:(List T16)) (c0_:T15) (r:Bool) (h:z55_32 N s_ c0_=some r) :
 Fn Tryz.prog 55 ⟨4,[.S 0,.c (.cl 127 [] [1])],[(0,.sl rR16 s_),(2,.sl rS c0_.To),(3,.sl (rSl rR15) c0_.Blocks)],[(1,.box [.I c0_.Kind,.s c0_.From,.sl 2,.s c0_.Name,.s c0_.As,.I c0_.Ticks,.sl 3] 27)],4,.O r,[],[(1,.box [.I c0_.Kind,.s c0_.From,.sl 2,.s c0_.Name,.s c0_.As,.I c0_.Ticks,.sl 3] 27)]⟩:=by
 refine eFn func55 rfl (fun E F w=>?_)
 unfold z55_32 at h
 refine wO J 8 h fun x1 d h=>eCl (z123_31_ct N s_ c0_ _ d) [] [(0,.sl 0),(1,.bp 1 0),(2,.sl 2),(3,.sl 3)] ?_
 cases h
 exact wr J 3 func55 []
theorem z64_33_ct (N:Nat) (o_:T8) (c0_:T15) (r:Bool) (h:z64_33 N o_ c0_=some r) :
 Fn Tryz.prog 64 ⟨3,[.a (cC8 o_),.B 0 0],[(1,.sl rS c0_.To),(2,.sl (rSl rR15) c0_.Blocks)],[(0,.box [.I c0_.Kind,.s c0_.From,.sl 1,.s c0_.Name,.s c0_.As,.I c0_.Ticks,.sl 2] 27)],3,.O r,[],[(0,.box [.I c0_.Kind,.s c0_.From,.sl 1,.s c0_.Name,.s c0_.As,.I c0_.Ticks,.sl 2] 27)]⟩:=by
 refine eFn func64 rfl (fun E F w=>?_)
 unfold z64_33 at h
 cases h
 exact wr J 14 func64 []
theorem z65_34_ct (N:Nat) (s_:(List T8)) (c0_:T15) (r:Int) (h:z65_34 N s_ c0_=some r) :
 Fn Tryz.prog 65 ⟨4,[.S 0,.c (.cl 64 [] [1])],[(0,.sl rR8 s_),(2,.sl rS c0_.To),(3,.sl (rSl rR15) c0_.Blocks)],[(1,.box [.I c0_.Kind,.s c0_.From,.sl 2,.s c0_.Name,.s c0_.As,.I c0_.Ticks,.sl 3] 27)],4,.I r,[],[(1,.box [.I c0_.Kind,.s c0_.From,.sl 2,.s c0_.Name,.s c0_.As,.I c0_.Ticks,.sl 3] 27)]⟩:=by
 refine eFn func65 rfl (fun E F w=>?_)
 unfold z65_34 at h
 refine wa J 11 (eCut (σ:=Unit) (fun st=>(zz7 c0_.Kind c0_.From c0_.Name c0_.As c0_.Ticks s_ c0_.To c0_.Blocks [])) (fun st=>z65_34_k1=some r) ?_ (fun j1=>?_))
 ·intro _ h
  replace h:z65_34_k1=some r:=h
  unfold z65_34_k1 at h
  cases h
  exact wr J 4 func65 []
 refine wa J 1 (eLoop (σ:=Int) (fun st=>(zz7 c0_.Kind c0_.From c0_.Name c0_.As c0_.Ticks s_ c0_.To c0_.Blocks [(0,.S 0),(1,.c (.cl 64 [] [1])),(7,.I (s_.length:Int)),(8,.I st)])) (fun n st=>z65_34_l2 N s_ c0_ n st) (r:=r) (fun _=>rfl) ?_ (fun ih=>?_))
 ·intro n2 ih3
  intro d h
  replace h:z65_34_l2 N s_ c0_ (n2+1) d=some r:=h
  unfold z65_34_l2 at h
  refine wB' J 5 h (fun h=>wa J 2 (eSub [] (j1 () h))) fun h=>?_
  refine wO J 14 h fun e f h=>eIx J oO8 f ?_
  refine wO J 1 h fun g i h=>eCl (z64_33_ct N e c0_ _ i) [] [(0,.bp 1 0),(1,.sl 2),(2,.sl 3)] ?_
  refine wB J 1 h (fun h=>?_) fun h=>wa J 7 (eSub [] (ih3 (w64 (d+1)) h))
  cases h
  exact wr J 6 func65 []
 exact eSub [] (ih N 0 h)
theorem z63_35_ct (N:Nat) (s_:(List T8)) (c0_:T15) (r:Bool) (h:z63_35 N s_ c0_=some r) :
 Fn Tryz.prog 63 ⟨4,[.S 0,.c (.cl 64 [] [1])],[(0,.sl rR8 s_),(2,.sl rS c0_.To),(3,.sl (rSl rR15) c0_.Blocks)],[(1,.box [.I c0_.Kind,.s c0_.From,.sl 2,.s c0_.Name,.s c0_.As,.I c0_.Ticks,.sl 3] 27)],4,.O r,[],[(1,.box [.I c0_.Kind,.s c0_.From,.sl 2,.s c0_.Name,.s c0_.As,.I c0_.Ticks,.sl 3] 27)]⟩:=by
 refine eFn func63 rfl (fun E F w=>?_)
 unfold z63_35 at h
 refine wO J 8 h fun x1 d h=>eCl (z65_34_ct N s_ c0_ _ d) [] [(0,.sl 0),(1,.bp 1 0),(2,.sl 2),(3,.sl 3)] ?_
 cases h
 exact wr J 3 func63 []
theorem z66_36_ct (N:Nat) (o_:T8) (c0_:T15) (r:Bool) (h:z66_36 N o_ c0_=some r) :
 Fn Tryz.prog 66 ⟨3,[.a (cC8 o_),.B 0 0],[(1,.sl rS c0_.To),(2,.sl (rSl rR15) c0_.Blocks)],[(0,.box [.I c0_.Kind,.s c0_.From,.sl 1,.s c0_.Name,.s c0_.As,.I c0_.Ticks,.sl 2] 27)],3,.O r,[],[(0,.box [.I c0_.Kind,.s c0_.From,.sl 1,.s c0_.Name,.s c0_.As,.I c0_.Ticks,.sl 2] 27)]⟩:=by
 refine eFn func66 rfl (fun E F w=>?_)
 unfold z66_36 at h
 refine wB J 13 h (fun h=>?_) fun h=>?_
 ·cases h
  exact wr J 6 func66 []
 cases h
 exact wr J 6 func66 []
theorem z65_37_ct (N:Nat) (s_:(List T8)) (c0_:T15) (r:Int) (h:z65_37 N s_ c0_=some r) :
 Fn Tryz.prog 65 ⟨4,[.S 0,.c (.cl 66 [] [1])],[(0,.sl rR8 s_),(2,.sl rS c0_.To),(3,.sl (rSl rR15) c0_.Blocks)],[(1,.box [.I c0_.Kind,.s c0_.From,.sl 2,.s c0_.Name,.s c0_.As,.I c0_.Ticks,.sl 3] 27)],4,.I r,[],[(1,.box [.I c0_.Kind,.s c0_.From,.sl 2,.s c0_.Name,.s c0_.As,.I c0_.Ticks,.sl 3] 27)]⟩:=by
 refine eFn func65 rfl (fun E F w=>?_)
 unfold z65_37 at h
 refine wa J 11 (eCut (σ:=Unit) (fun st=>(zz7 c0_.Kind c0_.From c0_.Name c0_.As c0_.Ticks s_ c0_.To c0_.Blocks [])) (fun st=>z65_37_k1=some r) ?_ (fun j1=>?_))
 ·intro _ h
  replace h:z65_37_k1=some r:=h
  unfold z65_37_k1 at h
  cases h
  exact wr J 4 func65 []
 refine wa J 1 (eLoop (σ:=Int) (fun st=>(zz7 c0_.Kind c0_.From c0_.Name c0_.As c0_.Ticks s_ c0_.To c0_.Blocks [(0,.S 0),(1,.c (.cl 66 [] [1])),(7,.I (s_.length:Int)),(8,.I st)])) (fun n st=>z65_37_l2 N s_ c0_ n st) (r:=r) (fun _=>rfl) ?_ (fun ih=>?_))
 ·intro n2 ih3
  intro d h
  replace h:z65_37_l2 N s_ c0_ (n2+1) d=some r:=h
  unfold z65_37_l2 at h
  refine wB' J 5 h (fun h=>wa J 2 (eSub [] (j1 () h))) fun h=>?_
  refine wO J 14 h fun e f h=>eIx J oO8 f ?_
  refine wO J 1 h fun g i h=>eCl (z66_36_ct N e c0_ _ i) [] [(0,.bp 1 0),(1,.sl 2),(2,.sl 3)] ?_
  refine wB J 1 h (fun h=>?_) fun h=>wa J 7 (eSub [] (ih3 (w64 (d+1)) h))
  cases h
  exact wr J 6 func65 []
 exact eSub [] (ih N 0 h)
theorem z128_38_ct (N:Nat) (p_:T17) (c0_:T15) (r:Bool) (h:z128_38 N p_ c0_=some r) :
 Fn Tryz.prog 128 ⟨6,[.a [.s p_.Name,.sl 0,.sl 1,.sl 2],.B 3 0],(vV17 0 1 2 p_ [(4,.sl rS c0_.To),(5,.sl (rSl rR15) c0_.Blocks)]),[(3,.box [.I c0_.Kind,.s c0_.From,.sl 4,.s c0_.Name,.s c0_.As,.I c0_.Ticks,.sl 5] 27)],6,.O r,[],[(3,.box [.I c0_.Kind,.s c0_.From,.sl 4,.s c0_.Name,.s c0_.As,.I c0_.Ticks,.sl 5] 27)]⟩:=by
 refine eFn func128 rfl (fun E F w=>?_)
 unfold z128_38 at h
 cases h
 exact wr J 14 func128 []
theorem z53_39_ct (N:Nat) (s_:(List T17)) (c0_:T15) (r:Int) (h:z53_39 N s_ c0_=some r) :
 Fn Tryz.prog 53 ⟨4,[.S 0,.c (.cl 128 [] [1])],[(0,.sl rR17 s_),(2,.sl rS c0_.To),(3,.sl (rSl rR15) c0_.Blocks)],[(1,.box [.I c0_.Kind,.s c0_.From,.sl 2,.s c0_.Name,.s c0_.As,.I c0_.Ticks,.sl 3] 27)],4,.I r,[],[(1,.box [.I c0_.Kind,.s c0_.From,.sl 2,.s c0_.Name,.s c0_.As,.I c0_.Ticks,.sl 3] 27)]⟩:=by
 refine eFn func53 rfl (fun E F w=>?_)
 unfold z53_39 at h
 refine wa J 11 (eCut (σ:=Unit) (fun st=>⟨[],[(1,.box [.I c0_.Kind,.s c0_.From,.sl 2,.s c0_.Name,.s c0_.As,.I c0_.Ticks,.sl 3] 27)],[(0,.sl rR17 s_),(2,.sl rS c0_.To),(3,.sl (rSl rR15) c0_.Blocks)],4⟩) (fun st=>z53_39_k1=some r) ?_ (fun j1=>?_))
 ·intro _ h
  replace h:z53_39_k1=some r:=h
  unfold z53_39_k1 at h
  cases h
  exact wr J 4 func53 []
 refine wa J 1 (eLoop (σ:=Int) (fun st=>⟨[(0,.S 0),(1,.c (.cl 128 [] [1])),(7,.I (s_.length:Int)),(8,.I st)],[(1,.box [.I c0_.Kind,.s c0_.From,.sl 2,.s c0_.Name,.s c0_.As,.I c0_.Ticks,.sl 3] 27)],[(0,.sl rR17 s_),(2,.sl rS c0_.To),(3,.sl (rSl rR15) c0_.Blocks)],4⟩) (fun n st=>z53_39_l2 N s_ c0_ n st) (r:=r) (fun _=>rfl) ?_ (fun ih=>?_))
 ·intro n2 ih3
  intro d h
  replace h:z53_39_l2 N s_ c0_ (n2+1) d=some r:=h
  unfold z53_39_l2 at h
  refine wB' J 5 h (fun h=>wa J 2 (eSub [] (j1 () h))) fun h=>?_
  refine wO J 14 h fun e f h=>eIx J oO17 f ?_
  refine wO J 1 h fun g i h=>eCl (z128_38_ct N e c0_ _ i) [] [(0,.sl 5),(1,.sl 6),(2,.sl 7),(3,.bp 1 0),(4,.sl 2),(5,.sl 3)] ?_
  refine wB J 1 h (fun h=>?_) fun h=>wa J 7 (eSub [] (ih3 (w64 (d+1)) h))
  cases h
  exact wr J 6 func53 []
 exact eSub [] (ih N 0 h)
theorem z24_ct (N:Nat) (c_:T7) (name_:ByteArray) (e_:Int) (r:T7) (h:z24 N c_ name_ e_=some r) :
 Fn Tryz.prog 24 ⟨6,[.B 0 0,.c (.s name_),.I e_],((1,.sl rR17 c_.all')::vV17 2 3 4 c_.p' []),[(0,.box (cC7 1 2 3 4 5 c_) 86),(5,.own rS c_.calls' false)],11,.t [],((6,.sl rR17 r.all')::vV17 7 8 9 r.p' []),[(5,.gone),(10,.own rS r.calls' false),(0,.box (cC7 6 7 8 9 10 r) 86)]⟩:=by
 refine eFn func24 rfl (fun E F w=>?_)
 unfold z24 at h
 refine wB J 9 h (fun h=>?_) fun h=>?_
 ·cases h
  exact wr J 15 func24 [(6,.sl 1),(7,.sl 2),(8,.sl 3),(9,.sl 4),(10,.sl 5)]
 cases h
 exact wr J 2 func24 [(6,.sl 1),(7,.sl 2),(8,.sl 3),(9,.sl 4),(10,.sl 5)]
theorem z62_ct (N:Nat) (c_:T7) (l_:(List ByteArray)) (i_:Int) (r:T7) (h:z62 N c_ l_ i_=some r) :
 Fn Tryz.prog 62 ⟨7,[.B 0 0,.S 6,.I i_],((1,.sl rR17 c_.all')::vV17 2 3 4 c_.p' [(6,.sl rS l_)]),[(0,.box (cC7 1 2 3 4 5 c_) 86),(5,.own rS c_.calls' false)],12,.t [],((7,.sl rR17 r.all')::vV17 8 9 10 r.p' []),[(5,.gone),(11,.own rS r.calls' false),(0,.box (cC7 7 8 9 10 11 r) 86)]⟩:=by
 refine eFn func62 rfl (fun E F w=>?_)
 unfold z62 at h
 refine wO J 9 h fun x1 c h=>eIx J oS c ?_
 refine wO J 1 h fun x2 d h=>eCl (z54_ct N c_.p'.Roles x1 _ d) [] [(0,.sl 2)] ?_
 refine wB J 2 h (fun h=>wa J 4 (eEnd ?_)) fun h=>?_
 ·refine wO J 5 h fun x3 e h=>eIx J oS e ?_
  refine wO J 1 h fun x4 f h=>eCl (z24_ct N c_ x3 12 _ f) [] [(0,.bp 0 0),(1,.sl 1),(2,.sl 2),(3,.sl 3),(4,.sl 4),(5,.sl 5)] ?_
  cases h
  exact wr J 1 func62 [(7,.sl 9),(8,.sl 10),(9,.sl 11),(10,.sl 12),(11,.sl 13)]
 refine wO J 2 h fun x5 g h=>eCl (z25_ct N l_ i_ _ g) [] [(0,.sl 6)] (wa J 1 (eEnd ?_))
 refine eB' h (fun h=>?_) fun h=>?_
 ·cases h
  exact wr J 2 func62 [(7,.sl 1),(8,.sl 2),(9,.sl 3),(10,.sl 4),(11,.sl 5)]
 refine wO J 5 h fun x6 i h=>eIx J oS i ?_
 refine wO J 1 h fun x7 j h=>eCl (z24_ct N c_ x6 12 _ j) [] [(0,.bp 0 0),(1,.sl 1),(2,.sl 2),(3,.sl 3),(4,.sl 4),(5,.sl 5)] ?_
 cases h
 exact wr J 1 func62 [(7,.sl 9),(8,.sl 10),(9,.sl 11),(10,.sl 12),(11,.sl 13)]
theorem z67_ct (N:Nat) (c_:T7) (x_:T15) (r:T7) (h:z67 N c_ x_=some r) :
 Fn Tryz.prog 67 ⟨8,[.B 0 0,.a [.I x_.Kind,.s x_.From,.sl 6,.s x_.Name,.s x_.As,.I x_.Ticks,.sl 7]],((1,.sl rR17 c_.all')::vV17 2 3 4 c_.p' [(6,.sl rS x_.To),(7,.sl (rSl rR15) x_.Blocks)]),[(0,.box (cC7 1 2 3 4 5 c_) 86),(5,.own rS c_.calls' false)],13,.t [],((8,.sl rR17 r.all')::vV17 9 10 11 r.p' []),[(5,.gone),(12,.own rS r.calls' false),(0,.box (cC7 8 9 10 11 12 r) 86)]⟩:=by
 refine eFn func67 rfl (fun E F w=>?_)
 unfold z67 at h
 refine wO J 11 h fun x1 c h=>eCl (z53_39_ct N c_.all' x_ _ c) [] [(0,.sl 1),(1,.bp 8 0),(2,.sl 6),(3,.sl 7)] ?_
 refine wB J 8 h (fun h=>?_) fun h=>?_
 ·refine wO J 6 h fun x2 d h=>eCl (z24_ct N c_ x_.Name 10 _ d) [] [(0,.bp 0 0),(1,.sl 1),(2,.sl 2),(3,.sl 3),(4,.sl 4),(5,.sl 5)] ?_
  cases h
  exact wr J 1 func67 [(8,.sl 9),(9,.sl 10),(10,.sl 11),(11,.sl 12),(12,.sl 13)]
 refine wO J 10 h fun x3 e h=>eIx J oO17 e (wa J 7 (eEnd (eCut (σ:=(List T17) × ByteArray × (List ByteArray) × (List T16) × (List T15) × (List ByteArray) × ByteArray × ByteArray × Int) (fun st=>⟨[(0,.B 0 0),(3,.B 8 0)],[(0,.box [.sl 13,.s st.2.1,.sl 14,.sl 15,.sl 16,.sl 17,.s st.2.2.2.2.2.2.1,.s st.2.2.2.2.2.2.2.1,.I st.2.2.2.2.2.2.2.2] 86),(8,.box [.I x_.Kind,.s x_.From,.sl 6,.s x_.Name,.s x_.As,.I x_.Ticks,.sl 7] 27),(17,.own rS st.2.2.2.2.2.1 false)],((1,.sl rR17 c_.all')::vV17 2 3 4 c_.p' [(6,.sl rS x_.To),(7,.sl (rSl rR15) x_.Blocks),(13,.sl rR17 st.1),(14,.sl rS st.2.2.1),(15,.sl rR16 st.2.2.2.1),(16,.sl rR15 st.2.2.2.2.1)]),18⟩) (fun st=>z67_k3 N x_ st.1 st.2.1 st.2.2.1 st.2.2.2.1 st.2.2.2.2.1 st.2.2.2.2.2.1 st.2.2.2.2.2.2.1 st.2.2.2.2.2.2.2.1 st.2.2.2.2.2.2.2.2=some r) ?_ (fun j1=>?_))))
 ·rintro ⟨vbk0_0_0_1,vbk0_0_1_1,vbk0_0_2_1,vbk0_0_3_1,vbk0_0_4_1,vbk0_0_5_1,vbk0_0_6_1,vbk0_0_7_1,vbk0_0_8_1⟩ h
  replace h:z67_k3 N x_ vbk0_0_0_1 vbk0_0_1_1 vbk0_0_2_1 vbk0_0_3_1 vbk0_0_4_1 vbk0_0_5_1 vbk0_0_6_1 vbk0_0_7_1 vbk0_0_8_1=some r:=h
  unfold z67_k3 at h
  refine wa J 8 (eCut (σ:=(List T17) × ByteArray × (List ByteArray) × (List T16) × (List T15) × (List ByteArray) × ByteArray × ByteArray × Int) (fun st=>(zz22 st.2.1 st.2.2.2.2.2.2.1 st.2.2.2.2.2.2.2.1 st.2.2.2.2.2.2.2.2 x_.Kind x_.From x_.Name x_.As x_.Ticks st.2.2.2.2.2.1 c_.all' c_.p' x_.To x_.Blocks st.1 st.2.2.1 st.2.2.2.1 st.2.2.2.2.1 [(0,.B 0 0),(3,.B 8 0)])) (fun st=>z67_k1 N x_ st.1 st.2.1 st.2.2.1 st.2.2.2.1 st.2.2.2.2.1 st.2.2.2.2.2.1 st.2.2.2.2.2.2.1 st.2.2.2.2.2.2.2.1 st.2.2.2.2.2.2.2.2=some r) ?_ (fun j2=>?_))
  ·rintro ⟨vbk0_0_0_2,vbk0_0_1_2,vbk0_0_2_2,vbk0_0_3_2,vbk0_0_4_2,vbk0_0_5_2,vbk0_0_6_2,vbk0_0_7_2,vbk0_0_8_2⟩ h
   replace h:z67_k1 N x_ vbk0_0_0_2 vbk0_0_1_2 vbk0_0_2_2 vbk0_0_3_2 vbk0_0_4_2 vbk0_0_5_2 vbk0_0_6_2 vbk0_0_7_2 vbk0_0_8_2=some r:=h
   unfold z67_k1 at h
   refine wO J 9 h fun x9 f h=>eCb (z54_ct N vbk0_0_5_2 x_.As _ f) [] [(0,.sl 22)] [22] (.inr ⟨rfl,trivial⟩) (eEnd ?_)
   refine eB' h (fun h=>wa J 10 (eBs J [] oS ([x_.As]:List ByteArray) ?_)) fun h=>?_
   ·obtain ⟨g,i,h⟩:=ob h
    refine eAp J rS i (wa J 3 (eEnd ?_))
    cases h
    exact eRet J func67 [(8,.sl 18),(9,.sl 19),(10,.sl 20),(11,.sl 21),(12,.sl 24)]
   refine wO J 5 h fun j k h=>eCl (z24_ct N (⟨vbk0_0_0_2,(⟨vbk0_0_1_2,vbk0_0_2_2,vbk0_0_3_2,vbk0_0_4_2⟩:T17),vbk0_0_5_2,(⟨vbk0_0_6_2,vbk0_0_7_2,vbk0_0_8_2⟩:T6)⟩:T7) x_.As 9 _ k) [] [(0,.bp 0 0),(1,.sl 18),(2,.sl 19),(3,.sl 20),(4,.sl 21),(5,.sl 22)] (wa J 9 (eBs J [] oS ([x_.As]:List ByteArray) ?_))
   obtain ⟨l,m,h⟩:=ob h
   refine eAp J rS m (wa J 3 (eEnd ?_))
   cases h
   exact eRet J func67 [(8,.sl 23),(9,.sl 24),(10,.sl 25),(11,.sl 26),(12,.sl 29)]
  refine wa J 1 (eLoop (σ:=(List T17) × ByteArray × (List ByteArray) × (List T16) × (List T15) × (List ByteArray) × ByteArray × ByteArray × Int × Int) (fun st=>(zz22 st.2.1 st.2.2.2.2.2.2.1 st.2.2.2.2.2.2.2.1 st.2.2.2.2.2.2.2.2.1 x_.Kind x_.From x_.Name x_.As x_.Ticks st.2.2.2.2.2.1 c_.all' c_.p' x_.To x_.Blocks st.1 st.2.2.1 st.2.2.2.1 st.2.2.2.2.1 [(0,.B 0 0),(3,.B 8 0),(37,.I (x_.To.length:Int)),(38,.I st.2.2.2.2.2.2.2.2.2)])) (fun n st=>z67_l2 N x_ n st.1 st.2.1 st.2.2.1 st.2.2.2.1 st.2.2.2.2.1 st.2.2.2.2.2.1 st.2.2.2.2.2.2.1 st.2.2.2.2.2.2.2.1 st.2.2.2.2.2.2.2.2.1 st.2.2.2.2.2.2.2.2.2) (r:=r) (fun _=>rfl) ?_ (fun ih=>?_))
  ·intro n2 ih4
   rintro ⟨vbk0_0_0_4,vbk0_0_1_4,vbk0_0_2_4,vbk0_0_3_4,vbk0_0_4_4,vbk0_0_5_4,vbk0_0_6_4,vbk0_0_7_4,vbk0_0_8_4,o⟩ h
   replace h:z67_l2 N x_ (n2+1) vbk0_0_0_4 vbk0_0_1_4 vbk0_0_2_4 vbk0_0_3_4 vbk0_0_4_4 vbk0_0_5_4 vbk0_0_6_4 vbk0_0_7_4 vbk0_0_8_4 o=some r:=h
   unfold z67_l2 at h
   refine wB' J 5 h (fun h=>wa J 2 (eSub [] (j2 (vbk0_0_0_4,vbk0_0_1_4,vbk0_0_2_4,vbk0_0_3_4,vbk0_0_4_4,vbk0_0_5_4,vbk0_0_6_4,vbk0_0_7_4,vbk0_0_8_4) h))) fun h=>?_
   exact wO J 14 h fun p q h=>eCl (z62_ct N (⟨vbk0_0_0_4,(⟨vbk0_0_1_4,vbk0_0_2_4,vbk0_0_3_4,vbk0_0_4_4⟩:T17),vbk0_0_5_4,(⟨vbk0_0_6_4,vbk0_0_7_4,vbk0_0_8_4⟩:T6)⟩:T7) x_.To o _ q) [] [(0,.bp 0 0),(1,.sl 18),(2,.sl 19),(3,.sl 20),(4,.sl 21),(5,.sl 22),(6,.sl 6)] (wa J 6 (eSub [(18,.sl 23),(19,.sl 24),(20,.sl 25),(21,.sl 26),(22,.sl 27)] (ih4 (p.all',p.p'.Name,p.p'.Roles,p.p'.Messages,p.p'.Body,p.calls',p.out'.Protocol,p.out'.Name,p.out'.Err,(w64 (o+1))) h)))
  exact eSub [(18,.sl 13),(19,.sl 14),(20,.sl 15),(21,.sl 16),(22,.sl 17)] (ih N (vbk0_0_0_1,vbk0_0_1_1,vbk0_0_2_1,vbk0_0_3_1,vbk0_0_4_1,vbk0_0_5_1,vbk0_0_6_1,vbk0_0_7_1,vbk0_0_8_1,0) h)
 refine eB' h (fun h=>wa J 2 (eSub [(13,.sl 1),(14,.sl 2),(15,.sl 3),(16,.sl 4),(17,.sl 5)] (j1 (c_.all',c_.p'.Name,c_.p'.Roles,c_.p'.Messages,c_.p'.Body,c_.calls',c_.out'.Protocol,c_.out'.Name,c_.out'.Err) h))) fun h=>?_
 exact wO J 5 h fun u v h=>eCl (z24_ct N c_ x_.Name 1 _ v) [] [(0,.bp 0 0),(1,.sl 1),(2,.sl 2),(3,.sl 3),(4,.sl 4),(5,.sl 5)] (wa J 1 (eSub [] (j1 (u.all',u.p'.Name,u.p'.Roles,u.p'.Messages,u.p'.Body,u.calls',u.out'.Protocol,u.out'.Name,u.out'.Err) h)))
theorem z61_ct (N:Nat) (c_:T7) (x_:T15) (r:T7) (h:z61 N c_ x_=some r) :
 Fn Tryz.prog 61 ⟨8,[.B 0 0,.a [.I x_.Kind,.s x_.From,.sl 6,.s x_.Name,.s x_.As,.I x_.Ticks,.sl 7]],((1,.sl rR17 c_.all')::vV17 2 3 4 c_.p' [(6,.sl rS x_.To),(7,.sl (rSl rR15) x_.Blocks)]),[(0,.box (cC7 1 2 3 4 5 c_) 86),(5,.own rS c_.calls' false)],13,.t [],((8,.sl rR17 r.all')::vV17 9 10 11 r.p' []),[(5,.gone),(12,.own rS r.calls' false),(0,.box (cC7 8 9 10 11 12 r) 86)]⟩:=by
 refine eFn func61 rfl (fun E F w=>?_)
 unfold z61 at h
 refine wa J 8 (eBs J [] oS ([x_.From]:List ByteArray) ?_)
 refine wO J 2 h fun x1 c h=>eAp J rS c (wa J 9 (eCut (σ:=(List T17) × ByteArray × (List ByteArray) × (List T16) × (List T15) × (List ByteArray) × ByteArray × ByteArray × Int) (fun st=>⟨[(0,.B 0 0),(3,.B 8 0)],[(0,.box [.sl 11,.s st.2.1,.sl 12,.sl 13,.sl 14,.sl 15,.s st.2.2.2.2.2.2.1,.s st.2.2.2.2.2.2.2.1,.I st.2.2.2.2.2.2.2.2] 86),(8,.box [.I x_.Kind,.s x_.From,.sl 6,.s x_.Name,.s x_.As,.I x_.Ticks,.sl 7] 27),(15,.own rS st.2.2.2.2.2.1 false)],((1,.sl rR17 c_.all')::vV17 2 3 4 c_.p' [(6,.sl rS x_.To),(7,.sl (rSl rR15) x_.Blocks),(11,.sl rR17 st.1),(12,.sl rS st.2.2.1),(13,.sl rR16 st.2.2.2.1),(14,.sl rR15 st.2.2.2.2.1)]),16⟩) (fun st=>z61_k1 N x_ st.1 st.2.1 st.2.2.1 st.2.2.2.1 st.2.2.2.2.1 st.2.2.2.2.2.1 st.2.2.2.2.2.2.1 st.2.2.2.2.2.2.2.1 st.2.2.2.2.2.2.2.2=some r) ?_ (fun j1=>?_)))
 ·rintro ⟨vbk0_0_0_1,vbk0_0_1_1,vbk0_0_2_1,vbk0_0_3_1,vbk0_0_4_1,vbk0_0_5_1,vbk0_0_6_1,vbk0_0_7_1,vbk0_0_8_1⟩ h
  replace h:z61_k1 N x_ vbk0_0_0_1 vbk0_0_1_1 vbk0_0_2_1 vbk0_0_3_1 vbk0_0_4_1 vbk0_0_5_1 vbk0_0_6_1 vbk0_0_7_1 vbk0_0_8_1=some r:=h
  unfold z61_k1 at h
  refine wO J 8 h fun x6 d h=>eCl (z55_32_ct N vbk0_0_3_1 x_ _ d) [] [(0,.sl 13),(1,.bp 8 0),(2,.sl 6),(3,.sl 7)] ?_
  refine wB' J 2 h (fun h=>?_) fun h=>?_
  ·cases h
   exact wr J 2 func61 [(8,.sl 11),(9,.sl 12),(10,.sl 13),(11,.sl 14),(12,.sl 15)]
  refine wO J 5 h fun x7 e h=>eCl (z24_ct N (⟨vbk0_0_0_1,(⟨vbk0_0_1_1,vbk0_0_2_1,vbk0_0_3_1,vbk0_0_4_1⟩:T17),vbk0_0_5_1,(⟨vbk0_0_6_1,vbk0_0_7_1,vbk0_0_8_1⟩:T6)⟩:T7) x_.Name 10 _ e) [] [(0,.bp 0 0),(1,.sl 11),(2,.sl 12),(3,.sl 13),(4,.sl 14),(5,.sl 15)] ?_
  cases h
  exact wr J 1 func61 [(8,.sl 16),(9,.sl 17),(10,.sl 18),(11,.sl 19),(12,.sl 20)]
 refine wa J 1 (eLoop (σ:=(List T17) × ByteArray × (List ByteArray) × (List T16) × (List T15) × (List ByteArray) × ByteArray × ByteArray × Int × Int) (fun st=>⟨[(0,.B 0 0),(3,.B 8 0),(4,.S 10),(13,.I (x1.length:Int)),(14,.I st.2.2.2.2.2.2.2.2.2)],[(0,.box [.sl 11,.s st.2.1,.sl 12,.sl 13,.sl 14,.sl 15,.s st.2.2.2.2.2.2.1,.s st.2.2.2.2.2.2.2.1,.I st.2.2.2.2.2.2.2.2.1] 86),(8,.box [.I x_.Kind,.s x_.From,.sl 6,.s x_.Name,.s x_.As,.I x_.Ticks,.sl 7] 27),(15,.own rS st.2.2.2.2.2.1 false)],((1,.sl rR17 c_.all')::vV17 2 3 4 c_.p' [(6,.sl rS x_.To),(7,.sl (rSl rR15) x_.Blocks),(10,.sl rS x1),(11,.sl rR17 st.1),(12,.sl rS st.2.2.1),(13,.sl rR16 st.2.2.2.1),(14,.sl rR15 st.2.2.2.2.1)]),16⟩) (fun n st=>z61_l2 N x_ x1 n st.1 st.2.1 st.2.2.1 st.2.2.2.1 st.2.2.2.2.1 st.2.2.2.2.2.1 st.2.2.2.2.2.2.1 st.2.2.2.2.2.2.2.1 st.2.2.2.2.2.2.2.2.1 st.2.2.2.2.2.2.2.2.2) (r:=r) (fun _=>rfl) ?_ (fun ih=>?_))
 ·intro n2 ih3
  rintro ⟨vbk0_0_0_3,vbk0_0_1_3,vbk0_0_2_3,vbk0_0_3_3,vbk0_0_4_3,vbk0_0_5_3,vbk0_0_6_3,vbk0_0_7_3,vbk0_0_8_3,f⟩ h
  replace h:z61_l2 N x_ x1 (n2+1) vbk0_0_0_3 vbk0_0_1_3 vbk0_0_2_3 vbk0_0_3_3 vbk0_0_4_3 vbk0_0_5_3 vbk0_0_6_3 vbk0_0_7_3 vbk0_0_8_3 f=some r:=h
  unfold z61_l2 at h
  refine wB' J 5 h (fun h=>wa J 2 (eSub [] (j1 (vbk0_0_0_3,vbk0_0_1_3,vbk0_0_2_3,vbk0_0_3_3,vbk0_0_4_3,vbk0_0_5_3,vbk0_0_6_3,vbk0_0_7_3,vbk0_0_8_3) h))) fun h=>?_
  exact wO J 13 h fun g i h=>eCl (z62_ct N (⟨vbk0_0_0_3,(⟨vbk0_0_1_3,vbk0_0_2_3,vbk0_0_3_3,vbk0_0_4_3⟩:T17),vbk0_0_5_3,(⟨vbk0_0_6_3,vbk0_0_7_3,vbk0_0_8_3⟩:T6)⟩:T7) x1 f _ i) [] [(0,.bp 0 0),(1,.sl 11),(2,.sl 12),(3,.sl 13),(4,.sl 14),(5,.sl 15),(6,.sl 10)] (wa J 6 (eSub [(11,.sl 16),(12,.sl 17),(13,.sl 18),(14,.sl 19),(15,.sl 20)] (ih3 (g.all',g.p'.Name,g.p'.Roles,g.p'.Messages,g.p'.Body,g.calls',g.out'.Protocol,g.out'.Name,g.out'.Err,(w64 (f+1))) h)))
 exact eFr [10] (eSub [(11,.sl 1),(12,.sl 2),(13,.sl 3),(14,.sl 4),(15,.sl 5)] (ih N (c_.all',c_.p'.Name,c_.p'.Roles,c_.p'.Messages,c_.p'.Body,c_.calls',c_.out'.Protocol,c_.out'.Name,c_.out'.Err,0) h))
end Gx
end
