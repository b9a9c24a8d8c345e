/- Each function of the statement computes what its plain definition says, part 1. -/
import Derived.Test.YtnlleampnlmdlaaGreatDoorExpandProblemsBase
import Derived.Test.YtnlleampnlmdlaaGreatDoorExpandProblemsLib
set_option linter.all false
section
set_option maxRecDepth 10000
set_option maxHeartbeats 4000000
open Go Go.Kx Go.Proofs Tryz
namespace Gx
theorem ZkD (N:Nat) (d:ByteArray) (e:Int) (r:Int) (h:G2 N d e=some r) :
 Fn Tryz.prog 180 ⟨0,[.c (.s d),.c (.i .u8 e)],[],[],0,.I r,[],[]⟩:=by
 refine Z5 func180 rfl (fun E F w=>?_)
 unfold G2 at h
 refine wa J 8 (eEx (Zm3 func208 (by kernel_rfl) (by kernel_rfl) (by kernel_rfl) (by kernel_rfl) d e) (fun _=>trivial) ?_)
 exact oi h▸wr J 2 func180 []
theorem Ze6 (N:Nat) (d:ByteArray) (e:Int) (r:Int) (h:GQ N d e=some r) :
 Fn Tryz.prog 138 ⟨0,[.c (.s d),.c (.i .u8 e)],[],[],0,.I r,[],[]⟩:=by
 refine Z5 func138 rfl (fun E F w=>?_)
 unfold GQ at h
 refine wO J 8 h fun f g h=>ZO (ZkD N d e _ g) [] [] ?_
 exact oi h▸wr J 2 func138 []
theorem Zsb (N:Nat) (d:Int) (r:Bool) (h:Zfu N d=some r) :
 Fn Tryz.prog 205 ⟨0,[.c (.i .i32 d)],[],[],0,.O r,[],[]⟩:=by
 refine Z5 func205 rfl (fun E F w=>?_)
 unfold Zfu at h
 refine ZQ J 11 h (fun h=>?_) fun h=>?_
 ·refine ZQ J 11 h (fun h=>oi h▸wr J 12 func205 []) fun h=>?_
  exact wB J 5 h (fun h=>oi h▸wr J 5 func205 []) fun h=>oi h▸wr J 7 func205 []
 refine wB J 5 h (fun h=>oi h▸wr J 5 func205 []) fun h=>?_
 refine ZQ J 6 h (fun h=>oi h▸wr J 12 func205 []) fun h=>?_
 exact wB J 5 h (fun h=>oi h▸wr J 5 func205 []) fun h=>oi h▸wr J 7 func205 []
theorem ZrW (N:Nat) (d:ByteArray) (e:Int) (r:Int) (h:Zfi N d e=some r) :
 Fn Tryz.prog 178 ⟨0,[.c (.s d),.c (.i .i32 e)],[],[],0,.I r,[],[]⟩:=by
 refine Z5 func178 rfl (fun E F w=>?_)
 unfold Zfi at h
 refine wa J 10 (Z2 (σ:=Bool) (fun st=>(WH [(0,.c (.s d)),(1,.c (.i .i32 e)),(160,.O st)])) (fun st=>ZbE N d e st=some r) ?_ (fun j1=>?_))
 ·intro f h
  unfold ZbE at h
  refine eB h (fun h=>?_) fun h=>?_
  ·refine wO J 6 h fun g j h=>ZO (Ze6 N d (wk .u8 (e)) _ j) [] [] ?_
   exact oi h▸wr J 2 func178 []
  obtain ⟨K,h⟩|⟨K,h⟩:=oc h
  ·refine wH J 7 K (wa J 5 (eRn J (fun bk2=>wa J 1 (Z2 (σ:=Nat) (fun st=>⟨[],[(0,.abs (VQ bk2 d st))],[],1⟩) (fun st=>Zfj st=some r) ?_ (fun j2=>?_)))))
   ·intro vi0_2 h
    unfold Zfj at h
    exact oi h▸wr J 4 func178 []
   refine wa J 1 (Yc (σ:=Nat) (fun st=>⟨[(175,.c (.v (.pointer (some ⟨bk2,0,none⟩))))],[(0,.abs (VQ bk2 d st))],[],1⟩) (fun n st=>ZbF d n st) (r:=r) (fun _=>rfl) ?_ (fun ih=>?_))
   ·intro n2 ih4
    intro vi0_4 h
    unfold ZbF at h
    obtain ⟨K,h⟩|⟨K,h⟩:=HY h
    ·exact wa J 2 (eNf bk2 0 K (wa J 5 (ZK [] (j2 vi0_4 h))))
    refine wa J 2 (eNt bk2 0 K ?_)
    exact wB J 18 h (fun h=>oi h▸wr J 6 func178 []) fun h=>wa J 3 (ZK [] (ih4 (vi0_4+(Utf8.decode d vi0_4).2) h))
   exact ZK [] (ih N (0:Nat) h)
  refine wH J 7 K ?_
  refine wO J 4 h fun k l h=>ZO (Zsb N e _ l) [] [] ?_
  refine wB J 3 h (fun h=>oi h▸wr J 5 func178 []) fun h=>wa J 5 (HL (wa J 19 (Z2 (σ:=Unit) (fun st=>(WH [])) (fun st=>Zfk=some r) ?_ (fun j5=>?_))))
  ·intro _ h
   unfold Zfk at h
   exact oi h▸wr J 5 func178 []
  refine wa J 1 (Yc (σ:=Unit) (fun st=>(WH [(0,.c (.s d)),(7,.c (.s (Utf8.encode e))),(8,.I (ZM (((Utf8.encode e).size:Int)-1))),(9,.I (ZM (((Utf8.encode e).size:Int)-1)))])) (fun n st=>Zfm N d e n) (r:=r) (fun _=>rfl) ?_ (fun ih=>?_))
  ·intro n10 ih15
   intro _ h
   unfold Zfm at h
   refine ZQ J 8 h (fun h=>wa J 2 (ZK [] (j5 () h))) fun h=>?_
   refine wO J 9 h fun m o h=>XG J o ?_
   refine wO J 2 h fun p q h=>XG J q (wa J 1 (Yr (Z2 (σ:=Int) (fun st=>(WH [(0,.c (.s d)),(7,.c (.s (Utf8.encode e))),(8,.I (ZM (((Utf8.encode e).size:Int)-1))),(9,.I st)])) (fun st=>ZbD N d e st=some r) ?_ (fun j20=>?_))))
   ·intro t h
    unfold ZbD at h
    refine wa J 5 (Z2 (σ:=Unit) (fun st=>(WH [(8,.I (ZM (((Utf8.encode e).size:Int)-1))),(9,.I t)])) (fun st=>Zfl e t=some r) ?_ (fun j21=>?_))
    ·intro _ h
     unfold Zfl at h
     exact oi h▸wr J 8 func178 []
    refine wa J 1 (Yc (σ:=Int) (fun st=>(WH [(0,.c (.s d)),(7,.c (.s (Utf8.encode e))),(8,.I (ZM (((Utf8.encode e).size:Int)-1))),(9,.I t),(12,.I st)])) (fun n st=>ZbG d e t n st) (r:=r) (fun _=>rfl) ?_ (fun ih=>?_))
    ·intro n12 ih23
     intro u h
     unfold ZbG at h
     refine ZQ J 8 h (fun h=>wa J 2 (ZK [] (j21 () h))) fun h=>?_
     refine wO J 10 h fun x y h=>XG J y ?_
     refine wO J 4 h fun z A h=>XG J A (wa J 1 (Yr ?_))
     refine eB h (fun h=>?_) fun h=>wa J 8 (ZK [] (ih23 (ZM (u+1)) h))
     cases h
    exact ZK [] (ih N 1 h)
   refine YZ h (fun h=>wa J 2 (ZK [] (j20 (ZM (((Utf8.encode e).size:Int)-1)) h))) fun h=>?_
   refine wO J 6 h fun C D h=>Vn J D ?_
   refine wO J 2 h fun G H h=>XG J H ?_
   have ⟨R,T,h⟩:=ob h
   refine ZO (Ze6 N C G _ T) [] [] (wa J 1 (Yr ?_))
   exact wB J 6 h (fun h=>oi h▸wr J 5 func178 []) fun h=>wa J 9 (ZK [] (j20 (ZM ((ZM (((Utf8.encode e).size:Int)-1))+(ZM (R+1)))) h))
  exact ZK [] (ih N () h)
 exact eB h (fun h=>wa J 5 (ZK [] (j1 (decide (e < 128)) h))) fun h=>wa J 5 (ZK [] (j1 false h))
theorem ZrC (N:Nat) (d:ByteArray) (e:Int) (r:Bool) (h:Ze5 N d e=some r) :
 Fn Tryz.prog 136 ⟨0,[.c (.s d),.c (.i .i32 e)],[],[],0,.O r,[],[]⟩:=by
 refine Z5 func136 rfl (fun E F w=>?_)
 unfold Ze5 at h
 refine wO J 8 h fun f g h=>ZO (ZrW N d e _ g) [] [] ?_
 exact oi h▸wr J 3 func136 []
theorem ZrX (N:Nat) (d:ByteArray) (e:ByteArray) (r:Bool) (h:Zfn N d e=some r) :
 Fn Tryz.prog 179 ⟨0,[.c (.s d),.c (.s e)],[],[],0,.O r,[],[]⟩:=by
 refine Z5 func179 rfl (fun E F w=>?_)
 unfold Zfn at h
 refine ZQ J 12 h (fun h=>oi h▸wr J 9 func179 []) fun h=>?_
 refine wO J 3 h fun f g h=>Vn J g ?_
 exact oi h▸wr J 5 func179 []
theorem Zku (N:Nat) (d:ByteArray) (e:ByteArray) (r:Bool) (h:Zbh N d e=some r) :
 Fn Tryz.prog 137 ⟨0,[.c (.s d),.c (.s e)],[],[],0,.O r,[],[]⟩:=by
 refine Z5 func137 rfl (fun E F w=>?_)
 unfold Zbh at h
 refine wO J 8 h fun f g h=>ZO (ZrX N d e _ g) [] [] ?_
 exact oi h▸wr J 2 func137 []
theorem D3 (N:Nat) (c:T5) (r:T5) (h:Mp N c=some r) :
 Fn Tryz.prog 80 ⟨1,[.B 0 0],[],[(0,.box (W8 c) 154)],1,.t [],[],[(0,.box (W8 r) 154)]⟩:=by
 refine Z5 func80 rfl (fun E F w=>?_)
 unfold Mp at h
 refine Z2 (σ:=Int) (fun st=>(Hx c.s' st [])) (fun st=>ZfR c st=some r) ?_ (fun j1=>?_)
 ·intro d h
  unfold ZfR at h
  cases h
  exact Y7 J func80 []
 refine wa J 1 (Yc (σ:=Int) (fun st=>(Hx c.s' st [(0,.B 0 0)])) (fun n st=>Hu N c n st) (r:=r) (fun _=>rfl) ?_ (fun ih=>?_))
 ·intro n2 ih3
  intro e h
  unfold Hu at h
  refine wa J 13 (Yr ?_)
  refine YZ h (fun h=>wa J 2 (ZK [] (j1 e h))) fun h=>?_
  refine wO J 13 h fun f g h=>Vn J g (wa J 1 (Yr ?_))
  refine wO J 4 h fun i j h=>XG J j ?_
  refine wO J 1 h fun k l h=>ZO (ZrC N (str [32,9,10,13]) (wk .i32 (i)) _ l) [] [] ?_
  refine wB J 2 h (fun h=>wa J 13 (ZK [] (ih3 (ZM (e+1)) h))) fun h=>?_
  refine wO J 4 h fun m o h=>ZO (Zku N f (str [47,47]) _ o) [] [] ?_
  refine ZQ J 2 h (fun h=>oi h▸wr J 1 func80 []) fun h=>?_
  refine wO J 4 h fun p q h=>ZO (Ze6 N f 10 _ q) [] [] ?_
  exact wB J 8 h (fun h=>wa J 21 (ZK [] (ih3 (ZM (e+(ZM ((ZM ((f.size:Int)-1))+1)))) h))) fun h=>wa J 16 (ZK [] (ih3 (ZM (e+(ZM (p+1)))) h))
 exact ZK [] (ih N c.at' h)
theorem ZfU (N:Nat) (d:Int) (r:Bool) (h:Mq N d=some r) :
 Fn Tryz.prog 82 ⟨0,[.c (.i .u8 d)],[],[],0,.O r,[],[]⟩:=by
 refine Z5 func82 rfl (fun E F w=>?_)
 unfold Mq at h
 refine ZQ J 9 h (fun h=>?_) fun h=>?_
 ·exact wB J 7 h (fun h=>oi h▸wr J 6 func82 []) fun h=>oi h▸wr J 6 func82 []
 refine wB J 4 h (fun h=>oi h▸wr J 9 func82 []) fun h=>?_
 exact wB J 3 h (fun h=>oi h▸wr J 6 func82 []) fun h=>oi h▸wr J 6 func82 []
theorem ZfW (N:Nat) (d:Int) (r:Bool) (h:Hv N d=some r) :
 Fn Tryz.prog 84 ⟨0,[.c (.i .u8 d)],[],[],0,.O r,[],[]⟩:=by
 refine Z5 func84 rfl (fun E F w=>?_)
 unfold Hv at h
 exact wB J 9 h (fun h=>oi h▸wr J 5 func84 []) fun h=>oi h▸wr J 5 func84 []
theorem Zfb (N:Nat) (d:Int) (r:Bool) (h:Pz N d=some r) :
 Fn Tryz.prog 141 ⟨0,[.c (.i .u8 d)],[],[],0,.O r,[],[]⟩:=by
 refine Z5 func141 rfl (fun E F w=>?_)
 unfold Pz at h
 refine wO J 7 h fun e f h=>ZO (ZfU N d _ f) [] [] ?_
 refine wB J 1 h (fun h=>oi h▸wr J 9 func141 []) fun h=>?_
 refine wO J 1 h fun g j h=>ZO (ZfW N d _ j) [] [] ?_
 exact wB J 2 h (fun h=>oi h▸wr J 5 func141 []) fun h=>oi h▸wr J 5 func141 []
theorem ZrE (N:Nat) (d:T5) (r:ByteArray × T5) (h:Ze9 N d=some r) :
 Fn Tryz.prog 140 ⟨1,[.B 0 0,.c (.cl 141 [] [])],[],[(0,.box (W8 d) 154)],1,.c (.s r.1),[],[(0,.box (W8 r.2) 154)]⟩:=by
 refine Z5 func140 rfl (fun E F w=>?_)
 unfold Ze9 at h
 refine wa J 13 (Z2 (σ:=Int) (fun st=>(Hx d.s' st [(0,.B 0 0),(5,.I d.at')])) (fun st=>Zbi d st=some r) ?_ (fun j1=>?_))
 ·intro e h
  unfold Zbi at h
  refine wO J 11 h fun f g h=>Vn J g (wa J 1 (Yr ?_))
  cases h
  exact Y7 J func140 []
 refine wa J 1 (Yc (σ:=Int) (fun st=>(Hx d.s' st [(0,.B 0 0),(1,.c (.cl 141 [] [])),(5,.I d.at')])) (fun n st=>Zbj N d n st) (r:=r) (fun _=>rfl) ?_ (fun ih=>?_))
 ·intro n2 ih3
  intro i h
  unfold Zbj at h
  refine ZQ J 14 h (fun h=>wa J 12 (Yr (wa J 2 (ZK [] (j1 i h))))) fun h=>?_
  refine wO J 9 h fun j k h=>XG J k ?_
  have ⟨l,m,h⟩:=ob h
  refine ZO (Zfb N j _ m) [] [] (wa J 1 (Yr ?_))
  exact eB h (fun h=>wa J 14 (ZK [] (ih3 (ZM (i+1)) h))) fun h=>wa J 2 (ZK [] (j1 i h))
 exact ZK [] (ih N d.at' h)
theorem Zts (N:Nat) (c:T5) (r:T4 × Int × T5) (h:z83 N c=some r) :
 Fn Tryz.prog 83 ⟨1,[.B 0 0],[],[(0,.box (W8 c) 154)],1,.t [.inr (HI r.1),.inl (.I r.2.1)],[],[(0,.box (W8 r.2.2) 154)]⟩:=by
 refine Z5 func83 rfl (fun E F w=>?_)
 unfold z83 at h
 refine wO J 8 h fun d e h=>ZO (ZrE N c _ e) [] [(0,.bp 0 0)] ?_
 exact wB J 9 h (fun h=>oi h▸wr J 7 func83 []) fun h=>oi h▸wr J 9 func83 []
theorem ZrF (N:Nat) (d:T5) (r:ByteArray × T5) (h:Zfa N d=some r) :
 Fn Tryz.prog 140 ⟨1,[.B 0 0,.c (.cl 84 [] [])],[],[(0,.box (W8 d) 154)],1,.c (.s r.1),[],[(0,.box (W8 r.2) 154)]⟩:=by
 refine Z5 func140 rfl (fun E F w=>?_)
 unfold Zfa at h
 refine wa J 13 (Z2 (σ:=Int) (fun st=>(Hx d.s' st [(0,.B 0 0),(5,.I d.at')])) (fun st=>Zbk d st=some r) ?_ (fun j1=>?_))
 ·intro e h
  unfold Zbk at h
  refine wO J 11 h fun f g h=>Vn J g (wa J 1 (Yr ?_))
  cases h
  exact Y7 J func140 []
 refine wa J 1 (Yc (σ:=Int) (fun st=>(Hx d.s' st [(0,.B 0 0),(1,.c (.cl 84 [] [])),(5,.I d.at')])) (fun n st=>Zbl N d n st) (r:=r) (fun _=>rfl) ?_ (fun ih=>?_))
 ·intro n2 ih3
  intro i h
  unfold Zbl at h
  refine ZQ J 14 h (fun h=>wa J 12 (Yr (wa J 2 (ZK [] (j1 i h))))) fun h=>?_
  refine wO J 9 h fun j k h=>XG J k ?_
  have ⟨l,m,h⟩:=ob h
  refine ZO (ZfW N j _ m) [] [] (wa J 1 (Yr ?_))
  exact eB h (fun h=>wa J 14 (ZK [] (ih3 (ZM (i+1)) h))) fun h=>wa J 2 (ZK [] (j1 i h))
 exact ZK [] (ih N d.at' h)
theorem Ztt (N:Nat) (d:T5) (r:T4 × Int × T5) (h:z85 N d=some r) :
 Fn Tryz.prog 85 ⟨1,[.B 0 0],[],[(0,.box (W8 d) 154)],1,.t [.inr (HI r.1),.inl (.I r.2.1)],[],[(0,.box (W8 r.2.2) 154)]⟩:=by
 refine Z5 func85 rfl (fun E F w=>?_)
 unfold z85 at h
 refine wO J 8 h fun e f h=>ZO (ZrF N d _ f) [] [(0,.bp 0 0)] ?_
 refine wa J 16 (Z2 (σ:=Bool) (fun st=>(zz8 e.2 [(2,.B 1 0),(4,.c (.s e.1)),(30,.O st)])) (fun st=>ZcP N e st=some r) ?_ (fun j1=>?_))
 ·intro g h
  unfold ZcP at h
  refine eB h (fun h=>oi h▸wr J 7 func85 []) fun h=>?_
  refine wa J 9 (Z2 (σ:=Bool) (fun st=>(zz8 e.2 [(2,.B 1 0),(4,.c (.s e.1)),(44,.O st)])) (fun st=>D4 N e st=some r) ?_ (fun j2=>?_))
  ·intro i h
   unfold D4 at h
   refine eB h (fun h=>oi h▸wr J 7 func85 []) fun h=>wa J 15 (Z2 (σ:=Int) (fun st=>(ZkS e.2 st [(2,.B 1 0),(5,.B 2 0)])) (fun st=>ZfY e st=some r) ?_ (fun j3=>?_))
   ·intro j h
    unfold ZfY at h
    exact oi h▸wr J 6 func85 []
   refine wa J 1 (Yc (σ:=Int × Int) (fun st=>(ZkS e.2 st.1 [(2,.B 1 0),(4,.c (.s e.1)),(5,.B 2 0),(48,.I (e.1.size:Int)),(49,.I st.2)])) (fun n st=>ZcQ e n st.1 st.2) (r:=r) (fun _=>rfl) ?_ (fun ih=>?_))
   ·intro n2 ih5
    rintro ⟨k,l⟩ h
    unfold ZcQ at h
    refine ZQ J 5 h (fun h=>wa J 2 (ZK [] (j3 k h))) fun h=>?_
    exact wO J 15 h fun m o h=>XG J o (wa J 5 (Yr (wa J 5 (ZK [] (ih5 ((ZM ((ZM (10 * k))+(ZM ((wk .u8 (m-48)))))),(ZM (l+1))) h)))))
   exact ZK [] (ih N (0,0) h)
  refine eB h (fun h=>wa J 10 (ZK [] (j2 true h))) fun h=>?_
  refine ZQ J 4 h (fun h=>wa J 6 (ZK [] (j2 false h))) fun h=>?_
  exact wO J 1 h fun p q h=>XG J q (wa J 4 (ZK [] (j2 (p==48) h)))
 refine YZ h (fun h=>wa J 11 (Yr (ZK [] (j1 false h)))) fun h=>?_
 refine wO J 8 h fun u v h=>XG J v ?_
 have ⟨x,y,h⟩:=ob h
 exact ZO (Zfb N u _ y) [] [] (wa J 1 (Yr (ZK [] (j1 x h))))
theorem Ztu (N:Nat) (d:T5) (r:T4 × Int × T5) (h:z86 N d=some r) :
 Fn Tryz.prog 86 ⟨1,[.B 0 0],[],[(0,.box (W8 d) 154)],1,.t [.inr (HI r.1),.inl (.I r.2.1)],[],[(0,.box (W8 r.2.2) 154)]⟩:=by
 refine Z5 func86 rfl (fun E F w=>?_)
 unfold z86 at h
 refine wa J 21 (Z2 (σ:=Int) (fun st=>⟨[(2,.B 1 0)],[(0,.box [.s d.s',.I st] 154),(1,.box [.I 0,.s (str []),.I 0,.I 0] 158)],[],2⟩) (fun st=>Zf0 d st=some r) ?_ (fun j1=>?_))
 ·intro e h
  unfold Zf0 at h
  exact oi h▸wr J 6 func86 []
 refine wa J 1 (Yc (σ:=Int × (List Int)) (fun st=>(ZkT d.s' st.1 st.2 [(0,.B 0 0),(2,.B 1 0),(4,.S 2)])) (fun n st=>Mr d n st.1 st.2) (r:=r) (fun _=>rfl) ?_ (fun ih=>?_))
 ·intro n2 ih6
  rintro ⟨f,g⟩ h
  unfold Mr at h
  refine wa J 13 (Yr ?_)
  refine YZ h (fun h=>wa J 2 (ZK [] (j1 f h))) fun h=>?_
  refine wO J 14 h fun j k h=>XG J k (wa J 1 (Yr ?_))
  refine wB J 6 h (fun h=>?_) fun h=>wa J 8 (Z2 (σ:=Int × Int) (fun st=>(ZkT d.s' st.1 g [(0,.B 0 0),(2,.B 1 0),(4,.S 2),(5,.c (.i .u8 st.2))])) (fun st=>D5 d g (Mr d n2) st.1 st.2=some r) ?_ (fun j9=>?_))
  ·exact wB J 19 h (fun h=>oi h▸wr J 7 func86 []) fun h=>wa J 5 (eCs g (oi h▸wr J 4 func86 []))
  ·rintro ⟨l,m⟩ h
   unfold D5 at h
   refine wB J 6 h (fun h=>oi h▸wr J 11 func86 []) fun h=>?_
   refine wB J 4 h (fun h=>oi h▸wr J 7 func86 []) fun h=>wa J 5 (YB J [] (oI .u8) ([m]:List Int) ?_)
   have ⟨o,p,h⟩:=ob h
   exact YK J (rI .u8) p (wa J 13 (ZK [(2,.sl 4)] (ih6 ((ZM (l+1)),o) h)))
  refine YZ h (fun h=>wa J 2 (ZK [] (j9 (f,j) h))) fun h=>?_
  refine wB J 26 h (fun h=>wa J 23 (Yr (oi h▸wr J 7 func86 []))) fun h=>?_
  refine wO J 8 h fun q u h=>XG J u ?_
  refine ZQ J 2 h (fun h=>wa J 12 (Yr ?_)) fun h=>?_
  ·exact wO J 11 h fun v x h=>XG J x (wa J 1 (Yr (ZK [] (j9 ((ZM (f+1)),v) h))))
  refine wO J 8 h fun y z h=>XG J z (wa J 3 (Yr ?_))
  refine eB h (fun h=>oi h▸wr J 7 func86 []) fun h=>?_
  exact wO J 11 h fun A C h=>XG J C (wa J 1 (Yr (ZK [] (j9 ((ZM (f+1)),A) h))))
 exact ZK [(2,.nil)] (ih N ((ZM (d.at'+1)),([]:List Int)) h)
theorem Zsc (N:Nat) (d:ByteArray) (e:ByteArray) (r:Int) (h:ZbW N d e=some r) :
 Fn Tryz.prog 209 ⟨0,[.c (.s d),.c (.s e)],[],[],0,.I r,[],[]⟩:=by
 refine Z5 func209 rfl (fun E F w=>?_)
 unfold ZbW at h
 refine wB J 17 h (fun h=>oi h▸wr J 11 func209 []) fun h=>?_
 refine wB J 6 h (fun h=>oi h▸wr J 5 func209 []) fun h=>?_
 refine wB J 7 h (fun h=>?_) fun h=>?_
 ·refine wO J 5 h fun f g h=>XG J g ?_
  have ⟨i,j,h⟩:=ob h
  refine ZO (ZkD N d f _ j) [] [] ?_
  exact oi h▸wr J 2 func209 []
 refine wB J 9 h (fun h=>oi h▸wr J 5 func209 []) fun h=>?_
 cases h
theorem Zfo (N:Nat) (d:ByteArray) (e:ByteArray) (r:Int) (h:PK N d e=some r) :
 Fn Tryz.prog 181 ⟨0,[.c (.s d),.c (.s e)],[],[],0,.I r,[],[]⟩:=by
 refine Z5 func181 rfl (fun E F w=>?_)
 unfold PK at h
 refine wO J 8 h fun f g h=>ZO (Zsc N d e _ g) [] [] ?_
 exact oi h▸wr J 2 func181 []
theorem ZrD (N:Nat) (d:ByteArray) (e:ByteArray) (r:Bool) (h:Ze7 N d e=some r) :
 Fn Tryz.prog 139 ⟨0,[.c (.s d),.c (.s e)],[],[],0,.O r,[],[]⟩:=by
 refine Z5 func139 rfl (fun E F w=>?_)
 unfold Ze7 at h
 refine wO J 8 h fun f g h=>ZO (Zfo N d e _ g) [] [] ?_
 exact oi h▸wr J 3 func139 []
theorem Ztr (N:Nat) (c:T5) (r:T4 × Int × T5) (h:z81 N c=some r) :
 Fn Tryz.prog 81 ⟨1,[.B 0 0],[],[(0,.box (W8 c) 154)],1,.t [.inr (HI r.1),.inl (.I r.2.1)],[],[(0,.box (W8 r.2.2) 154)]⟩:=by
 refine Z5 func81 rfl (fun E F w=>?_)
 unfold z81 at h
 refine wa J 11 (Z2 (σ:=Unit) (fun st=>(zz8 c [(0,.B 0 0),(2,.B 1 0)])) (fun st=>ZfT N c=some r) ?_ (fun j1=>?_))
 ·intro _ h
  unfold ZfT at h
  refine wO J 15 h fun d e h=>Vn J e (wa J 1 (Yr ?_))
  refine wO J 4 h fun f g h=>ZO (ZrD N (str [40,41,123,125,44,59,58,46,43,45,42,47,37,60,62,61,33]) d _ g) [] [] ?_
  exact wB J 2 h (fun h=>oi h▸wr J 7 func81 []) fun h=>oi h▸wr J 20 func81 []
 refine wa J 1 (Yc (σ:=Int) (fun st=>(zz8 c [(0,.B 0 0),(2,.B 1 0),(7,.a [.s (str [45,62]),.s (str [46,46]),.s (str [60,61]),.s (str [62,61]),.s (str [61,61]),.s (str [33,61]),.s (str [38,38]),.s (str [124,124])]),(8,.I st)])) (fun n st=>ZcO N c n st) (r:=r) (fun _=>rfl) ?_ (fun ih=>?_))
 ·intro n2 ih3
  intro i h
  unfold ZcO at h
  refine ZQ J 5 h (fun h=>wa J 2 (ZK [] (j1 () h))) fun h=>?_
  refine wO J 6 h fun j k h=>eAx SC.s ([(str [45,62]),(str [46,46]),(str [60,61]),(str [62,61]),(str [61,61]),(str [33,61]),(str [38,38]),(str [124,124])]:List ByteArray) k ?_
  refine wO J 12 h fun l m h=>Vn J m ?_
  refine wO J 1 h fun o p h=>ZO (Zku N l j _ p) [] [] (Yr ?_)
  exact eB h (fun h=>oi h▸wr J 19 func81 []) fun h=>wa J 7 (ZK [] (ih3 (ZM (i+1)) h))
 exact ZK [] (ih N 0 h)
theorem Zsx (N:Nat) (d:ByteArray) (r:(List T4) × Int × Int) (h:z32 N d=some r) :
 Fn Tryz.prog 32 ⟨0,[.c (.s d)],[],[],1,.t [.inl (.sl 0),.inl (.I r.2.1),.inl (.I r.2.2)],[],[(0,.own Yv r.1 true)]⟩:=by
 refine Z5 func32 rfl (fun E F w=>?_)
 unfold z32 at h
 refine wB J 13 h (fun h=>oi h▸wr J 7 func32 [(0,.nil)]) fun h=>?_
 refine wO J 13 h fun e f h=>ZO (D3 N (⟨d,0⟩:T5) _ f) [] [(0,.bp 0 0)] (wa J 1 (Z2 (σ:=(List T4)) (fun st=>⟨[(2,.S 1)],[(1,.own Yv st true)],[],2⟩) (fun st=>ZfF st=some r) ?_ (fun j1=>?_)))
 ·intro g h
  unfold ZfF at h
  exact oi h▸wr J 7 func32 [(0,.sl 1)]
 refine wa J 1 (Yc (σ:=(List T4) × ByteArray × Int) (fun st=>⟨[(0,.c (.s d)),(2,.S 1),(5,.B 0 0)],[(0,.box [.s st.2.1,.I st.2.2] 154),(1,.own Yv st.1 true)],[],2⟩) (fun n st=>PS N d n st.1 st.2.1 st.2.2) (r:=r) (fun _=>rfl) ?_ (fun ih=>?_))
 ·intro n2 ih12
  rintro ⟨i,j,k⟩ h
  unfold PS at h
  refine ZQ J 11 h (fun h=>wa J 2 (ZK [] (j1 i h))) fun h=>?_
  refine wO J 18 h fun l m h=>XG J m ?_
  refine wO J 6 h fun o p h=>ZO (ZfU N l _ p) [] [] ?_
  refine wB J 2 h (fun h=>?_) fun h=>?_
  ·refine wO J 18 h fun q u h=>ZO (Zts N (⟨j,k⟩:T5) _ u) [] [(0,.bp 0 0)] ?_
   refine wB J 13 h (fun h=>oi h▸wr J 9 func32 [(0,.nil)]) fun h=>wa J 11 (YB J [] MX ([(⟨q.1.Zq,q.1.ZG,q.1.Value,k⟩:T4)]:List T4) ?_)
   have ⟨v,x,h⟩:=ob h
   refine YK J Yv x ?_
   exact wO J 5 h fun y z h=>ZO (D3 N q.2.2 _ z) [] [(0,.bp 0 0)] (wa J 1 (ZK [(1,.sl 4)] (ih12 (v,y.s',y.at') h)))
  refine wO J 4 h fun A C h=>ZO (ZfW N l _ C) [] [] ?_
  refine wB J 2 h (fun h=>?_) fun h=>?_
  ·refine wO J 18 h fun D G h=>ZO (Ztt N (⟨j,k⟩:T5) _ G) [] [(0,.bp 0 0)] ?_
   refine wB J 13 h (fun h=>oi h▸wr J 9 func32 [(0,.nil)]) fun h=>wa J 11 (YB J [] MX ([(⟨D.1.Zq,D.1.ZG,D.1.Value,k⟩:T4)]:List T4) ?_)
   have ⟨H,R,h⟩:=ob h
   refine YK J Yv R ?_
   exact wO J 5 h fun T U h=>ZO (D3 N D.2.2 _ U) [] [(0,.bp 0 0)] (wa J 1 (ZK [(1,.sl 4)] (ih12 (H,T.s',T.at') h)))
  refine wB J 7 h (fun h=>?_) fun h=>?_
  ·refine wO J 18 h fun X Y h=>ZO (Ztu N (⟨j,k⟩:T5) _ Y) [] [(0,.bp 0 0)] ?_
   refine wB J 13 h (fun h=>oi h▸wr J 9 func32 [(0,.nil)]) fun h=>wa J 11 (YB J [] MX ([(⟨X.1.Zq,X.1.ZG,X.1.Value,k⟩:T4)]:List T4) ?_)
   have ⟨Z,a0,h⟩:=ob h
   refine YK J Yv a0 ?_
   exact wO J 5 h fun b0 c0 h=>ZO (D3 N X.2.2 _ c0) [] [(0,.bp 0 0)] (wa J 1 (ZK [(1,.sl 4)] (ih12 (Z,b0.s',b0.at') h)))
  refine wO J 14 h fun e0 g0 h=>ZO (Ztr N (⟨j,k⟩:T5) _ g0) [] [(0,.bp 0 0)] ?_
  refine wB J 13 h (fun h=>oi h▸wr J 9 func32 [(0,.nil)]) fun h=>wa J 11 (YB J [] MX ([(⟨e0.1.Zq,e0.1.ZG,e0.1.Value,k⟩:T4)]:List T4) ?_)
  have ⟨i0,j0,h⟩:=ob h
  refine YK J Yv j0 ?_
  exact wO J 5 h fun k0 l0 h=>ZO (D3 N e0.2.2 _ l0) [] [(0,.bp 0 0)] (wa J 1 (ZK [(1,.sl 4)] (ih12 (i0,k0.s',k0.at') h)))
 exact ZK [(1,.nil)] (ih N (([]:List T4),e.s',e.at') h)
theorem PA (N:Nat) (c:Z4) (r:T4) (h:S6 N c=some r) :
 Fn Tryz.prog 143 ⟨2,[.B 0 0],[(1,.sl Yv c.l')],[(0,.box (YR 1 c) 99)],2,.a (HI r),[],[(0,.box (YR 1 c) 99)]⟩:=by
 refine Z5 func143 rfl (fun E F w=>?_)
 unfold S6 at h
 refine wB J 13 h (fun h=>wa J 11 (Yr (oi h▸wr J 6 func143 []))) fun h=>wa J 11 (Yr ?_)
 refine eB h (fun h=>oi h▸wr J 6 func143 []) fun h=>?_
 refine wO J 12 h fun d e h=>Yb J MX e (wa J 2 (Yr ?_))
 cases h
 exact Y7 J func143 []
theorem Zkw (N:Nat) (d:Z4) (e:ByteArray) (r:Bool) (h:Zbm N d e=some r) :
 Fn Tryz.prog 144 ⟨2,[.B 0 0,.c (.s e)],[(1,.sl Yv d.l')],[(0,.box (YR 1 d) 99)],2,.O r,[],[(0,.box (YR 1 d) 99)]⟩:=by
 refine Z5 func144 rfl (fun E F w=>?_)
 unfold Zbm at h
 refine wO J 7 h fun f g h=>ZO (PA N d _ g) [] [(0,.bp 0 0),(1,.sl 1)] ?_
 refine wB J 9 h (fun h=>oi h▸wr J 12 func144 []) fun h=>?_
 exact wB J 5 h (fun h=>oi h▸wr J 7 func144 []) fun h=>oi h▸wr J 7 func144 []
theorem Wp (N:Nat) (d:Z4) (e:ByteArray) (r:Bool × Z4) (h:We N d e=some r) :
 Fn Tryz.prog 90 ⟨2,[.B 0 0,.c (.s e)],[(1,.sl Yv d.l')],[(0,.box (YR 1 d) 99)],3,.O r.1,[(2,.sl Yv r.2.l')],[(0,.box (YR 2 r.2) 99)]⟩:=by
 refine Z5 func90 rfl (fun E F w=>?_)
 unfold We at h
 refine wO J 9 h fun f g h=>ZO (Zkw N d e _ g) [] [(0,.bp 0 0),(1,.sl 1)] ?_
 exact wB J 2 h (fun h=>oi h▸wr J 5 func90 [(2,.sl 1)]) fun h=>oi h▸wr J 17 func90 [(2,.sl 1)]
theorem Qe (N:Nat) (c:Z4) (d:Int) (r:Z4) (h:Sd N c d=some r) :
 Fn Tryz.prog 142 ⟨2,[.B 0 0,.I d],[(1,.sl Yv c.l')],[(0,.box (YR 1 c) 99)],3,.t [],[(2,.sl Yv r.l')],[(0,.box (YR 2 r) 99)]⟩:=by
 refine Z5 func142 rfl (fun E F w=>?_)
 unfold Sd at h
 refine wB J 9 h (fun h=>oi h▸wr J 1 func142 [(2,.sl 1)]) fun h=>wa J 30 (Yr ?_)
 refine YZ h (fun h=>oi h▸wr J 2 func142 [(2,.sl 1)]) fun h=>?_
 refine wO J 11 h fun e f h=>Yb J MX f (wa J 5 (Yr ?_))
 cases h
 exact Y7 J func142 [(2,.sl 1)]
theorem XH (N:Nat) (d:Z4) (e:ByteArray) (r:Z4) (h:Xy N d e=some r) :
 Fn Tryz.prog 87 ⟨2,[.B 0 0,.c (.s e)],[(1,.sl Yv d.l')],[(0,.box (YR 1 d) 99)],3,.t [],[(2,.sl Yv r.l')],[(0,.box (YR 2 r) 99)]⟩:=by
 refine Z5 func87 rfl (fun E F w=>?_)
 unfold Xy at h
 refine wO J 4 h fun f g h=>ZO (Wp N d e _ g) [] [(0,.bp 0 0),(1,.sl 1)] ?_
 refine ZQ J 2 h (fun h=>oi h▸wr J 2 func87 [(2,.sl 2)]) fun h=>?_
 refine wO J 3 h fun i j h=>ZO (Qe N f.2 3 _ j) [] [(0,.bp 0 0),(1,.sl 2)] ?_
 exact oi h▸wr J 1 func87 [(2,.sl 3)]
theorem ZtD (N:Nat) (d:ByteArray) (r:Bool) (h:Rt N d=some r) :
 Fn Tryz.prog 97 ⟨0,[.c (.s d)],[],[],0,.O r,[],[]⟩:=by
 refine Z5 func97 rfl (fun E F w=>?_)
 unfold Rt at h
 refine wB J 10 h (fun h=>oi h▸wr J 16 func97 []) fun h=>?_
 refine wB J 5 h (fun h=>oi h▸wr J 11 func97 []) fun h=>?_
 refine wO J 1 h fun e f h=>XG J f ?_
 have ⟨g,i,h⟩:=ob h
 refine ZO (ZfU N e _ i) [] [] ?_
 refine wB J 3 h (fun h=>oi h▸wr J 5 func97 []) fun h=>wa J 9 (Z2 (σ:=Unit) (fun st=>(WH [])) (fun st=>ZcZ=some r) ?_ (fun j1=>?_))
 ·intro _ h
  unfold ZcZ at h
  exact oi h▸wr J 4 func97 []
 refine wa J 1 (Yc (σ:=Int) (fun st=>(WH [(0,.c (.s d)),(18,.I (d.size:Int)),(19,.I st)])) (fun n st=>So N d n st) (r:=r) (fun _=>rfl) ?_ (fun ih=>?_))
 ·intro n2 ih3
  intro j h
  unfold So at h
  refine ZQ J 5 h (fun h=>wa J 2 (ZK [] (j1 () h))) fun h=>?_
  refine wO J 13 h fun k l h=>XG J l ?_
  have ⟨m,o,h⟩:=ob h
  refine ZO (Zfb N k _ o) [] [] ?_
  exact wB J 2 h (fun h=>oi h▸wr J 5 func97 []) fun h=>wa J 7 (ZK [] (ih3 (ZM (j+1)) h))
 exact ZK [] (ih N 0 h)
theorem Zrm (N:Nat) (d:(List ByteArray)) (e:ByteArray) (r:Int) (h:LC N d e=some r) :
 Fn Tryz.prog 122 ⟨1,[.S 0,.c (.s e)],[(0,.sl rS d)],[],1,.I r,[],[]⟩:=by
 refine Z5 func122 rfl (fun E F w=>?_)
 unfold LC at h
 refine wa J 11 (Z2 (σ:=Unit) (fun st=>(V9 d [])) (fun st=>GF=some r) ?_ (fun j1=>?_))
 ·intro _ h
  unfold GF at h
  exact oi h▸wr J 4 func122 []
 refine wa J 1 (Yc (σ:=Int) (fun st=>(V9 d [(0,.S 0),(1,.c (.s e)),(7,.I (d.length:Int)),(8,.I st)])) (fun n st=>Sc d e n st) (r:=r) (fun _=>rfl) ?_ (fun ih=>?_))
 ·intro n2 ih3
  intro f h
  unfold Sc at h
  refine ZQ J 5 h (fun h=>wa J 2 (ZK [] (j1 () h))) fun h=>?_
  refine wO J 14 h fun g i h=>Yb J oS i ?_
  exact wB J 3 h (fun h=>oi h▸wr J 6 func122 []) fun h=>wa J 7 (ZK [] (ih3 (ZM (f+1)) h))
 exact ZK [] (ih N 0 h)
theorem Rq (N:Nat) (d:(List ByteArray)) (e:ByteArray) (r:Bool) (h:W7 N d e=some r) :
 Fn Tryz.prog 54 ⟨1,[.S 0,.c (.s e)],[(0,.sl rS d)],[],1,.O r,[],[]⟩:=by
 refine Z5 func54 rfl (fun E F w=>?_)
 unfold W7 at h
 refine wO J 8 h fun f g h=>ZO (Zrm N d e _ g) [] [(0,.sl 0)] ?_
 exact oi h▸wr J 3 func54 []
theorem TA (N:Nat) (d:ByteArray) (r:Bool) (h:Wl N d=some r) :
 Fn Tryz.prog 41 ⟨0,[.c (.s d)],[],[],0,.O r,[],[]⟩:=by
 refine Z5 func41 rfl (fun E F w=>?_)
 unfold Wl at h
 refine wO J 13 h fun e f h=>ZO (ZtD N d _ f) [] [] ?_
 refine ZQ J 1 h (fun h=>oi h▸wr J 7 func41 []) fun h=>eSb [] oS ([(str [97,103,97,105,110]),(str [97,110,100]),(str [97,115]),(str [97,116]),(str [99,97,108,108]),(str [99,104,111,105,99,101]),(str [101,108,115,101]),(str [102,114,111,109]),(str [105,102]),(str [105,110,116]),(str [108,101,110]),(str [108,111,111,112]),(str [109,101,115,115,97,103,101]),(str [111,102]),(str [111,102,102,101,114]),(str [111,110]),(str [111,114]),(str [112,97,114]),(str [112,108,97,121,115]),(str [112,114,111,116,111,99,111,108]),(str [115,101,114,118,105,99,101]),(str [116,101,120,116]),(str [116,105,109,101,115]),(str [116,111]),(str [118,97,114]),(str [119,104,101,114,101]),(str [119,104,105,108,101]),(str [119,105,116,104,105,110])]:List ByteArray) ?_
 refine wO J 1 h fun g i h=>Wo (Rq N ([(str [97,103,97,105,110]),(str [97,110,100]),(str [97,115]),(str [97,116]),(str [99,97,108,108]),(str [99,104,111,105,99,101]),(str [101,108,115,101]),(str [102,114,111,109]),(str [105,102]),(str [105,110,116]),(str [108,101,110]),(str [108,111,111,112]),(str [109,101,115,115,97,103,101]),(str [111,102]),(str [111,102,102,101,114]),(str [111,110]),(str [111,114]),(str [112,97,114]),(str [112,108,97,121,115]),(str [112,114,111,116,111,99,111,108]),(str [115,101,114,118,105,99,101]),(str [116,101,120,116]),(str [116,105,109,101,115]),(str [116,111]),(str [118,97,114]),(str [119,104,101,114,101]),(str [119,104,105,108,101]),(str [119,105,116,104,105,110])]:List ByteArray) d _ i) [] [(0,.sl 1)] [1] (.inr ⟨rfl,trivial⟩) ?_
 exact oi h▸wr J 4 func41 []
theorem Sn (N:Nat) (d:Z4) (r:ByteArray × Z4) (h:UV N d=some r) :
 Fn Tryz.prog 88 ⟨2,[.B 0 0],[(1,.sl Yv d.l')],[(0,.box (YR 1 d) 99)],3,.c (.s r.1),[(2,.sl Yv r.2.l')],[(0,.box (YR 2 r.2) 99)]⟩:=by
 refine Z5 func88 rfl (fun E F w=>?_)
 unfold UV at h
 refine wO J 7 h fun e f h=>ZO (PA N d _ f) [] [(0,.bp 0 0),(1,.sl 1)] ?_
 refine wB J 10 h (fun h=>?_) fun h=>?_
 ·refine wO J 10 h fun g i h=>ZO (Qe N d 3 _ i) [] [(0,.bp 0 0),(1,.sl 1)] ?_
  exact oi h▸wr J 5 func88 [(2,.sl 3)]
 refine wO J 2 h fun j k h=>ZO (TA N e.ZG _ k) [] [] ?_
 refine ZQ J 3 h (fun h=>oi h▸wr J 19 func88 [(2,.sl 1)]) fun h=>?_
 refine wO J 4 h fun l m h=>ZO (Qe N d 3 _ m) [] [(0,.bp 0 0),(1,.sl 1)] ?_
 exact oi h▸wr J 5 func88 [(2,.sl 3)]
theorem Zf1 (N:Nat) (c:Z4) (r:(List ByteArray) × Z4) (h:D6 N c=some r) :
 Fn Tryz.prog 89 ⟨2,[.B 0 0],[(1,.sl Yv c.l')],[(0,.box (YR 1 c) 99)],4,.S 2,[(3,.sl Yv r.2.l')],[(2,.own rS r.1 true),(0,.box (YR 3 r.2) 99)]⟩:=by
 refine Z5 func89 rfl (fun E F w=>?_)
 unfold D6 at h
 refine wO J 7 h fun d e h=>ZO (Sn N c _ e) [] [(0,.bp 0 0),(1,.sl 1)] (YB J [] oS ([d.1]:List ByteArray) (wa J 3 (Z2 (σ:=(List T4) × Int × Int × Int × Int × (List ByteArray)) (fun st=>⟨[(3,.S 5)],[(0,.box [.sl 4,.I st.2.1,.I st.2.2.1,.I st.2.2.2.1,.I st.2.2.2.2.1] 99),(5,.own rS st.2.2.2.2.2 true)],[(1,.sl Yv c.l'),(4,.sl Yv st.1)],6⟩) (fun st=>Zf2 st.1 st.2.1 st.2.2.1 st.2.2.2.1 st.2.2.2.2.1 st.2.2.2.2.2=some r) ?_ (fun j1=>?_))))
 ·rintro ⟨f,g,i,j,k,l⟩ h
  unfold Zf2 at h
  exact oi h▸wr J 5 func89 [(2,.sl 5),(3,.sl 4)]
 refine wa J 1 (Yc (σ:=(List T4) × Int × Int × Int × Int × (List ByteArray)) (fun st=>⟨[(0,.B 0 0),(3,.S 5)],[(0,.box [.sl 4,.I st.2.1,.I st.2.2.1,.I st.2.2.2.1,.I st.2.2.2.2.1] 99),(5,.own rS st.2.2.2.2.2 true)],[(1,.sl Yv c.l'),(4,.sl Yv st.1)],6⟩) (fun n st=>ZcR N n st.1 st.2.1 st.2.2.1 st.2.2.2.1 st.2.2.2.2.1 st.2.2.2.2.2) (r:=r) (fun _=>rfl) ?_ (fun ih=>?_))
 ·intro n2 ih3
  rintro ⟨m,o,p,q,s,t⟩ h
  unfold ZcR at h
  refine wO J 4 h fun u v h=>ZO (Wp N (⟨m,o,p,q,s⟩:Z4) (str [44]) _ v) [] [(0,.bp 0 0),(1,.sl 4)] ?_
  refine ZQ J 1 h (fun h=>wa J 2 (ZK [(4,.sl 6)] (j1 (u.2.l',u.2.n',u.2.end',u.2.at',u.2.err',t) h))) fun h=>?_
  refine wO J 6 h fun x y h=>ZO (Sn N u.2 _ y) [] [(0,.bp 0 0),(1,.sl 6)] (YB J [] oS ([x.1]:List ByteArray) ?_)
  have ⟨z,A,h⟩:=ob h
  exact YK J rS A (wa J 3 (ZK [(4,.sl 7),(5,.sl 9)] (ih3 (x.2.l',x.2.n',x.2.end',x.2.at',x.2.err',z) h)))
 exact ZK [(4,.sl 2),(5,.sl 3)] (ih N (d.2.l',d.2.n',d.2.end',d.2.at',d.2.err',([d.1]:List ByteArray)) h)
theorem LG (N:Nat) (d:Z4) (r:ByteArray × Z4) (h:Qf N d=some r) :
 Fn Tryz.prog 145 ⟨2,[.B 0 0],[(1,.sl Yv d.l')],[(0,.box (YR 1 d) 99)],3,.c (.s r.1),[(2,.sl Yv r.2.l')],[(0,.box (YR 2 r.2) 99)]⟩:=by
 refine Z5 func145 rfl (fun E F w=>?_)
 unfold Qf at h
 refine wO J 7 h fun e f h=>ZO (Sn N d _ f) [] [(0,.bp 0 0),(1,.sl 1)] (wa J 3 (Z2 (σ:=(List T4) × Int × Int × Int × Int × ByteArray) (fun st=>⟨[(3,.c (.s st.2.2.2.2.2))],[(0,.box [.sl 3,.I st.2.1,.I st.2.2.1,.I st.2.2.2.1,.I st.2.2.2.2.1] 99)],[(1,.sl Yv d.l'),(3,.sl Yv st.1)],4⟩) (fun st=>Zfc st.1 st.2.1 st.2.2.1 st.2.2.2.1 st.2.2.2.2.1 st.2.2.2.2.2=some r) ?_ (fun j1=>?_)))
 ·rintro ⟨g,i,j,k,l,m⟩ h
  unfold Zfc at h
  exact oi h▸wr J 5 func145 [(2,.sl 3)]
 refine wa J 1 (Yc (σ:=(List T4) × Int × Int × Int × Int × ByteArray) (fun st=>⟨[(0,.B 0 0),(3,.c (.s st.2.2.2.2.2))],[(0,.box [.sl 3,.I st.2.1,.I st.2.2.1,.I st.2.2.2.1,.I st.2.2.2.2.1] 99)],[(1,.sl Yv d.l'),(3,.sl Yv st.1)],4⟩) (fun n st=>Zbn N n st.1 st.2.1 st.2.2.1 st.2.2.2.1 st.2.2.2.2.1 st.2.2.2.2.2) (r:=r) (fun _=>rfl) ?_ (fun ih=>?_))
 ·intro n2 ih3
  rintro ⟨o,p,q,t,u,v⟩ h
  unfold Zbn at h
  refine wO J 4 h fun x y h=>ZO (Wp N (⟨o,p,q,t,u⟩:Z4) (str [46]) _ y) [] [(0,.bp 0 0),(1,.sl 3)] ?_
  refine ZQ J 1 h (fun h=>wa J 2 (ZK [(3,.sl 4)] (j1 (x.2.l',x.2.n',x.2.end',x.2.at',x.2.err',v) h))) fun h=>?_
  refine wO J 6 h fun z A h=>ZO (Sn N x.2 _ A) [] [(0,.bp 0 0),(1,.sl 4)] ?_
  have ⟨C,D,h⟩:=ob h
  refine Yn D ?_
  have ⟨G,H,h⟩:=ob h
  exact Yn H (wa J 3 (ZK [(3,.sl 5)] (ih3 (z.2.l',z.2.n',z.2.end',z.2.at',z.2.err',G) h)))
 exact ZK [(3,.sl 2)] (ih N (e.2.l',e.2.n',e.2.end',e.2.at',e.2.err',e.1) h)
theorem Sf (N:Nat) (c:Z4) (r:Int × Z4) (h:z183 N c=some r) :
 Fn Tryz.prog 183 ⟨2,[.B 0 0],[(1,.sl Yv c.l')],[(0,.box (YR 1 c) 99)],3,.I r.1,[(2,.sl Yv r.2.l')],[(0,.box (YR 2 r.2) 99)]⟩:=by
 refine Z5 func183 rfl (fun E F w=>?_)
 unfold z183 at h
 refine wO J 7 h fun d e h=>ZO (PA N c _ e) [] [(0,.bp 0 0),(1,.sl 1)] ?_
 refine ZQ J 10 h (fun h=>oi h▸wr J 19 func183 [(2,.sl 1)]) fun h=>?_
 refine wO J 4 h fun f g h=>ZO (Qe N c 3 _ g) [] [(0,.bp 0 0),(1,.sl 1)] ?_
 exact oi h▸wr J 5 func183 [(2,.sl 3)]
theorem ZbH (N:Nat) (c:Z4) (r:Int × Z4) (h:z182 N c=some r) :
 Fn Tryz.prog 182 ⟨2,[.B 0 0],[(1,.sl Yv c.l')],[(0,.box (YR 1 c) 99)],3,.I r.1,[(2,.sl Yv r.2.l')],[(0,.box (YR 2 r.2) 99)]⟩:=by
 refine Z5 func182 rfl (fun E F w=>?_)
 unfold z182 at h
 refine wO J 8 h fun d e h=>ZO (Wp N c (str [45]) _ e) [] [(0,.bp 0 0),(1,.sl 1)] ?_
 refine wB J 1 h (fun h=>?_) fun h=>?_
 ·refine wO J 4 h fun f g h=>ZO (Sf N d.2 _ g) [] [(0,.bp 0 0),(1,.sl 2)] ?_
  exact oi h▸wr J 3 func182 [(2,.sl 3)]
 refine wO J 5 h fun i j h=>ZO (Sf N d.2 _ j) [] [(0,.bp 0 0),(1,.sl 2)] ?_
 exact oi h▸wr J 2 func182 [(2,.sl 3)]
theorem Zkx (N:Nat) (c:Z4) (r:T0 × Z4) (h:z146 N c=some r) :
 Fn Tryz.prog 146 ⟨2,[.B 0 0],[(1,.sl Yv c.l')],[(0,.box (YR 1 c) 99)],3,.a (Wz r.1),[(2,.sl Yv r.2.l')],[(0,.box (YR 2 r.2) 99)]⟩:=by
 refine Z5 func146 rfl (fun E F w=>?_)
 unfold z146 at h
 refine wO J 7 h fun d e h=>ZO (Sn N c _ e) [] [(0,.bp 0 0),(1,.sl 1)] ?_
 refine wO J 7 h fun f g h=>ZO (XH N d.2 (str [58]) _ g) [] [(0,.bp 0 0),(1,.sl 3)] ?_
 refine wO J 17 h fun i j h=>ZO (Wp N f (str [105,110,116]) _ j) [] [(0,.bp 0 0),(1,.sl 5)] ?_
 refine ZQ J 2 h (fun h=>?_) fun h=>?_
 ·refine wO J 5 h fun k l h=>ZO (ZbH N i.2 _ l) [] [(0,.bp 0 0),(1,.sl 6)] ?_
  refine wO J 7 h fun m o h=>ZO (XH N k.2 (str [46,46]) _ o) [] [(0,.bp 0 0),(1,.sl 7)] ?_
  refine wO J 4 h fun p q h=>ZO (ZbH N m _ q) [] [(0,.bp 0 0),(1,.sl 8)] ?_
  exact oi h▸wr J 9 func146 [(2,.sl 9)]
 refine wO J 4 h fun s t h=>ZO (XH N i.2 (str [116,101,120,116]) _ t) [] [(0,.bp 0 0),(1,.sl 6)] ?_
 refine wO J 15 h fun u v h=>ZO (Sf N s _ v) [] [(0,.bp 0 0),(1,.sl 7)] ?_
 refine wO J 7 h fun x y h=>ZO (XH N u.2 (str [46,46]) _ y) [] [(0,.bp 0 0),(1,.sl 8)] ?_
 refine wO J 4 h fun z A h=>ZO (Sf N x _ A) [] [(0,.bp 0 0),(1,.sl 9)] ?_
 exact oi h▸wr J 9 func146 [(2,.sl 10)]
theorem Zsl (N:Nat) (d:ByteArray) (e:Int) (r:Int) (h:z222 N d e=some r) :
 Fn Tryz.prog 222 ⟨0,[.c (.s d),.c (.i .u8 e)],[],[],0,.I r,[],[]⟩:=by
 refine Z5 func222 rfl (fun E F w=>?_)
 unfold z222 at h
 refine wa J 12 (Z2 (σ:=Unit) (fun st=>(WH [])) (fun st=>ZfA=some r) ?_ (fun j1=>?_))
 ·intro _ h
  unfold ZfA at h
  exact oi h▸wr J 4 func222 []
 refine wa J 1 (Yc (σ:=Int) (fun st=>(WH [(0,.c (.s d)),(1,.c (.i .u8 e)),(5,.I st)])) (fun n st=>Zb3 d e n st) (r:=r) (fun _=>rfl) ?_ (fun ih=>?_))
 ·intro n2 ih3
  intro f h
  unfold Zb3 at h
  refine ZQ J 6 h (fun h=>wa J 2 (ZK [] (j1 () h))) fun h=>?_
  refine wO J 8 h fun g j h=>XG J j ?_
  exact wB J 3 h (fun h=>oi h▸wr J 6 func222 []) fun h=>wa J 8 (ZK [] (ih3 (ZM (f-1)) h))
 exact ZK [] (ih N (ZM ((d.size:Int)-1)) h)
theorem Zsg (N:Nat) (d:ByteArray) (e:Int) (r:Int) (h:Zfv N d e=some r) :
 Fn Tryz.prog 210 ⟨0,[.c (.s d),.c (.i .u8 e)],[],[],0,.I r,[],[]⟩:=by
 refine Z5 func210 rfl (fun E F w=>?_)
 unfold Zfv at h
 refine wO J 8 h fun f g h=>ZO (Zsl N d e _ g) [] [] ?_
 exact oi h▸wr J 2 func210 []
theorem ZbI (N:Nat) (d:Z4) (r:Ys × Z4) (h:LU N d=some r) :
 Fn Tryz.prog 184 ⟨2,[.B 0 0],[(1,.sl Yv d.l')],[(0,.box (YR 1 d) 99)],3,.a (XE r.1),[(2,.sl Yv r.2.l')],[(0,.box (YR 2 r.2) 99)]⟩:=by
 refine Z5 func184 rfl (fun E F w=>?_)
 unfold LU at h
 refine wO J 8 h fun e f h=>ZO (Zkw N d (str [45]) _ f) [] [(0,.bp 0 0),(1,.sl 1)] ?_
 refine wB J 1 h (fun h=>?_) fun h=>?_
 ·refine wO J 10 h fun g i h=>ZO (ZbH N d _ i) [] [(0,.bp 0 0),(1,.sl 1)] ?_
  exact oi h▸wr J 3 func184 [(2,.sl 3)]
 refine wO J 1 h fun j k h=>ZO (PA N d _ k) [] [(0,.bp 0 0),(1,.sl 1)] ?_
 refine wB J 4 h (fun h=>?_) fun h=>?_
 ·refine wO J 4 h fun l m h=>ZO (ZbH N d _ m) [] [(0,.bp 0 0),(1,.sl 1)] ?_
  exact oi h▸wr J 3 func184 [(2,.sl 3)]
 refine wO J 16 h fun o p h=>ZO (Wp N d (str [108,101,110]) _ p) [] [(0,.bp 0 0),(1,.sl 1)] (wa J 1 (Z2 (σ:=(List T4) × Int × Int × Int × Int × Int × ByteArray) (fun st=>⟨[(0,.B 0 0),(2,.B 2 0),(3,.B 3 0),(4,.c (.s st.2.2.2.2.2.2))],[(0,.box [.sl 5,.I st.2.1,.I st.2.2.1,.I st.2.2.2.1,.I st.2.2.2.2.1] 99),(2,.box [.I 0,.s (str []),.s (str []),.I 0] 76),(3,.box [.I st.2.2.2.2.2.1,.s (str []),.s (str []),.I 0] 76)],[(1,.sl Yv d.l'),(5,.sl Yv st.1)],6⟩) (fun st=>ZbK N st.1 st.2.1 st.2.2.1 st.2.2.2.1 st.2.2.2.2.1 st.2.2.2.2.2.1 st.2.2.2.2.2.2=some r) ?_ (fun j1=>?_)))
 ·rintro ⟨q,t,u,v,x,y,z⟩ h
  unfold ZbK at h
  refine wO J 10 h fun A C h=>ZO (Zsg N z 46 _ C) [] [] (wa J 7 (Z2 (σ:=ByteArray × ByteArray) (fun st=>⟨[(0,.B 0 0),(2,.B 2 0),(3,.B 3 0)],[(0,.box [.sl 5,.I t,.I u,.I v,.I x] 99),(2,.box [.I 0,.s (str []),.s (str []),.I 0] 76),(3,.box [.I y,.s st.1,.s st.2,.I 0] 76)],[(1,.sl Yv d.l'),(5,.sl Yv q)],6⟩) (fun st=>ZbJ N q t u v x y st.1 st.2=some r) ?_ (fun j2=>?_)))
  ·rintro ⟨D,G⟩ h
   unfold ZbJ at h
   refine wO J 4 h fun H R h=>ZO (Wp N (⟨q,t,u,v,x⟩:Z4) (str [43]) _ R) [] [(0,.bp 0 0),(1,.sl 5)] ?_
   refine wB J 1 h (fun h=>?_) fun h=>?_
   ·refine wO J 3 h fun T U h=>ZO (Sf N H.2 _ U) [] [(0,.bp 0 0),(1,.sl 6)] ?_
    exact oi h▸wr J 8 func184 [(2,.sl 7)]
   refine wO J 4 h fun X Y h=>ZO (Wp N H.2 (str [45]) _ Y) [] [(0,.bp 0 0),(1,.sl 6)] ?_
   refine ZQ J 1 h (fun h=>oi h▸wr J 7 func184 [(2,.sl 7)]) fun h=>?_
   refine wO J 3 h fun Z a0 h=>ZO (Sf N X.2 _ a0) [] [(0,.bp 0 0),(1,.sl 7)] ?_
   exact oi h▸wr J 9 func184 [(2,.sl 8)]
  refine YZ h (fun h=>wa J 2 (ZK [] (j2 ((str []),z) h))) fun h=>?_
  refine wO J 4 h fun b0 c0 h=>Vn J c0 ?_
  exact wO J 3 h fun e0 g0 h=>Vn J g0 (wa J 4 (Yr (ZK [] (j2 (b0,e0) h))))
 refine YZ h (fun h=>?_) fun h=>?_
 ·exact wO J 3 h fun i0 j0 h=>ZO (LG N o.2 _ j0) [] [(0,.bp 0 0),(1,.sl 4)] (wa J 2 (ZK [] (j1 (i0.2.l',i0.2.n',i0.2.end',i0.2.at',i0.2.err',2,i0.1) h)))
 refine wO J 9 h fun k0 l0 h=>ZO (XH N o.2 (str [40]) _ l0) [] [(0,.bp 0 0),(1,.sl 4)] ?_
 refine wO J 4 h fun m0 o0 h=>ZO (LG N k0 _ o0) [] [(0,.bp 0 0),(1,.sl 5)] ?_
 exact wO J 4 h fun p0 q0 h=>ZO (XH N m0.2 (str [41]) _ q0) [] [(0,.bp 0 0),(1,.sl 6)] (wa J 1 (ZK [(5,.sl 7)] (j1 (p0.l',p0.n',p0.end',p0.at',p0.err',3,m0.1) h)))
theorem Zko (N:Nat) (r:(List ByteArray)) (h:Ln N=some r) :
 Fn Tryz.prog 103 ⟨0,[],[],[],1,.S 0,[],[(0,.own rS r true)]⟩:=by
 refine Z5 func103 rfl (fun E F w=>?_)
 unfold Ln at h
 refine wa J 6 (YB J [] oS ([(str [60]),(str [60,61]),(str [61,61]),(str [62,61]),(str [62])]:List ByteArray) ?_)
 exact oi h▸wr J 2 func103 [(0,.sl 0)]
theorem Zky (N:Nat) (c:Z4) (r:YM × Z4) (h:Zbo N c=some r) :
 Fn Tryz.prog 147 ⟨2,[.B 0 0],[(1,.sl Yv c.l')],[(0,.box (YR 1 c) 99)],3,.a [.I r.1.Zw.Zq,.s r.1.Zw.Zv,.s r.1.Zw.Field,.I r.1.Zw.N,.s r.1.Op,.I r.1.Zx.Zq,.s r.1.Zx.Zv,.s r.1.Zx.Field,.I r.1.Zx.N],[(2,.sl Yv r.2.l')],[(0,.box (YR 2 r.2) 99)]⟩:=by
 refine Z5 func147 rfl (fun E F w=>?_)
 unfold Zbo at h
 refine wO J 7 h fun d e h=>ZO (ZbI N c _ e) [] [(0,.bp 0 0),(1,.sl 1)] ?_
 refine wO J 8 h fun f g h=>ZO (PA N d.2 _ g) [] [(0,.bp 0 0),(1,.sl 3)] ?_
 refine ZQ J 9 h (fun h=>wa J 5 (Yr ?_)) fun h=>?_
 ·refine wO J 3 h fun i j h=>ZO (Qe N d.2 3 _ j) [] [(0,.bp 0 0),(1,.sl 3)] ?_
  refine wO J 4 h fun k l h=>ZO (ZbI N i _ l) [] [(0,.bp 0 0),(1,.sl 6)] ?_
  exact oi h▸wr J 8 func147 [(2,.sl 7)]
 have ⟨m,o,h⟩:=ob h
 refine ZO (Zko N _ o) [] [] ?_
 refine wO J 2 h fun p q h=>Wo (Rq N m f.ZG _ q) [] [(0,.sl 6)] [6] (.inr ⟨rfl,trivial⟩) (wa J 1 (Yr ?_))
 refine eB h (fun h=>?_) fun h=>?_
 ·refine wO J 21 h fun t u h=>ZO (ZbI N (⟨d.2.l',(ZM (d.2.n'+1)),d.2.end',d.2.at',d.2.err'⟩:Z4) _ u) [] [(0,.bp 0 0),(1,.sl 3)] ?_
  exact oi h▸wr J 8 func147 [(2,.sl 7)]
 refine wO J 3 h fun v x h=>ZO (Qe N d.2 3 _ x) [] [(0,.bp 0 0),(1,.sl 3)] ?_
 refine wO J 4 h fun y z h=>ZO (ZbI N v _ z) [] [(0,.bp 0 0),(1,.sl 7)] ?_
 exact oi h▸wr J 8 func147 [(2,.sl 8)]
theorem Ztv (N:Nat) (c:Z4) (r:ZS × Z4) (h:z91 N c=some r) :
 Fn Tryz.prog 91 ⟨2,[.B 0 0],[(1,.sl Yv c.l')],[(0,.box (YR 1 c) 99)],5,.a [.s r.1.Zt,.sl 2,.sl 3],(Xu 2 3 r.1 [(4,.sl Yv r.2.l')]),[(0,.box (YR 4 r.2) 99)]⟩:=by
 refine Z5 func91 rfl (fun E F w=>?_)
 unfold z91 at h
 refine wO J 7 h fun d e h=>ZO (LG N c _ e) [] [(0,.bp 0 0),(1,.sl 1)] ?_
 refine wO J 7 h fun f g h=>ZO (XH N d.2 (str [40]) _ g) [] [(0,.bp 0 0),(1,.sl 3)] ?_
 refine wO J 5 h fun i j h=>ZO (Wp N f (str [41]) _ j) [] [(0,.bp 0 0),(1,.sl 5)] (wa J 2 (Z2 (σ:=(List T4) × Int × Int × Int × Int × (List T0)) (fun st=>⟨[(0,.B 0 0),(2,.B 2 0),(3,.B 4 0)],[(0,.box [.sl 7,.I st.2.1,.I st.2.2.1,.I st.2.2.2.1,.I st.2.2.2.2.1] 99),(2,.box [.s (str []),.nil,.nil] 32),(4,.box [.s d.1,.sl 8,.nil] 32),(8,.own Xs st.2.2.2.2.2 true)],[(1,.sl Yv c.l'),(7,.sl Yv st.1)],9⟩) (fun st=>ZcS N d st.1 st.2.1 st.2.2.1 st.2.2.2.1 st.2.2.2.2.1 st.2.2.2.2.2=some r) ?_ (fun j1=>?_)))
 ·rintro ⟨k,l,m,o,p,q⟩ h
  unfold ZcS at h
  refine wO J 4 h fun t u h=>ZO (Wp N (⟨k,l,m,o,p⟩:Z4) (str [119,104,101,114,101]) _ u) [] [(0,.bp 0 0),(1,.sl 7)] ?_
  refine ZQ J 1 h (fun h=>?_) fun h=>?_
  ·refine wO J 5 h fun v x h=>ZO (XH N t.2 (str [59]) _ x) [] [(0,.bp 0 0),(1,.sl 9)] (wa J 6 (WX [8] ?_))
   cases h
   exact Y7 J func91 [(2,.sl 8),(3,.nil),(4,.sl 10)]
  refine wO J 6 h fun y z h=>ZO (Zky N t.2 _ z) [] [(0,.bp 0 0),(1,.sl 9)] (YB J [] RS ([y.1]:List YM) ?_)
  have ⟨A,C,h⟩:=ob h
  refine eAn J Vt C (wa J 2 (Yr (Z2 (σ:=(List T4) × Int × Int × Int × Int × (List YM)) (fun st=>(ZkU st.2.1 st.2.2.1 st.2.2.2.1 st.2.2.2.2.1 d.1 q st.2.2.2.2.2 c.l' st.1 [(0,.B 0 0),(2,.B 2 0),(3,.B 4 0)])) (fun st=>Zf4 N d q st.1 st.2.1 st.2.2.1 st.2.2.2.1 st.2.2.2.2.1 st.2.2.2.2.2=some r) ?_ (fun j5=>?_))))
  ·rintro ⟨D,G,H,R,T,U⟩ h
   unfold Zf4 at h
   refine wO J 3 h fun X Y h=>ZO (XH N (⟨D,G,H,R,T⟩:Z4) (str [59]) _ Y) [] [(0,.bp 0 0),(1,.sl 13)] (wa J 6 (WX [8] (WX [14] ?_)))
   cases h
   exact Y7 J func91 [(2,.sl 8),(3,.sl 14),(4,.sl 15)]
  refine wa J 1 (Yc (σ:=(List T4) × Int × Int × Int × Int × (List YM)) (fun st=>(ZkU st.2.1 st.2.2.1 st.2.2.2.1 st.2.2.2.2.1 d.1 q st.2.2.2.2.2 c.l' st.1 [(0,.B 0 0),(2,.B 2 0),(3,.B 4 0)])) (fun n st=>ZcT N d q n st.1 st.2.1 st.2.2.1 st.2.2.2.1 st.2.2.2.2.1 st.2.2.2.2.2) (r:=r) (fun _=>rfl) ?_ (fun ih=>?_))
  ·intro n4 ih7
   rintro ⟨Z,a0,b0,c0,e0,g0⟩ h
   unfold ZcT at h
   refine wO J 4 h fun i0 j0 h=>ZO (Wp N (⟨Z,a0,b0,c0,e0⟩:Z4) (str [97,110,100]) _ j0) [] [(0,.bp 0 0),(1,.sl 13)] ?_
   refine ZQ J 1 h (fun h=>wa J 2 (ZK [(13,.sl 15)] (j5 (i0.2.l',i0.2.n',i0.2.end',i0.2.at',i0.2.err',g0) h))) fun h=>?_
   refine wO J 7 h fun k0 l0 h=>ZO (Zky N i0.2 _ l0) [] [(0,.bp 0 0),(1,.sl 15)] (YB J [] RS ([k0.1]:List YM) ?_)
   have ⟨m0,o0,h⟩:=ob h
   exact YK J Vt o0 (wa J 2 (Yr (wa J 1 (ZK [(13,.sl 16),(14,.sl 18)] (ih7 (k0.2.l',k0.2.n',k0.2.end',k0.2.at',k0.2.err',m0) h)))))
  exact ZK [(13,.sl 10),(14,.sl 12)] (ih N (y.2.l',y.2.n',y.2.end',y.2.at',y.2.err',A) h)
 refine YZ h (fun h=>wa J 2 (ZK [(7,.sl 6),(8,.nil)] (j1 (i.2.l',i.2.n',i.2.end',i.2.at',i.2.err',([]:List T0)) h))) fun h=>?_
 refine wO J 6 h fun p0 q0 h=>ZO (Zkx N i.2 _ q0) [] [(0,.bp 0 0),(1,.sl 6)] (YB J [] W9 ([p0.1]:List T0) ?_)
 have ⟨s0,t0,h⟩:=ob h
 refine eAn J Xs t0 (wa J 2 (Yr (wa J 1 (Z2 (σ:=(List T4) × Int × Int × Int × Int × (List T0)) (fun st=>(ZkV st.2.1 st.2.2.1 st.2.2.2.1 st.2.2.2.2.1 d.1 st.2.2.2.2.2 c.l' st.1 [(0,.B 0 0),(2,.B 2 0),(3,.B 4 0)])) (fun st=>Zf5 N d st.1 st.2.1 st.2.2.1 st.2.2.2.1 st.2.2.2.2.1 st.2.2.2.2.2=some r) ?_ (fun j8=>?_)))))
 ·rintro ⟨u0,v0,x0,y0,z0,A0⟩ h
  unfold Zf5 at h
  exact wO J 2 h fun B0 C0 h=>ZO (XH N (⟨u0,v0,x0,y0,z0⟩:Z4) (str [41]) _ C0) [] [(0,.bp 0 0),(1,.sl 10)] (wa J 1 (ZK [(7,.sl 12),(8,.sl 11)] (j1 (B0.l',B0.n',B0.end',B0.at',B0.err',A0) h)))
 refine wa J 1 (Yc (σ:=(List T4) × Int × Int × Int × Int × (List T0)) (fun st=>(ZkV st.2.1 st.2.2.1 st.2.2.2.1 st.2.2.2.2.1 d.1 st.2.2.2.2.2 c.l' st.1 [(0,.B 0 0),(2,.B 2 0),(3,.B 4 0)])) (fun n st=>ZcU N d n st.1 st.2.1 st.2.2.1 st.2.2.2.1 st.2.2.2.2.1 st.2.2.2.2.2) (r:=r) (fun _=>rfl) ?_ (fun ih=>?_))
 ·intro n6 ih10
  rintro ⟨D0,G0,H0,I0,L0,M0⟩ h
  unfold ZcU at h
  refine wO J 4 h fun O0 R0 h=>ZO (Wp N (⟨D0,G0,H0,I0,L0⟩:Z4) (str [44]) _ R0) [] [(0,.bp 0 0),(1,.sl 10)] ?_
  refine ZQ J 1 h (fun h=>wa J 2 (ZK [(10,.sl 12)] (j8 (O0.2.l',O0.2.n',O0.2.end',O0.2.at',O0.2.err',M0) h))) fun h=>?_
  refine wO J 7 h fun S0 U0 h=>ZO (Zkx N O0.2 _ U0) [] [(0,.bp 0 0),(1,.sl 12)] (YB J [] W9 ([S0.1]:List T0) ?_)
  have ⟨V0,X0,h⟩:=ob h
  exact YK J Xs X0 (wa J 2 (Yr (wa J 1 (ZK [(10,.sl 13),(11,.sl 15)] (ih10 (S0.2.l',S0.2.n',S0.2.end',S0.2.at',S0.2.err',V0) h)))))
 exact ZK [(10,.sl 7),(11,.sl 9)] (ih N (p0.2.l',p0.2.n',p0.2.end',p0.2.at',p0.2.err',s0) h)
theorem PM (N:Nat) (rc:Z4->Option ((List ZJ) × Z4)) (rcT:(∀ (c:Z4) (r:(List ZJ) × Z4),rc c=some r->Fn Tryz.prog 92 ⟨2,[.B 0 0],[(1,.sl Yv c.l')],[(0,.box (YR 1 c) 99)],4,.S 2,[(3,.sl Yv r.2.l')],[(2,.own ZR r.1 true),(0,.box (YR 3 r.2) 99)]⟩)) (c:Z4) (r:(List ZJ) × Z4) (h:Rb N rc c=some r) :
 Fn Tryz.prog 186 ⟨2,[.B 0 0],[(1,.sl Yv c.l')],[(0,.box (YR 1 c) 99)],4,.S 2,[(3,.sl Yv r.2.l')],[(2,.own ZR r.1 true),(0,.box (YR 3 r.2) 99)]⟩:=by
 refine Z5 func186 rfl (fun E F w=>?_)
 unfold Rb at h
 refine wO J 7 h fun d e h=>ZO (XH N c (str [123]) _ e) [] [(0,.bp 0 0),(1,.sl 1)] ?_
 refine wO J 4 h fun f g h=>ZO (rcT d _ g) [] [(0,.bp 0 0),(1,.sl 2)] ?_
 refine wO J 5 h fun i j h=>ZO (XH N f.2 (str [125]) _ j) [] [(0,.bp 0 0),(1,.sl 4)] ?_
 exact oi h▸wr J 6 func186 [(2,.sl 3),(3,.sl 5)]
theorem Zr1 (N:Nat) (rc:Z4->Option ((List ZJ) × Z4)) (rcT:(∀ (c:Z4) (r:(List ZJ) × Z4),rc c=some r->Fn Tryz.prog 92 ⟨2,[.B 0 0],[(1,.sl Yv c.l')],[(0,.box (YR 1 c) 99)],4,.S 2,[(3,.sl Yv r.2.l')],[(2,.own ZR r.1 true),(0,.box (YR 3 r.2) 99)]⟩)) (c:Z4) (r:ZJ × Z4) (h:Zfp N rc c=some r) :
 Fn Tryz.prog 185 ⟨2,[.B 0 0],[(1,.sl Yv c.l')],[(0,.box (YR 1 c) 99)],5,.a [.I r.1.Zq,.s r.1.ZA,.sl 2,.s r.1.Zt,.s r.1.As,.I r.1.ZB,.sl 3],[(2,.sl rS r.1.To),(3,.sl (Yk ZR) r.1.ZC),(4,.sl Yv r.2.l')],[(0,.box (YR 4 r.2) 99)]⟩:=by
 refine Z5 func185 rfl (fun E F w=>?_)
 unfold Zfp at h
 refine wO J 7 h fun d e h=>ZO (XH N c (str [97,116]) _ e) [] [(0,.bp 0 0),(1,.sl 1)] ?_
 refine wO J 4 h fun f g h=>ZO (Sn N d _ g) [] [(0,.bp 0 0),(1,.sl 3)] ?_
 refine wO J 8 h fun i j h=>ZO (Wp N f.2 (str [119,105,116,104,105,110]) _ j) [] [(0,.bp 0 0),(1,.sl 4)] (wa J 1 (Z2 (σ:=(List T4) × Int × Int × Int × Int × Int) (fun st=>⟨[(0,.B 0 0),(2,.B 2 0),(3,.B 5 0)],[(0,.box [.sl 7,.I st.2.1,.I st.2.2.1,.I st.2.2.2.1,.I st.2.2.2.2.1] 99),(2,.box [.I 0,.s (str []),.nil,.s (str []),.s (str []),.I 0,.nil] 27),(5,.box [.I 2,.s f.1,.nil,.s (str []),.s (str []),.I st.2.2.2.2.2,.nil] 27)],[(1,.sl Yv c.l'),(7,.sl Yv st.1)],8⟩) (fun st=>PL N rc f st.1 st.2.1 st.2.2.1 st.2.2.2.1 st.2.2.2.2.1 st.2.2.2.2.2=some r) ?_ (fun j1=>?_)))
 ·rintro ⟨k,l,m,o,p,q⟩ h
  unfold PL at h
  refine wO J 3 h fun t u h=>ZO (PM N rc rcT (⟨k,l,m,o,p⟩:Z4) _ u) [] [(0,.bp 0 0),(1,.sl 7)] (YB J [8] (YQ ZR) ([t.1]:List (List ZJ)) (wa J 4 (Z2 (σ:=(List T4) × Int × Int × Int × Int × (List (List ZJ))) (fun st=>(ZkW st.2.1 st.2.2.1 st.2.2.2.1 st.2.2.2.2.1 f.1 q st.2.2.2.2.2 c.l' st.1 [(0,.B 0 0),(2,.B 2 0),(3,.B 5 0)])) (fun st=>Zfq N rc f q st.1 st.2.1 st.2.2.1 st.2.2.2.1 st.2.2.2.2.1 st.2.2.2.2.2=some r) ?_ (fun j2=>?_))))
  ·rintro ⟨v,x,y,z,A,C⟩ h
   unfold Zfq at h
   refine ZQ J 7 h (fun h=>wa J 7 (WX [12] ?_)) fun h=>?_
   ·cases h
    exact Y7 J func185 [(2,.nil),(3,.sl 12),(4,.sl 11)]
   refine wO J 4 h fun D G h=>ZO (XH N (⟨v,x,y,z,A⟩:Z4) (str [101,108,115,101]) _ G) [] [(0,.bp 0 0),(1,.sl 11)] ?_
   refine wO J 5 h fun H R h=>ZO (PM N rc rcT D _ R) [] [(0,.bp 0 0),(1,.sl 13)] (YB J [14] (YQ ZR) ([H.1]:List (List ZJ)) ?_)
   have ⟨T,U,h⟩:=ob h
   refine YK J (Yk ZR) U (wa J 2 (Yr (wa J 5 (WX [17] ?_))))
   cases h
   exact Y7 J func185 [(2,.nil),(3,.sl 17),(4,.sl 15)]
  refine wa J 1 (Yc (σ:=(List T4) × Int × Int × Int × Int × (List (List ZJ))) (fun st=>(ZkW st.2.1 st.2.2.1 st.2.2.2.1 st.2.2.2.2.1 f.1 q st.2.2.2.2.2 c.l' st.1 [(0,.B 0 0),(2,.B 2 0),(3,.B 5 0)])) (fun n st=>ZbL N rc f q n st.1 st.2.1 st.2.2.1 st.2.2.2.1 st.2.2.2.2.1 st.2.2.2.2.2) (r:=r) (fun _=>rfl) ?_ (fun ih=>?_))
  ·intro n2 ih4
   rintro ⟨X,Y,Z,a0,b0,c0⟩ h
   unfold ZbL at h
   refine wO J 4 h fun e0 g0 h=>ZO (Wp N (⟨X,Y,Z,a0,b0⟩:Z4) (str [111,114]) _ g0) [] [(0,.bp 0 0),(1,.sl 11)] ?_
   refine ZQ J 1 h (fun h=>wa J 2 (ZK [(11,.sl 13)] (j2 (e0.2.l',e0.2.n',e0.2.end',e0.2.at',e0.2.err',c0) h))) fun h=>?_
   refine wO J 7 h fun i0 j0 h=>ZO (PM N rc rcT e0.2 _ j0) [] [(0,.bp 0 0),(1,.sl 13)] (YB J [14] (YQ ZR) ([i0.1]:List (List ZJ)) ?_)
   have ⟨k0,l0,h⟩:=ob h
   exact YK J (Yk ZR) l0 (wa J 2 (Yr (wa J 1 (ZK [(11,.sl 15),(12,.sl 17)] (ih4 (i0.2.l',i0.2.n',i0.2.end',i0.2.at',i0.2.err',k0) h)))))
  exact ZK [(11,.sl 9),(12,.sl 10)] (ih N (t.2.l',t.2.n',t.2.end',t.2.at',t.2.err',([t.1]:List (List ZJ))) h)
 refine YZ h (fun h=>wa J 2 (ZK [(7,.sl 6)] (j1 (i.2.l',i.2.n',i.2.end',i.2.at',i.2.err',0) h))) fun h=>?_
 refine wO J 5 h fun m0 o0 h=>ZO (PA N i.2 _ o0) [] [(0,.bp 0 0),(1,.sl 6)] ?_
 refine ZQ J 9 h (fun h=>?_) fun h=>?_
 ·exact wO J 14 h fun p0 q0 h=>ZO (Sf N i.2 _ q0) [] [(0,.bp 0 0),(1,.sl 6)] (wa J 3 (ZK [(7,.sl 8)] (j1 (p0.2.l',p0.2.n',p0.2.end',p0.2.at',p0.2.err',p0.1) h)))
 refine wB J 4 h (fun h=>?_) fun h=>?_
 ·refine wO J 9 h fun s0 t0 h=>ZO (Qe N i.2 2 _ t0) [] [(0,.bp 0 0),(1,.sl 6)] ?_
  exact wO J 3 h fun u0 v0 h=>ZO (Sf N s0 _ v0) [] [(0,.bp 0 0),(1,.sl 8)] (wa J 3 (ZK [(7,.sl 9)] (j1 (u0.2.l',u0.2.n',u0.2.end',u0.2.at',u0.2.err',u0.1) h)))
 refine ZQ J 6 h (fun h=>?_) fun h=>?_
 ·exact wO J 4 h fun x0 y0 h=>ZO (Sf N i.2 _ y0) [] [(0,.bp 0 0),(1,.sl 6)] (wa J 3 (ZK [(7,.sl 8)] (j1 (x0.2.l',x0.2.n',x0.2.end',x0.2.at',x0.2.err',x0.1) h)))
 refine wO J 3 h fun z0 A0 h=>ZO (Qe N i.2 2 _ A0) [] [(0,.bp 0 0),(1,.sl 6)] ?_
 exact wO J 3 h fun B0 C0 h=>ZO (Sf N z0 _ C0) [] [(0,.bp 0 0),(1,.sl 8)] (wa J 3 (ZK [(7,.sl 9)] (j1 (B0.2.l',B0.2.n',B0.2.end',B0.2.at',B0.2.err',B0.1) h)))
theorem Zkz (N:Nat) (rc:Z4->Option ((List ZJ) × Z4)) (rcT:(∀ (c:Z4) (r:(List ZJ) × Z4),rc c=some r->Fn Tryz.prog 92 ⟨2,[.B 0 0],[(1,.sl Yv c.l')],[(0,.box (YR 1 c) 99)],4,.S 2,[(3,.sl Yv r.2.l')],[(2,.own ZR r.1 true),(0,.box (YR 3 r.2) 99)]⟩)) (c:Z4) (r:ZJ × Z4) (h:z148 N rc c=some r) :
 Fn Tryz.prog 148 ⟨2,[.B 0 0],[(1,.sl Yv c.l')],[(0,.box (YR 1 c) 99)],5,.a [.I r.1.Zq,.s r.1.ZA,.sl 2,.s r.1.Zt,.s r.1.As,.I r.1.ZB,.sl 3],[(2,.sl rS r.1.To),(3,.sl (Yk ZR) r.1.ZC),(4,.sl Yv r.2.l')],[(0,.box (YR 4 r.2) 99)]⟩:=by
 refine Z5 func148 rfl (fun E F w=>?_)
 unfold z148 at h
 refine wO J 9 h fun d e h=>ZO (Wp N c (str [99,104,111,105,99,101]) _ e) [] [(0,.bp 0 0),(1,.sl 1)] ?_
 refine wB J 2 h (fun h=>?_) fun h=>?_
 ·refine wO J 4 h fun f g h=>ZO (Zr1 N rc rcT d.2 _ g) [] [(0,.bp 0 0),(1,.sl 3)] ?_
  exact oi h▸wr J 2 func148 [(2,.sl 4),(3,.sl 5),(4,.sl 6)]
 refine wO J 4 h fun i j h=>ZO (Wp N d.2 (str [108,111,111,112]) _ j) [] [(0,.bp 0 0),(1,.sl 3)] ?_
 refine wB J 2 h (fun h=>?_) fun h=>?_
 ·refine wO J 4 h fun k l h=>ZO (LG N i.2 _ l) [] [(0,.bp 0 0),(1,.sl 4)] ?_
  refine wO J 7 h fun m o h=>ZO (PM N rc rcT k.2 _ o) [] [(0,.bp 0 0),(1,.sl 5)] (YB J [7] (YQ ZR) ([m.1]:List (List ZJ)) (wa J 8 (WX [9] ?_)))
  cases h
  exact Y7 J func148 [(2,.nil),(3,.sl 9),(4,.sl 8)]
 refine wO J 4 h fun p q h=>ZO (Wp N i.2 (str [97,103,97,105,110]) _ q) [] [(0,.bp 0 0),(1,.sl 4)] ?_
 refine wB J 2 h (fun h=>?_) fun h=>?_
 ·refine wO J 4 h fun t u h=>ZO (LG N p.2 _ u) [] [(0,.bp 0 0),(1,.sl 5)] ?_
  refine wO J 7 h fun v x h=>ZO (XH N t.2 (str [59]) _ x) [] [(0,.bp 0 0),(1,.sl 6)] ?_
  exact oi h▸wr J 6 func148 [(2,.nil),(3,.nil),(4,.sl 8)]
 refine wO J 4 h fun y z h=>ZO (Wp N p.2 (str [112,97,114]) _ z) [] [(0,.bp 0 0),(1,.sl 5)] ?_
 refine ZQ J 2 h (fun h=>?_) fun h=>?_
 ·refine wO J 4 h fun A C h=>ZO (Wp N y.2 (str [99,97,108,108]) _ C) [] [(0,.bp 0 0),(1,.sl 6)] ?_
  refine ZQ J 2 h (fun h=>?_) fun h=>?_
  ·refine wO J 6 h fun D G h=>ZO (Sn N A.2 _ G) [] [(0,.bp 0 0),(1,.sl 7)] ?_
   refine wO J 7 h fun H R h=>ZO (XH N D.2 (str [45,62]) _ R) [] [(0,.bp 0 0),(1,.sl 8)] ?_
   refine wO J 4 h fun T U h=>ZO (Zf1 N H _ U) [] [(0,.bp 0 0),(1,.sl 10)] ?_
   refine wO J 6 h fun X Y h=>ZO (XH N T.2 (str [58]) _ Y) [] [(0,.bp 0 0),(1,.sl 12)] ?_
   refine wO J 4 h fun Z a0 h=>ZO (LG N X _ a0) [] [(0,.bp 0 0),(1,.sl 13)] ?_
   refine wO J 6 h fun b0 c0 h=>ZO (XH N Z.2 (str [59]) _ c0) [] [(0,.bp 0 0),(1,.sl 14)] (wa J 6 (WX [11] ?_))
   cases h
   exact Y7 J func148 [(2,.sl 11),(3,.nil),(4,.sl 15)]
  refine wO J 4 h fun e0 g0 h=>ZO (Sn N A.2 _ g0) [] [(0,.bp 0 0),(1,.sl 7)] ?_
  refine wO J 7 h fun i0 j0 h=>ZO (XH N e0.2 (str [40]) _ j0) [] [(0,.bp 0 0),(1,.sl 8)] ?_
  refine wO J 4 h fun k0 l0 h=>ZO (Zf1 N i0 _ l0) [] [(0,.bp 0 0),(1,.sl 10)] ?_
  refine wO J 6 h fun m0 o0 h=>ZO (XH N k0.2 (str [41]) _ o0) [] [(0,.bp 0 0),(1,.sl 12)] ?_
  refine wO J 4 h fun p0 q0 h=>ZO (XH N m0 (str [97,115]) _ q0) [] [(0,.bp 0 0),(1,.sl 13)] ?_
  refine wO J 4 h fun s0 t0 h=>ZO (Sn N p0 _ t0) [] [(0,.bp 0 0),(1,.sl 14)] ?_
  refine wO J 6 h fun u0 v0 h=>ZO (XH N s0.2 (str [59]) _ v0) [] [(0,.bp 0 0),(1,.sl 15)] (wa J 6 (WX [11] ?_))
  cases h
  exact Y7 J func148 [(2,.sl 11),(3,.nil),(4,.sl 16)]
 refine wO J 4 h fun x0 y0 h=>ZO (PM N rc rcT y.2 _ y0) [] [(0,.bp 0 0),(1,.sl 6)] (YB J [7] (YQ ZR) ([x0.1]:List (List ZJ)) ?_)
 refine wO J 7 h fun z0 A0 h=>ZO (XH N x0.2 (str [97,110,100]) _ A0) [] [(0,.bp 0 0),(1,.sl 8)] ?_
 refine wO J 6 h fun B0 C0 h=>ZO (PM N rc rcT z0 _ C0) [] [(0,.bp 0 0),(1,.sl 11)] (YB J [12] (YQ ZR) ([B0.1]:List (List ZJ)) ?_)
 have ⟨D0,G0,h⟩:=ob h
 refine YK J (Yk ZR) G0 (wa J 2 (Yr (wa J 1 (Z2 (σ:=(List T4) × Int × Int × Int × Int × (List (List ZJ))) (fun st=>(ZkX st.2.1 st.2.2.1 st.2.2.2.1 st.2.2.2.2.1 st.2.2.2.2.2 c.l' st.1 [(2,.B 2 0),(5,.B 10 0)])) (fun st=>Zfd st.1 st.2.1 st.2.2.1 st.2.2.2.1 st.2.2.2.2.1 st.2.2.2.2.2=some r) ?_ (fun j1=>?_)))))
 ·rintro ⟨H0,I0,L0,M0,O0,R0⟩ h
  unfold Zfd at h
  refine wa J 5 (WX [17] ?_)
  cases h
  exact Y7 J func148 [(2,.nil),(3,.sl 17),(4,.sl 16)]
 refine wa J 1 (Yc (σ:=(List T4) × Int × Int × Int × Int × (List (List ZJ))) (fun st=>(ZkX st.2.1 st.2.2.1 st.2.2.2.1 st.2.2.2.2.1 st.2.2.2.2.2 c.l' st.1 [(0,.B 0 0),(2,.B 2 0),(5,.B 10 0)])) (fun n st=>Zbp N rc n st.1 st.2.1 st.2.2.1 st.2.2.2.1 st.2.2.2.2.1 st.2.2.2.2.2) (r:=r) (fun _=>rfl) ?_ (fun ih=>?_))
 ·intro n2 ih3
  rintro ⟨S0,U0,V0,X0,Y0,Z0⟩ h
  unfold Zbp at h
  refine wO J 4 h fun a1 b1 h=>ZO (Wp N (⟨S0,U0,V0,X0,Y0⟩:Z4) (str [97,110,100]) _ b1) [] [(0,.bp 0 0),(1,.sl 16)] ?_
  refine ZQ J 1 h (fun h=>wa J 2 (ZK [(16,.sl 18)] (j1 (a1.2.l',a1.2.n',a1.2.end',a1.2.at',a1.2.err',Z0) h))) fun h=>?_
  refine wO J 7 h fun c1 e1 h=>ZO (PM N rc rcT a1.2 _ e1) [] [(0,.bp 0 0),(1,.sl 18)] (YB J [19] (YQ ZR) ([c1.1]:List (List ZJ)) ?_)
  have ⟨g1,i1,h⟩:=ob h
  exact YK J (Yk ZR) i1 (wa J 2 (Yr (wa J 1 (ZK [(16,.sl 20),(17,.sl 22)] (ih3 (c1.2.l',c1.2.n',c1.2.end',c1.2.at',c1.2.err',g1) h)))))
 exact ZK [(16,.sl 13),(17,.sl 15)] (ih N (B0.2.l',B0.2.n',B0.2.end',B0.2.at',B0.2.err',D0) h)
theorem Ztw (N:Nat) (rc:Z4->Option ((List ZJ) × Z4)) (rcT:(∀ (c:Z4) (r:(List ZJ) × Z4),rc c=some r->Fn Tryz.prog 92 ⟨2,[.B 0 0],[(1,.sl Yv c.l')],[(0,.box (YR 1 c) 99)],4,.S 2,[(3,.sl Yv r.2.l')],[(2,.own ZR r.1 true),(0,.box (YR 3 r.2) 99)]⟩)) (c:Z4) (r:(List ZJ) × Z4) (h:Zf6 N rc c=some r) :
 Fn Tryz.prog 92 ⟨2,[.B 0 0],[(1,.sl Yv c.l')],[(0,.box (YR 1 c) 99)],4,.S 2,[(3,.sl Yv r.2.l')],[(2,.own ZR r.1 true),(0,.box (YR 3 r.2) 99)]⟩:=by
 refine Z5 func92 rfl (fun E F w=>?_)
 unfold Zf6 at h
 refine wa J 9 (Yc (σ:=(List T4) × Int × Int × Int × Int × (List ZJ)) (fun st=>⟨[(0,.B 0 0),(3,.S 3)],[(0,.box [.sl 2,.I st.2.1,.I st.2.2.1,.I st.2.2.2.1,.I st.2.2.2.2.1] 99),(3,.own ZR st.2.2.2.2.2 true)],[(1,.sl Yv c.l'),(2,.sl Yv st.1)],4⟩) (fun n st=>D7 N rc n st.1 st.2.1 st.2.2.1 st.2.2.2.1 st.2.2.2.2.1 st.2.2.2.2.2) (r:=r) (fun _=>rfl) ?_ (fun ih=>?_))
 ·intro n1 ih1
  rintro ⟨d,e,f,g,i,j⟩ h
  unfold D7 at h
  refine wO J 4 h fun k l h=>ZO (PA N (⟨d,e,f,g,i⟩:Z4) _ l) [] [(0,.bp 0 0),(1,.sl 2)] ?_
  refine wB J 10 h (fun h=>oi h▸wr J 19 func92 [(2,.sl 3),(3,.sl 2)]) fun h=>?_
  refine wO J 2 h fun m o h=>ZO (TA N k.ZG _ o) [] [] ?_
  refine ZQ J 2 h (fun h=>?_) fun h=>YB J [] oS ([(str [99,104,111,105,99,101]),(str [108,111,111,112]),(str [97,103,97,105,110]),(str [112,97,114]),(str [99,97,108,108])]:List ByteArray) ?_
  ·refine wO J 13 h fun p q h=>ZO (Zkz N rc rcT (⟨d,e,f,g,i⟩:Z4) _ q) [] [(0,.bp 0 0),(1,.sl 2)] (YB J [] Va ([p.1]:List ZJ) ?_)
   have ⟨s,t,h⟩:=ob h
   exact YK J ZR t (wa J 3 (ZK [(2,.sl 7),(3,.sl 9)] (ih1 (p.2.l',p.2.n',p.2.end',p.2.at',p.2.err',s) h)))
  refine wO J 2 h fun u v h=>Wo (Rq N ([(str [99,104,111,105,99,101]),(str [108,111,111,112]),(str [97,103,97,105,110]),(str [112,97,114]),(str [99,97,108,108])]:List ByteArray) k.ZG _ v) [] [(0,.sl 5)] [5] (.inr ⟨rfl,trivial⟩) ?_
  refine wB J 4 h (fun h=>oi h▸wr J 6 func92 [(2,.sl 3),(3,.sl 2)]) fun h=>?_
  refine wO J 5 h fun x y h=>ZO (Zkz N rc rcT (⟨d,e,f,g,i⟩:Z4) _ y) [] [(0,.bp 0 0),(1,.sl 2)] (YB J [] Va ([x.1]:List ZJ) ?_)
  have ⟨z,A,h⟩:=ob h
  exact YK J ZR A (wa J 3 (ZK [(2,.sl 8),(3,.sl 10)] (ih1 (x.2.l',x.2.n',x.2.end',x.2.at',x.2.err',z) h)))
 exact ZK [(2,.sl 1),(3,.nil)] (ih N (c.l',c.n',c.end',c.at',c.err',([]:List ZJ)) h)
theorem Zty:∀ (N:Nat) (c:Z4) (r:(List ZJ) × Z4) (h:ZcV N c=some r),Fn Tryz.prog 92 ⟨2,[.B 0 0],[(1,.sl Yv c.l')],[(0,.box (YR 1 c) 99)],4,.S 2,[(3,.sl Yv r.2.l')],[(2,.own ZR r.1 true),(0,.box (YR 3 r.2) 99)]⟩:=by
 intro N
 induction N with
 | zero=>intros;rename_i h;cases h
 | succ N ih=>intro c r h;exact Ztw N (ZcV N) ih c r h
theorem Ztx (N:Nat) (c:Z4) (r:(List ZJ) × Z4) (h:z92 N c=some r):Fn Tryz.prog 92 ⟨2,[.B 0 0],[(1,.sl Yv c.l')],[(0,.box (YR 1 c) 99)],4,.S 2,[(3,.sl Yv r.2.l')],[(2,.own ZR r.1 true),(0,.box (YR 3 r.2) 99)]⟩:=Zty N c r h
theorem Zsy (N:Nat) (c:Z4) (r:ZL × Z4) (h:z33 N c=some r) :
 Fn Tryz.prog 33 ⟨2,[.B 0 0],[(1,.sl Yv c.l')],[(0,.box (YR 1 c) 99)],6,.a [.s r.1.Zt,.sl 2,.sl 3,.sl 4],(Yz 2 3 4 r.1 [(5,.sl Yv r.2.l')]),[(0,.box (YR 5 r.2) 99)]⟩:=by
 refine Z5 func33 rfl (fun E F w=>?_)
 unfold z33 at h
 refine wO J 7 h fun d e h=>ZO (XH N c (str [112,114,111,116,111,99,111,108]) _ e) [] [(0,.bp 0 0),(1,.sl 1)] ?_
 refine wO J 4 h fun f g h=>ZO (Sn N d _ g) [] [(0,.bp 0 0),(1,.sl 3)] ?_
 refine wO J 7 h fun i j h=>ZO (XH N f.2 (str [40]) _ j) [] [(0,.bp 0 0),(1,.sl 4)] ?_
 refine wO J 4 h fun k l h=>ZO (Zf1 N i _ l) [] [(0,.bp 0 0),(1,.sl 6)] ?_
 refine wO J 6 h fun m o h=>ZO (XH N k.2 (str [41]) _ o) [] [(0,.bp 0 0),(1,.sl 8)] ?_
 refine wO J 4 h fun p q h=>ZO (XH N m (str [123]) _ q) [] [(0,.bp 0 0),(1,.sl 9)] (wa J 2 (Z2 (σ:=(List T4) × Int × Int × Int × Int × (List ZS)) (fun st=>(ZkY st.2.1 st.2.2.1 st.2.2.2.1 st.2.2.2.2.1 f.1 k.1 st.2.2.2.2.2 c.l' st.1 [(0,.B 0 0),(2,.B 2 0),(3,.B 5 0)])) (fun st=>ZfH N f k st.1 st.2.1 st.2.2.1 st.2.2.2.1 st.2.2.2.2.1 st.2.2.2.2.2=some r) ?_ (fun j1=>?_)))
 ·rintro ⟨t,u,v,x,y,z⟩ h
  unfold ZfH at h
  refine wO J 3 h fun A C h=>ZO (Ztx N (⟨t,u,v,x,y⟩:Z4) _ C) [] [(0,.bp 0 0),(1,.sl 11)] ?_
  refine wO J 6 h fun D G h=>ZO (XH N A.2 (str [125]) _ G) [] [(0,.bp 0 0),(1,.sl 14)] (wa J 6 (WX [7] (WX [12] (WX [13] ?_))))
  cases h
  exact Y7 J func33 [(2,.sl 7),(3,.sl 12),(4,.sl 13),(5,.sl 15)]
 refine wa J 1 (Yc (σ:=(List T4) × Int × Int × Int × Int × (List ZS)) (fun st=>(ZkY st.2.1 st.2.2.1 st.2.2.2.1 st.2.2.2.2.1 f.1 k.1 st.2.2.2.2.2 c.l' st.1 [(0,.B 0 0),(2,.B 2 0),(3,.B 5 0)])) (fun n st=>Zca N f k n st.1 st.2.1 st.2.2.1 st.2.2.2.1 st.2.2.2.2.1 st.2.2.2.2.2) (r:=r) (fun _=>rfl) ?_ (fun ih=>?_))
 ·intro n2 ih3
  rintro ⟨H,R,T,U,X,Y⟩ h
  unfold Zca at h
  refine wO J 4 h fun Z a0 h=>ZO (Wp N (⟨H,R,T,U,X⟩:Z4) (str [109,101,115,115,97,103,101]) _ a0) [] [(0,.bp 0 0),(1,.sl 11)] ?_
  refine ZQ J 1 h (fun h=>wa J 2 (ZK [(11,.sl 13)] (j1 (Z.2.l',Z.2.n',Z.2.end',Z.2.at',Z.2.err',Y) h))) fun h=>?_
  refine wO J 7 h fun b0 c0 h=>ZO (Ztv N Z.2 _ c0) [] [(0,.bp 0 0),(1,.sl 13)] (YB J [] VU ([b0.1]:List ZS) ?_)
  have ⟨e0,g0,h⟩:=ob h
  exact YK J YE g0 (wa J 2 (Yr (wa J 1 (ZK [(11,.sl 16),(12,.sl 18)] (ih3 (b0.2.l',b0.2.n',b0.2.end',b0.2.at',b0.2.err',e0) h)))))
 exact ZK [(11,.sl 10),(12,.nil)] (ih N (p.l',p.n',p.end',p.at',p.err',([]:List ZS)) h)
theorem ZtG (N:Nat) (d:ByteArray) (r:Bool) (h:z99 N d=some r) :
 Fn Tryz.prog 99 ⟨0,[.c (.s d)],[],[],0,.O r,[],[]⟩:=by
 refine Z5 func99 rfl (fun E F w=>?_)
 unfold z99 at h
 refine wO J 7 h fun e f h=>ZO (TA N d _ f) [] [] ?_
 exact oi h▸wr J 3 func99 []
theorem Zrz (N:Nat) (d:(List ByteArray)) (r:Int) (h:Zbc N d=some r) :
 Fn Tryz.prog 131 ⟨1,[.S 0,.c (.cl 99 [] [])],[(0,.sl rS d)],[],1,.I r,[],[]⟩:=by
 refine Z5 func131 rfl (fun E F w=>?_)
 unfold Zbc at h
 refine wa J 11 (Z2 (σ:=Unit) (fun st=>(V9 d [])) (fun st=>Zbd=some r) ?_ (fun j1=>?_))
 ·intro _ h
  unfold Zbd at h
  exact oi h▸wr J 4 func131 []
 refine wa J 1 (Yc (σ:=Int) (fun st=>(V9 d [(0,.S 0),(1,.c (.cl 99 [] [])),(7,.I (d.length:Int)),(8,.I st)])) (fun n st=>Pv N d n st) (r:=r) (fun _=>rfl) ?_ (fun ih=>?_))
 ·intro n2 ih3
  intro e h
  unfold Pv at h
  refine ZQ J 5 h (fun h=>wa J 2 (ZK [] (j1 () h))) fun h=>?_
  refine wO J 14 h fun f g h=>Yb J oS g ?_
  refine wO J 1 h fun i j h=>ZO (ZtG N f _ j) [] [] ?_
  exact wB J 1 h (fun h=>oi h▸wr J 6 func131 []) fun h=>wa J 7 (ZK [] (ih3 (ZM (e+1)) h))
 exact ZK [] (ih N 0 h)
theorem ZtE (N:Nat) (d:(List ByteArray)) (r:Bool) (h:Zc0 N d=some r) :
 Fn Tryz.prog 98 ⟨1,[.S 0,.c (.cl 99 [] [])],[(0,.sl rS d)],[],1,.O r,[],[]⟩:=by
 refine Z5 func98 rfl (fun E F w=>?_)
 unfold Zc0 at h
 refine wO J 8 h fun e f h=>ZO (Zrz N d _ f) [] [(0,.sl 0)] ?_
 exact oi h▸wr J 3 func98 []
theorem ZfN (N:Nat) (c:(List ByteArray)) (d:Int) (r:Bool) (h:P2 N c d=some r) :
 Fn Tryz.prog 42 ⟨1,[.S 0,.I d],[(0,.sl rS c)],[],1,.O r,[],[]⟩:=by
 refine Z5 func42 rfl (fun E F w=>?_)
 unfold P2 at h
 refine ZQ J 10 h (fun h=>oi h▸wr J 12 func42 []) fun h=>?_
 refine ZQ J 6 h (fun h=>oi h▸wr J 6 func42 []) fun h=>?_
 refine wO J 1 h fun e f h=>ZO (ZtE N c _ f) [] [(0,.sl 0)] ?_
 exact oi h▸wr J 4 func42 []
theorem ZkG (N:Nat) (d:ByteArray) (r:Int) (h:Zb4 N d=some r) :
 Fn Tryz.prog 223 ⟨0,[.c (.s d)],[],[],0,.I r,[],[]⟩:=by
 refine Z5 func223 rfl (fun E F w=>?_)
 unfold Zb4 at h
 refine wa J 8 (eRn J (fun bk1=>wa J 1 (Z2 (σ:=Int × Nat) (fun st=>⟨[(2,.I st.1)],[(0,.abs (VQ bk1 d st.2))],[],1⟩) (fun st=>ZfB st.1 st.2=some r) ?_ (fun j1=>?_))))
 ·rintro ⟨e,vi0_1⟩ h
  unfold ZfB at h
  exact oi h▸wr J 5 func223 []
 refine wa J 1 (Yc (σ:=Int × Nat) (fun st=>⟨[(2,.I st.1),(4,.c (.v (.pointer (some ⟨bk1,0,none⟩))))],[(0,.abs (VQ bk1 d st.2))],[],1⟩) (fun n st=>Zb5 d n st.1 st.2) (r:=r) (fun _=>rfl) ?_ (fun ih=>?_))
 ·intro n2 ih3
  rintro ⟨f,vi0_3⟩ h
  unfold Zb5 at h
  obtain ⟨K,h⟩|⟨K,h⟩:=oc h
  ·exact wa J 2 (eNt bk1 0 K (wa J 12 (ZK [] (ih3 ((ZM (f+1)),(vi0_3+(Utf8.decode d vi0_3).2)) h))))
  exact wa J 2 (eNf bk1 0 K (wa J 5 (ZK [] (j1 (f,vi0_3) h))))
 exact ZK [] (ih N (0,(0:Nat)) h)
theorem ZkH (N:Nat) (d:ByteArray) (r:Int × Int) (h:z232 N d=some r) :
 Fn Tryz.prog 232 ⟨0,[.c (.s d)],[],[],0,.t [.inl (.i .i32 r.1),.inl (.I r.2)],[],[]⟩:=by
 refine Z5 func232 rfl (fun E F w=>?_)
 unfold z232 at h
 refine wB J 17 h (fun h=>oi h▸wr J 6 func232 []) fun h=>?_
 refine wO J 5 h fun e f h=>XG J f ?_
 cases h
theorem Zsm (N:Nat) (d:ByteArray) (r:Int × Int) (h:ZfC N d=some r) :
 Fn Tryz.prog 224 ⟨0,[.c (.s d)],[],[],0,.t [.inl (.i .i32 r.1),.inl (.I r.2)],[],[]⟩:=by
 refine Z5 func224 rfl (fun E F w=>?_)
 unfold ZfC at h
 refine ZQ J 11 h (fun h=>?_) fun h=>?_
 ·refine wO J 8 h fun e f h=>ZO (ZkH N d _ f) [] [] ?_
  exact oi h▸wr J 6 func224 []
 refine wO J 1 h fun g j h=>XG J j ?_
 refine wB J 3 h (fun h=>?_) fun h=>?_
 ·refine wO J 4 h fun k l h=>XG J l ?_
  exact oi h▸wr J 4 func224 []
 refine wO J 3 h fun m o h=>ZO (ZkH N d _ o) [] [] ?_
 exact oi h▸wr J 6 func224 []
theorem Zsh (N:Nat) (d:ByteArray) (e:Int) (r:(List ByteArray)) (h:Zfw N d e=some r) :
 Fn Tryz.prog 211 ⟨0,[.c (.s d),.I e],[],[],1,.S 0,[],[(0,.own rS r true)]⟩:=by
 refine Z5 func211 rfl (fun E F w=>?_)
 unfold Zfw at h
 refine wO J 7 h fun f g h=>ZO (ZkG N d _ g) [] [] ?_
 refine wa J 8 (Z2 (σ:=Bool) (fun st=>(WH [(0,.c (.s d)),(1,.I e),(5,.I f),(18,.O st)])) (fun st=>Zb0 N d e f st=some r) ?_ (fun j1=>?_))
 ·intro i h
  unfold Zb0 at h
  refine Z2 (σ:=Int) (fun st=>(WH [(0,.c (.s d)),(1,.I st)])) (fun st=>ZbZ N d st=some r) ?_ (fun j2=>?_)
  ·intro j h
   unfold ZbZ at h
   refine wO J 3 h fun k l h=>eMk J oS l (wa J 7 (Z2 (σ:=ByteArray × (List ByteArray)) (fun st=>(zz9 st.2 [(0,.c (.s st.1)),(1,.I j),(6,.S 0)])) (fun st=>Zfx j st.1 st.2=some r) ?_ (fun j3=>?_)))
   ·rintro ⟨m,o⟩ h
    unfold Zfx at h
    refine ZQ J 6 h (fun h=>oi h▸wr J 7 func211 [(0,.sl 0)]) fun h=>?_
    refine wO J 6 h fun p q h=>Vm J rS q (SB J [] oS m q ?_)
    exact oi h▸wr J 6 func211 [(0,.sl 0)]
   refine wa J 1 (Yc (σ:=ByteArray × (List ByteArray) × Int) (fun st=>(zz9 st.2.1 [(0,.c (.s st.1)),(1,.I j),(6,.S 0),(7,.I st.2.2)])) (fun n st=>Zb1 N j n st.1 st.2.1 st.2.2) (r:=r) (fun _=>rfl) ?_ (fun ih=>?_))
   ·intro n2 ih5
    rintro ⟨t,u,v⟩ h
    unfold Zb1 at h
    refine ZQ J 8 h (fun h=>wa J 2 (ZK [] (j3 (t,u) h))) fun h=>?_
    refine wO J 7 h fun x y h=>ZO (Zsm N t _ y) [] [] ?_
    refine wO J 12 h fun z A h=>Vn J A ?_
    have ⟨C,D,h⟩:=ob h
    refine Vm J rS D (SB J [] oS z D ?_)
    exact wO J 4 h fun G H h=>Vn J H (wa J 8 (ZK [] (ih5 (G,(XK u v z),(ZM (v+1))) h)))
   exact ZK [] (ih N (d,k,0) h)
  exact eB h (fun h=>wa J 5 (ZK [] (j2 f h))) fun h=>wa J 2 (ZK [] (j2 e h))
 exact eB h (fun h=>wa J 5 (ZK [] (j1 true h))) fun h=>wa J 5 (ZK [] (j1 (decide (e > f)) h))
theorem Zsi (N:Nat) (d:ByteArray) (e:ByteArray) (r:Int) (h:z212 N d e=some r) :
 Fn Tryz.prog 212 ⟨0,[.c (.s d),.c (.s e)],[],[],0,.I r,[],[]⟩:=by
 refine Z5 func212 rfl (fun E F w=>?_)
 unfold z212 at h
 refine wB J 11 h (fun h=>?_) fun h=>?_
 ·refine wO J 4 h fun f g h=>ZO (ZkG N d _ g) [] [] ?_
  exact oi h▸wr J 3 func212 []
 refine wB J 9 h (fun h=>?_) fun h=>wa J 7 (Yc (σ:=ByteArray × Int) (fun st=>(WH [(0,.c (.s st.1)),(1,.c (.s e)),(5,.I st.2)])) (fun n st=>Zb2 N e n st.1 st.2) (r:=r) (fun _=>rfl) ?_ (fun ih=>?_))
 ·refine wO J 5 h fun i j h=>XG J j (eEx (Zm2 func225 (by kernel_rfl) (by kernel_rfl) (by kernel_rfl) (by kernel_rfl) d i) (fun _=>trivial) ?_)
  exact oi h▸wr J 2 func212 []
 ·intro n1 ih1
  rintro ⟨k,l⟩ h
  unfold Zb2 at h
  refine wO J 5 h fun m o h=>ZO (Zfo N k e _ o) [] [] ?_
  refine wB J 8 h (fun h=>oi h▸wr J 6 func212 []) fun h=>?_
  exact wO J 14 h fun p q h=>Vn J q (wa J 3 (ZK [] (ih1 (p,(ZM (l+1))) h)))
 exact ZK [] (ih N (d,0) h)
theorem Zr2 (N:Nat) (d:ByteArray) (e:ByteArray) (f:Int) (g:Int) (r:(List ByteArray)) (h:ZbM N d e f g=some r) :
 Fn Tryz.prog 187 ⟨0,[.c (.s d),.c (.s e),.I f,.I g],[],[],1,.S 0,[],[(0,.own rS r true)]⟩:=by
 refine Z5 func187 rfl (fun E F w=>?_)
 unfold ZbM at h
 refine wB J 10 h (fun h=>oi h▸wr J 5 func187 [(0,.nil)]) fun h=>?_
 refine wB J 8 h (fun h=>?_) fun h=>wa J 8 (Z2 (σ:=Int) (fun st=>(WH [(0,.c (.s d)),(1,.c (.s e)),(2,.I f),(3,.I st)])) (fun st=>G3 N d e f st=some r) ?_ (fun j1=>?_))
 ·refine wO J 5 h fun i j h=>ZO (Zsh N d g _ j) [] [] ?_
  exact oi h▸wr J 2 func187 [(0,.sl 0)]
 ·intro k h
  unfold G3 at h
  refine wO J 12 h fun l m h=>eMk J oS m (wa J 13 (Z2 (σ:=ByteArray × (List ByteArray) × Int) (fun st=>(zz9 st.2.1 [(0,.c (.s st.1)),(9,.S 0),(10,.I st.2.2)])) (fun st=>LV st.1 st.2.1 st.2.2=some r) ?_ (fun j2=>?_)))
  ·rintro ⟨o,p,q⟩ h
   unfold LV at h
   refine wO J 5 h fun t u h=>Vm J rS u (SB J [] oS o u ?_)
   refine wO J 6 h fun v x h=>eVw J rS x (wa J 2 (eSl rS 2 x ?_))
   cases h
   exact Y7 J func187 [(0,.sl 2)]
  refine wa J 1 (Yc (σ:=ByteArray × (List ByteArray) × Int) (fun st=>(zz9 st.2.1 [(0,.c (.s st.1)),(1,.c (.s e)),(2,.I f),(3,.I (ZM ((W0 k (ZM ((d.size:Int)+1)))-1))),(9,.S 0),(10,.I st.2.2)])) (fun n st=>Ql N d e f k n st.1 st.2.1 st.2.2) (r:=r) (fun _=>rfl) ?_ (fun ih=>?_))
  ·intro n2 ih4
   rintro ⟨y,z,A⟩ h
   unfold Ql at h
   refine ZQ J 7 h (fun h=>wa J 2 (ZK [] (j2 (y,z,A) h))) fun h=>?_
   refine wO J 7 h fun C D h=>ZO (Zfo N y e _ D) [] [] ?_
   refine wB J 8 h (fun h=>wa J 2 (ZK [] (j2 (y,z,A) h))) fun h=>?_
   refine wO J 10 h fun G H h=>Vn J H ?_
   have ⟨R,T,h⟩:=ob h
   refine Vm J rS T (SB J [] oS G T ?_)
   exact wO J 8 h fun U X h=>Vn J X (wa J 8 (ZK [] (ih4 (U,(XK z A G),(ZM (A+1))) h)))
  exact ZK [] (ih N (d,l,0) h)
 refine YZ h (fun h=>wa J 2 (ZK [] (j1 g h))) fun h=>?_
 exact wO J 4 h fun Y Z h=>ZO (Zsi N d e _ Z) [] [] (wa J 3 (ZK [] (j1 (ZM (Y+1)) h)))
theorem ZrG (N:Nat) (d:ByteArray) (e:ByteArray) (r:(List ByteArray)) (h:GR N d e=some r) :
 Fn Tryz.prog 149 ⟨0,[.c (.s d),.c (.s e)],[],[],1,.S 0,[],[(0,.own rS r true)]⟩:=by
 refine Z5 func149 rfl (fun E F w=>?_)
 unfold GR at h
 refine wO J 8 h fun f g h=>ZO (Zr2 N d e 0 (-1) _ g) [] [] ?_
 exact oi h▸wr J 2 func149 [(0,.sl 0)]
theorem ZrH (N:Nat) (d:ByteArray) (r:Bool) (h:Zbq N d=some r) :
 Fn Tryz.prog 150 ⟨0,[.c (.s d)],[],[],0,.O r,[],[]⟩:=by
 refine Z5 func150 rfl (fun E F w=>?_)
 unfold Zbq at h
 refine wO J 7 h fun e f h=>ZO (TA N d _ f) [] [] ?_
 exact oi h▸wr J 3 func150 []
theorem ZrB (N:Nat) (d:(List ByteArray)) (r:Int) (h:Zbe N d=some r) :
 Fn Tryz.prog 131 ⟨1,[.S 0,.c (.cl 150 [] [])],[(0,.sl rS d)],[],1,.I r,[],[]⟩:=by
 refine Z5 func131 rfl (fun E F w=>?_)
 unfold Zbe at h
 refine wa J 11 (Z2 (σ:=Unit) (fun st=>(V9 d [])) (fun st=>Zbg=some r) ?_ (fun j1=>?_))
 ·intro _ h
  unfold Zbg at h
  exact oi h▸wr J 4 func131 []
 refine wa J 1 (Yc (σ:=Int) (fun st=>(V9 d [(0,.S 0),(1,.c (.cl 150 [] [])),(7,.I (d.length:Int)),(8,.I st)])) (fun n st=>Py N d n st) (r:=r) (fun _=>rfl) ?_ (fun ih=>?_))
 ·intro n2 ih3
  intro e h
  unfold Py at h
  refine ZQ J 5 h (fun h=>wa J 2 (ZK [] (j1 () h))) fun h=>?_
  refine wO J 14 h fun f g h=>Yb J oS g ?_
  refine wO J 1 h fun i j h=>ZO (ZrH N f _ j) [] [] ?_
  exact wB J 1 h (fun h=>oi h▸wr J 6 func131 []) fun h=>wa J 7 (ZK [] (ih3 (ZM (e+1)) h))
 exact ZK [] (ih N 0 h)
theorem ZtF (N:Nat) (d:(List ByteArray)) (r:Bool) (h:Zc1 N d=some r) :
 Fn Tryz.prog 98 ⟨1,[.S 0,.c (.cl 150 [] [])],[(0,.sl rS d)],[],1,.O r,[],[]⟩:=by
 refine Z5 func98 rfl (fun E F w=>?_)
 unfold Zc1 at h
 refine wO J 8 h fun e f h=>ZO (ZrB N d _ f) [] [(0,.sl 0)] ?_
 exact oi h▸wr J 3 func98 []
theorem ZaI (N:Nat) (d:ByteArray) (r:Bool) (h:SX N d=some r) :
 Fn Tryz.prog 101 ⟨0,[.c (.s d)],[],[],0,.O r,[],[]⟩:=by
 refine Z5 func101 rfl (fun E F w=>?_)
 unfold SX at h
 refine ZQ J 10 h (fun h=>oi h▸wr J 7 func101 []) fun h=>?_
 refine wO J 1 h fun e f h=>ZO (ZrG N d (str [46]) _ f) [] [] ?_
 have ⟨g,i,h⟩:=ob h
 refine Wo (ZtF N e _ i) [] [(0,.sl 0)] [0] (.inr ⟨rfl,trivial⟩) ?_
 exact oi h▸wr J 4 func101 []
theorem Zq1 (N:Nat) (c:ZJ) (r:Bool) (h:Gg N c=some r) :
 Fn Tryz.prog 100 ⟨2,[.a [.I c.Zq,.s c.ZA,.sl 0,.s c.Zt,.s c.As,.I c.ZB,.sl 1]],[(0,.sl rS c.To),(1,.sl (Yk ZR) c.ZC)],[],2,.O r,[],[]⟩:=by
 refine Z5 func100 rfl (fun E F w=>?_)
 unfold Gg at h
 refine wB J 24 h (fun h=>?_) fun h=>?_
 ·refine wO J 5 h fun d e h=>ZO (TA N c.ZA _ e) [] [] ?_
  refine ZQ J 1 h (fun h=>oi h▸wr J 25 func100 []) fun h=>?_
  refine wO J 2 h fun f g h=>ZO (ZfN N c.To 5 _ g) [] [(0,.sl 0)] ?_
  refine ZQ J 2 h (fun h=>oi h▸wr J 20 func100 []) fun h=>?_
  refine wO J 2 h fun i j h=>ZO (ZaI N c.Zt _ j) [] [] ?_
  refine ZQ J 2 h (fun h=>oi h▸wr J 15 func100 []) fun h=>?_
  refine ZQ J 5 h (fun h=>oi h▸wr J 10 func100 []) fun h=>?_
  exact wB J 5 h (fun h=>oi h▸wr J 5 func100 []) fun h=>oi h▸wr J 5 func100 []
 refine wB J 6 h (fun h=>?_) fun h=>wa J 7 (Z2 (σ:=Bool) (fun st=>⟨[(1,.B 2 0),(3,.I (c.ZC.length:Int)),(8,.I c.Zq),(81,.O st)],[(2,.box [.I c.Zq,.s c.ZA,.sl 0,.s c.Zt,.s c.As,.I c.ZB,.sl 1] 27)],[(0,.sl rS c.To),(1,.sl (Yk ZR) c.ZC)],3⟩) (fun st=>Pb N c st=some r) ?_ (fun j1=>?_))
 ·refine wO J 5 h fun k l h=>ZO (TA N c.ZA _ l) [] [] ?_
  refine ZQ J 1 h (fun h=>oi h▸wr J 39 func100 []) fun h=>?_
  refine ZQ J 6 h (fun h=>oi h▸wr J 33 func100 []) fun h=>?_
  refine ZQ J 5 h (fun h=>oi h▸wr J 28 func100 []) fun h=>?_
  refine ZQ J 5 h (fun h=>oi h▸wr J 23 func100 []) fun h=>?_
  refine ZQ J 5 h (fun h=>oi h▸wr J 18 func100 []) fun h=>?_
  refine ZQ J 5 h (fun h=>oi h▸wr J 13 func100 []) fun h=>?_
  exact wB J 8 h (fun h=>oi h▸wr J 5 func100 []) fun h=>oi h▸wr J 5 func100 []
 ·intro m h
  unfold Pb at h
  refine eB h (fun h=>?_) fun h=>?_
  ·refine ZQ J 7 h (fun h=>oi h▸wr J 34 func100 []) fun h=>?_
   refine ZQ J 6 h (fun h=>oi h▸wr J 28 func100 []) fun h=>?_
   refine wO J 2 h fun o p h=>ZO (ZaI N c.Zt _ p) [] [] ?_
   refine ZQ J 2 h (fun h=>oi h▸wr J 23 func100 []) fun h=>?_
   refine ZQ J 5 h (fun h=>oi h▸wr J 18 func100 []) fun h=>?_
   refine ZQ J 5 h (fun h=>oi h▸wr J 13 func100 []) fun h=>?_
   exact wB J 8 h (fun h=>oi h▸wr J 5 func100 []) fun h=>oi h▸wr J 5 func100 []
  refine wB J 6 h (fun h=>?_) fun h=>?_
  ·refine ZQ J 7 h (fun h=>oi h▸wr J 30 func100 []) fun h=>?_
   refine ZQ J 6 h (fun h=>oi h▸wr J 24 func100 []) fun h=>?_
   refine ZQ J 5 h (fun h=>oi h▸wr J 19 func100 []) fun h=>?_
   refine ZQ J 5 h (fun h=>oi h▸wr J 14 func100 []) fun h=>?_
   refine ZQ J 5 h (fun h=>oi h▸wr J 9 func100 []) fun h=>?_
   exact wB J 4 h (fun h=>oi h▸wr J 5 func100 []) fun h=>oi h▸wr J 5 func100 []
  refine ZQ J 6 h (fun h=>oi h▸wr J 7 func100 []) fun h=>?_
  refine ZQ J 7 h (fun h=>oi h▸wr J 25 func100 []) fun h=>?_
  refine wO J 2 h fun q t h=>ZO (ZfN N c.To 6 _ t) [] [(0,.sl 0)] ?_
  refine ZQ J 2 h (fun h=>oi h▸wr J 20 func100 []) fun h=>?_
  refine wO J 2 h fun u v h=>ZO (TA N c.Zt _ v) [] [] ?_
  refine ZQ J 2 h (fun h=>oi h▸wr J 15 func100 []) fun h=>?_
  refine wO J 2 h fun x y h=>ZO (TA N c.As _ y) [] [] ?_
  refine ZQ J 2 h (fun h=>oi h▸wr J 10 func100 []) fun h=>?_
  exact wB J 5 h (fun h=>oi h▸wr J 5 func100 []) fun h=>oi h▸wr J 5 func100 []
 exact eB h (fun h=>wa J 2 (ZK [] (j1 true h))) fun h=>wa J 5 (ZK [] (j1 (c.Zq==4) h))
theorem ZsM (N:Nat) (rc:(List ZJ)->Int->Int->Option (Bool × Int)) (rcT:(∀ (c:(List ZJ)) (d:Int) (e:Int) (r:Bool × Int),rc c d e=some r->Fn Tryz.prog 43 ⟨2,[.S 0,.I d,.B 1 0],[(0,.sl ZR c)],[(1,.box [.I e] 3)],2,.O r.1,[],[(1,.box [.I r.2] 3)]⟩)) (c:(List ZJ)) (d:Int) (e:Int) (r:Bool × Int) (h:Dy N rc c d e=some r) :
 Fn Tryz.prog 43 ⟨2,[.S 0,.I d,.B 1 0],[(0,.sl ZR c)],[(1,.box [.I e] 3)],2,.O r.1,[],[(1,.box [.I r.2] 3)]⟩:=by
 refine Z5 func43 rfl (fun E F w=>?_)
 unfold Dy at h
 refine wa J 11 (Z2 (σ:=Int) (fun st=>⟨[],[(1,.box [.I st] 3)],[(0,.sl ZR c)],2⟩) (fun st=>Zck st=some r) ?_ (fun j1=>?_))
 ·intro f h
  unfold Zck at h
  exact oi h▸wr J 4 func43 []
 refine wa J 1 (Yc (σ:=Int × Int) (fun st=>⟨[(1,.I d),(2,.B 1 0),(11,.S 0),(12,.I (c.length:Int)),(13,.I st.2)],[(1,.box [.I st.1] 3)],[(0,.sl ZR c)],2⟩) (fun n st=>Rl N rc c d n st.1 st.2) (r:=r) (fun _=>rfl) ?_ (fun ih=>?_))
 ·intro n12 ih12
  rintro ⟨g,i⟩ h
  unfold Rl at h
  refine ZQ J 5 h (fun h=>wa J 2 (ZK [] (j1 g h))) fun h=>?_
  refine wO J 6 h fun j k h=>Yb J Va k ?_
  refine wB J 19 h (fun h=>oi h▸wr J 16 func43 []) fun h=>?_
  refine wB J 6 h (fun h=>oi h▸wr J 10 func43 []) fun h=>?_
  refine wO J 1 h fun l m h=>ZO (Zq1 N j _ m) [] [(0,.sl 3),(1,.sl 4)] ?_
  refine wB J 3 h (fun h=>oi h▸wr J 5 func43 []) fun h=>wa J 9 (Z2 (σ:=Int) (fun st=>⟨[(1,.I d),(2,.B 1 0),(11,.S 0),(12,.I (c.length:Int)),(13,.I i)],[(1,.box [.I st] 3)],[(0,.sl ZR c)],6⟩) (fun st=>Zcl i (Rl N rc c d n12) st=some r) ?_ (fun j19=>?_))
  ·intro o h
   unfold Zcl at h
   exact wa J 5 (ZK [] (ih12 (o,(ZM (i+1))) h))
  refine wa J 1 (Yc (σ:=Int × Int) (fun st=>⟨[(1,.I d),(2,.B 1 0),(11,.S 0),(12,.I (c.length:Int)),(13,.I i),(36,.S 4),(37,.I (j.ZC.length:Int)),(38,.I st.2)],[(1,.box [.I st.1] 3)],[(0,.sl ZR c),(4,.sl (Yk ZR) j.ZC)],6⟩) (fun n st=>P3 rc d i (Rl N rc c d n12) j n st.1 st.2) (r:=r) (fun _=>rfl) ?_ (fun ih=>?_))
  ·intro n14 ih21
   rintro ⟨p,q⟩ h
   unfold P3 at h
   refine ZQ J 5 h (fun h=>wa J 2 (ZK [] (j19 p h))) fun h=>?_
   refine wO J 6 h fun s t h=>Yb J (YQ ZR) t ?_
   refine wO J 9 h fun u v h=>ZO (rcT s (ZM (d+1)) p _ v) [] [(0,.sl 7),(1,.bp 1 0)] ?_
   exact wB J 2 h (fun h=>oi h▸wr J 5 func43 []) fun h=>wa J 7 (ZK [] (ih21 (u.2,(ZM (q+1))) h))
  exact ZK [] (ih N ((ZM (g+1)),0) h)
 exact ZK [] (ih N (e,0) h)
theorem ZsO:∀ (N:Nat) (c:(List ZJ)) (d:Int) (e:Int) (r:Bool × Int) (h:Zcm N c d e=some r),Fn Tryz.prog 43 ⟨2,[.S 0,.I d,.B 1 0],[(0,.sl ZR c)],[(1,.box [.I e] 3)],2,.O r.1,[],[(1,.box [.I r.2] 3)]⟩:=by
 intro N
 induction N with
 | zero=>intros;rename_i h;cases h
 | succ N ih=>intro c d e r h;exact ZsM N (Zcm N) ih c d e r h
theorem ZsN (N:Nat) (c:(List ZJ)) (d:Int) (e:Int) (r:Bool × Int) (h:Hm N c d e=some r):Fn Tryz.prog 43 ⟨2,[.S 0,.I d,.B 1 0],[(0,.sl ZR c)],[(1,.box [.I e] 3)],2,.O r.1,[],[(1,.box [.I r.2] 3)]⟩:=ZsO N c d e r h
theorem ZrI (N:Nat) (c:Int) (r:Bool) (h:Zbr N c=some r) :
 Fn Tryz.prog 151 ⟨0,[.I c],[],[],0,.O r,[],[]⟩:=by
 refine Z5 func151 rfl (fun E F w=>?_)
 unfold Zbr at h
 exact wB J 9 h (fun h=>oi h▸wr J 5 func151 []) fun h=>oi h▸wr J 5 func151 []
theorem Zkn (N:Nat) (c:Ys) (r:Bool) (h:Lm N c=some r) :
 Fn Tryz.prog 102 ⟨0,[.a (XE c)],[],[],0,.O r,[],[]⟩:=by
 refine Z5 func102 rfl (fun E F w=>?_)
 unfold Lm at h
 refine wO J 10 h fun d e h=>ZO (ZrI N c.N _ e) [] [] ?_
 refine wB J 2 h (fun h=>oi h▸wr J 5 func102 []) fun h=>?_
 refine wB J 14 h (fun h=>?_) fun h=>wa J 7 (Z2 (σ:=Bool) (fun st=>⟨[(1,.B 0 0),(19,.O st)],[(0,.box (XE c) 76)],[],1⟩) (fun st=>Pc N c st=some r) ?_ (fun j1=>?_))
 ·exact wB J 7 h (fun h=>oi h▸wr J 6 func102 []) fun h=>oi h▸wr J 6 func102 []
 ·intro f h
  unfold Pc at h
  refine YZ h (fun h=>oi h▸wr J 7 func102 []) fun h=>?_
  refine wO J 5 h fun g i h=>ZO (TA N c.Field _ i) [] [] ?_
  refine ZQ J 1 h (fun h=>oi h▸wr J 11 func102 []) fun h=>?_
  refine wB J 4 h (fun h=>oi h▸wr J 7 func102 []) fun h=>?_
  refine wO J 2 h fun j k h=>ZO (ZaI N c.Zv _ k) [] [] ?_
  exact oi h▸wr J 4 func102 []
 exact eB h (fun h=>wa J 2 (ZK [] (j1 true h))) fun h=>wa J 5 (ZK [] (j1 (c.Zq==3) h))
theorem ZsP (N:Nat) (c:ZS) (r:Bool) (h:Dz N c=some r) :
 Fn Tryz.prog 44 ⟨2,[.a [.s c.Zt,.sl 0,.sl 1]],(Xu 0 1 c []),[],2,.O r,[],[]⟩:=by
 refine Z5 func44 rfl (fun E F w=>?_)
 unfold Dz at h
 refine wO J 10 h fun d e h=>ZO (ZaI N c.Zt _ e) [] [] ?_
 refine wB J 2 h (fun h=>oi h▸wr J 17 func44 []) fun h=>?_
 refine wB J 6 h (fun h=>oi h▸wr J 11 func44 []) fun h=>?_
 refine wB J 6 h (fun h=>oi h▸wr J 5 func44 []) fun h=>wa J 10 (Z2 (σ:=Unit) (fun st=>⟨[(1,.B 2 0)],[(2,.box [.s c.Zt,.sl 0,.sl 1] 32)],(Xu 0 1 c []),3⟩) (fun st=>Zco N c=some r) ?_ (fun j1=>?_))
 ·intro _ h
  unfold Zco at h
  refine wa J 8 (Z2 (σ:=Unit) (fun st=>⟨[],[],(Xu 0 1 c []),3⟩) (fun st=>Zcn=some r) ?_ (fun j6=>?_))
  ·intro _ h
   unfold Zcn at h
   exact oi h▸wr J 4 func44 []
  refine wa J 1 (Yc (σ:=Int) (fun st=>⟨[(74,.S 1),(75,.I (c.Zz.length:Int)),(76,.I st)],[],(Xu 0 1 c []),3⟩) (fun n st=>Ho N c n st) (r:=r) (fun _=>rfl) ?_ (fun ih=>?_))
  ·intro n3 ih8
   intro f h
   unfold Ho at h
   refine ZQ J 5 h (fun h=>wa J 2 (ZK [] (j6 () h))) fun h=>?_
   refine wO J 6 h fun g i h=>Yb J RS i ?_
   refine wO J 8 h fun j k h=>ZO (Zkn N g.Zw _ k) [] [] ?_
   refine wB J 2 h (fun h=>wa J 12 (Yr (oi h▸wr J 5 func44 []))) fun h=>?_
   refine wO J 2 h fun l m h=>ZO (Zkn N g.Zx _ m) [] [] ?_
   refine wB J 3 h (fun h=>wa J 6 (Yr (oi h▸wr J 5 func44 []))) fun h=>?_
   have ⟨o,p,h⟩:=ob h
   refine ZO (Zko N _ p) [] [] ?_
   refine wO J 2 h fun q t h=>Wo (Rq N o g.Op _ t) [] [(0,.sl 5)] [5] (.inr ⟨rfl,trivial⟩) (wa J 2 (Yr ?_))
   exact eB h (fun h=>oi h▸wr J 5 func44 []) fun h=>wa J 7 (ZK [] (ih8 (ZM (f+1)) h))
  exact ZK [] (ih N 0 h)
 refine wa J 1 (Yc (σ:=Int) (fun st=>⟨[(1,.B 2 0),(25,.S 0),(26,.I (c.Zy.length:Int)),(27,.I st)],[(2,.box [.s c.Zt,.sl 0,.sl 1] 32)],(Xu 0 1 c []),3⟩) (fun n st=>Sm N c n st) (r:=r) (fun _=>rfl) ?_ (fun ih=>?_))
 ·intro n4 ih9
  intro u h
  unfold Sm at h
  refine ZQ J 5 h (fun h=>wa J 2 (ZK [] (j1 () h))) fun h=>?_
  refine wO J 6 h fun v x h=>Yb J W9 x (wa J 16 (Z2 (σ:=Int) (fun st=>⟨[(1,.B 2 0),(4,.B 4 0),(5,.I st),(25,.S 0),(26,.I (c.Zy.length:Int)),(27,.I u)],[(2,.box [.s c.Zt,.sl 0,.sl 1] 32),(4,.box (Wz v) 128)],(Xu 0 1 c []),5⟩) (fun st=>Hn N u (Sm N c n4) v st=some r) ?_ (fun j12=>?_)))
  ·intro y h
   unfold Hn at h
   refine wO J 4 h fun z A h=>ZO (TA N v.Zt _ A) [] [] ?_
   refine wB J 2 h (fun h=>oi h▸wr J 38 func44 []) fun h=>?_
   refine ZQ J 5 h (fun h=>?_) fun h=>?_
   ·refine wB J 18 h (fun h=>oi h▸wr J 15 func44 []) fun h=>?_
    exact wB J 10 h (fun h=>oi h▸wr J 5 func44 []) fun h=>wa J 7 (ZK [] (ih9 (ZM (u+1)) h))
   refine wB J 7 h (fun h=>oi h▸wr J 26 func44 []) fun h=>?_
   refine wB J 11 h (fun h=>oi h▸wr J 15 func44 []) fun h=>?_
   exact wB J 10 h (fun h=>oi h▸wr J 5 func44 []) fun h=>wa J 7 (ZK [] (ih9 (ZM (u+1)) h))
  exact eB h (fun h=>wa J 4 (ZK [] (j12 0 h))) fun h=>wa J 2 (ZK [] (j12 (-999999) h))
 exact ZK [] (ih N 0 h)
theorem SY (N:Nat) (d:List ByteArray) (e:ByteArray) (r:ByteArray) (h:Vw N d e=some r):Fn Tryz.prog 105 ⟨1,[.S 0,.c (.s e)],[(0,.sl rS d)],[],1,.c (.s r),[],[]⟩:=by
  unfold Vw at h
  cases hb:(decide (d.length<=140737488355328) && decide ((X9 e.data.toList (d.map (·.data.toList))).length<=140737488355328)) with
  | false=>rw [hb] at h;cases h
  | true =>
    rw [hb] at h
    simp only [cond_true,Option.some.injEq] at h
    subst h
    simp only [Zc,decide_eq_true_eq] at hb
    exact ZnQ d e hb.1 hb.2
theorem Zjl (l:List UInt8):∀ n:Nat,Go.Lib.repeatL l n=M5 l n
 | 0=>rfl
 | n+1=>by show l++Go.Lib.repeatL l n=l++M5 l n;rw [Zjl l n]
theorem ZkA (N:Nat) (d:ByteArray) (e:Int) (r:ByteArray) (h:PB N d e=some r):Fn Tryz.prog 153 ⟨0,[.c (.s d),.I e],[],[],0,.c (.s r),[],[]⟩:=by
 unfold PB at h
 cases hb:((decide (0<=e) && decide (e<=140737488355328)) && decide (d.size * e.toNat<=140737488355328)) with
 | false=>rw [hb] at h;cases h
 | true =>
  rw [hb] at h
  simp only [cond_true,Option.some.injEq] at h
  subst h
  simp only [Zc,decide_eq_true_eq] at hb
  obtain ⟨⟨h1,h2⟩,h3⟩:=hb
  obtain ⟨c,rfl⟩:=Int.eq_ofNat_of_zero_le h1
  have:=ZpW d c (by omega) h3
  rw [Zjl] at this
  exact this
theorem Zr3 (N:Nat) (c:Yd) (r:Yd) (h:ZbN N c=some r) :
 Fn Tryz.prog 188 ⟨1,[.B 0 0],[],[(0,.box [.v (.pointer none),.nil,.I c.depth'] 177)],2,.t [],[],[(1,.buf r.Builder 5),(0,.box [.bp 0 0,.sl 1,.I r.depth'] 177)]⟩:=by
 refine Z5 func188 rfl (fun E F w=>?_)
 unfold ZbN at h
 refine wa J 6 (ePz (wa J 5 (eCu (eNe func213 (by kernel_rfl) (by kernel_rfl) (by kernel_rfl) (by kernel_rfl) (eCq ?_)))))
 exact oi h▸wr J 4 func188 [(1,.nil)]
theorem ZrK (N:Nat) (d:ByteArray) (e:Yd) (r:Int × Unit × Yd) (h:Zbt N d e=some r) :
 Fn Tryz.prog 152 ⟨1,[.B 0 0,.c (.s d)],[],[(0,.box [.v (.pointer none),.nil,.I e.depth'] 177)],2,.t [.inl (.I r.1),.inl (.v .nilIface)],[],[(1,.buf r.2.2.Builder 5),(0,.box [.bp 0 0,.sl 1,.I r.2.2.depth'] 177)]⟩:=by
 refine Z5 func152 rfl (fun E F w=>?_)
 unfold Zbt at h
 refine wO J 8 h fun f g h=>ZO (Zr3 N (⟨ByteArray.empty,e.depth'⟩:Yd) _ g) [] [(0,.bp 0 0)] ?_
 refine wO J 9 h fun i j h=>eBt (ty:=5) J j ?_
 exact oi h▸wr J 11 func152 [(1,.sl 2)]
theorem Zq2 (N:Nat) (c:(List ByteArray)) (d:Yd) (r:Yd) (h:Gh N c d=some r) :
 Fn Tryz.prog 104 ⟨2,[.B 1 0,.S 0],[(0,.sl rS c)],[(1,.box [.v (.pointer none),.nil,.I d.depth'] 177)],3,.t [],[],[(2,.buf r.Builder 5),(1,.box [.bp 1 0,.sl 2,.I r.depth'] 177)]⟩:=by
 refine Z5 func104 rfl (fun E F w=>?_)
 unfold Gh at h
 refine wO J 8 h fun e f h=>ZO (ZkA N (str [9]) d.depth' _ f) [] [] ?_
 refine wO J 1 h fun g i h=>ZO (SY N c (str []) _ i) [] [(0,.sl 0)] ?_
 have ⟨j,k,h⟩:=ob h
 refine Yn k ?_
 have ⟨l,m,h⟩:=ob h
 refine Yn m ?_
 have ⟨o,p,h⟩:=ob h
 refine ZO (ZrK N l (⟨ByteArray.empty,d.depth'⟩:Yd) _ p) [] [(0,.bp 1 0)] (Yr ?_)
 cases h
 exact Y7 J func104 [(2,.sl 2)]
theorem LH (N:Nat) (d:Int) (r:ByteArray) (h:Tt N d=some r):Fn Tryz.prog 155 ⟨1,[.I d],[],[(0,.abs powT)],1,.c (.s r),[],[(0,.abs powT)]⟩:=by
 unfold Tt at h
 cases hb:(decide ((-9223372036854775808)<=d) && decide (d<=9223372036854775807)) with
 | false=>rw [hb] at h;cases h
 | true =>
  rw [hb] at h
  simp only [cond_true,Option.some.injEq] at h
  subst h
  simp only [Zc,decide_eq_true_eq] at hb
  exact ZnB d hb.1 hb.2
theorem ZkB (N:Nat) (d:Ys) (r:ByteArray) (h:PC N d=some r) :
 Fn Tryz.prog 156 ⟨1,[.a (XE d)],[],[(0,.abs powT)],1,.c (.s r),[],[(0,.abs powT)]⟩:=by
 refine Z5 func156 rfl (fun E F w=>?_)
 unfold PC at h
 refine wB J 12 h (fun h=>?_) fun h=>wa J 15 (Z2 (σ:=ByteArray) (fun st=>⟨[(1,.B 1 0),(3,.c (.s st))],[(0,.abs powT),(1,.box (XE d) 76)],[],2⟩) (fun st=>Qh N d st=some r) ?_ (fun j1=>?_))
 ·refine wO J 5 h fun e f h=>ZO (LH N d.N _ f) [] [(0,.sl 0)] ?_
  exact oi h▸wr J 2 func156 []
 ·intro g h
  unfold Qh at h
  refine wa J 7 (Z2 (σ:=ByteArray) (fun st=>⟨[(1,.B 1 0),(3,.c (.s st))],[(0,.abs powT),(1,.box (XE d) 76)],[],2⟩) (fun st=>Qg N d st=some r) ?_ (fun j2=>?_))
  ·intro i h
   unfold Qg at h
   refine wB J 9 h (fun h=>?_) fun h=>?_
   ·refine wO J 5 h fun j k h=>ZO (LH N d.N _ k) [] [(0,.sl 0)] ?_
    have ⟨l,m,h⟩:=ob h
    refine Yn m ?_
    have ⟨o,p,h⟩:=ob h
    refine Yn p ?_
    exact oi h▸wr J 8 func156 []
   refine ZQ J 8 h (fun h=>oi h▸wr J 8 func156 []) fun h=>?_
   refine wO J 6 h fun q t h=>ZO (LH N (ZM (0-d.N)) _ t) [] [(0,.sl 0)] ?_
   have ⟨u,v,h⟩:=ob h
   refine Yn v ?_
   have ⟨x,y,h⟩:=ob h
   refine Yn y ?_
   exact oi h▸wr J 8 func156 []
  refine YZ h (fun h=>wa J 2 (ZK [] (j2 g h))) fun h=>?_
  refine wO J 3 h fun z A h=>Yn A ?_
  have ⟨C,D,h⟩:=ob h
  exact Yn D (wa J 2 (ZK [] (j2 C h)))
 refine YZ h (fun h=>wa J 2 (ZK [] (j1 d.Field h))) fun h=>?_
 refine wO J 4 h fun G H h=>Yn H ?_
 exact wO J 1 h fun R T h=>Yn T (wa J 2 (ZK [] (j1 R h)))
theorem Zr4 (N:Nat) (c:Yd) (r:Unit) (h:ZbO N c=some r) :
 Fn Tryz.prog 188 ⟨2,[.B 0 0],[],[(0,.box [.bp 0 0,.sl 1,.I c.depth'] 177),(1,.buf c.Builder 5)],2,.t [],[],[(0,.box [.bp 0 0,.sl 1,.I c.depth'] 177),(1,.buf c.Builder 5)]⟩:=by
 refine Z5 func188 rfl (fun E F w=>?_)
 unfold ZbO at h
 refine wa J 6 (ePn false (wa J 9 (ePs ?_)))
 cases h
 exact wr J 3 func188 []
theorem ZrJ (N:Nat) (d:ByteArray) (e:Yd) (r:Int × Unit × Yd) (h:Zbs N d e=some r) :
 Fn Tryz.prog 152 ⟨2,[.B 0 0,.c (.s d)],[],[(0,.box [.bp 0 0,.sl 1,.I e.depth'] 177),(1,.buf e.Builder 5)],3,.t [.inl (.I r.1),.inl (.v .nilIface)],[],[(1,.gone),(2,.buf r.2.2.Builder 5),(0,.box [.bp 0 0,.sl 2,.I r.2.2.depth'] 177)]⟩:=by
 refine Z5 func152 rfl (fun E F w=>?_)
 unfold Zbs at h
 refine wO J 8 h fun f g h=>ZO (Zr4 N e _ g) [] [(0,.bp 0 0),(1,.sl 1)] ?_
 refine wO J 9 h fun i j h=>eBt (ty:=5) J j ?_
 exact oi h▸wr J 11 func152 [(2,.sl 2)]
theorem Up (N:Nat) (c:(List ByteArray)) (d:Yd) (r:Yd) (h:Ww N c d=some r) :
 Fn Tryz.prog 104 ⟨3,[.B 1 0,.S 0],[(0,.sl rS c)],[(1,.box [.bp 1 0,.sl 2,.I d.depth'] 177),(2,.buf d.Builder 5)],4,.t [],[],[(2,.gone),(3,.buf r.Builder 5),(1,.box [.bp 1 0,.sl 3,.I r.depth'] 177)]⟩:=by
 refine Z5 func104 rfl (fun E F w=>?_)
 unfold Ww at h
 refine wO J 8 h fun e f h=>ZO (ZkA N (str [9]) d.depth' _ f) [] [] ?_
 refine wO J 1 h fun g i h=>ZO (SY N c (str []) _ i) [] [(0,.sl 0)] ?_
 have ⟨j,k,h⟩:=ob h
 refine Yn k ?_
 have ⟨l,m,h⟩:=ob h
 refine Yn m ?_
 have ⟨o,p,h⟩:=ob h
 refine ZO (ZrJ N l d _ p) [] [(0,.bp 1 0),(1,.sl 2)] (Yr ?_)
 cases h
 exact Y7 J func104 [(3,.sl 3)]
theorem Zkp (N:Nat) (d:ZS) (e:Yd) (r:Yd) (h:Pd N d e=some r) :
 Fn Tryz.prog 106 ⟨5,[.B 2 0,.a [.s d.Zt,.sl 0,.sl 1]],(Xu 0 1 d []),[(2,.box [.bp 2 0,.sl 3,.I e.depth'] 177),(3,.buf e.Builder 5),(4,.abs powT)],6,.t [],[],[(3,.gone),(5,.buf r.Builder 5),(2,.box [.bp 2 0,.sl 5,.I r.depth'] 177),(4,.abs powT)]⟩:=by
 refine Z5 func106 rfl (fun E F w=>?_)
 unfold Pd at h
 refine wa J 17 (Z2 (σ:=(List ByteArray)) (fun st=>(ZkZ e.depth' e.Builder powT d.Zt st d [(0,.B 2 0),(3,.B 5 0),(4,.S 6),(5,.c .nil)])) (fun st=>Gj N d e st=some r) ?_ (fun j1=>?_))
 ·intro f h
  unfold Gj at h
  refine wa J 8 (Z2 (σ:=(List ByteArray)) (fun st=>(Zk0 e.depth' e.Builder powT d.Zt f st d [(0,.B 2 0),(3,.B 5 0),(4,.S 6),(5,.S 7)])) (fun st=>Gi N d e f st=some r) ?_ (fun j6=>?_))
  ·intro g h
   unfold Gi at h
   refine ZQ J 11 h (fun h=>?_) fun h=>?_
   ·refine wO J 7 h fun i j h=>Wo (SY N f (str [44,32]) _ j) [] [(0,.sl 6)] [6] (.inr ⟨rfl,trivial⟩) (wa J 1 (YB J [] oS ([(str [109,101,115,115,97,103,101,32]),d.Zt,(str [40]),i,(str [41]),(str []),(str [59])]:List ByteArray) ?_))
    have ⟨k,l,h⟩:=ob h
    refine ZO (Up N ([(str [109,101,115,115,97,103,101,32]),d.Zt,(str [40]),i,(str [41]),(str []),(str [59])]:List ByteArray) e _ l) [8] [(0,.sl 8),(1,.bp 2 0),(2,.sl 3)] (Yr ?_)
    cases h
    exact Y7 J func106 [(5,.sl 9)]
   refine wO J 3 h fun m o h=>Wo (SY N g (str [32,97,110,100,32]) _ o) [] [(0,.sl 7)] [7] (.inr ⟨rfl,trivial⟩) ?_
   have ⟨p,q,h⟩:=ob h
   refine Yn q ?_
   refine wO J 7 h fun u v h=>Wo (SY N f (str [44,32]) _ v) [] [(0,.sl 6)] [6] (.inr ⟨rfl,trivial⟩) (wa J 1 (YB J [] oS ([(str [109,101,115,115,97,103,101,32]),d.Zt,(str [40]),u,(str [41]),p,(str [59])]:List ByteArray) ?_))
   have ⟨x,y,h⟩:=ob h
   refine ZO (Up N ([(str [109,101,115,115,97,103,101,32]),d.Zt,(str [40]),u,(str [41]),p,(str [59])]:List ByteArray) e _ y) [8] [(0,.sl 8),(1,.bp 2 0),(2,.sl 3)] (Yr ?_)
   cases h
   exact Y7 J func106 [(5,.sl 9)]
  refine wa J 1 (Yc (σ:=(List ByteArray) × Int) (fun st=>(Zk0 e.depth' e.Builder powT d.Zt f st.1 d [(0,.B 2 0),(3,.B 5 0),(4,.S 6),(5,.S 7),(43,.S 1),(44,.I (d.Zz.length:Int)),(45,.I st.2)])) (fun n st=>Pe N d e f n st.1 st.2) (r:=r) (fun _=>rfl) ?_ (fun ih=>?_))
  ·intro n3 ih8
   rintro ⟨z,A⟩ h
   unfold Pe at h
   refine ZQ J 5 h (fun h=>wa J 2 (ZK [] (j6 z h))) fun h=>?_
   refine wO J 6 h fun C D h=>Yb J RS D ?_
   refine wO J 8 h fun G H h=>ZO (ZkB N C.Zw _ H) [] [(0,.sl 4)] ?_
   have ⟨R,T,h⟩:=ob h
   refine Yn T ?_
   refine wO J 2 h fun U X h=>Yn X ?_
   have ⟨Y,Z,h⟩:=ob h
   refine Yn Z ?_
   refine wO J 2 h fun a0 b0 h=>ZO (ZkB N C.Zx _ b0) [] [(0,.sl 4)] ?_
   have ⟨c0,e0,h⟩:=ob h
   refine Yn e0 (YB J [] oS ([c0]:List ByteArray) ?_)
   have ⟨g0,i0,h⟩:=ob h
   exact YK J rS i0 (wa J 1 (Yr (wa J 5 (ZK [(7,.sl 11)] (ih8 (g0,(ZM (A+1))) h)))))
  exact ZK [(7,.nil)] (ih N (([]:List ByteArray),0) h)
 refine wa J 1 (Yc (σ:=(List ByteArray) × Int) (fun st=>(ZkZ e.depth' e.Builder powT d.Zt st.1 d [(0,.B 2 0),(3,.B 5 0),(4,.S 6),(5,.c .nil),(13,.S 0),(14,.I (d.Zy.length:Int)),(15,.I st.2)])) (fun n st=>SZ N d e n st.1 st.2) (r:=r) (fun _=>rfl) ?_ (fun ih=>?_))
 ·intro n4 ih9
  rintro ⟨j0,k0⟩ h
  unfold SZ at h
  refine ZQ J 5 h (fun h=>wa J 2 (ZK [] (j1 j0 h))) fun h=>?_
  refine wO J 6 h fun l0 m0 h=>Yb J W9 m0 (wa J 16 (Z2 (σ:=ByteArray) (fun st=>⟨[(0,.B 2 0),(3,.B 5 0),(4,.S 6),(5,.c .nil),(7,.B 8 0),(8,.c (.s st)),(13,.S 0),(14,.I (d.Zy.length:Int)),(15,.I k0)],[(2,.box [.bp 2 0,.sl 3,.I e.depth'] 177),(3,.buf e.Builder 5),(4,.abs powT),(5,.box [.s d.Zt,.sl 0,.sl 1] 32),(6,.own rS j0 true),(8,.box (Wz l0) 128)],(Xu 0 1 d []),9⟩) (fun st=>Lp N j0 k0 (SZ N d e n4) l0 st=some r) ?_ (fun j12=>?_)))
  ·intro o0 h
   unfold Lp at h
   refine wO J 5 h fun p0 q0 h=>Yn q0 ?_
   refine wO J 3 h fun s0 t0 h=>ZO (LH N l0.Zu.Lo _ t0) [] [(0,.sl 4)] ?_
   have ⟨u0,v0,h⟩:=ob h
   refine Yn v0 ?_
   have ⟨x0,y0,h⟩:=ob h
   refine Yn y0 ?_
   refine wO J 3 h fun z0 A0 h=>ZO (LH N l0.Zu.Hi _ A0) [] [(0,.sl 4)] ?_
   have ⟨B0,C0,h⟩:=ob h
   refine Yn C0 (YB J [] oS ([B0]:List ByteArray) ?_)
   have ⟨D0,G0,h⟩:=ob h
   exact YK J rS G0 (wa J 1 (Yr (wa J 5 (ZK [(6,.sl 10)] (ih9 (D0,(ZM (k0+1))) h)))))
  exact eB h (fun h=>wa J 4 (ZK [] (j12 (str [58,32,116,101,120,116,32]) h))) fun h=>wa J 2 (ZK [] (j12 (str [58,32,105,110,116,32]) h))
 exact ZK [(6,.nil)] (ih N (([]:List ByteArray),0) h)
theorem Zbu (N:Nat) (rc:(List ZJ)->Yd->Option Yd) (rcT:(∀ (d:(List ZJ)) (e:Yd) (r:Yd),rc d e=some r->Fn Tryz.prog 107 ⟨4,[.B 1 0,.S 0],[(0,.sl ZR d)],[(1,.box [.bp 1 0,.sl 2,.I e.depth'] 177),(2,.buf e.Builder 5),(3,.abs powT)],5,.t [],[],[(2,.gone),(4,.buf r.Builder 5),(1,.box [.bp 1 0,.sl 4,.I r.depth'] 177),(3,.abs powT)]⟩)) (f:ByteArray) (g:ByteArray) (i:ByteArray) (d:(List (List ZJ))) (e:Yd) (r:Yd) (h:S7 N rc f g i d e=some r) :
 Fn Tryz.prog 157 ⟨4,[.B 1 0,.c (.s f),.c (.s g),.c (.s i),.S 0],[(0,.sl (Yk ZR) d)],[(1,.box [.bp 1 0,.sl 2,.I e.depth'] 177),(2,.buf e.Builder 5),(3,.abs powT)],5,.t [],[],[(2,.gone),(4,.buf r.Builder 5),(1,.box [.bp 1 0,.sl 4,.I r.depth'] 177),(3,.abs powT)]⟩:=by
 refine Z5 func157 rfl (fun E F w=>?_)
 unfold S7 at h
 refine wa J 7 (Z2 (σ:=ByteArray × Int) (fun st=>⟨[(0,.B 1 0)],[(1,.box [.bp 1 0,.sl 4,.I st.2] 177),(3,.abs powT),(4,.buf st.1 5)],[(0,.sl (Yk ZR) d)],5⟩) (fun st=>Zbv N st.1 st.2=some r) ?_ (fun j1=>?_))
 ·rintro ⟨j,k⟩ h
  unfold Zbv at h
  refine wa J 2 (YB J [] oS ([(str [125])]:List ByteArray) ?_)
  have ⟨l,m,h⟩:=ob h
  refine ZO (Up N ([(str [125])]:List ByteArray) (⟨j,k⟩:Yd) _ m) [5] [(0,.sl 5),(1,.bp 1 0),(2,.sl 4)] ?_
  exact oi h▸wr J 1 func157 [(4,.sl 6)]
 refine wa J 1 (Yc (σ:=ByteArray × Int × Int) (fun st=>⟨[(0,.B 1 0),(1,.c (.s f)),(2,.c (.s g)),(3,.c (.s i)),(4,.S 0),(12,.S 0),(13,.I (d.length:Int)),(14,.I st.2.2)],[(1,.box [.bp 1 0,.sl 4,.I st.2.1] 177),(3,.abs powT),(4,.buf st.1 5)],[(0,.sl (Yk ZR) d)],5⟩) (fun n st=>UR N rc f g i d n st.1 st.2.1 st.2.2) (r:=r) (fun _=>rfl) ?_ (fun ih=>?_))
 ·intro n2 ih6
  rintro ⟨o,p,q⟩ h
  unfold UR at h
  refine ZQ J 5 h (fun h=>wa J 2 (ZK [] (j1 (o,p) h))) fun h=>?_
  refine wO J 7 h fun u v h=>Yb J (YQ ZR) v (wa J 12 (Z2 (σ:=ByteArray × Int) (fun st=>⟨[(0,.B 1 0),(1,.c (.s f)),(2,.c (.s g)),(3,.c (.s i)),(4,.S 0),(11,.S 6),(12,.S 0),(13,.I (d.length:Int)),(14,.I q)],[(1,.box [.bp 1 0,.sl 7,.I st.2] 177),(3,.abs powT),(7,.buf st.1 5)],[(0,.sl (Yk ZR) d),(6,.sl ZR u)],8⟩) (fun st=>Qi rc q (UR N rc f g i d n2) u st.1 st.2=some r) ?_ (fun j9=>?_)))
  ·rintro ⟨x,y⟩ h
   unfold Qi at h
   exact wO J 16 h fun z A h=>ZO (rcT u (⟨x,(ZM (y+1))⟩:Yd) _ A) [] [(0,.sl 6),(1,.bp 1 0),(2,.sl 7),(3,.sl 3)] (wa J 16 (ZK [(4,.sl 8)] (ih6 (z.Builder,(ZM (z.depth'-1)),(ZM (q+1))) h)))
  refine eB h (fun h=>wa J 4 (YB J [] oS ([f,(str [32,123])]:List ByteArray) ?_)) fun h=>?_
  ·have ⟨C,D,h⟩:=ob h
   exact ZO (Up N ([f,(str [32,123])]:List ByteArray) (⟨o,p⟩:Yd) _ D) [7] [(0,.sl 7),(1,.bp 1 0),(2,.sl 4)] (wa J 1 (ZK [(7,.sl 8)] (j9 (C.Builder,C.depth') h)))
  refine ZQ J 9 h (fun h=>wa J 9 (YB J [] oS ([(str [125,32]),g,(str [32,123])]:List ByteArray) ?_)) fun h=>?_
  ·have ⟨G,H,h⟩:=ob h
   exact ZO (Up N ([(str [125,32]),g,(str [32,123])]:List ByteArray) (⟨o,p⟩:Yd) _ H) [7] [(0,.sl 7),(1,.bp 1 0),(2,.sl 4)] (wa J 1 (ZK [(7,.sl 8)] (j9 (G.Builder,G.depth') h)))
  refine wB J 5 h (fun h=>wa J 4 (YB J [] oS ([(str [125,32]),i,(str [32,123])]:List ByteArray) ?_)) fun h=>wa J 4 (YB J [] oS ([(str [125,32]),g,(str [32,123])]:List ByteArray) ?_)
  ·have ⟨R,T,h⟩:=ob h
   exact ZO (Up N ([(str [125,32]),i,(str [32,123])]:List ByteArray) (⟨o,p⟩:Yd) _ T) [7] [(0,.sl 7),(1,.bp 1 0),(2,.sl 4)] (wa J 1 (ZK [(7,.sl 8)] (j9 (R.Builder,R.depth') h)))
  have ⟨U,X,h⟩:=ob h
  exact ZO (Up N ([(str [125,32]),g,(str [32,123])]:List ByteArray) (⟨o,p⟩:Yd) _ X) [7] [(0,.sl 7),(1,.bp 1 0),(2,.sl 4)] (wa J 1 (ZK [(7,.sl 8)] (j9 (U.Builder,U.depth') h)))
 exact ZK [(4,.sl 2)] (ih N (e.Builder,e.depth',0) h)
theorem Zq3 (N:Nat) (rc:(List ZJ)->Yd->Option Yd) (rcT:(∀ (c:(List ZJ)) (d:Yd) (r:Yd),rc c d=some r->Fn Tryz.prog 107 ⟨4,[.B 1 0,.S 0],[(0,.sl ZR c)],[(1,.box [.bp 1 0,.sl 2,.I d.depth'] 177),(2,.buf d.Builder 5),(3,.abs powT)],5,.t [],[],[(2,.gone),(4,.buf r.Builder 5),(1,.box [.bp 1 0,.sl 4,.I r.depth'] 177),(3,.abs powT)]⟩)) (c:(List ZJ)) (d:Yd) (r:Yd) (h:Gk N rc c d=some r) :
 Fn Tryz.prog 107 ⟨4,[.B 1 0,.S 0],[(0,.sl ZR c)],[(1,.box [.bp 1 0,.sl 2,.I d.depth'] 177),(2,.buf d.Builder 5),(3,.abs powT)],5,.t [],[],[(2,.gone),(4,.buf r.Builder 5),(1,.box [.bp 1 0,.sl 4,.I r.depth'] 177),(3,.abs powT)]⟩:=by
 refine Z5 func107 rfl (fun E F w=>?_)
 unfold Gk at h
 refine wa J 6 (Z2 (σ:=ByteArray × Int) (fun st=>⟨[],[(1,.box [.bp 1 0,.sl 4,.I st.2] 177),(3,.abs powT),(4,.buf st.1 5)],[(0,.sl ZR c)],5⟩) (fun st=>ZaJ st.1 st.2=some r) ?_ (fun j1=>?_))
 ·rintro ⟨e,f⟩ h
  unfold ZaJ at h
  cases h
  exact Y7 J func107 [(4,.sl 4)]
 refine wa J 1 (Yc (σ:=ByteArray × Int × Int) (fun st=>⟨[(0,.B 1 0),(6,.S 0),(7,.I (c.length:Int)),(8,.I st.2.2)],[(1,.box [.bp 1 0,.sl 4,.I st.2.1] 177),(3,.abs powT),(4,.buf st.1 5)],[(0,.sl ZR c)],5⟩) (fun n st=>Vx N rc c n st.1 st.2.1 st.2.2) (r:=r) (fun _=>rfl) ?_ (fun ih=>?_))
 ·intro n2 ih3
  rintro ⟨g,i,j⟩ h
  unfold Vx at h
  refine ZQ J 5 h (fun h=>wa J 2 (ZK [] (j1 (g,i) h))) fun h=>?_
  refine wO J 6 h fun k l h=>Yb J Va l ?_
  refine wB J 15 h (fun h=>?_) fun h=>?_
  ·refine wO J 7 h fun m o h=>ZO (SY N k.To (str [44,32]) _ o) [] [(0,.sl 6)] (wa J 2 (YB J [] oS ([k.ZA,(str [32,45,62,32]),m,(str [58,32]),k.Zt,(str [59])]:List ByteArray) ?_))
   have ⟨p,q,h⟩:=ob h
   exact ZO (Up N ([k.ZA,(str [32,45,62,32]),m,(str [58,32]),k.Zt,(str [59])]:List ByteArray) (⟨g,i⟩:Yd) _ q) [9] [(0,.sl 9),(1,.bp 1 0),(2,.sl 4)] (Yr (wa J 6 (ZK [(4,.sl 10)] (ih3 (p.Builder,p.depth',(ZM (j+1))) h))))
  refine wB J 6 h (fun h=>?_) fun h=>?_
  ·refine ZQ J 7 h (fun h=>?_) fun h=>?_
   ·refine wO J 5 h fun s u h=>Yn u ?_
    exact wO J 2 h fun v x h=>ZO (Zbu N rc rcT s (str [111,114]) (str []) k.ZC (⟨g,i⟩:Yd) _ x) [] [(0,.sl 7),(1,.bp 1 0),(2,.sl 4),(3,.sl 3)] (wa J 7 (ZK [(4,.sl 9)] (ih3 (v.Builder,v.depth',(ZM (j+1))) h)))
   refine wO J 5 h fun y z h=>Yn z ?_
   have ⟨A,C,h⟩:=ob h
   refine Yn C ?_
   refine wO J 2 h fun D G h=>ZO (LH N k.ZB _ G) [] [(0,.sl 3)] ?_
   have ⟨H,R,h⟩:=ob h
   refine Yn R ?_
   exact wO J 2 h fun T U h=>ZO (Zbu N rc rcT H (str [111,114]) (str [101,108,115,101]) k.ZC (⟨g,i⟩:Yd) _ U) [] [(0,.sl 7),(1,.bp 1 0),(2,.sl 4),(3,.sl 3)] (Yr (wa J 6 (ZK [(4,.sl 9)] (ih3 (T.Builder,T.depth',(ZM (j+1))) h))))
  refine wB J 6 h (fun h=>?_) fun h=>?_
  ·refine wO J 5 h fun X Y h=>Yn Y ?_
   exact wO J 2 h fun Z a0 h=>ZO (Zbu N rc rcT X (str []) (str []) k.ZC (⟨g,i⟩:Yd) _ a0) [] [(0,.sl 7),(1,.bp 1 0),(2,.sl 4),(3,.sl 3)] (wa J 7 (ZK [(4,.sl 9)] (ih3 (Z.Builder,Z.depth',(ZM (j+1))) h)))
  refine wB J 6 h (fun h=>wa J 5 (YB J [] oS ([(str [97,103,97,105,110,32]),k.Zt,(str [59])]:List ByteArray) ?_)) fun h=>?_
  ·have ⟨b0,c0,h⟩:=ob h
   exact ZO (Up N ([(str [97,103,97,105,110,32]),k.Zt,(str [59])]:List ByteArray) (⟨g,i⟩:Yd) _ c0) [9] [(0,.sl 9),(1,.bp 1 0),(2,.sl 4)] (wa J 7 (ZK [(4,.sl 10)] (ih3 (b0.Builder,b0.depth',(ZM (j+1))) h)))
  refine wB J 6 h (fun h=>?_) fun h=>?_
  ·exact wO J 5 h fun e0 g0 h=>ZO (Zbu N rc rcT (str [112,97,114]) (str [97,110,100]) (str []) k.ZC (⟨g,i⟩:Yd) _ g0) [] [(0,.sl 7),(1,.bp 1 0),(2,.sl 4),(3,.sl 3)] (wa J 7 (ZK [(4,.sl 9)] (ih3 (e0.Builder,e0.depth',(ZM (j+1))) h)))
  refine ZQ J 6 h (fun h=>wa J 8 (ZK [] (ih3 (g,i,(ZM (j+1))) h))) fun h=>?_
  refine wO J 7 h fun i0 j0 h=>ZO (SY N k.To (str [44,32]) _ j0) [] [(0,.sl 6)] (wa J 2 (YB J [] oS ([(str [99,97,108,108,32]),k.Zt,(str [40]),i0,(str [41,32,97,115,32]),k.As,(str [59])]:List ByteArray) ?_))
  have ⟨k0,l0,h⟩:=ob h
  exact ZO (Up N ([(str [99,97,108,108,32]),k.Zt,(str [40]),i0,(str [41,32,97,115,32]),k.As,(str [59])]:List ByteArray) (⟨g,i⟩:Yd) _ l0) [9] [(0,.sl 9),(1,.bp 1 0),(2,.sl 4)] (Yr (wa J 6 (ZK [(4,.sl 10)] (ih3 (k0.Builder,k0.depth',(ZM (j+1))) h))))
 exact ZK [(4,.sl 2)] (ih N (d.Builder,d.depth',0) h)
theorem Zq4:∀ (N:Nat) (c:(List ZJ)) (d:Yd) (r:Yd) (h:ZaK N c d=some r),Fn Tryz.prog 107 ⟨4,[.B 1 0,.S 0],[(0,.sl ZR c)],[(1,.box [.bp 1 0,.sl 2,.I d.depth'] 177),(2,.buf d.Builder 5),(3,.abs powT)],5,.t [],[],[(2,.gone),(4,.buf r.Builder 5),(1,.box [.bp 1 0,.sl 4,.I r.depth'] 177),(3,.abs powT)]⟩:=by
 intro N
 induction N with
 | zero=>intros;rename_i h;cases h
 | succ N ih=>intro c d r h;exact Zq3 N (ZaK N) ih c d r h
theorem Zkq (N:Nat) (c:(List ZJ)) (d:Yd) (r:Yd) (h:S2 N c d=some r):Fn Tryz.prog 107 ⟨4,[.B 1 0,.S 0],[(0,.sl ZR c)],[(1,.box [.bp 1 0,.sl 2,.I d.depth'] 177),(2,.buf d.Builder 5),(3,.abs powT)],5,.t [],[],[(2,.gone),(4,.buf r.Builder 5),(1,.box [.bp 1 0,.sl 4,.I r.depth'] 177),(3,.abs powT)]⟩:=Zq4 N c d r h
theorem Zq5 (N:Nat) (d:Yd) (r:ByteArray) (h:Lq N d=some r) :
 Fn Tryz.prog 108 ⟨2,[.B 0 0],[],[(0,.box [.bp 0 0,.sl 1,.I d.depth'] 177),(1,.buf d.Builder 5)],2,.c (.s r),[],[(0,.box [.bp 0 0,.sl 1,.I d.depth'] 177),(1,.gone)]⟩:=by
 refine Z5 func108 rfl (fun E F w=>?_)
 unfold Lq at h
 refine wO J 10 h fun e f h=>eUd (ty:=5) (Zh3 f) (wa J 4 (eBl (sb:=d.Builder) (ty:=5) J ?_))
 have ⟨g,i,h⟩:=ob h
 refine eUs (ty:=5) (Zh3 i) (wa J 1 (Yr ?_))
 cases h
 exact Y7 J func108 []
theorem Zq6 (N:Nat) (d:Yd) (r:ByteArray) (h:Ze1 N d=some r) :
 Fn Tryz.prog 108 ⟨1,[.B 0 0],[],[(0,.box [.v (.pointer none),.nil,.I d.depth'] 177)],1,.c (.s r),[],[(0,.box [.v (.pointer none),.nil,.I d.depth'] 177)]⟩:=by
 refine Z5 func108 rfl (fun E F w=>?_)
 unfold Ze1 at h
 refine wa J 10 (eUn (wa J 5 (eUz (wa J 1 (Yr ?_)))))
 cases h
 exact Y7 J func108 []
theorem ZsQ (N:Nat) (d:(List ZL)) (r:ByteArray) (h:DA N d=some r) :
 Fn Tryz.prog 45 ⟨2,[.S 0],[(0,.sl ZV d)],[(1,.abs powT)],2,.c (.s r),[],[(1,.abs powT)]⟩:=by
 refine Z5 func45 rfl (fun E F w=>?_)
 unfold DA at h
 refine wa J 18 (ePl ?_)
 refine ZQ J 5 h (fun h=>?_) fun h=>?_
 ·refine wO J 7 h fun e f h=>ZO (Zq6 N (⟨ByteArray.empty,0⟩:Yd) _ f) [] [(0,.bp 2 0)] ?_
  exact oi h▸wr J 2 func45 []
 refine wO J 6 h fun g i h=>Yb J X2 i ?_
 refine wO J 11 h fun j k h=>ZO (SY N g.ZD (str [44,32]) _ k) [] [(0,.sl 4)] (YB J [] oS ([(str [112,114,111,116,111,99,111,108,32]),g.Zt,(str [40]),j,(str [41,32,123])]:List ByteArray) ?_)
 have ⟨l,m,h⟩:=ob h
 refine ZO (Zq2 N ([(str [112,114,111,116,111,99,111,108,32]),g.Zt,(str [40]),j,(str [41,32,123])]:List ByteArray) (⟨ByteArray.empty,0⟩:Yd) _ m) [8] [(0,.sl 8),(1,.bp 2 0)] (Yr (wa J 19 (Z2 (σ:=ByteArray × Int) (fun st=>(Zk1 powT st.2 g.Zt st.1 d g [(3,.B 2 0),(5,.B 7 0),(10,.S 0),(11,.I (d.length:Int)),(12,.I 0)])) (fun st=>DC N d g st.1 st.2=some r) ?_ (fun j15=>?_))))
 ·rintro ⟨o,p⟩ h
  unfold DC at h
  refine wO J 5 h fun q t h=>ZO (Zkq N g.ZF (⟨o,p⟩:Yd) _ t) [] [(0,.sl 6),(1,.bp 2 0),(2,.sl 10),(3,.sl 1)] (wa J 14 (YB J [] oS ([(str [125])]:List ByteArray) ?_))
  have ⟨u,v,h⟩:=ob h
  refine ZO (Up N ([(str [125])]:List ByteArray) (⟨q.Builder,(ZM (q.depth'-1))⟩:Yd) _ v) [12] [(0,.sl 12),(1,.bp 2 0),(2,.sl 11)] (wa J 6 (ZmK (σ:=ByteArray × Int × Int) (fun st=>⟨[(3,.B 2 0),(10,.S 0),(11,.I (d.length:Int)),(12,.I st.2.2)],[(1,.abs powT),(2,.box [.bp 2 0,.sl 14,.I st.2.1] 177),(14,.buf st.1 5)],[(0,.sl ZV d)],15⟩) (fun n st=>UT N d n st.1 st.2.1 st.2.2) (r:=r) (fun _=>rfl) ?_ (fun ih=>?_)))
  ·intro n15 ih17
   rintro ⟨x,y,z⟩ h
   unfold UT at h
   refine ZQ J 5 h (fun h=>?_) fun h=>?_
   ·refine wO J 7 h fun A C h=>ZO (Zq5 N (⟨x,y⟩:Yd) _ C) [] [(0,.bp 2 0),(1,.sl 14)] ?_
    exact oi h▸wr J 2 func45 []
   refine wO J 6 h fun D G h=>Yb J X2 G ?_
   refine wO J 11 h fun H R h=>ZO (SY N D.ZD (str [44,32]) _ R) [] [(0,.sl 16)] (YB J [] oS ([(str [112,114,111,116,111,99,111,108,32]),D.Zt,(str [40]),H,(str [41,32,123])]:List ByteArray) ?_)
   have ⟨T,U,h⟩:=ob h
   refine ZO (Up N ([(str [112,114,111,116,111,99,111,108,32]),D.Zt,(str [40]),H,(str [41,32,123])]:List ByteArray) (⟨x,y⟩:Yd) _ U) [20] [(0,.sl 20),(1,.bp 2 0),(2,.sl 14)] (Yr (wa J 19 (Z2 (σ:=ByteArray × Int) (fun st=>(Zk2 powT st.2 D.Zt st.1 d D [(3,.B 2 0),(5,.B 19 0),(10,.S 0),(11,.I (d.length:Int)),(12,.I z)])) (fun st=>DB N z (UT N d n15) D st.1 st.2=some r) ?_ (fun j24=>?_))))
   ·rintro ⟨X,Y⟩ h
    unfold DB at h
    refine wO J 5 h fun Z a0 h=>ZO (Zkq N D.ZF (⟨X,Y⟩:Yd) _ a0) [] [(0,.sl 18),(1,.bp 2 0),(2,.sl 22),(3,.sl 1)] (wa J 14 (YB J [] oS ([(str [125])]:List ByteArray) ?_))
    have ⟨b0,c0,h⟩:=ob h
    exact ZO (Up N ([(str [125])]:List ByteArray) (⟨Z.Builder,(ZM (Z.depth'-1))⟩:Yd) _ c0) [24] [(0,.sl 24),(1,.bp 2 0),(2,.sl 23)] (wa J 6 (ZK [(14,.sl 25)] (ih17 (b0.Builder,b0.depth',(ZM (z+1))) h)))
   refine wa J 1 (Yc (σ:=ByteArray × Int × Int) (fun st=>(Zk2 powT st.2.1 D.Zt st.1 d D [(3,.B 2 0),(5,.B 19 0),(10,.S 0),(11,.I (d.length:Int)),(12,.I z),(32,.S 17),(33,.I (D.ZE.length:Int)),(34,.I st.2.2)])) (fun n st=>P4 N z (UT N d n15) D n st.1 st.2.1 st.2.2) (r:=r) (fun _=>rfl) ?_ (fun ih=>?_))
   ·intro n17 ih26
    rintro ⟨e0,g0,i0⟩ h
    unfold P4 at h
    refine ZQ J 5 h (fun h=>wa J 2 (ZK [] (j24 (e0,g0) h))) fun h=>?_
    refine wO J 6 h fun j0 k0 h=>Yb J VU k0 ?_
    exact wO J 7 h fun l0 m0 h=>ZO (Zkp N j0 (⟨e0,g0⟩:Yd) _ m0) [] [(0,.sl 24),(1,.sl 25),(2,.bp 2 0),(3,.sl 22),(4,.sl 1)] (wa J 6 (ZK [(22,.sl 27)] (ih26 (l0.Builder,l0.depth',(ZM (i0+1))) h)))
   exact ZK [(22,.sl 21)] (ih N (T.Builder,(ZM (T.depth'+1)),0) h)
  exact ZK [(14,.sl 13)] (ih N (u.Builder,u.depth',(ZM ((0:Int)+(1:Int)))) h)
 refine wa J 1 (Yc (σ:=ByteArray × Int × Int) (fun st=>(Zk1 powT st.2.1 g.Zt st.1 d g [(3,.B 2 0),(5,.B 7 0),(10,.S 0),(11,.I (d.length:Int)),(12,.I 0),(32,.S 5),(33,.I (g.ZE.length:Int)),(34,.I st.2.2)])) (fun n st=>P5 N d g n st.1 st.2.1 st.2.2) (r:=r) (fun _=>rfl) ?_ (fun ih=>?_))
 ·intro n18 ih27
  rintro ⟨o0,p0,q0⟩ h
  unfold P5 at h
  refine ZQ J 5 h (fun h=>wa J 2 (ZK [] (j15 (o0,p0) h))) fun h=>?_
  refine wO J 6 h fun s0 t0 h=>Yb J VU t0 ?_
  exact wO J 7 h fun u0 v0 h=>ZO (Zkp N s0 (⟨o0,p0⟩:Yd) _ v0) [] [(0,.sl 12),(1,.sl 13),(2,.bp 2 0),(3,.sl 10),(4,.sl 1)] (wa J 6 (ZK [(10,.sl 15)] (ih27 (u0.Builder,u0.depth',(ZM (q0+1))) h)))
 exact ZK [(10,.sl 9)] (ih N (l.Builder,(ZM (l.depth'+1)),0) h)
theorem Zfr (N:Nat) (c:(List ZL)) (r:Bool) (h:Ra N c=some r) :
 Fn Tryz.prog 18 ⟨2,[.S 0],[(0,.sl ZV c)],[(1,.abs powT)],2,.O r,[],[(1,.abs powT)]⟩:=by
 refine Z5 func18 rfl (fun E F w=>?_)
 unfold Ra at h
 refine wB J 11 h (fun h=>oi h▸wr J 5 func18 []) fun h=>wa J 9 (Z2 (σ:=Unit) (fun st=>⟨[(0,.S 0)],[(1,.abs powT)],[(0,.sl ZV c)],2⟩) (fun st=>ZbP N c=some r) ?_ (fun j1=>?_))
 ·intro _ h
  unfold ZbP at h
  refine wO J 3 h fun d e h=>ZO (ZsQ N c _ e) [] [(0,.sl 0),(1,.sl 1)] ?_
  exact oi h▸wr J 4 func18 []
 refine wa J 1 (Yc (σ:=Int) (fun st=>⟨[(0,.S 0),(11,.S 0),(12,.I (c.length:Int)),(13,.I st)],[(1,.abs powT)],[(0,.sl ZV c)],2⟩) (fun n st=>Rc N c n st) (r:=r) (fun _=>rfl) ?_ (fun ih=>?_))
 ·intro n12 ih12
  intro f h
  unfold Rc at h
  refine ZQ J 5 h (fun h=>wa J 2 (ZK [] (j1 () h))) fun h=>?_
  refine wO J 6 h fun g i h=>Yb J X2 i ?_
  refine wO J 14 h fun j k h=>ZO (TA N g.Zt _ k) [] [] ?_
  refine wB J 2 h (fun h=>oi h▸wr J 23 func18 []) fun h=>?_
  refine wO J 2 h fun l m h=>ZO (ZfN N g.ZD 6 _ m) [] [(0,.sl 3)] ?_
  refine wB J 3 h (fun h=>oi h▸wr J 17 func18 []) fun h=>?_
  refine wB J 6 h (fun h=>oi h▸wr J 11 func18 []) fun h=>?_
  refine wO J 2 h fun o p h=>ZO (ZsN N g.ZF 1 0 _ p) [] [(0,.sl 5),(1,.bp 7 0)] ?_
  refine wB J 3 h (fun h=>oi h▸wr J 5 func18 []) fun h=>wa J 9 (Z2 (σ:=Unit) (fun st=>⟨[(0,.S 0),(11,.S 0),(12,.I (c.length:Int)),(13,.I f)],[(1,.abs powT)],[(0,.sl ZV c)],8⟩) (fun st=>ZbQ f (Rc N c n12)=some r) ?_ (fun j19=>?_))
  ·intro _ h
   unfold ZbQ at h
   exact wa J 5 (ZK [] (ih12 (ZM (f+1)) h))
  refine wa J 1 (Yc (σ:=Int) (fun st=>⟨[(0,.S 0),(11,.S 0),(12,.I (c.length:Int)),(13,.I f),(40,.S 4),(41,.I (g.ZE.length:Int)),(42,.I st)],[(1,.abs powT)],[(0,.sl ZV c),(4,.sl YE g.ZE)],8⟩) (fun n st=>PN N f (Rc N c n12) g n st) (r:=r) (fun _=>rfl) ?_ (fun ih=>?_))
  ·intro n14 ih21
   intro q h
   unfold PN at h
   refine ZQ J 5 h (fun h=>wa J 2 (ZK [] (j19 () h))) fun h=>?_
   refine wO J 6 h fun s t h=>Yb J VU t ?_
   refine wO J 7 h fun u v h=>ZO (ZsP N s _ v) [] [(0,.sl 9),(1,.sl 10)] ?_
   exact wB J 2 h (fun h=>oi h▸wr J 5 func18 []) fun h=>wa J 7 (ZK [] (ih21 (ZM (q+1)) h))
  exact ZK [] (ih N 0 h)
 exact ZK [] (ih N 0 h)
theorem ZrN (N:Nat) (d:ByteArray) (r:(List ZL) × Int × Int) (h:z15 N d=some r) :
 Fn Tryz.prog 15 ⟨1,[.c (.s d)],[],[(0,.abs powT)],2,.t [.inl (.sl 1),.inl (.I r.2.1),.inl (.I r.2.2)],[(1,.sl ZV r.1)],[(0,.abs powT)]⟩:=by
 refine Z5 func15 rfl (fun E F w=>?_)
 unfold z15 at h
 refine wO J 9 h fun e f h=>ZO (Zsx N d _ f) [] [] ?_
 refine wB J 14 h (fun h=>oi h▸wr J 9 func15 [(1,.nil)]) fun h=>wa J 12 (Z2 (σ:=(List ZL) × (List T4) × Int × Int × Int × Int) (fun st=>⟨[(2,.S 3),(6,.B 2 0)],[(0,.abs powT),(2,.box [.sl 4,.I st.2.2.1,.I st.2.2.2.1,.I st.2.2.2.2.1,.I st.2.2.2.2.2] 99),(3,.own ZV st.1 true)],[(4,.sl Yv st.2.1)],5⟩) (fun st=>Zbw N st.1 st.2.1 st.2.2.1 st.2.2.2.1 st.2.2.2.2.1 st.2.2.2.2.2=some r) ?_ (fun j1=>?_))
 ·rintro ⟨g,i,j,k,l,m⟩ h
  unfold Zbw at h
  refine wB J 9 h (fun h=>wa J 14 (Yr ?_)) fun h=>?_
  ·cases h
   exact Y7 J func15 [(1,.nil)]
  refine wO J 6 h fun o p h=>ZO (Zfr N g _ p) [3] [(0,.sl 3),(1,.sl 0)] ?_
  exact wB J 2 h (fun h=>oi h▸wr J 7 func15 [(1,.nil)]) fun h=>oi h▸wr J 9 func15 [(1,.sl 3)]
 refine wa J 1 (Yc (σ:=(List ZL) × (List T4) × Int × Int × Int × Int) (fun st=>⟨[(2,.S 3),(5,.S 1),(6,.B 2 0)],[(0,.abs powT),(2,.box [.sl 4,.I st.2.2.1,.I st.2.2.2.1,.I st.2.2.2.2.1,.I st.2.2.2.2.2] 99),(3,.own ZV st.1 true)],[(1,.sl Yv e.1),(4,.sl Yv st.2.1)],5⟩) (fun n st=>Zbx N e n st.1 st.2.1 st.2.2.1 st.2.2.2.1 st.2.2.2.2.1 st.2.2.2.2.2) (r:=r) (fun _=>rfl) ?_ (fun ih=>?_))
 ·intro n2 ih3
  rintro ⟨q,u,v,x,y,z⟩ h
  unfold Zbx at h
  refine ZQ J 11 h (fun h=>wa J 9 (ZK [] (j1 (q,u,v,x,y,z) h))) fun h=>?_
  refine ZQ J 7 h (fun h=>wa J 2 (ZK [] (j1 (q,u,v,x,y,z) h))) fun h=>?_
  refine wO J 6 h fun A C h=>ZO (Zsy N (⟨u,v,x,y,z⟩:Z4) _ C) [] [(0,.bp 2 0),(1,.sl 4)] (YB J [] X2 ([A.1]:List ZL) ?_)
  have ⟨D,G,h⟩:=ob h
  exact YK J ZV G (wa J 3 (ZK [(3,.sl 10),(4,.sl 8)] (ih3 (D,A.2.l',A.2.n',A.2.end',A.2.at',A.2.err') h)))
 exact WX [1] (ZK [(3,.nil),(4,.sl 1)] (ih N (([]:List ZL),e.1,0,(d.size:Int),0,0) h))
theorem Zsq (N:Nat) (c:ZL) (d:ZL) (r:Bool) (h:Zb6 N c d=some r) :
 Fn Tryz.prog 23 ⟨7,[.a [.s c.Zt,.sl 0,.sl 1,.sl 2],.B 3 0],(Yz 0 1 2 c (Yz 4 5 6 d [])),[(3,.box [.s d.Zt,.sl 4,.sl 5,.sl 6] 35)],7,.O r,[],[(3,.box [.s d.Zt,.sl 4,.sl 5,.sl 6] 35)]⟩:=by
 refine Z5 func23 rfl (fun E F w=>?_)
 unfold Zb6 at h
 exact oi h▸wr J 14 func23 []
theorem Zs1 (N:Nat) (d:(List ZL)) (e:ZL) (r:Int) (h:DL N d e=some r) :
 Fn Tryz.prog 53 ⟨5,[.S 0,.c (.cl 23 [] [1])],((0,.sl ZV d)::Yz 2 3 4 e []),[(1,.box [.s e.Zt,.sl 2,.sl 3,.sl 4] 35)],5,.I r,[],[(1,.box [.s e.Zt,.sl 2,.sl 3,.sl 4] 35)]⟩:=by
 refine Z5 func53 rfl (fun E F w=>?_)
 unfold DL at h
 refine wa J 11 (Z2 (σ:=Unit) (fun st=>(Zc4 e.Zt d e [])) (fun st=>Zcw=some r) ?_ (fun j1=>?_))
 ·intro _ h
  unfold Zcw at h
  exact oi h▸wr J 4 func53 []
 refine wa J 1 (Yc (σ:=Int) (fun st=>(Zc4 e.Zt d e [(0,.S 0),(1,.c (.cl 23 [] [1])),(7,.I (d.length:Int)),(8,.I st)])) (fun n st=>Mc N d e n st) (r:=r) (fun _=>rfl) ?_ (fun ih=>?_))
 ·intro n2 ih3
  intro f h
  unfold Mc at h
  refine ZQ J 5 h (fun h=>wa J 2 (ZK [] (j1 () h))) fun h=>?_
  refine wO J 14 h fun g i h=>Yb J X2 i ?_
  refine wO J 1 h fun j k h=>ZO (Zsq N g e _ k) [] [(0,.sl 6),(1,.sl 7),(2,.sl 8),(3,.bp 1 0),(4,.sl 2),(5,.sl 3),(6,.sl 4)] ?_
  exact wB J 1 h (fun h=>oi h▸wr J 6 func53 []) fun h=>wa J 7 (ZK [] (ih3 (ZM (f+1)) h))
 exact ZK [] (ih N 0 h)
theorem Zsn (N:Nat) (d:(List ZL)) (e:ZL) (r:Bool) (h:L7 N d e=some r) :
 Fn Tryz.prog 22 ⟨5,[.S 0,.c (.cl 23 [] [1])],((0,.sl ZV d)::Yz 2 3 4 e []),[(1,.box [.s e.Zt,.sl 2,.sl 3,.sl 4] 35)],5,.O r,[],[(1,.box [.s e.Zt,.sl 2,.sl 3,.sl 4] 35)]⟩:=by
 refine Z5 func22 rfl (fun E F w=>?_)
 unfold L7 at h
 refine wO J 8 h fun f g h=>ZO (Zs1 N d e _ g) [] [(0,.sl 0),(1,.bp 1 0),(2,.sl 2),(3,.sl 3),(4,.sl 4)] ?_
 exact oi h▸wr J 3 func22 []
theorem ZkI (N:Nat) (c:(List ByteArray)) (d:Int) (r:Bool) (h:L8 N c d=some r) :
 Fn Tryz.prog 25 ⟨1,[.S 0,.I d],[(0,.sl rS c)],[],1,.O r,[],[]⟩:=by
 refine Z5 func25 rfl (fun E F w=>?_)
 unfold L8 at h
 refine wO J 8 h fun e f h=>QU J rS f ?_
 refine wO J 2 h fun g i h=>Yb J oS i ?_
 refine wO J 1 h fun j k h=>ZO (Rq N e g _ k) [] [(0,.sl 1)] (wa J 1 (Yr ?_))
 cases h
 exact Y7 J func25 []
theorem Zs7 (N:Nat) (c:ZS) (d:ZS) (r:Bool) (h:ZcA N c d=some r) :
 Fn Tryz.prog 56 ⟨5,[.a [.s c.Zt,.sl 0,.sl 1],.B 2 0],(Xu 0 1 c (Xu 3 4 d [])),[(2,.box [.s d.Zt,.sl 3,.sl 4] 32)],5,.O r,[],[(2,.box [.s d.Zt,.sl 3,.sl 4] 32)]⟩:=by
 refine Z5 func56 rfl (fun E F w=>?_)
 unfold ZcA at h
 exact oi h▸wr J 14 func56 []
theorem Zrn (N:Nat) (d:(List ZS)) (e:ZS) (r:Int) (h:GG N d e=some r) :
 Fn Tryz.prog 123 ⟨4,[.S 0,.c (.cl 56 [] [1])],((0,.sl YE d)::Xu 2 3 e []),[(1,.box [.s e.Zt,.sl 2,.sl 3] 32)],4,.I r,[],[(1,.box [.s e.Zt,.sl 2,.sl 3] 32)]⟩:=by
 refine Z5 func123 rfl (fun E F w=>?_)
 unfold GG at h
 refine wa J 11 (Z2 (σ:=Unit) (fun st=>⟨[],[(1,.box [.s e.Zt,.sl 2,.sl 3] 32)],((0,.sl YE d)::Xu 2 3 e []),4⟩) (fun st=>Za1=some r) ?_ (fun j1=>?_))
 ·intro _ h
  unfold Za1 at h
  exact oi h▸wr J 4 func123 []
 refine wa J 1 (Yc (σ:=Int) (fun st=>⟨[(0,.S 0),(1,.c (.cl 56 [] [1])),(7,.I (d.length:Int)),(8,.I st)],[(1,.box [.s e.Zt,.sl 2,.sl 3] 32)],((0,.sl YE d)::Xu 2 3 e []),4⟩) (fun n st=>Pp N d e n st) (r:=r) (fun _=>rfl) ?_ (fun ih=>?_))
 ·intro n2 ih3
  intro f h
  unfold Pp at h
  refine ZQ J 5 h (fun h=>wa J 2 (ZK [] (j1 () h))) fun h=>?_
  refine wO J 14 h fun g i h=>Yb J VU i ?_
  refine wO J 1 h fun j k h=>ZO (Zs7 N g e _ k) [] [(0,.sl 5),(1,.sl 6),(2,.bp 1 0),(3,.sl 2),(4,.sl 3)] ?_
  exact wB J 1 h (fun h=>oi h▸wr J 6 func123 []) fun h=>wa J 7 (ZK [] (ih3 (ZM (f+1)) h))
 exact ZK [] (ih N 0 h)
theorem Zs5 (N:Nat) (d:(List ZS)) (e:ZS) (r:Bool) (h:DP N d e=some r) :
 Fn Tryz.prog 55 ⟨4,[.S 0,.c (.cl 56 [] [1])],((0,.sl YE d)::Xu 2 3 e []),[(1,.box [.s e.Zt,.sl 2,.sl 3] 32)],4,.O r,[],[(1,.box [.s e.Zt,.sl 2,.sl 3] 32)]⟩:=by
 refine Z5 func55 rfl (fun E F w=>?_)
 unfold DP at h
 refine wO J 8 h fun f g h=>ZO (Zrn N d e _ g) [] [(0,.sl 0),(1,.bp 1 0),(2,.sl 2),(3,.sl 3)] ?_
 exact oi h▸wr J 3 func55 []
theorem Zs9 (N:Nat) (c:T0) (d:T0) (r:Bool) (h:ZcB N c d=some r) :
 Fn Tryz.prog 58 ⟨1,[.a (Wz c),.B 0 0],[],[(0,.box (Wz d) 128)],1,.O r,[],[(0,.box (Wz d) 128)]⟩:=by
 refine Z5 func58 rfl (fun E F w=>?_)
 unfold ZcB at h
 exact oi h▸wr J 14 func58 []
theorem Zrq (N:Nat) (d:(List T0)) (e:T0) (r:Int) (h:GK N d e=some r) :
 Fn Tryz.prog 124 ⟨2,[.S 0,.c (.cl 58 [] [1])],[(0,.sl Xs d)],[(1,.box (Wz e) 128)],2,.I r,[],[(1,.box (Wz e) 128)]⟩:=by
 refine Z5 func124 rfl (fun E F w=>?_)
 unfold GK at h
 refine wa J 11 (Z2 (σ:=Unit) (fun st=>⟨[],[(1,.box (Wz e) 128)],[(0,.sl Xs d)],2⟩) (fun st=>Za4=some r) ?_ (fun j1=>?_))
 ·intro _ h
  unfold Za4 at h
  exact oi h▸wr J 4 func124 []
 refine wa J 1 (Yc (σ:=Int) (fun st=>⟨[(0,.S 0),(1,.c (.cl 58 [] [1])),(7,.I (d.length:Int)),(8,.I st)],[(1,.box (Wz e) 128)],[(0,.sl Xs d)],2⟩) (fun n st=>Ps N d e n st) (r:=r) (fun _=>rfl) ?_ (fun ih=>?_))
 ·intro n2 ih3
  intro f h
  unfold Ps at h
  refine ZQ J 5 h (fun h=>wa J 2 (ZK [] (j1 () h))) fun h=>?_
  refine wO J 14 h fun g i h=>Yb J W9 i ?_
  refine wO J 1 h fun j k h=>ZO (Zs9 N g e _ k) [] [(0,.bp 1 0)] ?_
  exact wB J 1 h (fun h=>oi h▸wr J 6 func124 []) fun h=>wa J 7 (ZK [] (ih3 (ZM (f+1)) h))
 exact ZK [] (ih N 0 h)
theorem Zs8 (N:Nat) (d:(List T0)) (e:T0) (r:Bool) (h:DR N d e=some r) :
 Fn Tryz.prog 57 ⟨2,[.S 0,.c (.cl 58 [] [1])],[(0,.sl Xs d)],[(1,.box (Wz e) 128)],2,.O r,[],[(1,.box (Wz e) 128)]⟩:=by
 refine Z5 func57 rfl (fun E F w=>?_)
 unfold DR at h
 refine wO J 8 h fun f g h=>ZO (Zrq N d e _ g) [] [(0,.sl 0),(1,.bp 1 0)] ?_
 exact oi h▸wr J 3 func57 []
theorem Zrs (N:Nat) (c:ZS) (d:Ys) (r:Bool) (h:Za6 N c d=some r) :
 Fn Tryz.prog 125 ⟨3,[.a [.s c.Zt,.sl 0,.sl 1],.B 2 0],(Xu 0 1 c []),[(2,.box (XE d) 76)],3,.O r,[],[(2,.box (XE d) 76)]⟩:=by
 refine Z5 func125 rfl (fun E F w=>?_)
 unfold Za6 at h
 exact oi h▸wr J 14 func125 []
theorem Zro (N:Nat) (d:(List ZS)) (e:Ys) (r:Int) (h:GH N d e=some r) :
 Fn Tryz.prog 123 ⟨2,[.S 0,.c (.cl 125 [] [1])],[(0,.sl YE d)],[(1,.box (XE e) 76)],2,.I r,[],[(1,.box (XE e) 76)]⟩:=by
 refine Z5 func123 rfl (fun E F w=>?_)
 unfold GH at h
 refine wa J 11 (Z2 (σ:=Unit) (fun st=>⟨[],[(1,.box (XE e) 76)],[(0,.sl YE d)],2⟩) (fun st=>Za2=some r) ?_ (fun j1=>?_))
 ·intro _ h
  unfold Za2 at h
  exact oi h▸wr J 4 func123 []
 refine wa J 1 (Yc (σ:=Int) (fun st=>⟨[(0,.S 0),(1,.c (.cl 125 [] [1])),(7,.I (d.length:Int)),(8,.I st)],[(1,.box (XE e) 76)],[(0,.sl YE d)],2⟩) (fun n st=>Pq N d e n st) (r:=r) (fun _=>rfl) ?_ (fun ih=>?_))
 ·intro n2 ih3
  intro f h
  unfold Pq at h
  refine ZQ J 5 h (fun h=>wa J 2 (ZK [] (j1 () h))) fun h=>?_
  refine wO J 14 h fun g i h=>Yb J VU i ?_
  refine wO J 1 h fun j k h=>ZO (Zrs N g e _ k) [] [(0,.sl 3),(1,.sl 4),(2,.bp 1 0)] ?_
  exact wB J 1 h (fun h=>oi h▸wr J 6 func123 []) fun h=>wa J 7 (ZK [] (ih3 (ZM (f+1)) h))
 exact ZK [] (ih N 0 h)
theorem Zrt (N:Nat) (c:T0) (d:Ys) (r:Bool) (h:Za7 N c d=some r) :
 Fn Tryz.prog 126 ⟨1,[.a (Wz c),.B 0 0],[],[(0,.box (XE d) 76)],1,.O r,[],[(0,.box (XE d) 76)]⟩:=by
 refine Z5 func126 rfl (fun E F w=>?_)
 unfold Za7 at h
 exact oi h▸wr J 14 func126 []
theorem Zrr (N:Nat) (d:(List T0)) (e:Ys) (r:Int) (h:GM N d e=some r) :
 Fn Tryz.prog 124 ⟨2,[.S 0,.c (.cl 126 [] [1])],[(0,.sl Xs d)],[(1,.box (XE e) 76)],2,.I r,[],[(1,.box (XE e) 76)]⟩:=by
 refine Z5 func124 rfl (fun E F w=>?_)
 unfold GM at h
 refine wa J 11 (Z2 (σ:=Unit) (fun st=>⟨[],[(1,.box (XE e) 76)],[(0,.sl Xs d)],2⟩) (fun st=>Za5=some r) ?_ (fun j1=>?_))
 ·intro _ h
  unfold Za5 at h
  exact oi h▸wr J 4 func124 []
 refine wa J 1 (Yc (σ:=Int) (fun st=>⟨[(0,.S 0),(1,.c (.cl 126 [] [1])),(7,.I (d.length:Int)),(8,.I st)],[(1,.box (XE e) 76)],[(0,.sl Xs d)],2⟩) (fun n st=>Pt N d e n st) (r:=r) (fun _=>rfl) ?_ (fun ih=>?_))
 ·intro n2 ih3
  intro f h
  unfold Pt at h
  refine ZQ J 5 h (fun h=>wa J 2 (ZK [] (j1 () h))) fun h=>?_
  refine wO J 14 h fun g i h=>Yb J W9 i ?_
  refine wO J 1 h fun j k h=>ZO (Zrt N g e _ k) [] [(0,.bp 1 0)] ?_
  exact wB J 1 h (fun h=>oi h▸wr J 6 func124 []) fun h=>wa J 7 (ZK [] (ih3 (ZM (f+1)) h))
 exact ZK [] (ih N 0 h)
theorem Zta (N:Nat) (c:T7) (d:ZS) (e:Ys) (r:Int) (h:DS N c d e=some r) :
 Fn Tryz.prog 59 ⟨8,[.B 0 0,.a [.s d.Zt,.sl 6,.sl 7],.a (XE e)],(Q8 1 2 3 4 5 c (Xu 6 7 d [])),[(0,.box (Xe 1 2 3 4 5 c) 86)],8,.I r,[],[(0,.box (Xe 1 2 3 4 5 c) 86)]⟩:=by
 refine Z5 func59 rfl (fun E F w=>?_)
 unfold DS at h
 refine wa J 13 (Z2 (σ:=ByteArray × (List T0) × (List YM)) (fun st=>⟨[(4,.B 8 0),(5,.B 9 0)],[(0,.box (Xe 1 2 3 4 5 c) 86),(8,.box [.s st.1,.sl 10,.sl 11] 32),(9,.box (XE e) 76)],(Q8 1 2 3 4 5 c (Xu 6 7 d [(10,.sl Xs st.2.1),(11,.sl Vt st.2.2)])),12⟩) (fun st=>Hq N e st.1 st.2.1 st.2.2=some r) ?_ (fun j1=>?_))
 ·rintro ⟨f,g,i⟩ h
  unfold Hq at h
  refine wO J 5 h fun j k h=>ZO (Zrr N g e _ k) [] [(0,.sl 10),(1,.bp 9 0)] ?_
  refine wB J 8 h (fun h=>oi h▸wr J 5 func59 []) fun h=>?_
  refine wO J 7 h fun l m h=>Yb J W9 m ?_
  exact oi h▸wr J 5 func59 []
 refine YZ h (fun h=>wa J 2 (ZK [(10,.sl 6),(11,.sl 7)] (j1 (d.Zt,d.Zy,d.Zz) h))) fun h=>?_
 refine wO J 9 h fun o p h=>ZO (Zro N c.p'.ZE e _ p) [] [(0,.sl 3),(1,.bp 9 0)] ?_
 refine wB J 8 h (fun h=>oi h▸wr J 5 func59 []) fun h=>?_
 exact wO J 9 h fun q t h=>Yb J VU t (wa J 3 (ZK [(10,.sl 11),(11,.sl 12)] (j1 (q.Zt,q.Zy,q.Zz) h)))
theorem Ztb (N:Nat) (c:(List T8)) (r:(List T8)) (h:z60 N c=some r) :
 Fn Tryz.prog 60 ⟨1,[.S 0],[(0,.sl Xv c)],[],2,.S 1,[],[(1,.own Xv r true)]⟩:=by
 refine Z5 func60 rfl (fun E F w=>?_)
 unfold z60 at h
 refine wa J 8 (eNi Xv c false ?_)
 intro nb hnb
 cases nb
 ·refine wa J 5 (YB J [] UM ([]:List T8) ?_)
  refine wO J 1 h fun d e h=>YK J Xv e ?_
  exact oi h▸wr J 2 func60 [(1,.sl 2)]
 ·obtain rfl:=hnb rfl
  replace h:(some ([]:List T8):Option (List T8))=some r:=h
  exact oi h▸wr J 6 func60 [(1,.nil)]
theorem Zru (N:Nat) (c:ZS) (d:ZJ) (r:Bool) (h:Za8 N c d=some r) :
 Fn Tryz.prog 127 ⟨5,[.a [.s c.Zt,.sl 0,.sl 1],.B 2 0],(Xu 0 1 c [(3,.sl rS d.To),(4,.sl (Yk ZR) d.ZC)]),[(2,.box [.I d.Zq,.s d.ZA,.sl 3,.s d.Zt,.s d.As,.I d.ZB,.sl 4] 27)],5,.O r,[],[(2,.box [.I d.Zq,.s d.ZA,.sl 3,.s d.Zt,.s d.As,.I d.ZB,.sl 4] 27)]⟩:=by
 refine Z5 func127 rfl (fun E F w=>?_)
 unfold Za8 at h
 exact oi h▸wr J 14 func127 []
theorem Zrp (N:Nat) (d:(List ZS)) (e:ZJ) (r:Int) (h:GJ N d e=some r) :
 Fn Tryz.prog 123 ⟨4,[.S 0,.c (.cl 127 [] [1])],[(0,.sl YE d),(2,.sl rS e.To),(3,.sl (Yk ZR) e.ZC)],[(1,.box [.I e.Zq,.s e.ZA,.sl 2,.s e.Zt,.s e.As,.I e.ZB,.sl 3] 27)],4,.I r,[],[(1,.box [.I e.Zq,.s e.ZA,.sl 2,.s e.Zt,.s e.As,.I e.ZB,.sl 3] 27)]⟩:=by
 refine Z5 func123 rfl (fun E F w=>?_)
 unfold GJ at h
 refine wa J 11 (Z2 (σ:=Unit) (fun st=>⟨[],[(1,.box [.I e.Zq,.s e.ZA,.sl 2,.s e.Zt,.s e.As,.I e.ZB,.sl 3] 27)],[(0,.sl YE d),(2,.sl rS e.To),(3,.sl (Yk ZR) e.ZC)],4⟩) (fun st=>Za3=some r) ?_ (fun j1=>?_))
 ·intro _ h
  unfold Za3 at h
  exact oi h▸wr J 4 func123 []
 refine wa J 1 (Yc (σ:=Int) (fun st=>⟨[(0,.S 0),(1,.c (.cl 127 [] [1])),(7,.I (d.length:Int)),(8,.I st)],[(1,.box [.I e.Zq,.s e.ZA,.sl 2,.s e.Zt,.s e.As,.I e.ZB,.sl 3] 27)],[(0,.sl YE d),(2,.sl rS e.To),(3,.sl (Yk ZR) e.ZC)],4⟩) (fun n st=>Pr N d e n st) (r:=r) (fun _=>rfl) ?_ (fun ih=>?_))
 ·intro n2 ih3
  intro f h
  unfold Pr at h
  refine ZQ J 5 h (fun h=>wa J 2 (ZK [] (j1 () h))) fun h=>?_
  refine wO J 14 h fun g i h=>Yb J VU i ?_
  refine wO J 1 h fun j k h=>ZO (Zru N g e _ k) [] [(0,.sl 5),(1,.sl 6),(2,.bp 1 0),(3,.sl 2),(4,.sl 3)] ?_
  exact wB J 1 h (fun h=>oi h▸wr J 6 func123 []) fun h=>wa J 7 (ZK [] (ih3 (ZM (f+1)) h))
 exact ZK [] (ih N 0 h)
theorem Zs6 (N:Nat) (d:(List ZS)) (e:ZJ) (r:Bool) (h:DQ N d e=some r) :
 Fn Tryz.prog 55 ⟨4,[.S 0,.c (.cl 127 [] [1])],[(0,.sl YE d),(2,.sl rS e.To),(3,.sl (Yk ZR) e.ZC)],[(1,.box [.I e.Zq,.s e.ZA,.sl 2,.s e.Zt,.s e.As,.I e.ZB,.sl 3] 27)],4,.O r,[],[(1,.box [.I e.Zq,.s e.ZA,.sl 2,.s e.Zt,.s e.As,.I e.ZB,.sl 3] 27)]⟩:=by
 refine Z5 func55 rfl (fun E F w=>?_)
 unfold DQ at h
 refine wO J 8 h fun f g h=>ZO (Zrp N d e _ g) [] [(0,.sl 0),(1,.bp 1 0),(2,.sl 2),(3,.sl 3)] ?_
 exact oi h▸wr J 3 func55 []
theorem Zte (N:Nat) (c:T8) (d:ZJ) (r:Bool) (h:ZcD N c d=some r) :
 Fn Tryz.prog 64 ⟨3,[.a (cC8 c),.B 0 0],[(1,.sl rS d.To),(2,.sl (Yk ZR) d.ZC)],[(0,.box [.I d.Zq,.s d.ZA,.sl 1,.s d.Zt,.s d.As,.I d.ZB,.sl 2] 27)],3,.O r,[],[(0,.box [.I d.Zq,.s d.ZA,.sl 1,.s d.Zt,.s d.As,.I d.ZB,.sl 2] 27)]⟩:=by
 refine Z5 func64 rfl (fun E F w=>?_)
 unfold ZcD at h
 exact oi h▸wr J 14 func64 []
theorem Ztf (N:Nat) (d:(List T8)) (e:ZJ) (r:Int) (h:DV N d e=some r) :
 Fn Tryz.prog 65 ⟨4,[.S 0,.c (.cl 64 [] [1])],[(0,.sl Xv d),(2,.sl rS e.To),(3,.sl (Yk ZR) e.ZC)],[(1,.box [.I e.Zq,.s e.ZA,.sl 2,.s e.Zt,.s e.As,.I e.ZB,.sl 3] 27)],4,.I r,[],[(1,.box [.I e.Zq,.s e.ZA,.sl 2,.s e.Zt,.s e.As,.I e.ZB,.sl 3] 27)]⟩:=by
 refine Z5 func65 rfl (fun E F w=>?_)
 unfold DV at h
 refine wa J 11 (Z2 (σ:=Unit) (fun st=>(Zc5 e.Zq e.ZA e.Zt e.As e.ZB d e.To e.ZC [])) (fun st=>ZcE=some r) ?_ (fun j1=>?_))
 ·intro _ h
  unfold ZcE at h
  exact oi h▸wr J 4 func65 []
 refine wa J 1 (Yc (σ:=Int) (fun st=>(Zc5 e.Zq e.ZA e.Zt e.As e.ZB d e.To e.ZC [(0,.S 0),(1,.c (.cl 64 [] [1])),(7,.I (d.length:Int)),(8,.I st)])) (fun n st=>Mi N d e n st) (r:=r) (fun _=>rfl) ?_ (fun ih=>?_))
 ·intro n2 ih3
  intro f h
  unfold Mi at h
  refine ZQ J 5 h (fun h=>wa J 2 (ZK [] (j1 () h))) fun h=>?_
  refine wO J 14 h fun g i h=>Yb J UM i ?_
  refine wO J 1 h fun j k h=>ZO (Zte N g e _ k) [] [(0,.bp 1 0),(1,.sl 2),(2,.sl 3)] ?_
  exact wB J 1 h (fun h=>oi h▸wr J 6 func65 []) fun h=>wa J 7 (ZK [] (ih3 (ZM (f+1)) h))
 exact ZK [] (ih N 0 h)
theorem Ztd (N:Nat) (d:(List T8)) (e:ZJ) (r:Bool) (h:DU N d e=some r) :
 Fn Tryz.prog 63 ⟨4,[.S 0,.c (.cl 64 [] [1])],[(0,.sl Xv d),(2,.sl rS e.To),(3,.sl (Yk ZR) e.ZC)],[(1,.box [.I e.Zq,.s e.ZA,.sl 2,.s e.Zt,.s e.As,.I e.ZB,.sl 3] 27)],4,.O r,[],[(1,.box [.I e.Zq,.s e.ZA,.sl 2,.s e.Zt,.s e.As,.I e.ZB,.sl 3] 27)]⟩:=by
 refine Z5 func63 rfl (fun E F w=>?_)
 unfold DU at h
 refine wO J 8 h fun f g h=>ZO (Ztf N d e _ g) [] [(0,.sl 0),(1,.bp 1 0),(2,.sl 2),(3,.sl 3)] ?_
 exact oi h▸wr J 3 func63 []
theorem Zth (N:Nat) (c:T8) (d:ZJ) (r:Bool) (h:ZcG N c d=some r) :
 Fn Tryz.prog 66 ⟨3,[.a (cC8 c),.B 0 0],[(1,.sl rS d.To),(2,.sl (Yk ZR) d.ZC)],[(0,.box [.I d.Zq,.s d.ZA,.sl 1,.s d.Zt,.s d.As,.I d.ZB,.sl 2] 27)],3,.O r,[],[(0,.box [.I d.Zq,.s d.ZA,.sl 1,.s d.Zt,.s d.As,.I d.ZB,.sl 2] 27)]⟩:=by
 refine Z5 func66 rfl (fun E F w=>?_)
 unfold ZcG at h
 exact wB J 13 h (fun h=>oi h▸wr J 6 func66 []) fun h=>oi h▸wr J 6 func66 []
theorem Ztg (N:Nat) (d:(List T8)) (e:ZJ) (r:Int) (h:DW N d e=some r) :
 Fn Tryz.prog 65 ⟨4,[.S 0,.c (.cl 66 [] [1])],[(0,.sl Xv d),(2,.sl rS e.To),(3,.sl (Yk ZR) e.ZC)],[(1,.box [.I e.Zq,.s e.ZA,.sl 2,.s e.Zt,.s e.As,.I e.ZB,.sl 3] 27)],4,.I r,[],[(1,.box [.I e.Zq,.s e.ZA,.sl 2,.s e.Zt,.s e.As,.I e.ZB,.sl 3] 27)]⟩:=by
 refine Z5 func65 rfl (fun E F w=>?_)
 unfold DW at h
 refine wa J 11 (Z2 (σ:=Unit) (fun st=>(Zc5 e.Zq e.ZA e.Zt e.As e.ZB d e.To e.ZC [])) (fun st=>ZcF=some r) ?_ (fun j1=>?_))
 ·intro _ h
  unfold ZcF at h
  exact oi h▸wr J 4 func65 []
 refine wa J 1 (Yc (σ:=Int) (fun st=>(Zc5 e.Zq e.ZA e.Zt e.As e.ZB d e.To e.ZC [(0,.S 0),(1,.c (.cl 66 [] [1])),(7,.I (d.length:Int)),(8,.I st)])) (fun n st=>Mj N d e n st) (r:=r) (fun _=>rfl) ?_ (fun ih=>?_))
 ·intro n2 ih3
  intro f h
  unfold Mj at h
  refine ZQ J 5 h (fun h=>wa J 2 (ZK [] (j1 () h))) fun h=>?_
  refine wO J 14 h fun g i h=>Yb J UM i ?_
  refine wO J 1 h fun j k h=>ZO (Zth N g e _ k) [] [(0,.bp 1 0),(1,.sl 2),(2,.sl 3)] ?_
  exact wB J 1 h (fun h=>oi h▸wr J 6 func65 []) fun h=>wa J 7 (ZK [] (ih3 (ZM (f+1)) h))
 exact ZK [] (ih N 0 h)
theorem Zrv (N:Nat) (c:ZL) (d:ZJ) (r:Bool) (h:Za9 N c d=some r) :
 Fn Tryz.prog 128 ⟨6,[.a [.s c.Zt,.sl 0,.sl 1,.sl 2],.B 3 0],(Yz 0 1 2 c [(4,.sl rS d.To),(5,.sl (Yk ZR) d.ZC)]),[(3,.box [.I d.Zq,.s d.ZA,.sl 4,.s d.Zt,.s d.As,.I d.ZB,.sl 5] 27)],6,.O r,[],[(3,.box [.I d.Zq,.s d.ZA,.sl 4,.s d.Zt,.s d.As,.I d.ZB,.sl 5] 27)]⟩:=by
 refine Z5 func128 rfl (fun E F w=>?_)
 unfold Za9 at h
 exact oi h▸wr J 14 func128 []
theorem Zs2 (N:Nat) (d:(List ZL)) (e:ZJ) (r:Int) (h:DM N d e=some r) :
 Fn Tryz.prog 53 ⟨4,[.S 0,.c (.cl 128 [] [1])],[(0,.sl ZV d),(2,.sl rS e.To),(3,.sl (Yk ZR) e.ZC)],[(1,.box [.I e.Zq,.s e.ZA,.sl 2,.s e.Zt,.s e.As,.I e.ZB,.sl 3] 27)],4,.I r,[],[(1,.box [.I e.Zq,.s e.ZA,.sl 2,.s e.Zt,.s e.As,.I e.ZB,.sl 3] 27)]⟩:=by
 refine Z5 func53 rfl (fun E F w=>?_)
 unfold DM at h
 refine wa J 11 (Z2 (σ:=Unit) (fun st=>⟨[],[(1,.box [.I e.Zq,.s e.ZA,.sl 2,.s e.Zt,.s e.As,.I e.ZB,.sl 3] 27)],[(0,.sl ZV d),(2,.sl rS e.To),(3,.sl (Yk ZR) e.ZC)],4⟩) (fun st=>Zcx=some r) ?_ (fun j1=>?_))
 ·intro _ h
  unfold Zcx at h
  exact oi h▸wr J 4 func53 []
 refine wa J 1 (Yc (σ:=Int) (fun st=>⟨[(0,.S 0),(1,.c (.cl 128 [] [1])),(7,.I (d.length:Int)),(8,.I st)],[(1,.box [.I e.Zq,.s e.ZA,.sl 2,.s e.Zt,.s e.As,.I e.ZB,.sl 3] 27)],[(0,.sl ZV d),(2,.sl rS e.To),(3,.sl (Yk ZR) e.ZC)],4⟩) (fun n st=>Md N d e n st) (r:=r) (fun _=>rfl) ?_ (fun ih=>?_))
 ·intro n2 ih3
  intro f h
  unfold Md at h
  refine ZQ J 5 h (fun h=>wa J 2 (ZK [] (j1 () h))) fun h=>?_
  refine wO J 14 h fun g i h=>Yb J X2 i ?_
  refine wO J 1 h fun j k h=>ZO (Zrv N g e _ k) [] [(0,.sl 5),(1,.sl 6),(2,.sl 7),(3,.bp 1 0),(4,.sl 2),(5,.sl 3)] ?_
  exact wB J 1 h (fun h=>oi h▸wr J 6 func53 []) fun h=>wa J 7 (ZK [] (ih3 (ZM (f+1)) h))
 exact ZK [] (ih N 0 h)
theorem XR (N:Nat) (d:T7) (e:ByteArray) (f:Int) (r:T7) (h:Y6 N d e f=some r) :
 Fn Tryz.prog 24 ⟨6,[.B 0 0,.c (.s e),.I f],((1,.sl ZV d.all')::Yz 2 3 4 d.p' []),[(0,.box (Xe 1 2 3 4 5 d) 86),(5,.own rS d.calls' false)],11,.t [],((6,.sl ZV r.all')::Yz 7 8 9 r.p' []),[(5,.gone),(10,.own rS r.calls' false),(0,.box (Xe 6 7 8 9 10 r) 86)]⟩:=by
 refine Z5 func24 rfl (fun E F w=>?_)
 unfold Y6 at h
 exact wB J 9 h (fun h=>oi h▸wr J 15 func24 [(6,.sl 1),(7,.sl 2),(8,.sl 3),(9,.sl 4),(10,.sl 5)]) fun h=>oi h▸wr J 2 func24 [(6,.sl 1),(7,.sl 2),(8,.sl 3),(9,.sl 4),(10,.sl 5)]
theorem ZfP (N:Nat) (c:T7) (d:(List ByteArray)) (e:Int) (r:T7) (h:Mh N c d e=some r) :
 Fn Tryz.prog 62 ⟨7,[.B 0 0,.S 6,.I e],((1,.sl ZV c.all')::Yz 2 3 4 c.p' [(6,.sl rS d)]),[(0,.box (Xe 1 2 3 4 5 c) 86),(5,.own rS c.calls' false)],12,.t [],((7,.sl ZV r.all')::Yz 8 9 10 r.p' []),[(5,.gone),(11,.own rS r.calls' false),(0,.box (Xe 7 8 9 10 11 r) 86)]⟩:=by
 refine Z5 func62 rfl (fun E F w=>?_)
 unfold Mh at h
 refine wO J 9 h fun f g h=>Yb J oS g ?_
 refine wO J 1 h fun i j h=>ZO (Rq N c.p'.ZD f _ j) [] [(0,.sl 2)] ?_
 refine wB J 2 h (fun h=>wa J 4 (Yr ?_)) fun h=>?_
 ·refine wO J 5 h fun k l h=>Yb J oS l ?_
  refine wO J 1 h fun m o h=>ZO (XR N c k 12 _ o) [] [(0,.bp 0 0),(1,.sl 1),(2,.sl 2),(3,.sl 3),(4,.sl 4),(5,.sl 5)] ?_
  exact oi h▸wr J 1 func62 [(7,.sl 9),(8,.sl 10),(9,.sl 11),(10,.sl 12),(11,.sl 13)]
 refine wO J 2 h fun p q h=>ZO (ZkI N d e _ q) [] [(0,.sl 6)] (wa J 1 (Yr ?_))
 refine YZ h (fun h=>oi h▸wr J 2 func62 [(7,.sl 1),(8,.sl 2),(9,.sl 3),(10,.sl 4),(11,.sl 5)]) fun h=>?_
 refine wO J 5 h fun s u h=>Yb J oS u ?_
 refine wO J 1 h fun v x h=>ZO (XR N c s 12 _ x) [] [(0,.bp 0 0),(1,.sl 1),(2,.sl 2),(3,.sl 3),(4,.sl 4),(5,.sl 5)] ?_
 exact oi h▸wr J 1 func62 [(7,.sl 9),(8,.sl 10),(9,.sl 11),(10,.sl 12),(11,.sl 13)]
theorem Zti (N:Nat) (c:T7) (d:ZJ) (r:T7) (h:DX N c d=some r) :
 Fn Tryz.prog 67 ⟨8,[.B 0 0,.a [.I d.Zq,.s d.ZA,.sl 6,.s d.Zt,.s d.As,.I d.ZB,.sl 7]],((1,.sl ZV c.all')::Yz 2 3 4 c.p' [(6,.sl rS d.To),(7,.sl (Yk ZR) d.ZC)]),[(0,.box (Xe 1 2 3 4 5 c) 86),(5,.own rS c.calls' false)],13,.t [],((8,.sl ZV r.all')::Yz 9 10 11 r.p' []),[(5,.gone),(12,.own rS r.calls' false),(0,.box (Xe 8 9 10 11 12 r) 86)]⟩:=by
 refine Z5 func67 rfl (fun E F w=>?_)
 unfold DX at h
 refine wO J 11 h fun e f h=>ZO (Zs2 N c.all' d _ f) [] [(0,.sl 1),(1,.bp 8 0),(2,.sl 6),(3,.sl 7)] ?_
 refine wB J 8 h (fun h=>?_) fun h=>?_
 ·refine wO J 6 h fun g i h=>ZO (XR N c d.Zt 10 _ i) [] [(0,.bp 0 0),(1,.sl 1),(2,.sl 2),(3,.sl 3),(4,.sl 4),(5,.sl 5)] ?_
  exact oi h▸wr J 1 func67 [(8,.sl 9),(9,.sl 10),(10,.sl 11),(11,.sl 12),(12,.sl 13)]
 refine wO J 10 h fun j k h=>Yb J X2 k (wa J 7 (Yr (Z2 (σ:=(List ZL) × ByteArray × (List ByteArray) × (List ZS) × (List ZJ) × (List ByteArray) × ByteArray × ByteArray × Int) (fun st=>⟨[(0,.B 0 0),(3,.B 8 0)],[(0,.box [.sl 13,.s st.2.1,.sl 14,.sl 15,.sl 16,.sl 17,.s st.2.2.2.2.2.2.1,.s st.2.2.2.2.2.2.2.1,.I st.2.2.2.2.2.2.2.2] 86),(8,.box [.I d.Zq,.s d.ZA,.sl 6,.s d.Zt,.s d.As,.I d.ZB,.sl 7] 27),(17,.own rS st.2.2.2.2.2.1 false)],((1,.sl ZV c.all')::Yz 2 3 4 c.p' [(6,.sl rS d.To),(7,.sl (Yk ZR) d.ZC),(13,.sl ZV st.1),(14,.sl rS st.2.2.1),(15,.sl YE st.2.2.2.1),(16,.sl ZR st.2.2.2.2.1)]),18⟩) (fun st=>Hs N d st.1 st.2.1 st.2.2.1 st.2.2.2.1 st.2.2.2.2.1 st.2.2.2.2.2.1 st.2.2.2.2.2.2.1 st.2.2.2.2.2.2.2.1 st.2.2.2.2.2.2.2.2=some r) ?_ (fun j1=>?_))))
 ·rintro ⟨l,m,o,p,q,u,v,x,y⟩ h
  unfold Hs at h
  refine wa J 8 (Z2 (σ:=(List ZL) × ByteArray × (List ByteArray) × (List ZS) × (List ZJ) × (List ByteArray) × ByteArray × ByteArray × Int) (fun st=>(Zk3 st.2.1 st.2.2.2.2.2.2.1 st.2.2.2.2.2.2.2.1 st.2.2.2.2.2.2.2.2 d.Zq d.ZA d.Zt d.As d.ZB st.2.2.2.2.2.1 c.all' c.p' d.To d.ZC st.1 st.2.2.1 st.2.2.2.1 st.2.2.2.2.1 [(0,.B 0 0),(3,.B 8 0)])) (fun st=>Mk N d st.1 st.2.1 st.2.2.1 st.2.2.2.1 st.2.2.2.2.1 st.2.2.2.2.2.1 st.2.2.2.2.2.2.1 st.2.2.2.2.2.2.2.1 st.2.2.2.2.2.2.2.2=some r) ?_ (fun j2=>?_))
  ·rintro ⟨z,A,C,D,G,H,R,T,U⟩ h
   unfold Mk at h
   refine wO J 9 h fun X Y h=>Wo (Rq N H d.As _ Y) [] [(0,.sl 22)] [22] (.inr ⟨rfl,trivial⟩) (Yr ?_)
   refine YZ h (fun h=>wa J 10 (YB J [] oS ([d.As]:List ByteArray) ?_)) fun h=>?_
   ·have ⟨Z,a0,h⟩:=ob h
    refine YK J rS a0 (wa J 3 (Yr ?_))
    cases h
    exact Y7 J func67 [(8,.sl 18),(9,.sl 19),(10,.sl 20),(11,.sl 21),(12,.sl 24)]
   refine wO J 5 h fun b0 c0 h=>ZO (XR N (⟨z,(⟨A,C,D,G⟩:ZL),H,(⟨R,T,U⟩:T6)⟩:T7) d.As 9 _ c0) [] [(0,.bp 0 0),(1,.sl 18),(2,.sl 19),(3,.sl 20),(4,.sl 21),(5,.sl 22)] (wa J 9 (YB J [] oS ([d.As]:List ByteArray) ?_))
   have ⟨e0,g0,h⟩:=ob h
   refine YK J rS g0 (wa J 3 (Yr ?_))
   cases h
   exact Y7 J func67 [(8,.sl 23),(9,.sl 24),(10,.sl 25),(11,.sl 26),(12,.sl 29)]
  refine wa J 1 (Yc (σ:=(List ZL) × ByteArray × (List ByteArray) × (List ZS) × (List ZJ) × (List ByteArray) × ByteArray × ByteArray × Int × Int) (fun st=>(Zk3 st.2.1 st.2.2.2.2.2.2.1 st.2.2.2.2.2.2.2.1 st.2.2.2.2.2.2.2.2.1 d.Zq d.ZA d.Zt d.As d.ZB st.2.2.2.2.2.1 c.all' c.p' d.To d.ZC st.1 st.2.2.1 st.2.2.2.1 st.2.2.2.2.1 [(0,.B 0 0),(3,.B 8 0),(37,.I (d.To.length:Int)),(38,.I st.2.2.2.2.2.2.2.2.2)])) (fun n st=>Ml N d n st.1 st.2.1 st.2.2.1 st.2.2.2.1 st.2.2.2.2.1 st.2.2.2.2.2.1 st.2.2.2.2.2.2.1 st.2.2.2.2.2.2.2.1 st.2.2.2.2.2.2.2.2.1 st.2.2.2.2.2.2.2.2.2) (r:=r) (fun _=>rfl) ?_ (fun ih=>?_))
  ·intro n2 ih4
   rintro ⟨i0,j0,k0,l0,m0,o0,p0,q0,s0,t0⟩ h
   unfold Ml at h
   refine ZQ J 5 h (fun h=>wa J 2 (ZK [] (j2 (i0,j0,k0,l0,m0,o0,p0,q0,s0) h))) fun h=>?_
   exact wO J 14 h fun u0 v0 h=>ZO (ZfP N (⟨i0,(⟨j0,k0,l0,m0⟩:ZL),o0,(⟨p0,q0,s0⟩:T6)⟩:T7) d.To t0 _ v0) [] [(0,.bp 0 0),(1,.sl 18),(2,.sl 19),(3,.sl 20),(4,.sl 21),(5,.sl 22),(6,.sl 6)] (wa J 6 (ZK [(18,.sl 23),(19,.sl 24),(20,.sl 25),(21,.sl 26),(22,.sl 27)] (ih4 (u0.all',u0.p'.Zt,u0.p'.ZD,u0.p'.ZE,u0.p'.ZF,u0.calls',u0.out'.ZH,u0.out'.Zt,u0.out'.ZI,(ZM (t0+1))) h)))
  exact ZK [(18,.sl 13),(19,.sl 14),(20,.sl 15),(21,.sl 16),(22,.sl 17)] (ih N (l,m,o,p,q,u,v,x,y,0) h)
 refine YZ h (fun h=>wa J 2 (ZK [(13,.sl 1),(14,.sl 2),(15,.sl 3),(16,.sl 4),(17,.sl 5)] (j1 (c.all',c.p'.Zt,c.p'.ZD,c.p'.ZE,c.p'.ZF,c.calls',c.out'.ZH,c.out'.Zt,c.out'.ZI) h))) fun h=>?_
 exact wO J 5 h fun x0 y0 h=>ZO (XR N c d.Zt 1 _ y0) [] [(0,.bp 0 0),(1,.sl 1),(2,.sl 2),(3,.sl 3),(4,.sl 4),(5,.sl 5)] (wa J 1 (ZK [] (j1 (x0.all',x0.p'.Zt,x0.p'.ZD,x0.p'.ZE,x0.p'.ZF,x0.calls',x0.out'.ZH,x0.out'.Zt,x0.out'.ZI) h)))
theorem Ztc (N:Nat) (c:T7) (d:ZJ) (r:T7) (h:DT N c d=some r) :
 Fn Tryz.prog 61 ⟨8,[.B 0 0,.a [.I d.Zq,.s d.ZA,.sl 6,.s d.Zt,.s d.As,.I d.ZB,.sl 7]],((1,.sl ZV c.all')::Yz 2 3 4 c.p' [(6,.sl rS d.To),(7,.sl (Yk ZR) d.ZC)]),[(0,.box (Xe 1 2 3 4 5 c) 86),(5,.own rS c.calls' false)],13,.t [],((8,.sl ZV r.all')::Yz 9 10 11 r.p' []),[(5,.gone),(12,.own rS r.calls' false),(0,.box (Xe 8 9 10 11 12 r) 86)]⟩:=by
 refine Z5 func61 rfl (fun E F w=>?_)
 unfold DT at h
 refine wa J 8 (YB J [] oS ([d.ZA]:List ByteArray) ?_)
 refine wO J 2 h fun e f h=>YK J rS f (wa J 9 (Z2 (σ:=(List ZL) × ByteArray × (List ByteArray) × (List ZS) × (List ZJ) × (List ByteArray) × ByteArray × ByteArray × Int) (fun st=>⟨[(0,.B 0 0),(3,.B 8 0)],[(0,.box [.sl 11,.s st.2.1,.sl 12,.sl 13,.sl 14,.sl 15,.s st.2.2.2.2.2.2.1,.s st.2.2.2.2.2.2.2.1,.I st.2.2.2.2.2.2.2.2] 86),(8,.box [.I d.Zq,.s d.ZA,.sl 6,.s d.Zt,.s d.As,.I d.ZB,.sl 7] 27),(15,.own rS st.2.2.2.2.2.1 false)],((1,.sl ZV c.all')::Yz 2 3 4 c.p' [(6,.sl rS d.To),(7,.sl (Yk ZR) d.ZC),(11,.sl ZV st.1),(12,.sl rS st.2.2.1),(13,.sl YE st.2.2.2.1),(14,.sl ZR st.2.2.2.2.1)]),16⟩) (fun st=>Hr N d st.1 st.2.1 st.2.2.1 st.2.2.2.1 st.2.2.2.2.1 st.2.2.2.2.2.1 st.2.2.2.2.2.2.1 st.2.2.2.2.2.2.2.1 st.2.2.2.2.2.2.2.2=some r) ?_ (fun j1=>?_)))
 ·rintro ⟨g,i,j,k,l,m,o,p,q⟩ h
  unfold Hr at h
  refine wO J 8 h fun u v h=>ZO (Zs6 N k d _ v) [] [(0,.sl 13),(1,.bp 8 0),(2,.sl 6),(3,.sl 7)] ?_
  refine ZQ J 2 h (fun h=>oi h▸wr J 2 func61 [(8,.sl 11),(9,.sl 12),(10,.sl 13),(11,.sl 14),(12,.sl 15)]) fun h=>?_
  refine wO J 5 h fun x y h=>ZO (XR N (⟨g,(⟨i,j,k,l⟩:ZL),m,(⟨o,p,q⟩:T6)⟩:T7) d.Zt 10 _ y) [] [(0,.bp 0 0),(1,.sl 11),(2,.sl 12),(3,.sl 13),(4,.sl 14),(5,.sl 15)] ?_
  exact oi h▸wr J 1 func61 [(8,.sl 16),(9,.sl 17),(10,.sl 18),(11,.sl 19),(12,.sl 20)]
 refine wa J 1 (Yc (σ:=(List ZL) × ByteArray × (List ByteArray) × (List ZS) × (List ZJ) × (List ByteArray) × ByteArray × ByteArray × Int × Int) (fun st=>⟨[(0,.B 0 0),(3,.B 8 0),(4,.S 10),(13,.I (e.length:Int)),(14,.I st.2.2.2.2.2.2.2.2.2)],[(0,.box [.sl 11,.s st.2.1,.sl 12,.sl 13,.sl 14,.sl 15,.s st.2.2.2.2.2.2.1,.s st.2.2.2.2.2.2.2.1,.I st.2.2.2.2.2.2.2.2.1] 86),(8,.box [.I d.Zq,.s d.ZA,.sl 6,.s d.Zt,.s d.As,.I d.ZB,.sl 7] 27),(15,.own rS st.2.2.2.2.2.1 false)],((1,.sl ZV c.all')::Yz 2 3 4 c.p' [(6,.sl rS d.To),(7,.sl (Yk ZR) d.ZC),(10,.sl rS e),(11,.sl ZV st.1),(12,.sl rS st.2.2.1),(13,.sl YE st.2.2.2.1),(14,.sl ZR st.2.2.2.2.1)]),16⟩) (fun n st=>Mg N d e n st.1 st.2.1 st.2.2.1 st.2.2.2.1 st.2.2.2.2.1 st.2.2.2.2.2.1 st.2.2.2.2.2.2.1 st.2.2.2.2.2.2.2.1 st.2.2.2.2.2.2.2.2.1 st.2.2.2.2.2.2.2.2.2) (r:=r) (fun _=>rfl) ?_ (fun ih=>?_))
 ·intro n2 ih3
  rintro ⟨z,A,C,D,G,H,R,T,U,X⟩ h
  unfold Mg at h
  refine ZQ J 5 h (fun h=>wa J 2 (ZK [] (j1 (z,A,C,D,G,H,R,T,U) h))) fun h=>?_
  exact wO J 13 h fun Y Z h=>ZO (ZfP N (⟨z,(⟨A,C,D,G⟩:ZL),H,(⟨R,T,U⟩:T6)⟩:T7) e X _ Z) [] [(0,.bp 0 0),(1,.sl 11),(2,.sl 12),(3,.sl 13),(4,.sl 14),(5,.sl 15),(6,.sl 10)] (wa J 6 (ZK [(11,.sl 16),(12,.sl 17),(13,.sl 18),(14,.sl 19),(15,.sl 20)] (ih3 (Y.all',Y.p'.Zt,Y.p'.ZD,Y.p'.ZE,Y.p'.ZF,Y.calls',Y.out'.ZH,Y.out'.Zt,Y.out'.ZI,(ZM (X+1))) h)))
 exact WX [10] (ZK [(11,.sl 1),(12,.sl 2),(13,.sl 3),(14,.sl 4),(15,.sl 5)] (ih N (c.all',c.p'.Zt,c.p'.ZD,c.p'.ZE,c.p'.ZF,c.calls',c.out'.ZH,c.out'.Zt,c.out'.ZI,0) h))
theorem Zst (N:Nat) (rc:T7->(List ZJ)->(List T8)->Option T7) (rcT:(∀ (c:T7) (d:(List ZJ)) (e:(List T8)) (r:T7),rc c d e=some r->Fn Tryz.prog 28 ⟨8,[.B 0 0,.S 6,.S 7],((1,.sl ZV c.all')::Yz 2 3 4 c.p' [(6,.sl ZR d),(7,.sl Xv e)]),[(0,.box (Xe 1 2 3 4 5 c) 86),(5,.own rS c.calls' false)],13,.t [],((8,.sl ZV r.all')::Yz 9 10 11 r.p' []),[(5,.gone),(12,.own rS r.calls' false),(0,.box (Xe 8 9 10 11 12 r) 86)]⟩)) (c:T7) (d:(List ZJ)) (e:(List T8)) (r:T7) (h:Di N rc c d e=some r) :
 Fn Tryz.prog 28 ⟨8,[.B 0 0,.S 6,.S 7],((1,.sl ZV c.all')::Yz 2 3 4 c.p' [(6,.sl ZR d),(7,.sl Xv e)]),[(0,.box (Xe 1 2 3 4 5 c) 86),(5,.own rS c.calls' false)],13,.t [],((8,.sl ZV r.all')::Yz 9 10 11 r.p' []),[(5,.gone),(12,.own rS r.calls' false),(0,.box (Xe 8 9 10 11 12 r) 86)]⟩:=by
 refine Z5 func28 rfl (fun E F w=>?_)
 unfold Di at h
 refine wa J 6 (Z2 (σ:=(List ZL) × ByteArray × (List ByteArray) × (List ZS) × (List ZJ) × (List ByteArray) × ByteArray × ByteArray × Int) (fun st=>(Zk4 st.2.1 st.2.2.2.2.2.2.1 st.2.2.2.2.2.2.2.1 st.2.2.2.2.2.2.2.2 st.2.2.2.2.2.1 c.all' c.p' d e st.1 st.2.2.1 st.2.2.2.1 st.2.2.2.2.1 [])) (fun st=>Dj st.1 st.2.1 st.2.2.1 st.2.2.2.1 st.2.2.2.2.1 st.2.2.2.2.2.1 st.2.2.2.2.2.2.1 st.2.2.2.2.2.2.2.1 st.2.2.2.2.2.2.2.2=some r) ?_ (fun j1=>?_))
 ·rintro ⟨f,g,i,j,k,l,m,o,p⟩ h
  unfold Dj at h
  cases h
  exact Y7 J func28 [(8,.sl 8),(9,.sl 9),(10,.sl 10),(11,.sl 11),(12,.sl 12)]
 refine wa J 1 (Yc (σ:=(List ZL) × ByteArray × (List ByteArray) × (List ZS) × (List ZJ) × (List ByteArray) × ByteArray × ByteArray × Int × Int) (fun st=>(Zk4 st.2.1 st.2.2.2.2.2.2.1 st.2.2.2.2.2.2.2.1 st.2.2.2.2.2.2.2.2.1 st.2.2.2.2.2.1 c.all' c.p' d e st.1 st.2.2.1 st.2.2.2.1 st.2.2.2.2.1 [(0,.B 0 0),(1,.S 6),(2,.S 7),(14,.S 6),(15,.I (d.length:Int)),(16,.I st.2.2.2.2.2.2.2.2.2)])) (fun n st=>W5 N rc d e n st.1 st.2.1 st.2.2.1 st.2.2.2.1 st.2.2.2.2.1 st.2.2.2.2.2.1 st.2.2.2.2.2.2.1 st.2.2.2.2.2.2.2.1 st.2.2.2.2.2.2.2.2.1 st.2.2.2.2.2.2.2.2.2) (r:=r) (fun _=>rfl) ?_ (fun ih=>?_))
 ·intro n32 ih33
  rintro ⟨q,u,v,x,y,z,A,C,D,G⟩ h
  unfold W5 at h
  refine ZQ J 5 h (fun h=>wa J 2 (ZK [] (j1 (q,u,v,x,y,z,A,C,D) h))) fun h=>?_
  refine wO J 7 h fun H R h=>Yb J Va R ?_
  refine wO J 8 h fun T U h=>ZO (Ztb N e _ U) [] [(0,.sl 7)] (wa J 9 (Z2 (σ:=(List T8)) (fun st=>(Zk5 u A C D z H.Zq H.ZA H.Zt H.As H.ZB st c.all' c.p' d e q v x y H.To H.ZC [(0,.B 0 0),(1,.S 6),(2,.S 7),(7,.B 16 0),(8,.S 17),(14,.S 6),(15,.I (d.length:Int)),(16,.I G)])) (fun st=>Hg N rc q u v x y z A C D G (W5 N rc d e n32) H st=some r) ?_ (fun j54=>?_)))
  ·intro X h
   unfold Hg at h
   refine wa J 12 (Z2 (σ:=(List ZL) × ByteArray × (List ByteArray) × (List ZS) × (List ZJ) × (List ByteArray) × ByteArray × ByteArray × Int × (List T8)) (fun st=>(Zf8 st.2.1 st.2.2.2.2.2.2.1 st.2.2.2.2.2.2.2.1 st.2.2.2.2.2.2.2.2.1 H.Zq H.ZA H.Zt H.As H.ZB st.2.2.2.2.2.1 st.2.2.2.2.2.2.2.2.2 c.all' c.p' d e H.To H.ZC st.1 st.2.2.1 st.2.2.2.1 st.2.2.2.2.1 [(0,.B 0 0),(1,.S 6),(2,.S 7),(7,.B 16 0),(8,.S 23),(14,.S 6),(15,.I (d.length:Int)),(16,.I G)])) (fun st=>V6 N rc G (W5 N rc d e n32) H st.1 st.2.1 st.2.2.1 st.2.2.2.1 st.2.2.2.2.1 st.2.2.2.2.2.1 st.2.2.2.2.2.2.1 st.2.2.2.2.2.2.2.1 st.2.2.2.2.2.2.2.2.1 st.2.2.2.2.2.2.2.2.2=some r) ?_ (fun j56=>?_))
   ·rintro ⟨Y,Z,a0,b0,c0,e0,g0,i0,j0,k0⟩ h
    unfold V6 at h
    refine wa J 8 (Z2 (σ:=(List T8)) (fun st=>(Zf8 Z g0 i0 j0 H.Zq H.ZA H.Zt H.As H.ZB e0 st c.all' c.p' d e H.To H.ZC Y a0 b0 c0 [(0,.B 0 0),(1,.S 6),(2,.S 7),(7,.B 16 0),(8,.S 23),(14,.S 6),(15,.I (d.length:Int)),(16,.I G)])) (fun st=>Dm N rc G (W5 N rc d e n32) H Y Z a0 b0 c0 e0 g0 i0 j0 st=some r) ?_ (fun j57=>?_))
    ·intro l0 h
     unfold Dm at h
     refine wa J 7 (Z2 (σ:=(List ZL) × ByteArray × (List ByteArray) × (List ZS) × (List ZJ) × (List ByteArray) × ByteArray × ByteArray × Int) (fun st=>⟨[(0,.B 0 0),(1,.S 6),(2,.S 7),(14,.S 6),(15,.I (d.length:Int)),(16,.I G)],[(0,.box [.sl 24,.s st.2.1,.sl 25,.sl 26,.sl 27,.sl 28,.s st.2.2.2.2.2.2.1,.s st.2.2.2.2.2.2.2.1,.I st.2.2.2.2.2.2.2.2] 86),(28,.own rS st.2.2.2.2.2.1 false)],((1,.sl ZV c.all')::Yz 2 3 4 c.p' [(6,.sl ZR d),(7,.sl Xv e),(24,.sl ZV st.1),(25,.sl rS st.2.2.1),(26,.sl YE st.2.2.2.1),(27,.sl ZR st.2.2.2.2.1)]),29⟩) (fun st=>Dk G (W5 N rc d e n32) st.1 st.2.1 st.2.2.1 st.2.2.2.1 st.2.2.2.2.1 st.2.2.2.2.2.1 st.2.2.2.2.2.2.1 st.2.2.2.2.2.2.2.1 st.2.2.2.2.2.2.2.2=some r) ?_ (fun j59=>?_))
     ·rintro ⟨m0,o0,p0,q0,s0,t0,u0,v0,x0⟩ h
      unfold Dk at h
      exact wa J 5 (ZK [(8,.sl 24),(9,.sl 25),(10,.sl 26),(11,.sl 27),(12,.sl 28)] (ih33 (m0,o0,p0,q0,s0,t0,u0,v0,x0,(ZM (G+1))) h))
     refine wa J 1 (Yc (σ:=(List ZL) × ByteArray × (List ByteArray) × (List ZS) × (List ZJ) × (List ByteArray) × ByteArray × ByteArray × Int × Int) (fun st=>⟨[(0,.B 0 0),(1,.S 6),(2,.S 7),(8,.S 23),(14,.S 6),(15,.I (d.length:Int)),(16,.I G),(123,.S 15),(124,.I (H.ZC.length:Int)),(125,.I st.2.2.2.2.2.2.2.2.2)],[(0,.box [.sl 24,.s st.2.1,.sl 25,.sl 26,.sl 27,.sl 28,.s st.2.2.2.2.2.2.1,.s st.2.2.2.2.2.2.2.1,.I st.2.2.2.2.2.2.2.2.1] 86),(28,.own rS st.2.2.2.2.2.1 false)],((1,.sl ZV c.all')::Yz 2 3 4 c.p' [(6,.sl ZR d),(7,.sl Xv e),(15,.sl (Yk ZR) H.ZC),(23,.sl Xv l0),(24,.sl ZV st.1),(25,.sl rS st.2.2.1),(26,.sl YE st.2.2.2.1),(27,.sl ZR st.2.2.2.2.1)]),29⟩) (fun n st=>PR rc G (W5 N rc d e n32) H l0 n st.1 st.2.1 st.2.2.1 st.2.2.2.1 st.2.2.2.2.1 st.2.2.2.2.2.1 st.2.2.2.2.2.2.1 st.2.2.2.2.2.2.2.1 st.2.2.2.2.2.2.2.2.1 st.2.2.2.2.2.2.2.2.2) (r:=r) (fun _=>rfl) ?_ (fun ih=>?_))
     ·intro n36 ih61
      rintro ⟨y0,z0,A0,B0,C0,D0,G0,H0,I0,L0⟩ h
      unfold PR at h
      refine ZQ J 5 h (fun h=>wa J 2 (ZK [] (j59 (y0,z0,A0,B0,C0,D0,G0,H0,I0) h))) fun h=>?_
      refine wO J 6 h fun M0 O0 h=>Yb J (YQ ZR) O0 ?_
      exact wO J 7 h fun R0 S0 h=>ZO (rcT (⟨y0,(⟨z0,A0,B0,C0⟩:ZL),D0,(⟨G0,H0,I0⟩:T6)⟩:T7) M0 l0 _ S0) [] [(0,.bp 0 0),(1,.sl 24),(2,.sl 25),(3,.sl 26),(4,.sl 27),(5,.sl 28),(6,.sl 30),(7,.sl 23)] (wa J 6 (ZK [(24,.sl 31),(25,.sl 32),(26,.sl 33),(27,.sl 34),(28,.sl 35)] (ih61 (R0.all',R0.p'.Zt,R0.p'.ZD,R0.p'.ZE,R0.p'.ZF,R0.calls',R0.out'.ZH,R0.out'.Zt,R0.out'.ZI,(ZM (L0+1))) h)))
     exact WX [23] (ZK [(24,.sl 18),(25,.sl 19),(26,.sl 20),(27,.sl 21),(28,.sl 22)] (ih N (Y,Z,a0,b0,c0,e0,g0,i0,j0,0) h))
    refine wa J 1 (Yc (σ:=(List T8) × Int) (fun st=>(Zf8 Z g0 i0 j0 H.Zq H.ZA H.Zt H.As H.ZB e0 st.1 c.all' c.p' d e H.To H.ZC Y a0 b0 c0 [(0,.B 0 0),(1,.S 6),(2,.S 7),(7,.B 16 0),(8,.S 23),(14,.S 6),(15,.I (d.length:Int)),(16,.I G),(103,.I (k0.length:Int)),(104,.I st.2)])) (fun n st=>Qp N rc G (W5 N rc d e n32) H Y Z a0 b0 c0 e0 g0 i0 j0 k0 n st.1 st.2) (r:=r) (fun _=>rfl) ?_ (fun ih=>?_))
    ·intro n37 ih62
     rintro ⟨U0,V0⟩ h
     unfold Qp at h
     refine ZQ J 5 h (fun h=>wa J 2 (ZK [] (j57 U0 h))) fun h=>?_
     refine wO J 14 h fun X0 Y0 h=>Vm J Xv Y0 (wa J 1 (MI J UM Y0 ?_))
     refine wB J 1 h (fun h=>?_) fun h=>?_
     ·exact wO J 4 h fun Z0 a1 h=>Vm J Xv a1 (wa J 1 (SB J [] UM (⟨Z0.name',Z0.tail',true⟩:T8) a1 (wa J 6 (ZK [] (ih62 ((XK U0 V0 (⟨Z0.name',Z0.tail',true⟩:T8)),(ZM (V0+1))) h)))))
     exact wO J 4 h fun b1 c1 h=>Vm J Xv c1 (wa J 1 (SB J [] UM (⟨b1.name',b1.tail',(H.Zq==5)⟩:T8) c1 (wa J 6 (ZK [] (ih62 ((XK U0 V0 (⟨b1.name',b1.tail',(H.Zq==5)⟩:T8)),(ZM (V0+1))) h)))))
    exact ZK [] (ih N (k0,0) h)
   refine eB h (fun h=>?_) fun h=>?_
   ·exact wO J 4 h fun e1 g1 h=>ZO (Ztc N (⟨q,(⟨u,v,x,y⟩:ZL),z,(⟨A,C,D⟩:T6)⟩:T7) H _ g1) [] [(0,.bp 0 0),(1,.sl 8),(2,.sl 9),(3,.sl 10),(4,.sl 11),(5,.sl 12),(6,.sl 14),(7,.sl 15)] (wa J 1 (ZK [(23,.sl 17)] (j56 (e1.all',e1.p'.Zt,e1.p'.ZD,e1.p'.ZE,e1.p'.ZF,e1.calls',e1.out'.ZH,e1.out'.Zt,e1.out'.ZI,X) h)))
   refine wB J 6 h (fun h=>wa J 5 (YB J [] oS ([H.ZA]:List ByteArray) ?_)) fun h=>?_
   ·have ⟨i1,k1,h⟩:=ob h
    exact ZO (ZfP N (⟨q,(⟨u,v,x,y⟩:ZL),z,(⟨A,C,D⟩:T6)⟩:T7) ([H.ZA]:List ByteArray) 0 _ k1) [18] [(0,.bp 0 0),(1,.sl 8),(2,.sl 9),(3,.sl 10),(4,.sl 11),(5,.sl 12),(6,.sl 18)] (wa J 1 (ZK [(18,.sl 19),(19,.sl 20),(20,.sl 21),(21,.sl 22),(22,.sl 23),(23,.sl 17)] (j56 (i1.all',i1.p'.Zt,i1.p'.ZD,i1.p'.ZE,i1.p'.ZF,i1.calls',i1.out'.ZH,i1.out'.Zt,i1.out'.ZI,X) h)))
   refine wB J 6 h (fun h=>?_) fun h=>?_
   ·refine wO J 6 h fun l1 m1 h=>Wo (Ztd N X H _ m1) [] [(0,.sl 17),(1,.bp 16 0),(2,.sl 14),(3,.sl 15)] [17] (.inr ⟨rfl,trivial⟩) ?_
    refine ZQ J 1 h (fun h=>wa J 7 (YB J [] UM ([(⟨H.Zt,true,false⟩:T8)]:List T8) ?_)) fun h=>?_
    ·have ⟨o1,p1,h⟩:=ob h
     exact YK J Xv p1 (wa J 2 (ZK [(18,.sl 8),(19,.sl 9),(20,.sl 10),(21,.sl 11),(22,.sl 12),(23,.sl 19)] (j56 (q,u,v,x,y,z,A,C,D,o1) h)))
    refine wO J 5 h fun q1 s1 h=>ZO (XR N (⟨q,(⟨u,v,x,y⟩:ZL),z,(⟨A,C,D⟩:T6)⟩:T7) H.Zt 9 _ s1) [] [(0,.bp 0 0),(1,.sl 8),(2,.sl 9),(3,.sl 10),(4,.sl 11),(5,.sl 12)] (wa J 6 (YB J [] UM ([(⟨H.Zt,true,false⟩:T8)]:List T8) ?_))
    have ⟨t1,u1,h⟩:=ob h
    exact YK J Xv u1 (wa J 2 (ZK [(23,.sl 24)] (j56 (q1.all',q1.p'.Zt,q1.p'.ZD,q1.p'.ZE,q1.p'.ZF,q1.calls',q1.out'.ZH,q1.out'.Zt,q1.out'.ZI,t1) h)))
   refine ZQ J 6 h (fun h=>?_) fun h=>?_
   ·refine ZQ J 6 h (fun h=>wa J 2 (ZK [(18,.sl 8),(19,.sl 9),(20,.sl 10),(21,.sl 11),(22,.sl 12),(23,.sl 17)] (j56 (q,u,v,x,y,z,A,C,D,X) h))) fun h=>?_
    exact wO J 4 h fun v1 x1 h=>ZO (Zti N (⟨q,(⟨u,v,x,y⟩:ZL),z,(⟨A,C,D⟩:T6)⟩:T7) H _ x1) [] [(0,.bp 0 0),(1,.sl 8),(2,.sl 9),(3,.sl 10),(4,.sl 11),(5,.sl 12),(6,.sl 14),(7,.sl 15)] (wa J 1 (ZK [(23,.sl 17)] (j56 (v1.all',v1.p'.Zt,v1.p'.ZD,v1.p'.ZE,v1.p'.ZF,v1.calls',v1.out'.ZH,v1.out'.Zt,v1.out'.ZI,X) h)))
   refine wO J 5 h fun y1 z1 h=>Wo (Ztg N X H _ z1) [] [(0,.sl 17),(1,.bp 16 0),(2,.sl 14),(3,.sl 15)] [17] (.inr ⟨rfl,trivial⟩) ?_
   refine wB J 9 h (fun h=>?_) fun h=>?_
   ·exact wO J 5 h fun A1 B1 h=>ZO (XR N (⟨q,(⟨u,v,x,y⟩:ZL),z,(⟨A,C,D⟩:T6)⟩:T7) H.Zt 10 _ B1) [] [(0,.bp 0 0),(1,.sl 8),(2,.sl 9),(3,.sl 10),(4,.sl 11),(5,.sl 12)] (wa J 2 (ZK [(23,.sl 17)] (j56 (A1.all',A1.p'.Zt,A1.p'.ZD,A1.p'.ZE,A1.p'.ZF,A1.calls',A1.out'.ZH,A1.out'.Zt,A1.out'.ZI,X) h)))
   refine wO J 5 h fun C1 D1 h=>Vm J Xv D1 (wa J 1 (MI J UM D1 ?_))
   refine ZQ J 3 h (fun h=>wa J 3 (ZK [(18,.sl 8),(19,.sl 9),(20,.sl 10),(21,.sl 11),(22,.sl 12),(23,.sl 17)] (j56 (q,u,v,x,y,z,A,C,D,X) h))) fun h=>?_
   exact wO J 5 h fun G1 H1 h=>ZO (XR N (⟨q,(⟨u,v,x,y⟩:ZL),z,(⟨A,C,D⟩:T6)⟩:T7) H.Zt 7 _ H1) [] [(0,.bp 0 0),(1,.sl 8),(2,.sl 9),(3,.sl 10),(4,.sl 11),(5,.sl 12)] (wa J 2 (ZK [(18,.sl 19),(19,.sl 20),(20,.sl 21),(21,.sl 22),(22,.sl 23),(23,.sl 17)] (j56 (G1.all',G1.p'.Zt,G1.p'.ZD,G1.p'.ZE,G1.p'.ZF,G1.calls',G1.out'.ZH,G1.out'.Zt,G1.out'.ZI,X) h)))
  refine wa J 1 (Yc (σ:=(List T8) × Int) (fun st=>(Zk5 u A C D z H.Zq H.ZA H.Zt H.As H.ZB st.1 c.all' c.p' d e q v x y H.To H.ZC [(0,.B 0 0),(1,.S 6),(2,.S 7),(6,.I G),(7,.B 16 0),(8,.S 17),(14,.S 6),(15,.I (d.length:Int)),(16,.I G),(24,.I (T.length:Int)),(25,.I st.2)])) (fun n st=>Qq N rc d q u v x y z A C D G (W5 N rc d e n32) H T n st.1 st.2) (r:=r) (fun _=>rfl) ?_ (fun ih=>?_))
  ·intro n38 ih63
   rintro ⟨I1,L1⟩ h
   unfold Qq at h
   refine ZQ J 5 h (fun h=>wa J 2 (ZK [] (j54 I1 h))) fun h=>?_
   refine wO J 14 h fun M1 O1 h=>Vm J Xv O1 (wa J 1 (MI J UM O1 ?_))
   refine wB J 1 h (fun h=>?_) fun h=>?_
   ·exact wO J 6 h fun R1 S1 h=>Vm J Xv S1 (wa J 1 (SB J [] UM (⟨R1.name',(G==(ZM ((d.length:Int)-1))),R1.hidden'⟩:T8) S1 (wa J 6 (ZK [] (ih63 ((XK I1 L1 (⟨R1.name',(G==(ZM ((d.length:Int)-1))),R1.hidden'⟩:T8)),(ZM (L1+1))) h)))))
   exact wO J 6 h fun U1 V1 h=>Vm J Xv V1 (wa J 1 (SB J [] UM (⟨U1.name',false,U1.hidden'⟩:T8) V1 (wa J 6 (ZK [] (ih63 ((XK I1 L1 (⟨U1.name',false,U1.hidden'⟩:T8)),(ZM (L1+1))) h)))))
  exact ZK [] (ih N (T,0) h)
 exact ZK [(8,.sl 1),(9,.sl 2),(10,.sl 3),(11,.sl 4),(12,.sl 5)] (ih N (c.all',c.p'.Zt,c.p'.ZD,c.p'.ZE,c.p'.ZF,c.calls',c.out'.ZH,c.out'.Zt,c.out'.ZI,0) h)
theorem Zsv:∀ (N:Nat) (c:T7) (d:(List ZJ)) (e:(List T8)) (r:T7) (h:Zb8 N c d e=some r),Fn Tryz.prog 28 ⟨8,[.B 0 0,.S 6,.S 7],((1,.sl ZV c.all')::Yz 2 3 4 c.p' [(6,.sl ZR d),(7,.sl Xv e)]),[(0,.box (Xe 1 2 3 4 5 c) 86),(5,.own rS c.calls' false)],13,.t [],((8,.sl ZV r.all')::Yz 9 10 11 r.p' []),[(5,.gone),(12,.own rS r.calls' false),(0,.box (Xe 8 9 10 11 12 r) 86)]⟩:=by
 intro N
 induction N with
 | zero=>intros;rename_i h;cases h
 | succ N ih=>intro c d e r h;exact Zst N (Zb8 N) ih c d e r h
theorem Zsu (N:Nat) (c:T7) (d:(List ZJ)) (e:(List T8)) (r:T7) (h:Vf N c d e=some r):Fn Tryz.prog 28 ⟨8,[.B 0 0,.S 6,.S 7],((1,.sl ZV c.all')::Yz 2 3 4 c.p' [(6,.sl ZR d),(7,.sl Xv e)]),[(0,.box (Xe 1 2 3 4 5 c) 86),(5,.own rS c.calls' false)],13,.t [],((8,.sl ZV r.all')::Yz 9 10 11 r.p' []),[(5,.gone),(12,.own rS r.calls' false),(0,.box (Xe 8 9 10 11 12 r) 86)]⟩:=Zsv N c d e r h
end Gx
end
