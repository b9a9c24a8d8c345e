/- Each function of the statement computes what its plain definition says, part 1. -/
import Derived.Test.YtploppegiebboaaGreatDoorFlowFormBase
import Derived.Test.YtploppegiebboaaGreatDoorFlowFormLib
set_option linter.all false
open Go.Proofs.Tryz renaming prog→aB
open Option.some renaming injEq→aR
open ByteArray renaming empty→ao
open Go.Utf8 renaming encode→bV,decode→cv
section
set_option maxRecDepth 10000
set_option maxHeartbeats 4000000
open Go Go.Kx Go.Proofs Tryz
namespace Gx
variable (N:Nat)
theorem Zmx (d:be) (e:Int) (r:Int) (h:Ba N d e=some r) :
 Fn aB 136 ⟨0,[.c (.s d),.c (.i .u8 e)],[],[],0,.I r,[],[]⟩:=Yy func136 rfl fun E F w=>by
 unfold Ba at h;refine wa J 8 (eEx (Zpq func172 (by kernel_rfl) (by kernel_rfl) (by kernel_rfl) (by kernel_rfl) d e) (fun _=>trivial) ?_);exact oi h▸wr J 2 func136 []
theorem Zg6 (d:be) (e:Int) (r:Int) (h:BU N d e=some r) :
 Fn aB 73 ⟨0,[.c (.s d),.c (.i .u8 e)],[],[],0,.I r,[],[]⟩:=Yy func73 rfl fun E F w=>by
 unfold BU at h;refine wO J 8 h fun f g h=>Yl (Zmx N d e _ g) [] [] ?_;exact oi h▸wr J 2 func73 []
theorem ZvM (d:Int) (r:Bool) (h:ZgB N d=some r) :
 Fn aB 169 ⟨0,[.c (.i .i32 d)],[],[],0,.O r,[],[]⟩:=Yy func169 rfl fun E F w=>by
 unfold ZgB at h;refine Yv J 11 h (fun h=>?_) fun h=>?_
 ·refine Yv J 11 h (fun h=>oi h▸wr J 12 func169 []) fun h=>?_;exact wB J 5 h (fun h=>oi h▸wr J 5 func169 []) fun h=>oi h▸wr J 7 func169 []
 refine wB J 5 h (fun h=>oi h▸wr J 5 func169 []) fun h=>?_;refine Yv J 6 h (fun h=>oi h▸wr J 12 func169 []) fun h=>?_;exact wB J 5 h (fun h=>oi h▸wr J 5 func169 []) fun h=>oi h▸wr J 7 func169 []
theorem Zvn (d:be) (e:Int) (r:Int) (h:Zgo N d e=some r) :
 Fn aB 134 ⟨0,[.c (.s d),.c (.i .i32 e)],[],[],0,.I r,[],[]⟩:=Yy func134 rfl fun E F w=>by
 unfold Zgo at h;refine wa J 10 (YE (σ:=Bool) (fun st=>(UN [(0,.c (.s d)),(1,.c (.i .i32 e)),(160,.O st)])) (fun st=>Zcg N d e st=some r) ?_ (fun j1=>?_))
 ·intro f h;unfold Zcg at h;refine eB h (fun h=>?_) fun h=>?_
  ·refine wO J 6 h fun g j h=>Yl (Zg6 N d (wk .u8 (e)) _ j) [] [] ?_;exact oi h▸wr J 2 func134 []
  obtain ⟨K,h⟩|⟨K,h⟩:=oc h
  ·refine wH J 7 K (wa J 5 (eRn J (fun bk2=>wa J 1 (YE (σ:=Nat) (fun st=>⟨[],[(0,.abs (Ux bk2 d st))],[],1⟩) (fun st=>Zgp st=some r) ?_ (fun j2=>?_)))))
   ·intro vi0_2 h;unfold Zgp at h;exact oi h▸wr J 4 func134 []
   refine wa J 1 (YO (σ:=Nat) (fun st=>⟨[(175,.c (.v (.pointer (some ⟨bk2,0,none⟩))))],[(0,.abs (Ux bk2 d st))],[],1⟩) (fun n st=>Zch d n st) (r:=r) (fun _=>rfl) ?_ (fun ih=>?_))
   ·intro n2 ih4;intro vi0_4 h;unfold Zch at h;obtain ⟨K,h⟩|⟨K,h⟩:=UY h
    ·exact wa J 2 (eNf bk2 0 K (wa J 5 (Yi [] (j2 vi0_4 h))))
    refine wa J 2 (eNt bk2 0 K ?_);exact wB J 18 h (fun h=>oi h▸wr J 6 func134 []) fun h=>wa J 3 (Yi [] (ih4 (vi0_4+(cv d vi0_4).2) h))
   exact Yi [] (ih N (0:Nat) h)
  refine wH J 7 K ?_;refine wO J 4 h fun k l h=>Yl (ZvM N e _ l) [] [] ?_;refine wB J 3 h (fun h=>oi h▸wr J 5 func134 []) fun h=>wa J 5 (eCr (wa J 19 (YE (σ:=Unit) (fun st=>(UN [])) (fun st=>Zgq=some r) ?_ (fun j5=>?_))))
  ·intro _ h;unfold Zgq at h;exact oi h▸wr J 5 func134 []
  refine wa J 1 (YO (σ:=Unit) (fun st=>(UN [(0,.c (.s d)),(7,.c (.s (bV e))),(8,.I (Yh (((bV e).size:Int)-1))),(9,.I (Yh (((bV e).size:Int)-1)))])) (fun n st=>Zgs N d e n) (r:=r) (fun _=>rfl) ?_ (fun ih=>?_))
  ·intro n10 ih15;intro _ h;unfold Zgs at h;refine Yv J 8 h (fun h=>wa J 2 (Yi [] (j5 () h))) fun h=>?_;refine wO J 9 h fun m o h=>Wx J o ?_;refine wO J 2 h fun p q h=>Wx J q (wa J 1 (YJ (YE (σ:=Int) (fun st=>(UN [(0,.c (.s d)),(7,.c (.s (bV e))),(8,.I (Yh (((bV e).size:Int)-1))),(9,.I st)])) (fun st=>Zcf N d e st=some r) ?_ (fun j20=>?_))))
   ·intro t h;unfold Zcf at h;refine wa J 5 (YE (σ:=Unit) (fun st=>(UN [(8,.I (Yh (((bV e).size:Int)-1))),(9,.I t)])) (fun st=>Zgr e t=some r) ?_ (fun j21=>?_))
    ·intro _ h;unfold Zgr at h;exact oi h▸wr J 8 func134 []
    refine wa J 1 (YO (σ:=Int) (fun st=>(UN [(0,.c (.s d)),(7,.c (.s (bV e))),(8,.I (Yh (((bV e).size:Int)-1))),(9,.I t),(12,.I st)])) (fun n st=>Zci d e t n st) (r:=r) (fun _=>rfl) ?_ (fun ih=>?_))
    ·intro n12 ih23;intro u h;unfold Zci at h;refine Yv J 8 h (fun h=>wa J 2 (Yi [] (j21 () h))) fun h=>?_;refine wO J 10 h fun x y h=>Wx J y ?_;refine wO J 4 h fun z A h=>Wx J A (wa J 1 (YJ ?_));refine eB h (fun h=>?_) fun h=>wa J 8 (Yi [] (ih23 (Yh (u+1)) h));cases h
    exact Yi [] (ih N 1 h)
   refine Wj h (fun h=>wa J 2 (Yi [] (j20 (Yh (((bV e).size:Int)-1)) h))) fun h=>?_;refine wO J 6 h fun C D h=>Uo J D ?_;refine wO J 2 h fun G H h=>Wx J H ?_;have ⟨R,T,h⟩:=ob h;refine Yl (Zg6 N C G _ T) [] [] (wa J 1 (YJ ?_));exact wB J 6 h (fun h=>oi h▸wr J 5 func134 []) fun h=>wa J 9 (Yi [] (j20 (Yh ((Yh (((bV e).size:Int)-1))+(Yh (R+1)))) h))
  exact Yi [] (ih N () h)
 exact eB h (fun h=>wa J 5 (Yi [] (j1 (decide (e < 128)) h))) fun h=>wa J 5 (Yi [] (j1 false h))
theorem ZwJ (d:be) (e:Int) (r:Bool) (h:z71 N d e=some r) :
 Fn aB 71 ⟨0,[.c (.s d),.c (.i .i32 e)],[],[],0,.O r,[],[]⟩:=Yy func71 rfl fun E F w=>by
 unfold z71 at h;refine wO J 8 h fun f g h=>Yl (Zvn N d e _ g) [] [] ?_;exact oi h▸wr J 3 func71 []
theorem Zvo (d:be) (e:be) (r:Bool) (h:Zgt N d e=some r) :
 Fn aB 135 ⟨0,[.c (.s d),.c (.s e)],[],[],0,.O r,[],[]⟩:=Yy func135 rfl fun E F w=>by
 unfold Zgt at h;refine Yv J 12 h (fun h=>oi h▸wr J 9 func135 []) fun h=>?_;refine wO J 3 h fun f g h=>Uo J g ?_;exact oi h▸wr J 5 func135 []
theorem ZmM (d:be) (e:be) (r:Bool) (h:z72 N d e=some r) :
 Fn aB 72 ⟨0,[.c (.s d),.c (.s e)],[],[],0,.O r,[],[]⟩:=Yy func72 rfl fun E F w=>by
 unfold z72 at h;refine wO J 8 h fun f g h=>Yl (Zvo N d e _ g) [] [] ?_;exact oi h▸wr J 2 func72 []
theorem Br (c:Y4) (r:Y4) (h:MN N c=some r) :
 Fn aB 26 ⟨1,[.B 0 0],[],[(0,.box (VI c) 107)],1,.t [],[],[(0,.box (VI r) 107)]⟩:=Yy func26 rfl fun E F w=>by
 unfold MN at h;refine YE (σ:=Int) (fun st=>(GA c.s' st [])) (fun st=>ZgN c st=some r) ?_ (fun j1=>?_)
 ·intro d h;unfold ZgN at h;cases h;exact Xh J func26 []
 refine wa J 1 (YO (σ:=Int) (fun st=>(GA c.s' st [(0,.B 0 0)])) (fun n st=>H8 N c n st) (r:=r) (fun _=>rfl) ?_ (fun ih=>?_))
 ·intro n2 ih3;intro e h;unfold H8 at h;refine wa J 13 (YJ ?_);refine Wj h (fun h=>wa J 2 (Yi [] (j1 e h))) fun h=>?_;refine wO J 13 h fun f g h=>Uo J g (wa J 1 (YJ ?_));refine wO J 4 h fun i j h=>Wx J j ?_;refine wO J 1 h fun k l h=>Yl (ZwJ N (str [32,9,10,13]) (wk .i32 (i)) _ l) [] [] ?_;refine wB J 2 h (fun h=>wa J 13 (Yi [] (ih3 (Yh (e+1)) h))) fun h=>?_;refine wO J 4 h fun m o h=>Yl (ZmM N f (str [47,47]) _ o) [] [] ?_;refine Yv J 2 h (fun h=>oi h▸wr J 1 func26 []) fun h=>?_;refine wO J 4 h fun p q h=>Yl (Zg6 N f 10 _ q) [] [] ?_;exact wB J 8 h (fun h=>wa J 21 (Yi [] (ih3 (Yh (e+(Yh ((Yh ((f.size:Int)-1))+1)))) h))) fun h=>wa J 16 (Yi [] (ih3 (Yh (e+(Yh (p+1)))) h))
 exact Yi [] (ih N c.ZI h)
theorem ZgQ (d:Int) (r:Bool) (h:z28 N d=some r) :
 Fn aB 28 ⟨0,[.c (.i .u8 d)],[],[],0,.O r,[],[]⟩:=Yy func28 rfl fun E F w=>by
 unfold z28 at h;refine Yv J 9 h (fun h=>?_) fun h=>?_
 ·exact wB J 7 h (fun h=>oi h▸wr J 6 func28 []) fun h=>oi h▸wr J 6 func28 []
 refine wB J 4 h (fun h=>oi h▸wr J 9 func28 []) fun h=>?_;exact wB J 3 h (fun h=>oi h▸wr J 6 func28 []) fun h=>oi h▸wr J 6 func28 []
theorem ZgS (d:Int) (r:Bool) (h:H9 N d=some r) :
 Fn aB 30 ⟨0,[.c (.i .u8 d)],[],[],0,.O r,[],[]⟩:=Yy func30 rfl fun E F w=>by
 unfold H9 at h;exact wB J 9 h (fun h=>oi h▸wr J 5 func30 []) fun h=>oi h▸wr J 5 func30 []
theorem Zha (d:Int) (r:Bool) (h:z76 N d=some r) :
 Fn aB 76 ⟨0,[.c (.i .u8 d)],[],[],0,.O r,[],[]⟩:=Yy func76 rfl fun E F w=>by
 unfold z76 at h;refine wO J 7 h fun e f h=>Yl (ZgQ N d _ f) [] [] ?_;refine wB J 1 h (fun h=>oi h▸wr J 9 func76 []) fun h=>?_;refine wO J 1 h fun g j h=>Yl (ZgS N d _ j) [] [] ?_;exact wB J 2 h (fun h=>oi h▸wr J 5 func76 []) fun h=>oi h▸wr J 5 func76 []
theorem ZwL (d:Y4) (r:be × Y4) (h:Zg8 N d=some r) :
 Fn aB 75 ⟨1,[.B 0 0,.c (.cl 76 [] [])],[],[(0,.box (VI d) 107)],1,.c (.s r.1),[],[(0,.box (VI r.2) 107)]⟩:=Yy func75 rfl fun E F w=>by
 unfold Zg8 at h;refine wa J 13 (YE (σ:=Int) (fun st=>(GA d.s' st [(0,.B 0 0),(5,.I d.ZI)])) (fun st=>Zdt d st=some r) ?_ (fun j1=>?_))
 ·intro e h;unfold Zdt at h;refine wO J 11 h fun f g h=>Uo J g (wa J 1 (YJ ?_));cases h;exact Xh J func75 []
 refine wa J 1 (YO (σ:=Int) (fun st=>(GA d.s' st [(0,.B 0 0),(1,.c (.cl 76 [] [])),(5,.I d.ZI)])) (fun n st=>Zdu N d n st) (r:=r) (fun _=>rfl) ?_ (fun ih=>?_))
 ·intro n2 ih3;intro i h;unfold Zdu at h;refine Yv J 14 h (fun h=>wa J 12 (YJ (wa J 2 (Yi [] (j1 i h))))) fun h=>?_;refine wO J 9 h fun j k h=>Wx J k ?_;have ⟨l,m,h⟩:=ob h;refine Yl (Zha N j _ m) [] [] (wa J 1 (YJ ?_));exact eB h (fun h=>wa J 14 (Yi [] (ih3 (Yh (i+1)) h))) fun h=>wa J 2 (Yi [] (j1 i h))
 exact Yi [] (ih N d.ZI h)
theorem Zv8 (c:Y4) (r:YN × Int × Y4) (h:z29 N c=some r) :
 Fn aB 29 ⟨1,[.B 0 0],[],[(0,.box (VI c) 107)],1,.t [.inr (GV r.1),.inl (.I r.2.1)],[],[(0,.box (VI r.2.2) 107)]⟩:=Yy func29 rfl fun E F w=>by
 unfold z29 at h;refine wO J 8 h fun d e h=>Yl (ZwL N c _ e) [] [(0,.bp 0 0)] ?_;exact wB J 9 h (fun h=>oi h▸wr J 7 func29 []) fun h=>oi h▸wr J 9 func29 []
theorem ZwM (d:Y4) (r:be × Y4) (h:Zg9 N d=some r) :
 Fn aB 75 ⟨1,[.B 0 0,.c (.cl 30 [] [])],[],[(0,.box (VI d) 107)],1,.c (.s r.1),[],[(0,.box (VI r.2) 107)]⟩:=Yy func75 rfl fun E F w=>by
 unfold Zg9 at h;refine wa J 13 (YE (σ:=Int) (fun st=>(GA d.s' st [(0,.B 0 0),(5,.I d.ZI)])) (fun st=>Zdv d st=some r) ?_ (fun j1=>?_))
 ·intro e h;unfold Zdv at h;refine wO J 11 h fun f g h=>Uo J g (wa J 1 (YJ ?_));cases h;exact Xh J func75 []
 refine wa J 1 (YO (σ:=Int) (fun st=>(GA d.s' st [(0,.B 0 0),(1,.c (.cl 30 [] [])),(5,.I d.ZI)])) (fun n st=>Zdw N d n st) (r:=r) (fun _=>rfl) ?_ (fun ih=>?_))
 ·intro n2 ih3;intro i h;unfold Zdw at h;refine Yv J 14 h (fun h=>wa J 12 (YJ (wa J 2 (Yi [] (j1 i h))))) fun h=>?_;refine wO J 9 h fun j k h=>Wx J k ?_;have ⟨l,m,h⟩:=ob h;refine Yl (ZgS N j _ m) [] [] (wa J 1 (YJ ?_));exact eB h (fun h=>wa J 14 (Yi [] (ih3 (Yh (i+1)) h))) fun h=>wa J 2 (Yi [] (j1 i h))
 exact Yi [] (ih N d.ZI h)
theorem Zv9 (d:Y4) (r:YN × Int × Y4) (h:z31 N d=some r) :
 Fn aB 31 ⟨1,[.B 0 0],[],[(0,.box (VI d) 107)],1,.t [.inr (GV r.1),.inl (.I r.2.1)],[],[(0,.box (VI r.2.2) 107)]⟩:=Yy func31 rfl fun E F w=>by
 unfold z31 at h;refine wO J 8 h fun e f h=>Yl (ZwM N d _ f) [] [(0,.bp 0 0)] ?_;refine wa J 16 (YE (σ:=Bool) (fun st=>(zz3 e.2 [(2,.B 1 0),(4,.c (.s e.1)),(30,.O st)])) (fun st=>Zc2 N e st=some r) ?_ (fun j1=>?_))
 ·intro g h;unfold Zc2 at h;refine eB h (fun h=>oi h▸wr J 7 func31 []) fun h=>?_;refine wa J 9 (YE (σ:=Bool) (fun st=>(zz3 e.2 [(2,.B 1 0),(4,.c (.s e.1)),(44,.O st)])) (fun st=>Bs N e st=some r) ?_ (fun j2=>?_))
  ·intro i h;unfold Bs at h;refine eB h (fun h=>oi h▸wr J 7 func31 []) fun h=>wa J 15 (YE (σ:=Int) (fun st=>(ZmY e.2 st [(2,.B 1 0),(5,.B 2 0)])) (fun st=>ZgT e st=some r) ?_ (fun j3=>?_))
   ·intro j h;unfold ZgT at h;exact oi h▸wr J 6 func31 []
   refine wa J 1 (YO (σ:=Int × Int) (fun st=>(ZmY e.2 st.1 [(2,.B 1 0),(4,.c (.s e.1)),(5,.B 2 0),(48,.I (e.1.size:Int)),(49,.I st.2)])) (fun n st=>Zc3 e n st.1 st.2) (r:=r) (fun _=>rfl) ?_ (fun ih=>?_))
   ·intro n2 ih5;rintro ⟨k,l⟩ h;unfold Zc3 at h;refine Yv J 5 h (fun h=>wa J 2 (Yi [] (j3 k h))) fun h=>?_;exact wO J 15 h fun m o h=>Wx J o (wa J 5 (YJ (wa J 5 (Yi [] (ih5 ((Yh ((Yh (10 * k))+(Yh ((wk .u8 (m-48)))))),(Yh (l+1))) h)))))
   exact Yi [] (ih N (0,0) h)
  refine eB h (fun h=>wa J 10 (Yi [] (j2 true h))) fun h=>?_;refine Yv J 4 h (fun h=>wa J 6 (Yi [] (j2 false h))) fun h=>?_;exact wO J 1 h fun p q h=>Wx J q (wa J 4 (Yi [] (j2 (p==48) h)))
 refine Wj h (fun h=>wa J 11 (YJ (Yi [] (j1 false h)))) fun h=>?_;refine wO J 8 h fun u v h=>Wx J v ?_;have ⟨x,y,h⟩:=ob h;exact Yl (Zha N u _ y) [] [] (wa J 1 (YJ (Yi [] (j1 x h))))
theorem Zwa (d:Y4) (r:YN × Int × Y4) (h:z32 N d=some r) :
 Fn aB 32 ⟨1,[.B 0 0],[],[(0,.box (VI d) 107)],1,.t [.inr (GV r.1),.inl (.I r.2.1)],[],[(0,.box (VI r.2.2) 107)]⟩:=Yy func32 rfl fun E F w=>by
 unfold z32 at h;refine wa J 21 (YE (σ:=Int) (fun st=>⟨[(2,.B 1 0)],[(0,.box [.s d.s',.I st] 107),(1,.box [.I 0,.s (str []),.I 0,.I 0] 111)],[],2⟩) (fun st=>ZgV d st=some r) ?_ (fun j1=>?_))
 ·intro e h;unfold ZgV at h;exact oi h▸wr J 6 func32 []
 refine wa J 1 (YO (σ:=Int × (List Int)) (fun st=>(ZmZ d.s' st.1 st.2 [(0,.B 0 0),(2,.B 1 0),(4,.S 2)])) (fun n st=>MP d n st.1 st.2) (r:=r) (fun _=>rfl) ?_ (fun ih=>?_))
 ·intro n2 ih6;rintro ⟨f,g⟩ h;unfold MP at h;refine wa J 13 (YJ ?_);refine Wj h (fun h=>wa J 2 (Yi [] (j1 f h))) fun h=>?_;refine wO J 14 h fun j k h=>Wx J k (wa J 1 (YJ ?_));refine wB J 6 h (fun h=>?_) fun h=>wa J 8 (YE (σ:=Int × Int) (fun st=>(ZmZ d.s' st.1 g [(0,.B 0 0),(2,.B 1 0),(4,.S 2),(5,.c (.i .u8 st.2))])) (fun st=>Bt d g (MP d n2) st.1 st.2=some r) ?_ (fun j9=>?_))
  ·exact wB J 19 h (fun h=>oi h▸wr J 7 func32 []) fun h=>wa J 5 (eCs g (oi h▸wr J 4 func32 []))
  ·rintro ⟨l,m⟩ h;unfold Bt at h;refine wB J 6 h (fun h=>oi h▸wr J 11 func32 []) fun h=>?_;refine wB J 4 h (fun h=>oi h▸wr J 7 func32 []) fun h=>wa J 5 (YX J [] (oI .u8) ([m]:List Int) ?_);have ⟨o,p,h⟩:=ob h;exact Xv J (rI .u8) p (wa J 13 (Yi [(2,.sl 4)] (ih6 ((Yh (l+1)),o) h)))
  refine Wj h (fun h=>wa J 2 (Yi [] (j9 (f,j) h))) fun h=>?_;refine wB J 26 h (fun h=>wa J 23 (YJ (oi h▸wr J 7 func32 []))) fun h=>?_;refine wO J 8 h fun q u h=>Wx J u ?_;refine Yv J 2 h (fun h=>wa J 12 (YJ ?_)) fun h=>?_
  ·exact wO J 11 h fun v x h=>Wx J x (wa J 1 (YJ (Yi [] (j9 ((Yh (f+1)),v) h))))
  refine wO J 8 h fun y z h=>Wx J z (wa J 3 (YJ ?_));refine eB h (fun h=>oi h▸wr J 7 func32 []) fun h=>?_;exact wO J 11 h fun A C h=>Wx J C (wa J 1 (YJ (Yi [] (j9 ((Yh (f+1)),A) h))))
 exact Yi [(2,.nil)] (ih N ((Yh (d.ZI+1)),([]:List Int)) h)
theorem ZvN (d:be) (e:be) (r:Int) (h:z173 N d e=some r) :
 Fn aB 173 ⟨0,[.c (.s d),.c (.s e)],[],[],0,.I r,[],[]⟩:=Yy func173 rfl fun E F w=>by
 unfold z173 at h;refine wB J 17 h (fun h=>oi h▸wr J 11 func173 []) fun h=>?_;refine wB J 6 h (fun h=>oi h▸wr J 5 func173 []) fun h=>?_;refine wB J 7 h (fun h=>?_) fun h=>?_
 ·refine wO J 5 h fun f g h=>Wx J g ?_;have ⟨i,j,h⟩:=ob h;refine Yl (Zmx N d f _ j) [] [] ?_;exact oi h▸wr J 2 func173 []
 refine wB J 9 h (fun h=>oi h▸wr J 5 func173 []) fun h=>?_;cases h
theorem Zgu (d:be) (e:be) (r:Int) (h:Mx N d e=some r) :
 Fn aB 137 ⟨0,[.c (.s d),.c (.s e)],[],[],0,.I r,[],[]⟩:=Yy func137 rfl fun E F w=>by
 unfold Mx at h;refine wO J 8 h fun f g h=>Yl (ZvN N d e _ g) [] [] ?_;exact oi h▸wr J 2 func137 []
theorem ZwK (d:be) (e:be) (r:Bool) (h:z74 N d e=some r) :
 Fn aB 74 ⟨0,[.c (.s d),.c (.s e)],[],[],0,.O r,[],[]⟩:=Yy func74 rfl fun E F w=>by
 unfold z74 at h;refine wO J 8 h fun f g h=>Yl (Zgu N d e _ g) [] [] ?_;exact oi h▸wr J 3 func74 []
theorem Zv7 (c:Y4) (r:YN × Int × Y4) (h:z27 N c=some r) :
 Fn aB 27 ⟨1,[.B 0 0],[],[(0,.box (VI c) 107)],1,.t [.inr (GV r.1),.inl (.I r.2.1)],[],[(0,.box (VI r.2.2) 107)]⟩:=Yy func27 rfl fun E F w=>by
 unfold z27 at h;refine wa J 11 (YE (σ:=Unit) (fun st=>(zz3 c [(0,.B 0 0),(2,.B 1 0)])) (fun st=>ZgP N c=some r) ?_ (fun j1=>?_))
 ·intro _ h;unfold ZgP at h;refine wO J 15 h fun d e h=>Uo J e (wa J 1 (YJ ?_));refine wO J 4 h fun f g h=>Yl (ZwK N (str [40,41,123,125,44,59,58,46,43,45,42,47,37,60,62,61,33]) d _ g) [] [] ?_;exact wB J 2 h (fun h=>oi h▸wr J 7 func27 []) fun h=>oi h▸wr J 20 func27 []
 refine wa J 1 (YO (σ:=Int) (fun st=>(zz3 c [(0,.B 0 0),(2,.B 1 0),(7,.a [.s (str [45,62]),.s (str [46,46]),.s (str [60,61]),.s (str [62,61]),.s (str [61,61]),.s (str [33,61]),.s (str [38,38]),.s (str [124,124])]),(8,.I st)])) (fun n st=>Zc1 N c n st) (r:=r) (fun _=>rfl) ?_ (fun ih=>?_))
 ·intro n2 ih3;intro i h;unfold Zc1 at h;refine Yv J 5 h (fun h=>wa J 2 (Yi [] (j1 () h))) fun h=>?_;refine wO J 6 h fun j k h=>eAx SC.s ([(str [45,62]),(str [46,46]),(str [60,61]),(str [62,61]),(str [61,61]),(str [33,61]),(str [38,38]),(str [124,124])]:List be) k ?_;refine wO J 12 h fun l m h=>Uo J m ?_;refine wO J 1 h fun o p h=>Yl (ZmM N l j _ p) [] [] (YJ ?_);exact eB h (fun h=>oi h▸wr J 19 func27 []) fun h=>wa J 7 (Yi [] (ih3 (Yh (i+1)) h))
 exact Yi [] (ih N 0 h)
theorem Zvz (d:be) (r:(List YN) × Int × Int) (h:z14 N d=some r) :
 Fn aB 14 ⟨0,[.c (.s d)],[],[],1,.t [.inl (.sl 0),.inl (.I r.2.1),.inl (.I r.2.2)],[],[(0,.own Y2 r.1 true)]⟩:=Yy func14 rfl fun E F w=>by
 unfold z14 at h;refine wB J 13 h (fun h=>oi h▸wr J 7 func14 [(0,.nil)]) fun h=>?_;refine wO J 13 h fun e f h=>Yl (Br N (⟨d,0⟩:Y4) _ f) [] [(0,.bp 0 0)] (wa J 1 (YE (σ:=(List YN)) (fun st=>⟨[(2,.S 1)],[(1,.own Y2 st true)],[],2⟩) (fun st=>Zgy st=some r) ?_ (fun j1=>?_)))
 ·intro g h;unfold Zgy at h;exact oi h▸wr J 7 func14 [(0,.sl 1)]
 refine wa J 1 (YO (σ:=(List YN) × be × Int) (fun st=>⟨[(0,.c (.s d)),(2,.S 1),(5,.B 0 0)],[(0,.box [.s st.2.1,.I st.2.2] 107),(1,.own Y2 st.1 true)],[],2⟩) (fun n st=>ME N d n st.1 st.2.1 st.2.2) (r:=r) (fun _=>rfl) ?_ (fun ih=>?_))
 ·intro n2 ih12;rintro ⟨i,j,k⟩ h;unfold ME at h;refine Yv J 11 h (fun h=>wa J 2 (Yi [] (j1 i h))) fun h=>?_;refine wO J 18 h fun l m h=>Wx J m ?_;refine wO J 6 h fun o p h=>Yl (ZgQ N l _ p) [] [] ?_;refine wB J 2 h (fun h=>?_) fun h=>?_
  ·refine wO J 18 h fun q u h=>Yl (Zv8 N (⟨j,k⟩:Y4) _ u) [] [(0,.bp 0 0)] ?_;refine wB J 13 h (fun h=>oi h▸wr J 9 func14 [(0,.nil)]) fun h=>wa J 11 (YX J [] Hf ([(⟨q.1.Zt,q.1.ZH,q.1.Value,k⟩:YN)]:List YN) ?_);have ⟨v,x,h⟩:=ob h;refine Xv J Y2 x ?_;exact wO J 5 h fun y z h=>Yl (Br N q.2.2 _ z) [] [(0,.bp 0 0)] (wa J 1 (Yi [(1,.sl 4)] (ih12 (v,y.s',y.ZI) h)))
  refine wO J 4 h fun A C h=>Yl (ZgS N l _ C) [] [] ?_;refine wB J 2 h (fun h=>?_) fun h=>?_
  ·refine wO J 18 h fun D G h=>Yl (Zv9 N (⟨j,k⟩:Y4) _ G) [] [(0,.bp 0 0)] ?_;refine wB J 13 h (fun h=>oi h▸wr J 9 func14 [(0,.nil)]) fun h=>wa J 11 (YX J [] Hf ([(⟨D.1.Zt,D.1.ZH,D.1.Value,k⟩:YN)]:List YN) ?_);have ⟨H,R,h⟩:=ob h;refine Xv J Y2 R ?_;exact wO J 5 h fun T U h=>Yl (Br N D.2.2 _ U) [] [(0,.bp 0 0)] (wa J 1 (Yi [(1,.sl 4)] (ih12 (H,T.s',T.ZI) h)))
  refine wB J 7 h (fun h=>?_) fun h=>?_
  ·refine wO J 18 h fun X Y h=>Yl (Zwa N (⟨j,k⟩:Y4) _ Y) [] [(0,.bp 0 0)] ?_;refine wB J 13 h (fun h=>oi h▸wr J 9 func14 [(0,.nil)]) fun h=>wa J 11 (YX J [] Hf ([(⟨X.1.Zt,X.1.ZH,X.1.Value,k⟩:YN)]:List YN) ?_);have ⟨Z,a0,h⟩:=ob h;refine Xv J Y2 a0 ?_;exact wO J 5 h fun b0 c0 h=>Yl (Br N X.2.2 _ c0) [] [(0,.bp 0 0)] (wa J 1 (Yi [(1,.sl 4)] (ih12 (Z,b0.s',b0.ZI) h)))
  refine wO J 14 h fun e0 g0 h=>Yl (Zv7 N (⟨j,k⟩:Y4) _ g0) [] [(0,.bp 0 0)] ?_;refine wB J 13 h (fun h=>oi h▸wr J 9 func14 [(0,.nil)]) fun h=>wa J 11 (YX J [] Hf ([(⟨e0.1.Zt,e0.1.ZH,e0.1.Value,k⟩:YN)]:List YN) ?_);have ⟨i0,j0,h⟩:=ob h;refine Xv J Y2 j0 ?_;exact wO J 5 h fun k0 l0 h=>Yl (Br N e0.2.2 _ l0) [] [(0,.bp 0 0)] (wa J 1 (Yi [(1,.sl 4)] (ih12 (i0,k0.s',k0.ZI) h)))
 exact Yi [(1,.nil)] (ih N (([]:List YN),e.s',e.ZI) h)
theorem M9 (c:Yw) (r:YN) (h:Ql N c=some r) :
 Fn aB 78 ⟨2,[.B 0 0],[(1,.sl Y2 c.l')],[(0,.box (Xu 1 c) 66)],2,.a (GV r),[],[(0,.box (Xu 1 c) 66)]⟩:=Yy func78 rfl fun E F w=>by
 unfold Ql at h;refine wB J 13 h (fun h=>wa J 11 (YJ (oi h▸wr J 6 func78 []))) fun h=>wa J 11 (YJ ?_);refine eB h (fun h=>oi h▸wr J 6 func78 []) fun h=>?_;refine wO J 12 h fun d e h=>YK J Hf e (wa J 2 (YJ ?_));cases h;exact Xh J func78 []
theorem ZmN (d:Yw) (e:be) (r:Bool) (h:z79 N d e=some r) :
 Fn aB 79 ⟨2,[.B 0 0,.c (.s e)],[(1,.sl Y2 d.l')],[(0,.box (Xu 1 d) 66)],2,.O r,[],[(0,.box (Xu 1 d) 66)]⟩:=Yy func79 rfl fun E F w=>by
 unfold z79 at h;refine wO J 7 h fun f g h=>Yl (M9 N d _ g) [] [(0,.bp 0 0),(1,.sl 1)] ?_;refine wB J 9 h (fun h=>oi h▸wr J 12 func79 []) fun h=>?_;exact wB J 5 h (fun h=>oi h▸wr J 7 func79 []) fun h=>oi h▸wr J 7 func79 []
theorem W5 (d:Yw) (e:be) (r:Bool × Yw) (h:WO N d e=some r) :
 Fn aB 36 ⟨2,[.B 0 0,.c (.s e)],[(1,.sl Y2 d.l')],[(0,.box (Xu 1 d) 66)],3,.O r.1,[(2,.sl Y2 r.2.l')],[(0,.box (Xu 2 r.2) 66)]⟩:=Yy func36 rfl fun E F w=>by
 unfold WO at h;refine wO J 9 h fun f g h=>Yl (ZmN N d e _ g) [] [(0,.bp 0 0),(1,.sl 1)] ?_;exact wB J 2 h (fun h=>oi h▸wr J 5 func36 [(2,.sl 1)]) fun h=>oi h▸wr J 17 func36 [(2,.sl 1)]
theorem Pm (c:Yw) (d:Int) (r:Yw) (h:Rn N c d=some r) :
 Fn aB 77 ⟨2,[.B 0 0,.I d],[(1,.sl Y2 c.l')],[(0,.box (Xu 1 c) 66)],3,.t [],[(2,.sl Y2 r.l')],[(0,.box (Xu 2 r) 66)]⟩:=Yy func77 rfl fun E F w=>by
 unfold Rn at h;refine wB J 9 h (fun h=>oi h▸wr J 1 func77 [(2,.sl 1)]) fun h=>wa J 30 (YJ ?_);refine Wj h (fun h=>oi h▸wr J 2 func77 [(2,.sl 1)]) fun h=>?_;refine wO J 11 h fun e f h=>YK J Hf f (wa J 5 (YJ ?_));cases h;exact Xh J func77 [(2,.sl 1)]
theorem Wl (d:Yw) (e:be) (r:Yw) (h:Wg N d e=some r) :
 Fn aB 33 ⟨2,[.B 0 0,.c (.s e)],[(1,.sl Y2 d.l')],[(0,.box (Xu 1 d) 66)],3,.t [],[(2,.sl Y2 r.l')],[(0,.box (Xu 2 r) 66)]⟩:=Yy func33 rfl fun E F w=>by
 unfold Wg at h;refine wO J 4 h fun f g h=>Yl (W5 N d e _ g) [] [(0,.bp 0 0),(1,.sl 1)] ?_;refine Yv J 2 h (fun h=>oi h▸wr J 2 func33 [(2,.sl 2)]) fun h=>?_;refine wO J 3 h fun i j h=>Yl (Pm N f.2 3 _ j) [] [(0,.bp 0 0),(1,.sl 2)] ?_;exact oi h▸wr J 1 func33 [(2,.sl 3)]
theorem ZwO (d:be) (r:Bool) (h:Gt N d=some r) :
 Fn aB 85 ⟨0,[.c (.s d)],[],[],0,.O r,[],[]⟩:=Yy func85 rfl fun E F w=>by
 unfold Gt at h;refine wB J 10 h (fun h=>oi h▸wr J 16 func85 []) fun h=>?_;refine wB J 5 h (fun h=>oi h▸wr J 11 func85 []) fun h=>?_;refine wO J 1 h fun e f h=>Wx J f ?_;have ⟨g,i,h⟩:=ob h;refine Yl (ZgQ N e _ i) [] [] ?_;refine wB J 3 h (fun h=>oi h▸wr J 5 func85 []) fun h=>wa J 9 (YE (σ:=Unit) (fun st=>(UN [])) (fun st=>ZdD=some r) ?_ (fun j1=>?_))
 ·intro _ h;unfold ZdD at h;exact oi h▸wr J 4 func85 []
 refine wa J 1 (YO (σ:=Int) (fun st=>(UN [(0,.c (.s d)),(18,.I (d.size:Int)),(19,.I st)])) (fun n st=>Pp N d n st) (r:=r) (fun _=>rfl) ?_ (fun ih=>?_))
 ·intro n2 ih3;intro j h;unfold Pp at h;refine Yv J 5 h (fun h=>wa J 2 (Yi [] (j1 () h))) fun h=>?_;refine wO J 13 h fun k l h=>Wx J l ?_;have ⟨m,o,h⟩:=ob h;refine Yl (Zha N k _ o) [] [] ?_;exact wB J 2 h (fun h=>oi h▸wr J 5 func85 []) fun h=>wa J 7 (Yi [] (ih3 (Yh (j+1)) h))
 exact Yi [] (ih N 0 h)
theorem Zmy (d:(List be)) (e:be) (r:Int) (h:TK N d e=some r) :
 Fn aB 141 ⟨1,[.S 0,.c (.s e)],[(0,.sl rS d)],[],1,.I r,[],[]⟩:=Yy func141 rfl fun E F w=>by
 unfold TK at h;refine wa J 11 (YE (σ:=Unit) (fun st=>(GB d [])) (fun st=>HS=some r) ?_ (fun j1=>?_))
 ·intro _ h;unfold HS at h;exact oi h▸wr J 4 func141 []
 refine wa J 1 (YO (σ:=Int) (fun st=>(GB d [(0,.S 0),(1,.c (.s e)),(7,.I (d.length:Int)),(8,.I st)])) (fun n st=>Ta d e n st) (r:=r) (fun _=>rfl) ?_ (fun ih=>?_))
 ·intro n2 ih3;intro f h;unfold Ta at h;refine Yv J 5 h (fun h=>wa J 2 (Yi [] (j1 () h))) fun h=>?_;refine wO J 14 h fun g i h=>YK J oS i ?_;exact wB J 3 h (fun h=>oi h▸wr J 6 func141 []) fun h=>wa J 7 (Yi [] (ih3 (Yh (f+1)) h))
 exact Yi [] (ih N 0 h)
theorem Po (d:(List be)) (e:be) (r:Bool) (h:VW N d e=some r) :
 Fn aB 83 ⟨1,[.S 0,.c (.s e)],[(0,.sl rS d)],[],1,.O r,[],[]⟩:=Yy func83 rfl fun E F w=>by
 unfold VW at h;refine wO J 8 h fun f g h=>Yl (Zmy N d e _ g) [] [(0,.sl 0)] ?_;exact oi h▸wr J 3 func83 []
theorem Ss (d:be) (r:Bool) (h:Vs N d=some r) :
 Fn aB 39 ⟨0,[.c (.s d)],[],[],0,.O r,[],[]⟩:=Yy func39 rfl fun E F w=>by
 unfold Vs at h;refine wO J 13 h fun e f h=>Yl (ZwO N d _ f) [] [] ?_;refine Yv J 1 h (fun h=>oi h▸wr J 7 func39 []) fun h=>eSb [] oS ([(str [97,103,97,105,110]),(str [97,110,100]),(str [97,115]),(str [97,116]),(str [99,97,108,108]),(str [99,104,111,105,99,101]),(str [101,108,115,101]),(str [102,114,111,109]),(str [105,102]),(str [105,110,116]),(str [108,101,110]),(str [108,111,111,112]),(str [109,101,115,115,97,103,101]),(str [111,102]),(str [111,102,102,101,114]),(str [111,110]),(str [111,114]),(str [112,97,114]),(str [112,108,97,121,115]),(str [112,114,111,116,111,99,111,108]),(str [115,101,114,118,105,99,101]),(str [116,101,120,116]),(str [116,105,109,101,115]),(str [116,111]),(str [118,97,114]),(str [119,104,101,114,101]),(str [119,104,105,108,101]),(str [119,105,116,104,105,110])]:List be) ?_;refine wO J 1 h fun g i h=>Ws (Po N ([(str [97,103,97,105,110]),(str [97,110,100]),(str [97,115]),(str [97,116]),(str [99,97,108,108]),(str [99,104,111,105,99,101]),(str [101,108,115,101]),(str [102,114,111,109]),(str [105,102]),(str [105,110,116]),(str [108,101,110]),(str [108,111,111,112]),(str [109,101,115,115,97,103,101]),(str [111,102]),(str [111,102,102,101,114]),(str [111,110]),(str [111,114]),(str [112,97,114]),(str [112,108,97,121,115]),(str [112,114,111,116,111,99,111,108]),(str [115,101,114,118,105,99,101]),(str [116,101,120,116]),(str [116,105,109,101,115]),(str [116,111]),(str [118,97,114]),(str [119,104,101,114,101]),(str [119,104,105,108,101]),(str [119,105,116,104,105,110])]:List be) d _ i) [] [(0,.sl 1)] [1] (.inr ⟨rfl,trivial⟩) ?_;exact oi h▸wr J 4 func39 []
theorem Rg (d:Yw) (r:be × Yw) (h:TO N d=some r) :
 Fn aB 34 ⟨2,[.B 0 0],[(1,.sl Y2 d.l')],[(0,.box (Xu 1 d) 66)],3,.c (.s r.1),[(2,.sl Y2 r.2.l')],[(0,.box (Xu 2 r.2) 66)]⟩:=Yy func34 rfl fun E F w=>by
 unfold TO at h;refine wO J 7 h fun e f h=>Yl (M9 N d _ f) [] [(0,.bp 0 0),(1,.sl 1)] ?_;refine wB J 10 h (fun h=>?_) fun h=>?_
 ·refine wO J 10 h fun g i h=>Yl (Pm N d 3 _ i) [] [(0,.bp 0 0),(1,.sl 1)] ?_;exact oi h▸wr J 5 func34 [(2,.sl 3)]
 refine wO J 2 h fun j k h=>Yl (Ss N e.ZH _ k) [] [] ?_;refine Yv J 3 h (fun h=>oi h▸wr J 19 func34 [(2,.sl 1)]) fun h=>?_;refine wO J 4 h fun l m h=>Yl (Pm N d 3 _ m) [] [(0,.bp 0 0),(1,.sl 1)] ?_;exact oi h▸wr J 5 func34 [(2,.sl 3)]
theorem ZgW (c:Yw) (r:(List be) × Yw) (h:Bu N c=some r) :
 Fn aB 35 ⟨2,[.B 0 0],[(1,.sl Y2 c.l')],[(0,.box (Xu 1 c) 66)],4,.S 2,[(3,.sl Y2 r.2.l')],[(2,.own rS r.1 true),(0,.box (Xu 3 r.2) 66)]⟩:=Yy func35 rfl fun E F w=>by
 unfold Bu at h;refine wO J 7 h fun d e h=>Yl (Rg N c _ e) [] [(0,.bp 0 0),(1,.sl 1)] (YX J [] oS ([d.1]:List be) (wa J 3 (YE (σ:=(List YN) × Int × Int × Int × Int × (List be)) (fun st=>⟨[(3,.S 5)],[(0,.box [.sl 4,.I st.2.1,.I st.2.2.1,.I st.2.2.2.1,.I st.2.2.2.2.1] 66),(5,.own rS st.2.2.2.2.2 true)],[(1,.sl Y2 c.l'),(4,.sl Y2 st.1)],6⟩) (fun st=>ZgX st.1 st.2.1 st.2.2.1 st.2.2.2.1 st.2.2.2.2.1 st.2.2.2.2.2=some r) ?_ (fun j1=>?_))))
 ·rintro ⟨f,g,i,j,k,l⟩ h;unfold ZgX at h;exact oi h▸wr J 5 func35 [(2,.sl 5),(3,.sl 4)]
 refine wa J 1 (YO (σ:=(List YN) × Int × Int × Int × Int × (List be)) (fun st=>⟨[(0,.B 0 0),(3,.S 5)],[(0,.box [.sl 4,.I st.2.1,.I st.2.2.1,.I st.2.2.2.1,.I st.2.2.2.2.1] 66),(5,.own rS st.2.2.2.2.2 true)],[(1,.sl Y2 c.l'),(4,.sl Y2 st.1)],6⟩) (fun n st=>Zc4 N n st.1 st.2.1 st.2.2.1 st.2.2.2.1 st.2.2.2.2.1 st.2.2.2.2.2) (r:=r) (fun _=>rfl) ?_ (fun ih=>?_))
 ·intro n2 ih3;rintro ⟨m,o,p,q,s,t⟩ h;unfold Zc4 at h;refine wO J 4 h fun u v h=>Yl (W5 N (⟨m,o,p,q,s⟩:Yw) (str [44]) _ v) [] [(0,.bp 0 0),(1,.sl 4)] ?_;refine Yv J 1 h (fun h=>wa J 2 (Yi [(4,.sl 6)] (j1 (u.2.l',u.2.n',u.2.end',u.2.ZI,u.2.ZJ,t) h))) fun h=>?_;refine wO J 6 h fun x y h=>Yl (Rg N u.2 _ y) [] [(0,.bp 0 0),(1,.sl 6)] (YX J [] oS ([x.1]:List be) ?_);have ⟨z,A,h⟩:=ob h;exact Xv J rS A (wa J 3 (Yi [(4,.sl 7),(5,.sl 9)] (ih3 (x.2.l',x.2.n',x.2.end',x.2.ZI,x.2.ZJ,z) h)))
 exact Yi [(4,.sl 2),(5,.sl 3)] (ih N (d.2.l',d.2.n',d.2.end',d.2.ZI,d.2.ZJ,([d.1]:List be)) h)
theorem Gs (d:Yw) (r:be × Yw) (h:Pn N d=some r) :
 Fn aB 80 ⟨2,[.B 0 0],[(1,.sl Y2 d.l')],[(0,.box (Xu 1 d) 66)],3,.c (.s r.1),[(2,.sl Y2 r.2.l')],[(0,.box (Xu 2 r.2) 66)]⟩:=Yy func80 rfl fun E F w=>by
 unfold Pn at h;refine wO J 7 h fun e f h=>Yl (Rg N d _ f) [] [(0,.bp 0 0),(1,.sl 1)] (wa J 3 (YE (σ:=(List YN) × Int × Int × Int × Int × be) (fun st=>⟨[(3,.c (.s st.2.2.2.2.2))],[(0,.box [.sl 3,.I st.2.1,.I st.2.2.1,.I st.2.2.2.1,.I st.2.2.2.2.1] 66)],[(1,.sl Y2 d.l'),(3,.sl Y2 st.1)],4⟩) (fun st=>Zhb st.1 st.2.1 st.2.2.1 st.2.2.2.1 st.2.2.2.2.1 st.2.2.2.2.2=some r) ?_ (fun j1=>?_)))
 ·rintro ⟨g,i,j,k,l,m⟩ h;unfold Zhb at h;exact oi h▸wr J 5 func80 [(2,.sl 3)]
 refine wa J 1 (YO (σ:=(List YN) × Int × Int × Int × Int × be) (fun st=>⟨[(0,.B 0 0),(3,.c (.s st.2.2.2.2.2))],[(0,.box [.sl 3,.I st.2.1,.I st.2.2.1,.I st.2.2.2.1,.I st.2.2.2.2.1] 66)],[(1,.sl Y2 d.l'),(3,.sl Y2 st.1)],4⟩) (fun n st=>Zdy N n st.1 st.2.1 st.2.2.1 st.2.2.2.1 st.2.2.2.2.1 st.2.2.2.2.2) (r:=r) (fun _=>rfl) ?_ (fun ih=>?_))
 ·intro n2 ih3;rintro ⟨o,p,q,t,u,v⟩ h;unfold Zdy at h;refine wO J 4 h fun x y h=>Yl (W5 N (⟨o,p,q,t,u⟩:Yw) (str [46]) _ y) [] [(0,.bp 0 0),(1,.sl 3)] ?_;refine Yv J 1 h (fun h=>wa J 2 (Yi [(3,.sl 4)] (j1 (x.2.l',x.2.n',x.2.end',x.2.ZI,x.2.ZJ,v) h))) fun h=>?_;refine wO J 6 h fun z A h=>Yl (Rg N x.2 _ A) [] [(0,.bp 0 0),(1,.sl 4)] ?_;have ⟨C,D,h⟩:=ob h;refine Wk D ?_;have ⟨G,H,h⟩:=ob h;exact Wk H (wa J 3 (Yi [(3,.sl 5)] (ih3 (z.2.l',z.2.n',z.2.end',z.2.ZI,z.2.ZJ,G) h)))
 exact Yi [(3,.sl 2)] (ih N (e.2.l',e.2.n',e.2.end',e.2.ZI,e.2.ZJ,e.1) h)
theorem Ra (c:Yw) (r:Int × Yw) (h:TJ N c=some r) :
 Fn aB 139 ⟨2,[.B 0 0],[(1,.sl Y2 c.l')],[(0,.box (Xu 1 c) 66)],3,.I r.1,[(2,.sl Y2 r.2.l')],[(0,.box (Xu 2 r.2) 66)]⟩:=Yy func139 rfl fun E F w=>by
 unfold TJ at h;refine wO J 7 h fun d e h=>Yl (M9 N c _ e) [] [(0,.bp 0 0),(1,.sl 1)] ?_;refine Yv J 10 h (fun h=>oi h▸wr J 19 func139 [(2,.sl 1)]) fun h=>?_;refine wO J 4 h fun f g h=>Yl (Pm N c 3 _ g) [] [(0,.bp 0 0),(1,.sl 1)] ?_;exact oi h▸wr J 5 func139 [(2,.sl 3)]
theorem Zcj (c:Yw) (r:Int × Yw) (h:HQ N c=some r) :
 Fn aB 138 ⟨2,[.B 0 0],[(1,.sl Y2 c.l')],[(0,.box (Xu 1 c) 66)],3,.I r.1,[(2,.sl Y2 r.2.l')],[(0,.box (Xu 2 r.2) 66)]⟩:=Yy func138 rfl fun E F w=>by
 unfold HQ at h;refine wO J 8 h fun d e h=>Yl (W5 N c (str [45]) _ e) [] [(0,.bp 0 0),(1,.sl 1)] ?_;refine wB J 1 h (fun h=>?_) fun h=>?_
 ·refine wO J 4 h fun f g h=>Yl (Ra N d.2 _ g) [] [(0,.bp 0 0),(1,.sl 2)] ?_;exact oi h▸wr J 3 func138 [(2,.sl 3)]
 refine wO J 5 h fun i j h=>Yl (Ra N d.2 _ j) [] [(0,.bp 0 0),(1,.sl 2)] ?_;exact oi h▸wr J 2 func138 [(2,.sl 3)]
theorem ZmO (c:Yw) (r:T3 × Yw) (h:z81 N c=some r) :
 Fn aB 81 ⟨2,[.B 0 0],[(1,.sl Y2 c.l')],[(0,.box (Xu 1 c) 66)],3,.a (VZ r.1),[(2,.sl Y2 r.2.l')],[(0,.box (Xu 2 r.2) 66)]⟩:=Yy func81 rfl fun E F w=>by
 unfold z81 at h;refine wO J 7 h fun d e h=>Yl (Rg N c _ e) [] [(0,.bp 0 0),(1,.sl 1)] ?_;refine wO J 7 h fun f g h=>Yl (Wl N d.2 (str [58]) _ g) [] [(0,.bp 0 0),(1,.sl 3)] ?_;refine wO J 17 h fun i j h=>Yl (W5 N f (str [105,110,116]) _ j) [] [(0,.bp 0 0),(1,.sl 5)] ?_;refine Yv J 2 h (fun h=>?_) fun h=>?_
 ·refine wO J 5 h fun k l h=>Yl (Zcj N i.2 _ l) [] [(0,.bp 0 0),(1,.sl 6)] ?_;refine wO J 7 h fun m o h=>Yl (Wl N k.2 (str [46,46]) _ o) [] [(0,.bp 0 0),(1,.sl 7)] ?_;refine wO J 4 h fun p q h=>Yl (Zcj N m _ q) [] [(0,.bp 0 0),(1,.sl 8)] ?_;exact oi h▸wr J 9 func81 [(2,.sl 9)]
 refine wO J 4 h fun s t h=>Yl (Wl N i.2 (str [116,101,120,116]) _ t) [] [(0,.bp 0 0),(1,.sl 6)] ?_;refine wO J 15 h fun u v h=>Yl (Ra N s _ v) [] [(0,.bp 0 0),(1,.sl 7)] ?_;refine wO J 7 h fun x y h=>Yl (Wl N u.2 (str [46,46]) _ y) [] [(0,.bp 0 0),(1,.sl 8)] ?_;refine wO J 4 h fun z A h=>Yl (Ra N x _ A) [] [(0,.bp 0 0),(1,.sl 9)] ?_;exact oi h▸wr J 9 func81 [(2,.sl 10)]
theorem ZvW (d:be) (e:Int) (r:Int) (h:ZgH N d e=some r) :
 Fn aB 209 ⟨0,[.c (.s d),.c (.i .u8 e)],[],[],0,.I r,[],[]⟩:=Yy func209 rfl fun E F w=>by
 unfold ZgH at h;refine wa J 12 (YE (σ:=Unit) (fun st=>(UN [])) (fun st=>ZgI=some r) ?_ (fun j1=>?_))
 ·intro _ h;unfold ZgI at h;exact oi h▸wr J 4 func209 []
 refine wa J 1 (YO (σ:=Int) (fun st=>(UN [(0,.c (.s d)),(1,.c (.i .u8 e)),(5,.I st)])) (fun n st=>ZcR d e n st) (r:=r) (fun _=>rfl) ?_ (fun ih=>?_))
 ·intro n2 ih3;intro f h;unfold ZcR at h;refine Yv J 6 h (fun h=>wa J 2 (Yi [] (j1 () h))) fun h=>?_;refine wO J 8 h fun g j h=>Wx J j ?_;exact wB J 3 h (fun h=>oi h▸wr J 6 func209 []) fun h=>wa J 8 (Yi [] (ih3 (Yh (f-1)) h))
 exact Yi [] (ih N (Yh ((d.size:Int)-1)) h)
theorem ZvO (d:be) (e:Int) (r:Int) (h:ZgC N d e=some r) :
 Fn aB 174 ⟨0,[.c (.s d),.c (.i .u8 e)],[],[],0,.I r,[],[]⟩:=Yy func174 rfl fun E F w=>by
 unfold ZgC at h;refine wO J 8 h fun f g h=>Yl (ZvW N d e _ g) [] [] ?_;exact oi h▸wr J 2 func174 []
theorem Zcl (d:Yw) (r:Y5 × Yw) (h:HR N d=some r) :
 Fn aB 140 ⟨2,[.B 0 0],[(1,.sl Y2 d.l')],[(0,.box (Xu 1 d) 66)],3,.a (X2 r.1),[(2,.sl Y2 r.2.l')],[(0,.box (Xu 2 r.2) 66)]⟩:=Yy func140 rfl fun E F w=>by
 unfold HR at h;refine wO J 8 h fun e f h=>Yl (ZmN N d (str [45]) _ f) [] [(0,.bp 0 0),(1,.sl 1)] ?_;refine wB J 1 h (fun h=>?_) fun h=>?_
 ·refine wO J 10 h fun g i h=>Yl (Zcj N d _ i) [] [(0,.bp 0 0),(1,.sl 1)] ?_;exact oi h▸wr J 3 func140 [(2,.sl 3)]
 refine wO J 1 h fun j k h=>Yl (M9 N d _ k) [] [(0,.bp 0 0),(1,.sl 1)] ?_;refine wB J 4 h (fun h=>?_) fun h=>?_
 ·refine wO J 4 h fun l m h=>Yl (Zcj N d _ m) [] [(0,.bp 0 0),(1,.sl 1)] ?_;exact oi h▸wr J 3 func140 [(2,.sl 3)]
 refine wO J 16 h fun o p h=>Yl (W5 N d (str [108,101,110]) _ p) [] [(0,.bp 0 0),(1,.sl 1)] (wa J 1 (YE (σ:=(List YN) × Int × Int × Int × Int × Int × be) (fun st=>⟨[(0,.B 0 0),(2,.B 2 0),(3,.B 3 0),(4,.c (.s st.2.2.2.2.2.2))],[(0,.box [.sl 5,.I st.2.1,.I st.2.2.1,.I st.2.2.2.1,.I st.2.2.2.2.1] 66),(2,.box [.I 0,.s (str []),.s (str []),.I 0] 102),(3,.box [.I st.2.2.2.2.2.1,.s (str []),.s (str []),.I 0] 102)],[(1,.sl Y2 d.l'),(5,.sl Y2 st.1)],6⟩) (fun st=>Zcn N st.1 st.2.1 st.2.2.1 st.2.2.2.1 st.2.2.2.2.1 st.2.2.2.2.2.1 st.2.2.2.2.2.2=some r) ?_ (fun j1=>?_)))
 ·rintro ⟨q,t,u,v,x,y,z⟩ h;unfold Zcn at h;refine wO J 10 h fun A C h=>Yl (ZvO N z 46 _ C) [] [] (wa J 7 (YE (σ:=be × be) (fun st=>⟨[(0,.B 0 0),(2,.B 2 0),(3,.B 3 0)],[(0,.box [.sl 5,.I t,.I u,.I v,.I x] 66),(2,.box [.I 0,.s (str []),.s (str []),.I 0] 102),(3,.box [.I y,.s st.1,.s st.2,.I 0] 102)],[(1,.sl Y2 d.l'),(5,.sl Y2 q)],6⟩) (fun st=>Zcm N q t u v x y st.1 st.2=some r) ?_ (fun j2=>?_)))
  ·rintro ⟨D,G⟩ h;unfold Zcm at h;refine wO J 4 h fun H R h=>Yl (W5 N (⟨q,t,u,v,x⟩:Yw) (str [43]) _ R) [] [(0,.bp 0 0),(1,.sl 5)] ?_;refine wB J 1 h (fun h=>?_) fun h=>?_
   ·refine wO J 3 h fun T U h=>Yl (Ra N H.2 _ U) [] [(0,.bp 0 0),(1,.sl 6)] ?_;exact oi h▸wr J 8 func140 [(2,.sl 7)]
   refine wO J 4 h fun X Y h=>Yl (W5 N H.2 (str [45]) _ Y) [] [(0,.bp 0 0),(1,.sl 6)] ?_;refine Yv J 1 h (fun h=>oi h▸wr J 7 func140 [(2,.sl 7)]) fun h=>?_;refine wO J 3 h fun Z a0 h=>Yl (Ra N X.2 _ a0) [] [(0,.bp 0 0),(1,.sl 7)] ?_;exact oi h▸wr J 9 func140 [(2,.sl 8)]
  refine Wj h (fun h=>wa J 2 (Yi [] (j2 ((str []),z) h))) fun h=>?_;refine wO J 4 h fun b0 c0 h=>Uo J c0 ?_;exact wO J 3 h fun e0 g0 h=>Uo J g0 (wa J 4 (YJ (Yi [] (j2 (b0,e0) h))))
 refine Wj h (fun h=>?_) fun h=>?_
 ·exact wO J 3 h fun i0 j0 h=>Yl (Gs N o.2 _ j0) [] [(0,.bp 0 0),(1,.sl 4)] (wa J 2 (Yi [] (j1 (i0.2.l',i0.2.n',i0.2.end',i0.2.ZI,i0.2.ZJ,2,i0.1) h)))
 refine wO J 9 h fun k0 l0 h=>Yl (Wl N o.2 (str [40]) _ l0) [] [(0,.bp 0 0),(1,.sl 4)] ?_;refine wO J 4 h fun m0 o0 h=>Yl (Gs N k0 _ o0) [] [(0,.bp 0 0),(1,.sl 5)] ?_;exact wO J 4 h fun p0 q0 h=>Yl (Wl N m0.2 (str [41]) _ q0) [] [(0,.bp 0 0),(1,.sl 6)] (wa J 1 (Yi [(5,.sl 7)] (j1 (p0.l',p0.n',p0.end',p0.ZI,p0.ZJ,3,m0.1) h)))
theorem ZmS (r:(List be)) (h:Gv N=some r) :
 Fn aB 91 ⟨0,[],[],[],1,.S 0,[],[(0,.own rS r true)]⟩:=Yy func91 rfl fun E F w=>by
 unfold Gv at h;refine wa J 6 (YX J [] oS ([(str [60]),(str [60,61]),(str [61,61]),(str [62,61]),(str [62])]:List be) ?_);exact oi h▸wr J 2 func91 [(0,.sl 0)]
theorem ZmP (c:Yw) (r:Xw × Yw) (h:z82 N c=some r) :
 Fn aB 82 ⟨2,[.B 0 0],[(1,.sl Y2 c.l')],[(0,.box (Xu 1 c) 66)],3,.a [.I r.1.Zx.Zt,.s r.1.Zx.Zw,.s r.1.Zx.Field,.I r.1.Zx.N,.s r.1.Op,.I r.1.Zy.Zt,.s r.1.Zy.Zw,.s r.1.Zy.Field,.I r.1.Zy.N],[(2,.sl Y2 r.2.l')],[(0,.box (Xu 2 r.2) 66)]⟩:=Yy func82 rfl fun E F w=>by
 unfold z82 at h;refine wO J 7 h fun d e h=>Yl (Zcl N c _ e) [] [(0,.bp 0 0),(1,.sl 1)] ?_;refine wO J 8 h fun f g h=>Yl (M9 N d.2 _ g) [] [(0,.bp 0 0),(1,.sl 3)] ?_;refine Yv J 9 h (fun h=>wa J 5 (YJ ?_)) fun h=>?_
 ·refine wO J 3 h fun i j h=>Yl (Pm N d.2 3 _ j) [] [(0,.bp 0 0),(1,.sl 3)] ?_;refine wO J 4 h fun k l h=>Yl (Zcl N i _ l) [] [(0,.bp 0 0),(1,.sl 6)] ?_;exact oi h▸wr J 8 func82 [(2,.sl 7)]
 have ⟨m,o,h⟩:=ob h;refine Yl (ZmS N _ o) [] [] ?_;refine wO J 2 h fun p q h=>Ws (Po N m f.ZH _ q) [] [(0,.sl 6)] [6] (.inr ⟨rfl,trivial⟩) (wa J 1 (YJ ?_));refine eB h (fun h=>?_) fun h=>?_
 ·refine wO J 21 h fun t u h=>Yl (Zcl N (⟨d.2.l',(Yh (d.2.n'+1)),d.2.end',d.2.ZI,d.2.ZJ⟩:Yw) _ u) [] [(0,.bp 0 0),(1,.sl 3)] ?_;exact oi h▸wr J 8 func82 [(2,.sl 7)]
 refine wO J 3 h fun v x h=>Yl (Pm N d.2 3 _ x) [] [(0,.bp 0 0),(1,.sl 3)] ?_;refine wO J 4 h fun y z h=>Yl (Zcl N v _ z) [] [(0,.bp 0 0),(1,.sl 7)] ?_;exact oi h▸wr J 8 func82 [(2,.sl 8)]
theorem Zwb (c:Yw) (r:Ys × Yw) (h:z37 N c=some r) :
 Fn aB 37 ⟨2,[.B 0 0],[(1,.sl Y2 c.l')],[(0,.box (Xu 1 c) 66)],5,.a [.s r.1.Zu,.sl 2,.sl 3],(XU 2 3 r.1 [(4,.sl Y2 r.2.l')]),[(0,.box (Xu 4 r.2) 66)]⟩:=Yy func37 rfl fun E F w=>by
 unfold z37 at h;refine wO J 7 h fun d e h=>Yl (Gs N c _ e) [] [(0,.bp 0 0),(1,.sl 1)] ?_;refine wO J 7 h fun f g h=>Yl (Wl N d.2 (str [40]) _ g) [] [(0,.bp 0 0),(1,.sl 3)] ?_;refine wO J 5 h fun i j h=>Yl (W5 N f (str [41]) _ j) [] [(0,.bp 0 0),(1,.sl 5)] (wa J 2 (YE (σ:=(List YN) × Int × Int × Int × Int × (List T3)) (fun st=>⟨[(0,.B 0 0),(2,.B 2 0),(3,.B 4 0)],[(0,.box [.sl 7,.I st.2.1,.I st.2.2.1,.I st.2.2.2.1,.I st.2.2.2.2.1] 66),(2,.box [.s (str []),.nil,.nil] 97),(4,.box [.s d.1,.sl 8,.nil] 97),(8,.own XJ st.2.2.2.2.2 true)],[(1,.sl Y2 c.l'),(7,.sl Y2 st.1)],9⟩) (fun st=>Zc5 N d st.1 st.2.1 st.2.2.1 st.2.2.2.1 st.2.2.2.2.1 st.2.2.2.2.2=some r) ?_ (fun j1=>?_)))
 ·rintro ⟨k,l,m,o,p,q⟩ h;unfold Zc5 at h;refine wO J 4 h fun t u h=>Yl (W5 N (⟨k,l,m,o,p⟩:Yw) (str [119,104,101,114,101]) _ u) [] [(0,.bp 0 0),(1,.sl 7)] ?_;refine Yv J 1 h (fun h=>?_) fun h=>?_
  ·refine wO J 5 h fun v x h=>Yl (Wl N t.2 (str [59]) _ x) [] [(0,.bp 0 0),(1,.sl 9)] (wa J 6 (Vn [8] ?_));cases h;exact Xh J func37 [(2,.sl 8),(3,.nil),(4,.sl 10)]
  refine wO J 6 h fun y z h=>Yl (ZmP N t.2 _ z) [] [(0,.bp 0 0),(1,.sl 9)] (YX J [] PZ ([y.1]:List Xw) ?_);have ⟨A,C,h⟩:=ob h;refine eAn J Sk C (wa J 2 (YJ (YE (σ:=(List YN) × Int × Int × Int × Int × (List Xw)) (fun st=>(Zm0 st.2.1 st.2.2.1 st.2.2.2.1 st.2.2.2.2.1 d.1 q st.2.2.2.2.2 c.l' st.1 [(0,.B 0 0),(2,.B 2 0),(3,.B 4 0)])) (fun st=>ZgY N d q st.1 st.2.1 st.2.2.1 st.2.2.2.1 st.2.2.2.2.1 st.2.2.2.2.2=some r) ?_ (fun j5=>?_))))
  ·rintro ⟨D,G,H,R,T,U⟩ h;unfold ZgY at h;refine wO J 3 h fun X Y h=>Yl (Wl N (⟨D,G,H,R,T⟩:Yw) (str [59]) _ Y) [] [(0,.bp 0 0),(1,.sl 13)] (wa J 6 (Vn [8] (Vn [14] ?_)));cases h;exact Xh J func37 [(2,.sl 8),(3,.sl 14),(4,.sl 15)]
  refine wa J 1 (YO (σ:=(List YN) × Int × Int × Int × Int × (List Xw)) (fun st=>(Zm0 st.2.1 st.2.2.1 st.2.2.2.1 st.2.2.2.2.1 d.1 q st.2.2.2.2.2 c.l' st.1 [(0,.B 0 0),(2,.B 2 0),(3,.B 4 0)])) (fun n st=>Zc6 N d q n st.1 st.2.1 st.2.2.1 st.2.2.2.1 st.2.2.2.2.1 st.2.2.2.2.2) (r:=r) (fun _=>rfl) ?_ (fun ih=>?_))
  ·intro n4 ih7;rintro ⟨Z,a0,b0,c0,e0,g0⟩ h;unfold Zc6 at h;refine wO J 4 h fun i0 j0 h=>Yl (W5 N (⟨Z,a0,b0,c0,e0⟩:Yw) (str [97,110,100]) _ j0) [] [(0,.bp 0 0),(1,.sl 13)] ?_;refine Yv J 1 h (fun h=>wa J 2 (Yi [(13,.sl 15)] (j5 (i0.2.l',i0.2.n',i0.2.end',i0.2.ZI,i0.2.ZJ,g0) h))) fun h=>?_;refine wO J 7 h fun k0 l0 h=>Yl (ZmP N i0.2 _ l0) [] [(0,.bp 0 0),(1,.sl 15)] (YX J [] PZ ([k0.1]:List Xw) ?_);have ⟨m0,o0,h⟩:=ob h;exact Xv J Sk o0 (wa J 2 (YJ (wa J 1 (Yi [(13,.sl 16),(14,.sl 18)] (ih7 (k0.2.l',k0.2.n',k0.2.end',k0.2.ZI,k0.2.ZJ,m0) h)))))
  exact Yi [(13,.sl 10),(14,.sl 12)] (ih N (y.2.l',y.2.n',y.2.end',y.2.ZI,y.2.ZJ,A) h)
 refine Wj h (fun h=>wa J 2 (Yi [(7,.sl 6),(8,.nil)] (j1 (i.2.l',i.2.n',i.2.end',i.2.ZI,i.2.ZJ,([]:List T3)) h))) fun h=>?_;refine wO J 6 h fun p0 q0 h=>Yl (ZmO N i.2 _ q0) [] [(0,.bp 0 0),(1,.sl 6)] (YX J [] Sh ([p0.1]:List T3) ?_);have ⟨s0,t0,h⟩:=ob h;refine eAn J XJ t0 (wa J 2 (YJ (wa J 1 (YE (σ:=(List YN) × Int × Int × Int × Int × (List T3)) (fun st=>(Zm1 st.2.1 st.2.2.1 st.2.2.2.1 st.2.2.2.2.1 d.1 st.2.2.2.2.2 c.l' st.1 [(0,.B 0 0),(2,.B 2 0),(3,.B 4 0)])) (fun st=>ZgZ N d st.1 st.2.1 st.2.2.1 st.2.2.2.1 st.2.2.2.2.1 st.2.2.2.2.2=some r) ?_ (fun j8=>?_)))))
 ·rintro ⟨u0,v0,x0,y0,z0,A0⟩ h;unfold ZgZ at h;exact wO J 2 h fun B0 C0 h=>Yl (Wl N (⟨u0,v0,x0,y0,z0⟩:Yw) (str [41]) _ C0) [] [(0,.bp 0 0),(1,.sl 10)] (wa J 1 (Yi [(7,.sl 12),(8,.sl 11)] (j1 (B0.l',B0.n',B0.end',B0.ZI,B0.ZJ,A0) h)))
 refine wa J 1 (YO (σ:=(List YN) × Int × Int × Int × Int × (List T3)) (fun st=>(Zm1 st.2.1 st.2.2.1 st.2.2.2.1 st.2.2.2.2.1 d.1 st.2.2.2.2.2 c.l' st.1 [(0,.B 0 0),(2,.B 2 0),(3,.B 4 0)])) (fun n st=>Zc7 N d n st.1 st.2.1 st.2.2.1 st.2.2.2.1 st.2.2.2.2.1 st.2.2.2.2.2) (r:=r) (fun _=>rfl) ?_ (fun ih=>?_))
 ·intro n6 ih10;rintro ⟨D0,G0,H0,I0,L0,M0⟩ h;unfold Zc7 at h;refine wO J 4 h fun O0 R0 h=>Yl (W5 N (⟨D0,G0,H0,I0,L0⟩:Yw) (str [44]) _ R0) [] [(0,.bp 0 0),(1,.sl 10)] ?_;refine Yv J 1 h (fun h=>wa J 2 (Yi [(10,.sl 12)] (j8 (O0.2.l',O0.2.n',O0.2.end',O0.2.ZI,O0.2.ZJ,M0) h))) fun h=>?_;refine wO J 7 h fun S0 U0 h=>Yl (ZmO N O0.2 _ U0) [] [(0,.bp 0 0),(1,.sl 12)] (YX J [] Sh ([S0.1]:List T3) ?_);have ⟨V0,X0,h⟩:=ob h;exact Xv J XJ X0 (wa J 2 (YJ (wa J 1 (Yi [(10,.sl 13),(11,.sl 15)] (ih10 (S0.2.l',S0.2.n',S0.2.end',S0.2.ZI,S0.2.ZJ,V0) h)))))
 exact Yi [(10,.sl 7),(11,.sl 9)] (ih N (p0.2.l',p0.2.n',p0.2.end',p0.2.ZI,p0.2.ZJ,s0) h)
theorem Mz (rc:Yw->Option ((List Yj) × Yw)) (rcT:(∀ (c:Yw) (r:(List Yj) × Yw),rc c=some r->Fn aB 38 ⟨2,[.B 0 0],[(1,.sl Y2 c.l')],[(0,.box (Xu 1 c) 66)],4,.S 2,[(3,.sl Y2 r.2.l')],[(2,.own Yz r.1 true),(0,.box (Xu 3 r.2) 66)]⟩)) (c:Yw) (r:(List Yj) × Yw) (h:Qf N rc c=some r) :
 Fn aB 143 ⟨2,[.B 0 0],[(1,.sl Y2 c.l')],[(0,.box (Xu 1 c) 66)],4,.S 2,[(3,.sl Y2 r.2.l')],[(2,.own Yz r.1 true),(0,.box (Xu 3 r.2) 66)]⟩:=Yy func143 rfl fun E F w=>by
 unfold Qf at h;refine wO J 7 h fun d e h=>Yl (Wl N c (str [123]) _ e) [] [(0,.bp 0 0),(1,.sl 1)] ?_;refine wO J 4 h fun f g h=>Yl (rcT d _ g) [] [(0,.bp 0 0),(1,.sl 2)] ?_;refine wO J 5 h fun i j h=>Yl (Wl N f.2 (str [125]) _ j) [] [(0,.bp 0 0),(1,.sl 4)] ?_;exact oi h▸wr J 6 func143 [(2,.sl 3),(3,.sl 5)]
theorem Zvq (rc:Yw->Option ((List Yj) × Yw)) (rcT:(∀ (c:Yw) (r:(List Yj) × Yw),rc c=some r->Fn aB 38 ⟨2,[.B 0 0],[(1,.sl Y2 c.l')],[(0,.box (Xu 1 c) 66)],4,.S 2,[(3,.sl Y2 r.2.l')],[(2,.own Yz r.1 true),(0,.box (Xu 3 r.2) 66)]⟩)) (c:Yw) (r:Yj × Yw) (h:Zgw N rc c=some r) :
 Fn aB 142 ⟨2,[.B 0 0],[(1,.sl Y2 c.l')],[(0,.box (Xu 1 c) 66)],5,.a [.I r.1.Zt,.s r.1.ZB,.sl 2,.s r.1.Zu,.s r.1.As,.I r.1.ZC,.sl 3],[(2,.sl rS r.1.To),(3,.sl (YH Yz) r.1.ZD),(4,.sl Y2 r.2.l')],[(0,.box (Xu 4 r.2) 66)]⟩:=Yy func142 rfl fun E F w=>by
 unfold Zgw at h;refine wO J 7 h fun d e h=>Yl (Wl N c (str [97,116]) _ e) [] [(0,.bp 0 0),(1,.sl 1)] ?_;refine wO J 4 h fun f g h=>Yl (Rg N d _ g) [] [(0,.bp 0 0),(1,.sl 3)] ?_;refine wO J 8 h fun i j h=>Yl (W5 N f.2 (str [119,105,116,104,105,110]) _ j) [] [(0,.bp 0 0),(1,.sl 4)] (wa J 1 (YE (σ:=(List YN) × Int × Int × Int × Int × Int) (fun st=>⟨[(0,.B 0 0),(2,.B 2 0),(3,.B 5 0)],[(0,.box [.sl 7,.I st.2.1,.I st.2.2.1,.I st.2.2.2.1,.I st.2.2.2.2.1] 66),(2,.box [.I 0,.s (str []),.nil,.s (str []),.s (str []),.I 0,.nil] 132),(5,.box [.I 2,.s f.1,.nil,.s (str []),.s (str []),.I st.2.2.2.2.2,.nil] 132)],[(1,.sl Y2 c.l'),(7,.sl Y2 st.1)],8⟩) (fun st=>My N rc f st.1 st.2.1 st.2.2.1 st.2.2.2.1 st.2.2.2.2.1 st.2.2.2.2.2=some r) ?_ (fun j1=>?_)))
 ·rintro ⟨k,l,m,o,p,q⟩ h;unfold My at h;refine wO J 3 h fun t u h=>Yl (Mz N rc rcT (⟨k,l,m,o,p⟩:Yw) _ u) [] [(0,.bp 0 0),(1,.sl 7)] (YX J [8] (Xi Yz) ([t.1]:List (List Yj)) (wa J 4 (YE (σ:=(List YN) × Int × Int × Int × Int × (List (List Yj))) (fun st=>(Zm2 st.2.1 st.2.2.1 st.2.2.2.1 st.2.2.2.2.1 f.1 q st.2.2.2.2.2 c.l' st.1 [(0,.B 0 0),(2,.B 2 0),(3,.B 5 0)])) (fun st=>Zgx N rc f q st.1 st.2.1 st.2.2.1 st.2.2.2.1 st.2.2.2.2.1 st.2.2.2.2.2=some r) ?_ (fun j2=>?_))))
  ·rintro ⟨v,x,y,z,A,C⟩ h;unfold Zgx at h;refine Yv J 7 h (fun h=>wa J 7 (Vn [12] ?_)) fun h=>?_
   ·cases h;exact Xh J func142 [(2,.nil),(3,.sl 12),(4,.sl 11)]
   refine wO J 4 h fun D G h=>Yl (Wl N (⟨v,x,y,z,A⟩:Yw) (str [101,108,115,101]) _ G) [] [(0,.bp 0 0),(1,.sl 11)] ?_;refine wO J 5 h fun H R h=>Yl (Mz N rc rcT D _ R) [] [(0,.bp 0 0),(1,.sl 13)] (YX J [14] (Xi Yz) ([H.1]:List (List Yj)) ?_);have ⟨T,U,h⟩:=ob h;refine Xv J (YH Yz) U (wa J 2 (YJ (wa J 5 (Vn [17] ?_))));cases h;exact Xh J func142 [(2,.nil),(3,.sl 17),(4,.sl 15)]
  refine wa J 1 (YO (σ:=(List YN) × Int × Int × Int × Int × (List (List Yj))) (fun st=>(Zm2 st.2.1 st.2.2.1 st.2.2.2.1 st.2.2.2.2.1 f.1 q st.2.2.2.2.2 c.l' st.1 [(0,.B 0 0),(2,.B 2 0),(3,.B 5 0)])) (fun n st=>Zco N rc f q n st.1 st.2.1 st.2.2.1 st.2.2.2.1 st.2.2.2.2.1 st.2.2.2.2.2) (r:=r) (fun _=>rfl) ?_ (fun ih=>?_))
  ·intro n2 ih4;rintro ⟨X,Y,Z,a0,b0,c0⟩ h;unfold Zco at h;refine wO J 4 h fun e0 g0 h=>Yl (W5 N (⟨X,Y,Z,a0,b0⟩:Yw) (str [111,114]) _ g0) [] [(0,.bp 0 0),(1,.sl 11)] ?_;refine Yv J 1 h (fun h=>wa J 2 (Yi [(11,.sl 13)] (j2 (e0.2.l',e0.2.n',e0.2.end',e0.2.ZI,e0.2.ZJ,c0) h))) fun h=>?_;refine wO J 7 h fun i0 j0 h=>Yl (Mz N rc rcT e0.2 _ j0) [] [(0,.bp 0 0),(1,.sl 13)] (YX J [14] (Xi Yz) ([i0.1]:List (List Yj)) ?_);have ⟨k0,l0,h⟩:=ob h;exact Xv J (YH Yz) l0 (wa J 2 (YJ (wa J 1 (Yi [(11,.sl 15),(12,.sl 17)] (ih4 (i0.2.l',i0.2.n',i0.2.end',i0.2.ZI,i0.2.ZJ,k0) h)))))
  exact Yi [(11,.sl 9),(12,.sl 10)] (ih N (t.2.l',t.2.n',t.2.end',t.2.ZI,t.2.ZJ,([t.1]:List (List Yj))) h)
 refine Wj h (fun h=>wa J 2 (Yi [(7,.sl 6)] (j1 (i.2.l',i.2.n',i.2.end',i.2.ZI,i.2.ZJ,0) h))) fun h=>?_;refine wO J 5 h fun m0 o0 h=>Yl (M9 N i.2 _ o0) [] [(0,.bp 0 0),(1,.sl 6)] ?_;refine Yv J 9 h (fun h=>?_) fun h=>?_
 ·exact wO J 14 h fun p0 q0 h=>Yl (Ra N i.2 _ q0) [] [(0,.bp 0 0),(1,.sl 6)] (wa J 3 (Yi [(7,.sl 8)] (j1 (p0.2.l',p0.2.n',p0.2.end',p0.2.ZI,p0.2.ZJ,p0.1) h)))
 refine wB J 4 h (fun h=>?_) fun h=>?_
 ·refine wO J 9 h fun s0 t0 h=>Yl (Pm N i.2 2 _ t0) [] [(0,.bp 0 0),(1,.sl 6)] ?_;exact wO J 3 h fun u0 v0 h=>Yl (Ra N s0 _ v0) [] [(0,.bp 0 0),(1,.sl 8)] (wa J 3 (Yi [(7,.sl 9)] (j1 (u0.2.l',u0.2.n',u0.2.end',u0.2.ZI,u0.2.ZJ,u0.1) h)))
 refine Yv J 6 h (fun h=>?_) fun h=>?_
 ·exact wO J 4 h fun x0 y0 h=>Yl (Ra N i.2 _ y0) [] [(0,.bp 0 0),(1,.sl 6)] (wa J 3 (Yi [(7,.sl 8)] (j1 (x0.2.l',x0.2.n',x0.2.end',x0.2.ZI,x0.2.ZJ,x0.1) h)))
 refine wO J 3 h fun z0 A0 h=>Yl (Pm N i.2 2 _ A0) [] [(0,.bp 0 0),(1,.sl 6)] ?_;exact wO J 3 h fun B0 C0 h=>Yl (Ra N z0 _ C0) [] [(0,.bp 0 0),(1,.sl 8)] (wa J 3 (Yi [(7,.sl 9)] (j1 (B0.2.l',B0.2.n',B0.2.end',B0.2.ZI,B0.2.ZJ,B0.1) h)))
theorem ZmQ (rc:Yw->Option ((List Yj) × Yw)) (rcT:(∀ (c:Yw) (r:(List Yj) × Yw),rc c=some r->Fn aB 38 ⟨2,[.B 0 0],[(1,.sl Y2 c.l')],[(0,.box (Xu 1 c) 66)],4,.S 2,[(3,.sl Y2 r.2.l')],[(2,.own Yz r.1 true),(0,.box (Xu 3 r.2) 66)]⟩)) (c:Yw) (r:Yj × Yw) (h:z84 N rc c=some r) :
 Fn aB 84 ⟨2,[.B 0 0],[(1,.sl Y2 c.l')],[(0,.box (Xu 1 c) 66)],5,.a [.I r.1.Zt,.s r.1.ZB,.sl 2,.s r.1.Zu,.s r.1.As,.I r.1.ZC,.sl 3],[(2,.sl rS r.1.To),(3,.sl (YH Yz) r.1.ZD),(4,.sl Y2 r.2.l')],[(0,.box (Xu 4 r.2) 66)]⟩:=Yy func84 rfl fun E F w=>by
 unfold z84 at h;refine wO J 9 h fun d e h=>Yl (W5 N c (str [99,104,111,105,99,101]) _ e) [] [(0,.bp 0 0),(1,.sl 1)] ?_;refine wB J 2 h (fun h=>?_) fun h=>?_
 ·refine wO J 4 h fun f g h=>Yl (Zvq N rc rcT d.2 _ g) [] [(0,.bp 0 0),(1,.sl 3)] ?_;exact oi h▸wr J 2 func84 [(2,.sl 4),(3,.sl 5),(4,.sl 6)]
 refine wO J 4 h fun i j h=>Yl (W5 N d.2 (str [108,111,111,112]) _ j) [] [(0,.bp 0 0),(1,.sl 3)] ?_;refine wB J 2 h (fun h=>?_) fun h=>?_
 ·refine wO J 4 h fun k l h=>Yl (Gs N i.2 _ l) [] [(0,.bp 0 0),(1,.sl 4)] ?_;refine wO J 7 h fun m o h=>Yl (Mz N rc rcT k.2 _ o) [] [(0,.bp 0 0),(1,.sl 5)] (YX J [7] (Xi Yz) ([m.1]:List (List Yj)) (wa J 8 (Vn [9] ?_)));cases h;exact Xh J func84 [(2,.nil),(3,.sl 9),(4,.sl 8)]
 refine wO J 4 h fun p q h=>Yl (W5 N i.2 (str [97,103,97,105,110]) _ q) [] [(0,.bp 0 0),(1,.sl 4)] ?_;refine wB J 2 h (fun h=>?_) fun h=>?_
 ·refine wO J 4 h fun t u h=>Yl (Gs N p.2 _ u) [] [(0,.bp 0 0),(1,.sl 5)] ?_;refine wO J 7 h fun v x h=>Yl (Wl N t.2 (str [59]) _ x) [] [(0,.bp 0 0),(1,.sl 6)] ?_;exact oi h▸wr J 6 func84 [(2,.nil),(3,.nil),(4,.sl 8)]
 refine wO J 4 h fun y z h=>Yl (W5 N p.2 (str [112,97,114]) _ z) [] [(0,.bp 0 0),(1,.sl 5)] ?_;refine Yv J 2 h (fun h=>?_) fun h=>?_
 ·refine wO J 4 h fun A C h=>Yl (W5 N y.2 (str [99,97,108,108]) _ C) [] [(0,.bp 0 0),(1,.sl 6)] ?_;refine Yv J 2 h (fun h=>?_) fun h=>?_
  ·refine wO J 6 h fun D G h=>Yl (Rg N A.2 _ G) [] [(0,.bp 0 0),(1,.sl 7)] ?_;refine wO J 7 h fun H R h=>Yl (Wl N D.2 (str [45,62]) _ R) [] [(0,.bp 0 0),(1,.sl 8)] ?_;refine wO J 4 h fun T U h=>Yl (ZgW N H _ U) [] [(0,.bp 0 0),(1,.sl 10)] ?_;refine wO J 6 h fun X Y h=>Yl (Wl N T.2 (str [58]) _ Y) [] [(0,.bp 0 0),(1,.sl 12)] ?_;refine wO J 4 h fun Z a0 h=>Yl (Gs N X _ a0) [] [(0,.bp 0 0),(1,.sl 13)] ?_;refine wO J 6 h fun b0 c0 h=>Yl (Wl N Z.2 (str [59]) _ c0) [] [(0,.bp 0 0),(1,.sl 14)] (wa J 6 (Vn [11] ?_));cases h;exact Xh J func84 [(2,.sl 11),(3,.nil),(4,.sl 15)]
  refine wO J 4 h fun e0 g0 h=>Yl (Rg N A.2 _ g0) [] [(0,.bp 0 0),(1,.sl 7)] ?_;refine wO J 7 h fun i0 j0 h=>Yl (Wl N e0.2 (str [40]) _ j0) [] [(0,.bp 0 0),(1,.sl 8)] ?_;refine wO J 4 h fun k0 l0 h=>Yl (ZgW N i0 _ l0) [] [(0,.bp 0 0),(1,.sl 10)] ?_;refine wO J 6 h fun m0 o0 h=>Yl (Wl N k0.2 (str [41]) _ o0) [] [(0,.bp 0 0),(1,.sl 12)] ?_;refine wO J 4 h fun p0 q0 h=>Yl (Wl N m0 (str [97,115]) _ q0) [] [(0,.bp 0 0),(1,.sl 13)] ?_;refine wO J 4 h fun s0 t0 h=>Yl (Rg N p0 _ t0) [] [(0,.bp 0 0),(1,.sl 14)] ?_;refine wO J 6 h fun u0 v0 h=>Yl (Wl N s0.2 (str [59]) _ v0) [] [(0,.bp 0 0),(1,.sl 15)] (wa J 6 (Vn [11] ?_));cases h;exact Xh J func84 [(2,.sl 11),(3,.nil),(4,.sl 16)]
 refine wO J 4 h fun x0 y0 h=>Yl (Mz N rc rcT y.2 _ y0) [] [(0,.bp 0 0),(1,.sl 6)] (YX J [7] (Xi Yz) ([x0.1]:List (List Yj)) ?_);refine wO J 7 h fun z0 A0 h=>Yl (Wl N x0.2 (str [97,110,100]) _ A0) [] [(0,.bp 0 0),(1,.sl 8)] ?_;refine wO J 6 h fun B0 C0 h=>Yl (Mz N rc rcT z0 _ C0) [] [(0,.bp 0 0),(1,.sl 11)] (YX J [12] (Xi Yz) ([B0.1]:List (List Yj)) ?_);have ⟨D0,G0,h⟩:=ob h;refine Xv J (YH Yz) G0 (wa J 2 (YJ (wa J 1 (YE (σ:=(List YN) × Int × Int × Int × Int × (List (List Yj))) (fun st=>(Zm3 st.2.1 st.2.2.1 st.2.2.2.1 st.2.2.2.2.1 st.2.2.2.2.2 c.l' st.1 [(2,.B 2 0),(5,.B 10 0)])) (fun st=>Zhc st.1 st.2.1 st.2.2.1 st.2.2.2.1 st.2.2.2.2.1 st.2.2.2.2.2=some r) ?_ (fun j1=>?_)))))
 ·rintro ⟨H0,I0,L0,M0,O0,R0⟩ h;unfold Zhc at h;refine wa J 5 (Vn [17] ?_);cases h;exact Xh J func84 [(2,.nil),(3,.sl 17),(4,.sl 16)]
 refine wa J 1 (YO (σ:=(List YN) × Int × Int × Int × Int × (List (List Yj))) (fun st=>(Zm3 st.2.1 st.2.2.1 st.2.2.2.1 st.2.2.2.2.1 st.2.2.2.2.2 c.l' st.1 [(0,.B 0 0),(2,.B 2 0),(5,.B 10 0)])) (fun n st=>ZdC N rc n st.1 st.2.1 st.2.2.1 st.2.2.2.1 st.2.2.2.2.1 st.2.2.2.2.2) (r:=r) (fun _=>rfl) ?_ (fun ih=>?_))
 ·intro n2 ih3;rintro ⟨S0,U0,V0,X0,Y0,Z0⟩ h;unfold ZdC at h;refine wO J 4 h fun a1 b1 h=>Yl (W5 N (⟨S0,U0,V0,X0,Y0⟩:Yw) (str [97,110,100]) _ b1) [] [(0,.bp 0 0),(1,.sl 16)] ?_;refine Yv J 1 h (fun h=>wa J 2 (Yi [(16,.sl 18)] (j1 (a1.2.l',a1.2.n',a1.2.end',a1.2.ZI,a1.2.ZJ,Z0) h))) fun h=>?_;refine wO J 7 h fun c1 e1 h=>Yl (Mz N rc rcT a1.2 _ e1) [] [(0,.bp 0 0),(1,.sl 18)] (YX J [19] (Xi Yz) ([c1.1]:List (List Yj)) ?_);have ⟨g1,i1,h⟩:=ob h;exact Xv J (YH Yz) i1 (wa J 2 (YJ (wa J 1 (Yi [(16,.sl 20),(17,.sl 22)] (ih3 (c1.2.l',c1.2.n',c1.2.end',c1.2.ZI,c1.2.ZJ,g1) h)))))
 exact Yi [(16,.sl 13),(17,.sl 15)] (ih N (B0.2.l',B0.2.n',B0.2.end',B0.2.ZI,B0.2.ZJ,D0) h)
theorem Zwc (rc:Yw->Option ((List Yj) × Yw)) (rcT:(∀ (c:Yw) (r:(List Yj) × Yw),rc c=some r->Fn aB 38 ⟨2,[.B 0 0],[(1,.sl Y2 c.l')],[(0,.box (Xu 1 c) 66)],4,.S 2,[(3,.sl Y2 r.2.l')],[(2,.own Yz r.1 true),(0,.box (Xu 3 r.2) 66)]⟩)) (c:Yw) (r:(List Yj) × Yw) (h:Zg0 N rc c=some r) :
 Fn aB 38 ⟨2,[.B 0 0],[(1,.sl Y2 c.l')],[(0,.box (Xu 1 c) 66)],4,.S 2,[(3,.sl Y2 r.2.l')],[(2,.own Yz r.1 true),(0,.box (Xu 3 r.2) 66)]⟩:=Yy func38 rfl fun E F w=>by
 unfold Zg0 at h;refine wa J 9 (YO (σ:=(List YN) × Int × Int × Int × Int × (List Yj)) (fun st=>⟨[(0,.B 0 0),(3,.S 3)],[(0,.box [.sl 2,.I st.2.1,.I st.2.2.1,.I st.2.2.2.1,.I st.2.2.2.2.1] 66),(3,.own Yz st.2.2.2.2.2 true)],[(1,.sl Y2 c.l'),(2,.sl Y2 st.1)],4⟩) (fun n st=>Bv N rc n st.1 st.2.1 st.2.2.1 st.2.2.2.1 st.2.2.2.2.1 st.2.2.2.2.2) (r:=r) (fun _=>rfl) ?_ (fun ih=>?_))
 ·intro n1 ih1;rintro ⟨d,e,f,g,i,j⟩ h;unfold Bv at h;refine wO J 4 h fun k l h=>Yl (M9 N (⟨d,e,f,g,i⟩:Yw) _ l) [] [(0,.bp 0 0),(1,.sl 2)] ?_;refine wB J 10 h (fun h=>oi h▸wr J 19 func38 [(2,.sl 3),(3,.sl 2)]) fun h=>?_;refine wO J 2 h fun m o h=>Yl (Ss N k.ZH _ o) [] [] ?_;refine Yv J 2 h (fun h=>?_) fun h=>YX J [] oS ([(str [99,104,111,105,99,101]),(str [108,111,111,112]),(str [97,103,97,105,110]),(str [112,97,114]),(str [99,97,108,108])]:List be) ?_
  ·refine wO J 13 h fun p q h=>Yl (ZmQ N rc rcT (⟨d,e,f,g,i⟩:Yw) _ q) [] [(0,.bp 0 0),(1,.sl 2)] (YX J [] RX ([p.1]:List Yj) ?_);have ⟨s,t,h⟩:=ob h;exact Xv J Yz t (wa J 3 (Yi [(2,.sl 7),(3,.sl 9)] (ih1 (p.2.l',p.2.n',p.2.end',p.2.ZI,p.2.ZJ,s) h)))
  refine wO J 2 h fun u v h=>Ws (Po N ([(str [99,104,111,105,99,101]),(str [108,111,111,112]),(str [97,103,97,105,110]),(str [112,97,114]),(str [99,97,108,108])]:List be) k.ZH _ v) [] [(0,.sl 5)] [5] (.inr ⟨rfl,trivial⟩) ?_;refine wB J 4 h (fun h=>oi h▸wr J 6 func38 [(2,.sl 3),(3,.sl 2)]) fun h=>?_;refine wO J 5 h fun x y h=>Yl (ZmQ N rc rcT (⟨d,e,f,g,i⟩:Yw) _ y) [] [(0,.bp 0 0),(1,.sl 2)] (YX J [] RX ([x.1]:List Yj) ?_);have ⟨z,A,h⟩:=ob h;exact Xv J Yz A (wa J 3 (Yi [(2,.sl 8),(3,.sl 10)] (ih1 (x.2.l',x.2.n',x.2.end',x.2.ZI,x.2.ZJ,z) h)))
 exact Yi [(2,.sl 1),(3,.nil)] (ih N (c.l',c.n',c.end',c.ZI,c.ZJ,([]:List Yj)) h)
theorem Zwe:∀ (N:Nat) (c:Yw) (r:(List Yj) × Yw) (h:Zc8 N c=some r),Fn aB 38 ⟨2,[.B 0 0],[(1,.sl Y2 c.l')],[(0,.box (Xu 1 c) 66)],4,.S 2,[(3,.sl Y2 r.2.l')],[(2,.own Yz r.1 true),(0,.box (Xu 3 r.2) 66)]⟩:=by
 intro N;induction N with
 | zero=>intros;rename_i h;cases h
 | succ N ih=>intro c r h;exact Zwc N (Zc8 N) ih c r h
theorem Zwd (c:Yw) (r:(List Yj) × Yw) (h:z38 N c=some r):Fn aB 38 ⟨2,[.B 0 0],[(1,.sl Y2 c.l')],[(0,.box (Xu 1 c) 66)],4,.S 2,[(3,.sl Y2 r.2.l')],[(2,.own Yz r.1 true),(0,.box (Xu 3 r.2) 66)]⟩:=Zwe N c r h
theorem ZvE (c:Yw) (r:Ym × Yw) (h:z15 N c=some r) :
 Fn aB 15 ⟨2,[.B 0 0],[(1,.sl Y2 c.l')],[(0,.box (Xu 1 c) 66)],6,.a [.s r.1.Zu,.sl 2,.sl 3,.sl 4],(Xe 2 3 4 r.1 [(5,.sl Y2 r.2.l')]),[(0,.box (Xu 5 r.2) 66)]⟩:=Yy func15 rfl fun E F w=>by
 unfold z15 at h;refine wO J 7 h fun d e h=>Yl (Wl N c (str [112,114,111,116,111,99,111,108]) _ e) [] [(0,.bp 0 0),(1,.sl 1)] ?_;refine wO J 4 h fun f g h=>Yl (Rg N d _ g) [] [(0,.bp 0 0),(1,.sl 3)] ?_;refine wO J 7 h fun i j h=>Yl (Wl N f.2 (str [40]) _ j) [] [(0,.bp 0 0),(1,.sl 4)] ?_;refine wO J 4 h fun k l h=>Yl (ZgW N i _ l) [] [(0,.bp 0 0),(1,.sl 6)] ?_;refine wO J 6 h fun m o h=>Yl (Wl N k.2 (str [41]) _ o) [] [(0,.bp 0 0),(1,.sl 8)] ?_;refine wO J 4 h fun p q h=>Yl (Wl N m (str [123]) _ q) [] [(0,.bp 0 0),(1,.sl 9)] (wa J 2 (YE (σ:=(List YN) × Int × Int × Int × Int × (List Ys)) (fun st=>(Zm4 st.2.1 st.2.2.1 st.2.2.2.1 st.2.2.2.2.1 f.1 k.1 st.2.2.2.2.2 c.l' st.1 [(0,.B 0 0),(2,.B 2 0),(3,.B 5 0)])) (fun st=>ZgA N f k st.1 st.2.1 st.2.2.1 st.2.2.2.1 st.2.2.2.2.1 st.2.2.2.2.2=some r) ?_ (fun j1=>?_)))
 ·rintro ⟨t,u,v,x,y,z⟩ h;unfold ZgA at h;refine wO J 3 h fun A C h=>Yl (Zwd N (⟨t,u,v,x,y⟩:Yw) _ C) [] [(0,.bp 0 0),(1,.sl 11)] ?_;refine wO J 6 h fun D G h=>Yl (Wl N A.2 (str [125]) _ G) [] [(0,.bp 0 0),(1,.sl 14)] (wa J 6 (Vn [7] (Vn [12] (Vn [13] ?_))));cases h;exact Xh J func15 [(2,.sl 7),(3,.sl 12),(4,.sl 13),(5,.sl 15)]
 refine wa J 1 (YO (σ:=(List YN) × Int × Int × Int × Int × (List Ys)) (fun st=>(Zm4 st.2.1 st.2.2.1 st.2.2.2.1 st.2.2.2.2.1 f.1 k.1 st.2.2.2.2.2 c.l' st.1 [(0,.B 0 0),(2,.B 2 0),(3,.B 5 0)])) (fun n st=>ZcD N f k n st.1 st.2.1 st.2.2.1 st.2.2.2.1 st.2.2.2.2.1 st.2.2.2.2.2) (r:=r) (fun _=>rfl) ?_ (fun ih=>?_))
 ·intro n2 ih3;rintro ⟨H,R,T,U,X,Y⟩ h;unfold ZcD at h;refine wO J 4 h fun Z a0 h=>Yl (W5 N (⟨H,R,T,U,X⟩:Yw) (str [109,101,115,115,97,103,101]) _ a0) [] [(0,.bp 0 0),(1,.sl 11)] ?_;refine Yv J 1 h (fun h=>wa J 2 (Yi [(11,.sl 13)] (j1 (Z.2.l',Z.2.n',Z.2.end',Z.2.ZI,Z.2.ZJ,Y) h))) fun h=>?_;refine wO J 7 h fun b0 c0 h=>Yl (Zwb N Z.2 _ c0) [] [(0,.bp 0 0),(1,.sl 13)] (YX J [] UB ([b0.1]:List Ys) ?_);have ⟨e0,g0,h⟩:=ob h;exact Xv J Y9 g0 (wa J 2 (YJ (wa J 1 (Yi [(11,.sl 16),(12,.sl 18)] (ih3 (b0.2.l',b0.2.n',b0.2.end',b0.2.ZI,b0.2.ZJ,e0) h)))))
 exact Yi [(11,.sl 10),(12,.nil)] (ih N (p.l',p.n',p.end',p.ZI,p.ZJ,([]:List Ys)) h)
theorem ZwR (d:be) (r:Bool) (h:z87 N d=some r) :
 Fn aB 87 ⟨0,[.c (.s d)],[],[],0,.O r,[],[]⟩:=Yy func87 rfl fun E F w=>by
 unfold z87 at h;refine wO J 7 h fun e f h=>Yl (Ss N d _ f) [] [] ?_;exact oi h▸wr J 3 func87 []
theorem Zvr (d:(List be)) (r:Int) (h:Zcp N d=some r) :
 Fn aB 144 ⟨1,[.S 0,.c (.cl 87 [] [])],[(0,.sl rS d)],[],1,.I r,[],[]⟩:=Yy func144 rfl fun E F w=>by
 unfold Zcp at h;refine wa J 11 (YE (σ:=Unit) (fun st=>(GB d [])) (fun st=>Zcq=some r) ?_ (fun j1=>?_))
 ·intro _ h;unfold Zcq at h;exact oi h▸wr J 4 func144 []
 refine wa J 1 (YO (σ:=Int) (fun st=>(GB d [(0,.S 0),(1,.c (.cl 87 [] [])),(7,.I (d.length:Int)),(8,.I st)])) (fun n st=>MA N d n st) (r:=r) (fun _=>rfl) ?_ (fun ih=>?_))
 ·intro n2 ih3;intro e h;unfold MA at h;refine Yv J 5 h (fun h=>wa J 2 (Yi [] (j1 () h))) fun h=>?_;refine wO J 14 h fun f g h=>YK J oS g ?_;refine wO J 1 h fun i j h=>Yl (ZwR N f _ j) [] [] ?_;exact wB J 1 h (fun h=>oi h▸wr J 6 func144 []) fun h=>wa J 7 (Yi [] (ih3 (Yh (e+1)) h))
 exact Yi [] (ih N 0 h)
theorem ZwP (d:(List be)) (r:Bool) (h:ZdE N d=some r) :
 Fn aB 86 ⟨1,[.S 0,.c (.cl 87 [] [])],[(0,.sl rS d)],[],1,.O r,[],[]⟩:=Yy func86 rfl fun E F w=>by
 unfold ZdE at h;refine wO J 8 h fun e f h=>Yl (Zvr N d _ f) [] [(0,.sl 0)] ?_;exact oi h▸wr J 3 func86 []
theorem Zg1 (c:(List be)) (d:Int) (r:Bool) (h:MQ N c d=some r) :
 Fn aB 40 ⟨1,[.S 0,.I d],[(0,.sl rS c)],[],1,.O r,[],[]⟩:=Yy func40 rfl fun E F w=>by
 unfold MQ at h;refine Yv J 10 h (fun h=>oi h▸wr J 12 func40 []) fun h=>?_;refine Yv J 6 h (fun h=>oi h▸wr J 6 func40 []) fun h=>?_;refine wO J 1 h fun e f h=>Yl (ZwP N c _ f) [] [(0,.sl 0)] ?_;exact oi h▸wr J 4 func40 []
theorem ZmH (d:be) (r:Int) (h:z229 N d=some r) :
 Fn aB 229 ⟨0,[.c (.s d)],[],[],0,.I r,[],[]⟩:=Yy func229 rfl fun E F w=>by
 unfold z229 at h;refine wa J 8 (eRn J (fun bk1=>wa J 1 (YE (σ:=Int × Nat) (fun st=>⟨[(2,.I st.1)],[(0,.abs (Ux bk1 d st.2))],[],1⟩) (fun st=>ZgL st.1 st.2=some r) ?_ (fun j1=>?_))))
 ·rintro ⟨e,vi0_1⟩ h;unfold ZgL at h;exact oi h▸wr J 5 func229 []
 refine wa J 1 (YO (σ:=Int × Nat) (fun st=>⟨[(2,.I st.1),(4,.c (.v (.pointer (some ⟨bk1,0,none⟩))))],[(0,.abs (Ux bk1 d st.2))],[],1⟩) (fun n st=>ZcW d n st.1 st.2) (r:=r) (fun _=>rfl) ?_ (fun ih=>?_))
 ·intro n2 ih3;rintro ⟨f,vi0_3⟩ h;unfold ZcW at h;obtain ⟨K,h⟩|⟨K,h⟩:=oc h
  ·exact wa J 2 (eNt bk1 0 K (wa J 12 (Yi [] (ih3 ((Yh (f+1)),(vi0_3+(cv d vi0_3).2)) h))))
  exact wa J 2 (eNf bk1 0 K (wa J 5 (Yi [] (j1 (f,vi0_3) h))))
 exact Yi [] (ih N (0,(0:Nat)) h)
theorem ZmI (d:be) (r:Int × Int) (h:ZcX N d=some r) :
 Fn aB 240 ⟨0,[.c (.s d)],[],[],0,.t [.inl (.i .i32 r.1),.inl (.I r.2)],[],[]⟩:=Yy func240 rfl fun E F w=>by
 unfold ZcX at h;refine wB J 17 h (fun h=>oi h▸wr J 6 func240 []) fun h=>?_;refine wO J 5 h fun e f h=>Wx J f ?_;cases h
theorem Zv1 (d:be) (r:Int × Int) (h:ZgM N d=some r) :
 Fn aB 230 ⟨0,[.c (.s d)],[],[],0,.t [.inl (.i .i32 r.1),.inl (.I r.2)],[],[]⟩:=Yy func230 rfl fun E F w=>by
 unfold ZgM at h;refine Yv J 11 h (fun h=>?_) fun h=>?_
 ·refine wO J 8 h fun e f h=>Yl (ZmI N d _ f) [] [] ?_;exact oi h▸wr J 6 func230 []
 refine wO J 1 h fun g j h=>Wx J j ?_;refine wB J 3 h (fun h=>?_) fun h=>?_
 ·refine wO J 4 h fun k l h=>Wx J l ?_;exact oi h▸wr J 4 func230 []
 refine wO J 3 h fun m o h=>Yl (ZmI N d _ o) [] [] ?_;exact oi h▸wr J 6 func230 []
theorem ZvY (d:be) (e:Int) (r:(List be)) (h:ZgJ N d e=some r) :
 Fn aB 210 ⟨0,[.c (.s d),.I e],[],[],1,.S 0,[],[(0,.own rS r true)]⟩:=Yy func210 rfl fun E F w=>by
 unfold ZgJ at h;refine wO J 7 h fun f g h=>Yl (ZmH N d _ g) [] [] ?_;refine wa J 8 (YE (σ:=Bool) (fun st=>(UN [(0,.c (.s d)),(1,.I e),(5,.I f),(18,.O st)])) (fun st=>ZcT N d e f st=some r) ?_ (fun j1=>?_))
 ·intro i h;unfold ZcT at h;refine YE (σ:=Int) (fun st=>(UN [(0,.c (.s d)),(1,.I st)])) (fun st=>ZcS N d st=some r) ?_ (fun j2=>?_)
  ·intro j h;unfold ZcS at h;refine wO J 3 h fun k l h=>RD J oS l (wa J 7 (YE (σ:=be × (List be)) (fun st=>(zz4 st.2 [(0,.c (.s st.1)),(1,.I j),(6,.S 0)])) (fun st=>ZgK j st.1 st.2=some r) ?_ (fun j3=>?_)))
   ·rintro ⟨m,o⟩ h;unfold ZgK at h;refine Yv J 6 h (fun h=>oi h▸wr J 7 func210 [(0,.sl 0)]) fun h=>?_;refine wO J 6 h fun p q h=>Xg J rS q (WR J [] oS m q ?_);exact oi h▸wr J 6 func210 [(0,.sl 0)]
   refine wa J 1 (YO (σ:=be × (List be) × Int) (fun st=>(zz4 st.2.1 [(0,.c (.s st.1)),(1,.I j),(6,.S 0),(7,.I st.2.2)])) (fun n st=>ZcU N j n st.1 st.2.1 st.2.2) (r:=r) (fun _=>rfl) ?_ (fun ih=>?_))
   ·intro n2 ih5;rintro ⟨t,u,v⟩ h;unfold ZcU at h;refine Yv J 8 h (fun h=>wa J 2 (Yi [] (j3 (t,u) h))) fun h=>?_;refine wO J 7 h fun x y h=>Yl (Zv1 N t _ y) [] [] ?_;refine wO J 12 h fun z A h=>Uo J A ?_;have ⟨C,D,h⟩:=ob h;refine Xg J rS D (WR J [] oS z D ?_);exact wO J 4 h fun G H h=>Uo J H (wa J 8 (Yi [] (ih5 (G,(YA u v z),(Yh (v+1))) h)))
   exact Yi [] (ih N (d,k,0) h)
  exact eB h (fun h=>wa J 5 (Yi [] (j2 f h))) fun h=>wa J 2 (Yi [] (j2 e h))
 exact eB h (fun h=>wa J 5 (Yi [] (j1 true h))) fun h=>wa J 5 (Yi [] (j1 (decide (e > f)) h))
theorem ZvZ (d:be) (e:be) (r:Int) (h:Bk N d e=some r) :
 Fn aB 211 ⟨0,[.c (.s d),.c (.s e)],[],[],0,.I r,[],[]⟩:=Yy func211 rfl fun E F w=>by
 unfold Bk at h;refine wB J 11 h (fun h=>?_) fun h=>?_
 ·refine wO J 4 h fun f g h=>Yl (ZmH N d _ g) [] [] ?_;exact oi h▸wr J 3 func211 []
 refine wB J 9 h (fun h=>?_) fun h=>wa J 7 (YO (σ:=be × Int) (fun st=>(UN [(0,.c (.s st.1)),(1,.c (.s e)),(5,.I st.2)])) (fun n st=>ZcV N e n st.1 st.2) (r:=r) (fun _=>rfl) ?_ (fun ih=>?_))
 ·refine wO J 5 h fun i j h=>Wx J j (eEx (Zpp func231 (by kernel_rfl) (by kernel_rfl) (by kernel_rfl) (by kernel_rfl) d i) (fun _=>trivial) ?_);exact oi h▸wr J 2 func211 []
 ·intro n1 ih1;rintro ⟨k,l⟩ h;unfold ZcV at h;refine wO J 5 h fun m o h=>Yl (Zgu N k e _ o) [] [] ?_;refine wB J 8 h (fun h=>oi h▸wr J 6 func211 []) fun h=>?_;exact wO J 14 h fun p q h=>Uo J q (wa J 3 (Yi [] (ih1 (p,(Yh (l+1))) h)))
 exact Yi [] (ih N (d,0) h)
theorem ZvP (d:be) (e:be) (f:Int) (g:Int) (r:(List be)) (h:ZcM N d e f g=some r) :
 Fn aB 175 ⟨0,[.c (.s d),.c (.s e),.I f,.I g],[],[],1,.S 0,[],[(0,.own rS r true)]⟩:=Yy func175 rfl fun E F w=>by
 unfold ZcM at h;refine wB J 10 h (fun h=>oi h▸wr J 5 func175 [(0,.nil)]) fun h=>?_;refine wB J 8 h (fun h=>?_) fun h=>wa J 8 (YE (σ:=Int) (fun st=>(UN [(0,.c (.s d)),(1,.c (.s e)),(2,.I f),(3,.I st)])) (fun st=>Bi N d e f st=some r) ?_ (fun j1=>?_))
 ·refine wO J 5 h fun i j h=>Yl (ZvY N d g _ j) [] [] ?_;exact oi h▸wr J 2 func175 [(0,.sl 0)]
 ·intro k h;unfold Bi at h;refine wO J 12 h fun l m h=>RD J oS m (wa J 13 (YE (σ:=be × (List be) × Int) (fun st=>(zz4 st.2.1 [(0,.c (.s st.1)),(9,.S 0),(10,.I st.2.2)])) (fun st=>HY st.1 st.2.1 st.2.2=some r) ?_ (fun j2=>?_)))
  ·rintro ⟨o,p,q⟩ h;unfold HY at h;refine wO J 5 h fun t u h=>Xg J rS u (WR J [] oS o u ?_);refine wO J 6 h fun v x h=>VM J rS x (wa J 2 (eSl rS 2 x ?_));cases h;exact Xh J func175 [(0,.sl 2)]
  refine wa J 1 (YO (σ:=be × (List be) × Int) (fun st=>(zz4 st.2.1 [(0,.c (.s st.1)),(1,.c (.s e)),(2,.I f),(3,.I (Yh ((VA k (Yh ((d.size:Int)+1)))-1))),(9,.S 0),(10,.I st.2.2)])) (fun n st=>Pc N d e f k n st.1 st.2.1 st.2.2) (r:=r) (fun _=>rfl) ?_ (fun ih=>?_))
  ·intro n2 ih4;rintro ⟨y,z,A⟩ h;unfold Pc at h;refine Yv J 7 h (fun h=>wa J 2 (Yi [] (j2 (y,z,A) h))) fun h=>?_;refine wO J 7 h fun C D h=>Yl (Zgu N y e _ D) [] [] ?_;refine wB J 8 h (fun h=>wa J 2 (Yi [] (j2 (y,z,A) h))) fun h=>?_;refine wO J 10 h fun G H h=>Uo J H ?_;have ⟨R,T,h⟩:=ob h;refine Xg J rS T (WR J [] oS G T ?_);exact wO J 8 h fun U X h=>Uo J X (wa J 8 (Yi [] (ih4 (U,(YA z A G),(Yh (A+1))) h)))
  exact Yi [] (ih N (d,l,0) h)
 refine Wj h (fun h=>wa J 2 (Yi [] (j1 g h))) fun h=>?_;exact wO J 4 h fun Y Z h=>Yl (ZvZ N d e _ Z) [] [] (wa J 3 (Yi [] (j1 (Yh (Y+1)) h)))
theorem Zvu (d:be) (e:be) (r:(List be)) (h:Be N d e=some r) :
 Fn aB 145 ⟨0,[.c (.s d),.c (.s e)],[],[],1,.S 0,[],[(0,.own rS r true)]⟩:=Yy func145 rfl fun E F w=>by
 unfold Be at h;refine wO J 8 h fun f g h=>Yl (ZvP N d e 0 (-1) _ g) [] [] ?_;exact oi h▸wr J 2 func145 [(0,.sl 0)]
theorem Zvv (d:be) (r:Bool) (h:z146 N d=some r) :
 Fn aB 146 ⟨0,[.c (.s d)],[],[],0,.O r,[],[]⟩:=Yy func146 rfl fun E F w=>by
 unfold z146 at h;refine wO J 7 h fun e f h=>Yl (Ss N d _ f) [] [] ?_;exact oi h▸wr J 3 func146 []
theorem Zvt (d:(List be)) (r:Int) (h:Zcr N d=some r) :
 Fn aB 144 ⟨1,[.S 0,.c (.cl 146 [] [])],[(0,.sl rS d)],[],1,.I r,[],[]⟩:=Yy func144 rfl fun E F w=>by
 unfold Zcr at h;refine wa J 11 (YE (σ:=Unit) (fun st=>(GB d [])) (fun st=>Zct=some r) ?_ (fun j1=>?_))
 ·intro _ h;unfold Zct at h;exact oi h▸wr J 4 func144 []
 refine wa J 1 (YO (σ:=Int) (fun st=>(GB d [(0,.S 0),(1,.c (.cl 146 [] [])),(7,.I (d.length:Int)),(8,.I st)])) (fun n st=>MC N d n st) (r:=r) (fun _=>rfl) ?_ (fun ih=>?_))
 ·intro n2 ih3;intro e h;unfold MC at h;refine Yv J 5 h (fun h=>wa J 2 (Yi [] (j1 () h))) fun h=>?_;refine wO J 14 h fun f g h=>YK J oS g ?_;refine wO J 1 h fun i j h=>Yl (Zvv N f _ j) [] [] ?_;exact wB J 1 h (fun h=>oi h▸wr J 6 func144 []) fun h=>wa J 7 (Yi [] (ih3 (Yh (e+1)) h))
 exact Yi [] (ih N 0 h)
theorem ZwQ (d:(List be)) (r:Bool) (h:ZdF N d=some r) :
 Fn aB 86 ⟨1,[.S 0,.c (.cl 146 [] [])],[(0,.sl rS d)],[],1,.O r,[],[]⟩:=Yy func86 rfl fun E F w=>by
 unfold ZdF at h;refine wO J 8 h fun e f h=>Yl (Zvt N d _ f) [] [(0,.sl 0)] ?_;exact oi h▸wr J 3 func86 []
theorem ZdH (d:be) (r:Bool) (h:Qm N d=some r) :
 Fn aB 89 ⟨0,[.c (.s d)],[],[],0,.O r,[],[]⟩:=Yy func89 rfl fun E F w=>by
 unfold Qm at h;refine Yv J 10 h (fun h=>oi h▸wr J 7 func89 []) fun h=>?_;refine wO J 1 h fun e f h=>Yl (Zvu N d (str [46]) _ f) [] [] ?_;have ⟨g,i,h⟩:=ob h;refine Ws (ZwQ N e _ i) [] [(0,.sl 0)] [0] (.inr ⟨rfl,trivial⟩) ?_;exact oi h▸wr J 4 func89 []
theorem ZwS (c:Yj) (r:Bool) (h:BV N c=some r) :
 Fn aB 88 ⟨2,[.a [.I c.Zt,.s c.ZB,.sl 0,.s c.Zu,.s c.As,.I c.ZC,.sl 1]],[(0,.sl rS c.To),(1,.sl (YH Yz) c.ZD)],[],2,.O r,[],[]⟩:=Yy func88 rfl fun E F w=>by
 unfold BV at h;refine wB J 24 h (fun h=>?_) fun h=>?_
 ·refine wO J 5 h fun d e h=>Yl (Ss N c.ZB _ e) [] [] ?_;refine Yv J 1 h (fun h=>oi h▸wr J 25 func88 []) fun h=>?_;refine wO J 2 h fun f g h=>Yl (Zg1 N c.To 5 _ g) [] [(0,.sl 0)] ?_;refine Yv J 2 h (fun h=>oi h▸wr J 20 func88 []) fun h=>?_;refine wO J 2 h fun i j h=>Yl (ZdH N c.Zu _ j) [] [] ?_;refine Yv J 2 h (fun h=>oi h▸wr J 15 func88 []) fun h=>?_;refine Yv J 5 h (fun h=>oi h▸wr J 10 func88 []) fun h=>?_;exact wB J 5 h (fun h=>oi h▸wr J 5 func88 []) fun h=>oi h▸wr J 5 func88 []
 refine wB J 6 h (fun h=>?_) fun h=>wa J 7 (YE (σ:=Bool) (fun st=>⟨[(1,.B 2 0),(3,.I (c.ZD.length:Int)),(8,.I c.Zt),(81,.O st)],[(2,.box [.I c.Zt,.s c.ZB,.sl 0,.s c.Zu,.s c.As,.I c.ZC,.sl 1] 132)],[(0,.sl rS c.To),(1,.sl (YH Yz) c.ZD)],3⟩) (fun st=>La N c st=some r) ?_ (fun j1=>?_))
 ·refine wO J 5 h fun k l h=>Yl (Ss N c.ZB _ l) [] [] ?_;refine Yv J 1 h (fun h=>oi h▸wr J 39 func88 []) fun h=>?_;refine Yv J 6 h (fun h=>oi h▸wr J 33 func88 []) fun h=>?_;refine Yv J 5 h (fun h=>oi h▸wr J 28 func88 []) fun h=>?_;refine Yv J 5 h (fun h=>oi h▸wr J 23 func88 []) fun h=>?_;refine Yv J 5 h (fun h=>oi h▸wr J 18 func88 []) fun h=>?_;refine Yv J 5 h (fun h=>oi h▸wr J 13 func88 []) fun h=>?_;exact wB J 8 h (fun h=>oi h▸wr J 5 func88 []) fun h=>oi h▸wr J 5 func88 []
 ·intro m h;unfold La at h;refine eB h (fun h=>?_) fun h=>?_
  ·refine Yv J 7 h (fun h=>oi h▸wr J 34 func88 []) fun h=>?_;refine Yv J 6 h (fun h=>oi h▸wr J 28 func88 []) fun h=>?_;refine wO J 2 h fun o p h=>Yl (ZdH N c.Zu _ p) [] [] ?_;refine Yv J 2 h (fun h=>oi h▸wr J 23 func88 []) fun h=>?_;refine Yv J 5 h (fun h=>oi h▸wr J 18 func88 []) fun h=>?_;refine Yv J 5 h (fun h=>oi h▸wr J 13 func88 []) fun h=>?_;exact wB J 8 h (fun h=>oi h▸wr J 5 func88 []) fun h=>oi h▸wr J 5 func88 []
  refine wB J 6 h (fun h=>?_) fun h=>?_
  ·refine Yv J 7 h (fun h=>oi h▸wr J 30 func88 []) fun h=>?_;refine Yv J 6 h (fun h=>oi h▸wr J 24 func88 []) fun h=>?_;refine Yv J 5 h (fun h=>oi h▸wr J 19 func88 []) fun h=>?_;refine Yv J 5 h (fun h=>oi h▸wr J 14 func88 []) fun h=>?_;refine Yv J 5 h (fun h=>oi h▸wr J 9 func88 []) fun h=>?_;exact wB J 4 h (fun h=>oi h▸wr J 5 func88 []) fun h=>oi h▸wr J 5 func88 []
  refine Yv J 6 h (fun h=>oi h▸wr J 7 func88 []) fun h=>?_;refine Yv J 7 h (fun h=>oi h▸wr J 25 func88 []) fun h=>?_;refine wO J 2 h fun q t h=>Yl (Zg1 N c.To 6 _ t) [] [(0,.sl 0)] ?_;refine Yv J 2 h (fun h=>oi h▸wr J 20 func88 []) fun h=>?_;refine wO J 2 h fun u v h=>Yl (Ss N c.Zu _ v) [] [] ?_;refine Yv J 2 h (fun h=>oi h▸wr J 15 func88 []) fun h=>?_;refine wO J 2 h fun x y h=>Yl (Ss N c.As _ y) [] [] ?_;refine Yv J 2 h (fun h=>oi h▸wr J 10 func88 []) fun h=>?_;exact wB J 5 h (fun h=>oi h▸wr J 5 func88 []) fun h=>oi h▸wr J 5 func88 []
 exact eB h (fun h=>wa J 2 (Yi [] (j1 true h))) fun h=>wa J 5 (Yi [] (j1 (c.Zt==4) h))
theorem Zwf (rc:(List Yj)->Int->Int->Option (Bool × Int)) (rcT:(∀ (c:(List Yj)) (d:Int) (e:Int) (r:Bool × Int),rc c d e=some r->Fn aB 41 ⟨2,[.S 0,.I d,.B 1 0],[(0,.sl Yz c)],[(1,.box [.I e] 3)],2,.O r.1,[],[(1,.box [.I r.2] 3)]⟩)) (c:(List Yj)) (d:Int) (e:Int) (r:Bool × Int) (h:Bw N rc c d e=some r) :
 Fn aB 41 ⟨2,[.S 0,.I d,.B 1 0],[(0,.sl Yz c)],[(1,.box [.I e] 3)],2,.O r.1,[],[(1,.box [.I r.2] 3)]⟩:=Yy func41 rfl fun E F w=>by
 unfold Bw at h;refine wa J 11 (YE (σ:=Int) (fun st=>⟨[],[(1,.box [.I st] 3)],[(0,.sl Yz c)],2⟩) (fun st=>Zc9 st=some r) ?_ (fun j1=>?_))
 ·intro f h;unfold Zc9 at h;exact oi h▸wr J 4 func41 []
 refine wa J 1 (YO (σ:=Int × Int) (fun st=>⟨[(1,.I d),(2,.B 1 0),(11,.S 0),(12,.I (c.length:Int)),(13,.I st.2)],[(1,.box [.I st.1] 3)],[(0,.sl Yz c)],2⟩) (fun n st=>Qj N rc c d n st.1 st.2) (r:=r) (fun _=>rfl) ?_ (fun ih=>?_))
 ·intro n12 ih12;rintro ⟨g,i⟩ h;unfold Qj at h;refine Yv J 5 h (fun h=>wa J 2 (Yi [] (j1 g h))) fun h=>?_;refine wO J 6 h fun j k h=>YK J RX k ?_;refine wB J 19 h (fun h=>oi h▸wr J 16 func41 []) fun h=>?_;refine wB J 6 h (fun h=>oi h▸wr J 10 func41 []) fun h=>?_;refine wO J 1 h fun l m h=>Yl (ZwS N j _ m) [] [(0,.sl 3),(1,.sl 4)] ?_;refine wB J 3 h (fun h=>oi h▸wr J 5 func41 []) fun h=>wa J 9 (YE (σ:=Int) (fun st=>⟨[(1,.I d),(2,.B 1 0),(11,.S 0),(12,.I (c.length:Int)),(13,.I i)],[(1,.box [.I st] 3)],[(0,.sl Yz c)],6⟩) (fun st=>Zda i (Qj N rc c d n12) st=some r) ?_ (fun j19=>?_))
  ·intro o h;unfold Zda at h;exact wa J 5 (Yi [] (ih12 (o,(Yh (i+1))) h))
  refine wa J 1 (YO (σ:=Int × Int) (fun st=>⟨[(1,.I d),(2,.B 1 0),(11,.S 0),(12,.I (c.length:Int)),(13,.I i),(36,.S 4),(37,.I (j.ZD.length:Int)),(38,.I st.2)],[(1,.box [.I st.1] 3)],[(0,.sl Yz c),(4,.sl (YH Yz) j.ZD)],6⟩) (fun n st=>MR rc d i (Qj N rc c d n12) j n st.1 st.2) (r:=r) (fun _=>rfl) ?_ (fun ih=>?_))
  ·intro n14 ih21;rintro ⟨p,q⟩ h;unfold MR at h;refine Yv J 5 h (fun h=>wa J 2 (Yi [] (j19 p h))) fun h=>?_;refine wO J 6 h fun s t h=>YK J (Xi Yz) t ?_;refine wO J 9 h fun u v h=>Yl (rcT s (Yh (d+1)) p _ v) [] [(0,.sl 7),(1,.bp 1 0)] ?_;exact wB J 2 h (fun h=>oi h▸wr J 5 func41 []) fun h=>wa J 7 (Yi [] (ih21 (u.2,(Yh (q+1))) h))
  exact Yi [] (ih N ((Yh (g+1)),0) h)
 exact Yi [] (ih N (e,0) h)
theorem Zwh:∀ (N:Nat) (c:(List Yj)) (d:Int) (e:Int) (r:Bool × Int) (h:Zdb N c d e=some r),Fn aB 41 ⟨2,[.S 0,.I d,.B 1 0],[(0,.sl Yz c)],[(1,.box [.I e] 3)],2,.O r.1,[],[(1,.box [.I r.2] 3)]⟩:=by
 intro N;induction N with
 | zero=>intros;rename_i h;cases h
 | succ N ih=>intro c d e r h;exact Zwf N (Zdb N) ih c d e r h
theorem Zwg (c:(List Yj)) (d:Int) (e:Int) (r:Bool × Int) (h:Ga N c d e=some r):Fn aB 41 ⟨2,[.S 0,.I d,.B 1 0],[(0,.sl Yz c)],[(1,.box [.I e] 3)],2,.O r.1,[],[(1,.box [.I r.2] 3)]⟩:=Zwh N c d e r h
theorem Zvw (c:Int) (r:Bool) (h:Zcu N c=some r) :
 Fn aB 147 ⟨0,[.I c],[],[],0,.O r,[],[]⟩:=Yy func147 rfl fun E F w=>by
 unfold Zcu at h;exact wB J 9 h (fun h=>oi h▸wr J 5 func147 []) fun h=>oi h▸wr J 5 func147 []
theorem ZmR (c:Y5) (r:Bool) (h:Gu N c=some r) :
 Fn aB 90 ⟨0,[.a (X2 c)],[],[],0,.O r,[],[]⟩:=Yy func90 rfl fun E F w=>by
 unfold Gu at h;refine wO J 10 h fun d e h=>Yl (Zvw N c.N _ e) [] [] ?_;refine wB J 2 h (fun h=>oi h▸wr J 5 func90 []) fun h=>?_;refine wB J 14 h (fun h=>?_) fun h=>wa J 7 (YE (σ:=Bool) (fun st=>⟨[(1,.B 0 0),(19,.O st)],[(0,.box (X2 c) 102)],[],1⟩) (fun st=>Lb N c st=some r) ?_ (fun j1=>?_))
 ·exact wB J 7 h (fun h=>oi h▸wr J 6 func90 []) fun h=>oi h▸wr J 6 func90 []
 ·intro f h;unfold Lb at h;refine Wj h (fun h=>oi h▸wr J 7 func90 []) fun h=>?_;refine wO J 5 h fun g i h=>Yl (Ss N c.Field _ i) [] [] ?_;refine Yv J 1 h (fun h=>oi h▸wr J 11 func90 []) fun h=>?_;refine wB J 4 h (fun h=>oi h▸wr J 7 func90 []) fun h=>?_;refine wO J 2 h fun j k h=>Yl (ZdH N c.Zw _ k) [] [] ?_;exact oi h▸wr J 4 func90 []
 exact eB h (fun h=>wa J 2 (Yi [] (j1 true h))) fun h=>wa J 5 (Yi [] (j1 (c.Zt==3) h))
theorem Zwi (c:Ys) (r:Bool) (h:Bx N c=some r) :
 Fn aB 42 ⟨2,[.a [.s c.Zu,.sl 0,.sl 1]],(XU 0 1 c []),[],2,.O r,[],[]⟩:=Yy func42 rfl fun E F w=>by
 unfold Bx at h;refine wO J 10 h fun d e h=>Yl (ZdH N c.Zu _ e) [] [] ?_;refine wB J 2 h (fun h=>oi h▸wr J 17 func42 []) fun h=>?_;refine wB J 6 h (fun h=>oi h▸wr J 11 func42 []) fun h=>?_;refine wB J 6 h (fun h=>oi h▸wr J 5 func42 []) fun h=>wa J 10 (YE (σ:=Unit) (fun st=>⟨[(1,.B 2 0)],[(2,.box [.s c.Zu,.sl 0,.sl 1] 97)],(XU 0 1 c []),3⟩) (fun st=>Zdd N c=some r) ?_ (fun j1=>?_))
 ·intro _ h;unfold Zdd at h;refine wa J 8 (YE (σ:=Unit) (fun st=>⟨[],[],(XU 0 1 c []),3⟩) (fun st=>Zdc=some r) ?_ (fun j6=>?_))
  ·intro _ h;unfold Zdc at h;exact oi h▸wr J 4 func42 []
  refine wa J 1 (YO (σ:=Int) (fun st=>⟨[(74,.S 1),(75,.I (c.ZA.length:Int)),(76,.I st)],[],(XU 0 1 c []),3⟩) (fun n st=>Gc N c n st) (r:=r) (fun _=>rfl) ?_ (fun ih=>?_))
  ·intro n3 ih8;intro f h;unfold Gc at h;refine Yv J 5 h (fun h=>wa J 2 (Yi [] (j6 () h))) fun h=>?_;refine wO J 6 h fun g i h=>YK J PZ i ?_;refine wO J 8 h fun j k h=>Yl (ZmR N g.Zx _ k) [] [] ?_;refine wB J 2 h (fun h=>wa J 12 (YJ (oi h▸wr J 5 func42 []))) fun h=>?_;refine wO J 2 h fun l m h=>Yl (ZmR N g.Zy _ m) [] [] ?_;refine wB J 3 h (fun h=>wa J 6 (YJ (oi h▸wr J 5 func42 []))) fun h=>?_;have ⟨o,p,h⟩:=ob h;refine Yl (ZmS N _ p) [] [] ?_;refine wO J 2 h fun q t h=>Ws (Po N o g.Op _ t) [] [(0,.sl 5)] [5] (.inr ⟨rfl,trivial⟩) (wa J 2 (YJ ?_));exact eB h (fun h=>oi h▸wr J 5 func42 []) fun h=>wa J 7 (Yi [] (ih8 (Yh (f+1)) h))
  exact Yi [] (ih N 0 h)
 refine wa J 1 (YO (σ:=Int) (fun st=>⟨[(1,.B 2 0),(25,.S 0),(26,.I (c.Zz.length:Int)),(27,.I st)],[(2,.box [.s c.Zu,.sl 0,.sl 1] 97)],(XU 0 1 c []),3⟩) (fun n st=>Rh N c n st) (r:=r) (fun _=>rfl) ?_ (fun ih=>?_))
 ·intro n4 ih9;intro u h;unfold Rh at h;refine Yv J 5 h (fun h=>wa J 2 (Yi [] (j1 () h))) fun h=>?_;refine wO J 6 h fun v x h=>YK J Sh x (wa J 16 (YE (σ:=Int) (fun st=>⟨[(1,.B 2 0),(4,.B 4 0),(5,.I st),(25,.S 0),(26,.I (c.Zz.length:Int)),(27,.I u)],[(2,.box [.s c.Zu,.sl 0,.sl 1] 97),(4,.box (VZ v) 138)],(XU 0 1 c []),5⟩) (fun st=>Gb N u (Rh N c n4) v st=some r) ?_ (fun j12=>?_)))
  ·intro y h;unfold Gb at h;refine wO J 4 h fun z A h=>Yl (Ss N v.Zu _ A) [] [] ?_;refine wB J 2 h (fun h=>oi h▸wr J 38 func42 []) fun h=>?_;refine Yv J 5 h (fun h=>?_) fun h=>?_
   ·refine wB J 18 h (fun h=>oi h▸wr J 15 func42 []) fun h=>?_;exact wB J 10 h (fun h=>oi h▸wr J 5 func42 []) fun h=>wa J 7 (Yi [] (ih9 (Yh (u+1)) h))
   refine wB J 7 h (fun h=>oi h▸wr J 26 func42 []) fun h=>?_;refine wB J 11 h (fun h=>oi h▸wr J 15 func42 []) fun h=>?_;exact wB J 10 h (fun h=>oi h▸wr J 5 func42 []) fun h=>wa J 7 (Yi [] (ih9 (Yh (u+1)) h))
  exact eB h (fun h=>wa J 4 (Yi [] (j12 0 h))) fun h=>wa J 2 (Yi [] (j12 (-999999) h))
 exact Yi [] (ih N 0 h)
theorem Qn (d:List be) (e:be) (r:be) (h:Ug N d e=some r):Fn aB 93 ⟨1,[.S 0,.c (.s e)],[(0,.sl rS d)],[],1,.c (.s r),[],[]⟩:=by
  unfold Ug at h;cases hb:(decide (d.length<=140737488355328) && decide ((Vp e.data.toList (d.map (·.data.toList))).length<=140737488355328)) with
  | false=>rw [hb] at h;cases h
  | true =>
    rw [hb] at h;simp only [lV,aR] at h;subst h;simp only [Zc,lU] at hb;exact ZqR d e hb.1 hb.2
theorem Zlf (l:List UInt8):∀ n:Nat,Go.Lib.repeatL l n=Hn l n
 | 0=>rfl
 | n+1=>by show l++Go.Lib.repeatL l n=l++Hn l n;rw [Zlf l n]
theorem Zmz (d:be) (e:Int) (r:be) (h:MD N d e=some r):Fn aB 149 ⟨0,[.c (.s d),.I e],[],[],0,.c (.s r),[],[]⟩:=by
 unfold MD at h;cases hb:((decide (0<=e) && decide (e<=140737488355328)) && decide (d.size * e.toNat<=140737488355328)) with
 | false=>rw [hb] at h;cases h
 | true =>
  rw [hb] at h;simp only [lV,aR] at h;subst h;simp only [Zc,lU] at hb;obtain ⟨⟨h1,h2⟩,h3⟩:=hb;obtain ⟨c,rfl⟩:=Int.eq_ofNat_of_zero_le h1;have:=Ztm d c (by omega) h3;rw [Zlf] at this;exact this
theorem ZvH (c:YG) (r:YG) (h:ZcF N c=some r) :
 Fn aB 161 ⟨1,[.B 0 0],[],[(0,.box [.v (.pointer none),.nil,.I c.ZK] 197)],2,.t [],[],[(1,.buf r.Builder 5),(0,.box [.bp 0 0,.sl 1,.I r.ZK] 197)]⟩:=Yy func161 rfl fun E F w=>by
 unfold ZcF at h;refine wa J 6 (ePz (wa J 5 (eCu (eNe func200 (by kernel_rfl) (by kernel_rfl) (by kernel_rfl) (by kernel_rfl) (eCq ?_)))));exact oi h▸wr J 4 func161 [(1,.nil)]
theorem Zvy (d:be) (e:YG) (r:Int × Unit × YG) (h:Zcw N d e=some r) :
 Fn aB 148 ⟨1,[.B 0 0,.c (.s d)],[],[(0,.box [.v (.pointer none),.nil,.I e.ZK] 197)],2,.t [.inl (.I r.1),.inl (.v .nilIface)],[],[(1,.buf r.2.2.Builder 5),(0,.box [.bp 0 0,.sl 1,.I r.2.2.ZK] 197)]⟩:=Yy func148 rfl fun E F w=>by
 unfold Zcw at h;refine wO J 8 h fun f g h=>Yl (ZvH N (⟨ao,e.ZK⟩:YG) _ g) [] [(0,.bp 0 0)] ?_;refine wO J 9 h fun i j h=>eBt (ty:=5) J j ?_;exact oi h▸wr J 11 func148 [(1,.sl 2)]
theorem ZwT (c:(List be)) (d:YG) (r:YG) (h:BW N c d=some r) :
 Fn aB 92 ⟨2,[.B 1 0,.S 0],[(0,.sl rS c)],[(1,.box [.v (.pointer none),.nil,.I d.ZK] 197)],3,.t [],[],[(2,.buf r.Builder 5),(1,.box [.bp 1 0,.sl 2,.I r.ZK] 197)]⟩:=Yy func92 rfl fun E F w=>by
 unfold BW at h;refine wO J 8 h fun e f h=>Yl (Zmz N (str [9]) d.ZK _ f) [] [] ?_;refine wO J 1 h fun g i h=>Yl (Qn N c (str []) _ i) [] [(0,.sl 0)] ?_;have ⟨j,k,h⟩:=ob h;refine Wk k ?_;have ⟨l,m,h⟩:=ob h;refine Wk m ?_;have ⟨o,p,h⟩:=ob h;refine Yl (Zvy N l (⟨ao,d.ZK⟩:YG) _ p) [] [(0,.bp 1 0)] (YJ ?_);cases h;exact Xh J func92 [(2,.sl 2)]
theorem HT (d:Int) (r:be) (h:Re N d=some r):Fn aB 151 ⟨1,[.I d],[],[(0,.abs kh)],1,.c (.s r),[],[(0,.abs kh)]⟩:=by
 unfold Re at h;cases hb:(decide ((-9223372036854775808)<=d) && decide (d<=9223372036854775807)) with
 | false=>rw [hb] at h;cases h
 | true =>
  rw [hb] at h;simp only [lV,aR] at h;subst h;simp only [Zc,lU] at hb;exact ZqA d hb.1 hb.2
theorem ZmA (d:Y5) (r:be) (h:HU N d=some r) :
 Fn aB 152 ⟨1,[.a (X2 d)],[],[(0,.abs kh)],1,.c (.s r),[],[(0,.abs kh)]⟩:=Yy func152 rfl fun E F w=>by
 unfold HU at h;refine wB J 12 h (fun h=>?_) fun h=>wa J 15 (YE (σ:=be) (fun st=>⟨[(1,.B 1 0),(3,.c (.s st))],[(0,.abs kh),(1,.box (X2 d) 102)],[],2⟩) (fun st=>HW N d st=some r) ?_ (fun j1=>?_))
 ·refine wO J 5 h fun e f h=>Yl (HT N d.N _ f) [] [(0,.sl 0)] ?_;exact oi h▸wr J 2 func152 []
 ·intro g h;unfold HW at h;refine wa J 7 (YE (σ:=be) (fun st=>⟨[(1,.B 1 0),(3,.c (.s st))],[(0,.abs kh),(1,.box (X2 d) 102)],[],2⟩) (fun st=>HV N d st=some r) ?_ (fun j2=>?_))
  ·intro i h;unfold HV at h;refine wB J 9 h (fun h=>?_) fun h=>?_
   ·refine wO J 5 h fun j k h=>Yl (HT N d.N _ k) [] [(0,.sl 0)] ?_;have ⟨l,m,h⟩:=ob h;refine Wk m ?_;have ⟨o,p,h⟩:=ob h;refine Wk p ?_;exact oi h▸wr J 8 func152 []
   refine Yv J 8 h (fun h=>oi h▸wr J 8 func152 []) fun h=>?_;refine wO J 6 h fun q t h=>Yl (HT N (Yh (0-d.N)) _ t) [] [(0,.sl 0)] ?_;have ⟨u,v,h⟩:=ob h;refine Wk v ?_;have ⟨x,y,h⟩:=ob h;refine Wk y ?_;exact oi h▸wr J 8 func152 []
  refine Wj h (fun h=>wa J 2 (Yi [] (j2 g h))) fun h=>?_;refine wO J 3 h fun z A h=>Wk A ?_;have ⟨C,D,h⟩:=ob h;exact Wk D (wa J 2 (Yi [] (j2 C h)))
 refine Wj h (fun h=>wa J 2 (Yi [] (j1 d.Field h))) fun h=>?_;refine wO J 4 h fun G H h=>Wk H ?_;exact wO J 1 h fun R T h=>Wk T (wa J 2 (Yi [] (j1 R h)))
theorem ZvI (c:YG) (r:Unit) (h:ZcH N c=some r) :
 Fn aB 161 ⟨2,[.B 0 0],[],[(0,.box [.bp 0 0,.sl 1,.I c.ZK] 197),(1,.buf c.Builder 5)],2,.t [],[],[(0,.box [.bp 0 0,.sl 1,.I c.ZK] 197),(1,.buf c.Builder 5)]⟩:=Yy func161 rfl fun E F w=>by
 unfold ZcH at h;refine wa J 6 (ePn false (wa J 9 (ePs ?_)));cases h;exact wr J 3 func161 []
theorem Zvx (d:be) (e:YG) (r:Int × Unit × YG) (h:Zcv N d e=some r) :
 Fn aB 148 ⟨2,[.B 0 0,.c (.s d)],[],[(0,.box [.bp 0 0,.sl 1,.I e.ZK] 197),(1,.buf e.Builder 5)],3,.t [.inl (.I r.1),.inl (.v .nilIface)],[],[(1,.gone),(2,.buf r.2.2.Builder 5),(0,.box [.bp 0 0,.sl 2,.I r.2.2.ZK] 197)]⟩:=Yy func148 rfl fun E F w=>by
 unfold Zcv at h;refine wO J 8 h fun f g h=>Yl (ZvI N e _ g) [] [(0,.bp 0 0),(1,.sl 1)] ?_;refine wO J 9 h fun i j h=>eBt (ty:=5) J j ?_;exact oi h▸wr J 11 func148 [(2,.sl 2)]
theorem Tc (c:(List be)) (d:YG) (r:YG) (h:Vb N c d=some r) :
 Fn aB 92 ⟨3,[.B 1 0,.S 0],[(0,.sl rS c)],[(1,.box [.bp 1 0,.sl 2,.I d.ZK] 197),(2,.buf d.Builder 5)],4,.t [],[],[(2,.gone),(3,.buf r.Builder 5),(1,.box [.bp 1 0,.sl 3,.I r.ZK] 197)]⟩:=Yy func92 rfl fun E F w=>by
 unfold Vb at h;refine wO J 8 h fun e f h=>Yl (Zmz N (str [9]) d.ZK _ f) [] [] ?_;refine wO J 1 h fun g i h=>Yl (Qn N c (str []) _ i) [] [(0,.sl 0)] ?_;have ⟨j,k,h⟩:=ob h;refine Wk k ?_;have ⟨l,m,h⟩:=ob h;refine Wk m ?_;have ⟨o,p,h⟩:=ob h;refine Yl (Zvx N l d _ p) [] [(0,.bp 1 0),(1,.sl 2)] (YJ ?_);cases h;exact Xh J func92 [(3,.sl 3)]
theorem ZmT (d:Ys) (e:YG) (r:YG) (h:Lc N d e=some r) :
 Fn aB 94 ⟨5,[.B 2 0,.a [.s d.Zu,.sl 0,.sl 1]],(XU 0 1 d []),[(2,.box [.bp 2 0,.sl 3,.I e.ZK] 197),(3,.buf e.Builder 5),(4,.abs kh)],6,.t [],[],[(3,.gone),(5,.buf r.Builder 5),(2,.box [.bp 2 0,.sl 5,.I r.ZK] 197),(4,.abs kh)]⟩:=Yy func94 rfl fun E F w=>by
 unfold Lc at h;refine wa J 17 (YE (σ:=(List be)) (fun st=>(Zm5 e.ZK e.Builder kh d.Zu st d [(0,.B 2 0),(3,.B 5 0),(4,.S 6),(5,.c .nil)])) (fun st=>BY N d e st=some r) ?_ (fun j1=>?_))
 ·intro f h;unfold BY at h;refine wa J 8 (YE (σ:=(List be)) (fun st=>(Zm6 e.ZK e.Builder kh d.Zu f st d [(0,.B 2 0),(3,.B 5 0),(4,.S 6),(5,.S 7)])) (fun st=>BX N d e f st=some r) ?_ (fun j6=>?_))
  ·intro g h;unfold BX at h;refine Yv J 11 h (fun h=>?_) fun h=>?_
   ·refine wO J 7 h fun i j h=>Ws (Qn N f (str [44,32]) _ j) [] [(0,.sl 6)] [6] (.inr ⟨rfl,trivial⟩) (wa J 1 (YX J [] oS ([(str [109,101,115,115,97,103,101,32]),d.Zu,(str [40]),i,(str [41]),(str []),(str [59])]:List be) ?_));have ⟨k,l,h⟩:=ob h;refine Yl (Tc N ([(str [109,101,115,115,97,103,101,32]),d.Zu,(str [40]),i,(str [41]),(str []),(str [59])]:List be) e _ l) [8] [(0,.sl 8),(1,.bp 2 0),(2,.sl 3)] (YJ ?_);cases h;exact Xh J func94 [(5,.sl 9)]
   refine wO J 3 h fun m o h=>Ws (Qn N g (str [32,97,110,100,32]) _ o) [] [(0,.sl 7)] [7] (.inr ⟨rfl,trivial⟩) ?_;have ⟨p,q,h⟩:=ob h;refine Wk q ?_;refine wO J 7 h fun u v h=>Ws (Qn N f (str [44,32]) _ v) [] [(0,.sl 6)] [6] (.inr ⟨rfl,trivial⟩) (wa J 1 (YX J [] oS ([(str [109,101,115,115,97,103,101,32]),d.Zu,(str [40]),u,(str [41]),p,(str [59])]:List be) ?_));have ⟨x,y,h⟩:=ob h;refine Yl (Tc N ([(str [109,101,115,115,97,103,101,32]),d.Zu,(str [40]),u,(str [41]),p,(str [59])]:List be) e _ y) [8] [(0,.sl 8),(1,.bp 2 0),(2,.sl 3)] (YJ ?_);cases h;exact Xh J func94 [(5,.sl 9)]
  refine wa J 1 (YO (σ:=(List be) × Int) (fun st=>(Zm6 e.ZK e.Builder kh d.Zu f st.1 d [(0,.B 2 0),(3,.B 5 0),(4,.S 6),(5,.S 7),(43,.S 1),(44,.I (d.ZA.length:Int)),(45,.I st.2)])) (fun n st=>Ld N d e f n st.1 st.2) (r:=r) (fun _=>rfl) ?_ (fun ih=>?_))
  ·intro n3 ih8;rintro ⟨z,A⟩ h;unfold Ld at h;refine Yv J 5 h (fun h=>wa J 2 (Yi [] (j6 z h))) fun h=>?_;refine wO J 6 h fun C D h=>YK J PZ D ?_;refine wO J 8 h fun G H h=>Yl (ZmA N C.Zx _ H) [] [(0,.sl 4)] ?_;have ⟨R,T,h⟩:=ob h;refine Wk T ?_;refine wO J 2 h fun U X h=>Wk X ?_;have ⟨Y,Z,h⟩:=ob h;refine Wk Z ?_;refine wO J 2 h fun a0 b0 h=>Yl (ZmA N C.Zy _ b0) [] [(0,.sl 4)] ?_;have ⟨c0,e0,h⟩:=ob h;refine Wk e0 (YX J [] oS ([c0]:List be) ?_);have ⟨g0,i0,h⟩:=ob h;exact Xv J rS i0 (wa J 1 (YJ (wa J 5 (Yi [(7,.sl 11)] (ih8 (g0,(Yh (A+1))) h)))))
  exact Yi [(7,.nil)] (ih N (([]:List be),0) h)
 refine wa J 1 (YO (σ:=(List be) × Int) (fun st=>(Zm5 e.ZK e.Builder kh d.Zu st.1 d [(0,.B 2 0),(3,.B 5 0),(4,.S 6),(5,.c .nil),(13,.S 0),(14,.I (d.Zz.length:Int)),(15,.I st.2)])) (fun n st=>Qo N d e n st.1 st.2) (r:=r) (fun _=>rfl) ?_ (fun ih=>?_))
 ·intro n4 ih9;rintro ⟨j0,k0⟩ h;unfold Qo at h;refine Yv J 5 h (fun h=>wa J 2 (Yi [] (j1 j0 h))) fun h=>?_;refine wO J 6 h fun l0 m0 h=>YK J Sh m0 (wa J 16 (YE (σ:=be) (fun st=>⟨[(0,.B 2 0),(3,.B 5 0),(4,.S 6),(5,.c .nil),(7,.B 8 0),(8,.c (.s st)),(13,.S 0),(14,.I (d.Zz.length:Int)),(15,.I k0)],[(2,.box [.bp 2 0,.sl 3,.I e.ZK] 197),(3,.buf e.Builder 5),(4,.abs kh),(5,.box [.s d.Zu,.sl 0,.sl 1] 97),(6,.own rS j0 true),(8,.box (VZ l0) 138)],(XU 0 1 d []),9⟩) (fun st=>Gw N j0 k0 (Qo N d e n4) l0 st=some r) ?_ (fun j12=>?_)))
  ·intro o0 h;unfold Gw at h;refine wO J 5 h fun p0 q0 h=>Wk q0 ?_;refine wO J 3 h fun s0 t0 h=>Yl (HT N l0.Zv.Lo _ t0) [] [(0,.sl 4)] ?_;have ⟨u0,v0,h⟩:=ob h;refine Wk v0 ?_;have ⟨x0,y0,h⟩:=ob h;refine Wk y0 ?_;refine wO J 3 h fun z0 A0 h=>Yl (HT N l0.Zv.Hi _ A0) [] [(0,.sl 4)] ?_;have ⟨B0,C0,h⟩:=ob h;refine Wk C0 (YX J [] oS ([B0]:List be) ?_);have ⟨D0,G0,h⟩:=ob h;exact Xv J rS G0 (wa J 1 (YJ (wa J 5 (Yi [(6,.sl 10)] (ih9 (D0,(Yh (k0+1))) h)))))
  exact eB h (fun h=>wa J 4 (Yi [] (j12 (str [58,32,116,101,120,116,32]) h))) fun h=>wa J 2 (Yi [] (j12 (str [58,32,105,110,116,32]) h))
 exact Yi [(6,.nil)] (ih N (([]:List be),0) h)
theorem Zcx (rc:(List Yj)->YG->Option YG) (rcT:(∀ (d:(List Yj)) (e:YG) (r:YG),rc d e=some r->Fn aB 95 ⟨4,[.B 1 0,.S 0],[(0,.sl Yz d)],[(1,.box [.bp 1 0,.sl 2,.I e.ZK] 197),(2,.buf e.Builder 5),(3,.abs kh)],5,.t [],[],[(2,.gone),(4,.buf r.Builder 5),(1,.box [.bp 1 0,.sl 4,.I r.ZK] 197),(3,.abs kh)]⟩)) (f:be) (g:be) (i:be) (d:(List (List Yj))) (e:YG) (r:YG) (h:Qg N rc f g i d e=some r) :
 Fn aB 153 ⟨4,[.B 1 0,.c (.s f),.c (.s g),.c (.s i),.S 0],[(0,.sl (YH Yz) d)],[(1,.box [.bp 1 0,.sl 2,.I e.ZK] 197),(2,.buf e.Builder 5),(3,.abs kh)],5,.t [],[],[(2,.gone),(4,.buf r.Builder 5),(1,.box [.bp 1 0,.sl 4,.I r.ZK] 197),(3,.abs kh)]⟩:=Yy func153 rfl fun E F w=>by
 unfold Qg at h;refine wa J 7 (YE (σ:=be × Int) (fun st=>⟨[(0,.B 1 0)],[(1,.box [.bp 1 0,.sl 4,.I st.2] 197),(3,.abs kh),(4,.buf st.1 5)],[(0,.sl (YH Yz) d)],5⟩) (fun st=>Zcy N st.1 st.2=some r) ?_ (fun j1=>?_))
 ·rintro ⟨j,k⟩ h;unfold Zcy at h;refine wa J 2 (YX J [] oS ([(str [125])]:List be) ?_);have ⟨l,m,h⟩:=ob h;refine Yl (Tc N ([(str [125])]:List be) (⟨j,k⟩:YG) _ m) [5] [(0,.sl 5),(1,.bp 1 0),(2,.sl 4)] ?_;exact oi h▸wr J 1 func153 [(4,.sl 6)]
 refine wa J 1 (YO (σ:=be × Int × Int) (fun st=>⟨[(0,.B 1 0),(1,.c (.s f)),(2,.c (.s g)),(3,.c (.s i)),(4,.S 0),(12,.S 0),(13,.I (d.length:Int)),(14,.I st.2.2)],[(1,.box [.bp 1 0,.sl 4,.I st.2.1] 197),(3,.abs kh),(4,.buf st.1 5)],[(0,.sl (YH Yz) d)],5⟩) (fun n st=>TL N rc f g i d n st.1 st.2.1 st.2.2) (r:=r) (fun _=>rfl) ?_ (fun ih=>?_))
 ·intro n2 ih6;rintro ⟨o,p,q⟩ h;unfold TL at h;refine Yv J 5 h (fun h=>wa J 2 (Yi [] (j1 (o,p) h))) fun h=>?_;refine wO J 7 h fun u v h=>YK J (Xi Yz) v (wa J 12 (YE (σ:=be × Int) (fun st=>⟨[(0,.B 1 0),(1,.c (.s f)),(2,.c (.s g)),(3,.c (.s i)),(4,.S 0),(11,.S 6),(12,.S 0),(13,.I (d.length:Int)),(14,.I q)],[(1,.box [.bp 1 0,.sl 7,.I st.2] 197),(3,.abs kh),(7,.buf st.1 5)],[(0,.sl (YH Yz) d),(6,.sl Yz u)],8⟩) (fun st=>Pa rc q (TL N rc f g i d n2) u st.1 st.2=some r) ?_ (fun j9=>?_)))
  ·rintro ⟨x,y⟩ h;unfold Pa at h;exact wO J 16 h fun z A h=>Yl (rcT u (⟨x,(Yh (y+1))⟩:YG) _ A) [] [(0,.sl 6),(1,.bp 1 0),(2,.sl 7),(3,.sl 3)] (wa J 16 (Yi [(4,.sl 8)] (ih6 (z.Builder,(Yh (z.ZK-1)),(Yh (q+1))) h)))
  refine eB h (fun h=>wa J 4 (YX J [] oS ([f,(str [32,123])]:List be) ?_)) fun h=>?_
  ·have ⟨C,D,h⟩:=ob h;exact Yl (Tc N ([f,(str [32,123])]:List be) (⟨o,p⟩:YG) _ D) [7] [(0,.sl 7),(1,.bp 1 0),(2,.sl 4)] (wa J 1 (Yi [(7,.sl 8)] (j9 (C.Builder,C.ZK) h)))
  refine Yv J 9 h (fun h=>wa J 9 (YX J [] oS ([(str [125,32]),g,(str [32,123])]:List be) ?_)) fun h=>?_
  ·have ⟨G,H,h⟩:=ob h;exact Yl (Tc N ([(str [125,32]),g,(str [32,123])]:List be) (⟨o,p⟩:YG) _ H) [7] [(0,.sl 7),(1,.bp 1 0),(2,.sl 4)] (wa J 1 (Yi [(7,.sl 8)] (j9 (G.Builder,G.ZK) h)))
  refine wB J 5 h (fun h=>wa J 4 (YX J [] oS ([(str [125,32]),i,(str [32,123])]:List be) ?_)) fun h=>wa J 4 (YX J [] oS ([(str [125,32]),g,(str [32,123])]:List be) ?_)
  ·have ⟨R,T,h⟩:=ob h;exact Yl (Tc N ([(str [125,32]),i,(str [32,123])]:List be) (⟨o,p⟩:YG) _ T) [7] [(0,.sl 7),(1,.bp 1 0),(2,.sl 4)] (wa J 1 (Yi [(7,.sl 8)] (j9 (R.Builder,R.ZK) h)))
  have ⟨U,X,h⟩:=ob h;exact Yl (Tc N ([(str [125,32]),g,(str [32,123])]:List be) (⟨o,p⟩:YG) _ X) [7] [(0,.sl 7),(1,.bp 1 0),(2,.sl 4)] (wa J 1 (Yi [(7,.sl 8)] (j9 (U.Builder,U.ZK) h)))
 exact Yi [(4,.sl 2)] (ih N (e.Builder,e.ZK,0) h)
theorem ZwU (rc:(List Yj)->YG->Option YG) (rcT:(∀ (c:(List Yj)) (d:YG) (r:YG),rc c d=some r->Fn aB 95 ⟨4,[.B 1 0,.S 0],[(0,.sl Yz c)],[(1,.box [.bp 1 0,.sl 2,.I d.ZK] 197),(2,.buf d.Builder 5),(3,.abs kh)],5,.t [],[],[(2,.gone),(4,.buf r.Builder 5),(1,.box [.bp 1 0,.sl 4,.I r.ZK] 197),(3,.abs kh)]⟩)) (c:(List Yj)) (d:YG) (r:YG) (h:BZ N rc c d=some r) :
 Fn aB 95 ⟨4,[.B 1 0,.S 0],[(0,.sl Yz c)],[(1,.box [.bp 1 0,.sl 2,.I d.ZK] 197),(2,.buf d.Builder 5),(3,.abs kh)],5,.t [],[],[(2,.gone),(4,.buf r.Builder 5),(1,.box [.bp 1 0,.sl 4,.I r.ZK] 197),(3,.abs kh)]⟩:=Yy func95 rfl fun E F w=>by
 unfold BZ at h;refine wa J 6 (YE (σ:=be × Int) (fun st=>⟨[],[(1,.box [.bp 1 0,.sl 4,.I st.2] 197),(3,.abs kh),(4,.buf st.1 5)],[(0,.sl Yz c)],5⟩) (fun st=>ZdI st.1 st.2=some r) ?_ (fun j1=>?_))
 ·rintro ⟨e,f⟩ h;unfold ZdI at h;cases h;exact Xh J func95 [(4,.sl 4)]
 refine wa J 1 (YO (σ:=be × Int × Int) (fun st=>⟨[(0,.B 1 0),(6,.S 0),(7,.I (c.length:Int)),(8,.I st.2.2)],[(1,.box [.bp 1 0,.sl 4,.I st.2.1] 197),(3,.abs kh),(4,.buf st.1 5)],[(0,.sl Yz c)],5⟩) (fun n st=>Uh N rc c n st.1 st.2.1 st.2.2) (r:=r) (fun _=>rfl) ?_ (fun ih=>?_))
 ·intro n2 ih3;rintro ⟨g,i,j⟩ h;unfold Uh at h;refine Yv J 5 h (fun h=>wa J 2 (Yi [] (j1 (g,i) h))) fun h=>?_;refine wO J 6 h fun k l h=>YK J RX l ?_;refine wB J 15 h (fun h=>?_) fun h=>?_
  ·refine wO J 7 h fun m o h=>Yl (Qn N k.To (str [44,32]) _ o) [] [(0,.sl 6)] (wa J 2 (YX J [] oS ([k.ZB,(str [32,45,62,32]),m,(str [58,32]),k.Zu,(str [59])]:List be) ?_));have ⟨p,q,h⟩:=ob h;exact Yl (Tc N ([k.ZB,(str [32,45,62,32]),m,(str [58,32]),k.Zu,(str [59])]:List be) (⟨g,i⟩:YG) _ q) [9] [(0,.sl 9),(1,.bp 1 0),(2,.sl 4)] (YJ (wa J 6 (Yi [(4,.sl 10)] (ih3 (p.Builder,p.ZK,(Yh (j+1))) h))))
  refine wB J 6 h (fun h=>?_) fun h=>?_
  ·refine Yv J 7 h (fun h=>?_) fun h=>?_
   ·refine wO J 5 h fun s u h=>Wk u ?_;exact wO J 2 h fun v x h=>Yl (Zcx N rc rcT s (str [111,114]) (str []) k.ZD (⟨g,i⟩:YG) _ x) [] [(0,.sl 7),(1,.bp 1 0),(2,.sl 4),(3,.sl 3)] (wa J 7 (Yi [(4,.sl 9)] (ih3 (v.Builder,v.ZK,(Yh (j+1))) h)))
   refine wO J 5 h fun y z h=>Wk z ?_;have ⟨A,C,h⟩:=ob h;refine Wk C ?_;refine wO J 2 h fun D G h=>Yl (HT N k.ZC _ G) [] [(0,.sl 3)] ?_;have ⟨H,R,h⟩:=ob h;refine Wk R ?_;exact wO J 2 h fun T U h=>Yl (Zcx N rc rcT H (str [111,114]) (str [101,108,115,101]) k.ZD (⟨g,i⟩:YG) _ U) [] [(0,.sl 7),(1,.bp 1 0),(2,.sl 4),(3,.sl 3)] (YJ (wa J 6 (Yi [(4,.sl 9)] (ih3 (T.Builder,T.ZK,(Yh (j+1))) h))))
  refine wB J 6 h (fun h=>?_) fun h=>?_
  ·refine wO J 5 h fun X Y h=>Wk Y ?_;exact wO J 2 h fun Z a0 h=>Yl (Zcx N rc rcT X (str []) (str []) k.ZD (⟨g,i⟩:YG) _ a0) [] [(0,.sl 7),(1,.bp 1 0),(2,.sl 4),(3,.sl 3)] (wa J 7 (Yi [(4,.sl 9)] (ih3 (Z.Builder,Z.ZK,(Yh (j+1))) h)))
  refine wB J 6 h (fun h=>wa J 5 (YX J [] oS ([(str [97,103,97,105,110,32]),k.Zu,(str [59])]:List be) ?_)) fun h=>?_
  ·have ⟨b0,c0,h⟩:=ob h;exact Yl (Tc N ([(str [97,103,97,105,110,32]),k.Zu,(str [59])]:List be) (⟨g,i⟩:YG) _ c0) [9] [(0,.sl 9),(1,.bp 1 0),(2,.sl 4)] (wa J 7 (Yi [(4,.sl 10)] (ih3 (b0.Builder,b0.ZK,(Yh (j+1))) h)))
  refine wB J 6 h (fun h=>?_) fun h=>?_
  ·exact wO J 5 h fun e0 g0 h=>Yl (Zcx N rc rcT (str [112,97,114]) (str [97,110,100]) (str []) k.ZD (⟨g,i⟩:YG) _ g0) [] [(0,.sl 7),(1,.bp 1 0),(2,.sl 4),(3,.sl 3)] (wa J 7 (Yi [(4,.sl 9)] (ih3 (e0.Builder,e0.ZK,(Yh (j+1))) h)))
  refine Yv J 6 h (fun h=>wa J 8 (Yi [] (ih3 (g,i,(Yh (j+1))) h))) fun h=>?_;refine wO J 7 h fun i0 j0 h=>Yl (Qn N k.To (str [44,32]) _ j0) [] [(0,.sl 6)] (wa J 2 (YX J [] oS ([(str [99,97,108,108,32]),k.Zu,(str [40]),i0,(str [41,32,97,115,32]),k.As,(str [59])]:List be) ?_));have ⟨k0,l0,h⟩:=ob h;exact Yl (Tc N ([(str [99,97,108,108,32]),k.Zu,(str [40]),i0,(str [41,32,97,115,32]),k.As,(str [59])]:List be) (⟨g,i⟩:YG) _ l0) [9] [(0,.sl 9),(1,.bp 1 0),(2,.sl 4)] (YJ (wa J 6 (Yi [(4,.sl 10)] (ih3 (k0.Builder,k0.ZK,(Yh (j+1))) h))))
 exact Yi [(4,.sl 2)] (ih N (d.Builder,d.ZK,0) h)
theorem ZwV:∀ (N:Nat) (c:(List Yj)) (d:YG) (r:YG) (h:ZdJ N c d=some r),Fn aB 95 ⟨4,[.B 1 0,.S 0],[(0,.sl Yz c)],[(1,.box [.bp 1 0,.sl 2,.I d.ZK] 197),(2,.buf d.Builder 5),(3,.abs kh)],5,.t [],[],[(2,.gone),(4,.buf r.Builder 5),(1,.box [.bp 1 0,.sl 4,.I r.ZK] 197),(3,.abs kh)]⟩:=by
 intro N;induction N with
 | zero=>intros;rename_i h;cases h
 | succ N ih=>intro c d r h;exact ZwU N (ZdJ N) ih c d r h
theorem ZmU (c:(List Yj)) (d:YG) (r:YG) (h:Qp N c d=some r):Fn aB 95 ⟨4,[.B 1 0,.S 0],[(0,.sl Yz c)],[(1,.box [.bp 1 0,.sl 2,.I d.ZK] 197),(2,.buf d.Builder 5),(3,.abs kh)],5,.t [],[],[(2,.gone),(4,.buf r.Builder 5),(1,.box [.bp 1 0,.sl 4,.I r.ZK] 197),(3,.abs kh)]⟩:=ZwV N c d r h
theorem ZwW (d:YG) (r:be) (h:Gy N d=some r) :
 Fn aB 96 ⟨2,[.B 0 0],[],[(0,.box [.bp 0 0,.sl 1,.I d.ZK] 197),(1,.buf d.Builder 5)],2,.c (.s r),[],[(0,.box [.bp 0 0,.sl 1,.I d.ZK] 197),(1,.gone)]⟩:=Yy func96 rfl fun E F w=>by
 unfold Gy at h;refine wO J 10 h fun e f h=>eUd (ty:=5) (ZaT f) (wa J 4 (LM (sb:=d.Builder) (ty:=5) J ?_));have ⟨g,i,h⟩:=ob h;refine eUs (ty:=5) (ZaT i) (wa J 1 (YJ ?_));cases h;exact Xh J func96 []
theorem ZwX (d:YG) (r:be) (h:Zhd N d=some r) :
 Fn aB 96 ⟨1,[.B 0 0],[],[(0,.box [.v (.pointer none),.nil,.I d.ZK] 197)],1,.c (.s r),[],[(0,.box [.v (.pointer none),.nil,.I d.ZK] 197)]⟩:=Yy func96 rfl fun E F w=>by
 unfold Zhd at h;refine wa J 10 (eUn (wa J 5 (eUz (wa J 1 (YJ ?_)))));cases h;exact Xh J func96 []
theorem Zwj (d:(List Ym)) (r:be) (h:By N d=some r) :
 Fn aB 43 ⟨2,[.S 0],[(0,.sl YM d)],[(1,.abs kh)],2,.c (.s r),[],[(1,.abs kh)]⟩:=Yy func43 rfl fun E F w=>by
 unfold By at h;refine wa J 18 (ePl ?_);refine Yv J 5 h (fun h=>?_) fun h=>?_
 ·refine wO J 7 h fun e f h=>Yl (ZwX N (⟨ao,0⟩:YG) _ f) [] [(0,.bp 2 0)] ?_;exact oi h▸wr J 2 func43 []
 refine wO J 6 h fun g i h=>YK J Vr i ?_;refine wO J 11 h fun j k h=>Yl (Qn N g.ZE (str [44,32]) _ k) [] [(0,.sl 4)] (YX J [] oS ([(str [112,114,111,116,111,99,111,108,32]),g.Zu,(str [40]),j,(str [41,32,123])]:List be) ?_);have ⟨l,m,h⟩:=ob h;refine Yl (ZwT N ([(str [112,114,111,116,111,99,111,108,32]),g.Zu,(str [40]),j,(str [41,32,123])]:List be) (⟨ao,0⟩:YG) _ m) [8] [(0,.sl 8),(1,.bp 2 0)] (YJ (wa J 19 (YE (σ:=be × Int) (fun st=>(Zm7 kh st.2 g.Zu st.1 d g [(3,.B 2 0),(5,.B 7 0),(10,.S 0),(11,.I (d.length:Int)),(12,.I 0)])) (fun st=>BA N d g st.1 st.2=some r) ?_ (fun j15=>?_))))
 ·rintro ⟨o,p⟩ h;unfold BA at h;refine wO J 5 h fun q t h=>Yl (ZmU N g.ZG (⟨o,p⟩:YG) _ t) [] [(0,.sl 6),(1,.bp 2 0),(2,.sl 10),(3,.sl 1)] (wa J 14 (YX J [] oS ([(str [125])]:List be) ?_));have ⟨u,v,h⟩:=ob h;refine Yl (Tc N ([(str [125])]:List be) (⟨q.Builder,(Yh (q.ZK-1))⟩:YG) _ v) [12] [(0,.sl 12),(1,.bp 2 0),(2,.sl 11)] (wa J 6 (ZeM (σ:=be × Int × Int) (fun st=>⟨[(3,.B 2 0),(10,.S 0),(11,.I (d.length:Int)),(12,.I st.2.2)],[(1,.abs kh),(2,.box [.bp 2 0,.sl 14,.I st.2.1] 197),(14,.buf st.1 5)],[(0,.sl YM d)],15⟩) (fun n st=>TP N d n st.1 st.2.1 st.2.2) (r:=r) (fun _=>rfl) ?_ (fun ih=>?_)))
  ·intro n15 ih17;rintro ⟨x,y,z⟩ h;unfold TP at h;refine Yv J 5 h (fun h=>?_) fun h=>?_
   ·refine wO J 7 h fun A C h=>Yl (ZwW N (⟨x,y⟩:YG) _ C) [] [(0,.bp 2 0),(1,.sl 14)] ?_;exact oi h▸wr J 2 func43 []
   refine wO J 6 h fun D G h=>YK J Vr G ?_;refine wO J 11 h fun H R h=>Yl (Qn N D.ZE (str [44,32]) _ R) [] [(0,.sl 16)] (YX J [] oS ([(str [112,114,111,116,111,99,111,108,32]),D.Zu,(str [40]),H,(str [41,32,123])]:List be) ?_);have ⟨T,U,h⟩:=ob h;refine Yl (Tc N ([(str [112,114,111,116,111,99,111,108,32]),D.Zu,(str [40]),H,(str [41,32,123])]:List be) (⟨x,y⟩:YG) _ U) [20] [(0,.sl 20),(1,.bp 2 0),(2,.sl 14)] (YJ (wa J 19 (YE (σ:=be × Int) (fun st=>(Zm8 kh st.2 D.Zu st.1 d D [(3,.B 2 0),(5,.B 19 0),(10,.S 0),(11,.I (d.length:Int)),(12,.I z)])) (fun st=>Bz N z (TP N d n15) D st.1 st.2=some r) ?_ (fun j24=>?_))))
   ·rintro ⟨X,Y⟩ h;unfold Bz at h;refine wO J 5 h fun Z a0 h=>Yl (ZmU N D.ZG (⟨X,Y⟩:YG) _ a0) [] [(0,.sl 18),(1,.bp 2 0),(2,.sl 22),(3,.sl 1)] (wa J 14 (YX J [] oS ([(str [125])]:List be) ?_));have ⟨b0,c0,h⟩:=ob h;exact Yl (Tc N ([(str [125])]:List be) (⟨Z.Builder,(Yh (Z.ZK-1))⟩:YG) _ c0) [24] [(0,.sl 24),(1,.bp 2 0),(2,.sl 23)] (wa J 6 (Yi [(14,.sl 25)] (ih17 (b0.Builder,b0.ZK,(Yh (z+1))) h)))
   refine wa J 1 (YO (σ:=be × Int × Int) (fun st=>(Zm8 kh st.2.1 D.Zu st.1 d D [(3,.B 2 0),(5,.B 19 0),(10,.S 0),(11,.I (d.length:Int)),(12,.I z),(32,.S 17),(33,.I (D.ZF.length:Int)),(34,.I st.2.2)])) (fun n st=>MS N z (TP N d n15) D n st.1 st.2.1 st.2.2) (r:=r) (fun _=>rfl) ?_ (fun ih=>?_))
   ·intro n17 ih26;rintro ⟨e0,g0,i0⟩ h;unfold MS at h;refine Yv J 5 h (fun h=>wa J 2 (Yi [] (j24 (e0,g0) h))) fun h=>?_;refine wO J 6 h fun j0 k0 h=>YK J UB k0 ?_;exact wO J 7 h fun l0 m0 h=>Yl (ZmT N j0 (⟨e0,g0⟩:YG) _ m0) [] [(0,.sl 24),(1,.sl 25),(2,.bp 2 0),(3,.sl 22),(4,.sl 1)] (wa J 6 (Yi [(22,.sl 27)] (ih26 (l0.Builder,l0.ZK,(Yh (i0+1))) h)))
   exact Yi [(22,.sl 21)] (ih N (T.Builder,(Yh (T.ZK+1)),0) h)
  exact Yi [(14,.sl 13)] (ih N (u.Builder,u.ZK,(Yh ((0:Int)+(1:Int)))) h)
 refine wa J 1 (YO (σ:=be × Int × Int) (fun st=>(Zm7 kh st.2.1 g.Zu st.1 d g [(3,.B 2 0),(5,.B 7 0),(10,.S 0),(11,.I (d.length:Int)),(12,.I 0),(32,.S 5),(33,.I (g.ZF.length:Int)),(34,.I st.2.2)])) (fun n st=>MT N d g n st.1 st.2.1 st.2.2) (r:=r) (fun _=>rfl) ?_ (fun ih=>?_))
 ·intro n18 ih27;rintro ⟨o0,p0,q0⟩ h;unfold MT at h;refine Yv J 5 h (fun h=>wa J 2 (Yi [] (j15 (o0,p0) h))) fun h=>?_;refine wO J 6 h fun s0 t0 h=>YK J UB t0 ?_;exact wO J 7 h fun u0 v0 h=>Yl (ZmT N s0 (⟨o0,p0⟩:YG) _ v0) [] [(0,.sl 12),(1,.sl 13),(2,.bp 2 0),(3,.sl 10),(4,.sl 1)] (wa J 6 (Yi [(10,.sl 15)] (ih27 (u0.Builder,u0.ZK,(Yh (q0+1))) h)))
 exact Yi [(10,.sl 9)] (ih N (l.Builder,(Yh (l.ZK+1)),0) h)
theorem ZmD (c:(List Ym)) (r:Bool) (h:MF N c=some r) :
 Fn aB 16 ⟨2,[.S 0],[(0,.sl YM c)],[(1,.abs kh)],2,.O r,[],[(1,.abs kh)]⟩:=Yy func16 rfl fun E F w=>by
 unfold MF at h;refine wB J 11 h (fun h=>oi h▸wr J 5 func16 []) fun h=>wa J 9 (YE (σ:=Unit) (fun st=>⟨[(0,.S 0)],[(1,.abs kh)],[(0,.sl YM c)],2⟩) (fun st=>ZcK N c=some r) ?_ (fun j1=>?_))
 ·intro _ h;unfold ZcK at h;refine wO J 3 h fun d e h=>Yl (Zwj N c _ e) [] [(0,.sl 0),(1,.sl 1)] ?_;exact oi h▸wr J 4 func16 []
 refine wa J 1 (YO (σ:=Int) (fun st=>⟨[(0,.S 0),(11,.S 0),(12,.I (c.length:Int)),(13,.I st)],[(1,.abs kh)],[(0,.sl YM c)],2⟩) (fun n st=>Qh N c n st) (r:=r) (fun _=>rfl) ?_ (fun ih=>?_))
 ·intro n12 ih12;intro f h;unfold Qh at h;refine Yv J 5 h (fun h=>wa J 2 (Yi [] (j1 () h))) fun h=>?_;refine wO J 6 h fun g i h=>YK J Vr i ?_;refine wO J 14 h fun j k h=>Yl (Ss N g.Zu _ k) [] [] ?_;refine wB J 2 h (fun h=>oi h▸wr J 23 func16 []) fun h=>?_;refine wO J 2 h fun l m h=>Yl (Zg1 N g.ZE 6 _ m) [] [(0,.sl 3)] ?_;refine wB J 3 h (fun h=>oi h▸wr J 17 func16 []) fun h=>?_;refine wB J 6 h (fun h=>oi h▸wr J 11 func16 []) fun h=>?_;refine wO J 2 h fun o p h=>Yl (Zwg N g.ZG 1 0 _ p) [] [(0,.sl 5),(1,.bp 7 0)] ?_;refine wB J 3 h (fun h=>oi h▸wr J 5 func16 []) fun h=>wa J 9 (YE (σ:=Unit) (fun st=>⟨[(0,.S 0),(11,.S 0),(12,.I (c.length:Int)),(13,.I f)],[(1,.abs kh)],[(0,.sl YM c)],8⟩) (fun st=>ZcL f (Qh N c n12)=some r) ?_ (fun j19=>?_))
  ·intro _ h;unfold ZcL at h;exact wa J 5 (Yi [] (ih12 (Yh (f+1)) h))
  refine wa J 1 (YO (σ:=Int) (fun st=>⟨[(0,.S 0),(11,.S 0),(12,.I (c.length:Int)),(13,.I f),(40,.S 4),(41,.I (g.ZF.length:Int)),(42,.I st)],[(1,.abs kh)],[(0,.sl YM c),(4,.sl Y9 g.ZF)],8⟩) (fun n st=>MI N f (Qh N c n12) g n st) (r:=r) (fun _=>rfl) ?_ (fun ih=>?_))
  ·intro n14 ih21;intro q h;unfold MI at h;refine Yv J 5 h (fun h=>wa J 2 (Yi [] (j19 () h))) fun h=>?_;refine wO J 6 h fun s t h=>YK J UB t ?_;refine wO J 7 h fun u v h=>Yl (Zwi N s _ v) [] [(0,.sl 9),(1,.sl 10)] ?_;exact wB J 2 h (fun h=>oi h▸wr J 5 func16 []) fun h=>wa J 7 (Yi [] (ih21 (Yh (q+1)) h))
  exact Yi [] (ih N 0 h)
 exact Yi [] (ih N 0 h)
theorem Zw6 (d:be) (r:(List Ym) × Int × Int) (h:z9 N d=some r) :
 Fn aB 9 ⟨1,[.c (.s d)],[],[(0,.abs kh)],2,.t [.inl (.sl 1),.inl (.I r.2.1),.inl (.I r.2.2)],[(1,.sl YM r.1)],[(0,.abs kh)]⟩:=Yy func9 rfl fun E F w=>by
 unfold z9 at h;refine wO J 9 h fun e f h=>Yl (Zvz N d _ f) [] [] ?_;refine wB J 14 h (fun h=>oi h▸wr J 9 func9 [(1,.nil)]) fun h=>wa J 12 (YE (σ:=(List Ym) × (List YN) × Int × Int × Int × Int) (fun st=>⟨[(2,.S 3),(6,.B 2 0)],[(0,.abs kh),(2,.box [.sl 4,.I st.2.2.1,.I st.2.2.2.1,.I st.2.2.2.2.1,.I st.2.2.2.2.2] 66),(3,.own YM st.1 true)],[(4,.sl Y2 st.2.1)],5⟩) (fun st=>ZdP N st.1 st.2.1 st.2.2.1 st.2.2.2.1 st.2.2.2.2.1 st.2.2.2.2.2=some r) ?_ (fun j1=>?_))
 ·rintro ⟨g,i,j,k,l,m⟩ h;unfold ZdP at h;refine wB J 9 h (fun h=>wa J 14 (YJ ?_)) fun h=>?_
  ·cases h;exact Xh J func9 [(1,.nil)]
  refine wO J 6 h fun o p h=>Yl (ZmD N g _ p) [3] [(0,.sl 3),(1,.sl 0)] ?_;exact wB J 2 h (fun h=>oi h▸wr J 7 func9 [(1,.nil)]) fun h=>oi h▸wr J 9 func9 [(1,.sl 3)]
 refine wa J 1 (YO (σ:=(List Ym) × (List YN) × Int × Int × Int × Int) (fun st=>⟨[(2,.S 3),(5,.S 1),(6,.B 2 0)],[(0,.abs kh),(2,.box [.sl 4,.I st.2.2.1,.I st.2.2.2.1,.I st.2.2.2.2.1,.I st.2.2.2.2.2] 66),(3,.own YM st.1 true)],[(1,.sl Y2 e.1),(4,.sl Y2 st.2.1)],5⟩) (fun n st=>ZdQ N e n st.1 st.2.1 st.2.2.1 st.2.2.2.1 st.2.2.2.2.1 st.2.2.2.2.2) (r:=r) (fun _=>rfl) ?_ (fun ih=>?_))
 ·intro n2 ih3;rintro ⟨q,u,v,x,y,z⟩ h;unfold ZdQ at h;refine Yv J 11 h (fun h=>wa J 9 (Yi [] (j1 (q,u,v,x,y,z) h))) fun h=>?_;refine Yv J 7 h (fun h=>wa J 2 (Yi [] (j1 (q,u,v,x,y,z) h))) fun h=>?_;refine wO J 6 h fun A C h=>Yl (ZvE N (⟨u,v,x,y,z⟩:Yw) _ C) [] [(0,.bp 2 0),(1,.sl 4)] (YX J [] Vr ([A.1]:List Ym) ?_);have ⟨D,G,h⟩:=ob h;exact Xv J YM G (wa J 3 (Yi [(3,.sl 10),(4,.sl 8)] (ih3 (D,A.2.l',A.2.n',A.2.end',A.2.ZI,A.2.ZJ) h)))
 exact Vn [1] (Yi [(3,.nil),(4,.sl 1)] (ih N (([]:List Ym),e.1,0,(d.size:Int),0,0) h))
theorem Zwm (c:Ym) (d:Ym) (r:Bool) (h:Zde N c d=some r) :
 Fn aB 45 ⟨7,[.a [.s c.Zu,.sl 0,.sl 1,.sl 2],.B 3 0],(Xe 0 1 2 c (Xe 4 5 6 d [])),[(3,.box [.s d.Zu,.sl 4,.sl 5,.sl 6] 56)],7,.O r,[],[(3,.box [.s d.Zu,.sl 4,.sl 5,.sl 6] 56)]⟩:=Yy func45 rfl fun E F w=>by
 unfold Zde at h;exact oi h▸wr J 14 func45 []
theorem ZwZ (d:(List Ym)) (e:Ym) (r:Int) (h:B3 N d e=some r) :
 Fn aB 97 ⟨5,[.S 0,.c (.cl 45 [] [1])],((0,.sl YM d)::Xe 2 3 4 e []),[(1,.box [.s e.Zu,.sl 2,.sl 3,.sl 4] 56)],5,.I r,[],[(1,.box [.s e.Zu,.sl 2,.sl 3,.sl 4] 56)]⟩:=Yy func97 rfl fun E F w=>by
 unfold B3 at h;refine wa J 11 (YE (σ:=Unit) (fun st=>(zz5 e.Zu d e [])) (fun st=>ZdK=some r) ?_ (fun j1=>?_))
 ·intro _ h;unfold ZdK at h;exact oi h▸wr J 4 func97 []
 refine wa J 1 (YO (σ:=Int) (fun st=>(zz5 e.Zu d e [(0,.S 0),(1,.c (.cl 45 [] [1])),(7,.I (d.length:Int)),(8,.I st)])) (fun n st=>Le N d e n st) (r:=r) (fun _=>rfl) ?_ (fun ih=>?_))
 ·intro n2 ih3;intro f h;unfold Le at h;refine Yv J 5 h (fun h=>wa J 2 (Yi [] (j1 () h))) fun h=>?_;refine wO J 14 h fun g i h=>YK J Vr i ?_;refine wO J 1 h fun j k h=>Yl (Zwm N g e _ k) [] [(0,.sl 6),(1,.sl 7),(2,.sl 8),(3,.bp 1 0),(4,.sl 2),(5,.sl 3),(6,.sl 4)] ?_;exact wB J 1 h (fun h=>oi h▸wr J 6 func97 []) fun h=>wa J 7 (Yi [] (ih3 (Yh (f+1)) h))
 exact Yi [] (ih N 0 h)
theorem Zwk (d:(List Ym)) (e:Ym) (r:Bool) (h:Gd N d e=some r) :
 Fn aB 44 ⟨5,[.S 0,.c (.cl 45 [] [1])],((0,.sl YM d)::Xe 2 3 4 e []),[(1,.box [.s e.Zu,.sl 2,.sl 3,.sl 4] 56)],5,.O r,[],[(1,.box [.s e.Zu,.sl 2,.sl 3,.sl 4] 56)]⟩:=Yy func44 rfl fun E F w=>by
 unfold Gd at h;refine wO J 8 h fun f g h=>Yl (ZwZ N d e _ g) [] [(0,.sl 0),(1,.bp 1 0),(2,.sl 2),(3,.sl 3),(4,.sl 4)] ?_;exact oi h▸wr J 3 func44 []
theorem ZmK (c:(List be)) (d:Int) (r:Bool) (h:Ge N c d=some r) :
 Fn aB 47 ⟨1,[.S 0,.I d],[(0,.sl rS c)],[],1,.O r,[],[]⟩:=Yy func47 rfl fun E F w=>by
 unfold Ge at h;refine wO J 8 h fun e f h=>G6 J rS f ?_;refine wO J 2 h fun g i h=>YK J oS i ?_;refine wO J 1 h fun j k h=>Yl (Po N e g _ k) [] [(0,.sl 1)] (wa J 1 (YJ ?_));cases h;exact Xh J func47 []
theorem Zw5 (c:Ys) (d:Ys) (r:Bool) (h:ZdO N c d=some r) :
 Fn aB 99 ⟨5,[.a [.s c.Zu,.sl 0,.sl 1],.B 2 0],(XU 0 1 c (XU 3 4 d [])),[(2,.box [.s d.Zu,.sl 3,.sl 4] 97)],5,.O r,[],[(2,.box [.s d.Zu,.sl 3,.sl 4] 97)]⟩:=Yy func99 rfl fun E F w=>by
 unfold ZdO at h;exact oi h▸wr J 14 func99 []
theorem Zvd (d:(List Ys)) (e:Ys) (r:Int) (h:D3 N d e=some r) :
 Fn aB 125 ⟨4,[.S 0,.c (.cl 99 [] [1])],((0,.sl Y9 d)::XU 2 3 e []),[(1,.box [.s e.Zu,.sl 2,.sl 3] 97)],4,.I r,[],[(1,.box [.s e.Zu,.sl 2,.sl 3] 97)]⟩:=Yy func125 rfl fun E F w=>by
 unfold D3 at h;refine wa J 11 (YE (σ:=Unit) (fun st=>⟨[],[(1,.box [.s e.Zu,.sl 2,.sl 3] 97)],((0,.sl Y9 d)::XU 2 3 e []),4⟩) (fun st=>Zb1=some r) ?_ (fun j1=>?_))
 ·intro _ h;unfold Zb1 at h;exact oi h▸wr J 4 func125 []
 refine wa J 1 (YO (σ:=Int) (fun st=>⟨[(0,.S 0),(1,.c (.cl 99 [] [1])),(7,.I (d.length:Int)),(8,.I st)],[(1,.box [.s e.Zu,.sl 2,.sl 3] 97)],((0,.sl Y9 d)::XU 2 3 e []),4⟩) (fun n st=>Mq N d e n st) (r:=r) (fun _=>rfl) ?_ (fun ih=>?_))
 ·intro n2 ih3;intro f h;unfold Mq at h;refine Yv J 5 h (fun h=>wa J 2 (Yi [] (j1 () h))) fun h=>?_;refine wO J 14 h fun g i h=>YK J UB i ?_;refine wO J 1 h fun j k h=>Yl (Zw5 N g e _ k) [] [(0,.sl 5),(1,.sl 6),(2,.bp 1 0),(3,.sl 2),(4,.sl 3)] ?_;exact wB J 1 h (fun h=>oi h▸wr J 6 func125 []) fun h=>wa J 7 (Yi [] (ih3 (Yh (f+1)) h))
 exact Yi [] (ih N 0 h)
theorem Zw3 (d:(List Ys)) (e:Ys) (r:Bool) (h:B7 N d e=some r) :
 Fn aB 98 ⟨4,[.S 0,.c (.cl 99 [] [1])],((0,.sl Y9 d)::XU 2 3 e []),[(1,.box [.s e.Zu,.sl 2,.sl 3] 97)],4,.O r,[],[(1,.box [.s e.Zu,.sl 2,.sl 3] 97)]⟩:=Yy func98 rfl fun E F w=>by
 unfold B7 at h;refine wO J 8 h fun f g h=>Yl (Zvd N d e _ g) [] [(0,.sl 0),(1,.bp 1 0),(2,.sl 2),(3,.sl 3)] ?_;exact oi h▸wr J 3 func98 []
theorem ZuQ (c:T3) (d:T3) (r:Bool) (h:ZbH N c d=some r) :
 Fn aB 101 ⟨1,[.a (VZ c),.B 0 0],[],[(0,.box (VZ d) 138)],1,.O r,[],[(0,.box (VZ d) 138)]⟩:=Yy func101 rfl fun E F w=>by
 unfold ZbH at h;exact oi h▸wr J 14 func101 []
theorem Zwy (d:(List T3)) (e:T3) (r:Int) (h:BP N d e=some r) :
 Fn aB 58 ⟨2,[.S 0,.c (.cl 101 [] [1])],[(0,.sl XJ d)],[(1,.box (VZ e) 138)],2,.I r,[],[(1,.box (VZ e) 138)]⟩:=Yy func58 rfl fun E F w=>by
 unfold BP at h;refine wa J 11 (YE (σ:=Unit) (fun st=>⟨[],[(1,.box (VZ e) 138)],[(0,.sl XJ d)],2⟩) (fun st=>Zdl=some r) ?_ (fun j1=>?_))
 ·intro _ h;unfold Zdl at h;exact oi h▸wr J 4 func58 []
 refine wa J 1 (YO (σ:=Int) (fun st=>⟨[(0,.S 0),(1,.c (.cl 101 [] [1])),(7,.I (d.length:Int)),(8,.I st)],[(1,.box (VZ e) 138)],[(0,.sl XJ d)],2⟩) (fun n st=>MW N d e n st) (r:=r) (fun _=>rfl) ?_ (fun ih=>?_))
 ·intro n2 ih3;intro f h;unfold MW at h;refine Yv J 5 h (fun h=>wa J 2 (Yi [] (j1 () h))) fun h=>?_;refine wO J 14 h fun g i h=>YK J Sh i ?_;refine wO J 1 h fun j k h=>Yl (ZuQ N g e _ k) [] [(0,.bp 1 0)] ?_;exact wB J 1 h (fun h=>oi h▸wr J 6 func58 []) fun h=>wa J 7 (Yi [] (ih3 (Yh (f+1)) h))
 exact Yi [] (ih N 0 h)
theorem ZuP (d:(List T3)) (e:T3) (r:Bool) (h:DQ N d e=some r) :
 Fn aB 100 ⟨2,[.S 0,.c (.cl 101 [] [1])],[(0,.sl XJ d)],[(1,.box (VZ e) 138)],2,.O r,[],[(1,.box (VZ e) 138)]⟩:=Yy func100 rfl fun E F w=>by
 unfold DQ at h;refine wO J 8 h fun f g h=>Yl (Zwy N d e _ g) [] [(0,.sl 0),(1,.bp 1 0)] ?_;exact oi h▸wr J 3 func100 []
theorem ZvA (c:Ys) (d:Y5) (r:Bool) (h:Zcz N c d=some r) :
 Fn aB 154 ⟨3,[.a [.s c.Zu,.sl 0,.sl 1],.B 2 0],(XU 0 1 c []),[(2,.box (X2 d) 102)],3,.O r,[],[(2,.box (X2 d) 102)]⟩:=Yy func154 rfl fun E F w=>by
 unfold Zcz at h;exact oi h▸wr J 14 func154 []
theorem Zve (d:(List Ys)) (e:Y5) (r:Int) (h:D4 N d e=some r) :
 Fn aB 125 ⟨2,[.S 0,.c (.cl 154 [] [1])],[(0,.sl Y9 d)],[(1,.box (X2 e) 102)],2,.I r,[],[(1,.box (X2 e) 102)]⟩:=Yy func125 rfl fun E F w=>by
 unfold D4 at h;refine wa J 11 (YE (σ:=Unit) (fun st=>⟨[],[(1,.box (X2 e) 102)],[(0,.sl Y9 d)],2⟩) (fun st=>Zb2=some r) ?_ (fun j1=>?_))
 ·intro _ h;unfold Zb2 at h;exact oi h▸wr J 4 func125 []
 refine wa J 1 (YO (σ:=Int) (fun st=>⟨[(0,.S 0),(1,.c (.cl 154 [] [1])),(7,.I (d.length:Int)),(8,.I st)],[(1,.box (X2 e) 102)],[(0,.sl Y9 d)],2⟩) (fun n st=>Mr N d e n st) (r:=r) (fun _=>rfl) ?_ (fun ih=>?_))
 ·intro n2 ih3;intro f h;unfold Mr at h;refine Yv J 5 h (fun h=>wa J 2 (Yi [] (j1 () h))) fun h=>?_;refine wO J 14 h fun g i h=>YK J UB i ?_;refine wO J 1 h fun j k h=>Yl (ZvA N g e _ k) [] [(0,.sl 3),(1,.sl 4),(2,.bp 1 0)] ?_;exact wB J 1 h (fun h=>oi h▸wr J 6 func125 []) fun h=>wa J 7 (Yi [] (ih3 (Yh (f+1)) h))
 exact Yi [] (ih N 0 h)
theorem ZvB (c:T3) (d:Y5) (r:Bool) (h:ZcA N c d=some r) :
 Fn aB 155 ⟨1,[.a (VZ c),.B 0 0],[],[(0,.box (X2 d) 102)],1,.O r,[],[(0,.box (X2 d) 102)]⟩:=Yy func155 rfl fun E F w=>by
 unfold ZcA at h;exact oi h▸wr J 14 func155 []
theorem Zwz (d:(List T3)) (e:Y5) (r:Int) (h:BQ N d e=some r) :
 Fn aB 58 ⟨2,[.S 0,.c (.cl 155 [] [1])],[(0,.sl XJ d)],[(1,.box (X2 e) 102)],2,.I r,[],[(1,.box (X2 e) 102)]⟩:=Yy func58 rfl fun E F w=>by
 unfold BQ at h;refine wa J 11 (YE (σ:=Unit) (fun st=>(zz6 e d [])) (fun st=>Zdm=some r) ?_ (fun j1=>?_))
 ·intro _ h;unfold Zdm at h;exact oi h▸wr J 4 func58 []
 refine wa J 1 (YO (σ:=Int) (fun st=>(zz6 e d [(0,.S 0),(1,.c (.cl 155 [] [1])),(7,.I (d.length:Int)),(8,.I st)])) (fun n st=>MX N d e n st) (r:=r) (fun _=>rfl) ?_ (fun ih=>?_))
 ·intro n2 ih3;intro f h;unfold MX at h;refine Yv J 5 h (fun h=>wa J 2 (Yi [] (j1 () h))) fun h=>?_;refine wO J 14 h fun g i h=>YK J Sh i ?_;refine wO J 1 h fun j k h=>Yl (ZvB N g e _ k) [] [(0,.bp 1 0)] ?_;exact wB J 1 h (fun h=>oi h▸wr J 6 func58 []) fun h=>wa J 7 (Yi [] (ih3 (Yh (f+1)) h))
 exact Yi [] (ih N 0 h)
theorem ZuR (c:Yp) (d:Ys) (e:Y5) (r:Int) (h:DR N c d e=some r) :
 Fn aB 102 ⟨8,[.B 0 0,.a [.s d.Zu,.sl 6,.sl 7],.a (X2 e)],(Ma 1 2 3 4 5 c (XU 6 7 d [])),[(0,.box (XO 1 2 3 4 5 c) 125)],8,.I r,[],[(0,.box (XO 1 2 3 4 5 c) 125)]⟩:=Yy func102 rfl fun E F w=>by
 unfold DR at h;refine wa J 13 (YE (σ:=be × (List T3) × (List Xw)) (fun st=>⟨[(4,.B 8 0),(5,.B 9 0)],[(0,.box (XO 1 2 3 4 5 c) 125),(8,.box [.s st.1,.sl 10,.sl 11] 97),(9,.box (X2 e) 102)],(Ma 1 2 3 4 5 c (XU 6 7 d [(10,.sl XJ st.2.1),(11,.sl Sk st.2.2)])),12⟩) (fun st=>HJ N e st.1 st.2.1 st.2.2=some r) ?_ (fun j1=>?_))
 ·rintro ⟨f,g,i⟩ h;unfold HJ at h;refine wO J 5 h fun j k h=>Yl (Zwz N g e _ k) [] [(0,.sl 10),(1,.bp 9 0)] ?_;refine wB J 8 h (fun h=>oi h▸wr J 5 func102 []) fun h=>?_;refine wO J 7 h fun l m h=>YK J Sh m ?_;exact oi h▸wr J 5 func102 []
 refine Wj h (fun h=>wa J 2 (Yi [(10,.sl 6),(11,.sl 7)] (j1 (d.Zu,d.Zz,d.ZA) h))) fun h=>?_;refine wO J 9 h fun o p h=>Yl (Zve N c.p'.ZF e _ p) [] [(0,.sl 3),(1,.bp 9 0)] ?_;refine wB J 8 h (fun h=>oi h▸wr J 5 func102 []) fun h=>?_;exact wO J 9 h fun q t h=>YK J UB t (wa J 3 (Yi [(10,.sl 11),(11,.sl 12)] (j1 (q.Zu,q.Zz,q.ZA) h)))
theorem ZuS (c:(List YS)) (r:(List YS)) (h:ZbI N c=some r) :
 Fn aB 103 ⟨1,[.S 0],[(0,.sl X9 c)],[],2,.S 1,[],[(1,.own X9 r true)]⟩:=Yy func103 rfl fun E F w=>by
 unfold ZbI at h;refine wa J 8 (eNi X9 c false ?_);intro nb hnb;cases nb
 ·refine wa J 5 (YX J [] Ty ([]:List YS) ?_);refine wO J 1 h fun d e h=>Xv J X9 e ?_;exact oi h▸wr J 2 func103 [(1,.sl 2)]
 ·obtain rfl:=hnb rfl;replace h:(some ([]:List YS):Option (List YS))=some r:=h;exact oi h▸wr J 6 func103 [(1,.nil)]
theorem ZvC (c:Ys) (d:Yj) (r:Bool) (h:ZcB N c d=some r) :
 Fn aB 156 ⟨5,[.a [.s c.Zu,.sl 0,.sl 1],.B 2 0],(XU 0 1 c [(3,.sl rS d.To),(4,.sl (YH Yz) d.ZD)]),[(2,.box [.I d.Zt,.s d.ZB,.sl 3,.s d.Zu,.s d.As,.I d.ZC,.sl 4] 132)],5,.O r,[],[(2,.box [.I d.Zt,.s d.ZB,.sl 3,.s d.Zu,.s d.As,.I d.ZC,.sl 4] 132)]⟩:=Yy func156 rfl fun E F w=>by
 unfold ZcB at h;exact oi h▸wr J 14 func156 []
theorem Zvf (d:(List Ys)) (e:Yj) (r:Int) (h:D5 N d e=some r) :
 Fn aB 125 ⟨4,[.S 0,.c (.cl 156 [] [1])],[(0,.sl Y9 d),(2,.sl rS e.To),(3,.sl (YH Yz) e.ZD)],[(1,.box [.I e.Zt,.s e.ZB,.sl 2,.s e.Zu,.s e.As,.I e.ZC,.sl 3] 132)],4,.I r,[],[(1,.box [.I e.Zt,.s e.ZB,.sl 2,.s e.Zu,.s e.As,.I e.ZC,.sl 3] 132)]⟩:=Yy func125 rfl fun E F w=>by
 unfold D5 at h;refine wa J 11 (YE (σ:=Unit) (fun st=>(zz7 e.Zt e.ZB e.Zu e.As e.ZC d e.To e.ZD [])) (fun st=>Zb3=some r) ?_ (fun j1=>?_))
 ·intro _ h;unfold Zb3 at h;exact oi h▸wr J 4 func125 []
 refine wa J 1 (YO (σ:=Int) (fun st=>(zz7 e.Zt e.ZB e.Zu e.As e.ZC d e.To e.ZD [(0,.S 0),(1,.c (.cl 156 [] [1])),(7,.I (d.length:Int)),(8,.I st)])) (fun n st=>Ms N d e n st) (r:=r) (fun _=>rfl) ?_ (fun ih=>?_))
 ·intro n2 ih3;intro f h;unfold Ms at h;refine Yv J 5 h (fun h=>wa J 2 (Yi [] (j1 () h))) fun h=>?_;refine wO J 14 h fun g i h=>YK J UB i ?_;refine wO J 1 h fun j k h=>Yl (ZvC N g e _ k) [] [(0,.sl 5),(1,.sl 6),(2,.bp 1 0),(3,.sl 2),(4,.sl 3)] ?_;exact wB J 1 h (fun h=>oi h▸wr J 6 func125 []) fun h=>wa J 7 (Yi [] (ih3 (Yh (f+1)) h))
 exact Yi [] (ih N 0 h)
theorem Zw4 (d:(List Ys)) (e:Yj) (r:Bool) (h:B8 N d e=some r) :
 Fn aB 98 ⟨4,[.S 0,.c (.cl 156 [] [1])],[(0,.sl Y9 d),(2,.sl rS e.To),(3,.sl (YH Yz) e.ZD)],[(1,.box [.I e.Zt,.s e.ZB,.sl 2,.s e.Zu,.s e.As,.I e.ZC,.sl 3] 132)],4,.O r,[],[(1,.box [.I e.Zt,.s e.ZB,.sl 2,.s e.Zu,.s e.As,.I e.ZC,.sl 3] 132)]⟩:=Yy func98 rfl fun E F w=>by
 unfold B8 at h;refine wO J 8 h fun f g h=>Yl (Zvf N d e _ g) [] [(0,.sl 0),(1,.bp 1 0),(2,.sl 2),(3,.sl 3)] ?_;exact oi h▸wr J 3 func98 []
theorem ZuV (c:YS) (d:Yj) (r:Bool) (h:ZbJ N c d=some r) :
 Fn aB 107 ⟨3,[.a (ZhT c),.B 0 0],[(1,.sl rS d.To),(2,.sl (YH Yz) d.ZD)],[(0,.box [.I d.Zt,.s d.ZB,.sl 1,.s d.Zu,.s d.As,.I d.ZC,.sl 2] 132)],3,.O r,[],[(0,.box [.I d.Zt,.s d.ZB,.sl 1,.s d.Zu,.s d.As,.I d.ZC,.sl 2] 132)]⟩:=Yy func107 rfl fun E F w=>by
 unfold ZbJ at h;exact oi h▸wr J 14 func107 []
theorem ZuW (d:(List YS)) (e:Yj) (r:Int) (h:DU N d e=some r) :
 Fn aB 108 ⟨4,[.S 0,.c (.cl 107 [] [1])],[(0,.sl X9 d),(2,.sl rS e.To),(3,.sl (YH Yz) e.ZD)],[(1,.box [.I e.Zt,.s e.ZB,.sl 2,.s e.Zu,.s e.As,.I e.ZC,.sl 3] 132)],4,.I r,[],[(1,.box [.I e.Zt,.s e.ZB,.sl 2,.s e.Zu,.s e.As,.I e.ZC,.sl 3] 132)]⟩:=Yy func108 rfl fun E F w=>by
 unfold DU at h;refine wa J 11 (YE (σ:=Unit) (fun st=>(zz8 e.Zt e.ZB e.Zu e.As e.ZC d e.To e.ZD [])) (fun st=>ZbK=some r) ?_ (fun j1=>?_))
 ·intro _ h;unfold ZbK at h;exact oi h▸wr J 4 func108 []
 refine wa J 1 (YO (σ:=Int) (fun st=>(zz8 e.Zt e.ZB e.Zu e.As e.ZC d e.To e.ZD [(0,.S 0),(1,.c (.cl 107 [] [1])),(7,.I (d.length:Int)),(8,.I st)])) (fun n st=>Mg N d e n st) (r:=r) (fun _=>rfl) ?_ (fun ih=>?_))
 ·intro n2 ih3;intro f h;unfold Mg at h;refine Yv J 5 h (fun h=>wa J 2 (Yi [] (j1 () h))) fun h=>?_;refine wO J 14 h fun g i h=>YK J Ty i ?_;refine wO J 1 h fun j k h=>Yl (ZuV N g e _ k) [] [(0,.bp 1 0),(1,.sl 2),(2,.sl 3)] ?_;exact wB J 1 h (fun h=>oi h▸wr J 6 func108 []) fun h=>wa J 7 (Yi [] (ih3 (Yh (f+1)) h))
 exact Yi [] (ih N 0 h)
theorem ZuU (d:(List YS)) (e:Yj) (r:Bool) (h:DT N d e=some r) :
 Fn aB 106 ⟨4,[.S 0,.c (.cl 107 [] [1])],[(0,.sl X9 d),(2,.sl rS e.To),(3,.sl (YH Yz) e.ZD)],[(1,.box [.I e.Zt,.s e.ZB,.sl 2,.s e.Zu,.s e.As,.I e.ZC,.sl 3] 132)],4,.O r,[],[(1,.box [.I e.Zt,.s e.ZB,.sl 2,.s e.Zu,.s e.As,.I e.ZC,.sl 3] 132)]⟩:=Yy func106 rfl fun E F w=>by
 unfold DT at h;refine wO J 8 h fun f g h=>Yl (ZuW N d e _ g) [] [(0,.sl 0),(1,.bp 1 0),(2,.sl 2),(3,.sl 3)] ?_;exact oi h▸wr J 3 func106 []
theorem ZuY (c:YS) (d:Yj) (r:Bool) (h:ZbM N c d=some r) :
 Fn aB 109 ⟨3,[.a (ZhT c),.B 0 0],[(1,.sl rS d.To),(2,.sl (YH Yz) d.ZD)],[(0,.box [.I d.Zt,.s d.ZB,.sl 1,.s d.Zu,.s d.As,.I d.ZC,.sl 2] 132)],3,.O r,[],[(0,.box [.I d.Zt,.s d.ZB,.sl 1,.s d.Zu,.s d.As,.I d.ZC,.sl 2] 132)]⟩:=Yy func109 rfl fun E F w=>by
 unfold ZbM at h;exact wB J 13 h (fun h=>oi h▸wr J 6 func109 []) fun h=>oi h▸wr J 6 func109 []
theorem ZuX (d:(List YS)) (e:Yj) (r:Int) (h:DV N d e=some r) :
 Fn aB 108 ⟨4,[.S 0,.c (.cl 109 [] [1])],[(0,.sl X9 d),(2,.sl rS e.To),(3,.sl (YH Yz) e.ZD)],[(1,.box [.I e.Zt,.s e.ZB,.sl 2,.s e.Zu,.s e.As,.I e.ZC,.sl 3] 132)],4,.I r,[],[(1,.box [.I e.Zt,.s e.ZB,.sl 2,.s e.Zu,.s e.As,.I e.ZC,.sl 3] 132)]⟩:=Yy func108 rfl fun E F w=>by
 unfold DV at h;refine wa J 11 (YE (σ:=Unit) (fun st=>(zz8 e.Zt e.ZB e.Zu e.As e.ZC d e.To e.ZD [])) (fun st=>ZbL=some r) ?_ (fun j1=>?_))
 ·intro _ h;unfold ZbL at h;exact oi h▸wr J 4 func108 []
 refine wa J 1 (YO (σ:=Int) (fun st=>(zz8 e.Zt e.ZB e.Zu e.As e.ZC d e.To e.ZD [(0,.S 0),(1,.c (.cl 109 [] [1])),(7,.I (d.length:Int)),(8,.I st)])) (fun n st=>Mh N d e n st) (r:=r) (fun _=>rfl) ?_ (fun ih=>?_))
 ·intro n2 ih3;intro f h;unfold Mh at h;refine Yv J 5 h (fun h=>wa J 2 (Yi [] (j1 () h))) fun h=>?_;refine wO J 14 h fun g i h=>YK J Ty i ?_;refine wO J 1 h fun j k h=>Yl (ZuY N g e _ k) [] [(0,.bp 1 0),(1,.sl 2),(2,.sl 3)] ?_;exact wB J 1 h (fun h=>oi h▸wr J 6 func108 []) fun h=>wa J 7 (Yi [] (ih3 (Yh (f+1)) h))
 exact Yi [] (ih N 0 h)
theorem ZvD (c:Ym) (d:Yj) (r:Bool) (h:ZcC N c d=some r) :
 Fn aB 157 ⟨6,[.a [.s c.Zu,.sl 0,.sl 1,.sl 2],.B 3 0],(Xe 0 1 2 c [(4,.sl rS d.To),(5,.sl (YH Yz) d.ZD)]),[(3,.box [.I d.Zt,.s d.ZB,.sl 4,.s d.Zu,.s d.As,.I d.ZC,.sl 5] 132)],6,.O r,[],[(3,.box [.I d.Zt,.s d.ZB,.sl 4,.s d.Zu,.s d.As,.I d.ZC,.sl 5] 132)]⟩:=Yy func157 rfl fun E F w=>by
 unfold ZcC at h;exact oi h▸wr J 14 func157 []
theorem Zw0 (d:(List Ym)) (e:Yj) (r:Int) (h:B4 N d e=some r) :
 Fn aB 97 ⟨4,[.S 0,.c (.cl 157 [] [1])],[(0,.sl YM d),(2,.sl rS e.To),(3,.sl (YH Yz) e.ZD)],[(1,.box [.I e.Zt,.s e.ZB,.sl 2,.s e.Zu,.s e.As,.I e.ZC,.sl 3] 132)],4,.I r,[],[(1,.box [.I e.Zt,.s e.ZB,.sl 2,.s e.Zu,.s e.As,.I e.ZC,.sl 3] 132)]⟩:=Yy func97 rfl fun E F w=>by
 unfold B4 at h;refine wa J 11 (YE (σ:=Unit) (fun st=>⟨[],[(1,.box [.I e.Zt,.s e.ZB,.sl 2,.s e.Zu,.s e.As,.I e.ZC,.sl 3] 132)],[(0,.sl YM d),(2,.sl rS e.To),(3,.sl (YH Yz) e.ZD)],4⟩) (fun st=>ZdL=some r) ?_ (fun j1=>?_))
 ·intro _ h;unfold ZdL at h;exact oi h▸wr J 4 func97 []
 refine wa J 1 (YO (σ:=Int) (fun st=>⟨[(0,.S 0),(1,.c (.cl 157 [] [1])),(7,.I (d.length:Int)),(8,.I st)],[(1,.box [.I e.Zt,.s e.ZB,.sl 2,.s e.Zu,.s e.As,.I e.ZC,.sl 3] 132)],[(0,.sl YM d),(2,.sl rS e.To),(3,.sl (YH Yz) e.ZD)],4⟩) (fun n st=>Lf N d e n st) (r:=r) (fun _=>rfl) ?_ (fun ih=>?_))
 ·intro n2 ih3;intro f h;unfold Lf at h;refine Yv J 5 h (fun h=>wa J 2 (Yi [] (j1 () h))) fun h=>?_;refine wO J 14 h fun g i h=>YK J Vr i ?_;refine wO J 1 h fun j k h=>Yl (ZvD N g e _ k) [] [(0,.sl 5),(1,.sl 6),(2,.sl 7),(3,.bp 1 0),(4,.sl 2),(5,.sl 3)] ?_;exact wB J 1 h (fun h=>oi h▸wr J 6 func97 []) fun h=>wa J 7 (Yi [] (ih3 (Yh (f+1)) h))
 exact Yi [] (ih N 0 h)
theorem Wu (d:Yp) (e:be) (f:Int) (r:Yp) (h:z46 N d e f=some r) :
 Fn aB 46 ⟨6,[.B 0 0,.c (.s e),.I f],((1,.sl YM d.Z2)::Xe 2 3 4 d.p' []),[(0,.box (XO 1 2 3 4 5 d) 125),(5,.own rS d.Z3 false)],11,.t [],((6,.sl YM r.Z2)::Xe 7 8 9 r.p' []),[(5,.gone),(10,.own rS r.Z3 false),(0,.box (XO 6 7 8 9 10 r) 125)]⟩:=Yy func46 rfl fun E F w=>by
 unfold z46 at h;exact wB J 9 h (fun h=>oi h▸wr J 15 func46 [(6,.sl 1),(7,.sl 2),(8,.sl 3),(9,.sl 4),(10,.sl 5)]) fun h=>oi h▸wr J 2 func46 [(6,.sl 1),(7,.sl 2),(8,.sl 3),(9,.sl 4),(10,.sl 5)]
theorem Zgm (c:Yp) (d:(List be)) (e:Int) (r:Yp) (h:Mf N c d e=some r) :
 Fn aB 105 ⟨7,[.B 0 0,.S 6,.I e],((1,.sl YM c.Z2)::Xe 2 3 4 c.p' [(6,.sl rS d)]),[(0,.box (XO 1 2 3 4 5 c) 125),(5,.own rS c.Z3 false)],12,.t [],((7,.sl YM r.Z2)::Xe 8 9 10 r.p' []),[(5,.gone),(11,.own rS r.Z3 false),(0,.box (XO 7 8 9 10 11 r) 125)]⟩:=Yy func105 rfl fun E F w=>by
 unfold Mf at h;refine wO J 9 h fun f g h=>YK J oS g ?_;refine wO J 1 h fun i j h=>Yl (Po N c.p'.ZE f _ j) [] [(0,.sl 2)] ?_;refine wB J 2 h (fun h=>wa J 4 (YJ ?_)) fun h=>?_
 ·refine wO J 5 h fun k l h=>YK J oS l ?_;refine wO J 1 h fun m o h=>Yl (Wu N c k 12 _ o) [] [(0,.bp 0 0),(1,.sl 1),(2,.sl 2),(3,.sl 3),(4,.sl 4),(5,.sl 5)] ?_;exact oi h▸wr J 1 func105 [(7,.sl 9),(8,.sl 10),(9,.sl 11),(10,.sl 12),(11,.sl 13)]
 refine wO J 2 h fun p q h=>Yl (ZmK N d e _ q) [] [(0,.sl 6)] (wa J 1 (YJ ?_));refine Wj h (fun h=>oi h▸wr J 2 func105 [(7,.sl 1),(8,.sl 2),(9,.sl 3),(10,.sl 4),(11,.sl 5)]) fun h=>?_;refine wO J 5 h fun s u h=>YK J oS u ?_;refine wO J 1 h fun v x h=>Yl (Wu N c s 12 _ x) [] [(0,.bp 0 0),(1,.sl 1),(2,.sl 2),(3,.sl 3),(4,.sl 4),(5,.sl 5)] ?_;exact oi h▸wr J 1 func105 [(7,.sl 9),(8,.sl 10),(9,.sl 11),(10,.sl 12),(11,.sl 13)]
theorem ZuZ (c:Yp) (d:Yj) (r:Yp) (h:DX N c d=some r) :
 Fn aB 110 ⟨8,[.B 0 0,.a [.I d.Zt,.s d.ZB,.sl 6,.s d.Zu,.s d.As,.I d.ZC,.sl 7]],((1,.sl YM c.Z2)::Xe 2 3 4 c.p' [(6,.sl rS d.To),(7,.sl (YH Yz) d.ZD)]),[(0,.box (XO 1 2 3 4 5 c) 125),(5,.own rS c.Z3 false)],13,.t [],((8,.sl YM r.Z2)::Xe 9 10 11 r.p' []),[(5,.gone),(12,.own rS r.Z3 false),(0,.box (XO 8 9 10 11 12 r) 125)]⟩:=Yy func110 rfl fun E F w=>by
 unfold DX at h;refine wO J 11 h fun e f h=>Yl (Zw0 N c.Z2 d _ f) [] [(0,.sl 1),(1,.bp 8 0),(2,.sl 6),(3,.sl 7)] ?_;refine wB J 8 h (fun h=>?_) fun h=>?_
 ·refine wO J 6 h fun g i h=>Yl (Wu N c d.Zu 10 _ i) [] [(0,.bp 0 0),(1,.sl 1),(2,.sl 2),(3,.sl 3),(4,.sl 4),(5,.sl 5)] ?_;exact oi h▸wr J 1 func110 [(8,.sl 9),(9,.sl 10),(10,.sl 11),(11,.sl 12),(12,.sl 13)]
 refine wO J 10 h fun j k h=>YK J Vr k (wa J 7 (YJ (YE (σ:=(List Ym) × be × (List be) × (List Ys) × (List Yj) × (List be) × be × be × Int) (fun st=>⟨[(0,.B 0 0),(3,.B 8 0)],[(0,.box [.sl 13,.s st.2.1,.sl 14,.sl 15,.sl 16,.sl 17,.s st.2.2.2.2.2.2.1,.s st.2.2.2.2.2.2.2.1,.I st.2.2.2.2.2.2.2.2] 125),(8,.box [.I d.Zt,.s d.ZB,.sl 6,.s d.Zu,.s d.As,.I d.ZC,.sl 7] 132),(17,.own rS st.2.2.2.2.2.1 false)],((1,.sl YM c.Z2)::Xe 2 3 4 c.p' [(6,.sl rS d.To),(7,.sl (YH Yz) d.ZD),(13,.sl YM st.1),(14,.sl rS st.2.2.1),(15,.sl Y9 st.2.2.2.1),(16,.sl Yz st.2.2.2.2.1)]),18⟩) (fun st=>HL N d st.1 st.2.1 st.2.2.1 st.2.2.2.1 st.2.2.2.2.1 st.2.2.2.2.2.1 st.2.2.2.2.2.2.1 st.2.2.2.2.2.2.2.1 st.2.2.2.2.2.2.2.2=some r) ?_ (fun j1=>?_))))
 ·rintro ⟨l,m,o,p,q,u,v,x,y⟩ h;unfold HL at h;refine wa J 8 (YE (σ:=(List Ym) × be × (List be) × (List Ys) × (List Yj) × (List be) × be × be × Int) (fun st=>(Zm9 st.2.1 st.2.2.2.2.2.2.1 st.2.2.2.2.2.2.2.1 st.2.2.2.2.2.2.2.2 d.Zt d.ZB d.Zu d.As d.ZC st.2.2.2.2.2.1 c.Z2 c.p' d.To d.ZD st.1 st.2.2.1 st.2.2.2.1 st.2.2.2.2.1 [(0,.B 0 0),(3,.B 8 0)])) (fun st=>Mi N d st.1 st.2.1 st.2.2.1 st.2.2.2.1 st.2.2.2.2.1 st.2.2.2.2.2.1 st.2.2.2.2.2.2.1 st.2.2.2.2.2.2.2.1 st.2.2.2.2.2.2.2.2=some r) ?_ (fun j2=>?_))
  ·rintro ⟨z,A,C,D,G,H,R,T,U⟩ h;unfold Mi at h;refine wO J 9 h fun X Y h=>Ws (Po N H d.As _ Y) [] [(0,.sl 22)] [22] (.inr ⟨rfl,trivial⟩) (YJ ?_);refine Wj h (fun h=>wa J 10 (YX J [] oS ([d.As]:List be) ?_)) fun h=>?_
   ·have ⟨Z,a0,h⟩:=ob h;refine Xv J rS a0 (wa J 3 (YJ ?_));cases h;exact Xh J func110 [(8,.sl 18),(9,.sl 19),(10,.sl 20),(11,.sl 21),(12,.sl 24)]
   refine wO J 5 h fun b0 c0 h=>Yl (Wu N (⟨z,(⟨A,C,D,G⟩:Ym),H,(⟨R,T,U⟩:Y6)⟩:Yp) d.As 9 _ c0) [] [(0,.bp 0 0),(1,.sl 18),(2,.sl 19),(3,.sl 20),(4,.sl 21),(5,.sl 22)] (wa J 9 (YX J [] oS ([d.As]:List be) ?_));have ⟨e0,g0,h⟩:=ob h;refine Xv J rS g0 (wa J 3 (YJ ?_));cases h;exact Xh J func110 [(8,.sl 23),(9,.sl 24),(10,.sl 25),(11,.sl 26),(12,.sl 29)]
  refine wa J 1 (YO (σ:=(List Ym) × be × (List be) × (List Ys) × (List Yj) × (List be) × be × be × Int × Int) (fun st=>(Zm9 st.2.1 st.2.2.2.2.2.2.1 st.2.2.2.2.2.2.2.1 st.2.2.2.2.2.2.2.2.1 d.Zt d.ZB d.Zu d.As d.ZC st.2.2.2.2.2.1 c.Z2 c.p' d.To d.ZD st.1 st.2.2.1 st.2.2.2.1 st.2.2.2.2.1 [(0,.B 0 0),(3,.B 8 0),(37,.I (d.To.length:Int)),(38,.I st.2.2.2.2.2.2.2.2.2)])) (fun n st=>Mj N d n st.1 st.2.1 st.2.2.1 st.2.2.2.1 st.2.2.2.2.1 st.2.2.2.2.2.1 st.2.2.2.2.2.2.1 st.2.2.2.2.2.2.2.1 st.2.2.2.2.2.2.2.2.1 st.2.2.2.2.2.2.2.2.2) (r:=r) (fun _=>rfl) ?_ (fun ih=>?_))
  ·intro n2 ih4;rintro ⟨i0,j0,k0,l0,m0,o0,p0,q0,s0,t0⟩ h;unfold Mj at h;refine Yv J 5 h (fun h=>wa J 2 (Yi [] (j2 (i0,j0,k0,l0,m0,o0,p0,q0,s0) h))) fun h=>?_;exact wO J 14 h fun u0 v0 h=>Yl (Zgm N (⟨i0,(⟨j0,k0,l0,m0⟩:Ym),o0,(⟨p0,q0,s0⟩:Y6)⟩:Yp) d.To t0 _ v0) [] [(0,.bp 0 0),(1,.sl 18),(2,.sl 19),(3,.sl 20),(4,.sl 21),(5,.sl 22),(6,.sl 6)] (wa J 6 (Yi [(18,.sl 23),(19,.sl 24),(20,.sl 25),(21,.sl 26),(22,.sl 27)] (ih4 (u0.Z2,u0.p'.Zu,u0.p'.ZE,u0.p'.ZF,u0.p'.ZG,u0.Z3,u0.Z4.ZY,u0.Z4.Zu,u0.Z4.ZZ,(Yh (t0+1))) h)))
  exact Yi [(18,.sl 13),(19,.sl 14),(20,.sl 15),(21,.sl 16),(22,.sl 17)] (ih N (l,m,o,p,q,u,v,x,y,0) h)
 refine Wj h (fun h=>wa J 2 (Yi [(13,.sl 1),(14,.sl 2),(15,.sl 3),(16,.sl 4),(17,.sl 5)] (j1 (c.Z2,c.p'.Zu,c.p'.ZE,c.p'.ZF,c.p'.ZG,c.Z3,c.Z4.ZY,c.Z4.Zu,c.Z4.ZZ) h))) fun h=>?_;exact wO J 5 h fun x0 y0 h=>Yl (Wu N c d.Zu 1 _ y0) [] [(0,.bp 0 0),(1,.sl 1),(2,.sl 2),(3,.sl 3),(4,.sl 4),(5,.sl 5)] (wa J 1 (Yi [] (j1 (x0.Z2,x0.p'.Zu,x0.p'.ZE,x0.p'.ZF,x0.p'.ZG,x0.Z3,x0.Z4.ZY,x0.Z4.Zu,x0.Z4.ZZ) h)))
theorem ZuT (c:Yp) (d:Yj) (r:Yp) (h:DS N c d=some r) :
 Fn aB 104 ⟨8,[.B 0 0,.a [.I d.Zt,.s d.ZB,.sl 6,.s d.Zu,.s d.As,.I d.ZC,.sl 7]],((1,.sl YM c.Z2)::Xe 2 3 4 c.p' [(6,.sl rS d.To),(7,.sl (YH Yz) d.ZD)]),[(0,.box (XO 1 2 3 4 5 c) 125),(5,.own rS c.Z3 false)],13,.t [],((8,.sl YM r.Z2)::Xe 9 10 11 r.p' []),[(5,.gone),(12,.own rS r.Z3 false),(0,.box (XO 8 9 10 11 12 r) 125)]⟩:=Yy func104 rfl fun E F w=>by
 unfold DS at h;refine wa J 8 (YX J [] oS ([d.ZB]:List be) ?_);refine wO J 2 h fun e f h=>Xv J rS f (wa J 9 (YE (σ:=(List Ym) × be × (List be) × (List Ys) × (List Yj) × (List be) × be × be × Int) (fun st=>⟨[(0,.B 0 0),(3,.B 8 0)],[(0,.box [.sl 11,.s st.2.1,.sl 12,.sl 13,.sl 14,.sl 15,.s st.2.2.2.2.2.2.1,.s st.2.2.2.2.2.2.2.1,.I st.2.2.2.2.2.2.2.2] 125),(8,.box [.I d.Zt,.s d.ZB,.sl 6,.s d.Zu,.s d.As,.I d.ZC,.sl 7] 132),(15,.own rS st.2.2.2.2.2.1 false)],((1,.sl YM c.Z2)::Xe 2 3 4 c.p' [(6,.sl rS d.To),(7,.sl (YH Yz) d.ZD),(11,.sl YM st.1),(12,.sl rS st.2.2.1),(13,.sl Y9 st.2.2.2.1),(14,.sl Yz st.2.2.2.2.1)]),16⟩) (fun st=>HK N d st.1 st.2.1 st.2.2.1 st.2.2.2.1 st.2.2.2.2.1 st.2.2.2.2.2.1 st.2.2.2.2.2.2.1 st.2.2.2.2.2.2.2.1 st.2.2.2.2.2.2.2.2=some r) ?_ (fun j1=>?_)))
 ·rintro ⟨g,i,j,k,l,m,o,p,q⟩ h;unfold HK at h;refine wO J 8 h fun u v h=>Yl (Zw4 N k d _ v) [] [(0,.sl 13),(1,.bp 8 0),(2,.sl 6),(3,.sl 7)] ?_;refine Yv J 2 h (fun h=>oi h▸wr J 2 func104 [(8,.sl 11),(9,.sl 12),(10,.sl 13),(11,.sl 14),(12,.sl 15)]) fun h=>?_;refine wO J 5 h fun x y h=>Yl (Wu N (⟨g,(⟨i,j,k,l⟩:Ym),m,(⟨o,p,q⟩:Y6)⟩:Yp) d.Zu 10 _ y) [] [(0,.bp 0 0),(1,.sl 11),(2,.sl 12),(3,.sl 13),(4,.sl 14),(5,.sl 15)] ?_;exact oi h▸wr J 1 func104 [(8,.sl 16),(9,.sl 17),(10,.sl 18),(11,.sl 19),(12,.sl 20)]
 refine wa J 1 (YO (σ:=(List Ym) × be × (List be) × (List Ys) × (List Yj) × (List be) × be × be × Int × Int) (fun st=>⟨[(0,.B 0 0),(3,.B 8 0),(4,.S 10),(13,.I (e.length:Int)),(14,.I st.2.2.2.2.2.2.2.2.2)],[(0,.box [.sl 11,.s st.2.1,.sl 12,.sl 13,.sl 14,.sl 15,.s st.2.2.2.2.2.2.1,.s st.2.2.2.2.2.2.2.1,.I st.2.2.2.2.2.2.2.2.1] 125),(8,.box [.I d.Zt,.s d.ZB,.sl 6,.s d.Zu,.s d.As,.I d.ZC,.sl 7] 132),(15,.own rS st.2.2.2.2.2.1 false)],((1,.sl YM c.Z2)::Xe 2 3 4 c.p' [(6,.sl rS d.To),(7,.sl (YH Yz) d.ZD),(10,.sl rS e),(11,.sl YM st.1),(12,.sl rS st.2.2.1),(13,.sl Y9 st.2.2.2.1),(14,.sl Yz st.2.2.2.2.1)]),16⟩) (fun n st=>Me N d e n st.1 st.2.1 st.2.2.1 st.2.2.2.1 st.2.2.2.2.1 st.2.2.2.2.2.1 st.2.2.2.2.2.2.1 st.2.2.2.2.2.2.2.1 st.2.2.2.2.2.2.2.2.1 st.2.2.2.2.2.2.2.2.2) (r:=r) (fun _=>rfl) ?_ (fun ih=>?_))
 ·intro n2 ih3;rintro ⟨z,A,C,D,G,H,R,T,U,X⟩ h;unfold Me at h;refine Yv J 5 h (fun h=>wa J 2 (Yi [] (j1 (z,A,C,D,G,H,R,T,U) h))) fun h=>?_;exact wO J 13 h fun Y Z h=>Yl (Zgm N (⟨z,(⟨A,C,D,G⟩:Ym),H,(⟨R,T,U⟩:Y6)⟩:Yp) e X _ Z) [] [(0,.bp 0 0),(1,.sl 11),(2,.sl 12),(3,.sl 13),(4,.sl 14),(5,.sl 15),(6,.sl 10)] (wa J 6 (Yi [(11,.sl 16),(12,.sl 17),(13,.sl 18),(14,.sl 19),(15,.sl 20)] (ih3 (Y.Z2,Y.p'.Zu,Y.p'.ZE,Y.p'.ZF,Y.p'.ZG,Y.Z3,Y.Z4.ZY,Y.Z4.Zu,Y.Z4.ZZ,(Yh (X+1))) h)))
 exact Vn [10] (Yi [(11,.sl 1),(12,.sl 2),(13,.sl 3),(14,.sl 4),(15,.sl 5)] (ih N (c.Z2,c.p'.Zu,c.p'.ZE,c.p'.ZF,c.p'.ZG,c.Z3,c.Z4.ZY,c.Z4.Zu,c.Z4.ZZ,0) h))
theorem Zwp (rc:Yp->(List Yj)->(List YS)->Option Yp) (rcT:(∀ (c:Yp) (d:(List Yj)) (e:(List YS)) (r:Yp),rc c d e=some r->Fn aB 50 ⟨8,[.B 0 0,.S 6,.S 7],((1,.sl YM c.Z2)::Xe 2 3 4 c.p' [(6,.sl Yz d),(7,.sl X9 e)]),[(0,.box (XO 1 2 3 4 5 c) 125),(5,.own rS c.Z3 false)],13,.t [],((8,.sl YM r.Z2)::Xe 9 10 11 r.p' []),[(5,.gone),(12,.own rS r.Z3 false),(0,.box (XO 8 9 10 11 12 r) 125)]⟩)) (c:Yp) (d:(List Yj)) (e:(List YS)) (r:Yp) (h:BJ N rc c d e=some r) :
 Fn aB 50 ⟨8,[.B 0 0,.S 6,.S 7],((1,.sl YM c.Z2)::Xe 2 3 4 c.p' [(6,.sl Yz d),(7,.sl X9 e)]),[(0,.box (XO 1 2 3 4 5 c) 125),(5,.own rS c.Z3 false)],13,.t [],((8,.sl YM r.Z2)::Xe 9 10 11 r.p' []),[(5,.gone),(12,.own rS r.Z3 false),(0,.box (XO 8 9 10 11 12 r) 125)]⟩:=Yy func50 rfl fun E F w=>by
 unfold BJ at h;refine wa J 6 (YE (σ:=(List Ym) × be × (List be) × (List Ys) × (List Yj) × (List be) × be × be × Int) (fun st=>(Zna st.2.1 st.2.2.2.2.2.2.1 st.2.2.2.2.2.2.2.1 st.2.2.2.2.2.2.2.2 st.2.2.2.2.2.1 c.Z2 c.p' d e st.1 st.2.2.1 st.2.2.2.1 st.2.2.2.2.1 [])) (fun st=>BK st.1 st.2.1 st.2.2.1 st.2.2.2.1 st.2.2.2.2.1 st.2.2.2.2.2.1 st.2.2.2.2.2.2.1 st.2.2.2.2.2.2.2.1 st.2.2.2.2.2.2.2.2=some r) ?_ (fun j1=>?_))
 ·rintro ⟨f,g,i,j,k,l,m,o,p⟩ h;unfold BK at h;cases h;exact Xh J func50 [(8,.sl 8),(9,.sl 9),(10,.sl 10),(11,.sl 11),(12,.sl 12)]
 refine wa J 1 (YO (σ:=(List Ym) × be × (List be) × (List Ys) × (List Yj) × (List be) × be × be × Int × Int) (fun st=>(Zna st.2.1 st.2.2.2.2.2.2.1 st.2.2.2.2.2.2.2.1 st.2.2.2.2.2.2.2.2.1 st.2.2.2.2.2.1 c.Z2 c.p' d e st.1 st.2.2.1 st.2.2.2.1 st.2.2.2.2.1 [(0,.B 0 0),(1,.S 6),(2,.S 7),(14,.S 6),(15,.I (d.length:Int)),(16,.I st.2.2.2.2.2.2.2.2.2)])) (fun n st=>VE N rc d e n st.1 st.2.1 st.2.2.1 st.2.2.2.1 st.2.2.2.2.1 st.2.2.2.2.2.1 st.2.2.2.2.2.2.1 st.2.2.2.2.2.2.2.1 st.2.2.2.2.2.2.2.2.1 st.2.2.2.2.2.2.2.2.2) (r:=r) (fun _=>rfl) ?_ (fun ih=>?_))
 ·intro n32 ih33;rintro ⟨q,u,v,x,y,z,A,C,D,G⟩ h;unfold VE at h;refine Yv J 5 h (fun h=>wa J 2 (Yi [] (j1 (q,u,v,x,y,z,A,C,D) h))) fun h=>?_;refine wO J 7 h fun H R h=>YK J RX R ?_;refine wO J 8 h fun T U h=>Yl (ZuS N e _ U) [] [(0,.sl 7)] (wa J 9 (YE (σ:=(List YS)) (fun st=>(Znb u A C D z H.Zt H.ZB H.Zu H.As H.ZC st c.Z2 c.p' d e q v x y H.To H.ZD [(0,.B 0 0),(1,.S 6),(2,.S 7),(7,.B 16 0),(8,.S 17),(14,.S 6),(15,.I (d.length:Int)),(16,.I G)])) (fun st=>Gm N rc q u v x y z A C D G (VE N rc d e n32) H st=some r) ?_ (fun j54=>?_)))
  ·intro X h;unfold Gm at h;refine wa J 12 (YE (σ:=(List Ym) × be × (List be) × (List Ys) × (List Yj) × (List be) × be × be × Int × (List YS)) (fun st=>(Zhg st.2.1 st.2.2.2.2.2.2.1 st.2.2.2.2.2.2.2.1 st.2.2.2.2.2.2.2.2.1 H.Zt H.ZB H.Zu H.As H.ZC st.2.2.2.2.2.1 st.2.2.2.2.2.2.2.2.2 c.Z2 c.p' d e H.To H.ZD st.1 st.2.2.1 st.2.2.2.1 st.2.2.2.2.1 [(0,.B 0 0),(1,.S 6),(2,.S 7),(7,.B 16 0),(8,.S 23),(14,.S 6),(15,.I (d.length:Int)),(16,.I G)])) (fun st=>UM N rc G (VE N rc d e n32) H st.1 st.2.1 st.2.2.1 st.2.2.2.1 st.2.2.2.2.1 st.2.2.2.2.2.1 st.2.2.2.2.2.2.1 st.2.2.2.2.2.2.2.1 st.2.2.2.2.2.2.2.2.1 st.2.2.2.2.2.2.2.2.2=some r) ?_ (fun j56=>?_))
   ·rintro ⟨Y,Z,a0,b0,c0,e0,g0,i0,j0,k0⟩ h;unfold UM at h;refine wa J 8 (YE (σ:=(List YS)) (fun st=>(Zhg Z g0 i0 j0 H.Zt H.ZB H.Zu H.As H.ZC e0 st c.Z2 c.p' d e H.To H.ZD Y a0 b0 c0 [(0,.B 0 0),(1,.S 6),(2,.S 7),(7,.B 16 0),(8,.S 23),(14,.S 6),(15,.I (d.length:Int)),(16,.I G)])) (fun st=>BM N rc G (VE N rc d e n32) H Y Z a0 b0 c0 e0 g0 i0 j0 st=some r) ?_ (fun j57=>?_))
    ·intro l0 h;unfold BM at h;refine wa J 7 (YE (σ:=(List Ym) × be × (List be) × (List Ys) × (List Yj) × (List be) × be × be × Int) (fun st=>⟨[(0,.B 0 0),(1,.S 6),(2,.S 7),(14,.S 6),(15,.I (d.length:Int)),(16,.I G)],[(0,.box [.sl 24,.s st.2.1,.sl 25,.sl 26,.sl 27,.sl 28,.s st.2.2.2.2.2.2.1,.s st.2.2.2.2.2.2.2.1,.I st.2.2.2.2.2.2.2.2] 125),(28,.own rS st.2.2.2.2.2.1 false)],((1,.sl YM c.Z2)::Xe 2 3 4 c.p' [(6,.sl Yz d),(7,.sl X9 e),(24,.sl YM st.1),(25,.sl rS st.2.2.1),(26,.sl Y9 st.2.2.2.1),(27,.sl Yz st.2.2.2.2.1)]),29⟩) (fun st=>BL G (VE N rc d e n32) st.1 st.2.1 st.2.2.1 st.2.2.2.1 st.2.2.2.2.1 st.2.2.2.2.2.1 st.2.2.2.2.2.2.1 st.2.2.2.2.2.2.2.1 st.2.2.2.2.2.2.2.2=some r) ?_ (fun j59=>?_))
     ·rintro ⟨m0,o0,p0,q0,s0,t0,u0,v0,x0⟩ h;unfold BL at h;exact wa J 5 (Yi [(8,.sl 24),(9,.sl 25),(10,.sl 26),(11,.sl 27),(12,.sl 28)] (ih33 (m0,o0,p0,q0,s0,t0,u0,v0,x0,(Yh (G+1))) h))
     refine wa J 1 (YO (σ:=(List Ym) × be × (List be) × (List Ys) × (List Yj) × (List be) × be × be × Int × Int) (fun st=>⟨[(0,.B 0 0),(1,.S 6),(2,.S 7),(8,.S 23),(14,.S 6),(15,.I (d.length:Int)),(16,.I G),(123,.S 15),(124,.I (H.ZD.length:Int)),(125,.I st.2.2.2.2.2.2.2.2.2)],[(0,.box [.sl 24,.s st.2.1,.sl 25,.sl 26,.sl 27,.sl 28,.s st.2.2.2.2.2.2.1,.s st.2.2.2.2.2.2.2.1,.I st.2.2.2.2.2.2.2.2.1] 125),(28,.own rS st.2.2.2.2.2.1 false)],((1,.sl YM c.Z2)::Xe 2 3 4 c.p' [(6,.sl Yz d),(7,.sl X9 e),(15,.sl (YH Yz) H.ZD),(23,.sl X9 l0),(24,.sl YM st.1),(25,.sl rS st.2.2.1),(26,.sl Y9 st.2.2.2.1),(27,.sl Yz st.2.2.2.2.1)]),29⟩) (fun n st=>MU rc G (VE N rc d e n32) H l0 n st.1 st.2.1 st.2.2.1 st.2.2.2.1 st.2.2.2.2.1 st.2.2.2.2.2.1 st.2.2.2.2.2.2.1 st.2.2.2.2.2.2.2.1 st.2.2.2.2.2.2.2.2.1 st.2.2.2.2.2.2.2.2.2) (r:=r) (fun _=>rfl) ?_ (fun ih=>?_))
     ·intro n36 ih61;rintro ⟨y0,z0,A0,B0,C0,D0,G0,H0,I0,L0⟩ h;unfold MU at h;refine Yv J 5 h (fun h=>wa J 2 (Yi [] (j59 (y0,z0,A0,B0,C0,D0,G0,H0,I0) h))) fun h=>?_;refine wO J 6 h fun M0 O0 h=>YK J (Xi Yz) O0 ?_;exact wO J 7 h fun R0 S0 h=>Yl (rcT (⟨y0,(⟨z0,A0,B0,C0⟩:Ym),D0,(⟨G0,H0,I0⟩:Y6)⟩:Yp) M0 l0 _ S0) [] [(0,.bp 0 0),(1,.sl 24),(2,.sl 25),(3,.sl 26),(4,.sl 27),(5,.sl 28),(6,.sl 30),(7,.sl 23)] (wa J 6 (Yi [(24,.sl 31),(25,.sl 32),(26,.sl 33),(27,.sl 34),(28,.sl 35)] (ih61 (R0.Z2,R0.p'.Zu,R0.p'.ZE,R0.p'.ZF,R0.p'.ZG,R0.Z3,R0.Z4.ZY,R0.Z4.Zu,R0.Z4.ZZ,(Yh (L0+1))) h)))
     exact Vn [23] (Yi [(24,.sl 18),(25,.sl 19),(26,.sl 20),(27,.sl 21),(28,.sl 22)] (ih N (Y,Z,a0,b0,c0,e0,g0,i0,j0,0) h))
    refine wa J 1 (YO (σ:=(List YS) × Int) (fun st=>(Zhg Z g0 i0 j0 H.Zt H.ZB H.Zu H.As H.ZC e0 st.1 c.Z2 c.p' d e H.To H.ZD Y a0 b0 c0 [(0,.B 0 0),(1,.S 6),(2,.S 7),(7,.B 16 0),(8,.S 23),(14,.S 6),(15,.I (d.length:Int)),(16,.I G),(103,.I (k0.length:Int)),(104,.I st.2)])) (fun n st=>Pi N rc G (VE N rc d e n32) H Y Z a0 b0 c0 e0 g0 i0 j0 k0 n st.1 st.2) (r:=r) (fun _=>rfl) ?_ (fun ih=>?_))
    ·intro n37 ih62;rintro ⟨U0,V0⟩ h;unfold Pi at h;refine Yv J 5 h (fun h=>wa J 2 (Yi [] (j57 U0 h))) fun h=>?_;refine wO J 14 h fun X0 Y0 h=>Xg J X9 Y0 (wa J 1 (XS J Ty Y0 ?_));refine wB J 1 h (fun h=>?_) fun h=>?_
     ·exact wO J 4 h fun Z0 a1 h=>Xg J X9 a1 (wa J 1 (WR J [] Ty (⟨Z0.Z5,Z0.Z6,true⟩:YS) a1 (wa J 6 (Yi [] (ih62 ((YA U0 V0 (⟨Z0.Z5,Z0.Z6,true⟩:YS)),(Yh (V0+1))) h)))))
     exact wO J 4 h fun b1 c1 h=>Xg J X9 c1 (wa J 1 (WR J [] Ty (⟨b1.Z5,b1.Z6,(H.Zt==5)⟩:YS) c1 (wa J 6 (Yi [] (ih62 ((YA U0 V0 (⟨b1.Z5,b1.Z6,(H.Zt==5)⟩:YS)),(Yh (V0+1))) h)))))
    exact Yi [] (ih N (k0,0) h)
   refine eB h (fun h=>?_) fun h=>?_
   ·exact wO J 4 h fun e1 g1 h=>Yl (ZuT N (⟨q,(⟨u,v,x,y⟩:Ym),z,(⟨A,C,D⟩:Y6)⟩:Yp) H _ g1) [] [(0,.bp 0 0),(1,.sl 8),(2,.sl 9),(3,.sl 10),(4,.sl 11),(5,.sl 12),(6,.sl 14),(7,.sl 15)] (wa J 1 (Yi [(23,.sl 17)] (j56 (e1.Z2,e1.p'.Zu,e1.p'.ZE,e1.p'.ZF,e1.p'.ZG,e1.Z3,e1.Z4.ZY,e1.Z4.Zu,e1.Z4.ZZ,X) h)))
   refine wB J 6 h (fun h=>wa J 5 (YX J [] oS ([H.ZB]:List be) ?_)) fun h=>?_
   ·have ⟨i1,k1,h⟩:=ob h;exact Yl (Zgm N (⟨q,(⟨u,v,x,y⟩:Ym),z,(⟨A,C,D⟩:Y6)⟩:Yp) ([H.ZB]:List be) 0 _ k1) [18] [(0,.bp 0 0),(1,.sl 8),(2,.sl 9),(3,.sl 10),(4,.sl 11),(5,.sl 12),(6,.sl 18)] (wa J 1 (Yi [(18,.sl 19),(19,.sl 20),(20,.sl 21),(21,.sl 22),(22,.sl 23),(23,.sl 17)] (j56 (i1.Z2,i1.p'.Zu,i1.p'.ZE,i1.p'.ZF,i1.p'.ZG,i1.Z3,i1.Z4.ZY,i1.Z4.Zu,i1.Z4.ZZ,X) h)))
   refine wB J 6 h (fun h=>?_) fun h=>?_
   ·refine wO J 6 h fun l1 m1 h=>Ws (ZuU N X H _ m1) [] [(0,.sl 17),(1,.bp 16 0),(2,.sl 14),(3,.sl 15)] [17] (.inr ⟨rfl,trivial⟩) ?_;refine Yv J 1 h (fun h=>wa J 7 (YX J [] Ty ([(⟨H.Zu,true,false⟩:YS)]:List YS) ?_)) fun h=>?_
    ·have ⟨o1,p1,h⟩:=ob h;exact Xv J X9 p1 (wa J 2 (Yi [(18,.sl 8),(19,.sl 9),(20,.sl 10),(21,.sl 11),(22,.sl 12),(23,.sl 19)] (j56 (q,u,v,x,y,z,A,C,D,o1) h)))
    refine wO J 5 h fun q1 s1 h=>Yl (Wu N (⟨q,(⟨u,v,x,y⟩:Ym),z,(⟨A,C,D⟩:Y6)⟩:Yp) H.Zu 9 _ s1) [] [(0,.bp 0 0),(1,.sl 8),(2,.sl 9),(3,.sl 10),(4,.sl 11),(5,.sl 12)] (wa J 6 (YX J [] Ty ([(⟨H.Zu,true,false⟩:YS)]:List YS) ?_));have ⟨t1,u1,h⟩:=ob h;exact Xv J X9 u1 (wa J 2 (Yi [(23,.sl 24)] (j56 (q1.Z2,q1.p'.Zu,q1.p'.ZE,q1.p'.ZF,q1.p'.ZG,q1.Z3,q1.Z4.ZY,q1.Z4.Zu,q1.Z4.ZZ,t1) h)))
   refine Yv J 6 h (fun h=>?_) fun h=>?_
   ·refine Yv J 6 h (fun h=>wa J 2 (Yi [(18,.sl 8),(19,.sl 9),(20,.sl 10),(21,.sl 11),(22,.sl 12),(23,.sl 17)] (j56 (q,u,v,x,y,z,A,C,D,X) h))) fun h=>?_;exact wO J 4 h fun v1 x1 h=>Yl (ZuZ N (⟨q,(⟨u,v,x,y⟩:Ym),z,(⟨A,C,D⟩:Y6)⟩:Yp) H _ x1) [] [(0,.bp 0 0),(1,.sl 8),(2,.sl 9),(3,.sl 10),(4,.sl 11),(5,.sl 12),(6,.sl 14),(7,.sl 15)] (wa J 1 (Yi [(23,.sl 17)] (j56 (v1.Z2,v1.p'.Zu,v1.p'.ZE,v1.p'.ZF,v1.p'.ZG,v1.Z3,v1.Z4.ZY,v1.Z4.Zu,v1.Z4.ZZ,X) h)))
   refine wO J 5 h fun y1 z1 h=>Ws (ZuX N X H _ z1) [] [(0,.sl 17),(1,.bp 16 0),(2,.sl 14),(3,.sl 15)] [17] (.inr ⟨rfl,trivial⟩) ?_;refine wB J 9 h (fun h=>?_) fun h=>?_
   ·exact wO J 5 h fun A1 B1 h=>Yl (Wu N (⟨q,(⟨u,v,x,y⟩:Ym),z,(⟨A,C,D⟩:Y6)⟩:Yp) H.Zu 10 _ B1) [] [(0,.bp 0 0),(1,.sl 8),(2,.sl 9),(3,.sl 10),(4,.sl 11),(5,.sl 12)] (wa J 2 (Yi [(23,.sl 17)] (j56 (A1.Z2,A1.p'.Zu,A1.p'.ZE,A1.p'.ZF,A1.p'.ZG,A1.Z3,A1.Z4.ZY,A1.Z4.Zu,A1.Z4.ZZ,X) h)))
   refine wO J 5 h fun C1 D1 h=>Xg J X9 D1 (wa J 1 (XS J Ty D1 ?_));refine Yv J 3 h (fun h=>wa J 3 (Yi [(18,.sl 8),(19,.sl 9),(20,.sl 10),(21,.sl 11),(22,.sl 12),(23,.sl 17)] (j56 (q,u,v,x,y,z,A,C,D,X) h))) fun h=>?_;exact wO J 5 h fun G1 H1 h=>Yl (Wu N (⟨q,(⟨u,v,x,y⟩:Ym),z,(⟨A,C,D⟩:Y6)⟩:Yp) H.Zu 7 _ H1) [] [(0,.bp 0 0),(1,.sl 8),(2,.sl 9),(3,.sl 10),(4,.sl 11),(5,.sl 12)] (wa J 2 (Yi [(18,.sl 19),(19,.sl 20),(20,.sl 21),(21,.sl 22),(22,.sl 23),(23,.sl 17)] (j56 (G1.Z2,G1.p'.Zu,G1.p'.ZE,G1.p'.ZF,G1.p'.ZG,G1.Z3,G1.Z4.ZY,G1.Z4.Zu,G1.Z4.ZZ,X) h)))
  refine wa J 1 (YO (σ:=(List YS) × Int) (fun st=>(Znb u A C D z H.Zt H.ZB H.Zu H.As H.ZC st.1 c.Z2 c.p' d e q v x y H.To H.ZD [(0,.B 0 0),(1,.S 6),(2,.S 7),(6,.I G),(7,.B 16 0),(8,.S 17),(14,.S 6),(15,.I (d.length:Int)),(16,.I G),(24,.I (T.length:Int)),(25,.I st.2)])) (fun n st=>Pj N rc d q u v x y z A C D G (VE N rc d e n32) H T n st.1 st.2) (r:=r) (fun _=>rfl) ?_ (fun ih=>?_))
  ·intro n38 ih63;rintro ⟨I1,L1⟩ h;unfold Pj at h;refine Yv J 5 h (fun h=>wa J 2 (Yi [] (j54 I1 h))) fun h=>?_;refine wO J 14 h fun M1 O1 h=>Xg J X9 O1 (wa J 1 (XS J Ty O1 ?_));refine wB J 1 h (fun h=>?_) fun h=>?_
   ·exact wO J 6 h fun R1 S1 h=>Xg J X9 S1 (wa J 1 (WR J [] Ty (⟨R1.Z5,(G==(Yh ((d.length:Int)-1))),R1.Z7⟩:YS) S1 (wa J 6 (Yi [] (ih63 ((YA I1 L1 (⟨R1.Z5,(G==(Yh ((d.length:Int)-1))),R1.Z7⟩:YS)),(Yh (L1+1))) h)))))
   exact wO J 6 h fun U1 V1 h=>Xg J X9 V1 (wa J 1 (WR J [] Ty (⟨U1.Z5,false,U1.Z7⟩:YS) V1 (wa J 6 (Yi [] (ih63 ((YA I1 L1 (⟨U1.Z5,false,U1.Z7⟩:YS)),(Yh (L1+1))) h)))))
  exact Yi [] (ih N (T,0) h)
 exact Yi [(8,.sl 1),(9,.sl 2),(10,.sl 3),(11,.sl 4),(12,.sl 5)] (ih N (c.Z2,c.p'.Zu,c.p'.ZE,c.p'.ZF,c.p'.ZG,c.Z3,c.Z4.ZY,c.Z4.Zu,c.Z4.ZZ,0) h)
theorem Zwr:∀ (N:Nat) (c:Yp) (d:(List Yj)) (e:(List YS)) (r:Yp) (h:Zdg N c d e=some r),Fn aB 50 ⟨8,[.B 0 0,.S 6,.S 7],((1,.sl YM c.Z2)::Xe 2 3 4 c.p' [(6,.sl Yz d),(7,.sl X9 e)]),[(0,.box (XO 1 2 3 4 5 c) 125),(5,.own rS c.Z3 false)],13,.t [],((8,.sl YM r.Z2)::Xe 9 10 11 r.p' []),[(5,.gone),(12,.own rS r.Z3 false),(0,.box (XO 8 9 10 11 12 r) 125)]⟩:=by
 intro N;induction N with
 | zero=>intros;rename_i h;cases h
 | succ N ih=>intro c d e r h;exact Zwp N (Zdg N) ih c d e r h
theorem Zwq (c:Yp) (d:(List Yj)) (e:(List YS)) (r:Yp) (h:VV N c d e=some r):Fn aB 50 ⟨8,[.B 0 0,.S 6,.S 7],((1,.sl YM c.Z2)::Xe 2 3 4 c.p' [(6,.sl Yz d),(7,.sl X9 e)]),[(0,.box (XO 1 2 3 4 5 c) 125),(5,.own rS c.Z3 false)],13,.t [],((8,.sl YM r.Z2)::Xe 9 10 11 r.p' []),[(5,.gone),(12,.own rS r.Z3 false),(0,.box (XO 8 9 10 11 12 r) 125)]⟩:=Zwr N c d e r h
end Gx
end
