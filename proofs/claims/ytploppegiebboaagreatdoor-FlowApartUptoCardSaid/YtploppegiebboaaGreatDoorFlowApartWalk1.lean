/- Each function of the statement computes what its plain definition says, part 1. -/
import Derived.Test.YtploppegiebboaaGreatDoorFlowApartBase
import Derived.Test.YtploppegiebboaaGreatDoorFlowApartLib
set_option linter.all false
open Go.Proofs.Tryz renaming prog→aB
open Option.some renaming injEq→aR
open ByteArray renaming empty→ao
open Go.Utf8 renaming encode→bE,decode→dD
section
set_option maxRecDepth 10000
set_option maxHeartbeats 4000000
open Go Go.Kx Go.Proofs Tryz
namespace Gx
variable (N:Nat)
theorem ZmV(d:be)(e:Int)(r:Int)(h:Bl N d e=some r) :
 Fn aB 136 ⟨0,[.c (.s d),.c (.i .u8 e)],[],[],0,.I r,[],[]⟩:=Yy func136 rfl fun E F w=>by
 unfold Bl at h;refine wa J 8 (eEx (ZpO func172 (by kernel_rfl) (by kernel_rfl) (by kernel_rfl) (by kernel_rfl) d e) (fun _=>trivial) ?_);exact oi h▸wr J 2 func136 []
theorem Zhq(d:be)(e:Int)(r:Int)(h:B8 N d e=some r) :
 Fn aB 73 ⟨0,[.c (.s d),.c (.i .u8 e)],[],[],0,.I r,[],[]⟩:=Yy func73 rfl fun E F w=>by
 unfold B8 at h;refine wO J 8 h fun f g h=>Ym (ZmV N d e _ g) [] [] ?_;exact oi h▸wr J 2 func73 []
theorem Zv9(d:Int)(r:Bool)(h:ZgV N d=some r) :
 Fn aB 169 ⟨0,[.c (.i .i32 d)],[],[],0,.O r,[],[]⟩:=Yy func169 rfl fun E F w=>by
 unfold ZgV at h;refine Yu J 11 h (fun h=>?_) fun h=>?_
 ·refine Yu J 11 h (fun h=>oi h▸wr J 12 func169 []) fun h=>?_;exact wB J 5 h (fun h=>oi h▸wr J 5 func169 []) fun h=>oi h▸wr J 7 func169 []
 refine wB J 5 h (fun h=>oi h▸wr J 5 func169 []) fun h=>?_;refine Yu J 6 h (fun h=>oi h▸wr J 12 func169 []) fun h=>?_;exact wB J 5 h (fun h=>oi h▸wr J 5 func169 []) fun h=>oi h▸wr J 7 func169 []
theorem ZvK(d:be)(e:Int)(r:Int)(h:ZgI N d e=some r) :
 Fn aB 134 ⟨0,[.c (.s d),.c (.i .i32 e)],[],[],0,.I r,[],[]⟩:=Yy func134 rfl fun E F w=>by
 unfold ZgI at h;refine wa J 10 (YD (σ:=Bool) (fun st=>(UU [(0,.c (.s d)),(1,.c (.i .i32 e)),(160,.O st)])) (fun st=>Zcy N d e st=some r) ?_ (fun j1=>?_))
 ·intro f h;unfold Zcy at h;refine eB h (fun h=>?_) fun h=>?_
  ·refine wO J 6 h fun g j h=>Ym (Zhq N d (wk .u8 (e)) _ j) [] [] ?_;exact oi h▸wr J 2 func134 []
  obtain⟨K,h⟩|⟨K,h⟩:=oc h
  ·refine wH J 7 K (wa J 5 (eRn J (fun bk2=>wa J 1 (YD (σ:=Nat) (fun st=>⟨[],[(0,.abs (UF bk2 d st))],[],1⟩) (fun st=>ZgJ st=some r) ?_ (fun j2=>?_)))))
   ·intro vi0_2 h;unfold ZgJ at h;exact oi h▸wr J 4 func134 []
   refine wa J 1 (YP (σ:=Nat) (fun st=>⟨[(175,.c (.v (.pointer (some ⟨bk2,0,none⟩))))],[(0,.abs (UF bk2 d st))],[],1⟩) (fun n st=>Zcz d n st) (r:=r) (fun _=>rfl) ?_ (fun ih=>?_))
   ·intro n2 ih4;intro vi0_4 h;unfold Zcz at h;obtain⟨K,h⟩|⟨K,h⟩:=U6 h
    ·exact wa J 2 (eNf bk2 0 K (wa J 5 (Yi [] (j2 vi0_4 h))))
    refine wa J 2 (eNt bk2 0 K ?_);exact wB J 18 h (fun h=>oi h▸wr J 6 func134 []) fun h=>wa J 3 (Yi [] (ih4 (vi0_4+(dD d vi0_4).2) h))
   exact Yi [] (ih N (0:Nat) h)
  refine wH J 7 K ?_;refine wO J 4 h fun k l h=>Ym (Zv9 N e _ l) [] [] ?_;refine wB J 3 h (fun h=>oi h▸wr J 5 func134 []) fun h=>wa J 5 (eCr (wa J 19 (YD (σ:=Unit) (fun st=>(UU [])) (fun st=>ZgK=some r) ?_ (fun j5=>?_))))
  ·intro _ h;unfold ZgK at h;exact oi h▸wr J 5 func134 []
  refine wa J 1 (YP (σ:=Unit) (fun st=>(UU [(0,.c (.s d)),(7,.c (.s (bE e))),(8,.I (Yh (((bE e).size:Int)-1))),(9,.I (Yh (((bE e).size:Int)-1)))])) (fun n st=>ZgM N d e n) (r:=r) (fun _=>rfl) ?_ (fun ih=>?_))
  ·intro n10 ih15;intro _ h;unfold ZgM at h;refine Yu J 8 h (fun h=>wa J 2 (Yi [] (j5 () h))) fun h=>?_;refine wO J 9 h fun m o h=>Wx J o ?_;refine wO J 2 h fun p q h=>Wx J q (wa J 1 (YL (YD (σ:=Int) (fun st=>(UU [(0,.c (.s d)),(7,.c (.s (bE e))),(8,.I (Yh (((bE e).size:Int)-1))),(9,.I st)])) (fun st=>Zcx N d e st=some r) ?_ (fun j20=>?_))))
   ·intro t h;unfold Zcx at h;refine wa J 5 (YD (σ:=Unit) (fun st=>(UU [(8,.I (Yh (((bE e).size:Int)-1))),(9,.I t)])) (fun st=>ZgL e t=some r) ?_ (fun j21=>?_))
    ·intro _ h;unfold ZgL at h;exact oi h▸wr J 8 func134 []
    refine wa J 1 (YP (σ:=Int) (fun st=>(UU [(0,.c (.s d)),(7,.c (.s (bE e))),(8,.I (Yh (((bE e).size:Int)-1))),(9,.I t),(12,.I st)])) (fun n st=>ZcA d e t n st) (r:=r) (fun _=>rfl) ?_ (fun ih=>?_))
    ·intro n12 ih23;intro u h;unfold ZcA at h;refine Yu J 8 h (fun h=>wa J 2 (Yi [] (j21 () h))) fun h=>?_;refine wO J 10 h fun x y h=>Wx J y ?_;refine wO J 4 h fun z A h=>Wx J A (wa J 1 (YL ?_));refine eB h (fun h=>?_) fun h=>wa J 8 (Yi [] (ih23 (Yh (u+1)) h));cases h
    exact Yi [] (ih N 1 h)
   refine Wj h (fun h=>wa J 2 (Yi [] (j20 (Yh (((bE e).size:Int)-1)) h))) fun h=>?_;refine wO J 6 h fun C D h=>Uw J D ?_;refine wO J 2 h fun G H h=>Wx J H ?_;have⟨R,T,h⟩:=ob h;refine Ym (Zhq N C G _ T) [] [] (wa J 1 (YL ?_));exact wB J 6 h (fun h=>oi h▸wr J 5 func134 []) fun h=>wa J 9 (Yi [] (j20 (Yh ((Yh (((bE e).size:Int)-1))+(Yh (R+1)))) h))
  exact Yi [] (ih N () h)
 exact eB h (fun h=>wa J 5 (Yi [] (j1 (decide (e<128)) h))) fun h=>wa J 5 (Yi [] (j1 false h))
theorem Zw6(d:be)(e:Int)(r:Bool)(h:z71 N d e=some r) :
 Fn aB 71 ⟨0,[.c (.s d),.c (.i .i32 e)],[],[],0,.O r,[],[]⟩:=Yy func71 rfl fun E F w=>by
 unfold z71 at h;refine wO J 8 h fun f g h=>Ym (ZvK N d e _ g) [] [] ?_;exact oi h▸wr J 3 func71 []
theorem ZvL(d:be)(e:be)(r:Bool)(h:ZgN N d e=some r) :
 Fn aB 135 ⟨0,[.c (.s d),.c (.s e)],[],[],0,.O r,[],[]⟩:=Yy func135 rfl fun E F w=>by
 unfold ZgN at h;refine Yu J 12 h (fun h=>oi h▸wr J 9 func135 []) fun h=>?_;refine wO J 3 h fun f g h=>Uw J g ?_;exact oi h▸wr J 5 func135 []
theorem Zna(d:be)(e:be)(r:Bool)(h:z72 N d e=some r) :
 Fn aB 72 ⟨0,[.c (.s d),.c (.s e)],[],[],0,.O r,[],[]⟩:=Yy func72 rfl fun E F w=>by
 unfold z72 at h;refine wO J 8 h fun f g h=>Ym (ZvL N d e _ g) [] [] ?_;exact oi h▸wr J 2 func72 []
theorem BC(c:Y4)(r:Y4)(h:M5 N c=some r) :
 Fn aB 26 ⟨1,[.B 0 0],[],[(0,.box (VO c) 107)],1,.t [],[],[(0,.box (VO r) 107)]⟩:=Yy func26 rfl fun E F w=>by
 unfold M5 at h;refine YD (σ:=Int) (fun st=>(GU c.s' st [])) (fun st=>Zg7 c st=some r) ?_ (fun j1=>?_)
 ·intro d h;unfold Zg7 at h;cases h;exact Xi J func26 []
 refine wa J 1 (YP (σ:=Int) (fun st=>(GU c.s' st [(0,.B 0 0)])) (fun n st=>Gn N c n st) (r:=r) (fun _=>rfl) ?_ (fun ih=>?_))
 ·intro n2 ih3;intro e h;unfold Gn at h;refine wa J 13 (YL ?_);refine Wj h (fun h=>wa J 2 (Yi [] (j1 e h))) fun h=>?_;refine wO J 13 h fun f g h=>Uw J g (wa J 1 (YL ?_));refine wO J 4 h fun i j h=>Wx J j ?_;refine wO J 1 h fun k l h=>Ym (Zw6 N (str [32,9,10,13]) (wk .i32 (i)) _ l) [] [] ?_;refine wB J 2 h (fun h=>wa J 13 (Yi [] (ih3 (Yh (e+1)) h))) fun h=>?_;refine wO J 4 h fun m o h=>Ym (Zna N f (str [47,47]) _ o) [] [] ?_;refine Yu J 2 h (fun h=>oi h▸wr J 1 func26 []) fun h=>?_;refine wO J 4 h fun p q h=>Ym (Zhq N f 10 _ q) [] [] ?_;exact wB J 8 h (fun h=>wa J 21 (Yi [] (ih3 (Yh (e+(Yh ((Yh ((f.size:Int)-1))+1)))) h))) fun h=>wa J 16 (Yi [] (ih3 (Yh (e+(Yh (p+1)))) h))
 exact Yi [] (ih N c.ZI h)
theorem Zha(d:Int)(r:Bool)(h:z28 N d=some r) :
 Fn aB 28 ⟨0,[.c (.i .u8 d)],[],[],0,.O r,[],[]⟩:=Yy func28 rfl fun E F w=>by
 unfold z28 at h;refine Yu J 9 h (fun h=>?_) fun h=>?_
 ·exact wB J 7 h (fun h=>oi h▸wr J 6 func28 []) fun h=>oi h▸wr J 6 func28 []
 refine wB J 4 h (fun h=>oi h▸wr J 9 func28 []) fun h=>?_;exact wB J 3 h (fun h=>oi h▸wr J 6 func28 []) fun h=>oi h▸wr J 6 func28 []
theorem Zhc(d:Int)(r:Bool)(h:Gq N d=some r) :
 Fn aB 30 ⟨0,[.c (.i .u8 d)],[],[],0,.O r,[],[]⟩:=Yy func30 rfl fun E F w=>by
 unfold Gq at h;exact wB J 9 h (fun h=>oi h▸wr J 5 func30 []) fun h=>oi h▸wr J 5 func30 []
theorem Zhu(d:Int)(r:Bool)(h:z76 N d=some r) :
 Fn aB 76 ⟨0,[.c (.i .u8 d)],[],[],0,.O r,[],[]⟩:=Yy func76 rfl fun E F w=>by
 unfold z76 at h;refine wO J 7 h fun e f h=>Ym (Zha N d _ f) [] [] ?_;refine wB J 1 h (fun h=>oi h▸wr J 9 func76 []) fun h=>?_;refine wO J 1 h fun g j h=>Ym (Zhc N d _ j) [] [] ?_;exact wB J 2 h (fun h=>oi h▸wr J 5 func76 []) fun h=>oi h▸wr J 5 func76 []
theorem Zw8(d:Y4)(r:be×Y4)(h:Zhs N d=some r) :
 Fn aB 75 ⟨1,[.B 0 0,.c (.cl 76 [] [])],[],[(0,.box (VO d) 107)],1,.c (.s r.1),[],[(0,.box (VO r.2) 107)]⟩:=Yy func75 rfl fun E F w=>by
 unfold Zhs at h;refine wa J 13 (YD (σ:=Int) (fun st=>(GU d.s' st [(0,.B 0 0),(5,.I d.ZI)])) (fun st=>ZdL d st=some r) ?_ (fun j1=>?_))
 ·intro e h;unfold ZdL at h;refine wO J 11 h fun f g h=>Uw J g (wa J 1 (YL ?_));cases h;exact Xi J func75 []
 refine wa J 1 (YP (σ:=Int) (fun st=>(GU d.s' st [(0,.B 0 0),(1,.c (.cl 76 [] [])),(5,.I d.ZI)])) (fun n st=>ZdM N d n st) (r:=r) (fun _=>rfl) ?_ (fun ih=>?_))
 ·intro n2 ih3;intro i h;unfold ZdM at h;refine Yu J 14 h (fun h=>wa J 12 (YL (wa J 2 (Yi [] (j1 i h))))) fun h=>?_;refine wO J 9 h fun j k h=>Wx J k ?_;have⟨l,m,h⟩:=ob h;refine Ym (Zhu N j _ m) [] [] (wa J 1 (YL ?_));exact eB h (fun h=>wa J 14 (Yi [] (ih3 (Yh (i+1)) h))) fun h=>wa J 2 (Yi [] (j1 i h))
 exact Yi [] (ih N d.ZI h)
theorem Zwv(c:Y4)(r:YO×Int×Y4)(h:z29 N c=some r) :
 Fn aB 29 ⟨1,[.B 0 0],[],[(0,.box (VO c) 107)],1,.t [.inr (Dc r.1),.inl (.I r.2.1)],[],[(0,.box (VO r.2.2) 107)]⟩:=Yy func29 rfl fun E F w=>by
 unfold z29 at h;refine wO J 8 h fun d e h=>Ym (Zw8 N c _ e) [] [(0,.bp 0 0)] ?_;exact wB J 9 h (fun h=>oi h▸wr J 7 func29 []) fun h=>oi h▸wr J 9 func29 []
theorem Zw9(d:Y4)(r:be×Y4)(h:Zht N d=some r) :
 Fn aB 75 ⟨1,[.B 0 0,.c (.cl 30 [] [])],[],[(0,.box (VO d) 107)],1,.c (.s r.1),[],[(0,.box (VO r.2) 107)]⟩:=Yy func75 rfl fun E F w=>by
 unfold Zht at h;refine wa J 13 (YD (σ:=Int) (fun st=>(GU d.s' st [(0,.B 0 0),(5,.I d.ZI)])) (fun st=>ZdN d st=some r) ?_ (fun j1=>?_))
 ·intro e h;unfold ZdN at h;refine wO J 11 h fun f g h=>Uw J g (wa J 1 (YL ?_));cases h;exact Xi J func75 []
 refine wa J 1 (YP (σ:=Int) (fun st=>(GU d.s' st [(0,.B 0 0),(1,.c (.cl 30 [] [])),(5,.I d.ZI)])) (fun n st=>ZdO N d n st) (r:=r) (fun _=>rfl) ?_ (fun ih=>?_))
 ·intro n2 ih3;intro i h;unfold ZdO at h;refine Yu J 14 h (fun h=>wa J 12 (YL (wa J 2 (Yi [] (j1 i h))))) fun h=>?_;refine wO J 9 h fun j k h=>Wx J k ?_;have⟨l,m,h⟩:=ob h;refine Ym (Zhc N j _ m) [] [] (wa J 1 (YL ?_));exact eB h (fun h=>wa J 14 (Yi [] (ih3 (Yh (i+1)) h))) fun h=>wa J 2 (Yi [] (j1 i h))
 exact Yi [] (ih N d.ZI h)
theorem Zww(d:Y4)(r:YO×Int×Y4)(h:z31 N d=some r) :
 Fn aB 31 ⟨1,[.B 0 0],[],[(0,.box (VO d) 107)],1,.t [.inr (Dc r.1),.inl (.I r.2.1)],[],[(0,.box (VO r.2.2) 107)]⟩:=Yy func31 rfl fun E F w=>by
 unfold z31 at h;refine wO J 8 h fun e f h=>Ym (Zw9 N d _ f) [] [(0,.bp 0 0)] ?_;refine wa J 16 (YD (σ:=Bool) (fun st=>(zz4 e.2 [(2,.B 1 0),(4,.c (.s e.1)),(30,.O st)])) (fun st=>Zdk N e st=some r) ?_ (fun j1=>?_))
 ·intro g h;unfold Zdk at h;refine eB h (fun h=>oi h▸wr J 7 func31 []) fun h=>?_;refine wa J 9 (YD (σ:=Bool) (fun st=>(zz4 e.2 [(2,.B 1 0),(4,.c (.s e.1)),(44,.O st)])) (fun st=>BD N e st=some r) ?_ (fun j2=>?_))
  ·intro i h;unfold BD at h;refine eB h (fun h=>oi h▸wr J 7 func31 []) fun h=>wa J 15 (YD (σ:=Int) (fun st=>(Znm e.2 st [(2,.B 1 0),(5,.B 2 0)])) (fun st=>Zhd e st=some r) ?_ (fun j3=>?_))
   ·intro j h;unfold Zhd at h;exact oi h▸wr J 6 func31 []
   refine wa J 1 (YP (σ:=Int×Int) (fun st=>(Znm e.2 st.1 [(2,.B 1 0),(4,.c (.s e.1)),(5,.B 2 0),(48,.I (e.1.size:Int)),(49,.I st.2)])) (fun n st=>Zdl e n st.1 st.2) (r:=r) (fun _=>rfl) ?_ (fun ih=>?_))
   ·intro n2 ih5;rintro⟨k,l⟩ h;unfold Zdl at h;refine Yu J 5 h (fun h=>wa J 2 (Yi [] (j3 k h))) fun h=>?_;exact wO J 15 h fun m o h=>Wx J o (wa J 5 (YL (wa J 5 (Yi [] (ih5 ((Yh ((Yh (10*k))+(Yh ((wk .u8 (m-48)))))),(Yh (l+1))) h)))))
   exact Yi [] (ih N (0,0) h)
  refine eB h (fun h=>wa J 10 (Yi [] (j2 true h))) fun h=>?_;refine Yu J 4 h (fun h=>wa J 6 (Yi [] (j2 false h))) fun h=>?_;exact wO J 1 h fun p q h=>Wx J q (wa J 4 (Yi [] (j2 (p==48) h)))
 refine Wj h (fun h=>wa J 11 (YL (Yi [] (j1 false h)))) fun h=>?_;refine wO J 8 h fun u v h=>Wx J v ?_;have⟨x,y,h⟩:=ob h;exact Ym (Zhu N u _ y) [] [] (wa J 1 (YL (Yi [] (j1 x h))))
theorem Zwx(d:Y4)(r:YO×Int×Y4)(h:z32 N d=some r) :
 Fn aB 32 ⟨1,[.B 0 0],[],[(0,.box (VO d) 107)],1,.t [.inr (Dc r.1),.inl (.I r.2.1)],[],[(0,.box (VO r.2.2) 107)]⟩:=Yy func32 rfl fun E F w=>by
 unfold z32 at h;refine wa J 21 (YD (σ:=Int) (fun st=>⟨[(2,.B 1 0)],[(0,.box [.s d.s',.I st] 107),(1,.box [.I 0,.s (str []),.I 0,.I 0] 111)],[],2⟩) (fun st=>Zhf d st=some r) ?_ (fun j1=>?_))
 ·intro e h;unfold Zhf at h;exact oi h▸wr J 6 func32 []
 refine wa J 1 (YP (σ:=Int×(List Int)) (fun st=>(Znn d.s' st.1 st.2 [(0,.B 0 0),(2,.B 1 0),(4,.S 2)])) (fun n st=>M6 d n st.1 st.2) (r:=r) (fun _=>rfl) ?_ (fun ih=>?_))
 ·intro n2 ih6;rintro⟨f,g⟩ h;unfold M6 at h;refine wa J 13 (YL ?_);refine Wj h (fun h=>wa J 2 (Yi [] (j1 f h))) fun h=>?_;refine wO J 14 h fun j k h=>Wx J k (wa J 1 (YL ?_));refine wB J 6 h (fun h=>?_) fun h=>wa J 8 (YD (σ:=Int×Int) (fun st=>(Znn d.s' st.1 g [(0,.B 0 0),(2,.B 1 0),(4,.S 2),(5,.c (.i .u8 st.2))])) (fun st=>BE d g (M6 d n2) st.1 st.2=some r) ?_ (fun j9=>?_))
  ·exact wB J 19 h (fun h=>oi h▸wr J 7 func32 []) fun h=>wa J 5 (eCs g (oi h▸wr J 4 func32 []))
  ·rintro⟨l,m⟩ h;unfold BE at h;refine wB J 6 h (fun h=>oi h▸wr J 11 func32 []) fun h=>?_;refine wB J 4 h (fun h=>oi h▸wr J 7 func32 []) fun h=>wa J 5 (YW J [] (oI .u8) ([m]:List Int) ?_);have⟨o,p,h⟩:=ob h;exact Xu J (rI .u8) p (wa J 13 (Yi [(2,.sl 4)] (ih6 ((Yh (l+1)),o) h)))
  refine Wj h (fun h=>wa J 2 (Yi [] (j9 (f,j) h))) fun h=>?_;refine wB J 26 h (fun h=>wa J 23 (YL (oi h▸wr J 7 func32 []))) fun h=>?_;refine wO J 8 h fun q u h=>Wx J u ?_;refine Yu J 2 h (fun h=>wa J 12 (YL ?_)) fun h=>?_
  ·exact wO J 11 h fun v x h=>Wx J x (wa J 1 (YL (Yi [] (j9 ((Yh (f+1)),v) h))))
  refine wO J 8 h fun y z h=>Wx J z (wa J 3 (YL ?_));refine eB h (fun h=>oi h▸wr J 7 func32 []) fun h=>?_;exact wO J 11 h fun A C h=>Wx J C (wa J 1 (YL (Yi [] (j9 ((Yh (f+1)),A) h))))
 exact Yi [(2,.nil)] (ih N ((Yh (d.ZI+1)),([]:List Int)) h)
theorem Zwa(d:be)(e:be)(r:Int)(h:z173 N d e=some r) :
 Fn aB 173 ⟨0,[.c (.s d),.c (.s e)],[],[],0,.I r,[],[]⟩:=Yy func173 rfl fun E F w=>by
 unfold z173 at h;refine wB J 17 h (fun h=>oi h▸wr J 11 func173 []) fun h=>?_;refine wB J 6 h (fun h=>oi h▸wr J 5 func173 []) fun h=>?_;refine wB J 7 h (fun h=>?_) fun h=>?_
 ·refine wO J 5 h fun f g h=>Wx J g ?_;have⟨i,j,h⟩:=ob h;refine Ym (ZmV N d f _ j) [] [] ?_;exact oi h▸wr J 2 func173 []
 refine wB J 9 h (fun h=>oi h▸wr J 5 func173 []) fun h=>?_;cases h
theorem ZgO(d:be)(e:be)(r:Int)(h:MK N d e=some r) :
 Fn aB 137 ⟨0,[.c (.s d),.c (.s e)],[],[],0,.I r,[],[]⟩:=Yy func137 rfl fun E F w=>by
 unfold MK at h;refine wO J 8 h fun f g h=>Ym (Zwa N d e _ g) [] [] ?_;exact oi h▸wr J 2 func137 []
theorem Zw7(d:be)(e:be)(r:Bool)(h:z74 N d e=some r) :
 Fn aB 74 ⟨0,[.c (.s d),.c (.s e)],[],[],0,.O r,[],[]⟩:=Yy func74 rfl fun E F w=>by
 unfold z74 at h;refine wO J 8 h fun f g h=>Ym (ZgO N d e _ g) [] [] ?_;exact oi h▸wr J 3 func74 []
theorem Zwu(c:Y4)(r:YO×Int×Y4)(h:z27 N c=some r) :
 Fn aB 27 ⟨1,[.B 0 0],[],[(0,.box (VO c) 107)],1,.t [.inr (Dc r.1),.inl (.I r.2.1)],[],[(0,.box (VO r.2.2) 107)]⟩:=Yy func27 rfl fun E F w=>by
 unfold z27 at h;refine wa J 11 (YD (σ:=Unit) (fun st=>(zz4 c [(0,.B 0 0),(2,.B 1 0)])) (fun st=>Zg9 N c=some r) ?_ (fun j1=>?_))
 ·intro _ h;unfold Zg9 at h;refine wO J 15 h fun d e h=>Uw J e (wa J 1 (YL ?_));refine wO J 4 h fun f g h=>Ym (Zw7 N (str [40,41,123,125,44,59,58,46,43,45,42,47,37,60,62,61,33]) d _ g) [] [] ?_;exact wB J 2 h (fun h=>oi h▸wr J 7 func27 []) fun h=>oi h▸wr J 20 func27 []
 refine wa J 1 (YP (σ:=Int) (fun st=>(zz4 c [(0,.B 0 0),(2,.B 1 0),(7,.a [.s (str [45,62]),.s (str [46,46]),.s (str [60,61]),.s (str [62,61]),.s (str [61,61]),.s (str [33,61]),.s (str [38,38]),.s (str [124,124])]),(8,.I st)])) (fun n st=>Zdj N c n st) (r:=r) (fun _=>rfl) ?_ (fun ih=>?_))
 ·intro n2 ih3;intro i h;unfold Zdj at h;refine Yu J 5 h (fun h=>wa J 2 (Yi [] (j1 () h))) fun h=>?_;refine wO J 6 h fun j k h=>eAx SC.s ([(str [45,62]),(str [46,46]),(str [60,61]),(str [62,61]),(str [61,61]),(str [33,61]),(str [38,38]),(str [124,124])]:List be) k ?_;refine wO J 12 h fun l m h=>Uw J m ?_;refine wO J 1 h fun o p h=>Ym (Zna N l j _ p) [] [] (YL ?_);exact eB h (fun h=>oi h▸wr J 19 func27 []) fun h=>wa J 7 (Yi [] (ih3 (Yh (i+1)) h))
 exact Yi [] (ih N 0 h)
theorem ZvW(d:be)(r:(List YO)×Int×Int)(h:z14 N d=some r) :
 Fn aB 14 ⟨0,[.c (.s d)],[],[],1,.t [.inl (.sl 0),.inl (.I r.2.1),.inl (.I r.2.2)],[],[(0,.own Y2 r.1 true)]⟩:=Yy func14 rfl fun E F w=>by
 unfold z14 at h;refine wB J 13 h (fun h=>oi h▸wr J 7 func14 [(0,.nil)]) fun h=>?_;refine wO J 13 h fun e f h=>Ym (BC N (⟨d,0⟩:Y4) _ f) [] [(0,.bp 0 0)] (wa J 1 (YD (σ:=(List YO)) (fun st=>⟨[(2,.S 1)],[(1,.own Y2 st true)],[],2⟩) (fun st=>ZgS st=some r) ?_ (fun j1=>?_)))
 ·intro g h;unfold ZgS at h;exact oi h▸wr J 7 func14 [(0,.sl 1)]
 refine wa J 1 (YP (σ:=(List YO)×be×Int) (fun st=>⟨[(0,.c (.s d)),(2,.S 1),(5,.B 0 0)],[(0,.box [.s st.2.1,.I st.2.2] 107),(1,.own Y2 st.1 true)],[],2⟩) (fun n st=>MT N d n st.1 st.2.1 st.2.2) (r:=r) (fun _=>rfl) ?_ (fun ih=>?_))
 ·intro n2 ih12;rintro⟨i,j,k⟩ h;unfold MT at h;refine Yu J 11 h (fun h=>wa J 2 (Yi [] (j1 i h))) fun h=>?_;refine wO J 18 h fun l m h=>Wx J m ?_;refine wO J 6 h fun o p h=>Ym (Zha N l _ p) [] [] ?_;refine wB J 2 h (fun h=>?_) fun h=>?_
  ·refine wO J 18 h fun q u h=>Ym (Zwv N (⟨j,k⟩:Y4) _ u) [] [(0,.bp 0 0)] ?_;refine wB J 13 h (fun h=>oi h▸wr J 9 func14 [(0,.nil)]) fun h=>wa J 11 (YW J [] Hv ([(⟨q.1.Zt,q.1.ZH,q.1.Value,k⟩:YO)]:List YO) ?_);have⟨v,x,h⟩:=ob h;refine Xu J Y2 x ?_;exact wO J 5 h fun y z h=>Ym (BC N q.2.2 _ z) [] [(0,.bp 0 0)] (wa J 1 (Yi [(1,.sl 4)] (ih12 (v,y.s',y.ZI) h)))
  refine wO J 4 h fun A C h=>Ym (Zhc N l _ C) [] [] ?_;refine wB J 2 h (fun h=>?_) fun h=>?_
  ·refine wO J 18 h fun D G h=>Ym (Zww N (⟨j,k⟩:Y4) _ G) [] [(0,.bp 0 0)] ?_;refine wB J 13 h (fun h=>oi h▸wr J 9 func14 [(0,.nil)]) fun h=>wa J 11 (YW J [] Hv ([(⟨D.1.Zt,D.1.ZH,D.1.Value,k⟩:YO)]:List YO) ?_);have⟨H,R,h⟩:=ob h;refine Xu J Y2 R ?_;exact wO J 5 h fun T U h=>Ym (BC N D.2.2 _ U) [] [(0,.bp 0 0)] (wa J 1 (Yi [(1,.sl 4)] (ih12 (H,T.s',T.ZI) h)))
  refine wB J 7 h (fun h=>?_) fun h=>?_
  ·refine wO J 18 h fun X Y h=>Ym (Zwx N (⟨j,k⟩:Y4) _ Y) [] [(0,.bp 0 0)] ?_;refine wB J 13 h (fun h=>oi h▸wr J 9 func14 [(0,.nil)]) fun h=>wa J 11 (YW J [] Hv ([(⟨X.1.Zt,X.1.ZH,X.1.Value,k⟩:YO)]:List YO) ?_);have⟨Z,a0,h⟩:=ob h;refine Xu J Y2 a0 ?_;exact wO J 5 h fun b0 c0 h=>Ym (BC N X.2.2 _ c0) [] [(0,.bp 0 0)] (wa J 1 (Yi [(1,.sl 4)] (ih12 (Z,b0.s',b0.ZI) h)))
  refine wO J 14 h fun e0 g0 h=>Ym (Zwu N (⟨j,k⟩:Y4) _ g0) [] [(0,.bp 0 0)] ?_;refine wB J 13 h (fun h=>oi h▸wr J 9 func14 [(0,.nil)]) fun h=>wa J 11 (YW J [] Hv ([(⟨e0.1.Zt,e0.1.ZH,e0.1.Value,k⟩:YO)]:List YO) ?_);have⟨i0,j0,h⟩:=ob h;refine Xu J Y2 j0 ?_;exact wO J 5 h fun k0 l0 h=>Ym (BC N e0.2.2 _ l0) [] [(0,.bp 0 0)] (wa J 1 (Yi [(1,.sl 4)] (ih12 (i0,k0.s',k0.ZI) h)))
 exact Yi [(1,.nil)] (ih N (([]:List YO),e.s',e.ZI) h)
theorem Lm(c:Yw)(r:YO)(h:Qt N c=some r) :
 Fn aB 78 ⟨2,[.B 0 0],[(1,.sl Y2 c.l')],[(0,.box (Xt 1 c) 66)],2,.a (Dc r),[],[(0,.box (Xt 1 c) 66)]⟩:=Yy func78 rfl fun E F w=>by
 unfold Qt at h;refine wB J 13 h (fun h=>wa J 11 (YL (oi h▸wr J 6 func78 []))) fun h=>wa J 11 (YL ?_);refine eB h (fun h=>oi h▸wr J 6 func78 []) fun h=>?_;refine wO J 12 h fun d e h=>YK J Hv e (wa J 2 (YL ?_));cases h;exact Xi J func78 []
theorem Znb(d:Yw)(e:be)(r:Bool)(h:z79 N d e=some r) :
 Fn aB 79 ⟨2,[.B 0 0,.c (.s e)],[(1,.sl Y2 d.l')],[(0,.box (Xt 1 d) 66)],2,.O r,[],[(0,.box (Xt 1 d) 66)]⟩:=Yy func79 rfl fun E F w=>by
 unfold z79 at h;refine wO J 7 h fun f g h=>Ym (Lm N d _ g) [] [(0,.bp 0 0),(1,.sl 1)] ?_;refine wB J 9 h (fun h=>oi h▸wr J 12 func79 []) fun h=>?_;exact wB J 5 h (fun h=>oi h▸wr J 7 func79 []) fun h=>oi h▸wr J 7 func79 []
theorem W5(d:Yw)(e:be)(r:Bool×Yw)(h:WQ N d e=some r) :
 Fn aB 36 ⟨2,[.B 0 0,.c (.s e)],[(1,.sl Y2 d.l')],[(0,.box (Xt 1 d) 66)],3,.O r.1,[(2,.sl Y2 r.2.l')],[(0,.box (Xt 2 r.2) 66)]⟩:=Yy func36 rfl fun E F w=>by
 unfold WQ at h;refine wO J 9 h fun f g h=>Ym (Znb N d e _ g) [] [(0,.bp 0 0),(1,.sl 1)] ?_;exact wB J 2 h (fun h=>oi h▸wr J 5 func36 [(2,.sl 1)]) fun h=>oi h▸wr J 17 func36 [(2,.sl 1)]
theorem Py(c:Yw)(d:Int)(r:Yw)(h:Rw N c d=some r) :
 Fn aB 77 ⟨2,[.B 0 0,.I d],[(1,.sl Y2 c.l')],[(0,.box (Xt 1 c) 66)],3,.t [],[(2,.sl Y2 r.l')],[(0,.box (Xt 2 r) 66)]⟩:=Yy func77 rfl fun E F w=>by
 unfold Rw at h;refine wB J 9 h (fun h=>oi h▸wr J 1 func77 [(2,.sl 1)]) fun h=>wa J 30 (YL ?_);refine Wj h (fun h=>oi h▸wr J 2 func77 [(2,.sl 1)]) fun h=>?_;refine wO J 11 h fun e f h=>YK J Hv f (wa J 5 (YL ?_));cases h;exact Xi J func77 [(2,.sl 1)]
theorem Wl(d:Yw)(e:be)(r:Yw)(h:Wg N d e=some r) :
 Fn aB 33 ⟨2,[.B 0 0,.c (.s e)],[(1,.sl Y2 d.l')],[(0,.box (Xt 1 d) 66)],3,.t [],[(2,.sl Y2 r.l')],[(0,.box (Xt 2 r) 66)]⟩:=Yy func33 rfl fun E F w=>by
 unfold Wg at h;refine wO J 4 h fun f g h=>Ym (W5 N d e _ g) [] [(0,.bp 0 0),(1,.sl 1)] ?_;refine Yu J 2 h (fun h=>oi h▸wr J 2 func33 [(2,.sl 2)]) fun h=>?_;refine wO J 3 h fun i j h=>Ym (Py N f.2 3 _ j) [] [(0,.bp 0 0),(1,.sl 2)] ?_;exact oi h▸wr J 1 func33 [(2,.sl 3)]
theorem Zxb(d:be)(r:Bool)(h:GL N d=some r) :
 Fn aB 85 ⟨0,[.c (.s d)],[],[],0,.O r,[],[]⟩:=Yy func85 rfl fun E F w=>by
 unfold GL at h;refine wB J 10 h (fun h=>oi h▸wr J 16 func85 []) fun h=>?_;refine wB J 5 h (fun h=>oi h▸wr J 11 func85 []) fun h=>?_;refine wO J 1 h fun e f h=>Wx J f ?_;have⟨g,i,h⟩:=ob h;refine Ym (Zha N e _ i) [] [] ?_;refine wB J 3 h (fun h=>oi h▸wr J 5 func85 []) fun h=>wa J 9 (YD (σ:=Unit) (fun st=>(UU [])) (fun st=>ZdV=some r) ?_ (fun j1=>?_))
 ·intro _ h;unfold ZdV at h;exact oi h▸wr J 4 func85 []
 refine wa J 1 (YP (σ:=Int) (fun st=>(UU [(0,.c (.s d)),(18,.I (d.size:Int)),(19,.I st)])) (fun n st=>PB N d n st) (r:=r) (fun _=>rfl) ?_ (fun ih=>?_))
 ·intro n2 ih3;intro j h;unfold PB at h;refine Yu J 5 h (fun h=>wa J 2 (Yi [] (j1 () h))) fun h=>?_;refine wO J 13 h fun k l h=>Wx J l ?_;have⟨m,o,h⟩:=ob h;refine Ym (Zhu N k _ o) [] [] ?_;exact wB J 2 h (fun h=>oi h▸wr J 5 func85 []) fun h=>wa J 7 (Yi [] (ih3 (Yh (j+1)) h))
 exact Yi [] (ih N 0 h)
theorem ZmW(d:(List be))(e:be)(r:Int)(h:TT N d e=some r) :
 Fn aB 141 ⟨1,[.S 0,.c (.s e)],[(0,.sl rS d)],[],1,.I r,[],[]⟩:=Yy func141 rfl fun E F w=>by
 unfold TT at h;refine wa J 11 (YD (σ:=Unit) (fun st=>(GV d [])) (fun st=>H9=some r) ?_ (fun j1=>?_))
 ·intro _ h;unfold H9 at h;exact oi h▸wr J 4 func141 []
 refine wa J 1 (YP (σ:=Int) (fun st=>(GV d [(0,.S 0),(1,.c (.s e)),(7,.I (d.length:Int)),(8,.I st)])) (fun n st=>Tg d e n st) (r:=r) (fun _=>rfl) ?_ (fun ih=>?_))
 ·intro n2 ih3;intro f h;unfold Tg at h;refine Yu J 5 h (fun h=>wa J 2 (Yi [] (j1 () h))) fun h=>?_;refine wO J 14 h fun g i h=>YK J oS i ?_;exact wB J 3 h (fun h=>oi h▸wr J 6 func141 []) fun h=>wa J 7 (Yi [] (ih3 (Yh (f+1)) h))
 exact Yi [] (ih N 0 h)
theorem PA(d:(List be))(e:be)(r:Bool)(h:V4 N d e=some r) :
 Fn aB 83 ⟨1,[.S 0,.c (.s e)],[(0,.sl rS d)],[],1,.O r,[],[]⟩:=Yy func83 rfl fun E F w=>by
 unfold V4 at h;refine wO J 8 h fun f g h=>Ym (ZmW N d e _ g) [] [(0,.sl 0)] ?_;exact oi h▸wr J 3 func83 []
theorem SD(d:be)(r:Bool)(h:Vx N d=some r) :
 Fn aB 39 ⟨0,[.c (.s d)],[],[],0,.O r,[],[]⟩:=Yy func39 rfl fun E F w=>by
 unfold Vx at h;refine wO J 13 h fun e f h=>Ym (Zxb N d _ f) [] [] ?_;refine Yu J 1 h (fun h=>oi h▸wr J 7 func39 []) fun h=>eSb [] oS ([(str [97,103,97,105,110]),(str [97,110,100]),(str [97,115]),(str [97,116]),(str [99,97,108,108]),(str [99,104,111,105,99,101]),(str [101,108,115,101]),(str [102,114,111,109]),(str [105,102]),(str [105,110,116]),(str [108,101,110]),(str [108,111,111,112]),(str [109,101,115,115,97,103,101]),(str [111,102]),(str [111,102,102,101,114]),(str [111,110]),(str [111,114]),(str [112,97,114]),(str [112,108,97,121,115]),(str [112,114,111,116,111,99,111,108]),(str [115,101,114,118,105,99,101]),(str [116,101,120,116]),(str [116,105,109,101,115]),(str [116,111]),(str [118,97,114]),(str [119,104,101,114,101]),(str [119,104,105,108,101]),(str [119,105,116,104,105,110])]:List be) ?_;refine wO J 1 h fun g i h=>Wp (PA N ([(str [97,103,97,105,110]),(str [97,110,100]),(str [97,115]),(str [97,116]),(str [99,97,108,108]),(str [99,104,111,105,99,101]),(str [101,108,115,101]),(str [102,114,111,109]),(str [105,102]),(str [105,110,116]),(str [108,101,110]),(str [108,111,111,112]),(str [109,101,115,115,97,103,101]),(str [111,102]),(str [111,102,102,101,114]),(str [111,110]),(str [111,114]),(str [112,97,114]),(str [112,108,97,121,115]),(str [112,114,111,116,111,99,111,108]),(str [115,101,114,118,105,99,101]),(str [116,101,120,116]),(str [116,105,109,101,115]),(str [116,111]),(str [118,97,114]),(str [119,104,101,114,101]),(str [119,104,105,108,101]),(str [119,105,116,104,105,110])]:List be) d _ i) [] [(0,.sl 1)] [1] (.inr ⟨rfl,trivial⟩) ?_;exact oi h▸wr J 4 func39 []
theorem Rq(d:Yw)(r:be×Yw)(h:TX N d=some r) :
 Fn aB 34 ⟨2,[.B 0 0],[(1,.sl Y2 d.l')],[(0,.box (Xt 1 d) 66)],3,.c (.s r.1),[(2,.sl Y2 r.2.l')],[(0,.box (Xt 2 r.2) 66)]⟩:=Yy func34 rfl fun E F w=>by
 unfold TX at h;refine wO J 7 h fun e f h=>Ym (Lm N d _ f) [] [(0,.bp 0 0),(1,.sl 1)] ?_;refine wB J 10 h (fun h=>?_) fun h=>?_
 ·refine wO J 10 h fun g i h=>Ym (Py N d 3 _ i) [] [(0,.bp 0 0),(1,.sl 1)] ?_;exact oi h▸wr J 5 func34 [(2,.sl 3)]
 refine wO J 2 h fun j k h=>Ym (SD N e.ZH _ k) [] [] ?_;refine Yu J 3 h (fun h=>oi h▸wr J 19 func34 [(2,.sl 1)]) fun h=>?_;refine wO J 4 h fun l m h=>Ym (Py N d 3 _ m) [] [(0,.bp 0 0),(1,.sl 1)] ?_;exact oi h▸wr J 5 func34 [(2,.sl 3)]
theorem Zhg(c:Yw)(r:(List be)×Yw)(h:BF N c=some r) :
 Fn aB 35 ⟨2,[.B 0 0],[(1,.sl Y2 c.l')],[(0,.box (Xt 1 c) 66)],4,.S 2,[(3,.sl Y2 r.2.l')],[(2,.own rS r.1 true),(0,.box (Xt 3 r.2) 66)]⟩:=Yy func35 rfl fun E F w=>by
 unfold BF at h;refine wO J 7 h fun d e h=>Ym (Rq N c _ e) [] [(0,.bp 0 0),(1,.sl 1)] (YW J [] oS ([d.1]:List be) (wa J 3 (YD (σ:=(List YO)×Int×Int×Int×Int×(List be)) (fun st=>⟨[(3,.S 5)],[(0,.box [.sl 4,.I st.2.1,.I st.2.2.1,.I st.2.2.2.1,.I st.2.2.2.2.1] 66),(5,.own rS st.2.2.2.2.2 true)],[(1,.sl Y2 c.l'),(4,.sl Y2 st.1)],6⟩) (fun st=>Zhh st.1 st.2.1 st.2.2.1 st.2.2.2.1 st.2.2.2.2.1 st.2.2.2.2.2=some r) ?_ (fun j1=>?_))))
 ·rintro⟨f,g,i,j,k,l⟩ h;unfold Zhh at h;exact oi h▸wr J 5 func35 [(2,.sl 5),(3,.sl 4)]
 refine wa J 1 (YP (σ:=(List YO)×Int×Int×Int×Int×(List be)) (fun st=>⟨[(0,.B 0 0),(3,.S 5)],[(0,.box [.sl 4,.I st.2.1,.I st.2.2.1,.I st.2.2.2.1,.I st.2.2.2.2.1] 66),(5,.own rS st.2.2.2.2.2 true)],[(1,.sl Y2 c.l'),(4,.sl Y2 st.1)],6⟩) (fun n st=>Zdm N n st.1 st.2.1 st.2.2.1 st.2.2.2.1 st.2.2.2.2.1 st.2.2.2.2.2) (r:=r) (fun _=>rfl) ?_ (fun ih=>?_))
 ·intro n2 ih3;rintro⟨m,o,p,q,s,t⟩ h;unfold Zdm at h;refine wO J 4 h fun u v h=>Ym (W5 N (⟨m,o,p,q,s⟩:Yw) (str [44]) _ v) [] [(0,.bp 0 0),(1,.sl 4)] ?_;refine Yu J 1 h (fun h=>wa J 2 (Yi [(4,.sl 6)] (j1 (u.2.l',u.2.n',u.2.end',u.2.ZI,u.2.ZJ,t) h))) fun h=>?_;refine wO J 6 h fun x y h=>Ym (Rq N u.2 _ y) [] [(0,.bp 0 0),(1,.sl 6)] (YW J [] oS ([x.1]:List be) ?_);have⟨z,A,h⟩:=ob h;exact Xu J rS A (wa J 3 (Yi [(4,.sl 7),(5,.sl 9)] (ih3 (x.2.l',x.2.n',x.2.end',x.2.ZI,x.2.ZJ,z) h)))
 exact Yi [(4,.sl 2),(5,.sl 3)] (ih N (d.2.l',d.2.n',d.2.end',d.2.ZI,d.2.ZJ,([d.1]:List be)) h)
theorem GK(d:Yw)(r:be×Yw)(h:Pz N d=some r) :
 Fn aB 80 ⟨2,[.B 0 0],[(1,.sl Y2 d.l')],[(0,.box (Xt 1 d) 66)],3,.c (.s r.1),[(2,.sl Y2 r.2.l')],[(0,.box (Xt 2 r.2) 66)]⟩:=Yy func80 rfl fun E F w=>by
 unfold Pz at h;refine wO J 7 h fun e f h=>Ym (Rq N d _ f) [] [(0,.bp 0 0),(1,.sl 1)] (wa J 3 (YD (σ:=(List YO)×Int×Int×Int×Int×be) (fun st=>⟨[(3,.c (.s st.2.2.2.2.2))],[(0,.box [.sl 3,.I st.2.1,.I st.2.2.1,.I st.2.2.2.1,.I st.2.2.2.2.1] 66)],[(1,.sl Y2 d.l'),(3,.sl Y2 st.1)],4⟩) (fun st=>Zhv st.1 st.2.1 st.2.2.1 st.2.2.2.1 st.2.2.2.2.1 st.2.2.2.2.2=some r) ?_ (fun j1=>?_)))
 ·rintro⟨g,i,j,k,l,m⟩ h;unfold Zhv at h;exact oi h▸wr J 5 func80 [(2,.sl 3)]
 refine wa J 1 (YP (σ:=(List YO)×Int×Int×Int×Int×be) (fun st=>⟨[(0,.B 0 0),(3,.c (.s st.2.2.2.2.2))],[(0,.box [.sl 3,.I st.2.1,.I st.2.2.1,.I st.2.2.2.1,.I st.2.2.2.2.1] 66)],[(1,.sl Y2 d.l'),(3,.sl Y2 st.1)],4⟩) (fun n st=>ZdQ N n st.1 st.2.1 st.2.2.1 st.2.2.2.1 st.2.2.2.2.1 st.2.2.2.2.2) (r:=r) (fun _=>rfl) ?_ (fun ih=>?_))
 ·intro n2 ih3;rintro⟨o,p,q,t,u,v⟩ h;unfold ZdQ at h;refine wO J 4 h fun x y h=>Ym (W5 N (⟨o,p,q,t,u⟩:Yw) (str [46]) _ y) [] [(0,.bp 0 0),(1,.sl 3)] ?_;refine Yu J 1 h (fun h=>wa J 2 (Yi [(3,.sl 4)] (j1 (x.2.l',x.2.n',x.2.end',x.2.ZI,x.2.ZJ,v) h))) fun h=>?_;refine wO J 6 h fun z A h=>Ym (Rq N x.2 _ A) [] [(0,.bp 0 0),(1,.sl 4)] ?_;have⟨C,D,h⟩:=ob h;refine XQ D ?_;have⟨G,H,h⟩:=ob h;exact XQ H (wa J 3 (Yi [(3,.sl 5)] (ih3 (z.2.l',z.2.n',z.2.end',z.2.ZI,z.2.ZJ,G) h)))
 exact Yi [(3,.sl 2)] (ih N (e.2.l',e.2.n',e.2.end',e.2.ZI,e.2.ZJ,e.1) h)
theorem Rm(c:Yw)(r:Int×Yw)(h:TS N c=some r) :
 Fn aB 139 ⟨2,[.B 0 0],[(1,.sl Y2 c.l')],[(0,.box (Xt 1 c) 66)],3,.I r.1,[(2,.sl Y2 r.2.l')],[(0,.box (Xt 2 r.2) 66)]⟩:=Yy func139 rfl fun E F w=>by
 unfold TS at h;refine wO J 7 h fun d e h=>Ym (Lm N c _ e) [] [(0,.bp 0 0),(1,.sl 1)] ?_;refine Yu J 10 h (fun h=>oi h▸wr J 19 func139 [(2,.sl 1)]) fun h=>?_;refine wO J 4 h fun f g h=>Ym (Py N c 3 _ g) [] [(0,.bp 0 0),(1,.sl 1)] ?_;exact oi h▸wr J 5 func139 [(2,.sl 3)]
theorem ZcB(c:Yw)(r:Int×Yw)(h:H7 N c=some r) :
 Fn aB 138 ⟨2,[.B 0 0],[(1,.sl Y2 c.l')],[(0,.box (Xt 1 c) 66)],3,.I r.1,[(2,.sl Y2 r.2.l')],[(0,.box (Xt 2 r.2) 66)]⟩:=Yy func138 rfl fun E F w=>by
 unfold H7 at h;refine wO J 8 h fun d e h=>Ym (W5 N c (str [45]) _ e) [] [(0,.bp 0 0),(1,.sl 1)] ?_;refine wB J 1 h (fun h=>?_) fun h=>?_
 ·refine wO J 4 h fun f g h=>Ym (Rm N d.2 _ g) [] [(0,.bp 0 0),(1,.sl 2)] ?_;exact oi h▸wr J 3 func138 [(2,.sl 3)]
 refine wO J 5 h fun i j h=>Ym (Rm N d.2 _ j) [] [(0,.bp 0 0),(1,.sl 2)] ?_;exact oi h▸wr J 2 func138 [(2,.sl 3)]
theorem Znc(c:Yw)(r:T3×Yw)(h:z81 N c=some r) :
 Fn aB 81 ⟨2,[.B 0 0],[(1,.sl Y2 c.l')],[(0,.box (Xt 1 c) 66)],3,.a (V8 r.1),[(2,.sl Y2 r.2.l')],[(0,.box (Xt 2 r.2) 66)]⟩:=Yy func81 rfl fun E F w=>by
 unfold z81 at h;refine wO J 7 h fun d e h=>Ym (Rq N c _ e) [] [(0,.bp 0 0),(1,.sl 1)] ?_;refine wO J 7 h fun f g h=>Ym (Wl N d.2 (str [58]) _ g) [] [(0,.bp 0 0),(1,.sl 3)] ?_;refine wO J 17 h fun i j h=>Ym (W5 N f (str [105,110,116]) _ j) [] [(0,.bp 0 0),(1,.sl 5)] ?_;refine Yu J 2 h (fun h=>?_) fun h=>?_
 ·refine wO J 5 h fun k l h=>Ym (ZcB N i.2 _ l) [] [(0,.bp 0 0),(1,.sl 6)] ?_;refine wO J 7 h fun m o h=>Ym (Wl N k.2 (str [46,46]) _ o) [] [(0,.bp 0 0),(1,.sl 7)] ?_;refine wO J 4 h fun p q h=>Ym (ZcB N m _ q) [] [(0,.bp 0 0),(1,.sl 8)] ?_;exact oi h▸wr J 9 func81 [(2,.sl 9)]
 refine wO J 4 h fun s t h=>Ym (Wl N i.2 (str [116,101,120,116]) _ t) [] [(0,.bp 0 0),(1,.sl 6)] ?_;refine wO J 15 h fun u v h=>Ym (Rm N s _ v) [] [(0,.bp 0 0),(1,.sl 7)] ?_;refine wO J 7 h fun x y h=>Ym (Wl N u.2 (str [46,46]) _ y) [] [(0,.bp 0 0),(1,.sl 8)] ?_;refine wO J 4 h fun z A h=>Ym (Rm N x _ A) [] [(0,.bp 0 0),(1,.sl 9)] ?_;exact oi h▸wr J 9 func81 [(2,.sl 10)]
theorem Zwj(d:be)(e:Int)(r:Int)(h:Zg1 N d e=some r) :
 Fn aB 209 ⟨0,[.c (.s d),.c (.i .u8 e)],[],[],0,.I r,[],[]⟩:=Yy func209 rfl fun E F w=>by
 unfold Zg1 at h;refine wa J 12 (YD (σ:=Unit) (fun st=>(UU [])) (fun st=>Zg2=some r) ?_ (fun j1=>?_))
 ·intro _ h;unfold Zg2 at h;exact oi h▸wr J 4 func209 []
 refine wa J 1 (YP (σ:=Int) (fun st=>(UU [(0,.c (.s d)),(1,.c (.i .u8 e)),(5,.I st)])) (fun n st=>Zc9 d e n st) (r:=r) (fun _=>rfl) ?_ (fun ih=>?_))
 ·intro n2 ih3;intro f h;unfold Zc9 at h;refine Yu J 6 h (fun h=>wa J 2 (Yi [] (j1 () h))) fun h=>?_;refine wO J 8 h fun g j h=>Wx J j ?_;exact wB J 3 h (fun h=>oi h▸wr J 6 func209 []) fun h=>wa J 8 (Yi [] (ih3 (Yh (f-1)) h))
 exact Yi [] (ih N (Yh ((d.size:Int)-1)) h)
theorem Zwb(d:be)(e:Int)(r:Int)(h:ZgW N d e=some r) :
 Fn aB 174 ⟨0,[.c (.s d),.c (.i .u8 e)],[],[],0,.I r,[],[]⟩:=Yy func174 rfl fun E F w=>by
 unfold ZgW at h;refine wO J 8 h fun f g h=>Ym (Zwj N d e _ g) [] [] ?_;exact oi h▸wr J 2 func174 []
theorem ZcD(d:Yw)(r:Y5×Yw)(h:H8 N d=some r) :
 Fn aB 140 ⟨2,[.B 0 0],[(1,.sl Y2 d.l')],[(0,.box (Xt 1 d) 66)],3,.a (X2 r.1),[(2,.sl Y2 r.2.l')],[(0,.box (Xt 2 r.2) 66)]⟩:=Yy func140 rfl fun E F w=>by
 unfold H8 at h;refine wO J 8 h fun e f h=>Ym (Znb N d (str [45]) _ f) [] [(0,.bp 0 0),(1,.sl 1)] ?_;refine wB J 1 h (fun h=>?_) fun h=>?_
 ·refine wO J 10 h fun g i h=>Ym (ZcB N d _ i) [] [(0,.bp 0 0),(1,.sl 1)] ?_;exact oi h▸wr J 3 func140 [(2,.sl 3)]
 refine wO J 1 h fun j k h=>Ym (Lm N d _ k) [] [(0,.bp 0 0),(1,.sl 1)] ?_;refine wB J 4 h (fun h=>?_) fun h=>?_
 ·refine wO J 4 h fun l m h=>Ym (ZcB N d _ m) [] [(0,.bp 0 0),(1,.sl 1)] ?_;exact oi h▸wr J 3 func140 [(2,.sl 3)]
 refine wO J 16 h fun o p h=>Ym (W5 N d (str [108,101,110]) _ p) [] [(0,.bp 0 0),(1,.sl 1)] (wa J 1 (YD (σ:=(List YO)×Int×Int×Int×Int×Int×be) (fun st=>⟨[(0,.B 0 0),(2,.B 2 0),(3,.B 3 0),(4,.c (.s st.2.2.2.2.2.2))],[(0,.box [.sl 5,.I st.2.1,.I st.2.2.1,.I st.2.2.2.1,.I st.2.2.2.2.1] 66),(2,.box [.I 0,.s (str []),.s (str []),.I 0] 102),(3,.box [.I st.2.2.2.2.2.1,.s (str []),.s (str []),.I 0] 102)],[(1,.sl Y2 d.l'),(5,.sl Y2 st.1)],6⟩) (fun st=>ZcF N st.1 st.2.1 st.2.2.1 st.2.2.2.1 st.2.2.2.2.1 st.2.2.2.2.2.1 st.2.2.2.2.2.2=some r) ?_ (fun j1=>?_)))
 ·rintro⟨q,t,u,v,x,y,z⟩ h;unfold ZcF at h;refine wO J 10 h fun A C h=>Ym (Zwb N z 46 _ C) [] [] (wa J 7 (YD (σ:=be×be) (fun st=>⟨[(0,.B 0 0),(2,.B 2 0),(3,.B 3 0)],[(0,.box [.sl 5,.I t,.I u,.I v,.I x] 66),(2,.box [.I 0,.s (str []),.s (str []),.I 0] 102),(3,.box [.I y,.s st.1,.s st.2,.I 0] 102)],[(1,.sl Y2 d.l'),(5,.sl Y2 q)],6⟩) (fun st=>ZcE N q t u v x y st.1 st.2=some r) ?_ (fun j2=>?_)))
  ·rintro⟨D,G⟩ h;unfold ZcE at h;refine wO J 4 h fun H R h=>Ym (W5 N (⟨q,t,u,v,x⟩:Yw) (str [43]) _ R) [] [(0,.bp 0 0),(1,.sl 5)] ?_;refine wB J 1 h (fun h=>?_) fun h=>?_
   ·refine wO J 3 h fun T U h=>Ym (Rm N H.2 _ U) [] [(0,.bp 0 0),(1,.sl 6)] ?_;exact oi h▸wr J 8 func140 [(2,.sl 7)]
   refine wO J 4 h fun X Y h=>Ym (W5 N H.2 (str [45]) _ Y) [] [(0,.bp 0 0),(1,.sl 6)] ?_;refine Yu J 1 h (fun h=>oi h▸wr J 7 func140 [(2,.sl 7)]) fun h=>?_;refine wO J 3 h fun Z a0 h=>Ym (Rm N X.2 _ a0) [] [(0,.bp 0 0),(1,.sl 7)] ?_;exact oi h▸wr J 9 func140 [(2,.sl 8)]
  refine Wj h (fun h=>wa J 2 (Yi [] (j2 ((str []),z) h))) fun h=>?_;refine wO J 4 h fun b0 c0 h=>Uw J c0 ?_;exact wO J 3 h fun e0 g0 h=>Uw J g0 (wa J 4 (YL (Yi [] (j2 (b0,e0) h))))
 refine Wj h (fun h=>?_) fun h=>?_
 ·exact wO J 3 h fun i0 j0 h=>Ym (GK N o.2 _ j0) [] [(0,.bp 0 0),(1,.sl 4)] (wa J 2 (Yi [] (j1 (i0.2.l',i0.2.n',i0.2.end',i0.2.ZI,i0.2.ZJ,2,i0.1) h)))
 refine wO J 9 h fun k0 l0 h=>Ym (Wl N o.2 (str [40]) _ l0) [] [(0,.bp 0 0),(1,.sl 4)] ?_;refine wO J 4 h fun m0 o0 h=>Ym (GK N k0 _ o0) [] [(0,.bp 0 0),(1,.sl 5)] ?_;exact wO J 4 h fun p0 q0 h=>Ym (Wl N m0.2 (str [41]) _ q0) [] [(0,.bp 0 0),(1,.sl 6)] (wa J 1 (Yi [(5,.sl 7)] (j1 (p0.l',p0.n',p0.end',p0.ZI,p0.ZJ,3,m0.1) h)))
theorem Zng(r:(List be))(h:GO N=some r) :
 Fn aB 91 ⟨0,[],[],[],1,.S 0,[],[(0,.own rS r true)]⟩:=Yy func91 rfl fun E F w=>by
 unfold GO at h;refine wa J 6 (YW J [] oS ([(str [60]),(str [60,61]),(str [61,61]),(str [62,61]),(str [62])]:List be) ?_);exact oi h▸wr J 2 func91 [(0,.sl 0)]
theorem Znd(c:Yw)(r:Xv×Yw)(h:z82 N c=some r) :
 Fn aB 82 ⟨2,[.B 0 0],[(1,.sl Y2 c.l')],[(0,.box (Xt 1 c) 66)],3,.a [.I r.1.Zx.Zt,.s r.1.Zx.Zw,.s r.1.Zx.Field,.I r.1.Zx.N,.s r.1.Op,.I r.1.Zy.Zt,.s r.1.Zy.Zw,.s r.1.Zy.Field,.I r.1.Zy.N],[(2,.sl Y2 r.2.l')],[(0,.box (Xt 2 r.2) 66)]⟩:=Yy func82 rfl fun E F w=>by
 unfold z82 at h;refine wO J 7 h fun d e h=>Ym (ZcD N c _ e) [] [(0,.bp 0 0),(1,.sl 1)] ?_;refine wO J 8 h fun f g h=>Ym (Lm N d.2 _ g) [] [(0,.bp 0 0),(1,.sl 3)] ?_;refine Yu J 9 h (fun h=>wa J 5 (YL ?_)) fun h=>?_
 ·refine wO J 3 h fun i j h=>Ym (Py N d.2 3 _ j) [] [(0,.bp 0 0),(1,.sl 3)] ?_;refine wO J 4 h fun k l h=>Ym (ZcD N i _ l) [] [(0,.bp 0 0),(1,.sl 6)] ?_;exact oi h▸wr J 8 func82 [(2,.sl 7)]
 have⟨m,o,h⟩:=ob h;refine Ym (Zng N _ o) [] [] ?_;refine wO J 2 h fun p q h=>Wp (PA N m f.ZH _ q) [] [(0,.sl 6)] [6] (.inr ⟨rfl,trivial⟩) (wa J 1 (YL ?_));refine eB h (fun h=>?_) fun h=>?_
 ·refine wO J 21 h fun t u h=>Ym (ZcD N (⟨d.2.l',(Yh (d.2.n'+1)),d.2.end',d.2.ZI,d.2.ZJ⟩:Yw) _ u) [] [(0,.bp 0 0),(1,.sl 3)] ?_;exact oi h▸wr J 8 func82 [(2,.sl 7)]
 refine wO J 3 h fun v x h=>Ym (Py N d.2 3 _ x) [] [(0,.bp 0 0),(1,.sl 3)] ?_;refine wO J 4 h fun y z h=>Ym (ZcD N v _ z) [] [(0,.bp 0 0),(1,.sl 7)] ?_;exact oi h▸wr J 8 func82 [(2,.sl 8)]
theorem Zwy(c:Yw)(r:Ys×Yw)(h:z37 N c=some r) :
 Fn aB 37 ⟨2,[.B 0 0],[(1,.sl Y2 c.l')],[(0,.box (Xt 1 c) 66)],5,.a [.s r.1.Zu,.sl 2,.sl 3],(XU 2 3 r.1 [(4,.sl Y2 r.2.l')]),[(0,.box (Xt 4 r.2) 66)]⟩:=Yy func37 rfl fun E F w=>by
 unfold z37 at h;refine wO J 7 h fun d e h=>Ym (GK N c _ e) [] [(0,.bp 0 0),(1,.sl 1)] ?_;refine wO J 7 h fun f g h=>Ym (Wl N d.2 (str [40]) _ g) [] [(0,.bp 0 0),(1,.sl 3)] ?_;refine wO J 5 h fun i j h=>Ym (W5 N f (str [41]) _ j) [] [(0,.bp 0 0),(1,.sl 5)] (wa J 2 (YD (σ:=(List YO)×Int×Int×Int×Int×(List T3)) (fun st=>⟨[(0,.B 0 0),(2,.B 2 0),(3,.B 4 0)],[(0,.box [.sl 7,.I st.2.1,.I st.2.2.1,.I st.2.2.2.1,.I st.2.2.2.2.1] 66),(2,.box [.s (str []),.nil,.nil] 97),(4,.box [.s d.1,.sl 8,.nil] 97),(8,.own XK st.2.2.2.2.2 true)],[(1,.sl Y2 c.l'),(7,.sl Y2 st.1)],9⟩) (fun st=>Zdn N d st.1 st.2.1 st.2.2.1 st.2.2.2.1 st.2.2.2.2.1 st.2.2.2.2.2=some r) ?_ (fun j1=>?_)))
 ·rintro⟨k,l,m,o,p,q⟩ h;unfold Zdn at h;refine wO J 4 h fun t u h=>Ym (W5 N (⟨k,l,m,o,p⟩:Yw) (str [119,104,101,114,101]) _ u) [] [(0,.bp 0 0),(1,.sl 7)] ?_;refine Yu J 1 h (fun h=>?_) fun h=>?_
  ·refine wO J 5 h fun v x h=>Ym (Wl N t.2 (str [59]) _ x) [] [(0,.bp 0 0),(1,.sl 9)] (wa J 6 (Vh [8] ?_));cases h;exact Xi J func37 [(2,.sl 8),(3,.nil),(4,.sl 10)]
  refine wO J 6 h fun y z h=>Ym (Znd N t.2 _ z) [] [(0,.bp 0 0),(1,.sl 9)] (YW J [] Mb ([y.1]:List Xv) ?_);have⟨A,C,h⟩:=ob h;refine eAn J Sv C (wa J 2 (YL (YD (σ:=(List YO)×Int×Int×Int×Int×(List Xv)) (fun st=>(Zno st.2.1 st.2.2.1 st.2.2.2.1 st.2.2.2.2.1 d.1 q st.2.2.2.2.2 c.l' st.1 [(0,.B 0 0),(2,.B 2 0),(3,.B 4 0)])) (fun st=>Zhi N d q st.1 st.2.1 st.2.2.1 st.2.2.2.1 st.2.2.2.2.1 st.2.2.2.2.2=some r) ?_ (fun j5=>?_))))
  ·rintro⟨D,G,H,R,T,U⟩ h;unfold Zhi at h;refine wO J 3 h fun X Y h=>Ym (Wl N (⟨D,G,H,R,T⟩:Yw) (str [59]) _ Y) [] [(0,.bp 0 0),(1,.sl 13)] (wa J 6 (Vh [8] (Vh [14] ?_)));cases h;exact Xi J func37 [(2,.sl 8),(3,.sl 14),(4,.sl 15)]
  refine wa J 1 (YP (σ:=(List YO)×Int×Int×Int×Int×(List Xv)) (fun st=>(Zno st.2.1 st.2.2.1 st.2.2.2.1 st.2.2.2.2.1 d.1 q st.2.2.2.2.2 c.l' st.1 [(0,.B 0 0),(2,.B 2 0),(3,.B 4 0)])) (fun n st=>Zdo N d q n st.1 st.2.1 st.2.2.1 st.2.2.2.1 st.2.2.2.2.1 st.2.2.2.2.2) (r:=r) (fun _=>rfl) ?_ (fun ih=>?_))
  ·intro n4 ih7;rintro⟨Z,a0,b0,c0,e0,g0⟩ h;unfold Zdo at h;refine wO J 4 h fun i0 j0 h=>Ym (W5 N (⟨Z,a0,b0,c0,e0⟩:Yw) (str [97,110,100]) _ j0) [] [(0,.bp 0 0),(1,.sl 13)] ?_;refine Yu J 1 h (fun h=>wa J 2 (Yi [(13,.sl 15)] (j5 (i0.2.l',i0.2.n',i0.2.end',i0.2.ZI,i0.2.ZJ,g0) h))) fun h=>?_;refine wO J 7 h fun k0 l0 h=>Ym (Znd N i0.2 _ l0) [] [(0,.bp 0 0),(1,.sl 15)] (YW J [] Mb ([k0.1]:List Xv) ?_);have⟨m0,o0,h⟩:=ob h;exact Xu J Sv o0 (wa J 2 (YL (wa J 1 (Yi [(13,.sl 16),(14,.sl 18)] (ih7 (k0.2.l',k0.2.n',k0.2.end',k0.2.ZI,k0.2.ZJ,m0) h)))))
  exact Yi [(13,.sl 10),(14,.sl 12)] (ih N (y.2.l',y.2.n',y.2.end',y.2.ZI,y.2.ZJ,A) h)
 refine Wj h (fun h=>wa J 2 (Yi [(7,.sl 6),(8,.nil)] (j1 (i.2.l',i.2.n',i.2.end',i.2.ZI,i.2.ZJ,([]:List T3)) h))) fun h=>?_;refine wO J 6 h fun p0 q0 h=>Ym (Znc N i.2 _ q0) [] [(0,.bp 0 0),(1,.sl 6)] (YW J [] Sq ([p0.1]:List T3) ?_);have⟨s0,t0,h⟩:=ob h;refine eAn J XK t0 (wa J 2 (YL (wa J 1 (YD (σ:=(List YO)×Int×Int×Int×Int×(List T3)) (fun st=>(Znp st.2.1 st.2.2.1 st.2.2.2.1 st.2.2.2.2.1 d.1 st.2.2.2.2.2 c.l' st.1 [(0,.B 0 0),(2,.B 2 0),(3,.B 4 0)])) (fun st=>Zhj N d st.1 st.2.1 st.2.2.1 st.2.2.2.1 st.2.2.2.2.1 st.2.2.2.2.2=some r) ?_ (fun j8=>?_)))))
 ·rintro⟨u0,v0,x0,y0,z0,A0⟩ h;unfold Zhj at h;exact wO J 2 h fun B0 C0 h=>Ym (Wl N (⟨u0,v0,x0,y0,z0⟩:Yw) (str [41]) _ C0) [] [(0,.bp 0 0),(1,.sl 10)] (wa J 1 (Yi [(7,.sl 12),(8,.sl 11)] (j1 (B0.l',B0.n',B0.end',B0.ZI,B0.ZJ,A0) h)))
 refine wa J 1 (YP (σ:=(List YO)×Int×Int×Int×Int×(List T3)) (fun st=>(Znp st.2.1 st.2.2.1 st.2.2.2.1 st.2.2.2.2.1 d.1 st.2.2.2.2.2 c.l' st.1 [(0,.B 0 0),(2,.B 2 0),(3,.B 4 0)])) (fun n st=>Zdp N d n st.1 st.2.1 st.2.2.1 st.2.2.2.1 st.2.2.2.2.1 st.2.2.2.2.2) (r:=r) (fun _=>rfl) ?_ (fun ih=>?_))
 ·intro n6 ih10;rintro⟨D0,G0,H0,I0,L0,M0⟩ h;unfold Zdp at h;refine wO J 4 h fun O0 R0 h=>Ym (W5 N (⟨D0,G0,H0,I0,L0⟩:Yw) (str [44]) _ R0) [] [(0,.bp 0 0),(1,.sl 10)] ?_;refine Yu J 1 h (fun h=>wa J 2 (Yi [(10,.sl 12)] (j8 (O0.2.l',O0.2.n',O0.2.end',O0.2.ZI,O0.2.ZJ,M0) h))) fun h=>?_;refine wO J 7 h fun S0 U0 h=>Ym (Znc N O0.2 _ U0) [] [(0,.bp 0 0),(1,.sl 12)] (YW J [] Sq ([S0.1]:List T3) ?_);have⟨V0,X0,h⟩:=ob h;exact Xu J XK X0 (wa J 2 (YL (wa J 1 (Yi [(10,.sl 13),(11,.sl 15)] (ih10 (S0.2.l',S0.2.n',S0.2.end',S0.2.ZI,S0.2.ZJ,V0) h)))))
 exact Yi [(10,.sl 7),(11,.sl 9)] (ih N (p0.2.l',p0.2.n',p0.2.end',p0.2.ZI,p0.2.ZJ,s0) h)
theorem MN(rc:Yw->Option ((List Yj)×Yw))(rcT:(∀(c:Yw) (r:(List Yj)×Yw),rc c=some r->Fn aB 38 ⟨2,[.B 0 0],[(1,.sl Y2 c.l')],[(0,.box (Xt 1 c) 66)],4,.S 2,[(3,.sl Y2 r.2.l')],[(2,.own Yz r.1 true),(0,.box (Xt 3 r.2) 66)]⟩))(c:Yw)(r:(List Yj)×Yw)(h:Qn N rc c=some r) :
 Fn aB 143 ⟨2,[.B 0 0],[(1,.sl Y2 c.l')],[(0,.box (Xt 1 c) 66)],4,.S 2,[(3,.sl Y2 r.2.l')],[(2,.own Yz r.1 true),(0,.box (Xt 3 r.2) 66)]⟩:=Yy func143 rfl fun E F w=>by
 unfold Qn at h;refine wO J 7 h fun d e h=>Ym (Wl N c (str [123]) _ e) [] [(0,.bp 0 0),(1,.sl 1)] ?_;refine wO J 4 h fun f g h=>Ym (rcT d _ g) [] [(0,.bp 0 0),(1,.sl 2)] ?_;refine wO J 5 h fun i j h=>Ym (Wl N f.2 (str [125]) _ j) [] [(0,.bp 0 0),(1,.sl 4)] ?_;exact oi h▸wr J 6 func143 [(2,.sl 3),(3,.sl 5)]
theorem ZvN(rc:Yw->Option ((List Yj)×Yw))(rcT:(∀(c:Yw) (r:(List Yj)×Yw),rc c=some r->Fn aB 38 ⟨2,[.B 0 0],[(1,.sl Y2 c.l')],[(0,.box (Xt 1 c) 66)],4,.S 2,[(3,.sl Y2 r.2.l')],[(2,.own Yz r.1 true),(0,.box (Xt 3 r.2) 66)]⟩))(c:Yw)(r:Yj×Yw)(h:ZgQ N rc c=some r) :
 Fn aB 142 ⟨2,[.B 0 0],[(1,.sl Y2 c.l')],[(0,.box (Xt 1 c) 66)],5,.a [.I r.1.Zt,.s r.1.ZB,.sl 2,.s r.1.Zu,.s r.1.As,.I r.1.ZC,.sl 3],[(2,.sl rS r.1.To),(3,.sl (YH Yz) r.1.ZD),(4,.sl Y2 r.2.l')],[(0,.box (Xt 4 r.2) 66)]⟩:=Yy func142 rfl fun E F w=>by
 unfold ZgQ at h;refine wO J 7 h fun d e h=>Ym (Wl N c (str [97,116]) _ e) [] [(0,.bp 0 0),(1,.sl 1)] ?_;refine wO J 4 h fun f g h=>Ym (Rq N d _ g) [] [(0,.bp 0 0),(1,.sl 3)] ?_;refine wO J 8 h fun i j h=>Ym (W5 N f.2 (str [119,105,116,104,105,110]) _ j) [] [(0,.bp 0 0),(1,.sl 4)] (wa J 1 (YD (σ:=(List YO)×Int×Int×Int×Int×Int) (fun st=>⟨[(0,.B 0 0),(2,.B 2 0),(3,.B 5 0)],[(0,.box [.sl 7,.I st.2.1,.I st.2.2.1,.I st.2.2.2.1,.I st.2.2.2.2.1] 66),(2,.box [.I 0,.s (str []),.nil,.s (str []),.s (str []),.I 0,.nil] 132),(5,.box [.I 2,.s f.1,.nil,.s (str []),.s (str []),.I st.2.2.2.2.2,.nil] 132)],[(1,.sl Y2 c.l'),(7,.sl Y2 st.1)],8⟩) (fun st=>MM N rc f st.1 st.2.1 st.2.2.1 st.2.2.2.1 st.2.2.2.2.1 st.2.2.2.2.2=some r) ?_ (fun j1=>?_)))
 ·rintro⟨k,l,m,o,p,q⟩ h;unfold MM at h;refine wO J 3 h fun t u h=>Ym (MN N rc rcT (⟨k,l,m,o,p⟩:Yw) _ u) [] [(0,.bp 0 0),(1,.sl 7)] (YW J [8] (Xj Yz) ([t.1]:List (List Yj)) (wa J 4 (YD (σ:=(List YO)×Int×Int×Int×Int×(List (List Yj))) (fun st=>(Znq st.2.1 st.2.2.1 st.2.2.2.1 st.2.2.2.2.1 f.1 q st.2.2.2.2.2 c.l' st.1 [(0,.B 0 0),(2,.B 2 0),(3,.B 5 0)])) (fun st=>ZgR N rc f q st.1 st.2.1 st.2.2.1 st.2.2.2.1 st.2.2.2.2.1 st.2.2.2.2.2=some r) ?_ (fun j2=>?_))))
  ·rintro⟨v,x,y,z,A,C⟩ h;unfold ZgR at h;refine Yu J 7 h (fun h=>wa J 7 (Vh [12] ?_)) fun h=>?_
   ·cases h;exact Xi J func142 [(2,.nil),(3,.sl 12),(4,.sl 11)]
   refine wO J 4 h fun D G h=>Ym (Wl N (⟨v,x,y,z,A⟩:Yw) (str [101,108,115,101]) _ G) [] [(0,.bp 0 0),(1,.sl 11)] ?_;refine wO J 5 h fun H R h=>Ym (MN N rc rcT D _ R) [] [(0,.bp 0 0),(1,.sl 13)] (YW J [14] (Xj Yz) ([H.1]:List (List Yj)) ?_);have⟨T,U,h⟩:=ob h;refine Xu J (YH Yz) U (wa J 2 (YL (wa J 5 (Vh [17] ?_))));cases h;exact Xi J func142 [(2,.nil),(3,.sl 17),(4,.sl 15)]
  refine wa J 1 (YP (σ:=(List YO)×Int×Int×Int×Int×(List (List Yj))) (fun st=>(Znq st.2.1 st.2.2.1 st.2.2.2.1 st.2.2.2.2.1 f.1 q st.2.2.2.2.2 c.l' st.1 [(0,.B 0 0),(2,.B 2 0),(3,.B 5 0)])) (fun n st=>ZcG N rc f q n st.1 st.2.1 st.2.2.1 st.2.2.2.1 st.2.2.2.2.1 st.2.2.2.2.2) (r:=r) (fun _=>rfl) ?_ (fun ih=>?_))
  ·intro n2 ih4;rintro⟨X,Y,Z,a0,b0,c0⟩ h;unfold ZcG at h;refine wO J 4 h fun e0 g0 h=>Ym (W5 N (⟨X,Y,Z,a0,b0⟩:Yw) (str [111,114]) _ g0) [] [(0,.bp 0 0),(1,.sl 11)] ?_;refine Yu J 1 h (fun h=>wa J 2 (Yi [(11,.sl 13)] (j2 (e0.2.l',e0.2.n',e0.2.end',e0.2.ZI,e0.2.ZJ,c0) h))) fun h=>?_;refine wO J 7 h fun i0 j0 h=>Ym (MN N rc rcT e0.2 _ j0) [] [(0,.bp 0 0),(1,.sl 13)] (YW J [14] (Xj Yz) ([i0.1]:List (List Yj)) ?_);have⟨k0,l0,h⟩:=ob h;exact Xu J (YH Yz) l0 (wa J 2 (YL (wa J 1 (Yi [(11,.sl 15),(12,.sl 17)] (ih4 (i0.2.l',i0.2.n',i0.2.end',i0.2.ZI,i0.2.ZJ,k0) h)))))
  exact Yi [(11,.sl 9),(12,.sl 10)] (ih N (t.2.l',t.2.n',t.2.end',t.2.ZI,t.2.ZJ,([t.1]:List (List Yj))) h)
 refine Wj h (fun h=>wa J 2 (Yi [(7,.sl 6)] (j1 (i.2.l',i.2.n',i.2.end',i.2.ZI,i.2.ZJ,0) h))) fun h=>?_;refine wO J 5 h fun m0 o0 h=>Ym (Lm N i.2 _ o0) [] [(0,.bp 0 0),(1,.sl 6)] ?_;refine Yu J 9 h (fun h=>?_) fun h=>?_
 ·exact wO J 14 h fun p0 q0 h=>Ym (Rm N i.2 _ q0) [] [(0,.bp 0 0),(1,.sl 6)] (wa J 3 (Yi [(7,.sl 8)] (j1 (p0.2.l',p0.2.n',p0.2.end',p0.2.ZI,p0.2.ZJ,p0.1) h)))
 refine wB J 4 h (fun h=>?_) fun h=>?_
 ·refine wO J 9 h fun s0 t0 h=>Ym (Py N i.2 2 _ t0) [] [(0,.bp 0 0),(1,.sl 6)] ?_;exact wO J 3 h fun u0 v0 h=>Ym (Rm N s0 _ v0) [] [(0,.bp 0 0),(1,.sl 8)] (wa J 3 (Yi [(7,.sl 9)] (j1 (u0.2.l',u0.2.n',u0.2.end',u0.2.ZI,u0.2.ZJ,u0.1) h)))
 refine Yu J 6 h (fun h=>?_) fun h=>?_
 ·exact wO J 4 h fun x0 y0 h=>Ym (Rm N i.2 _ y0) [] [(0,.bp 0 0),(1,.sl 6)] (wa J 3 (Yi [(7,.sl 8)] (j1 (x0.2.l',x0.2.n',x0.2.end',x0.2.ZI,x0.2.ZJ,x0.1) h)))
 refine wO J 3 h fun z0 A0 h=>Ym (Py N i.2 2 _ A0) [] [(0,.bp 0 0),(1,.sl 6)] ?_;exact wO J 3 h fun B0 C0 h=>Ym (Rm N z0 _ C0) [] [(0,.bp 0 0),(1,.sl 8)] (wa J 3 (Yi [(7,.sl 9)] (j1 (B0.2.l',B0.2.n',B0.2.end',B0.2.ZI,B0.2.ZJ,B0.1) h)))
theorem Zne(rc:Yw->Option ((List Yj)×Yw))(rcT:(∀(c:Yw) (r:(List Yj)×Yw),rc c=some r->Fn aB 38 ⟨2,[.B 0 0],[(1,.sl Y2 c.l')],[(0,.box (Xt 1 c) 66)],4,.S 2,[(3,.sl Y2 r.2.l')],[(2,.own Yz r.1 true),(0,.box (Xt 3 r.2) 66)]⟩))(c:Yw)(r:Yj×Yw)(h:z84 N rc c=some r) :
 Fn aB 84 ⟨2,[.B 0 0],[(1,.sl Y2 c.l')],[(0,.box (Xt 1 c) 66)],5,.a [.I r.1.Zt,.s r.1.ZB,.sl 2,.s r.1.Zu,.s r.1.As,.I r.1.ZC,.sl 3],[(2,.sl rS r.1.To),(3,.sl (YH Yz) r.1.ZD),(4,.sl Y2 r.2.l')],[(0,.box (Xt 4 r.2) 66)]⟩:=Yy func84 rfl fun E F w=>by
 unfold z84 at h;refine wO J 9 h fun d e h=>Ym (W5 N c (str [99,104,111,105,99,101]) _ e) [] [(0,.bp 0 0),(1,.sl 1)] ?_;refine wB J 2 h (fun h=>?_) fun h=>?_
 ·refine wO J 4 h fun f g h=>Ym (ZvN N rc rcT d.2 _ g) [] [(0,.bp 0 0),(1,.sl 3)] ?_;exact oi h▸wr J 2 func84 [(2,.sl 4),(3,.sl 5),(4,.sl 6)]
 refine wO J 4 h fun i j h=>Ym (W5 N d.2 (str [108,111,111,112]) _ j) [] [(0,.bp 0 0),(1,.sl 3)] ?_;refine wB J 2 h (fun h=>?_) fun h=>?_
 ·refine wO J 4 h fun k l h=>Ym (GK N i.2 _ l) [] [(0,.bp 0 0),(1,.sl 4)] ?_;refine wO J 7 h fun m o h=>Ym (MN N rc rcT k.2 _ o) [] [(0,.bp 0 0),(1,.sl 5)] (YW J [7] (Xj Yz) ([m.1]:List (List Yj)) (wa J 8 (Vh [9] ?_)));cases h;exact Xi J func84 [(2,.nil),(3,.sl 9),(4,.sl 8)]
 refine wO J 4 h fun p q h=>Ym (W5 N i.2 (str [97,103,97,105,110]) _ q) [] [(0,.bp 0 0),(1,.sl 4)] ?_;refine wB J 2 h (fun h=>?_) fun h=>?_
 ·refine wO J 4 h fun t u h=>Ym (GK N p.2 _ u) [] [(0,.bp 0 0),(1,.sl 5)] ?_;refine wO J 7 h fun v x h=>Ym (Wl N t.2 (str [59]) _ x) [] [(0,.bp 0 0),(1,.sl 6)] ?_;exact oi h▸wr J 6 func84 [(2,.nil),(3,.nil),(4,.sl 8)]
 refine wO J 4 h fun y z h=>Ym (W5 N p.2 (str [112,97,114]) _ z) [] [(0,.bp 0 0),(1,.sl 5)] ?_;refine Yu J 2 h (fun h=>?_) fun h=>?_
 ·refine wO J 4 h fun A C h=>Ym (W5 N y.2 (str [99,97,108,108]) _ C) [] [(0,.bp 0 0),(1,.sl 6)] ?_;refine Yu J 2 h (fun h=>?_) fun h=>?_
  ·refine wO J 6 h fun D G h=>Ym (Rq N A.2 _ G) [] [(0,.bp 0 0),(1,.sl 7)] ?_;refine wO J 7 h fun H R h=>Ym (Wl N D.2 (str [45,62]) _ R) [] [(0,.bp 0 0),(1,.sl 8)] ?_;refine wO J 4 h fun T U h=>Ym (Zhg N H _ U) [] [(0,.bp 0 0),(1,.sl 10)] ?_;refine wO J 6 h fun X Y h=>Ym (Wl N T.2 (str [58]) _ Y) [] [(0,.bp 0 0),(1,.sl 12)] ?_;refine wO J 4 h fun Z a0 h=>Ym (GK N X _ a0) [] [(0,.bp 0 0),(1,.sl 13)] ?_;refine wO J 6 h fun b0 c0 h=>Ym (Wl N Z.2 (str [59]) _ c0) [] [(0,.bp 0 0),(1,.sl 14)] (wa J 6 (Vh [11] ?_));cases h;exact Xi J func84 [(2,.sl 11),(3,.nil),(4,.sl 15)]
  refine wO J 4 h fun e0 g0 h=>Ym (Rq N A.2 _ g0) [] [(0,.bp 0 0),(1,.sl 7)] ?_;refine wO J 7 h fun i0 j0 h=>Ym (Wl N e0.2 (str [40]) _ j0) [] [(0,.bp 0 0),(1,.sl 8)] ?_;refine wO J 4 h fun k0 l0 h=>Ym (Zhg N i0 _ l0) [] [(0,.bp 0 0),(1,.sl 10)] ?_;refine wO J 6 h fun m0 o0 h=>Ym (Wl N k0.2 (str [41]) _ o0) [] [(0,.bp 0 0),(1,.sl 12)] ?_;refine wO J 4 h fun p0 q0 h=>Ym (Wl N m0 (str [97,115]) _ q0) [] [(0,.bp 0 0),(1,.sl 13)] ?_;refine wO J 4 h fun s0 t0 h=>Ym (Rq N p0 _ t0) [] [(0,.bp 0 0),(1,.sl 14)] ?_;refine wO J 6 h fun u0 v0 h=>Ym (Wl N s0.2 (str [59]) _ v0) [] [(0,.bp 0 0),(1,.sl 15)] (wa J 6 (Vh [11] ?_));cases h;exact Xi J func84 [(2,.sl 11),(3,.nil),(4,.sl 16)]
 refine wO J 4 h fun x0 y0 h=>Ym (MN N rc rcT y.2 _ y0) [] [(0,.bp 0 0),(1,.sl 6)] (YW J [7] (Xj Yz) ([x0.1]:List (List Yj)) ?_);refine wO J 7 h fun z0 A0 h=>Ym (Wl N x0.2 (str [97,110,100]) _ A0) [] [(0,.bp 0 0),(1,.sl 8)] ?_;refine wO J 6 h fun B0 C0 h=>Ym (MN N rc rcT z0 _ C0) [] [(0,.bp 0 0),(1,.sl 11)] (YW J [12] (Xj Yz) ([B0.1]:List (List Yj)) ?_);have⟨D0,G0,h⟩:=ob h;refine Xu J (YH Yz) G0 (wa J 2 (YL (wa J 1 (YD (σ:=(List YO)×Int×Int×Int×Int×(List (List Yj))) (fun st=>(Znr st.2.1 st.2.2.1 st.2.2.2.1 st.2.2.2.2.1 st.2.2.2.2.2 c.l' st.1 [(2,.B 2 0),(5,.B 10 0)])) (fun st=>Zhw st.1 st.2.1 st.2.2.1 st.2.2.2.1 st.2.2.2.2.1 st.2.2.2.2.2=some r) ?_ (fun j1=>?_)))))
 ·rintro⟨H0,I0,L0,M0,O0,R0⟩ h;unfold Zhw at h;refine wa J 5 (Vh [17] ?_);cases h;exact Xi J func84 [(2,.nil),(3,.sl 17),(4,.sl 16)]
 refine wa J 1 (YP (σ:=(List YO)×Int×Int×Int×Int×(List (List Yj))) (fun st=>(Znr st.2.1 st.2.2.1 st.2.2.2.1 st.2.2.2.2.1 st.2.2.2.2.2 c.l' st.1 [(0,.B 0 0),(2,.B 2 0),(5,.B 10 0)])) (fun n st=>ZdU N rc n st.1 st.2.1 st.2.2.1 st.2.2.2.1 st.2.2.2.2.1 st.2.2.2.2.2) (r:=r) (fun _=>rfl) ?_ (fun ih=>?_))
 ·intro n2 ih3;rintro⟨S0,U0,V0,X0,Y0,Z0⟩ h;unfold ZdU at h;refine wO J 4 h fun a1 b1 h=>Ym (W5 N (⟨S0,U0,V0,X0,Y0⟩:Yw) (str [97,110,100]) _ b1) [] [(0,.bp 0 0),(1,.sl 16)] ?_;refine Yu J 1 h (fun h=>wa J 2 (Yi [(16,.sl 18)] (j1 (a1.2.l',a1.2.n',a1.2.end',a1.2.ZI,a1.2.ZJ,Z0) h))) fun h=>?_;refine wO J 7 h fun c1 e1 h=>Ym (MN N rc rcT a1.2 _ e1) [] [(0,.bp 0 0),(1,.sl 18)] (YW J [19] (Xj Yz) ([c1.1]:List (List Yj)) ?_);have⟨g1,i1,h⟩:=ob h;exact Xu J (YH Yz) i1 (wa J 2 (YL (wa J 1 (Yi [(16,.sl 20),(17,.sl 22)] (ih3 (c1.2.l',c1.2.n',c1.2.end',c1.2.ZI,c1.2.ZJ,g1) h)))))
 exact Yi [(16,.sl 13),(17,.sl 15)] (ih N (B0.2.l',B0.2.n',B0.2.end',B0.2.ZI,B0.2.ZJ,D0) h)
theorem Zwz(rc:Yw->Option ((List Yj)×Yw))(rcT:(∀(c:Yw) (r:(List Yj)×Yw),rc c=some r->Fn aB 38 ⟨2,[.B 0 0],[(1,.sl Y2 c.l')],[(0,.box (Xt 1 c) 66)],4,.S 2,[(3,.sl Y2 r.2.l')],[(2,.own Yz r.1 true),(0,.box (Xt 3 r.2) 66)]⟩))(c:Yw)(r:(List Yj)×Yw)(h:Zhk N rc c=some r) :
 Fn aB 38 ⟨2,[.B 0 0],[(1,.sl Y2 c.l')],[(0,.box (Xt 1 c) 66)],4,.S 2,[(3,.sl Y2 r.2.l')],[(2,.own Yz r.1 true),(0,.box (Xt 3 r.2) 66)]⟩:=Yy func38 rfl fun E F w=>by
 unfold Zhk at h;refine wa J 9 (YP (σ:=(List YO)×Int×Int×Int×Int×(List Yj)) (fun st=>⟨[(0,.B 0 0),(3,.S 3)],[(0,.box [.sl 2,.I st.2.1,.I st.2.2.1,.I st.2.2.2.1,.I st.2.2.2.2.1] 66),(3,.own Yz st.2.2.2.2.2 true)],[(1,.sl Y2 c.l'),(2,.sl Y2 st.1)],4⟩) (fun n st=>BG N rc n st.1 st.2.1 st.2.2.1 st.2.2.2.1 st.2.2.2.2.1 st.2.2.2.2.2) (r:=r) (fun _=>rfl) ?_ (fun ih=>?_))
 ·intro n1 ih1;rintro⟨d,e,f,g,i,j⟩ h;unfold BG at h;refine wO J 4 h fun k l h=>Ym (Lm N (⟨d,e,f,g,i⟩:Yw) _ l) [] [(0,.bp 0 0),(1,.sl 2)] ?_;refine wB J 10 h (fun h=>oi h▸wr J 19 func38 [(2,.sl 3),(3,.sl 2)]) fun h=>?_;refine wO J 2 h fun m o h=>Ym (SD N k.ZH _ o) [] [] ?_;refine Yu J 2 h (fun h=>?_) fun h=>YW J [] oS ([(str [99,104,111,105,99,101]),(str [108,111,111,112]),(str [97,103,97,105,110]),(str [112,97,114]),(str [99,97,108,108])]:List be) ?_
  ·refine wO J 13 h fun p q h=>Ym (Zne N rc rcT (⟨d,e,f,g,i⟩:Yw) _ q) [] [(0,.bp 0 0),(1,.sl 2)] (YW J [] R7 ([p.1]:List Yj) ?_);have⟨s,t,h⟩:=ob h;exact Xu J Yz t (wa J 3 (Yi [(2,.sl 7),(3,.sl 9)] (ih1 (p.2.l',p.2.n',p.2.end',p.2.ZI,p.2.ZJ,s) h)))
  refine wO J 2 h fun u v h=>Wp (PA N ([(str [99,104,111,105,99,101]),(str [108,111,111,112]),(str [97,103,97,105,110]),(str [112,97,114]),(str [99,97,108,108])]:List be) k.ZH _ v) [] [(0,.sl 5)] [5] (.inr ⟨rfl,trivial⟩) ?_;refine wB J 4 h (fun h=>oi h▸wr J 6 func38 [(2,.sl 3),(3,.sl 2)]) fun h=>?_;refine wO J 5 h fun x y h=>Ym (Zne N rc rcT (⟨d,e,f,g,i⟩:Yw) _ y) [] [(0,.bp 0 0),(1,.sl 2)] (YW J [] R7 ([x.1]:List Yj) ?_);have⟨z,A,h⟩:=ob h;exact Xu J Yz A (wa J 3 (Yi [(2,.sl 8),(3,.sl 10)] (ih1 (x.2.l',x.2.n',x.2.end',x.2.ZI,x.2.ZJ,z) h)))
 exact Yi [(2,.sl 1),(3,.nil)] (ih N (c.l',c.n',c.end',c.ZI,c.ZJ,([]:List Yj)) h)
theorem ZwB:∀(N:Nat) (c:Yw) (r:(List Yj)×Yw) (h:Zdq N c=some r),Fn aB 38 ⟨2,[.B 0 0],[(1,.sl Y2 c.l')],[(0,.box (Xt 1 c) 66)],4,.S 2,[(3,.sl Y2 r.2.l')],[(2,.own Yz r.1 true),(0,.box (Xt 3 r.2) 66)]⟩:=by
 intro N;induction N with
 |zero=>intros;rename_i h;cases h
 |succ N ih=>intro c r h;exact Zwz N (Zdq N) ih c r h
theorem ZwA(c:Yw)(r:(List Yj)×Yw)(h:z38 N c=some r):Fn aB 38 ⟨2,[.B 0 0],[(1,.sl Y2 c.l')],[(0,.box (Xt 1 c) 66)],4,.S 2,[(3,.sl Y2 r.2.l')],[(2,.own Yz r.1 true),(0,.box (Xt 3 r.2) 66)]⟩:=ZwB N c r h
theorem Zv1(c:Yw)(r:Yl×Yw)(h:z15 N c=some r) :
 Fn aB 15 ⟨2,[.B 0 0],[(1,.sl Y2 c.l')],[(0,.box (Xt 1 c) 66)],6,.a [.s r.1.Zu,.sl 2,.sl 3,.sl 4],(Xg 2 3 4 r.1 [(5,.sl Y2 r.2.l')]),[(0,.box (Xt 5 r.2) 66)]⟩:=Yy func15 rfl fun E F w=>by
 unfold z15 at h;refine wO J 7 h fun d e h=>Ym (Wl N c (str [112,114,111,116,111,99,111,108]) _ e) [] [(0,.bp 0 0),(1,.sl 1)] ?_;refine wO J 4 h fun f g h=>Ym (Rq N d _ g) [] [(0,.bp 0 0),(1,.sl 3)] ?_;refine wO J 7 h fun i j h=>Ym (Wl N f.2 (str [40]) _ j) [] [(0,.bp 0 0),(1,.sl 4)] ?_;refine wO J 4 h fun k l h=>Ym (Zhg N i _ l) [] [(0,.bp 0 0),(1,.sl 6)] ?_;refine wO J 6 h fun m o h=>Ym (Wl N k.2 (str [41]) _ o) [] [(0,.bp 0 0),(1,.sl 8)] ?_;refine wO J 4 h fun p q h=>Ym (Wl N m (str [123]) _ q) [] [(0,.bp 0 0),(1,.sl 9)] (wa J 2 (YD (σ:=(List YO)×Int×Int×Int×Int×(List Ys)) (fun st=>(Zns st.2.1 st.2.2.1 st.2.2.2.1 st.2.2.2.2.1 f.1 k.1 st.2.2.2.2.2 c.l' st.1 [(0,.B 0 0),(2,.B 2 0),(3,.B 5 0)])) (fun st=>ZgU N f k st.1 st.2.1 st.2.2.1 st.2.2.2.1 st.2.2.2.2.1 st.2.2.2.2.2=some r) ?_ (fun j1=>?_)))
 ·rintro⟨t,u,v,x,y,z⟩ h;unfold ZgU at h;refine wO J 3 h fun A C h=>Ym (ZwA N (⟨t,u,v,x,y⟩:Yw) _ C) [] [(0,.bp 0 0),(1,.sl 11)] ?_;refine wO J 6 h fun D G h=>Ym (Wl N A.2 (str [125]) _ G) [] [(0,.bp 0 0),(1,.sl 14)] (wa J 6 (Vh [7] (Vh [12] (Vh [13] ?_))));cases h;exact Xi J func15 [(2,.sl 7),(3,.sl 12),(4,.sl 13),(5,.sl 15)]
 refine wa J 1 (YP (σ:=(List YO)×Int×Int×Int×Int×(List Ys)) (fun st=>(Zns st.2.1 st.2.2.1 st.2.2.2.1 st.2.2.2.2.1 f.1 k.1 st.2.2.2.2.2 c.l' st.1 [(0,.B 0 0),(2,.B 2 0),(3,.B 5 0)])) (fun n st=>ZcV N f k n st.1 st.2.1 st.2.2.1 st.2.2.2.1 st.2.2.2.2.1 st.2.2.2.2.2) (r:=r) (fun _=>rfl) ?_ (fun ih=>?_))
 ·intro n2 ih3;rintro⟨H,R,T,U,X,Y⟩ h;unfold ZcV at h;refine wO J 4 h fun Z a0 h=>Ym (W5 N (⟨H,R,T,U,X⟩:Yw) (str [109,101,115,115,97,103,101]) _ a0) [] [(0,.bp 0 0),(1,.sl 11)] ?_;refine Yu J 1 h (fun h=>wa J 2 (Yi [(11,.sl 13)] (j1 (Z.2.l',Z.2.n',Z.2.end',Z.2.ZI,Z.2.ZJ,Y) h))) fun h=>?_;refine wO J 7 h fun b0 c0 h=>Ym (Zwy N Z.2 _ c0) [] [(0,.bp 0 0),(1,.sl 13)] (YW J [] UI ([b0.1]:List Ys) ?_);have⟨e0,g0,h⟩:=ob h;exact Xu J Xa g0 (wa J 2 (YL (wa J 1 (Yi [(11,.sl 16),(12,.sl 18)] (ih3 (b0.2.l',b0.2.n',b0.2.end',b0.2.ZI,b0.2.ZJ,e0) h)))))
 exact Yi [(11,.sl 10),(12,.nil)] (ih N (p.l',p.n',p.end',p.ZI,p.ZJ,([]:List Ys)) h)
theorem Zxe(d:be)(r:Bool)(h:z87 N d=some r) :
 Fn aB 87 ⟨0,[.c (.s d)],[],[],0,.O r,[],[]⟩:=Yy func87 rfl fun E F w=>by
 unfold z87 at h;refine wO J 7 h fun e f h=>Ym (SD N d _ f) [] [] ?_;exact oi h▸wr J 3 func87 []
theorem ZvO(d:(List be))(r:Int)(h:ZcH N d=some r) :
 Fn aB 144 ⟨1,[.S 0,.c (.cl 87 [] [])],[(0,.sl rS d)],[],1,.I r,[],[]⟩:=Yy func144 rfl fun E F w=>by
 unfold ZcH at h;refine wa J 11 (YD (σ:=Unit) (fun st=>(GV d [])) (fun st=>ZcI=some r) ?_ (fun j1=>?_))
 ·intro _ h;unfold ZcI at h;exact oi h▸wr J 4 func144 []
 refine wa J 1 (YP (σ:=Int) (fun st=>(GV d [(0,.S 0),(1,.c (.cl 87 [] [])),(7,.I (d.length:Int)),(8,.I st)])) (fun n st=>MP N d n st) (r:=r) (fun _=>rfl) ?_ (fun ih=>?_))
 ·intro n2 ih3;intro e h;unfold MP at h;refine Yu J 5 h (fun h=>wa J 2 (Yi [] (j1 () h))) fun h=>?_;refine wO J 14 h fun f g h=>YK J oS g ?_;refine wO J 1 h fun i j h=>Ym (Zxe N f _ j) [] [] ?_;exact wB J 1 h (fun h=>oi h▸wr J 6 func144 []) fun h=>wa J 7 (Yi [] (ih3 (Yh (e+1)) h))
 exact Yi [] (ih N 0 h)
theorem Zxc(d:(List be))(r:Bool)(h:ZdW N d=some r) :
 Fn aB 86 ⟨1,[.S 0,.c (.cl 87 [] [])],[(0,.sl rS d)],[],1,.O r,[],[]⟩:=Yy func86 rfl fun E F w=>by
 unfold ZdW at h;refine wO J 8 h fun e f h=>Ym (ZvO N d _ f) [] [(0,.sl 0)] ?_;exact oi h▸wr J 3 func86 []
theorem Zhl(c:(List be))(d:Int)(r:Bool)(h:M7 N c d=some r) :
 Fn aB 40 ⟨1,[.S 0,.I d],[(0,.sl rS c)],[],1,.O r,[],[]⟩:=Yy func40 rfl fun E F w=>by
 unfold M7 at h;refine Yu J 10 h (fun h=>oi h▸wr J 12 func40 []) fun h=>?_;refine Yu J 6 h (fun h=>oi h▸wr J 6 func40 []) fun h=>?_;refine wO J 1 h fun e f h=>Ym (Zxc N c _ f) [] [(0,.sl 0)] ?_;exact oi h▸wr J 4 func40 []
theorem Zm5(d:be)(r:Int)(h:z229 N d=some r) :
 Fn aB 229 ⟨0,[.c (.s d)],[],[],0,.I r,[],[]⟩:=Yy func229 rfl fun E F w=>by
 unfold z229 at h;refine wa J 8 (eRn J (fun bk1=>wa J 1 (YD (σ:=Int×Nat) (fun st=>⟨[(2,.I st.1)],[(0,.abs (UF bk1 d st.2))],[],1⟩) (fun st=>Zg5 st.1 st.2=some r) ?_ (fun j1=>?_))))
 ·rintro⟨e,vi0_1⟩ h;unfold Zg5 at h;exact oi h▸wr J 5 func229 []
 refine wa J 1 (YP (σ:=Int×Nat) (fun st=>⟨[(2,.I st.1),(4,.c (.v (.pointer (some ⟨bk1,0,none⟩))))],[(0,.abs (UF bk1 d st.2))],[],1⟩) (fun n st=>Zde d n st.1 st.2) (r:=r) (fun _=>rfl) ?_ (fun ih=>?_))
 ·intro n2 ih3;rintro⟨f,vi0_3⟩ h;unfold Zde at h;obtain⟨K,h⟩|⟨K,h⟩:=oc h
  ·exact wa J 2 (eNt bk1 0 K (wa J 12 (Yi [] (ih3 ((Yh (f+1)),(vi0_3+(dD d vi0_3).2)) h))))
  exact wa J 2 (eNf bk1 0 K (wa J 5 (Yi [] (j1 (f,vi0_3) h))))
 exact Yi [] (ih N (0,(0:Nat)) h)
theorem Zm6(d:be)(r:Int×Int)(h:Zdf N d=some r) :
 Fn aB 240 ⟨0,[.c (.s d)],[],[],0,.t [.inl (.i .i32 r.1),.inl (.I r.2)],[],[]⟩:=Yy func240 rfl fun E F w=>by
 unfold Zdf at h;refine wB J 17 h (fun h=>oi h▸wr J 6 func240 []) fun h=>?_;refine wO J 5 h fun e f h=>Wx J f ?_;cases h
theorem Zwo(d:be)(r:Int×Int)(h:Zg6 N d=some r) :
 Fn aB 230 ⟨0,[.c (.s d)],[],[],0,.t [.inl (.i .i32 r.1),.inl (.I r.2)],[],[]⟩:=Yy func230 rfl fun E F w=>by
 unfold Zg6 at h;refine Yu J 11 h (fun h=>?_) fun h=>?_
 ·refine wO J 8 h fun e f h=>Ym (Zm6 N d _ f) [] [] ?_;exact oi h▸wr J 6 func230 []
 refine wO J 1 h fun g j h=>Wx J j ?_;refine wB J 3 h (fun h=>?_) fun h=>?_
 ·refine wO J 4 h fun k l h=>Wx J l ?_;exact oi h▸wr J 4 func230 []
 refine wO J 3 h fun m o h=>Ym (Zm6 N d _ o) [] [] ?_;exact oi h▸wr J 6 func230 []
theorem Zwl(d:be)(e:Int)(r:(List be))(h:Zg3 N d e=some r) :
 Fn aB 210 ⟨0,[.c (.s d),.I e],[],[],1,.S 0,[],[(0,.own rS r true)]⟩:=Yy func210 rfl fun E F w=>by
 unfold Zg3 at h;refine wO J 7 h fun f g h=>Ym (Zm5 N d _ g) [] [] ?_;refine wa J 8 (YD (σ:=Bool) (fun st=>(UU [(0,.c (.s d)),(1,.I e),(5,.I f),(18,.O st)])) (fun st=>Zdb N d e f st=some r) ?_ (fun j1=>?_))
 ·intro i h;unfold Zdb at h;refine YD (σ:=Int) (fun st=>(UU [(0,.c (.s d)),(1,.I st)])) (fun st=>Zda N d st=some r) ?_ (fun j2=>?_)
  ·intro j h;unfold Zda at h;refine wO J 3 h fun k l h=>QR J oS l (wa J 7 (YD (σ:=be×(List be)) (fun st=>(zz5 st.2 [(0,.c (.s st.1)),(1,.I j),(6,.S 0)])) (fun st=>Zg4 j st.1 st.2=some r) ?_ (fun j3=>?_)))
   ·rintro⟨m,o⟩ h;unfold Zg4 at h;refine Yu J 6 h (fun h=>oi h▸wr J 7 func210 [(0,.sl 0)]) fun h=>?_;refine wO J 6 h fun p q h=>XA J rS q (Uc J [] oS m q ?_);exact oi h▸wr J 6 func210 [(0,.sl 0)]
   refine wa J 1 (YP (σ:=be×(List be)×Int) (fun st=>(zz5 st.2.1 [(0,.c (.s st.1)),(1,.I j),(6,.S 0),(7,.I st.2.2)])) (fun n st=>Zdc N j n st.1 st.2.1 st.2.2) (r:=r) (fun _=>rfl) ?_ (fun ih=>?_))
   ·intro n2 ih5;rintro⟨t,u,v⟩ h;unfold Zdc at h;refine Yu J 8 h (fun h=>wa J 2 (Yi [] (j3 (t,u) h))) fun h=>?_;refine wO J 7 h fun x y h=>Ym (Zwo N t _ y) [] [] ?_;refine wO J 12 h fun z A h=>Uw J A ?_;have⟨C,D,h⟩:=ob h;refine XA J rS D (Uc J [] oS z D ?_);exact wO J 4 h fun G H h=>Uw J H (wa J 8 (Yi [] (ih5 (G,(YE u v z),(Yh (v+1))) h)))
   exact Yi [] (ih N (d,k,0) h)
  exact eB h (fun h=>wa J 5 (Yi [] (j2 f h))) fun h=>wa J 2 (Yi [] (j2 e h))
 exact eB h (fun h=>wa J 5 (Yi [] (j1 true h))) fun h=>wa J 5 (Yi [] (j1 (decide (e>f)) h))
theorem Zwm(d:be)(e:be)(r:Int)(h:Bv N d e=some r) :
 Fn aB 211 ⟨0,[.c (.s d),.c (.s e)],[],[],0,.I r,[],[]⟩:=Yy func211 rfl fun E F w=>by
 unfold Bv at h;refine wB J 11 h (fun h=>?_) fun h=>?_
 ·refine wO J 4 h fun f g h=>Ym (Zm5 N d _ g) [] [] ?_;exact oi h▸wr J 3 func211 []
 refine wB J 9 h (fun h=>?_) fun h=>wa J 7 (YP (σ:=be×Int) (fun st=>(UU [(0,.c (.s st.1)),(1,.c (.s e)),(5,.I st.2)])) (fun n st=>Zdd N e n st.1 st.2) (r:=r) (fun _=>rfl) ?_ (fun ih=>?_))
 ·refine wO J 5 h fun i j h=>Wx J j (eEx (ZpN func231 (by kernel_rfl) (by kernel_rfl) (by kernel_rfl) (by kernel_rfl) d i) (fun _=>trivial) ?_);exact oi h▸wr J 2 func211 []
 ·intro n1 ih1;rintro⟨k,l⟩ h;unfold Zdd at h;refine wO J 5 h fun m o h=>Ym (ZgO N k e _ o) [] [] ?_;refine wB J 8 h (fun h=>oi h▸wr J 6 func211 []) fun h=>?_;exact wO J 14 h fun p q h=>Uw J q (wa J 3 (Yi [] (ih1 (p,(Yh (l+1))) h)))
 exact Yi [] (ih N (d,0) h)
theorem Zwc(d:be)(e:be)(f:Int)(g:Int)(r:(List be))(h:Zc4 N d e f g=some r) :
 Fn aB 175 ⟨0,[.c (.s d),.c (.s e),.I f,.I g],[],[],1,.S 0,[],[(0,.own rS r true)]⟩:=Yy func175 rfl fun E F w=>by
 unfold Zc4 at h;refine wB J 10 h (fun h=>oi h▸wr J 5 func175 [(0,.nil)]) fun h=>?_;refine wB J 8 h (fun h=>?_) fun h=>wa J 8 (YD (σ:=Int) (fun st=>(UU [(0,.c (.s d)),(1,.c (.s e)),(2,.I f),(3,.I st)])) (fun st=>Bt N d e f st=some r) ?_ (fun j1=>?_))
 ·refine wO J 5 h fun i j h=>Ym (Zwl N d g _ j) [] [] ?_;exact oi h▸wr J 2 func175 [(0,.sl 0)]
 ·intro k h;unfold Bt at h;refine wO J 12 h fun l m h=>QR J oS m (wa J 13 (YD (σ:=be×(List be)×Int) (fun st=>(zz5 st.2.1 [(0,.c (.s st.1)),(9,.S 0),(10,.I st.2.2)])) (fun st=>Gf st.1 st.2.1 st.2.2=some r) ?_ (fun j2=>?_)))
  ·rintro⟨o,p,q⟩ h;unfold Gf at h;refine wO J 5 h fun t u h=>XA J rS u (Uc J [] oS o u ?_);refine wO J 6 h fun v x h=>VT J rS x (wa J 2 (eSl rS 2 x ?_));cases h;exact Xi J func175 [(0,.sl 2)]
  refine wa J 1 (YP (σ:=be×(List be)×Int) (fun st=>(zz5 st.2.1 [(0,.c (.s st.1)),(1,.c (.s e)),(2,.I f),(3,.I (Yh ((VH k (Yh ((d.size:Int)+1)))-1))),(9,.S 0),(10,.I st.2.2)])) (fun n st=>Pp N d e f k n st.1 st.2.1 st.2.2) (r:=r) (fun _=>rfl) ?_ (fun ih=>?_))
  ·intro n2 ih4;rintro⟨y,z,A⟩ h;unfold Pp at h;refine Yu J 7 h (fun h=>wa J 2 (Yi [] (j2 (y,z,A) h))) fun h=>?_;refine wO J 7 h fun C D h=>Ym (ZgO N y e _ D) [] [] ?_;refine wB J 8 h (fun h=>wa J 2 (Yi [] (j2 (y,z,A) h))) fun h=>?_;refine wO J 10 h fun G H h=>Uw J H ?_;have⟨R,T,h⟩:=ob h;refine XA J rS T (Uc J [] oS G T ?_);exact wO J 8 h fun U X h=>Uw J X (wa J 8 (Yi [] (ih4 (U,(YE z A G),(Yh (A+1))) h)))
  exact Yi [] (ih N (d,l,0) h)
 refine Wj h (fun h=>wa J 2 (Yi [] (j1 g h))) fun h=>?_;exact wO J 4 h fun Y Z h=>Ym (Zwm N d e _ Z) [] [] (wa J 3 (Yi [] (j1 (Yh (Y+1)) h)))
theorem ZvR(d:be)(e:be)(r:(List be))(h:Bp N d e=some r) :
 Fn aB 145 ⟨0,[.c (.s d),.c (.s e)],[],[],1,.S 0,[],[(0,.own rS r true)]⟩:=Yy func145 rfl fun E F w=>by
 unfold Bp at h;refine wO J 8 h fun f g h=>Ym (Zwc N d e 0 (-1) _ g) [] [] ?_;exact oi h▸wr J 2 func145 [(0,.sl 0)]
theorem ZvS(d:be)(r:Bool)(h:z146 N d=some r) :
 Fn aB 146 ⟨0,[.c (.s d)],[],[],0,.O r,[],[]⟩:=Yy func146 rfl fun E F w=>by
 unfold z146 at h;refine wO J 7 h fun e f h=>Ym (SD N d _ f) [] [] ?_;exact oi h▸wr J 3 func146 []
theorem ZvQ(d:(List be))(r:Int)(h:ZcJ N d=some r) :
 Fn aB 144 ⟨1,[.S 0,.c (.cl 146 [] [])],[(0,.sl rS d)],[],1,.I r,[],[]⟩:=Yy func144 rfl fun E F w=>by
 unfold ZcJ at h;refine wa J 11 (YD (σ:=Unit) (fun st=>(GV d [])) (fun st=>ZcL=some r) ?_ (fun j1=>?_))
 ·intro _ h;unfold ZcL at h;exact oi h▸wr J 4 func144 []
 refine wa J 1 (YP (σ:=Int) (fun st=>(GV d [(0,.S 0),(1,.c (.cl 146 [] [])),(7,.I (d.length:Int)),(8,.I st)])) (fun n st=>MR N d n st) (r:=r) (fun _=>rfl) ?_ (fun ih=>?_))
 ·intro n2 ih3;intro e h;unfold MR at h;refine Yu J 5 h (fun h=>wa J 2 (Yi [] (j1 () h))) fun h=>?_;refine wO J 14 h fun f g h=>YK J oS g ?_;refine wO J 1 h fun i j h=>Ym (ZvS N f _ j) [] [] ?_;exact wB J 1 h (fun h=>oi h▸wr J 6 func144 []) fun h=>wa J 7 (Yi [] (ih3 (Yh (e+1)) h))
 exact Yi [] (ih N 0 h)
theorem Zxd(d:(List be))(r:Bool)(h:ZdX N d=some r) :
 Fn aB 86 ⟨1,[.S 0,.c (.cl 146 [] [])],[(0,.sl rS d)],[],1,.O r,[],[]⟩:=Yy func86 rfl fun E F w=>by
 unfold ZdX at h;refine wO J 8 h fun e f h=>Ym (ZvQ N d _ f) [] [(0,.sl 0)] ?_;exact oi h▸wr J 3 func86 []
theorem ZdZ(d:be)(r:Bool)(h:Qu N d=some r) :
 Fn aB 89 ⟨0,[.c (.s d)],[],[],0,.O r,[],[]⟩:=Yy func89 rfl fun E F w=>by
 unfold Qu at h;refine Yu J 10 h (fun h=>oi h▸wr J 7 func89 []) fun h=>?_;refine wO J 1 h fun e f h=>Ym (ZvR N d (str [46]) _ f) [] [] ?_;have⟨g,i,h⟩:=ob h;refine Wp (Zxd N e _ i) [] [(0,.sl 0)] [0] (.inr ⟨rfl,trivial⟩) ?_;exact oi h▸wr J 4 func89 []
theorem Zxf(c:Yj)(r:Bool)(h:B9 N c=some r) :
 Fn aB 88 ⟨2,[.a [.I c.Zt,.s c.ZB,.sl 0,.s c.Zu,.s c.As,.I c.ZC,.sl 1]],[(0,.sl rS c.To),(1,.sl (YH Yz) c.ZD)],[],2,.O r,[],[]⟩:=Yy func88 rfl fun E F w=>by
 unfold B9 at h;refine wB J 24 h (fun h=>?_) fun h=>?_
 ·refine wO J 5 h fun d e h=>Ym (SD N c.ZB _ e) [] [] ?_;refine Yu J 1 h (fun h=>oi h▸wr J 25 func88 []) fun h=>?_;refine wO J 2 h fun f g h=>Ym (Zhl N c.To 5 _ g) [] [(0,.sl 0)] ?_;refine Yu J 2 h (fun h=>oi h▸wr J 20 func88 []) fun h=>?_;refine wO J 2 h fun i j h=>Ym (ZdZ N c.Zu _ j) [] [] ?_;refine Yu J 2 h (fun h=>oi h▸wr J 15 func88 []) fun h=>?_;refine Yu J 5 h (fun h=>oi h▸wr J 10 func88 []) fun h=>?_;exact wB J 5 h (fun h=>oi h▸wr J 5 func88 []) fun h=>oi h▸wr J 5 func88 []
 refine wB J 6 h (fun h=>?_) fun h=>wa J 7 (YD (σ:=Bool) (fun st=>⟨[(1,.B 2 0),(3,.I (c.ZD.length:Int)),(8,.I c.Zt),(81,.O st)],[(2,.box [.I c.Zt,.s c.ZB,.sl 0,.s c.Zu,.s c.As,.I c.ZC,.sl 1] 132)],[(0,.sl rS c.To),(1,.sl (YH Yz) c.ZD)],3⟩) (fun st=>Ln N c st=some r) ?_ (fun j1=>?_))
 ·refine wO J 5 h fun k l h=>Ym (SD N c.ZB _ l) [] [] ?_;refine Yu J 1 h (fun h=>oi h▸wr J 39 func88 []) fun h=>?_;refine Yu J 6 h (fun h=>oi h▸wr J 33 func88 []) fun h=>?_;refine Yu J 5 h (fun h=>oi h▸wr J 28 func88 []) fun h=>?_;refine Yu J 5 h (fun h=>oi h▸wr J 23 func88 []) fun h=>?_;refine Yu J 5 h (fun h=>oi h▸wr J 18 func88 []) fun h=>?_;refine Yu J 5 h (fun h=>oi h▸wr J 13 func88 []) fun h=>?_;exact wB J 8 h (fun h=>oi h▸wr J 5 func88 []) fun h=>oi h▸wr J 5 func88 []
 ·intro m h;unfold Ln at h;refine eB h (fun h=>?_) fun h=>?_
  ·refine Yu J 7 h (fun h=>oi h▸wr J 34 func88 []) fun h=>?_;refine Yu J 6 h (fun h=>oi h▸wr J 28 func88 []) fun h=>?_;refine wO J 2 h fun o p h=>Ym (ZdZ N c.Zu _ p) [] [] ?_;refine Yu J 2 h (fun h=>oi h▸wr J 23 func88 []) fun h=>?_;refine Yu J 5 h (fun h=>oi h▸wr J 18 func88 []) fun h=>?_;refine Yu J 5 h (fun h=>oi h▸wr J 13 func88 []) fun h=>?_;exact wB J 8 h (fun h=>oi h▸wr J 5 func88 []) fun h=>oi h▸wr J 5 func88 []
  refine wB J 6 h (fun h=>?_) fun h=>?_
  ·refine Yu J 7 h (fun h=>oi h▸wr J 30 func88 []) fun h=>?_;refine Yu J 6 h (fun h=>oi h▸wr J 24 func88 []) fun h=>?_;refine Yu J 5 h (fun h=>oi h▸wr J 19 func88 []) fun h=>?_;refine Yu J 5 h (fun h=>oi h▸wr J 14 func88 []) fun h=>?_;refine Yu J 5 h (fun h=>oi h▸wr J 9 func88 []) fun h=>?_;exact wB J 4 h (fun h=>oi h▸wr J 5 func88 []) fun h=>oi h▸wr J 5 func88 []
  refine Yu J 6 h (fun h=>oi h▸wr J 7 func88 []) fun h=>?_;refine Yu J 7 h (fun h=>oi h▸wr J 25 func88 []) fun h=>?_;refine wO J 2 h fun q t h=>Ym (Zhl N c.To 6 _ t) [] [(0,.sl 0)] ?_;refine Yu J 2 h (fun h=>oi h▸wr J 20 func88 []) fun h=>?_;refine wO J 2 h fun u v h=>Ym (SD N c.Zu _ v) [] [] ?_;refine Yu J 2 h (fun h=>oi h▸wr J 15 func88 []) fun h=>?_;refine wO J 2 h fun x y h=>Ym (SD N c.As _ y) [] [] ?_;refine Yu J 2 h (fun h=>oi h▸wr J 10 func88 []) fun h=>?_;exact wB J 5 h (fun h=>oi h▸wr J 5 func88 []) fun h=>oi h▸wr J 5 func88 []
 exact eB h (fun h=>wa J 2 (Yi [] (j1 true h))) fun h=>wa J 5 (Yi [] (j1 (c.Zt==4) h))
theorem ZwC(rc:(List Yj)->Int->Int->Option (Bool×Int))(rcT:(∀(c:(List Yj)) (d:Int) (e:Int) (r:Bool×Int),rc c d e=some r->Fn aB 41 ⟨2,[.S 0,.I d,.B 1 0],[(0,.sl Yz c)],[(1,.box [.I e] 3)],2,.O r.1,[],[(1,.box [.I r.2] 3)]⟩))(c:(List Yj))(d:Int)(e:Int)(r:Bool×Int)(h:BH N rc c d e=some r) :
 Fn aB 41 ⟨2,[.S 0,.I d,.B 1 0],[(0,.sl Yz c)],[(1,.box [.I e] 3)],2,.O r.1,[],[(1,.box [.I r.2] 3)]⟩:=Yy func41 rfl fun E F w=>by
 unfold BH at h;refine wa J 11 (YD (σ:=Int) (fun st=>⟨[],[(1,.box [.I st] 3)],[(0,.sl Yz c)],2⟩) (fun st=>Zdr st=some r) ?_ (fun j1=>?_))
 ·intro f h;unfold Zdr at h;exact oi h▸wr J 4 func41 []
 refine wa J 1 (YP (σ:=Int×Int) (fun st=>⟨[(1,.I d),(2,.B 1 0),(11,.S 0),(12,.I (c.length:Int)),(13,.I st.2)],[(1,.box [.I st.1] 3)],[(0,.sl Yz c)],2⟩) (fun n st=>Qr N rc c d n st.1 st.2) (r:=r) (fun _=>rfl) ?_ (fun ih=>?_))
 ·intro n12 ih12;rintro⟨g,i⟩ h;unfold Qr at h;refine Yu J 5 h (fun h=>wa J 2 (Yi [] (j1 g h))) fun h=>?_;refine wO J 6 h fun j k h=>YK J R7 k ?_;refine wB J 19 h (fun h=>oi h▸wr J 16 func41 []) fun h=>?_;refine wB J 6 h (fun h=>oi h▸wr J 10 func41 []) fun h=>?_;refine wO J 1 h fun l m h=>Ym (Zxf N j _ m) [] [(0,.sl 3),(1,.sl 4)] ?_;refine wB J 3 h (fun h=>oi h▸wr J 5 func41 []) fun h=>wa J 9 (YD (σ:=Int) (fun st=>⟨[(1,.I d),(2,.B 1 0),(11,.S 0),(12,.I (c.length:Int)),(13,.I i)],[(1,.box [.I st] 3)],[(0,.sl Yz c)],6⟩) (fun st=>Zds i (Qr N rc c d n12) st=some r) ?_ (fun j19=>?_))
  ·intro o h;unfold Zds at h;exact wa J 5 (Yi [] (ih12 (o,(Yh (i+1))) h))
  refine wa J 1 (YP (σ:=Int×Int) (fun st=>⟨[(1,.I d),(2,.B 1 0),(11,.S 0),(12,.I (c.length:Int)),(13,.I i),(36,.S 4),(37,.I (j.ZD.length:Int)),(38,.I st.2)],[(1,.box [.I st.1] 3)],[(0,.sl Yz c),(4,.sl (YH Yz) j.ZD)],6⟩) (fun n st=>M8 rc d i (Qr N rc c d n12) j n st.1 st.2) (r:=r) (fun _=>rfl) ?_ (fun ih=>?_))
  ·intro n14 ih21;rintro⟨p,q⟩ h;unfold M8 at h;refine Yu J 5 h (fun h=>wa J 2 (Yi [] (j19 p h))) fun h=>?_;refine wO J 6 h fun s t h=>YK J (Xj Yz) t ?_;refine wO J 9 h fun u v h=>Ym (rcT s (Yh (d+1)) p _ v) [] [(0,.sl 7),(1,.bp 1 0)] ?_;exact wB J 2 h (fun h=>oi h▸wr J 5 func41 []) fun h=>wa J 7 (Yi [] (ih21 (u.2,(Yh (q+1))) h))
  exact Yi [] (ih N ((Yh (g+1)),0) h)
 exact Yi [] (ih N (e,0) h)
theorem ZwE:∀(N:Nat) (c:(List Yj)) (d:Int) (e:Int) (r:Bool×Int) (h:Zdt N c d e=some r),Fn aB 41 ⟨2,[.S 0,.I d,.B 1 0],[(0,.sl Yz c)],[(1,.box [.I e] 3)],2,.O r.1,[],[(1,.box [.I r.2] 3)]⟩:=by
 intro N;induction N with
 |zero=>intros;rename_i h;cases h
 |succ N ih=>intro c d e r h;exact ZwC N (Zdt N) ih c d e r h
theorem ZwD(c:(List Yj))(d:Int)(e:Int)(r:Bool×Int)(h:Gr N c d e=some r):Fn aB 41 ⟨2,[.S 0,.I d,.B 1 0],[(0,.sl Yz c)],[(1,.box [.I e] 3)],2,.O r.1,[],[(1,.box [.I r.2] 3)]⟩:=ZwE N c d e r h
theorem ZvT(c:Int)(r:Bool)(h:ZcM N c=some r) :
 Fn aB 147 ⟨0,[.I c],[],[],0,.O r,[],[]⟩:=Yy func147 rfl fun E F w=>by
 unfold ZcM at h;exact wB J 9 h (fun h=>oi h▸wr J 5 func147 []) fun h=>oi h▸wr J 5 func147 []
theorem Znf(c:Y5)(r:Bool)(h:GN N c=some r) :
 Fn aB 90 ⟨0,[.a (X2 c)],[],[],0,.O r,[],[]⟩:=Yy func90 rfl fun E F w=>by
 unfold GN at h;refine wO J 10 h fun d e h=>Ym (ZvT N c.N _ e) [] [] ?_;refine wB J 2 h (fun h=>oi h▸wr J 5 func90 []) fun h=>?_;refine wB J 14 h (fun h=>?_) fun h=>wa J 7 (YD (σ:=Bool) (fun st=>⟨[(1,.B 0 0),(19,.O st)],[(0,.box (X2 c) 102)],[],1⟩) (fun st=>Lq N c st=some r) ?_ (fun j1=>?_))
 ·exact wB J 7 h (fun h=>oi h▸wr J 6 func90 []) fun h=>oi h▸wr J 6 func90 []
 ·intro f h;unfold Lq at h;refine Wj h (fun h=>oi h▸wr J 7 func90 []) fun h=>?_;refine wO J 5 h fun g i h=>Ym (SD N c.Field _ i) [] [] ?_;refine Yu J 1 h (fun h=>oi h▸wr J 11 func90 []) fun h=>?_;refine wB J 4 h (fun h=>oi h▸wr J 7 func90 []) fun h=>?_;refine wO J 2 h fun j k h=>Ym (ZdZ N c.Zw _ k) [] [] ?_;exact oi h▸wr J 4 func90 []
 exact eB h (fun h=>wa J 2 (Yi [] (j1 true h))) fun h=>wa J 5 (Yi [] (j1 (c.Zt==3) h))
theorem ZwF(c:Ys)(r:Bool)(h:BI N c=some r) :
 Fn aB 42 ⟨2,[.a [.s c.Zu,.sl 0,.sl 1]],(XU 0 1 c []),[],2,.O r,[],[]⟩:=Yy func42 rfl fun E F w=>by
 unfold BI at h;refine wO J 10 h fun d e h=>Ym (ZdZ N c.Zu _ e) [] [] ?_;refine wB J 2 h (fun h=>oi h▸wr J 17 func42 []) fun h=>?_;refine wB J 6 h (fun h=>oi h▸wr J 11 func42 []) fun h=>?_;refine wB J 6 h (fun h=>oi h▸wr J 5 func42 []) fun h=>wa J 10 (YD (σ:=Unit) (fun st=>⟨[(1,.B 2 0)],[(2,.box [.s c.Zu,.sl 0,.sl 1] 97)],(XU 0 1 c []),3⟩) (fun st=>Zdv N c=some r) ?_ (fun j1=>?_))
 ·intro _ h;unfold Zdv at h;refine wa J 8 (YD (σ:=Unit) (fun st=>⟨[],[],(XU 0 1 c []),3⟩) (fun st=>Zdu=some r) ?_ (fun j6=>?_))
  ·intro _ h;unfold Zdu at h;exact oi h▸wr J 4 func42 []
  refine wa J 1 (YP (σ:=Int) (fun st=>⟨[(74,.S 1),(75,.I (c.ZA.length:Int)),(76,.I st)],[],(XU 0 1 c []),3⟩) (fun n st=>Gt N c n st) (r:=r) (fun _=>rfl) ?_ (fun ih=>?_))
  ·intro n3 ih8;intro f h;unfold Gt at h;refine Yu J 5 h (fun h=>wa J 2 (Yi [] (j6 () h))) fun h=>?_;refine wO J 6 h fun g i h=>YK J Mb i ?_;refine wO J 8 h fun j k h=>Ym (Znf N g.Zx _ k) [] [] ?_;refine wB J 2 h (fun h=>wa J 12 (YL (oi h▸wr J 5 func42 []))) fun h=>?_;refine wO J 2 h fun l m h=>Ym (Znf N g.Zy _ m) [] [] ?_;refine wB J 3 h (fun h=>wa J 6 (YL (oi h▸wr J 5 func42 []))) fun h=>?_;have⟨o,p,h⟩:=ob h;refine Ym (Zng N _ p) [] [] ?_;refine wO J 2 h fun q t h=>Wp (PA N o g.Op _ t) [] [(0,.sl 5)] [5] (.inr ⟨rfl,trivial⟩) (wa J 2 (YL ?_));exact eB h (fun h=>oi h▸wr J 5 func42 []) fun h=>wa J 7 (Yi [] (ih8 (Yh (f+1)) h))
  exact Yi [] (ih N 0 h)
 refine wa J 1 (YP (σ:=Int) (fun st=>⟨[(1,.B 2 0),(25,.S 0),(26,.I (c.Zz.length:Int)),(27,.I st)],[(2,.box [.s c.Zu,.sl 0,.sl 1] 97)],(XU 0 1 c []),3⟩) (fun n st=>Rr N c n st) (r:=r) (fun _=>rfl) ?_ (fun ih=>?_))
 ·intro n4 ih9;intro u h;unfold Rr at h;refine Yu J 5 h (fun h=>wa J 2 (Yi [] (j1 () h))) fun h=>?_;refine wO J 6 h fun v x h=>YK J Sq x (wa J 16 (YD (σ:=Int) (fun st=>⟨[(1,.B 2 0),(4,.B 4 0),(5,.I st),(25,.S 0),(26,.I (c.Zz.length:Int)),(27,.I u)],[(2,.box [.s c.Zu,.sl 0,.sl 1] 97),(4,.box (V8 v) 138)],(XU 0 1 c []),5⟩) (fun st=>Gs N u (Rr N c n4) v st=some r) ?_ (fun j12=>?_)))
  ·intro y h;unfold Gs at h;refine wO J 4 h fun z A h=>Ym (SD N v.Zu _ A) [] [] ?_;refine wB J 2 h (fun h=>oi h▸wr J 38 func42 []) fun h=>?_;refine Yu J 5 h (fun h=>?_) fun h=>?_
   ·refine wB J 18 h (fun h=>oi h▸wr J 15 func42 []) fun h=>?_;exact wB J 10 h (fun h=>oi h▸wr J 5 func42 []) fun h=>wa J 7 (Yi [] (ih9 (Yh (u+1)) h))
   refine wB J 7 h (fun h=>oi h▸wr J 26 func42 []) fun h=>?_;refine wB J 11 h (fun h=>oi h▸wr J 15 func42 []) fun h=>?_;exact wB J 10 h (fun h=>oi h▸wr J 5 func42 []) fun h=>wa J 7 (Yi [] (ih9 (Yh (u+1)) h))
  exact eB h (fun h=>wa J 4 (Yi [] (j12 0 h))) fun h=>wa J 2 (Yi [] (j12 (-999999) h))
 exact Yi [] (ih N 0 h)
theorem Qw(d:List be)(e:be)(r:be)(h:Uo N d e=some r):Fn aB 93 ⟨1,[.S 0,.c (.s e)],[(0,.sl rS d)],[],1,.c (.s r),[],[]⟩:=by
  unfold Uo at h;cases hb:(decide (d.length<=140737488355328) && decide ((Vv e.data.toList (d.map (·.data.toList))).length<=140737488355328)) with
  |false=>rw[hb]at h;cases h
  |true=>
    rw[hb]at h;simp only[l9,aR]at h;subst h;simp only[Zc,l8]at hb;exact Zre d e hb.1 hb.2
theorem ZlF(l:List UInt8):∀n:Nat,Go.Lib.repeatL l n=HD l n
 |0=>rfl
 |n+1=>by show l++Go.Lib.repeatL l n=l++HD l n;rw[ZlF l n]
theorem ZmX(d:be)(e:Int)(r:be)(h:MS N d e=some r):Fn aB 149 ⟨0,[.c (.s d),.I e],[],[],0,.c (.s r),[],[]⟩:=by
 unfold MS at h;cases hb:((decide (0<=e) && decide (e<=140737488355328)) && decide (d.size*e.toNat<=140737488355328)) with
 |false=>rw[hb]at h;cases h
 |true=>
  rw[hb]at h;simp only[l9,aR]at h;subst h;simp only[Zc,l8]at hb;obtain⟨⟨h1,h2⟩,h3⟩:=hb;obtain⟨c,rfl⟩:=Int.eq_ofNat_of_zero_le h1;have:=ZtI d c (by omega) h3;rw[ZlF]at this;exact this
theorem Zv4(c:YG)(r:YG)(h:ZcX N c=some r) :
 Fn aB 161 ⟨1,[.B 0 0],[],[(0,.box [.v (.pointer none),.nil,.I c.ZK] 197)],2,.t [],[],[(1,.buf r.Builder 5),(0,.box [.bp 0 0,.sl 1,.I r.ZK] 197)]⟩:=Yy func161 rfl fun E F w=>by
 unfold ZcX at h;refine wa J 6 (ePz (wa J 5 (eCu (eNe func200 (by kernel_rfl) (by kernel_rfl) (by kernel_rfl) (by kernel_rfl) (eCq ?_)))));exact oi h▸wr J 4 func161 [(1,.nil)]
theorem ZvV(d:be)(e:YG)(r:Int×Unit×YG)(h:ZcO N d e=some r) :
 Fn aB 148 ⟨1,[.B 0 0,.c (.s d)],[],[(0,.box [.v (.pointer none),.nil,.I e.ZK] 197)],2,.t [.inl (.I r.1),.inl (.v .nilIface)],[],[(1,.buf r.2.2.Builder 5),(0,.box [.bp 0 0,.sl 1,.I r.2.2.ZK] 197)]⟩:=Yy func148 rfl fun E F w=>by
 unfold ZcO at h;refine wO J 8 h fun f g h=>Ym (Zv4 N (⟨ao,e.ZK⟩:YG) _ g) [] [(0,.bp 0 0)] ?_;refine wO J 9 h fun i j h=>eBt (ty:=5) J j ?_;exact oi h▸wr J 11 func148 [(1,.sl 2)]
theorem Zxh(c:(List be))(d:YG)(r:YG)(h:Zab N c d=some r) :
 Fn aB 92 ⟨2,[.B 1 0,.S 0],[(0,.sl rS c)],[(1,.box [.v (.pointer none),.nil,.I d.ZK] 197)],3,.t [],[],[(2,.buf r.Builder 5),(1,.box [.bp 1 0,.sl 2,.I r.ZK] 197)]⟩:=Yy func92 rfl fun E F w=>by
 unfold Zab at h;refine wO J 8 h fun e f h=>Ym (ZmX N (str [9]) d.ZK _ f) [] [] ?_;refine wO J 1 h fun g i h=>Ym (Qw N c (str []) _ i) [] [(0,.sl 0)] ?_;have⟨j,k,h⟩:=ob h;refine XQ k ?_;have⟨l,m,h⟩:=ob h;refine XQ m ?_;have⟨o,p,h⟩:=ob h;refine Ym (ZvV N l (⟨ao,d.ZK⟩:YG) _ p) [] [(0,.bp 1 0)] (YL ?_);cases h;exact Xi J func92 [(2,.sl 2)]
theorem Ga(d:Int)(r:be)(h:Ro N d=some r):Fn aB 151 ⟨1,[.I d],[],[(0,.abs kx)],1,.c (.s r),[],[(0,.abs kx)]⟩:=by
 unfold Ro at h;cases hb:(decide ((-9223372036854775808)<=d) && decide (d<=9223372036854775807)) with
 |false=>rw[hb]at h;cases h
 |true=>
  rw[hb]at h;simp only[l9,aR]at h;subst h;simp only[Zc,l8]at hb;exact ZqX d hb.1 hb.2
theorem ZmY(d:Y5)(r:be)(h:Gb N d=some r) :
 Fn aB 152 ⟨1,[.a (X2 d)],[],[(0,.abs kx)],1,.c (.s r),[],[(0,.abs kx)]⟩:=Yy func152 rfl fun E F w=>by
 unfold Gb at h;refine wB J 12 h (fun h=>?_) fun h=>wa J 15 (YD (σ:=be) (fun st=>⟨[(1,.B 1 0),(3,.c (.s st))],[(0,.abs kx),(1,.box (X2 d) 102)],[],2⟩) (fun st=>Gd N d st=some r) ?_ (fun j1=>?_))
 ·refine wO J 5 h fun e f h=>Ym (Ga N d.N _ f) [] [(0,.sl 0)] ?_;exact oi h▸wr J 2 func152 []
 ·intro g h;unfold Gd at h;refine wa J 7 (YD (σ:=be) (fun st=>⟨[(1,.B 1 0),(3,.c (.s st))],[(0,.abs kx),(1,.box (X2 d) 102)],[],2⟩) (fun st=>Gc N d st=some r) ?_ (fun j2=>?_))
  ·intro i h;unfold Gc at h;refine wB J 9 h (fun h=>?_) fun h=>?_
   ·refine wO J 5 h fun j k h=>Ym (Ga N d.N _ k) [] [(0,.sl 0)] ?_;have⟨l,m,h⟩:=ob h;refine XQ m ?_;have⟨o,p,h⟩:=ob h;refine XQ p ?_;exact oi h▸wr J 8 func152 []
   refine Yu J 8 h (fun h=>oi h▸wr J 8 func152 []) fun h=>?_;refine wO J 6 h fun q t h=>Ym (Ga N (Yh (0-d.N)) _ t) [] [(0,.sl 0)] ?_;have⟨u,v,h⟩:=ob h;refine XQ v ?_;have⟨x,y,h⟩:=ob h;refine XQ y ?_;exact oi h▸wr J 8 func152 []
  refine Wj h (fun h=>wa J 2 (Yi [] (j2 g h))) fun h=>?_;refine wO J 3 h fun z A h=>XQ A ?_;have⟨C,D,h⟩:=ob h;exact XQ D (wa J 2 (Yi [] (j2 C h)))
 refine Wj h (fun h=>wa J 2 (Yi [] (j1 d.Field h))) fun h=>?_;refine wO J 4 h fun G H h=>XQ H ?_;exact wO J 1 h fun R T h=>XQ T (wa J 2 (Yi [] (j1 R h)))
theorem Zv5(c:YG)(r:Unit)(h:ZcZ N c=some r) :
 Fn aB 161 ⟨2,[.B 0 0],[],[(0,.box [.bp 0 0,.sl 1,.I c.ZK] 197),(1,.buf c.Builder 5)],2,.t [],[],[(0,.box [.bp 0 0,.sl 1,.I c.ZK] 197),(1,.buf c.Builder 5)]⟩:=Yy func161 rfl fun E F w=>by
 unfold ZcZ at h;refine wa J 6 (ePn false (wa J 9 (ePs ?_)));cases h;exact wr J 3 func161 []
theorem ZvU(d:be)(e:YG)(r:Int×Unit×YG)(h:ZcN N d e=some r) :
 Fn aB 148 ⟨2,[.B 0 0,.c (.s d)],[],[(0,.box [.bp 0 0,.sl 1,.I e.ZK] 197),(1,.buf e.Builder 5)],3,.t [.inl (.I r.1),.inl (.v .nilIface)],[],[(1,.gone),(2,.buf r.2.2.Builder 5),(0,.box [.bp 0 0,.sl 2,.I r.2.2.ZK] 197)]⟩:=Yy func148 rfl fun E F w=>by
 unfold ZcN at h;refine wO J 8 h fun f g h=>Ym (Zv5 N e _ g) [] [(0,.bp 0 0),(1,.sl 1)] ?_;refine wO J 9 h fun i j h=>eBt (ty:=5) J j ?_;exact oi h▸wr J 11 func148 [(2,.sl 2)]
theorem Ti(c:(List be))(d:YG)(r:YG)(h:Vd N c d=some r) :
 Fn aB 92 ⟨3,[.B 1 0,.S 0],[(0,.sl rS c)],[(1,.box [.bp 1 0,.sl 2,.I d.ZK] 197),(2,.buf d.Builder 5)],4,.t [],[],[(2,.gone),(3,.buf r.Builder 5),(1,.box [.bp 1 0,.sl 3,.I r.ZK] 197)]⟩:=Yy func92 rfl fun E F w=>by
 unfold Vd at h;refine wO J 8 h fun e f h=>Ym (ZmX N (str [9]) d.ZK _ f) [] [] ?_;refine wO J 1 h fun g i h=>Ym (Qw N c (str []) _ i) [] [(0,.sl 0)] ?_;have⟨j,k,h⟩:=ob h;refine XQ k ?_;have⟨l,m,h⟩:=ob h;refine XQ m ?_;have⟨o,p,h⟩:=ob h;refine Ym (ZvU N l d _ p) [] [(0,.bp 1 0),(1,.sl 2)] (YL ?_);cases h;exact Xi J func92 [(3,.sl 3)]
theorem Znh(d:Ys)(e:YG)(r:YG)(h:Lr N d e=some r) :
 Fn aB 94 ⟨5,[.B 2 0,.a [.s d.Zu,.sl 0,.sl 1]],(XU 0 1 d []),[(2,.box [.bp 2 0,.sl 3,.I e.ZK] 197),(3,.buf e.Builder 5),(4,.abs kx)],6,.t [],[],[(3,.gone),(5,.buf r.Builder 5),(2,.box [.bp 2 0,.sl 5,.I r.ZK] 197),(4,.abs kx)]⟩:=Yy func94 rfl fun E F w=>by
 unfold Lr at h;refine wa J 17 (YD (σ:=(List be)) (fun st=>(Znt e.ZK e.Builder kx d.Zu st d [(0,.B 2 0),(3,.B 5 0),(4,.S 6),(5,.c .nil)])) (fun st=>Zad N d e st=some r) ?_ (fun j1=>?_))
 ·intro f h;unfold Zad at h;refine wa J 8 (YD (σ:=(List be)) (fun st=>(Znu e.ZK e.Builder kx d.Zu f st d [(0,.B 2 0),(3,.B 5 0),(4,.S 6),(5,.S 7)])) (fun st=>Zac N d e f st=some r) ?_ (fun j6=>?_))
  ·intro g h;unfold Zac at h;refine Yu J 11 h (fun h=>?_) fun h=>?_
   ·refine wO J 7 h fun i j h=>Wp (Qw N f (str [44,32]) _ j) [] [(0,.sl 6)] [6] (.inr ⟨rfl,trivial⟩) (wa J 1 (YW J [] oS ([(str [109,101,115,115,97,103,101,32]),d.Zu,(str [40]),i,(str [41]),(str []),(str [59])]:List be) ?_));have⟨k,l,h⟩:=ob h;refine Ym (Ti N ([(str [109,101,115,115,97,103,101,32]),d.Zu,(str [40]),i,(str [41]),(str []),(str [59])]:List be) e _ l) [8] [(0,.sl 8),(1,.bp 2 0),(2,.sl 3)] (YL ?_);cases h;exact Xi J func94 [(5,.sl 9)]
   refine wO J 3 h fun m o h=>Wp (Qw N g (str [32,97,110,100,32]) _ o) [] [(0,.sl 7)] [7] (.inr ⟨rfl,trivial⟩) ?_;have⟨p,q,h⟩:=ob h;refine XQ q ?_;refine wO J 7 h fun u v h=>Wp (Qw N f (str [44,32]) _ v) [] [(0,.sl 6)] [6] (.inr ⟨rfl,trivial⟩) (wa J 1 (YW J [] oS ([(str [109,101,115,115,97,103,101,32]),d.Zu,(str [40]),u,(str [41]),p,(str [59])]:List be) ?_));have⟨x,y,h⟩:=ob h;refine Ym (Ti N ([(str [109,101,115,115,97,103,101,32]),d.Zu,(str [40]),u,(str [41]),p,(str [59])]:List be) e _ y) [8] [(0,.sl 8),(1,.bp 2 0),(2,.sl 3)] (YL ?_);cases h;exact Xi J func94 [(5,.sl 9)]
  refine wa J 1 (YP (σ:=(List be)×Int) (fun st=>(Znu e.ZK e.Builder kx d.Zu f st.1 d [(0,.B 2 0),(3,.B 5 0),(4,.S 6),(5,.S 7),(43,.S 1),(44,.I (d.ZA.length:Int)),(45,.I st.2)])) (fun n st=>Ls N d e f n st.1 st.2) (r:=r) (fun _=>rfl) ?_ (fun ih=>?_))
  ·intro n3 ih8;rintro⟨z,A⟩ h;unfold Ls at h;refine Yu J 5 h (fun h=>wa J 2 (Yi [] (j6 z h))) fun h=>?_;refine wO J 6 h fun C D h=>YK J Mb D ?_;refine wO J 8 h fun G H h=>Ym (ZmY N C.Zx _ H) [] [(0,.sl 4)] ?_;have⟨R,T,h⟩:=ob h;refine XQ T ?_;refine wO J 2 h fun U X h=>XQ X ?_;have⟨Y,Z,h⟩:=ob h;refine XQ Z ?_;refine wO J 2 h fun a0 b0 h=>Ym (ZmY N C.Zy _ b0) [] [(0,.sl 4)] ?_;have⟨c0,e0,h⟩:=ob h;refine XQ e0 (YW J [] oS ([c0]:List be) ?_);have⟨g0,i0,h⟩:=ob h;exact Xu J rS i0 (wa J 1 (YL (wa J 5 (Yi [(7,.sl 11)] (ih8 (g0,(Yh (A+1))) h)))))
  exact Yi [(7,.nil)] (ih N (([]:List be),0) h)
 refine wa J 1 (YP (σ:=(List be)×Int) (fun st=>(Znt e.ZK e.Builder kx d.Zu st.1 d [(0,.B 2 0),(3,.B 5 0),(4,.S 6),(5,.c .nil),(13,.S 0),(14,.I (d.Zz.length:Int)),(15,.I st.2)])) (fun n st=>Qx N d e n st.1 st.2) (r:=r) (fun _=>rfl) ?_ (fun ih=>?_))
 ·intro n4 ih9;rintro⟨j0,k0⟩ h;unfold Qx at h;refine Yu J 5 h (fun h=>wa J 2 (Yi [] (j1 j0 h))) fun h=>?_;refine wO J 6 h fun l0 m0 h=>YK J Sq m0 (wa J 16 (YD (σ:=be) (fun st=>⟨[(0,.B 2 0),(3,.B 5 0),(4,.S 6),(5,.c .nil),(7,.B 8 0),(8,.c (.s st)),(13,.S 0),(14,.I (d.Zz.length:Int)),(15,.I k0)],[(2,.box [.bp 2 0,.sl 3,.I e.ZK] 197),(3,.buf e.Builder 5),(4,.abs kx),(5,.box [.s d.Zu,.sl 0,.sl 1] 97),(6,.own rS j0 true),(8,.box (V8 l0) 138)],(XU 0 1 d []),9⟩) (fun st=>GP N j0 k0 (Qx N d e n4) l0 st=some r) ?_ (fun j12=>?_)))
  ·intro o0 h;unfold GP at h;refine wO J 5 h fun p0 q0 h=>XQ q0 ?_;refine wO J 3 h fun s0 t0 h=>Ym (Ga N l0.Zv.Lo _ t0) [] [(0,.sl 4)] ?_;have⟨u0,v0,h⟩:=ob h;refine XQ v0 ?_;have⟨x0,y0,h⟩:=ob h;refine XQ y0 ?_;refine wO J 3 h fun z0 A0 h=>Ym (Ga N l0.Zv.Hi _ A0) [] [(0,.sl 4)] ?_;have⟨B0,C0,h⟩:=ob h;refine XQ C0 (YW J [] oS ([B0]:List be) ?_);have⟨D0,G0,h⟩:=ob h;exact Xu J rS G0 (wa J 1 (YL (wa J 5 (Yi [(6,.sl 10)] (ih9 (D0,(Yh (k0+1))) h)))))
  exact eB h (fun h=>wa J 4 (Yi [] (j12 (str [58,32,116,101,120,116,32]) h))) fun h=>wa J 2 (Yi [] (j12 (str [58,32,105,110,116,32]) h))
 exact Yi [(6,.nil)] (ih N (([]:List be),0) h)
theorem ZcP(rc:(List Yj)->YG->Option YG)(rcT:(∀(d:(List Yj)) (e:YG) (r:YG),rc d e=some r->Fn aB 95 ⟨4,[.B 1 0,.S 0],[(0,.sl Yz d)],[(1,.box [.bp 1 0,.sl 2,.I e.ZK] 197),(2,.buf e.Builder 5),(3,.abs kx)],5,.t [],[],[(2,.gone),(4,.buf r.Builder 5),(1,.box [.bp 1 0,.sl 4,.I r.ZK] 197),(3,.abs kx)]⟩))(f:be)(g:be)(i:be)(d:(List (List Yj)))(e:YG)(r:YG)(h:Qo N rc f g i d e=some r) :
 Fn aB 153 ⟨4,[.B 1 0,.c (.s f),.c (.s g),.c (.s i),.S 0],[(0,.sl (YH Yz) d)],[(1,.box [.bp 1 0,.sl 2,.I e.ZK] 197),(2,.buf e.Builder 5),(3,.abs kx)],5,.t [],[],[(2,.gone),(4,.buf r.Builder 5),(1,.box [.bp 1 0,.sl 4,.I r.ZK] 197),(3,.abs kx)]⟩:=Yy func153 rfl fun E F w=>by
 unfold Qo at h;refine wa J 7 (YD (σ:=be×Int) (fun st=>⟨[(0,.B 1 0)],[(1,.box [.bp 1 0,.sl 4,.I st.2] 197),(3,.abs kx),(4,.buf st.1 5)],[(0,.sl (YH Yz) d)],5⟩) (fun st=>ZcQ N st.1 st.2=some r) ?_ (fun j1=>?_))
 ·rintro⟨j,k⟩ h;unfold ZcQ at h;refine wa J 2 (YW J [] oS ([(str [125])]:List be) ?_);have⟨l,m,h⟩:=ob h;refine Ym (Ti N ([(str [125])]:List be) (⟨j,k⟩:YG) _ m) [5] [(0,.sl 5),(1,.bp 1 0),(2,.sl 4)] ?_;exact oi h▸wr J 1 func153 [(4,.sl 6)]
 refine wa J 1 (YP (σ:=be×Int×Int) (fun st=>⟨[(0,.B 1 0),(1,.c (.s f)),(2,.c (.s g)),(3,.c (.s i)),(4,.S 0),(12,.S 0),(13,.I (d.length:Int)),(14,.I st.2.2)],[(1,.box [.bp 1 0,.sl 4,.I st.2.1] 197),(3,.abs kx),(4,.buf st.1 5)],[(0,.sl (YH Yz) d)],5⟩) (fun n st=>TU N rc f g i d n st.1 st.2.1 st.2.2) (r:=r) (fun _=>rfl) ?_ (fun ih=>?_))
 ·intro n2 ih6;rintro⟨o,p,q⟩ h;unfold TU at h;refine Yu J 5 h (fun h=>wa J 2 (Yi [] (j1 (o,p) h))) fun h=>?_;refine wO J 7 h fun u v h=>YK J (Xj Yz) v (wa J 12 (YD (σ:=be×Int) (fun st=>⟨[(0,.B 1 0),(1,.c (.s f)),(2,.c (.s g)),(3,.c (.s i)),(4,.S 0),(11,.S 6),(12,.S 0),(13,.I (d.length:Int)),(14,.I q)],[(1,.box [.bp 1 0,.sl 7,.I st.2] 197),(3,.abs kx),(7,.buf st.1 5)],[(0,.sl (YH Yz) d),(6,.sl Yz u)],8⟩) (fun st=>Pn rc q (TU N rc f g i d n2) u st.1 st.2=some r) ?_ (fun j9=>?_)))
  ·rintro⟨x,y⟩ h;unfold Pn at h;exact wO J 16 h fun z A h=>Ym (rcT u (⟨x,(Yh (y+1))⟩:YG) _ A) [] [(0,.sl 6),(1,.bp 1 0),(2,.sl 7),(3,.sl 3)] (wa J 16 (Yi [(4,.sl 8)] (ih6 (z.Builder,(Yh (z.ZK-1)),(Yh (q+1))) h)))
  refine eB h (fun h=>wa J 4 (YW J [] oS ([f,(str [32,123])]:List be) ?_)) fun h=>?_
  ·have⟨C,D,h⟩:=ob h;exact Ym (Ti N ([f,(str [32,123])]:List be) (⟨o,p⟩:YG) _ D) [7] [(0,.sl 7),(1,.bp 1 0),(2,.sl 4)] (wa J 1 (Yi [(7,.sl 8)] (j9 (C.Builder,C.ZK) h)))
  refine Yu J 9 h (fun h=>wa J 9 (YW J [] oS ([(str [125,32]),g,(str [32,123])]:List be) ?_)) fun h=>?_
  ·have⟨G,H,h⟩:=ob h;exact Ym (Ti N ([(str [125,32]),g,(str [32,123])]:List be) (⟨o,p⟩:YG) _ H) [7] [(0,.sl 7),(1,.bp 1 0),(2,.sl 4)] (wa J 1 (Yi [(7,.sl 8)] (j9 (G.Builder,G.ZK) h)))
  refine wB J 5 h (fun h=>wa J 4 (YW J [] oS ([(str [125,32]),i,(str [32,123])]:List be) ?_)) fun h=>wa J 4 (YW J [] oS ([(str [125,32]),g,(str [32,123])]:List be) ?_)
  ·have⟨R,T,h⟩:=ob h;exact Ym (Ti N ([(str [125,32]),i,(str [32,123])]:List be) (⟨o,p⟩:YG) _ T) [7] [(0,.sl 7),(1,.bp 1 0),(2,.sl 4)] (wa J 1 (Yi [(7,.sl 8)] (j9 (R.Builder,R.ZK) h)))
  have⟨U,X,h⟩:=ob h;exact Ym (Ti N ([(str [125,32]),g,(str [32,123])]:List be) (⟨o,p⟩:YG) _ X) [7] [(0,.sl 7),(1,.bp 1 0),(2,.sl 4)] (wa J 1 (Yi [(7,.sl 8)] (j9 (U.Builder,U.ZK) h)))
 exact Yi [(4,.sl 2)] (ih N (e.Builder,e.ZK,0) h)
theorem Zxi(rc:(List Yj)->YG->Option YG)(rcT:(∀(c:(List Yj)) (d:YG) (r:YG),rc c d=some r->Fn aB 95 ⟨4,[.B 1 0,.S 0],[(0,.sl Yz c)],[(1,.box [.bp 1 0,.sl 2,.I d.ZK] 197),(2,.buf d.Builder 5),(3,.abs kx)],5,.t [],[],[(2,.gone),(4,.buf r.Builder 5),(1,.box [.bp 1 0,.sl 4,.I r.ZK] 197),(3,.abs kx)]⟩))(c:(List Yj))(d:YG)(r:YG)(h:Zae N rc c d=some r) :
 Fn aB 95 ⟨4,[.B 1 0,.S 0],[(0,.sl Yz c)],[(1,.box [.bp 1 0,.sl 2,.I d.ZK] 197),(2,.buf d.Builder 5),(3,.abs kx)],5,.t [],[],[(2,.gone),(4,.buf r.Builder 5),(1,.box [.bp 1 0,.sl 4,.I r.ZK] 197),(3,.abs kx)]⟩:=Yy func95 rfl fun E F w=>by
 unfold Zae at h;refine wa J 6 (YD (σ:=be×Int) (fun st=>⟨[],[(1,.box [.bp 1 0,.sl 4,.I st.2] 197),(3,.abs kx),(4,.buf st.1 5)],[(0,.sl Yz c)],5⟩) (fun st=>Zd1 st.1 st.2=some r) ?_ (fun j1=>?_))
 ·rintro⟨e,f⟩ h;unfold Zd1 at h;cases h;exact Xi J func95 [(4,.sl 4)]
 refine wa J 1 (YP (σ:=be×Int×Int) (fun st=>⟨[(0,.B 1 0),(6,.S 0),(7,.I (c.length:Int)),(8,.I st.2.2)],[(1,.box [.bp 1 0,.sl 4,.I st.2.1] 197),(3,.abs kx),(4,.buf st.1 5)],[(0,.sl Yz c)],5⟩) (fun n st=>Up N rc c n st.1 st.2.1 st.2.2) (r:=r) (fun _=>rfl) ?_ (fun ih=>?_))
 ·intro n2 ih3;rintro⟨g,i,j⟩ h;unfold Up at h;refine Yu J 5 h (fun h=>wa J 2 (Yi [] (j1 (g,i) h))) fun h=>?_;refine wO J 6 h fun k l h=>YK J R7 l ?_;refine wB J 15 h (fun h=>?_) fun h=>?_
  ·refine wO J 7 h fun m o h=>Ym (Qw N k.To (str [44,32]) _ o) [] [(0,.sl 6)] (wa J 2 (YW J [] oS ([k.ZB,(str [32,45,62,32]),m,(str [58,32]),k.Zu,(str [59])]:List be) ?_));have⟨p,q,h⟩:=ob h;exact Ym (Ti N ([k.ZB,(str [32,45,62,32]),m,(str [58,32]),k.Zu,(str [59])]:List be) (⟨g,i⟩:YG) _ q) [9] [(0,.sl 9),(1,.bp 1 0),(2,.sl 4)] (YL (wa J 6 (Yi [(4,.sl 10)] (ih3 (p.Builder,p.ZK,(Yh (j+1))) h))))
  refine wB J 6 h (fun h=>?_) fun h=>?_
  ·refine Yu J 7 h (fun h=>?_) fun h=>?_
   ·refine wO J 5 h fun s u h=>XQ u ?_;exact wO J 2 h fun v x h=>Ym (ZcP N rc rcT s (str [111,114]) (str []) k.ZD (⟨g,i⟩:YG) _ x) [] [(0,.sl 7),(1,.bp 1 0),(2,.sl 4),(3,.sl 3)] (wa J 7 (Yi [(4,.sl 9)] (ih3 (v.Builder,v.ZK,(Yh (j+1))) h)))
   refine wO J 5 h fun y z h=>XQ z ?_;have⟨A,C,h⟩:=ob h;refine XQ C ?_;refine wO J 2 h fun D G h=>Ym (Ga N k.ZC _ G) [] [(0,.sl 3)] ?_;have⟨H,R,h⟩:=ob h;refine XQ R ?_;exact wO J 2 h fun T U h=>Ym (ZcP N rc rcT H (str [111,114]) (str [101,108,115,101]) k.ZD (⟨g,i⟩:YG) _ U) [] [(0,.sl 7),(1,.bp 1 0),(2,.sl 4),(3,.sl 3)] (YL (wa J 6 (Yi [(4,.sl 9)] (ih3 (T.Builder,T.ZK,(Yh (j+1))) h))))
  refine wB J 6 h (fun h=>?_) fun h=>?_
  ·refine wO J 5 h fun X Y h=>XQ Y ?_;exact wO J 2 h fun Z a0 h=>Ym (ZcP N rc rcT X (str []) (str []) k.ZD (⟨g,i⟩:YG) _ a0) [] [(0,.sl 7),(1,.bp 1 0),(2,.sl 4),(3,.sl 3)] (wa J 7 (Yi [(4,.sl 9)] (ih3 (Z.Builder,Z.ZK,(Yh (j+1))) h)))
  refine wB J 6 h (fun h=>wa J 5 (YW J [] oS ([(str [97,103,97,105,110,32]),k.Zu,(str [59])]:List be) ?_)) fun h=>?_
  ·have⟨b0,c0,h⟩:=ob h;exact Ym (Ti N ([(str [97,103,97,105,110,32]),k.Zu,(str [59])]:List be) (⟨g,i⟩:YG) _ c0) [9] [(0,.sl 9),(1,.bp 1 0),(2,.sl 4)] (wa J 7 (Yi [(4,.sl 10)] (ih3 (b0.Builder,b0.ZK,(Yh (j+1))) h)))
  refine wB J 6 h (fun h=>?_) fun h=>?_
  ·exact wO J 5 h fun e0 g0 h=>Ym (ZcP N rc rcT (str [112,97,114]) (str [97,110,100]) (str []) k.ZD (⟨g,i⟩:YG) _ g0) [] [(0,.sl 7),(1,.bp 1 0),(2,.sl 4),(3,.sl 3)] (wa J 7 (Yi [(4,.sl 9)] (ih3 (e0.Builder,e0.ZK,(Yh (j+1))) h)))
  refine Yu J 6 h (fun h=>wa J 8 (Yi [] (ih3 (g,i,(Yh (j+1))) h))) fun h=>?_;refine wO J 7 h fun i0 j0 h=>Ym (Qw N k.To (str [44,32]) _ j0) [] [(0,.sl 6)] (wa J 2 (YW J [] oS ([(str [99,97,108,108,32]),k.Zu,(str [40]),i0,(str [41,32,97,115,32]),k.As,(str [59])]:List be) ?_));have⟨k0,l0,h⟩:=ob h;exact Ym (Ti N ([(str [99,97,108,108,32]),k.Zu,(str [40]),i0,(str [41,32,97,115,32]),k.As,(str [59])]:List be) (⟨g,i⟩:YG) _ l0) [9] [(0,.sl 9),(1,.bp 1 0),(2,.sl 4)] (YL (wa J 6 (Yi [(4,.sl 10)] (ih3 (k0.Builder,k0.ZK,(Yh (j+1))) h))))
 exact Yi [(4,.sl 2)] (ih N (d.Builder,d.ZK,0) h)
theorem Zxj:∀(N:Nat) (c:(List Yj)) (d:YG) (r:YG) (h:Zd2 N c d=some r),Fn aB 95 ⟨4,[.B 1 0,.S 0],[(0,.sl Yz c)],[(1,.box [.bp 1 0,.sl 2,.I d.ZK] 197),(2,.buf d.Builder 5),(3,.abs kx)],5,.t [],[],[(2,.gone),(4,.buf r.Builder 5),(1,.box [.bp 1 0,.sl 4,.I r.ZK] 197),(3,.abs kx)]⟩:=by
 intro N;induction N with
 |zero=>intros;rename_i h;cases h
 |succ N ih=>intro c d r h;exact Zxi N (Zd2 N) ih c d r h
theorem Zni(c:(List Yj))(d:YG)(r:YG)(h:Qy N c d=some r):Fn aB 95 ⟨4,[.B 1 0,.S 0],[(0,.sl Yz c)],[(1,.box [.bp 1 0,.sl 2,.I d.ZK] 197),(2,.buf d.Builder 5),(3,.abs kx)],5,.t [],[],[(2,.gone),(4,.buf r.Builder 5),(1,.box [.bp 1 0,.sl 4,.I r.ZK] 197),(3,.abs kx)]⟩:=Zxj N c d r h
theorem Zxk(d:YG)(r:be)(h:GQ N d=some r) :
 Fn aB 96 ⟨2,[.B 0 0],[],[(0,.box [.bp 0 0,.sl 1,.I d.ZK] 197),(1,.buf d.Builder 5)],2,.c (.s r),[],[(0,.box [.bp 0 0,.sl 1,.I d.ZK] 197),(1,.gone)]⟩:=Yy func96 rfl fun E F w=>by
 unfold GQ at h;refine wO J 10 h fun e f h=>eUd (ty:=5) (Zbd f) (wa J 4 (L4 (sb:=d.Builder) (ty:=5) J ?_));have⟨g,i,h⟩:=ob h;refine eUs (ty:=5) (Zbd i) (wa J 1 (YL ?_));cases h;exact Xi J func96 []
theorem Zxl(d:YG)(r:be)(h:Zhx N d=some r) :
 Fn aB 96 ⟨1,[.B 0 0],[],[(0,.box [.v (.pointer none),.nil,.I d.ZK] 197)],1,.c (.s r),[],[(0,.box [.v (.pointer none),.nil,.I d.ZK] 197)]⟩:=Yy func96 rfl fun E F w=>by
 unfold Zhx at h;refine wa J 10 (eUn (wa J 5 (eUz (wa J 1 (YL ?_)))));cases h;exact Xi J func96 []
theorem ZwG(d:(List Yl))(r:be)(h:BJ N d=some r) :
 Fn aB 43 ⟨2,[.S 0],[(0,.sl YN d)],[(1,.abs kx)],2,.c (.s r),[],[(1,.abs kx)]⟩:=Yy func43 rfl fun E F w=>by
 unfold BJ at h;refine wa J 18 (ePl ?_);refine Yu J 5 h (fun h=>?_) fun h=>?_
 ·refine wO J 7 h fun e f h=>Ym (Zxl N (⟨ao,0⟩:YG) _ f) [] [(0,.bp 2 0)] ?_;exact oi h▸wr J 2 func43 []
 refine wO J 6 h fun g i h=>YK J Vw i ?_;refine wO J 11 h fun j k h=>Ym (Qw N g.ZE (str [44,32]) _ k) [] [(0,.sl 4)] (YW J [] oS ([(str [112,114,111,116,111,99,111,108,32]),g.Zu,(str [40]),j,(str [41,32,123])]:List be) ?_);have⟨l,m,h⟩:=ob h;refine Ym (Zxh N ([(str [112,114,111,116,111,99,111,108,32]),g.Zu,(str [40]),j,(str [41,32,123])]:List be) (⟨ao,0⟩:YG) _ m) [8] [(0,.sl 8),(1,.bp 2 0)] (YL (wa J 19 (YD (σ:=be×Int) (fun st=>(Znv kx st.2 g.Zu st.1 d g [(3,.B 2 0),(5,.B 7 0),(10,.S 0),(11,.I (d.length:Int)),(12,.I 0)])) (fun st=>BL N d g st.1 st.2=some r) ?_ (fun j15=>?_))))
 ·rintro⟨o,p⟩ h;unfold BL at h;refine wO J 5 h fun q t h=>Ym (Zni N g.ZG (⟨o,p⟩:YG) _ t) [] [(0,.sl 6),(1,.bp 2 0),(2,.sl 10),(3,.sl 1)] (wa J 14 (YW J [] oS ([(str [125])]:List be) ?_));have⟨u,v,h⟩:=ob h;refine Ym (Ti N ([(str [125])]:List be) (⟨q.Builder,(Yh (q.ZK-1))⟩:YG) _ v) [12] [(0,.sl 12),(1,.bp 2 0),(2,.sl 11)] (wa J 6 (Ze5 (σ:=be×Int×Int) (fun st=>⟨[(3,.B 2 0),(10,.S 0),(11,.I (d.length:Int)),(12,.I st.2.2)],[(1,.abs kx),(2,.box [.bp 2 0,.sl 14,.I st.2.1] 197),(14,.buf st.1 5)],[(0,.sl YN d)],15⟩) (fun n st=>TY N d n st.1 st.2.1 st.2.2) (r:=r) (fun _=>rfl) ?_ (fun ih=>?_)))
  ·intro n15 ih17;rintro⟨x,y,z⟩ h;unfold TY at h;refine Yu J 5 h (fun h=>?_) fun h=>?_
   ·refine wO J 7 h fun A C h=>Ym (Zxk N (⟨x,y⟩:YG) _ C) [] [(0,.bp 2 0),(1,.sl 14)] ?_;exact oi h▸wr J 2 func43 []
   refine wO J 6 h fun D G h=>YK J Vw G ?_;refine wO J 11 h fun H R h=>Ym (Qw N D.ZE (str [44,32]) _ R) [] [(0,.sl 16)] (YW J [] oS ([(str [112,114,111,116,111,99,111,108,32]),D.Zu,(str [40]),H,(str [41,32,123])]:List be) ?_);have⟨T,U,h⟩:=ob h;refine Ym (Ti N ([(str [112,114,111,116,111,99,111,108,32]),D.Zu,(str [40]),H,(str [41,32,123])]:List be) (⟨x,y⟩:YG) _ U) [20] [(0,.sl 20),(1,.bp 2 0),(2,.sl 14)] (YL (wa J 19 (YD (σ:=be×Int) (fun st=>(Znw kx st.2 D.Zu st.1 d D [(3,.B 2 0),(5,.B 19 0),(10,.S 0),(11,.I (d.length:Int)),(12,.I z)])) (fun st=>BK N z (TY N d n15) D st.1 st.2=some r) ?_ (fun j24=>?_))))
   ·rintro⟨X,Y⟩ h;unfold BK at h;refine wO J 5 h fun Z a0 h=>Ym (Zni N D.ZG (⟨X,Y⟩:YG) _ a0) [] [(0,.sl 18),(1,.bp 2 0),(2,.sl 22),(3,.sl 1)] (wa J 14 (YW J [] oS ([(str [125])]:List be) ?_));have⟨b0,c0,h⟩:=ob h;exact Ym (Ti N ([(str [125])]:List be) (⟨Z.Builder,(Yh (Z.ZK-1))⟩:YG) _ c0) [24] [(0,.sl 24),(1,.bp 2 0),(2,.sl 23)] (wa J 6 (Yi [(14,.sl 25)] (ih17 (b0.Builder,b0.ZK,(Yh (z+1))) h)))
   refine wa J 1 (YP (σ:=be×Int×Int) (fun st=>(Znw kx st.2.1 D.Zu st.1 d D [(3,.B 2 0),(5,.B 19 0),(10,.S 0),(11,.I (d.length:Int)),(12,.I z),(32,.S 17),(33,.I (D.ZF.length:Int)),(34,.I st.2.2)])) (fun n st=>M9 N z (TY N d n15) D n st.1 st.2.1 st.2.2) (r:=r) (fun _=>rfl) ?_ (fun ih=>?_))
   ·intro n17 ih26;rintro⟨e0,g0,i0⟩ h;unfold M9 at h;refine Yu J 5 h (fun h=>wa J 2 (Yi [] (j24 (e0,g0) h))) fun h=>?_;refine wO J 6 h fun j0 k0 h=>YK J UI k0 ?_;exact wO J 7 h fun l0 m0 h=>Ym (Znh N j0 (⟨e0,g0⟩:YG) _ m0) [] [(0,.sl 24),(1,.sl 25),(2,.bp 2 0),(3,.sl 22),(4,.sl 1)] (wa J 6 (Yi [(22,.sl 27)] (ih26 (l0.Builder,l0.ZK,(Yh (i0+1))) h)))
   exact Yi [(22,.sl 21)] (ih N (T.Builder,(Yh (T.ZK+1)),0) h)
  exact Yi [(14,.sl 13)] (ih N (u.Builder,u.ZK,(Yh ((0:Int)+(1:Int)))) h)
 refine wa J 1 (YP (σ:=be×Int×Int) (fun st=>(Znv kx st.2.1 g.Zu st.1 d g [(3,.B 2 0),(5,.B 7 0),(10,.S 0),(11,.I (d.length:Int)),(12,.I 0),(32,.S 5),(33,.I (g.ZF.length:Int)),(34,.I st.2.2)])) (fun n st=>La N d g n st.1 st.2.1 st.2.2) (r:=r) (fun _=>rfl) ?_ (fun ih=>?_))
 ·intro n18 ih27;rintro⟨o0,p0,q0⟩ h;unfold La at h;refine Yu J 5 h (fun h=>wa J 2 (Yi [] (j15 (o0,p0) h))) fun h=>?_;refine wO J 6 h fun s0 t0 h=>YK J UI t0 ?_;exact wO J 7 h fun u0 v0 h=>Ym (Znh N s0 (⟨o0,p0⟩:YG) _ v0) [] [(0,.sl 12),(1,.sl 13),(2,.bp 2 0),(3,.sl 10),(4,.sl 1)] (wa J 6 (Yi [(10,.sl 15)] (ih27 (u0.Builder,u0.ZK,(Yh (q0+1))) h)))
 exact Yi [(10,.sl 9)] (ih N (l.Builder,(Yh (l.ZK+1)),0) h)
theorem Zm1(c:(List Yl))(r:Bool)(h:MU N c=some r) :
 Fn aB 16 ⟨2,[.S 0],[(0,.sl YN c)],[(1,.abs kx)],2,.O r,[],[(1,.abs kx)]⟩:=Yy func16 rfl fun E F w=>by
 unfold MU at h;refine wB J 11 h (fun h=>oi h▸wr J 5 func16 []) fun h=>wa J 9 (YD (σ:=Unit) (fun st=>⟨[(0,.S 0)],[(1,.abs kx)],[(0,.sl YN c)],2⟩) (fun st=>Zc2 N c=some r) ?_ (fun j1=>?_))
 ·intro _ h;unfold Zc2 at h;refine wO J 3 h fun d e h=>Ym (ZwG N c _ e) [] [(0,.sl 0),(1,.sl 1)] ?_;exact oi h▸wr J 4 func16 []
 refine wa J 1 (YP (σ:=Int) (fun st=>⟨[(0,.S 0),(11,.S 0),(12,.I (c.length:Int)),(13,.I st)],[(1,.abs kx)],[(0,.sl YN c)],2⟩) (fun n st=>Qp N c n st) (r:=r) (fun _=>rfl) ?_ (fun ih=>?_))
 ·intro n12 ih12;intro f h;unfold Qp at h;refine Yu J 5 h (fun h=>wa J 2 (Yi [] (j1 () h))) fun h=>?_;refine wO J 6 h fun g i h=>YK J Vw i ?_;refine wO J 14 h fun j k h=>Ym (SD N g.Zu _ k) [] [] ?_;refine wB J 2 h (fun h=>oi h▸wr J 23 func16 []) fun h=>?_;refine wO J 2 h fun l m h=>Ym (Zhl N g.ZE 6 _ m) [] [(0,.sl 3)] ?_;refine wB J 3 h (fun h=>oi h▸wr J 17 func16 []) fun h=>?_;refine wB J 6 h (fun h=>oi h▸wr J 11 func16 []) fun h=>?_;refine wO J 2 h fun o p h=>Ym (ZwD N g.ZG 1 0 _ p) [] [(0,.sl 5),(1,.bp 7 0)] ?_;refine wB J 3 h (fun h=>oi h▸wr J 5 func16 []) fun h=>wa J 9 (YD (σ:=Unit) (fun st=>⟨[(0,.S 0),(11,.S 0),(12,.I (c.length:Int)),(13,.I f)],[(1,.abs kx)],[(0,.sl YN c)],8⟩) (fun st=>Zc3 f (Qp N c n12)=some r) ?_ (fun j19=>?_))
  ·intro _ h;unfold Zc3 at h;exact wa J 5 (Yi [] (ih12 (Yh (f+1)) h))
  refine wa J 1 (YP (σ:=Int) (fun st=>⟨[(0,.S 0),(11,.S 0),(12,.I (c.length:Int)),(13,.I f),(40,.S 4),(41,.I (g.ZF.length:Int)),(42,.I st)],[(1,.abs kx)],[(0,.sl YN c),(4,.sl Xa g.ZF)],8⟩) (fun n st=>MX N f (Qp N c n12) g n st) (r:=r) (fun _=>rfl) ?_ (fun ih=>?_))
  ·intro n14 ih21;intro q h;unfold MX at h;refine Yu J 5 h (fun h=>wa J 2 (Yi [] (j19 () h))) fun h=>?_;refine wO J 6 h fun s t h=>YK J UI t ?_;refine wO J 7 h fun u v h=>Ym (ZwF N s _ v) [] [(0,.sl 9),(1,.sl 10)] ?_;exact wB J 2 h (fun h=>oi h▸wr J 5 func16 []) fun h=>wa J 7 (Yi [] (ih21 (Yh (q+1)) h))
  exact Yi [] (ih N 0 h)
 exact Yi [] (ih N 0 h)
theorem Zxu(d:be)(r:(List Yl)×Int×Int)(h:z9 N d=some r) :
 Fn aB 9 ⟨1,[.c (.s d)],[],[(0,.abs kx)],2,.t [.inl (.sl 1),.inl (.I r.2.1),.inl (.I r.2.2)],[(1,.sl YN r.1)],[(0,.abs kx)]⟩:=Yy func9 rfl fun E F w=>by
 unfold z9 at h;refine wO J 9 h fun e f h=>Ym (ZvW N d _ f) [] [] ?_;refine wB J 14 h (fun h=>oi h▸wr J 9 func9 [(1,.nil)]) fun h=>wa J 12 (YD (σ:=(List Yl)×(List YO)×Int×Int×Int×Int) (fun st=>⟨[(2,.S 3),(6,.B 2 0)],[(0,.abs kx),(2,.box [.sl 4,.I st.2.2.1,.I st.2.2.2.1,.I st.2.2.2.2.1,.I st.2.2.2.2.2] 66),(3,.own YN st.1 true)],[(4,.sl Y2 st.2.1)],5⟩) (fun st=>Zd8 N st.1 st.2.1 st.2.2.1 st.2.2.2.1 st.2.2.2.2.1 st.2.2.2.2.2=some r) ?_ (fun j1=>?_))
 ·rintro⟨g,i,j,k,l,m⟩ h;unfold Zd8 at h;refine wB J 9 h (fun h=>wa J 14 (YL ?_)) fun h=>?_
  ·cases h;exact Xi J func9 [(1,.nil)]
  refine wO J 6 h fun o p h=>Ym (Zm1 N g _ p) [3] [(0,.sl 3),(1,.sl 0)] ?_;exact wB J 2 h (fun h=>oi h▸wr J 7 func9 [(1,.nil)]) fun h=>oi h▸wr J 9 func9 [(1,.sl 3)]
 refine wa J 1 (YP (σ:=(List Yl)×(List YO)×Int×Int×Int×Int) (fun st=>⟨[(2,.S 3),(5,.S 1),(6,.B 2 0)],[(0,.abs kx),(2,.box [.sl 4,.I st.2.2.1,.I st.2.2.2.1,.I st.2.2.2.2.1,.I st.2.2.2.2.2] 66),(3,.own YN st.1 true)],[(1,.sl Y2 e.1),(4,.sl Y2 st.2.1)],5⟩) (fun n st=>Zd9 N e n st.1 st.2.1 st.2.2.1 st.2.2.2.1 st.2.2.2.2.1 st.2.2.2.2.2) (r:=r) (fun _=>rfl) ?_ (fun ih=>?_))
 ·intro n2 ih3;rintro⟨q,u,v,x,y,z⟩ h;unfold Zd9 at h;refine Yu J 11 h (fun h=>wa J 9 (Yi [] (j1 (q,u,v,x,y,z) h))) fun h=>?_;refine Yu J 7 h (fun h=>wa J 2 (Yi [] (j1 (q,u,v,x,y,z) h))) fun h=>?_;refine wO J 6 h fun A C h=>Ym (Zv1 N (⟨u,v,x,y,z⟩:Yw) _ C) [] [(0,.bp 2 0),(1,.sl 4)] (YW J [] Vw ([A.1]:List Yl) ?_);have⟨D,G,h⟩:=ob h;exact Xu J YN G (wa J 3 (Yi [(3,.sl 10),(4,.sl 8)] (ih3 (D,A.2.l',A.2.n',A.2.end',A.2.ZI,A.2.ZJ) h)))
 exact Vh [1] (Yi [(3,.nil),(4,.sl 1)] (ih N (([]:List Yl),e.1,0,(d.size:Int),0,0) h))
theorem ZwJ(c:Yl)(d:Yl)(r:Bool)(h:Zdw N c d=some r) :
 Fn aB 45 ⟨7,[.a [.s c.Zu,.sl 0,.sl 1,.sl 2],.B 3 0],(Xg 0 1 2 c (Xg 4 5 6 d [])),[(3,.box [.s d.Zu,.sl 4,.sl 5,.sl 6] 56)],7,.O r,[],[(3,.box [.s d.Zu,.sl 4,.sl 5,.sl 6] 56)]⟩:=Yy func45 rfl fun E F w=>by
 unfold Zdw at h;exact oi h▸wr J 14 func45 []
theorem Zxn(d:(List Yl))(e:Yl)(r:Int)(h:Zaf N d e=some r) :
 Fn aB 97 ⟨5,[.S 0,.c (.cl 45 [] [1])],((0,.sl YN d)::Xg 2 3 4 e []),[(1,.box [.s e.Zu,.sl 2,.sl 3,.sl 4] 56)],5,.I r,[],[(1,.box [.s e.Zu,.sl 2,.sl 3,.sl 4] 56)]⟩:=Yy func97 rfl fun E F w=>by
 unfold Zaf at h;refine wa J 11 (YD (σ:=Unit) (fun st=>(zz6 e.Zu d e [])) (fun st=>Zd3=some r) ?_ (fun j1=>?_))
 ·intro _ h;unfold Zd3 at h;exact oi h▸wr J 4 func97 []
 refine wa J 1 (YP (σ:=Int) (fun st=>(zz6 e.Zu d e [(0,.S 0),(1,.c (.cl 45 [] [1])),(7,.I (d.length:Int)),(8,.I st)])) (fun n st=>Lt N d e n st) (r:=r) (fun _=>rfl) ?_ (fun ih=>?_))
 ·intro n2 ih3;intro f h;unfold Lt at h;refine Yu J 5 h (fun h=>wa J 2 (Yi [] (j1 () h))) fun h=>?_;refine wO J 14 h fun g i h=>YK J Vw i ?_;refine wO J 1 h fun j k h=>Ym (ZwJ N g e _ k) [] [(0,.sl 6),(1,.sl 7),(2,.sl 8),(3,.bp 1 0),(4,.sl 2),(5,.sl 3),(6,.sl 4)] ?_;exact wB J 1 h (fun h=>oi h▸wr J 6 func97 []) fun h=>wa J 7 (Yi [] (ih3 (Yh (f+1)) h))
 exact Yi [] (ih N 0 h)
theorem ZwH(d:(List Yl))(e:Yl)(r:Bool)(h:Gu N d e=some r) :
 Fn aB 44 ⟨5,[.S 0,.c (.cl 45 [] [1])],((0,.sl YN d)::Xg 2 3 4 e []),[(1,.box [.s e.Zu,.sl 2,.sl 3,.sl 4] 56)],5,.O r,[],[(1,.box [.s e.Zu,.sl 2,.sl 3,.sl 4] 56)]⟩:=Yy func44 rfl fun E F w=>by
 unfold Gu at h;refine wO J 8 h fun f g h=>Ym (Zxn N d e _ g) [] [(0,.sl 0),(1,.bp 1 0),(2,.sl 2),(3,.sl 3),(4,.sl 4)] ?_;exact oi h▸wr J 3 func44 []
theorem Zm8(c:(List be))(d:Int)(r:Bool)(h:Gv N c d=some r) :
 Fn aB 47 ⟨1,[.S 0,.I d],[(0,.sl rS c)],[],1,.O r,[],[]⟩:=Yy func47 rfl fun E F w=>by
 unfold Gv at h;refine wO J 8 h fun e f h=>Dj J rS f ?_;refine wO J 2 h fun g i h=>YK J oS i ?_;refine wO J 1 h fun j k h=>Ym (PA N e g _ k) [] [(0,.sl 1)] (wa J 1 (YL ?_));cases h;exact Xi J func47 []
theorem Zxt(c:Ys)(d:Ys)(r:Bool)(h:Zd7 N c d=some r) :
 Fn aB 99 ⟨5,[.a [.s c.Zu,.sl 0,.sl 1],.B 2 0],(XU 0 1 c (XU 3 4 d [])),[(2,.box [.s d.Zu,.sl 3,.sl 4] 97)],5,.O r,[],[(2,.box [.s d.Zu,.sl 3,.sl 4] 97)]⟩:=Yy func99 rfl fun E F w=>by
 unfold Zd7 at h;exact oi h▸wr J 14 func99 []
theorem ZvA(d:(List Ys))(e:Ys)(r:Int)(h:Be N d e=some r) :
 Fn aB 125 ⟨4,[.S 0,.c (.cl 99 [] [1])],((0,.sl Xa d)::XU 2 3 e []),[(1,.box [.s e.Zu,.sl 2,.sl 3] 97)],4,.I r,[],[(1,.box [.s e.Zu,.sl 2,.sl 3] 97)]⟩:=Yy func125 rfl fun E F w=>by
 unfold Be at h;refine wa J 11 (YD (σ:=Unit) (fun st=>⟨[],[(1,.box [.s e.Zu,.sl 2,.sl 3] 97)],((0,.sl Xa d)::XU 2 3 e []),4⟩) (fun st=>Zcj=some r) ?_ (fun j1=>?_))
 ·intro _ h;unfold Zcj at h;exact oi h▸wr J 4 func125 []
 refine wa J 1 (YP (σ:=Int) (fun st=>⟨[(0,.S 0),(1,.c (.cl 99 [] [1])),(7,.I (d.length:Int)),(8,.I st)],[(1,.box [.s e.Zu,.sl 2,.sl 3] 97)],((0,.sl Xa d)::XU 2 3 e []),4⟩) (fun n st=>MD N d e n st) (r:=r) (fun _=>rfl) ?_ (fun ih=>?_))
 ·intro n2 ih3;intro f h;unfold MD at h;refine Yu J 5 h (fun h=>wa J 2 (Yi [] (j1 () h))) fun h=>?_;refine wO J 14 h fun g i h=>YK J UI i ?_;refine wO J 1 h fun j k h=>Ym (Zxt N g e _ k) [] [(0,.sl 5),(1,.sl 6),(2,.bp 1 0),(3,.sl 2),(4,.sl 3)] ?_;exact wB J 1 h (fun h=>oi h▸wr J 6 func125 []) fun h=>wa J 7 (Yi [] (ih3 (Yh (f+1)) h))
 exact Yi [] (ih N 0 h)
theorem Zxr(d:(List Ys))(e:Ys)(r:Bool)(h:Zaj N d e=some r) :
 Fn aB 98 ⟨4,[.S 0,.c (.cl 99 [] [1])],((0,.sl Xa d)::XU 2 3 e []),[(1,.box [.s e.Zu,.sl 2,.sl 3] 97)],4,.O r,[],[(1,.box [.s e.Zu,.sl 2,.sl 3] 97)]⟩:=Yy func98 rfl fun E F w=>by
 unfold Zaj at h;refine wO J 8 h fun f g h=>Ym (ZvA N d e _ g) [] [(0,.sl 0),(1,.bp 1 0),(2,.sl 2),(3,.sl 3)] ?_;exact oi h▸wr J 3 func98 []
theorem Zvd(c:T3)(d:T3)(r:Bool)(h:ZbZ N c d=some r) :
 Fn aB 101 ⟨1,[.a (V8 c),.B 0 0],[],[(0,.box (V8 d) 138)],1,.O r,[],[(0,.box (V8 d) 138)]⟩:=Yy func101 rfl fun E F w=>by
 unfold ZbZ at h;exact oi h▸wr J 14 func101 []
theorem ZwV(d:(List T3))(e:T3)(r:Int)(h:B3 N d e=some r) :
 Fn aB 58 ⟨2,[.S 0,.c (.cl 101 [] [1])],[(0,.sl XK d)],[(1,.box (V8 e) 138)],2,.I r,[],[(1,.box (V8 e) 138)]⟩:=Yy func58 rfl fun E F w=>by
 unfold B3 at h;refine wa J 11 (YD (σ:=Unit) (fun st=>⟨[],[(1,.box (V8 e) 138)],[(0,.sl XK d)],2⟩) (fun st=>ZdD=some r) ?_ (fun j1=>?_))
 ·intro _ h;unfold ZdD at h;exact oi h▸wr J 4 func58 []
 refine wa J 1 (YP (σ:=Int) (fun st=>⟨[(0,.S 0),(1,.c (.cl 101 [] [1])),(7,.I (d.length:Int)),(8,.I st)],[(1,.box (V8 e) 138)],[(0,.sl XK d)],2⟩) (fun n st=>Ld N d e n st) (r:=r) (fun _=>rfl) ?_ (fun ih=>?_))
 ·intro n2 ih3;intro f h;unfold Ld at h;refine Yu J 5 h (fun h=>wa J 2 (Yi [] (j1 () h))) fun h=>?_;refine wO J 14 h fun g i h=>YK J Sq i ?_;refine wO J 1 h fun j k h=>Ym (Zvd N g e _ k) [] [(0,.bp 1 0)] ?_;exact wB J 1 h (fun h=>oi h▸wr J 6 func58 []) fun h=>wa J 7 (Yi [] (ih3 (Yh (f+1)) h))
 exact Yi [] (ih N 0 h)
theorem Zvc(d:(List T3))(e:T3)(r:Bool)(h:D4 N d e=some r) :
 Fn aB 100 ⟨2,[.S 0,.c (.cl 101 [] [1])],[(0,.sl XK d)],[(1,.box (V8 e) 138)],2,.O r,[],[(1,.box (V8 e) 138)]⟩:=Yy func100 rfl fun E F w=>by
 unfold D4 at h;refine wO J 8 h fun f g h=>Ym (ZwV N d e _ g) [] [(0,.sl 0),(1,.bp 1 0)] ?_;exact oi h▸wr J 3 func100 []
theorem ZvX(c:Ys)(d:Y5)(r:Bool)(h:ZcR N c d=some r) :
 Fn aB 154 ⟨3,[.a [.s c.Zu,.sl 0,.sl 1],.B 2 0],(XU 0 1 c []),[(2,.box (X2 d) 102)],3,.O r,[],[(2,.box (X2 d) 102)]⟩:=Yy func154 rfl fun E F w=>by
 unfold ZcR at h;exact oi h▸wr J 14 func154 []
theorem ZvB(d:(List Ys))(e:Y5)(r:Int)(h:Bf N d e=some r) :
 Fn aB 125 ⟨2,[.S 0,.c (.cl 154 [] [1])],[(0,.sl Xa d)],[(1,.box (X2 e) 102)],2,.I r,[],[(1,.box (X2 e) 102)]⟩:=Yy func125 rfl fun E F w=>by
 unfold Bf at h;refine wa J 11 (YD (σ:=Unit) (fun st=>⟨[],[(1,.box (X2 e) 102)],[(0,.sl Xa d)],2⟩) (fun st=>Zck=some r) ?_ (fun j1=>?_))
 ·intro _ h;unfold Zck at h;exact oi h▸wr J 4 func125 []
 refine wa J 1 (YP (σ:=Int) (fun st=>⟨[(0,.S 0),(1,.c (.cl 154 [] [1])),(7,.I (d.length:Int)),(8,.I st)],[(1,.box (X2 e) 102)],[(0,.sl Xa d)],2⟩) (fun n st=>ME N d e n st) (r:=r) (fun _=>rfl) ?_ (fun ih=>?_))
 ·intro n2 ih3;intro f h;unfold ME at h;refine Yu J 5 h (fun h=>wa J 2 (Yi [] (j1 () h))) fun h=>?_;refine wO J 14 h fun g i h=>YK J UI i ?_;refine wO J 1 h fun j k h=>Ym (ZvX N g e _ k) [] [(0,.sl 3),(1,.sl 4),(2,.bp 1 0)] ?_;exact wB J 1 h (fun h=>oi h▸wr J 6 func125 []) fun h=>wa J 7 (Yi [] (ih3 (Yh (f+1)) h))
 exact Yi [] (ih N 0 h)
theorem ZvY(c:T3)(d:Y5)(r:Bool)(h:ZcS N c d=some r) :
 Fn aB 155 ⟨1,[.a (V8 c),.B 0 0],[],[(0,.box (X2 d) 102)],1,.O r,[],[(0,.box (X2 d) 102)]⟩:=Yy func155 rfl fun E F w=>by
 unfold ZcS at h;exact oi h▸wr J 14 func155 []
theorem ZwW(d:(List T3))(e:Y5)(r:Int)(h:B4 N d e=some r) :
 Fn aB 58 ⟨2,[.S 0,.c (.cl 155 [] [1])],[(0,.sl XK d)],[(1,.box (X2 e) 102)],2,.I r,[],[(1,.box (X2 e) 102)]⟩:=Yy func58 rfl fun E F w=>by
 unfold B4 at h;refine wa J 11 (YD (σ:=Unit) (fun st=>(zz7 e d [])) (fun st=>ZdE=some r) ?_ (fun j1=>?_))
 ·intro _ h;unfold ZdE at h;exact oi h▸wr J 4 func58 []
 refine wa J 1 (YP (σ:=Int) (fun st=>(zz7 e d [(0,.S 0),(1,.c (.cl 155 [] [1])),(7,.I (d.length:Int)),(8,.I st)])) (fun n st=>Le N d e n st) (r:=r) (fun _=>rfl) ?_ (fun ih=>?_))
 ·intro n2 ih3;intro f h;unfold Le at h;refine Yu J 5 h (fun h=>wa J 2 (Yi [] (j1 () h))) fun h=>?_;refine wO J 14 h fun g i h=>YK J Sq i ?_;refine wO J 1 h fun j k h=>Ym (ZvY N g e _ k) [] [(0,.bp 1 0)] ?_;exact wB J 1 h (fun h=>oi h▸wr J 6 func58 []) fun h=>wa J 7 (Yi [] (ih3 (Yh (f+1)) h))
 exact Yi [] (ih N 0 h)
theorem Zve(c:Yp)(d:Ys)(e:Y5)(r:Int)(h:D5 N c d e=some r) :
 Fn aB 102 ⟨8,[.B 0 0,.a [.s d.Zu,.sl 6,.sl 7],.a (X2 e)],(Mm 1 2 3 4 5 c (XU 6 7 d [])),[(0,.box (XP 1 2 3 4 5 c) 125)],8,.I r,[],[(0,.box (XP 1 2 3 4 5 c) 125)]⟩:=Yy func102 rfl fun E F w=>by
 unfold D5 at h;refine wa J 13 (YD (σ:=be×(List T3)×(List Xv)) (fun st=>⟨[(4,.B 8 0),(5,.B 9 0)],[(0,.box (XP 1 2 3 4 5 c) 125),(8,.box [.s st.1,.sl 10,.sl 11] 97),(9,.box (X2 e) 102)],(Mm 1 2 3 4 5 c (XU 6 7 d [(10,.sl XK st.2.1),(11,.sl Sv st.2.2)])),12⟩) (fun st=>HY N e st.1 st.2.1 st.2.2=some r) ?_ (fun j1=>?_))
 ·rintro⟨f,g,i⟩ h;unfold HY at h;refine wO J 5 h fun j k h=>Ym (ZwW N g e _ k) [] [(0,.sl 10),(1,.bp 9 0)] ?_;refine wB J 8 h (fun h=>oi h▸wr J 5 func102 []) fun h=>?_;refine wO J 7 h fun l m h=>YK J Sq m ?_;exact oi h▸wr J 5 func102 []
 refine Wj h (fun h=>wa J 2 (Yi [(10,.sl 6),(11,.sl 7)] (j1 (d.Zu,d.Zz,d.ZA) h))) fun h=>?_;refine wO J 9 h fun o p h=>Ym (ZvB N c.p'.ZF e _ p) [] [(0,.sl 3),(1,.bp 9 0)] ?_;refine wB J 8 h (fun h=>oi h▸wr J 5 func102 []) fun h=>?_;exact wO J 9 h fun q t h=>YK J UI t (wa J 3 (Yi [(10,.sl 11),(11,.sl 12)] (j1 (q.Zu,q.Zz,q.ZA) h)))
theorem Zvf(c:(List YT))(r:(List YT))(h:Zb0 N c=some r) :
 Fn aB 103 ⟨1,[.S 0],[(0,.sl X9 c)],[],2,.S 1,[],[(1,.own X9 r true)]⟩:=Yy func103 rfl fun E F w=>by
 unfold Zb0 at h;refine wa J 8 (eNi X9 c false ?_);intro nb hnb;cases nb
 ·refine wa J 5 (YW J [] TH ([]:List YT) ?_);refine wO J 1 h fun d e h=>Xu J X9 e ?_;exact oi h▸wr J 2 func103 [(1,.sl 2)]
 ·obtain rfl:=hnb rfl;replace h:(some ([]:List YT):Option (List YT))=some r:=h;exact oi h▸wr J 6 func103 [(1,.nil)]
theorem ZvZ(c:Ys)(d:Yj)(r:Bool)(h:ZcT N c d=some r) :
 Fn aB 156 ⟨5,[.a [.s c.Zu,.sl 0,.sl 1],.B 2 0],(XU 0 1 c [(3,.sl rS d.To),(4,.sl (YH Yz) d.ZD)]),[(2,.box [.I d.Zt,.s d.ZB,.sl 3,.s d.Zu,.s d.As,.I d.ZC,.sl 4] 132)],5,.O r,[],[(2,.box [.I d.Zt,.s d.ZB,.sl 3,.s d.Zu,.s d.As,.I d.ZC,.sl 4] 132)]⟩:=Yy func156 rfl fun E F w=>by
 unfold ZcT at h;exact oi h▸wr J 14 func156 []
theorem ZvC(d:(List Ys))(e:Yj)(r:Int)(h:Bg N d e=some r) :
 Fn aB 125 ⟨4,[.S 0,.c (.cl 156 [] [1])],[(0,.sl Xa d),(2,.sl rS e.To),(3,.sl (YH Yz) e.ZD)],[(1,.box [.I e.Zt,.s e.ZB,.sl 2,.s e.Zu,.s e.As,.I e.ZC,.sl 3] 132)],4,.I r,[],[(1,.box [.I e.Zt,.s e.ZB,.sl 2,.s e.Zu,.s e.As,.I e.ZC,.sl 3] 132)]⟩:=Yy func125 rfl fun E F w=>by
 unfold Bg at h;refine wa J 11 (YD (σ:=Unit) (fun st=>(zz8 e.Zt e.ZB e.Zu e.As e.ZC d e.To e.ZD [])) (fun st=>Zcl=some r) ?_ (fun j1=>?_))
 ·intro _ h;unfold Zcl at h;exact oi h▸wr J 4 func125 []
 refine wa J 1 (YP (σ:=Int) (fun st=>(zz8 e.Zt e.ZB e.Zu e.As e.ZC d e.To e.ZD [(0,.S 0),(1,.c (.cl 156 [] [1])),(7,.I (d.length:Int)),(8,.I st)])) (fun n st=>MF N d e n st) (r:=r) (fun _=>rfl) ?_ (fun ih=>?_))
 ·intro n2 ih3;intro f h;unfold MF at h;refine Yu J 5 h (fun h=>wa J 2 (Yi [] (j1 () h))) fun h=>?_;refine wO J 14 h fun g i h=>YK J UI i ?_;refine wO J 1 h fun j k h=>Ym (ZvZ N g e _ k) [] [(0,.sl 5),(1,.sl 6),(2,.bp 1 0),(3,.sl 2),(4,.sl 3)] ?_;exact wB J 1 h (fun h=>oi h▸wr J 6 func125 []) fun h=>wa J 7 (Yi [] (ih3 (Yh (f+1)) h))
 exact Yi [] (ih N 0 h)
theorem Zxs(d:(List Ys))(e:Yj)(r:Bool)(h:Zak N d e=some r) :
 Fn aB 98 ⟨4,[.S 0,.c (.cl 156 [] [1])],[(0,.sl Xa d),(2,.sl rS e.To),(3,.sl (YH Yz) e.ZD)],[(1,.box [.I e.Zt,.s e.ZB,.sl 2,.s e.Zu,.s e.As,.I e.ZC,.sl 3] 132)],4,.O r,[],[(1,.box [.I e.Zt,.s e.ZB,.sl 2,.s e.Zu,.s e.As,.I e.ZC,.sl 3] 132)]⟩:=Yy func98 rfl fun E F w=>by
 unfold Zak at h;refine wO J 8 h fun f g h=>Ym (ZvC N d e _ g) [] [(0,.sl 0),(1,.bp 1 0),(2,.sl 2),(3,.sl 3)] ?_;exact oi h▸wr J 3 func98 []
theorem Zvi(c:YT)(d:Yj)(r:Bool)(h:Zb1 N c d=some r) :
 Fn aB 107 ⟨3,[.a (Zib c),.B 0 0],[(1,.sl rS d.To),(2,.sl (YH Yz) d.ZD)],[(0,.box [.I d.Zt,.s d.ZB,.sl 1,.s d.Zu,.s d.As,.I d.ZC,.sl 2] 132)],3,.O r,[],[(0,.box [.I d.Zt,.s d.ZB,.sl 1,.s d.Zu,.s d.As,.I d.ZC,.sl 2] 132)]⟩:=Yy func107 rfl fun E F w=>by
 unfold Zb1 at h;exact oi h▸wr J 14 func107 []
theorem Zvj(d:(List YT))(e:Yj)(r:Int)(h:D8 N d e=some r) :
 Fn aB 108 ⟨4,[.S 0,.c (.cl 107 [] [1])],[(0,.sl X9 d),(2,.sl rS e.To),(3,.sl (YH Yz) e.ZD)],[(1,.box [.I e.Zt,.s e.ZB,.sl 2,.s e.Zu,.s e.As,.I e.ZC,.sl 3] 132)],4,.I r,[],[(1,.box [.I e.Zt,.s e.ZB,.sl 2,.s e.Zu,.s e.As,.I e.ZC,.sl 3] 132)]⟩:=Yy func108 rfl fun E F w=>by
 unfold D8 at h;refine wa J 11 (YD (σ:=Unit) (fun st=>(zz9 e.Zt e.ZB e.Zu e.As e.ZC d e.To e.ZD [])) (fun st=>Zb2=some r) ?_ (fun j1=>?_))
 ·intro _ h;unfold Zb2 at h;exact oi h▸wr J 4 func108 []
 refine wa J 1 (YP (σ:=Int) (fun st=>(zz9 e.Zt e.ZB e.Zu e.As e.ZC d e.To e.ZD [(0,.S 0),(1,.c (.cl 107 [] [1])),(7,.I (d.length:Int)),(8,.I st)])) (fun n st=>Mt N d e n st) (r:=r) (fun _=>rfl) ?_ (fun ih=>?_))
 ·intro n2 ih3;intro f h;unfold Mt at h;refine Yu J 5 h (fun h=>wa J 2 (Yi [] (j1 () h))) fun h=>?_;refine wO J 14 h fun g i h=>YK J TH i ?_;refine wO J 1 h fun j k h=>Ym (Zvi N g e _ k) [] [(0,.bp 1 0),(1,.sl 2),(2,.sl 3)] ?_;exact wB J 1 h (fun h=>oi h▸wr J 6 func108 []) fun h=>wa J 7 (Yi [] (ih3 (Yh (f+1)) h))
 exact Yi [] (ih N 0 h)
theorem Zvh(d:(List YT))(e:Yj)(r:Bool)(h:D7 N d e=some r) :
 Fn aB 106 ⟨4,[.S 0,.c (.cl 107 [] [1])],[(0,.sl X9 d),(2,.sl rS e.To),(3,.sl (YH Yz) e.ZD)],[(1,.box [.I e.Zt,.s e.ZB,.sl 2,.s e.Zu,.s e.As,.I e.ZC,.sl 3] 132)],4,.O r,[],[(1,.box [.I e.Zt,.s e.ZB,.sl 2,.s e.Zu,.s e.As,.I e.ZC,.sl 3] 132)]⟩:=Yy func106 rfl fun E F w=>by
 unfold D7 at h;refine wO J 8 h fun f g h=>Ym (Zvj N d e _ g) [] [(0,.sl 0),(1,.bp 1 0),(2,.sl 2),(3,.sl 3)] ?_;exact oi h▸wr J 3 func106 []
theorem Zvl(c:YT)(d:Yj)(r:Bool)(h:Zb4 N c d=some r) :
 Fn aB 109 ⟨3,[.a (Zib c),.B 0 0],[(1,.sl rS d.To),(2,.sl (YH Yz) d.ZD)],[(0,.box [.I d.Zt,.s d.ZB,.sl 1,.s d.Zu,.s d.As,.I d.ZC,.sl 2] 132)],3,.O r,[],[(0,.box [.I d.Zt,.s d.ZB,.sl 1,.s d.Zu,.s d.As,.I d.ZC,.sl 2] 132)]⟩:=Yy func109 rfl fun E F w=>by
 unfold Zb4 at h;exact wB J 13 h (fun h=>oi h▸wr J 6 func109 []) fun h=>oi h▸wr J 6 func109 []
theorem Zvk(d:(List YT))(e:Yj)(r:Int)(h:D9 N d e=some r) :
 Fn aB 108 ⟨4,[.S 0,.c (.cl 109 [] [1])],[(0,.sl X9 d),(2,.sl rS e.To),(3,.sl (YH Yz) e.ZD)],[(1,.box [.I e.Zt,.s e.ZB,.sl 2,.s e.Zu,.s e.As,.I e.ZC,.sl 3] 132)],4,.I r,[],[(1,.box [.I e.Zt,.s e.ZB,.sl 2,.s e.Zu,.s e.As,.I e.ZC,.sl 3] 132)]⟩:=Yy func108 rfl fun E F w=>by
 unfold D9 at h;refine wa J 11 (YD (σ:=Unit) (fun st=>(zz9 e.Zt e.ZB e.Zu e.As e.ZC d e.To e.ZD [])) (fun st=>Zb3=some r) ?_ (fun j1=>?_))
 ·intro _ h;unfold Zb3 at h;exact oi h▸wr J 4 func108 []
 refine wa J 1 (YP (σ:=Int) (fun st=>(zz9 e.Zt e.ZB e.Zu e.As e.ZC d e.To e.ZD [(0,.S 0),(1,.c (.cl 109 [] [1])),(7,.I (d.length:Int)),(8,.I st)])) (fun n st=>Mu N d e n st) (r:=r) (fun _=>rfl) ?_ (fun ih=>?_))
 ·intro n2 ih3;intro f h;unfold Mu at h;refine Yu J 5 h (fun h=>wa J 2 (Yi [] (j1 () h))) fun h=>?_;refine wO J 14 h fun g i h=>YK J TH i ?_;refine wO J 1 h fun j k h=>Ym (Zvl N g e _ k) [] [(0,.bp 1 0),(1,.sl 2),(2,.sl 3)] ?_;exact wB J 1 h (fun h=>oi h▸wr J 6 func108 []) fun h=>wa J 7 (Yi [] (ih3 (Yh (f+1)) h))
 exact Yi [] (ih N 0 h)
theorem Zv0(c:Yl)(d:Yj)(r:Bool)(h:ZcU N c d=some r) :
 Fn aB 157 ⟨6,[.a [.s c.Zu,.sl 0,.sl 1,.sl 2],.B 3 0],(Xg 0 1 2 c [(4,.sl rS d.To),(5,.sl (YH Yz) d.ZD)]),[(3,.box [.I d.Zt,.s d.ZB,.sl 4,.s d.Zu,.s d.As,.I d.ZC,.sl 5] 132)],6,.O r,[],[(3,.box [.I d.Zt,.s d.ZB,.sl 4,.s d.Zu,.s d.As,.I d.ZC,.sl 5] 132)]⟩:=Yy func157 rfl fun E F w=>by
 unfold ZcU at h;exact oi h▸wr J 14 func157 []
theorem Zxo(d:(List Yl))(e:Yj)(r:Int)(h:Zag N d e=some r) :
 Fn aB 97 ⟨4,[.S 0,.c (.cl 157 [] [1])],[(0,.sl YN d),(2,.sl rS e.To),(3,.sl (YH Yz) e.ZD)],[(1,.box [.I e.Zt,.s e.ZB,.sl 2,.s e.Zu,.s e.As,.I e.ZC,.sl 3] 132)],4,.I r,[],[(1,.box [.I e.Zt,.s e.ZB,.sl 2,.s e.Zu,.s e.As,.I e.ZC,.sl 3] 132)]⟩:=Yy func97 rfl fun E F w=>by
 unfold Zag at h;refine wa J 11 (YD (σ:=Unit) (fun st=>⟨[],[(1,.box [.I e.Zt,.s e.ZB,.sl 2,.s e.Zu,.s e.As,.I e.ZC,.sl 3] 132)],[(0,.sl YN d),(2,.sl rS e.To),(3,.sl (YH Yz) e.ZD)],4⟩) (fun st=>Zd4=some r) ?_ (fun j1=>?_))
 ·intro _ h;unfold Zd4 at h;exact oi h▸wr J 4 func97 []
 refine wa J 1 (YP (σ:=Int) (fun st=>⟨[(0,.S 0),(1,.c (.cl 157 [] [1])),(7,.I (d.length:Int)),(8,.I st)],[(1,.box [.I e.Zt,.s e.ZB,.sl 2,.s e.Zu,.s e.As,.I e.ZC,.sl 3] 132)],[(0,.sl YN d),(2,.sl rS e.To),(3,.sl (YH Yz) e.ZD)],4⟩) (fun n st=>Lu N d e n st) (r:=r) (fun _=>rfl) ?_ (fun ih=>?_))
 ·intro n2 ih3;intro f h;unfold Lu at h;refine Yu J 5 h (fun h=>wa J 2 (Yi [] (j1 () h))) fun h=>?_;refine wO J 14 h fun g i h=>YK J Vw i ?_;refine wO J 1 h fun j k h=>Ym (Zv0 N g e _ k) [] [(0,.sl 5),(1,.sl 6),(2,.sl 7),(3,.bp 1 0),(4,.sl 2),(5,.sl 3)] ?_;exact wB J 1 h (fun h=>oi h▸wr J 6 func97 []) fun h=>wa J 7 (Yi [] (ih3 (Yh (f+1)) h))
 exact Yi [] (ih N 0 h)
theorem Wv(d:Yp)(e:be)(f:Int)(r:Yp)(h:z46 N d e f=some r) :
 Fn aB 46 ⟨6,[.B 0 0,.c (.s e),.I f],((1,.sl YN d.Z2)::Xg 2 3 4 d.p' []),[(0,.box (XP 1 2 3 4 5 d) 125),(5,.own rS d.Z3 false)],11,.t [],((6,.sl YN r.Z2)::Xg 7 8 9 r.p' []),[(5,.gone),(10,.own rS r.Z3 false),(0,.box (XP 6 7 8 9 10 r) 125)]⟩:=Yy func46 rfl fun E F w=>by
 unfold z46 at h;exact wB J 9 h (fun h=>oi h▸wr J 15 func46 [(6,.sl 1),(7,.sl 2),(8,.sl 3),(9,.sl 4),(10,.sl 5)]) fun h=>oi h▸wr J 2 func46 [(6,.sl 1),(7,.sl 2),(8,.sl 3),(9,.sl 4),(10,.sl 5)]
theorem ZgG(c:Yp)(d:(List be))(e:Int)(r:Yp)(h:Ms N c d e=some r) :
 Fn aB 105 ⟨7,[.B 0 0,.S 6,.I e],((1,.sl YN c.Z2)::Xg 2 3 4 c.p' [(6,.sl rS d)]),[(0,.box (XP 1 2 3 4 5 c) 125),(5,.own rS c.Z3 false)],12,.t [],((7,.sl YN r.Z2)::Xg 8 9 10 r.p' []),[(5,.gone),(11,.own rS r.Z3 false),(0,.box (XP 7 8 9 10 11 r) 125)]⟩:=Yy func105 rfl fun E F w=>by
 unfold Ms at h;refine wO J 9 h fun f g h=>YK J oS g ?_;refine wO J 1 h fun i j h=>Ym (PA N c.p'.ZE f _ j) [] [(0,.sl 2)] ?_;refine wB J 2 h (fun h=>wa J 4 (YL ?_)) fun h=>?_
 ·refine wO J 5 h fun k l h=>YK J oS l ?_;refine wO J 1 h fun m o h=>Ym (Wv N c k 12 _ o) [] [(0,.bp 0 0),(1,.sl 1),(2,.sl 2),(3,.sl 3),(4,.sl 4),(5,.sl 5)] ?_;exact oi h▸wr J 1 func105 [(7,.sl 9),(8,.sl 10),(9,.sl 11),(10,.sl 12),(11,.sl 13)]
 refine wO J 2 h fun p q h=>Ym (Zm8 N d e _ q) [] [(0,.sl 6)] (wa J 1 (YL ?_));refine Wj h (fun h=>oi h▸wr J 2 func105 [(7,.sl 1),(8,.sl 2),(9,.sl 3),(10,.sl 4),(11,.sl 5)]) fun h=>?_;refine wO J 5 h fun s u h=>YK J oS u ?_;refine wO J 1 h fun v x h=>Ym (Wv N c s 12 _ x) [] [(0,.bp 0 0),(1,.sl 1),(2,.sl 2),(3,.sl 3),(4,.sl 4),(5,.sl 5)] ?_;exact oi h▸wr J 1 func105 [(7,.sl 9),(8,.sl 10),(9,.sl 11),(10,.sl 12),(11,.sl 13)]
theorem Zvm(c:Yp)(d:Yj)(r:Yp)(h:Bb N c d=some r) :
 Fn aB 110 ⟨8,[.B 0 0,.a [.I d.Zt,.s d.ZB,.sl 6,.s d.Zu,.s d.As,.I d.ZC,.sl 7]],((1,.sl YN c.Z2)::Xg 2 3 4 c.p' [(6,.sl rS d.To),(7,.sl (YH Yz) d.ZD)]),[(0,.box (XP 1 2 3 4 5 c) 125),(5,.own rS c.Z3 false)],13,.t [],((8,.sl YN r.Z2)::Xg 9 10 11 r.p' []),[(5,.gone),(12,.own rS r.Z3 false),(0,.box (XP 8 9 10 11 12 r) 125)]⟩:=Yy func110 rfl fun E F w=>by
 unfold Bb at h;refine wO J 11 h fun e f h=>Ym (Zxo N c.Z2 d _ f) [] [(0,.sl 1),(1,.bp 8 0),(2,.sl 6),(3,.sl 7)] ?_;refine wB J 8 h (fun h=>?_) fun h=>?_
 ·refine wO J 6 h fun g i h=>Ym (Wv N c d.Zu 10 _ i) [] [(0,.bp 0 0),(1,.sl 1),(2,.sl 2),(3,.sl 3),(4,.sl 4),(5,.sl 5)] ?_;exact oi h▸wr J 1 func110 [(8,.sl 9),(9,.sl 10),(10,.sl 11),(11,.sl 12),(12,.sl 13)]
 refine wO J 10 h fun j k h=>YK J Vw k (wa J 7 (YL (YD (σ:=(List Yl)×be×(List be)×(List Ys)×(List Yj)×(List be)×be×be×Int) (fun st=>⟨[(0,.B 0 0),(3,.B 8 0)],[(0,.box [.sl 13,.s st.2.1,.sl 14,.sl 15,.sl 16,.sl 17,.s st.2.2.2.2.2.2.1,.s st.2.2.2.2.2.2.2.1,.I st.2.2.2.2.2.2.2.2] 125),(8,.box [.I d.Zt,.s d.ZB,.sl 6,.s d.Zu,.s d.As,.I d.ZC,.sl 7] 132),(17,.own rS st.2.2.2.2.2.1 false)],((1,.sl YN c.Z2)::Xg 2 3 4 c.p' [(6,.sl rS d.To),(7,.sl (YH Yz) d.ZD),(13,.sl YN st.1),(14,.sl rS st.2.2.1),(15,.sl Xa st.2.2.2.1),(16,.sl Yz st.2.2.2.2.1)]),18⟩) (fun st=>H2 N d st.1 st.2.1 st.2.2.1 st.2.2.2.1 st.2.2.2.2.1 st.2.2.2.2.2.1 st.2.2.2.2.2.2.1 st.2.2.2.2.2.2.2.1 st.2.2.2.2.2.2.2.2=some r) ?_ (fun j1=>?_))))
 ·rintro⟨l,m,o,p,q,u,v,x,y⟩ h;unfold H2 at h;refine wa J 8 (YD (σ:=(List Yl)×be×(List be)×(List Ys)×(List Yj)×(List be)×be×be×Int) (fun st=>(Znx st.2.1 st.2.2.2.2.2.2.1 st.2.2.2.2.2.2.2.1 st.2.2.2.2.2.2.2.2 d.Zt d.ZB d.Zu d.As d.ZC st.2.2.2.2.2.1 c.Z2 c.p' d.To d.ZD st.1 st.2.2.1 st.2.2.2.1 st.2.2.2.2.1 [(0,.B 0 0),(3,.B 8 0)])) (fun st=>Mv N d st.1 st.2.1 st.2.2.1 st.2.2.2.1 st.2.2.2.2.1 st.2.2.2.2.2.1 st.2.2.2.2.2.2.1 st.2.2.2.2.2.2.2.1 st.2.2.2.2.2.2.2.2=some r) ?_ (fun j2=>?_))
  ·rintro⟨z,A,C,D,G,H,R,T,U⟩ h;unfold Mv at h;refine wO J 9 h fun X Y h=>Wp (PA N H d.As _ Y) [] [(0,.sl 22)] [22] (.inr ⟨rfl,trivial⟩) (YL ?_);refine Wj h (fun h=>wa J 10 (YW J [] oS ([d.As]:List be) ?_)) fun h=>?_
   ·have⟨Z,a0,h⟩:=ob h;refine Xu J rS a0 (wa J 3 (YL ?_));cases h;exact Xi J func110 [(8,.sl 18),(9,.sl 19),(10,.sl 20),(11,.sl 21),(12,.sl 24)]
   refine wO J 5 h fun b0 c0 h=>Ym (Wv N (⟨z,(⟨A,C,D,G⟩:Yl),H,(⟨R,T,U⟩:Y6)⟩:Yp) d.As 9 _ c0) [] [(0,.bp 0 0),(1,.sl 18),(2,.sl 19),(3,.sl 20),(4,.sl 21),(5,.sl 22)] (wa J 9 (YW J [] oS ([d.As]:List be) ?_));have⟨e0,g0,h⟩:=ob h;refine Xu J rS g0 (wa J 3 (YL ?_));cases h;exact Xi J func110 [(8,.sl 23),(9,.sl 24),(10,.sl 25),(11,.sl 26),(12,.sl 29)]
  refine wa J 1 (YP (σ:=(List Yl)×be×(List be)×(List Ys)×(List Yj)×(List be)×be×be×Int×Int) (fun st=>(Znx st.2.1 st.2.2.2.2.2.2.1 st.2.2.2.2.2.2.2.1 st.2.2.2.2.2.2.2.2.1 d.Zt d.ZB d.Zu d.As d.ZC st.2.2.2.2.2.1 c.Z2 c.p' d.To d.ZD st.1 st.2.2.1 st.2.2.2.1 st.2.2.2.2.1 [(0,.B 0 0),(3,.B 8 0),(37,.I (d.To.length:Int)),(38,.I st.2.2.2.2.2.2.2.2.2)])) (fun n st=>Mw N d n st.1 st.2.1 st.2.2.1 st.2.2.2.1 st.2.2.2.2.1 st.2.2.2.2.2.1 st.2.2.2.2.2.2.1 st.2.2.2.2.2.2.2.1 st.2.2.2.2.2.2.2.2.1 st.2.2.2.2.2.2.2.2.2) (r:=r) (fun _=>rfl) ?_ (fun ih=>?_))
  ·intro n2 ih4;rintro⟨i0,j0,k0,l0,m0,o0,p0,q0,s0,t0⟩ h;unfold Mw at h;refine Yu J 5 h (fun h=>wa J 2 (Yi [] (j2 (i0,j0,k0,l0,m0,o0,p0,q0,s0) h))) fun h=>?_;exact wO J 14 h fun u0 v0 h=>Ym (ZgG N (⟨i0,(⟨j0,k0,l0,m0⟩:Yl),o0,(⟨p0,q0,s0⟩:Y6)⟩:Yp) d.To t0 _ v0) [] [(0,.bp 0 0),(1,.sl 18),(2,.sl 19),(3,.sl 20),(4,.sl 21),(5,.sl 22),(6,.sl 6)] (wa J 6 (Yi [(18,.sl 23),(19,.sl 24),(20,.sl 25),(21,.sl 26),(22,.sl 27)] (ih4 (u0.Z2,u0.p'.Zu,u0.p'.ZE,u0.p'.ZF,u0.p'.ZG,u0.Z3,u0.Z4.ZY,u0.Z4.Zu,u0.Z4.ZZ,(Yh (t0+1))) h)))
  exact Yi [(18,.sl 13),(19,.sl 14),(20,.sl 15),(21,.sl 16),(22,.sl 17)] (ih N (l,m,o,p,q,u,v,x,y,0) h)
 refine Wj h (fun h=>wa J 2 (Yi [(13,.sl 1),(14,.sl 2),(15,.sl 3),(16,.sl 4),(17,.sl 5)] (j1 (c.Z2,c.p'.Zu,c.p'.ZE,c.p'.ZF,c.p'.ZG,c.Z3,c.Z4.ZY,c.Z4.Zu,c.Z4.ZZ) h))) fun h=>?_;exact wO J 5 h fun x0 y0 h=>Ym (Wv N c d.Zu 1 _ y0) [] [(0,.bp 0 0),(1,.sl 1),(2,.sl 2),(3,.sl 3),(4,.sl 4),(5,.sl 5)] (wa J 1 (Yi [] (j1 (x0.Z2,x0.p'.Zu,x0.p'.ZE,x0.p'.ZF,x0.p'.ZG,x0.Z3,x0.Z4.ZY,x0.Z4.Zu,x0.Z4.ZZ) h)))
theorem Zvg(c:Yp)(d:Yj)(r:Yp)(h:D6 N c d=some r) :
 Fn aB 104 ⟨8,[.B 0 0,.a [.I d.Zt,.s d.ZB,.sl 6,.s d.Zu,.s d.As,.I d.ZC,.sl 7]],((1,.sl YN c.Z2)::Xg 2 3 4 c.p' [(6,.sl rS d.To),(7,.sl (YH Yz) d.ZD)]),[(0,.box (XP 1 2 3 4 5 c) 125),(5,.own rS c.Z3 false)],13,.t [],((8,.sl YN r.Z2)::Xg 9 10 11 r.p' []),[(5,.gone),(12,.own rS r.Z3 false),(0,.box (XP 8 9 10 11 12 r) 125)]⟩:=Yy func104 rfl fun E F w=>by
 unfold D6 at h;refine wa J 8 (YW J [] oS ([d.ZB]:List be) ?_);refine wO J 2 h fun e f h=>Xu J rS f (wa J 9 (YD (σ:=(List Yl)×be×(List be)×(List Ys)×(List Yj)×(List be)×be×be×Int) (fun st=>⟨[(0,.B 0 0),(3,.B 8 0)],[(0,.box [.sl 11,.s st.2.1,.sl 12,.sl 13,.sl 14,.sl 15,.s st.2.2.2.2.2.2.1,.s st.2.2.2.2.2.2.2.1,.I st.2.2.2.2.2.2.2.2] 125),(8,.box [.I d.Zt,.s d.ZB,.sl 6,.s d.Zu,.s d.As,.I d.ZC,.sl 7] 132),(15,.own rS st.2.2.2.2.2.1 false)],((1,.sl YN c.Z2)::Xg 2 3 4 c.p' [(6,.sl rS d.To),(7,.sl (YH Yz) d.ZD),(11,.sl YN st.1),(12,.sl rS st.2.2.1),(13,.sl Xa st.2.2.2.1),(14,.sl Yz st.2.2.2.2.1)]),16⟩) (fun st=>HZ N d st.1 st.2.1 st.2.2.1 st.2.2.2.1 st.2.2.2.2.1 st.2.2.2.2.2.1 st.2.2.2.2.2.2.1 st.2.2.2.2.2.2.2.1 st.2.2.2.2.2.2.2.2=some r) ?_ (fun j1=>?_)))
 ·rintro⟨g,i,j,k,l,m,o,p,q⟩ h;unfold HZ at h;refine wO J 8 h fun u v h=>Ym (Zxs N k d _ v) [] [(0,.sl 13),(1,.bp 8 0),(2,.sl 6),(3,.sl 7)] ?_;refine Yu J 2 h (fun h=>oi h▸wr J 2 func104 [(8,.sl 11),(9,.sl 12),(10,.sl 13),(11,.sl 14),(12,.sl 15)]) fun h=>?_;refine wO J 5 h fun x y h=>Ym (Wv N (⟨g,(⟨i,j,k,l⟩:Yl),m,(⟨o,p,q⟩:Y6)⟩:Yp) d.Zu 10 _ y) [] [(0,.bp 0 0),(1,.sl 11),(2,.sl 12),(3,.sl 13),(4,.sl 14),(5,.sl 15)] ?_;exact oi h▸wr J 1 func104 [(8,.sl 16),(9,.sl 17),(10,.sl 18),(11,.sl 19),(12,.sl 20)]
 refine wa J 1 (YP (σ:=(List Yl)×be×(List be)×(List Ys)×(List Yj)×(List be)×be×be×Int×Int) (fun st=>⟨[(0,.B 0 0),(3,.B 8 0),(4,.S 10),(13,.I (e.length:Int)),(14,.I st.2.2.2.2.2.2.2.2.2)],[(0,.box [.sl 11,.s st.2.1,.sl 12,.sl 13,.sl 14,.sl 15,.s st.2.2.2.2.2.2.1,.s st.2.2.2.2.2.2.2.1,.I st.2.2.2.2.2.2.2.2.1] 125),(8,.box [.I d.Zt,.s d.ZB,.sl 6,.s d.Zu,.s d.As,.I d.ZC,.sl 7] 132),(15,.own rS st.2.2.2.2.2.1 false)],((1,.sl YN c.Z2)::Xg 2 3 4 c.p' [(6,.sl rS d.To),(7,.sl (YH Yz) d.ZD),(10,.sl rS e),(11,.sl YN st.1),(12,.sl rS st.2.2.1),(13,.sl Xa st.2.2.2.1),(14,.sl Yz st.2.2.2.2.1)]),16⟩) (fun n st=>Mr N d e n st.1 st.2.1 st.2.2.1 st.2.2.2.1 st.2.2.2.2.1 st.2.2.2.2.2.1 st.2.2.2.2.2.2.1 st.2.2.2.2.2.2.2.1 st.2.2.2.2.2.2.2.2.1 st.2.2.2.2.2.2.2.2.2) (r:=r) (fun _=>rfl) ?_ (fun ih=>?_))
 ·intro n2 ih3;rintro⟨z,A,C,D,G,H,R,T,U,X⟩ h;unfold Mr at h;refine Yu J 5 h (fun h=>wa J 2 (Yi [] (j1 (z,A,C,D,G,H,R,T,U) h))) fun h=>?_;exact wO J 13 h fun Y Z h=>Ym (ZgG N (⟨z,(⟨A,C,D,G⟩:Yl),H,(⟨R,T,U⟩:Y6)⟩:Yp) e X _ Z) [] [(0,.bp 0 0),(1,.sl 11),(2,.sl 12),(3,.sl 13),(4,.sl 14),(5,.sl 15),(6,.sl 10)] (wa J 6 (Yi [(11,.sl 16),(12,.sl 17),(13,.sl 18),(14,.sl 19),(15,.sl 20)] (ih3 (Y.Z2,Y.p'.Zu,Y.p'.ZE,Y.p'.ZF,Y.p'.ZG,Y.Z3,Y.Z4.ZY,Y.Z4.Zu,Y.Z4.ZZ,(Yh (X+1))) h)))
 exact Vh [10] (Yi [(11,.sl 1),(12,.sl 2),(13,.sl 3),(14,.sl 4),(15,.sl 5)] (ih N (c.Z2,c.p'.Zu,c.p'.ZE,c.p'.ZF,c.p'.ZG,c.Z3,c.Z4.ZY,c.Z4.Zu,c.Z4.ZZ,0) h))
theorem ZwM(rc:Yp->(List Yj)->(List YT)->Option Yp)(rcT:(∀(c:Yp) (d:(List Yj)) (e:(List YT)) (r:Yp),rc c d e=some r->Fn aB 50 ⟨8,[.B 0 0,.S 6,.S 7],((1,.sl YN c.Z2)::Xg 2 3 4 c.p' [(6,.sl Yz d),(7,.sl X9 e)]),[(0,.box (XP 1 2 3 4 5 c) 125),(5,.own rS c.Z3 false)],13,.t [],((8,.sl YN r.Z2)::Xg 9 10 11 r.p' []),[(5,.gone),(12,.own rS r.Z3 false),(0,.box (XP 8 9 10 11 12 r) 125)]⟩))(c:Yp)(d:(List Yj))(e:(List YT))(r:Yp)(h:BU N rc c d e=some r) :
 Fn aB 50 ⟨8,[.B 0 0,.S 6,.S 7],((1,.sl YN c.Z2)::Xg 2 3 4 c.p' [(6,.sl Yz d),(7,.sl X9 e)]),[(0,.box (XP 1 2 3 4 5 c) 125),(5,.own rS c.Z3 false)],13,.t [],((8,.sl YN r.Z2)::Xg 9 10 11 r.p' []),[(5,.gone),(12,.own rS r.Z3 false),(0,.box (XP 8 9 10 11 12 r) 125)]⟩:=Yy func50 rfl fun E F w=>by
 unfold BU at h;refine wa J 6 (YD (σ:=(List Yl)×be×(List be)×(List Ys)×(List Yj)×(List be)×be×be×Int) (fun st=>(Zny st.2.1 st.2.2.2.2.2.2.1 st.2.2.2.2.2.2.2.1 st.2.2.2.2.2.2.2.2 st.2.2.2.2.2.1 c.Z2 c.p' d e st.1 st.2.2.1 st.2.2.2.1 st.2.2.2.2.1 [])) (fun st=>BV st.1 st.2.1 st.2.2.1 st.2.2.2.1 st.2.2.2.2.1 st.2.2.2.2.2.1 st.2.2.2.2.2.2.1 st.2.2.2.2.2.2.2.1 st.2.2.2.2.2.2.2.2=some r) ?_ (fun j1=>?_))
 ·rintro⟨f,g,i,j,k,l,m,o,p⟩ h;unfold BV at h;cases h;exact Xi J func50 [(8,.sl 8),(9,.sl 9),(10,.sl 10),(11,.sl 11),(12,.sl 12)]
 refine wa J 1 (YP (σ:=(List Yl)×be×(List be)×(List Ys)×(List Yj)×(List be)×be×be×Int×Int) (fun st=>(Zny st.2.1 st.2.2.2.2.2.2.1 st.2.2.2.2.2.2.2.1 st.2.2.2.2.2.2.2.2.1 st.2.2.2.2.2.1 c.Z2 c.p' d e st.1 st.2.2.1 st.2.2.2.1 st.2.2.2.2.1 [(0,.B 0 0),(1,.S 6),(2,.S 7),(14,.S 6),(15,.I (d.length:Int)),(16,.I st.2.2.2.2.2.2.2.2.2)])) (fun n st=>VL N rc d e n st.1 st.2.1 st.2.2.1 st.2.2.2.1 st.2.2.2.2.1 st.2.2.2.2.2.1 st.2.2.2.2.2.2.1 st.2.2.2.2.2.2.2.1 st.2.2.2.2.2.2.2.2.1 st.2.2.2.2.2.2.2.2.2) (r:=r) (fun _=>rfl) ?_ (fun ih=>?_))
 ·intro n32 ih33;rintro⟨q,u,v,x,y,z,A,C,D,G⟩ h;unfold VL at h;refine Yu J 5 h (fun h=>wa J 2 (Yi [] (j1 (q,u,v,x,y,z,A,C,D) h))) fun h=>?_;refine wO J 7 h fun H R h=>YK J R7 R ?_;refine wO J 8 h fun T U h=>Ym (Zvf N e _ U) [] [(0,.sl 7)] (wa J 9 (YD (σ:=(List YT)) (fun st=>(Znz u A C D z H.Zt H.ZB H.Zu H.As H.ZC st c.Z2 c.p' d e q v x y H.To H.ZD [(0,.B 0 0),(1,.S 6),(2,.S 7),(7,.B 16 0),(8,.S 17),(14,.S 6),(15,.I (d.length:Int)),(16,.I G)])) (fun st=>GF N rc q u v x y z A C D G (VL N rc d e n32) H st=some r) ?_ (fun j54=>?_)))
  ·intro X h;unfold GF at h;refine wa J 12 (YD (σ:=(List Yl)×be×(List be)×(List Ys)×(List Yj)×(List be)×be×be×Int×(List YT)) (fun st=>(ZhA st.2.1 st.2.2.2.2.2.2.1 st.2.2.2.2.2.2.2.1 st.2.2.2.2.2.2.2.2.1 H.Zt H.ZB H.Zu H.As H.ZC st.2.2.2.2.2.1 st.2.2.2.2.2.2.2.2.2 c.Z2 c.p' d e H.To H.ZD st.1 st.2.2.1 st.2.2.2.1 st.2.2.2.2.1 [(0,.B 0 0),(1,.S 6),(2,.S 7),(7,.B 16 0),(8,.S 23),(14,.S 6),(15,.I (d.length:Int)),(16,.I G)])) (fun st=>UT N rc G (VL N rc d e n32) H st.1 st.2.1 st.2.2.1 st.2.2.2.1 st.2.2.2.2.1 st.2.2.2.2.2.1 st.2.2.2.2.2.2.1 st.2.2.2.2.2.2.2.1 st.2.2.2.2.2.2.2.2.1 st.2.2.2.2.2.2.2.2.2=some r) ?_ (fun j56=>?_))
   ·rintro⟨Y,Z,a0,b0,c0,e0,g0,i0,j0,k0⟩ h;unfold UT at h;refine wa J 8 (YD (σ:=(List YT)) (fun st=>(ZhA Z g0 i0 j0 H.Zt H.ZB H.Zu H.As H.ZC e0 st c.Z2 c.p' d e H.To H.ZD Y a0 b0 c0 [(0,.B 0 0),(1,.S 6),(2,.S 7),(7,.B 16 0),(8,.S 23),(14,.S 6),(15,.I (d.length:Int)),(16,.I G)])) (fun st=>BX N rc G (VL N rc d e n32) H Y Z a0 b0 c0 e0 g0 i0 j0 st=some r) ?_ (fun j57=>?_))
    ·intro l0 h;unfold BX at h;refine wa J 7 (YD (σ:=(List Yl)×be×(List be)×(List Ys)×(List Yj)×(List be)×be×be×Int) (fun st=>⟨[(0,.B 0 0),(1,.S 6),(2,.S 7),(14,.S 6),(15,.I (d.length:Int)),(16,.I G)],[(0,.box [.sl 24,.s st.2.1,.sl 25,.sl 26,.sl 27,.sl 28,.s st.2.2.2.2.2.2.1,.s st.2.2.2.2.2.2.2.1,.I st.2.2.2.2.2.2.2.2] 125),(28,.own rS st.2.2.2.2.2.1 false)],((1,.sl YN c.Z2)::Xg 2 3 4 c.p' [(6,.sl Yz d),(7,.sl X9 e),(24,.sl YN st.1),(25,.sl rS st.2.2.1),(26,.sl Xa st.2.2.2.1),(27,.sl Yz st.2.2.2.2.1)]),29⟩) (fun st=>BW G (VL N rc d e n32) st.1 st.2.1 st.2.2.1 st.2.2.2.1 st.2.2.2.2.1 st.2.2.2.2.2.1 st.2.2.2.2.2.2.1 st.2.2.2.2.2.2.2.1 st.2.2.2.2.2.2.2.2=some r) ?_ (fun j59=>?_))
     ·rintro⟨m0,o0,p0,q0,s0,t0,u0,v0,x0⟩ h;unfold BW at h;exact wa J 5 (Yi [(8,.sl 24),(9,.sl 25),(10,.sl 26),(11,.sl 27),(12,.sl 28)] (ih33 (m0,o0,p0,q0,s0,t0,u0,v0,x0,(Yh (G+1))) h))
     refine wa J 1 (YP (σ:=(List Yl)×be×(List be)×(List Ys)×(List Yj)×(List be)×be×be×Int×Int) (fun st=>⟨[(0,.B 0 0),(1,.S 6),(2,.S 7),(8,.S 23),(14,.S 6),(15,.I (d.length:Int)),(16,.I G),(123,.S 15),(124,.I (H.ZD.length:Int)),(125,.I st.2.2.2.2.2.2.2.2.2)],[(0,.box [.sl 24,.s st.2.1,.sl 25,.sl 26,.sl 27,.sl 28,.s st.2.2.2.2.2.2.1,.s st.2.2.2.2.2.2.2.1,.I st.2.2.2.2.2.2.2.2.1] 125),(28,.own rS st.2.2.2.2.2.1 false)],((1,.sl YN c.Z2)::Xg 2 3 4 c.p' [(6,.sl Yz d),(7,.sl X9 e),(15,.sl (YH Yz) H.ZD),(23,.sl X9 l0),(24,.sl YN st.1),(25,.sl rS st.2.2.1),(26,.sl Xa st.2.2.2.1),(27,.sl Yz st.2.2.2.2.1)]),29⟩) (fun n st=>Lb rc G (VL N rc d e n32) H l0 n st.1 st.2.1 st.2.2.1 st.2.2.2.1 st.2.2.2.2.1 st.2.2.2.2.2.1 st.2.2.2.2.2.2.1 st.2.2.2.2.2.2.2.1 st.2.2.2.2.2.2.2.2.1 st.2.2.2.2.2.2.2.2.2) (r:=r) (fun _=>rfl) ?_ (fun ih=>?_))
     ·intro n36 ih61;rintro⟨y0,z0,A0,B0,C0,D0,G0,H0,I0,L0⟩ h;unfold Lb at h;refine Yu J 5 h (fun h=>wa J 2 (Yi [] (j59 (y0,z0,A0,B0,C0,D0,G0,H0,I0) h))) fun h=>?_;refine wO J 6 h fun M0 O0 h=>YK J (Xj Yz) O0 ?_;exact wO J 7 h fun R0 S0 h=>Ym (rcT (⟨y0,(⟨z0,A0,B0,C0⟩:Yl),D0,(⟨G0,H0,I0⟩:Y6)⟩:Yp) M0 l0 _ S0) [] [(0,.bp 0 0),(1,.sl 24),(2,.sl 25),(3,.sl 26),(4,.sl 27),(5,.sl 28),(6,.sl 30),(7,.sl 23)] (wa J 6 (Yi [(24,.sl 31),(25,.sl 32),(26,.sl 33),(27,.sl 34),(28,.sl 35)] (ih61 (R0.Z2,R0.p'.Zu,R0.p'.ZE,R0.p'.ZF,R0.p'.ZG,R0.Z3,R0.Z4.ZY,R0.Z4.Zu,R0.Z4.ZZ,(Yh (L0+1))) h)))
     exact Vh [23] (Yi [(24,.sl 18),(25,.sl 19),(26,.sl 20),(27,.sl 21),(28,.sl 22)] (ih N (Y,Z,a0,b0,c0,e0,g0,i0,j0,0) h))
    refine wa J 1 (YP (σ:=(List YT)×Int) (fun st=>(ZhA Z g0 i0 j0 H.Zt H.ZB H.Zu H.As H.ZC e0 st.1 c.Z2 c.p' d e H.To H.ZD Y a0 b0 c0 [(0,.B 0 0),(1,.S 6),(2,.S 7),(7,.B 16 0),(8,.S 23),(14,.S 6),(15,.I (d.length:Int)),(16,.I G),(103,.I (k0.length:Int)),(104,.I st.2)])) (fun n st=>Pv N rc G (VL N rc d e n32) H Y Z a0 b0 c0 e0 g0 i0 j0 k0 n st.1 st.2) (r:=r) (fun _=>rfl) ?_ (fun ih=>?_))
    ·intro n37 ih62;rintro⟨U0,V0⟩ h;unfold Pv at h;refine Yu J 5 h (fun h=>wa J 2 (Yi [] (j57 U0 h))) fun h=>?_;refine wO J 14 h fun X0 Y0 h=>XA J X9 Y0 (wa J 1 (Wt J TH Y0 ?_));refine wB J 1 h (fun h=>?_) fun h=>?_
     ·exact wO J 4 h fun Z0 a1 h=>XA J X9 a1 (wa J 1 (Uc J [] TH (⟨Z0.Z5,Z0.Z6,true⟩:YT) a1 (wa J 6 (Yi [] (ih62 ((YE U0 V0 (⟨Z0.Z5,Z0.Z6,true⟩:YT)),(Yh (V0+1))) h)))))
     exact wO J 4 h fun b1 c1 h=>XA J X9 c1 (wa J 1 (Uc J [] TH (⟨b1.Z5,b1.Z6,(H.Zt==5)⟩:YT) c1 (wa J 6 (Yi [] (ih62 ((YE U0 V0 (⟨b1.Z5,b1.Z6,(H.Zt==5)⟩:YT)),(Yh (V0+1))) h)))))
    exact Yi [] (ih N (k0,0) h)
   refine eB h (fun h=>?_) fun h=>?_
   ·exact wO J 4 h fun e1 g1 h=>Ym (Zvg N (⟨q,(⟨u,v,x,y⟩:Yl),z,(⟨A,C,D⟩:Y6)⟩:Yp) H _ g1) [] [(0,.bp 0 0),(1,.sl 8),(2,.sl 9),(3,.sl 10),(4,.sl 11),(5,.sl 12),(6,.sl 14),(7,.sl 15)] (wa J 1 (Yi [(23,.sl 17)] (j56 (e1.Z2,e1.p'.Zu,e1.p'.ZE,e1.p'.ZF,e1.p'.ZG,e1.Z3,e1.Z4.ZY,e1.Z4.Zu,e1.Z4.ZZ,X) h)))
   refine wB J 6 h (fun h=>wa J 5 (YW J [] oS ([H.ZB]:List be) ?_)) fun h=>?_
   ·have⟨i1,k1,h⟩:=ob h;exact Ym (ZgG N (⟨q,(⟨u,v,x,y⟩:Yl),z,(⟨A,C,D⟩:Y6)⟩:Yp) ([H.ZB]:List be) 0 _ k1) [18] [(0,.bp 0 0),(1,.sl 8),(2,.sl 9),(3,.sl 10),(4,.sl 11),(5,.sl 12),(6,.sl 18)] (wa J 1 (Yi [(18,.sl 19),(19,.sl 20),(20,.sl 21),(21,.sl 22),(22,.sl 23),(23,.sl 17)] (j56 (i1.Z2,i1.p'.Zu,i1.p'.ZE,i1.p'.ZF,i1.p'.ZG,i1.Z3,i1.Z4.ZY,i1.Z4.Zu,i1.Z4.ZZ,X) h)))
   refine wB J 6 h (fun h=>?_) fun h=>?_
   ·refine wO J 6 h fun l1 m1 h=>Wp (Zvh N X H _ m1) [] [(0,.sl 17),(1,.bp 16 0),(2,.sl 14),(3,.sl 15)] [17] (.inr ⟨rfl,trivial⟩) ?_;refine Yu J 1 h (fun h=>wa J 7 (YW J [] TH ([(⟨H.Zu,true,false⟩:YT)]:List YT) ?_)) fun h=>?_
    ·have⟨o1,p1,h⟩:=ob h;exact Xu J X9 p1 (wa J 2 (Yi [(18,.sl 8),(19,.sl 9),(20,.sl 10),(21,.sl 11),(22,.sl 12),(23,.sl 19)] (j56 (q,u,v,x,y,z,A,C,D,o1) h)))
    refine wO J 5 h fun q1 s1 h=>Ym (Wv N (⟨q,(⟨u,v,x,y⟩:Yl),z,(⟨A,C,D⟩:Y6)⟩:Yp) H.Zu 9 _ s1) [] [(0,.bp 0 0),(1,.sl 8),(2,.sl 9),(3,.sl 10),(4,.sl 11),(5,.sl 12)] (wa J 6 (YW J [] TH ([(⟨H.Zu,true,false⟩:YT)]:List YT) ?_));have⟨t1,u1,h⟩:=ob h;exact Xu J X9 u1 (wa J 2 (Yi [(23,.sl 24)] (j56 (q1.Z2,q1.p'.Zu,q1.p'.ZE,q1.p'.ZF,q1.p'.ZG,q1.Z3,q1.Z4.ZY,q1.Z4.Zu,q1.Z4.ZZ,t1) h)))
   refine Yu J 6 h (fun h=>?_) fun h=>?_
   ·refine Yu J 6 h (fun h=>wa J 2 (Yi [(18,.sl 8),(19,.sl 9),(20,.sl 10),(21,.sl 11),(22,.sl 12),(23,.sl 17)] (j56 (q,u,v,x,y,z,A,C,D,X) h))) fun h=>?_;exact wO J 4 h fun v1 x1 h=>Ym (Zvm N (⟨q,(⟨u,v,x,y⟩:Yl),z,(⟨A,C,D⟩:Y6)⟩:Yp) H _ x1) [] [(0,.bp 0 0),(1,.sl 8),(2,.sl 9),(3,.sl 10),(4,.sl 11),(5,.sl 12),(6,.sl 14),(7,.sl 15)] (wa J 1 (Yi [(23,.sl 17)] (j56 (v1.Z2,v1.p'.Zu,v1.p'.ZE,v1.p'.ZF,v1.p'.ZG,v1.Z3,v1.Z4.ZY,v1.Z4.Zu,v1.Z4.ZZ,X) h)))
   refine wO J 5 h fun y1 z1 h=>Wp (Zvk N X H _ z1) [] [(0,.sl 17),(1,.bp 16 0),(2,.sl 14),(3,.sl 15)] [17] (.inr ⟨rfl,trivial⟩) ?_;refine wB J 9 h (fun h=>?_) fun h=>?_
   ·exact wO J 5 h fun A1 B1 h=>Ym (Wv N (⟨q,(⟨u,v,x,y⟩:Yl),z,(⟨A,C,D⟩:Y6)⟩:Yp) H.Zu 10 _ B1) [] [(0,.bp 0 0),(1,.sl 8),(2,.sl 9),(3,.sl 10),(4,.sl 11),(5,.sl 12)] (wa J 2 (Yi [(23,.sl 17)] (j56 (A1.Z2,A1.p'.Zu,A1.p'.ZE,A1.p'.ZF,A1.p'.ZG,A1.Z3,A1.Z4.ZY,A1.Z4.Zu,A1.Z4.ZZ,X) h)))
   refine wO J 5 h fun C1 D1 h=>XA J X9 D1 (wa J 1 (Wt J TH D1 ?_));refine Yu J 3 h (fun h=>wa J 3 (Yi [(18,.sl 8),(19,.sl 9),(20,.sl 10),(21,.sl 11),(22,.sl 12),(23,.sl 17)] (j56 (q,u,v,x,y,z,A,C,D,X) h))) fun h=>?_;exact wO J 5 h fun G1 H1 h=>Ym (Wv N (⟨q,(⟨u,v,x,y⟩:Yl),z,(⟨A,C,D⟩:Y6)⟩:Yp) H.Zu 7 _ H1) [] [(0,.bp 0 0),(1,.sl 8),(2,.sl 9),(3,.sl 10),(4,.sl 11),(5,.sl 12)] (wa J 2 (Yi [(18,.sl 19),(19,.sl 20),(20,.sl 21),(21,.sl 22),(22,.sl 23),(23,.sl 17)] (j56 (G1.Z2,G1.p'.Zu,G1.p'.ZE,G1.p'.ZF,G1.p'.ZG,G1.Z3,G1.Z4.ZY,G1.Z4.Zu,G1.Z4.ZZ,X) h)))
  refine wa J 1 (YP (σ:=(List YT)×Int) (fun st=>(Znz u A C D z H.Zt H.ZB H.Zu H.As H.ZC st.1 c.Z2 c.p' d e q v x y H.To H.ZD [(0,.B 0 0),(1,.S 6),(2,.S 7),(6,.I G),(7,.B 16 0),(8,.S 17),(14,.S 6),(15,.I (d.length:Int)),(16,.I G),(24,.I (T.length:Int)),(25,.I st.2)])) (fun n st=>Pw N rc d q u v x y z A C D G (VL N rc d e n32) H T n st.1 st.2) (r:=r) (fun _=>rfl) ?_ (fun ih=>?_))
  ·intro n38 ih63;rintro⟨I1,L1⟩ h;unfold Pw at h;refine Yu J 5 h (fun h=>wa J 2 (Yi [] (j54 I1 h))) fun h=>?_;refine wO J 14 h fun M1 O1 h=>XA J X9 O1 (wa J 1 (Wt J TH O1 ?_));refine wB J 1 h (fun h=>?_) fun h=>?_
   ·exact wO J 6 h fun R1 S1 h=>XA J X9 S1 (wa J 1 (Uc J [] TH (⟨R1.Z5,(G==(Yh ((d.length:Int)-1))),R1.Z7⟩:YT) S1 (wa J 6 (Yi [] (ih63 ((YE I1 L1 (⟨R1.Z5,(G==(Yh ((d.length:Int)-1))),R1.Z7⟩:YT)),(Yh (L1+1))) h)))))
   exact wO J 6 h fun U1 V1 h=>XA J X9 V1 (wa J 1 (Uc J [] TH (⟨U1.Z5,false,U1.Z7⟩:YT) V1 (wa J 6 (Yi [] (ih63 ((YE I1 L1 (⟨U1.Z5,false,U1.Z7⟩:YT)),(Yh (L1+1))) h)))))
  exact Yi [] (ih N (T,0) h)
 exact Yi [(8,.sl 1),(9,.sl 2),(10,.sl 3),(11,.sl 4),(12,.sl 5)] (ih N (c.Z2,c.p'.Zu,c.p'.ZE,c.p'.ZF,c.p'.ZG,c.Z3,c.Z4.ZY,c.Z4.Zu,c.Z4.ZZ,0) h)
theorem ZwO:∀(N:Nat) (c:Yp) (d:(List Yj)) (e:(List YT)) (r:Yp) (h:Zdy N c d e=some r),Fn aB 50 ⟨8,[.B 0 0,.S 6,.S 7],((1,.sl YN c.Z2)::Xg 2 3 4 c.p' [(6,.sl Yz d),(7,.sl X9 e)]),[(0,.box (XP 1 2 3 4 5 c) 125),(5,.own rS c.Z3 false)],13,.t [],((8,.sl YN r.Z2)::Xg 9 10 11 r.p' []),[(5,.gone),(12,.own rS r.Z3 false),(0,.box (XP 8 9 10 11 12 r) 125)]⟩:=by
 intro N;induction N with
 |zero=>intros;rename_i h;cases h
 |succ N ih=>intro c d e r h;exact ZwM N (Zdy N) ih c d e r h
theorem ZwN(c:Yp)(d:(List Yj))(e:(List YT))(r:Yp)(h:V3 N c d e=some r):Fn aB 50 ⟨8,[.B 0 0,.S 6,.S 7],((1,.sl YN c.Z2)::Xg 2 3 4 c.p' [(6,.sl Yz d),(7,.sl X9 e)]),[(0,.box (XP 1 2 3 4 5 c) 125),(5,.own rS c.Z3 false)],13,.t [],((8,.sl YN r.Z2)::Xg 9 10 11 r.p' []),[(5,.gone),(12,.own rS r.Z3 false),(0,.box (XP 8 9 10 11 12 r) 125)]⟩:=ZwO N c d e r h
end Gx
end
