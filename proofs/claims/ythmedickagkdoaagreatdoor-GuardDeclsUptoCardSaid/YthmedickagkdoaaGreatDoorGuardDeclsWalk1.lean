/- Each function of the statement computes what its plain definition says, part 1. -/
import Derived.Test.YthmedickagkdoaaGreatDoorGuardDeclsBase
import Derived.Test.YthmedickagkdoaaGreatDoorGuardDeclsLib
set_option linter.all false
section
set_option maxRecDepth 10000
set_option maxHeartbeats 4000000
open Go Go.Kx Go.Proofs Tryz
namespace Gx
theorem Zl9 (N:Nat) (d:ByteArray) (e:Int) (r:Int) (h:DM N d e=some r) :
 Fn Tryz.prog 190 ⟨0,[.c (.s d),.c (.i .u8 e)],[],[],0,.I r,[],[]⟩:=by
 refine Z5 func190 rfl (fun E F w=>?_)
 unfold DM at h
 refine wa J 8 (eEx (ZoK func226 (by kernel_rfl) (by kernel_rfl) (by kernel_rfl) (by kernel_rfl) d e) (fun _=>trivial) ?_)
 exact oi h▸wr J 2 func190 []
theorem Zgc (N:Nat) (d:ByteArray) (e:Int) (r:Int) (h:Dn N d e=some r) :
 Fn Tryz.prog 141 ⟨0,[.c (.s d),.c (.i .u8 e)],[],[],0,.I r,[],[]⟩:=by
 refine Z5 func141 rfl (fun E F w=>?_)
 unfold Dn at h
 refine wO J 8 h fun f g h=>ZR (Zl9 N d e _ g) [] [] ?_
 exact oi h▸wr J 2 func141 []
theorem Zuw (N:Nat) (d:Int) (r:Bool) (h:ZgF N d=some r) :
 Fn Tryz.prog 223 ⟨0,[.c (.i .i32 d)],[],[],0,.O r,[],[]⟩:=by
 refine Z5 func223 rfl (fun E F w=>?_)
 unfold ZgF at h
 refine ZU J 11 h (fun h=>?_) fun h=>?_
 ·refine ZU J 11 h (fun h=>oi h▸wr J 12 func223 []) fun h=>?_
  exact wB J 5 h (fun h=>oi h▸wr J 5 func223 []) fun h=>oi h▸wr J 7 func223 []
 refine wB J 5 h (fun h=>oi h▸wr J 5 func223 []) fun h=>?_
 refine ZU J 6 h (fun h=>oi h▸wr J 12 func223 []) fun h=>?_
 exact wB J 5 h (fun h=>oi h▸wr J 5 func223 []) fun h=>oi h▸wr J 7 func223 []
theorem Zud (N:Nat) (d:ByteArray) (e:Int) (r:Int) (h:Zgs N d e=some r) :
 Fn Tryz.prog 189 ⟨0,[.c (.s d),.c (.i .i32 e)],[],[],0,.I r,[],[]⟩:=by
 refine Z5 func189 rfl (fun E F w=>?_)
 unfold Zgs at h
 refine wa J 10 (Z4 (σ:=Bool) (fun st=>(WZ [(0,.c (.s d)),(1,.c (.i .i32 e)),(160,.O st)])) (fun st=>Zcj N d e st=some r) ?_ (fun j1=>?_))
 ·intro f h
  unfold Zcj at h
  refine eB h (fun h=>?_) fun h=>?_
  ·refine wO J 6 h fun g j h=>ZR (Zgc N d (wk .u8 (e)) _ j) [] [] ?_
   exact oi h▸wr J 2 func189 []
  obtain ⟨K,h⟩|⟨K,h⟩:=oc h
  ·refine wH J 7 K (wa J 5 (eRn J (fun bk2=>wa J 1 (Z4 (σ:=Nat) (fun st=>(HS (Vn bk2 d st) [])) (fun st=>Zgt st=some r) ?_ (fun j2=>?_)))))
   ·intro vi0_2 h
    unfold Zgt at h
    exact oi h▸wr J 4 func189 []
   refine wa J 1 (Ye (σ:=Nat) (fun st=>(HS (Vn bk2 d st) [(175,.c (.v (.pointer (some ⟨bk2,0,none⟩))))])) (fun n st=>Zck d n st) (r:=r) (fun _=>rfl) ?_ (fun ih=>?_))
   ·intro n2 ih4
    intro vi0_4 h
    unfold Zck at h
    obtain ⟨K,h⟩|⟨K,h⟩:=US h
    ·exact wa J 2 (eNf bk2 0 K (wa J 5 (ZO [] (j2 vi0_4 h))))
    refine wa J 2 (eNt bk2 0 K ?_)
    exact wB J 18 h (fun h=>oi h▸wr J 6 func189 []) fun h=>wa J 3 (ZO [] (ih4 (vi0_4+(Utf8.decode d vi0_4).2) h))
   exact ZO [] (ih N (0:Nat) h)
  refine wH J 7 K ?_
  refine wO J 4 h fun k l h=>ZR (Zuw N e _ l) [] [] ?_
  refine wB J 3 h (fun h=>oi h▸wr J 5 func189 []) fun h=>wa J 5 (Gd (wa J 19 (Z4 (σ:=Unit) (fun st=>(WZ [])) (fun st=>Zgu=some r) ?_ (fun j5=>?_))))
  ·intro _ h
   unfold Zgu at h
   exact oi h▸wr J 5 func189 []
  refine wa J 1 (Ye (σ:=Unit) (fun st=>(WZ [(0,.c (.s d)),(7,.c (.s (Utf8.encode e))),(8,.I (ZN (((Utf8.encode e).size:Int)-1))),(9,.I (ZN (((Utf8.encode e).size:Int)-1)))])) (fun n st=>Zgw N d e n) (r:=r) (fun _=>rfl) ?_ (fun ih=>?_))
  ·intro n10 ih15
   intro _ h
   unfold Zgw at h
   refine ZU J 8 h (fun h=>wa J 2 (ZO [] (j5 () h))) fun h=>?_
   refine wO J 9 h fun m o h=>XV J o ?_
   refine wO J 2 h fun p q h=>XV J q (wa J 1 (Yn (Z4 (σ:=Int) (fun st=>(WZ [(0,.c (.s d)),(7,.c (.s (Utf8.encode e))),(8,.I (ZN (((Utf8.encode e).size:Int)-1))),(9,.I st)])) (fun st=>Zci N d e st=some r) ?_ (fun j20=>?_))))
   ·intro t h
    unfold Zci at h
    refine wa J 5 (Z4 (σ:=Unit) (fun st=>(WZ [(8,.I (ZN (((Utf8.encode e).size:Int)-1))),(9,.I t)])) (fun st=>Zgv e t=some r) ?_ (fun j21=>?_))
    ·intro _ h
     unfold Zgv at h
     exact oi h▸wr J 8 func189 []
    refine wa J 1 (Ye (σ:=Int) (fun st=>(WZ [(0,.c (.s d)),(7,.c (.s (Utf8.encode e))),(8,.I (ZN (((Utf8.encode e).size:Int)-1))),(9,.I t),(12,.I st)])) (fun n st=>Zcl d e t n st) (r:=r) (fun _=>rfl) ?_ (fun ih=>?_))
    ·intro n12 ih23
     intro u h
     unfold Zcl at h
     refine ZU J 8 h (fun h=>wa J 2 (ZO [] (j21 () h))) fun h=>?_
     refine wO J 10 h fun x y h=>XV J y ?_
     refine wO J 4 h fun z A h=>XV J A (wa J 1 (Yn ?_))
     refine eB h (fun h=>?_) fun h=>wa J 8 (ZO [] (ih23 (ZN (u+1)) h))
     cases h
    exact ZO [] (ih N 1 h)
   refine Xf h (fun h=>wa J 2 (ZO [] (j20 (ZN (((Utf8.encode e).size:Int)-1)) h))) fun h=>?_
   refine wO J 6 h fun C D h=>VD J D ?_
   refine wO J 2 h fun G H h=>XV J H ?_
   have ⟨R,T,h⟩:=ob h
   refine ZR (Zgc N C G _ T) [] [] (wa J 1 (Yn ?_))
   exact wB J 6 h (fun h=>oi h▸wr J 5 func189 []) fun h=>wa J 9 (ZO [] (j20 (ZN ((ZN (((Utf8.encode e).size:Int)-1))+(ZN (R+1)))) h))
  exact ZO [] (ih N () h)
 exact eB h (fun h=>wa J 5 (ZO [] (j1 (decide (e < 128)) h))) fun h=>wa J 5 (ZO [] (j1 false h))
theorem ZtA (N:Nat) (d:ByteArray) (e:Int) (r:Bool) (h:Zgb N d e=some r) :
 Fn Tryz.prog 140 ⟨0,[.c (.s d),.c (.i .i32 e)],[],[],0,.O r,[],[]⟩:=by
 refine Z5 func140 rfl (fun E F w=>?_)
 unfold Zgb at h
 refine wO J 8 h fun f g h=>ZR (Zud N d e _ g) [] [] ?_
 exact oi h▸wr J 3 func140 []
theorem ZtQ (N:Nat) (d:ByteArray) (e:ByteArray) (r:Bool) (h:Zgp N d e=some r) :
 Fn Tryz.prog 167 ⟨0,[.c (.s d),.c (.s e)],[],[],0,.O r,[],[]⟩:=by
 refine Z5 func167 rfl (fun E F w=>?_)
 unfold Zgp at h
 refine ZU J 12 h (fun h=>oi h▸wr J 9 func167 []) fun h=>?_
 refine wO J 3 h fun f g h=>VD J g ?_
 exact oi h▸wr J 5 func167 []
theorem Zmx (N:Nat) (d:ByteArray) (e:ByteArray) (r:Bool) (h:z95 N d e=some r) :
 Fn Tryz.prog 95 ⟨0,[.c (.s d),.c (.s e)],[],[],0,.O r,[],[]⟩:=by
 refine Z5 func95 rfl (fun E F w=>?_)
 unfold z95 at h
 refine wO J 8 h fun f g h=>ZR (ZtQ N d e _ g) [] [] ?_
 exact oi h▸wr J 2 func95 []
theorem By (N:Nat) (c:T8) (r:T8) (h:z70 N c=some r) :
 Fn Tryz.prog 70 ⟨1,[.B 0 0],[],[(0,.box (Vk c) 158)],1,.t [],[],[(0,.box (Vk r) 158)]⟩:=by
 refine Z5 func70 rfl (fun E F w=>?_)
 unfold z70 at h
 refine Z4 (σ:=Int) (fun st=>(HT c.s' st [])) (fun st=>Zhd c st=some r) ?_ (fun j1=>?_)
 ·intro d h
  unfold Zhd at h
  cases h
  exact Y2 J func70 []
 refine wa J 1 (Ye (σ:=Int) (fun st=>(HT c.s' st [(0,.B 0 0)])) (fun n st=>HH N c n st) (r:=r) (fun _=>rfl) ?_ (fun ih=>?_))
 ·intro n2 ih3
  intro e h
  unfold HH at h
  refine wa J 13 (Yn ?_)
  refine Xf h (fun h=>wa J 2 (ZO [] (j1 e h))) fun h=>?_
  refine wO J 13 h fun f g h=>VD J g (wa J 1 (Yn ?_))
  refine wO J 4 h fun i j h=>XV J j ?_
  refine wO J 1 h fun k l h=>ZR (ZtA N (str [32,9,10,13]) (wk .i32 (i)) _ l) [] [] ?_
  refine wB J 2 h (fun h=>wa J 13 (ZO [] (ih3 (ZN (e+1)) h))) fun h=>?_
  refine wO J 4 h fun m o h=>ZR (Zmx N f (str [47,47]) _ o) [] [] ?_
  refine ZU J 2 h (fun h=>oi h▸wr J 1 func70 []) fun h=>?_
  refine wO J 4 h fun p q h=>ZR (Zgc N f 10 _ q) [] [] ?_
  exact wB J 8 h (fun h=>wa J 21 (ZO [] (ih3 (ZN (e+(ZN ((ZN ((f.size:Int)-1))+1)))) h))) fun h=>wa J 16 (ZO [] (ih3 (ZN (e+(ZN (p+1)))) h))
 exact ZO [] (ih N c.at' h)
theorem Zhg (N:Nat) (d:Int) (r:Bool) (h:z72 N d=some r) :
 Fn Tryz.prog 72 ⟨0,[.c (.i .u8 d)],[],[],0,.O r,[],[]⟩:=by
 refine Z5 func72 rfl (fun E F w=>?_)
 unfold z72 at h
 refine ZU J 9 h (fun h=>?_) fun h=>?_
 ·exact wB J 7 h (fun h=>oi h▸wr J 6 func72 []) fun h=>oi h▸wr J 6 func72 []
 refine wB J 4 h (fun h=>oi h▸wr J 9 func72 []) fun h=>?_
 exact wB J 3 h (fun h=>oi h▸wr J 6 func72 []) fun h=>oi h▸wr J 6 func72 []
theorem Zhi (N:Nat) (d:Int) (r:Bool) (h:HI N d=some r) :
 Fn Tryz.prog 74 ⟨0,[.c (.i .u8 d)],[],[],0,.O r,[],[]⟩:=by
 refine Z5 func74 rfl (fun E F w=>?_)
 unfold HI at h
 exact wB J 9 h (fun h=>oi h▸wr J 5 func74 []) fun h=>oi h▸wr J 5 func74 []
theorem Zgg (N:Nat) (d:Int) (r:Bool) (h:PE N d=some r) :
 Fn Tryz.prog 144 ⟨0,[.c (.i .u8 d)],[],[],0,.O r,[],[]⟩:=by
 refine Z5 func144 rfl (fun E F w=>?_)
 unfold PE at h
 refine wO J 7 h fun e f h=>ZR (Zhg N d _ f) [] [] ?_
 refine wB J 1 h (fun h=>oi h▸wr J 9 func144 []) fun h=>?_
 refine wO J 1 h fun g j h=>ZR (Zhi N d _ j) [] [] ?_
 exact wB J 2 h (fun h=>oi h▸wr J 5 func144 []) fun h=>oi h▸wr J 5 func144 []
theorem ZtC (N:Nat) (d:T8) (r:ByteArray × T8) (h:Zge N d=some r) :
 Fn Tryz.prog 143 ⟨1,[.B 0 0,.c (.cl 144 [] [])],[],[(0,.box (Vk d) 158)],1,.c (.s r.1),[],[(0,.box (Vk r.2) 158)]⟩:=by
 refine Z5 func143 rfl (fun E F w=>?_)
 unfold Zge at h
 refine wa J 13 (Z4 (σ:=Int) (fun st=>(HT d.s' st [(0,.B 0 0),(5,.I d.at')])) (fun st=>ZbG d st=some r) ?_ (fun j1=>?_))
 ·intro e h
  unfold ZbG at h
  refine wO J 11 h fun f g h=>VD J g (wa J 1 (Yn ?_))
  cases h
  exact Y2 J func143 []
 refine wa J 1 (Ye (σ:=Int) (fun st=>(HT d.s' st [(0,.B 0 0),(1,.c (.cl 144 [] [])),(5,.I d.at')])) (fun n st=>ZbH N d n st) (r:=r) (fun _=>rfl) ?_ (fun ih=>?_))
 ·intro n2 ih3
  intro i h
  unfold ZbH at h
  refine ZU J 14 h (fun h=>wa J 12 (Yn (wa J 2 (ZO [] (j1 i h))))) fun h=>?_
  refine wO J 9 h fun j k h=>XV J k ?_
  have ⟨l,m,h⟩:=ob h
  refine ZR (Zgg N j _ m) [] [] (wa J 1 (Yn ?_))
  exact eB h (fun h=>wa J 14 (ZO [] (ih3 (ZN (i+1)) h))) fun h=>wa J 2 (ZO [] (j1 i h))
 exact ZO [] (ih N d.at' h)
theorem Zvi (N:Nat) (c:T8) (r:T7 × Int × T8) (h:z73 N c=some r) :
 Fn Tryz.prog 73 ⟨1,[.B 0 0],[],[(0,.box (Vk c) 158)],1,.t [.inr (H8 r.1),.inl (.I r.2.1)],[],[(0,.box (Vk r.2.2) 158)]⟩:=by
 refine Z5 func73 rfl (fun E F w=>?_)
 unfold z73 at h
 refine wO J 8 h fun d e h=>ZR (ZtC N c _ e) [] [(0,.bp 0 0)] ?_
 exact wB J 9 h (fun h=>oi h▸wr J 7 func73 []) fun h=>oi h▸wr J 9 func73 []
theorem ZtD (N:Nat) (d:T8) (r:ByteArray × T8) (h:Zgf N d=some r) :
 Fn Tryz.prog 143 ⟨1,[.B 0 0,.c (.cl 74 [] [])],[],[(0,.box (Vk d) 158)],1,.c (.s r.1),[],[(0,.box (Vk r.2) 158)]⟩:=by
 refine Z5 func143 rfl (fun E F w=>?_)
 unfold Zgf at h
 refine wa J 13 (Z4 (σ:=Int) (fun st=>(HT d.s' st [(0,.B 0 0),(5,.I d.at')])) (fun st=>ZbI d st=some r) ?_ (fun j1=>?_))
 ·intro e h
  unfold ZbI at h
  refine wO J 11 h fun f g h=>VD J g (wa J 1 (Yn ?_))
  cases h
  exact Y2 J func143 []
 refine wa J 1 (Ye (σ:=Int) (fun st=>(HT d.s' st [(0,.B 0 0),(1,.c (.cl 74 [] [])),(5,.I d.at')])) (fun n st=>ZbJ N d n st) (r:=r) (fun _=>rfl) ?_ (fun ih=>?_))
 ·intro n2 ih3
  intro i h
  unfold ZbJ at h
  refine ZU J 14 h (fun h=>wa J 12 (Yn (wa J 2 (ZO [] (j1 i h))))) fun h=>?_
  refine wO J 9 h fun j k h=>XV J k ?_
  have ⟨l,m,h⟩:=ob h
  refine ZR (Zhi N j _ m) [] [] (wa J 1 (Yn ?_))
  exact eB h (fun h=>wa J 14 (ZO [] (ih3 (ZN (i+1)) h))) fun h=>wa J 2 (ZO [] (j1 i h))
 exact ZO [] (ih N d.at' h)
theorem Zvj (N:Nat) (d:T8) (r:T7 × Int × T8) (h:z75 N d=some r) :
 Fn Tryz.prog 75 ⟨1,[.B 0 0],[],[(0,.box (Vk d) 158)],1,.t [.inr (H8 r.1),.inl (.I r.2.1)],[],[(0,.box (Vk r.2.2) 158)]⟩:=by
 refine Z5 func75 rfl (fun E F w=>?_)
 unfold z75 at h
 refine wO J 8 h fun e f h=>ZR (ZtD N d _ f) [] [(0,.bp 0 0)] ?_
 refine wa J 16 (Z4 (σ:=Bool) (fun st=>(ZdT e.2 [(2,.B 1 0),(4,.c (.s e.1)),(30,.O st)])) (fun st=>Zdr N e st=some r) ?_ (fun j1=>?_))
 ·intro g h
  unfold Zdr at h
  refine eB h (fun h=>oi h▸wr J 7 func75 []) fun h=>?_
  refine wa J 9 (Z4 (σ:=Bool) (fun st=>(ZdT e.2 [(2,.B 1 0),(4,.c (.s e.1)),(44,.O st)])) (fun st=>Bz N e st=some r) ?_ (fun j2=>?_))
  ·intro i h
   unfold Bz at h
   refine eB h (fun h=>oi h▸wr J 7 func75 []) fun h=>wa J 15 (Z4 (σ:=Int) (fun st=>(Zmz e.2 st [(2,.B 1 0),(5,.B 2 0)])) (fun st=>Zhj e st=some r) ?_ (fun j3=>?_))
   ·intro j h
    unfold Zhj at h
    exact oi h▸wr J 6 func75 []
   refine wa J 1 (Ye (σ:=Int × Int) (fun st=>(Zmz e.2 st.1 [(2,.B 1 0),(4,.c (.s e.1)),(5,.B 2 0),(48,.I (e.1.size:Int)),(49,.I st.2)])) (fun n st=>Zds e n st.1 st.2) (r:=r) (fun _=>rfl) ?_ (fun ih=>?_))
   ·intro n2 ih5
    rintro ⟨k,l⟩ h
    unfold Zds at h
    refine ZU J 5 h (fun h=>wa J 2 (ZO [] (j3 k h))) fun h=>?_
    exact wO J 15 h fun m o h=>XV J o (wa J 5 (Yn (wa J 5 (ZO [] (ih5 ((ZN ((ZN (10 * k))+(ZN ((wk .u8 (m-48)))))),(ZN (l+1))) h)))))
   exact ZO [] (ih N (0,0) h)
  refine eB h (fun h=>wa J 10 (ZO [] (j2 true h))) fun h=>?_
  refine ZU J 4 h (fun h=>wa J 6 (ZO [] (j2 false h))) fun h=>?_
  exact wO J 1 h fun p q h=>XV J q (wa J 4 (ZO [] (j2 (p==48) h)))
 refine Xf h (fun h=>wa J 11 (Yn (ZO [] (j1 false h)))) fun h=>?_
 refine wO J 8 h fun u v h=>XV J v ?_
 have ⟨x,y,h⟩:=ob h
 exact ZR (Zgg N u _ y) [] [] (wa J 1 (Yn (ZO [] (j1 x h))))
theorem Zvk (N:Nat) (d:T8) (r:T7 × Int × T8) (h:z76 N d=some r) :
 Fn Tryz.prog 76 ⟨1,[.B 0 0],[],[(0,.box (Vk d) 158)],1,.t [.inr (H8 r.1),.inl (.I r.2.1)],[],[(0,.box (Vk r.2.2) 158)]⟩:=by
 refine Z5 func76 rfl (fun E F w=>?_)
 unfold z76 at h
 refine wa J 21 (Z4 (σ:=Int) (fun st=>⟨[(2,.B 1 0)],[(0,.box [.s d.s',.I st] 158),(1,.box [.I 0,.s (str []),.I 0,.I 0] 162)],[],2⟩) (fun st=>Zhk d st=some r) ?_ (fun j1=>?_))
 ·intro e h
  unfold Zhk at h
  exact oi h▸wr J 6 func76 []
 refine wa J 1 (Ye (σ:=Int × (List Int)) (fun st=>(ZmA d.s' st.1 st.2 [(0,.B 0 0),(2,.B 1 0),(4,.S 2)])) (fun n st=>Mx d n st.1 st.2) (r:=r) (fun _=>rfl) ?_ (fun ih=>?_))
 ·intro n2 ih6
  rintro ⟨f,g⟩ h
  unfold Mx at h
  refine wa J 13 (Yn ?_)
  refine Xf h (fun h=>wa J 2 (ZO [] (j1 f h))) fun h=>?_
  refine wO J 14 h fun j k h=>XV J k (wa J 1 (Yn ?_))
  refine wB J 6 h (fun h=>?_) fun h=>wa J 8 (Z4 (σ:=Int × Int) (fun st=>(ZmA d.s' st.1 g [(0,.B 0 0),(2,.B 1 0),(4,.S 2),(5,.c (.i .u8 st.2))])) (fun st=>BA d g (Mx d n2) st.1 st.2=some r) ?_ (fun j9=>?_))
  ·exact wB J 19 h (fun h=>oi h▸wr J 7 func76 []) fun h=>wa J 5 (eCs g (oi h▸wr J 4 func76 []))
  ·rintro ⟨l,m⟩ h
   unfold BA at h
   refine wB J 6 h (fun h=>oi h▸wr J 11 func76 []) fun h=>?_
   refine wB J 4 h (fun h=>oi h▸wr J 7 func76 []) fun h=>wa J 5 (Yy J [] (oI .u8) ([m]:List Int) ?_)
   have ⟨o,p,h⟩:=ob h
   exact YR J (rI .u8) p (wa J 13 (ZO [(2,.sl 4)] (ih6 ((ZN (l+1)),o) h)))
  refine Xf h (fun h=>wa J 2 (ZO [] (j9 (f,j) h))) fun h=>?_
  refine wB J 26 h (fun h=>wa J 23 (Yn (oi h▸wr J 7 func76 []))) fun h=>?_
  refine wO J 8 h fun q u h=>XV J u ?_
  refine ZU J 2 h (fun h=>wa J 12 (Yn ?_)) fun h=>?_
  ·exact wO J 11 h fun v x h=>XV J x (wa J 1 (Yn (ZO [] (j9 ((ZN (f+1)),v) h))))
  refine wO J 8 h fun y z h=>XV J z (wa J 3 (Yn ?_))
  refine eB h (fun h=>oi h▸wr J 7 func76 []) fun h=>?_
  exact wO J 11 h fun A C h=>XV J C (wa J 1 (Yn (ZO [] (j9 ((ZN (f+1)),A) h))))
 exact ZO [(2,.nil)] (ih N ((ZN (d.at'+1)),([]:List Int)) h)
theorem Zux (N:Nat) (d:ByteArray) (e:ByteArray) (r:Int) (h:ZcJ N d e=some r) :
 Fn Tryz.prog 227 ⟨0,[.c (.s d),.c (.s e)],[],[],0,.I r,[],[]⟩:=by
 refine Z5 func227 rfl (fun E F w=>?_)
 unfold ZcJ at h
 refine wB J 17 h (fun h=>oi h▸wr J 11 func227 []) fun h=>?_
 refine wB J 6 h (fun h=>oi h▸wr J 5 func227 []) fun h=>?_
 refine wB J 7 h (fun h=>?_) fun h=>?_
 ·refine wO J 5 h fun f g h=>XV J g ?_
  have ⟨i,j,h⟩:=ob h
  refine ZR (Zl9 N d f _ j) [] [] ?_
  exact oi h▸wr J 2 func227 []
 refine wB J 9 h (fun h=>oi h▸wr J 5 func227 []) fun h=>?_
 cases h
theorem Zgx (N:Nat) (d:ByteArray) (e:ByteArray) (r:Int) (h:PY N d e=some r) :
 Fn Tryz.prog 191 ⟨0,[.c (.s d),.c (.s e)],[],[],0,.I r,[],[]⟩:=by
 refine Z5 func191 rfl (fun E F w=>?_)
 unfold PY at h
 refine wO J 8 h fun f g h=>ZR (Zux N d e _ g) [] [] ?_
 exact oi h▸wr J 2 func191 []
theorem ZtB (N:Nat) (d:ByteArray) (e:ByteArray) (r:Bool) (h:Zgd N d e=some r) :
 Fn Tryz.prog 142 ⟨0,[.c (.s d),.c (.s e)],[],[],0,.O r,[],[]⟩:=by
 refine Z5 func142 rfl (fun E F w=>?_)
 unfold Zgd at h
 refine wO J 8 h fun f g h=>ZR (Zgx N d e _ g) [] [] ?_
 exact oi h▸wr J 3 func142 []
theorem Zvh (N:Nat) (c:T8) (r:T7 × Int × T8) (h:z71 N c=some r) :
 Fn Tryz.prog 71 ⟨1,[.B 0 0],[],[(0,.box (Vk c) 158)],1,.t [.inr (H8 r.1),.inl (.I r.2.1)],[],[(0,.box (Vk r.2.2) 158)]⟩:=by
 refine Z5 func71 rfl (fun E F w=>?_)
 unfold z71 at h
 refine wa J 11 (Z4 (σ:=Unit) (fun st=>(ZdT c [(0,.B 0 0),(2,.B 1 0)])) (fun st=>Zhf N c=some r) ?_ (fun j1=>?_))
 ·intro _ h
  unfold Zhf at h
  refine wO J 15 h fun d e h=>VD J e (wa J 1 (Yn ?_))
  refine wO J 4 h fun f g h=>ZR (ZtB N (str [40,41,123,125,44,59,58,46,43,45,42,47,37,60,62,61,33]) d _ g) [] [] ?_
  exact wB J 2 h (fun h=>oi h▸wr J 7 func71 []) fun h=>oi h▸wr J 20 func71 []
 refine wa J 1 (Ye (σ:=Int) (fun st=>(ZdT c [(0,.B 0 0),(2,.B 1 0),(7,.a [.s (str [45,62]),.s (str [46,46]),.s (str [60,61]),.s (str [62,61]),.s (str [61,61]),.s (str [33,61]),.s (str [38,38]),.s (str [124,124])]),(8,.I st)])) (fun n st=>Zdq N c n st) (r:=r) (fun _=>rfl) ?_ (fun ih=>?_))
 ·intro n2 ih3
  intro i h
  unfold Zdq at h
  refine ZU J 5 h (fun h=>wa J 2 (ZO [] (j1 () h))) fun h=>?_
  refine wO J 6 h fun j k h=>Gc SC.s ([(str [45,62]),(str [46,46]),(str [60,61]),(str [62,61]),(str [61,61]),(str [33,61]),(str [38,38]),(str [124,124])]:List ByteArray) k ?_
  refine wO J 12 h fun l m h=>VD J m ?_
  refine wO J 1 h fun o p h=>ZR (Zmx N l j _ p) [] [] (Yn ?_)
  exact eB h (fun h=>oi h▸wr J 19 func71 []) fun h=>wa J 7 (ZO [] (ih3 (ZN (i+1)) h))
 exact ZO [] (ih N 0 h)
theorem ZuM (N:Nat) (d:ByteArray) (r:(List T7) × Int × Int) (h:z30 N d=some r) :
 Fn Tryz.prog 30 ⟨0,[.c (.s d)],[],[],1,.t [.inl (.sl 0),.inl (.I r.2.1),.inl (.I r.2.2)],[],[(0,.own YD r.1 true)]⟩:=by
 refine Z5 func30 rfl (fun E F w=>?_)
 unfold z30 at h
 refine wB J 13 h (fun h=>oi h▸wr J 7 func30 [(0,.nil)]) fun h=>?_
 refine wO J 13 h fun e f h=>ZR (By N (⟨d,0⟩:T8) _ f) [] [(0,.bp 0 0)] (wa J 1 (Z4 (σ:=(List T7)) (fun st=>⟨[(2,.S 1)],[(1,.own YD st true)],[],2⟩) (fun st=>ZgQ st=some r) ?_ (fun j1=>?_)))
 ·intro g h
  unfold ZgQ at h
  exact oi h▸wr J 7 func30 [(0,.sl 1)]
 refine wa J 1 (Ye (σ:=(List T7) × ByteArray × Int) (fun st=>⟨[(0,.c (.s d)),(2,.S 1),(5,.B 0 0)],[(0,.box [.s st.2.1,.I st.2.2] 158),(1,.own YD st.1 true)],[],2⟩) (fun n st=>Mg N d n st.1 st.2.1 st.2.2) (r:=r) (fun _=>rfl) ?_ (fun ih=>?_))
 ·intro n2 ih12
  rintro ⟨i,j,k⟩ h
  unfold Mg at h
  refine ZU J 11 h (fun h=>wa J 2 (ZO [] (j1 i h))) fun h=>?_
  refine wO J 18 h fun l m h=>XV J m ?_
  refine wO J 6 h fun o p h=>ZR (Zhg N l _ p) [] [] ?_
  refine wB J 2 h (fun h=>?_) fun h=>?_
  ·refine wO J 18 h fun q u h=>ZR (Zvi N (⟨j,k⟩:T8) _ u) [] [(0,.bp 0 0)] ?_
   refine wB J 13 h (fun h=>oi h▸wr J 9 func30 [(0,.nil)]) fun h=>wa J 11 (Yy J [] Ld ([(⟨q.1.Zq,q.1.ZG,q.1.Value,k⟩:T7)]:List T7) ?_)
   have ⟨v,x,h⟩:=ob h
   refine YR J YD x ?_
   exact wO J 5 h fun y z h=>ZR (By N q.2.2 _ z) [] [(0,.bp 0 0)] (wa J 1 (ZO [(1,.sl 4)] (ih12 (v,y.s',y.at') h)))
  refine wO J 4 h fun A C h=>ZR (Zhi N l _ C) [] [] ?_
  refine wB J 2 h (fun h=>?_) fun h=>?_
  ·refine wO J 18 h fun D G h=>ZR (Zvj N (⟨j,k⟩:T8) _ G) [] [(0,.bp 0 0)] ?_
   refine wB J 13 h (fun h=>oi h▸wr J 9 func30 [(0,.nil)]) fun h=>wa J 11 (Yy J [] Ld ([(⟨D.1.Zq,D.1.ZG,D.1.Value,k⟩:T7)]:List T7) ?_)
   have ⟨H,R,h⟩:=ob h
   refine YR J YD R ?_
   exact wO J 5 h fun T U h=>ZR (By N D.2.2 _ U) [] [(0,.bp 0 0)] (wa J 1 (ZO [(1,.sl 4)] (ih12 (H,T.s',T.at') h)))
  refine wB J 7 h (fun h=>?_) fun h=>?_
  ·refine wO J 18 h fun X Y h=>ZR (Zvk N (⟨j,k⟩:T8) _ Y) [] [(0,.bp 0 0)] ?_
   refine wB J 13 h (fun h=>oi h▸wr J 9 func30 [(0,.nil)]) fun h=>wa J 11 (Yy J [] Ld ([(⟨X.1.Zq,X.1.ZG,X.1.Value,k⟩:T7)]:List T7) ?_)
   have ⟨Z,a0,h⟩:=ob h
   refine YR J YD a0 ?_
   exact wO J 5 h fun b0 c0 h=>ZR (By N X.2.2 _ c0) [] [(0,.bp 0 0)] (wa J 1 (ZO [(1,.sl 4)] (ih12 (Z,b0.s',b0.at') h)))
  refine wO J 14 h fun e0 g0 h=>ZR (Zvh N (⟨j,k⟩:T8) _ g0) [] [(0,.bp 0 0)] ?_
  refine wB J 13 h (fun h=>oi h▸wr J 9 func30 [(0,.nil)]) fun h=>wa J 11 (Yy J [] Ld ([(⟨e0.1.Zq,e0.1.ZG,e0.1.Value,k⟩:T7)]:List T7) ?_)
  have ⟨i0,j0,h⟩:=ob h
  refine YR J YD j0 ?_
  exact wO J 5 h fun k0 l0 h=>ZR (By N e0.2.2 _ l0) [] [(0,.bp 0 0)] (wa J 1 (ZO [(1,.sl 4)] (ih12 (i0,k0.s',k0.at') h)))
 exact ZO [(1,.nil)] (ih N (([]:List T7),e.s',e.at') h)
theorem PF (N:Nat) (c:Z9) (r:T7) (h:z146 N c=some r) :
 Fn Tryz.prog 146 ⟨2,[.B 0 0],[(1,.sl YD c.l')],[(0,.box (Y4 1 c) 108)],2,.a (H8 r),[],[(0,.box (Y4 1 c) 108)]⟩:=by
 refine Z5 func146 rfl (fun E F w=>?_)
 unfold z146 at h
 refine wB J 13 h (fun h=>wa J 11 (Yn (oi h▸wr J 6 func146 []))) fun h=>wa J 11 (Yn ?_)
 refine eB h (fun h=>oi h▸wr J 6 func146 []) fun h=>?_
 refine wO J 12 h fun d e h=>Ya J Ld e (wa J 2 (Yn ?_))
 cases h
 exact Y2 J func146 []
theorem ZlX (N:Nat) (d:Z9) (e:ByteArray) (r:Bool) (h:ZbK N d e=some r) :
 Fn Tryz.prog 147 ⟨2,[.B 0 0,.c (.s e)],[(1,.sl YD d.l')],[(0,.box (Y4 1 d) 108)],2,.O r,[],[(0,.box (Y4 1 d) 108)]⟩:=by
 refine Z5 func147 rfl (fun E F w=>?_)
 unfold ZbK at h
 refine wO J 7 h fun f g h=>ZR (PF N d _ g) [] [(0,.bp 0 0),(1,.sl 1)] ?_
 refine wB J 9 h (fun h=>oi h▸wr J 12 func147 []) fun h=>?_
 exact wB J 5 h (fun h=>oi h▸wr J 7 func147 []) fun h=>oi h▸wr J 7 func147 []
theorem WI (N:Nat) (d:Z9) (e:ByteArray) (r:Bool × Z9) (h:Ws N d e=some r) :
 Fn Tryz.prog 80 ⟨2,[.B 0 0,.c (.s e)],[(1,.sl YD d.l')],[(0,.box (Y4 1 d) 108)],3,.O r.1,[(2,.sl YD r.2.l')],[(0,.box (Y4 2 r.2) 108)]⟩:=by
 refine Z5 func80 rfl (fun E F w=>?_)
 unfold Ws at h
 refine wO J 9 h fun f g h=>ZR (ZlX N d e _ g) [] [(0,.bp 0 0),(1,.sl 1)] ?_
 exact wB J 2 h (fun h=>oi h▸wr J 5 func80 [(2,.sl 1)]) fun h=>oi h▸wr J 17 func80 [(2,.sl 1)]
theorem Qb (N:Nat) (c:Z9) (d:Int) (r:Z9) (h:Sp N c d=some r) :
 Fn Tryz.prog 145 ⟨2,[.B 0 0,.I d],[(1,.sl YD c.l')],[(0,.box (Y4 1 c) 108)],3,.t [],[(2,.sl YD r.l')],[(0,.box (Y4 2 r) 108)]⟩:=by
 refine Z5 func145 rfl (fun E F w=>?_)
 unfold Sp at h
 refine wB J 9 h (fun h=>oi h▸wr J 1 func145 [(2,.sl 1)]) fun h=>wa J 30 (Yn ?_)
 refine Xf h (fun h=>oi h▸wr J 2 func145 [(2,.sl 1)]) fun h=>?_
 refine wO J 11 h fun e f h=>Ya J Ld f (wa J 5 (Yn ?_))
 cases h
 exact Y2 J func145 [(2,.sl 1)]
theorem XX (N:Nat) (d:Z9) (e:ByteArray) (r:Z9) (h:XP N d e=some r) :
 Fn Tryz.prog 77 ⟨2,[.B 0 0,.c (.s e)],[(1,.sl YD d.l')],[(0,.box (Y4 1 d) 108)],3,.t [],[(2,.sl YD r.l')],[(0,.box (Y4 2 r) 108)]⟩:=by
 refine Z5 func77 rfl (fun E F w=>?_)
 unfold XP at h
 refine wO J 4 h fun f g h=>ZR (WI N d e _ g) [] [(0,.bp 0 0),(1,.sl 1)] ?_
 refine ZU J 2 h (fun h=>oi h▸wr J 2 func77 [(2,.sl 2)]) fun h=>?_
 refine wO J 3 h fun i j h=>ZR (Qb N f.2 3 _ j) [] [(0,.bp 0 0),(1,.sl 2)] ?_
 exact oi h▸wr J 1 func77 [(2,.sl 3)]
theorem Zty (N:Nat) (d:ByteArray) (r:Bool) (h:Rl N d=some r) :
 Fn Tryz.prog 139 ⟨0,[.c (.s d)],[],[],0,.O r,[],[]⟩:=by
 refine Z5 func139 rfl (fun E F w=>?_)
 unfold Rl at h
 refine wB J 10 h (fun h=>oi h▸wr J 16 func139 []) fun h=>?_
 refine wB J 5 h (fun h=>oi h▸wr J 11 func139 []) fun h=>?_
 refine wO J 1 h fun e f h=>XV J f ?_
 have ⟨g,i,h⟩:=ob h
 refine ZR (Zhg N e _ i) [] [] ?_
 refine wB J 3 h (fun h=>oi h▸wr J 5 func139 []) fun h=>wa J 9 (Z4 (σ:=Unit) (fun st=>(WZ [])) (fun st=>ZbF=some r) ?_ (fun j1=>?_))
 ·intro _ h
  unfold ZbF at h
  exact oi h▸wr J 4 func139 []
 refine wa J 1 (Ye (σ:=Int) (fun st=>(WZ [(0,.c (.s d)),(18,.I (d.size:Int)),(19,.I st)])) (fun n st=>So N d n st) (r:=r) (fun _=>rfl) ?_ (fun ih=>?_))
 ·intro n2 ih3
  intro j h
  unfold So at h
  refine ZU J 5 h (fun h=>wa J 2 (ZO [] (j1 () h))) fun h=>?_
  refine wO J 13 h fun k l h=>XV J l ?_
  have ⟨m,o,h⟩:=ob h
  refine ZR (Zgg N k _ o) [] [] ?_
  exact wB J 2 h (fun h=>oi h▸wr J 5 func139 []) fun h=>wa J 7 (ZO [] (ih3 (ZN (j+1)) h))
 exact ZO [] (ih N 0 h)
theorem ZtU (N:Nat) (d:(List ByteArray)) (e:ByteArray) (r:Int) (h:LW N d e=some r) :
 Fn Tryz.prog 170 ⟨1,[.S 0,.c (.s e)],[(0,.sl rS d)],[],1,.I r,[],[]⟩:=by
 refine Z5 func170 rfl (fun E F w=>?_)
 unfold LW at h
 refine wa J 11 (Z4 (σ:=Unit) (fun st=>(Ug d [])) (fun st=>Dw=some r) ?_ (fun j1=>?_))
 ·intro _ h
  unfold Dw at h
  exact oi h▸wr J 4 func170 []
 refine wa J 1 (Ye (σ:=Int) (fun st=>(Ug d [(0,.S 0),(1,.c (.s e)),(7,.I (d.length:Int)),(8,.I st)])) (fun n st=>Sq d e n st) (r:=r) (fun _=>rfl) ?_ (fun ih=>?_))
 ·intro n2 ih3
  intro f h
  unfold Sq at h
  refine ZU J 5 h (fun h=>wa J 2 (ZO [] (j1 () h))) fun h=>?_
  refine wO J 14 h fun g i h=>Ya J oS i ?_
  exact wB J 3 h (fun h=>oi h▸wr J 6 func170 []) fun h=>wa J 7 (ZO [] (ih3 (ZN (f+1)) h))
 exact ZO [] (ih N 0 h)
theorem R5 (N:Nat) (d:(List ByteArray)) (e:ByteArray) (r:Bool) (h:Vu N d e=some r) :
 Fn Tryz.prog 102 ⟨1,[.S 0,.c (.s e)],[(0,.sl rS d)],[],1,.O r,[],[]⟩:=by
 refine Z5 func102 rfl (fun E F w=>?_)
 unfold Vu at h
 refine wO J 8 h fun f g h=>ZR (ZtU N d e _ g) [] [(0,.sl 0)] ?_
 exact oi h▸wr J 3 func102 []
theorem U6 (N:Nat) (d:ByteArray) (r:Bool) (h:Wr N d=some r) :
 Fn Tryz.prog 65 ⟨0,[.c (.s d)],[],[],0,.O r,[],[]⟩:=by
 refine Z5 func65 rfl (fun E F w=>?_)
 unfold Wr at h
 refine wO J 13 h fun e f h=>ZR (Zty N d _ f) [] [] ?_
 refine ZU J 1 h (fun h=>oi h▸wr J 7 func65 []) fun h=>eSb [] oS ([(str [97,103,97,105,110]),(str [97,110,100]),(str [97,115]),(str [97,116]),(str [99,97,108,108]),(str [99,104,111,105,99,101]),(str [101,108,115,101]),(str [102,114,111,109]),(str [105,102]),(str [105,110,116]),(str [108,101,110]),(str [108,111,111,112]),(str [109,101,115,115,97,103,101]),(str [111,102]),(str [111,102,102,101,114]),(str [111,110]),(str [111,114]),(str [112,97,114]),(str [112,108,97,121,115]),(str [112,114,111,116,111,99,111,108]),(str [115,101,114,118,105,99,101]),(str [116,101,120,116]),(str [116,105,109,101,115]),(str [116,111]),(str [118,97,114]),(str [119,104,101,114,101]),(str [119,104,105,108,101]),(str [119,105,116,104,105,110])]:List ByteArray) ?_
 refine wO J 1 h fun g i h=>XA (R5 N ([(str [97,103,97,105,110]),(str [97,110,100]),(str [97,115]),(str [97,116]),(str [99,97,108,108]),(str [99,104,111,105,99,101]),(str [101,108,115,101]),(str [102,114,111,109]),(str [105,102]),(str [105,110,116]),(str [108,101,110]),(str [108,111,111,112]),(str [109,101,115,115,97,103,101]),(str [111,102]),(str [111,102,102,101,114]),(str [111,110]),(str [111,114]),(str [112,97,114]),(str [112,108,97,121,115]),(str [112,114,111,116,111,99,111,108]),(str [115,101,114,118,105,99,101]),(str [116,101,120,116]),(str [116,105,109,101,115]),(str [116,111]),(str [118,97,114]),(str [119,104,101,114,101]),(str [119,104,105,108,101]),(str [119,105,116,104,105,110])]:List ByteArray) d _ i) [] [(0,.sl 1)] [1] (.inr ⟨rfl,trivial⟩) ?_
 exact oi h▸wr J 4 func65 []
theorem SD (N:Nat) (d:Z9) (r:ByteArray × Z9) (h:U8 N d=some r) :
 Fn Tryz.prog 78 ⟨2,[.B 0 0],[(1,.sl YD d.l')],[(0,.box (Y4 1 d) 108)],3,.c (.s r.1),[(2,.sl YD r.2.l')],[(0,.box (Y4 2 r.2) 108)]⟩:=by
 refine Z5 func78 rfl (fun E F w=>?_)
 unfold U8 at h
 refine wO J 7 h fun e f h=>ZR (PF N d _ f) [] [(0,.bp 0 0),(1,.sl 1)] ?_
 refine wB J 10 h (fun h=>?_) fun h=>?_
 ·refine wO J 10 h fun g i h=>ZR (Qb N d 3 _ i) [] [(0,.bp 0 0),(1,.sl 1)] ?_
  exact oi h▸wr J 5 func78 [(2,.sl 3)]
 refine wO J 2 h fun j k h=>ZR (U6 N e.ZG _ k) [] [] ?_
 refine ZU J 3 h (fun h=>oi h▸wr J 19 func78 [(2,.sl 1)]) fun h=>?_
 refine wO J 4 h fun l m h=>ZR (Qb N d 3 _ m) [] [(0,.bp 0 0),(1,.sl 1)] ?_
 exact oi h▸wr J 5 func78 [(2,.sl 3)]
theorem Zhl (N:Nat) (c:Z9) (r:(List ByteArray) × Z9) (h:BB N c=some r) :
 Fn Tryz.prog 79 ⟨2,[.B 0 0],[(1,.sl YD c.l')],[(0,.box (Y4 1 c) 108)],4,.S 2,[(3,.sl YD r.2.l')],[(2,.own rS r.1 true),(0,.box (Y4 3 r.2) 108)]⟩:=by
 refine Z5 func79 rfl (fun E F w=>?_)
 unfold BB at h
 refine wO J 7 h fun d e h=>ZR (SD N c _ e) [] [(0,.bp 0 0),(1,.sl 1)] (Yy J [] oS ([d.1]:List ByteArray) (wa J 3 (Z4 (σ:=(List T7) × Int × Int × Int × Int × (List ByteArray)) (fun st=>⟨[(3,.S 5)],[(0,.box [.sl 4,.I st.2.1,.I st.2.2.1,.I st.2.2.2.1,.I st.2.2.2.2.1] 108),(5,.own rS st.2.2.2.2.2 true)],[(1,.sl YD c.l'),(4,.sl YD st.1)],6⟩) (fun st=>Zhm st.1 st.2.1 st.2.2.1 st.2.2.2.1 st.2.2.2.2.1 st.2.2.2.2.2=some r) ?_ (fun j1=>?_))))
 ·rintro ⟨f,g,i,j,k,l⟩ h
  unfold Zhm at h
  exact oi h▸wr J 5 func79 [(2,.sl 5),(3,.sl 4)]
 refine wa J 1 (Ye (σ:=(List T7) × Int × Int × Int × Int × (List ByteArray)) (fun st=>⟨[(0,.B 0 0),(3,.S 5)],[(0,.box [.sl 4,.I st.2.1,.I st.2.2.1,.I st.2.2.2.1,.I st.2.2.2.2.1] 108),(5,.own rS st.2.2.2.2.2 true)],[(1,.sl YD c.l'),(4,.sl YD st.1)],6⟩) (fun n st=>Zdt N n st.1 st.2.1 st.2.2.1 st.2.2.2.1 st.2.2.2.2.1 st.2.2.2.2.2) (r:=r) (fun _=>rfl) ?_ (fun ih=>?_))
 ·intro n2 ih3
  rintro ⟨m,o,p,q,s,t⟩ h
  unfold Zdt at h
  refine wO J 4 h fun u v h=>ZR (WI N (⟨m,o,p,q,s⟩:Z9) (str [44]) _ v) [] [(0,.bp 0 0),(1,.sl 4)] ?_
  refine ZU J 1 h (fun h=>wa J 2 (ZO [(4,.sl 6)] (j1 (u.2.l',u.2.n',u.2.end',u.2.at',u.2.err',t) h))) fun h=>?_
  refine wO J 6 h fun x y h=>ZR (SD N u.2 _ y) [] [(0,.bp 0 0),(1,.sl 6)] (Yy J [] oS ([x.1]:List ByteArray) ?_)
  have ⟨z,A,h⟩:=ob h
  exact YR J rS A (wa J 3 (ZO [(4,.sl 7),(5,.sl 9)] (ih3 (x.2.l',x.2.n',x.2.end',x.2.at',x.2.err',z) h)))
 exact ZO [(4,.sl 2),(5,.sl 3)] (ih N (d.2.l',d.2.n',d.2.end',d.2.at',d.2.err',([d.1]:List ByteArray)) h)
theorem LP (N:Nat) (d:Z9) (r:ByteArray × Z9) (h:z148 N d=some r) :
 Fn Tryz.prog 148 ⟨2,[.B 0 0],[(1,.sl YD d.l')],[(0,.box (Y4 1 d) 108)],3,.c (.s r.1),[(2,.sl YD r.2.l')],[(0,.box (Y4 2 r.2) 108)]⟩:=by
 refine Z5 func148 rfl (fun E F w=>?_)
 unfold z148 at h
 refine wO J 7 h fun e f h=>ZR (SD N d _ f) [] [(0,.bp 0 0),(1,.sl 1)] (wa J 3 (Z4 (σ:=(List T7) × Int × Int × Int × Int × ByteArray) (fun st=>⟨[(3,.c (.s st.2.2.2.2.2))],[(0,.box [.sl 3,.I st.2.1,.I st.2.2.1,.I st.2.2.2.1,.I st.2.2.2.2.1] 108)],[(1,.sl YD d.l'),(3,.sl YD st.1)],4⟩) (fun st=>Zgh st.1 st.2.1 st.2.2.1 st.2.2.2.1 st.2.2.2.2.1 st.2.2.2.2.2=some r) ?_ (fun j1=>?_)))
 ·rintro ⟨g,i,j,k,l,m⟩ h
  unfold Zgh at h
  exact oi h▸wr J 5 func148 [(2,.sl 3)]
 refine wa J 1 (Ye (σ:=(List T7) × Int × Int × Int × Int × ByteArray) (fun st=>⟨[(0,.B 0 0),(3,.c (.s st.2.2.2.2.2))],[(0,.box [.sl 3,.I st.2.1,.I st.2.2.1,.I st.2.2.2.1,.I st.2.2.2.2.1] 108)],[(1,.sl YD d.l'),(3,.sl YD st.1)],4⟩) (fun n st=>ZbL N n st.1 st.2.1 st.2.2.1 st.2.2.2.1 st.2.2.2.2.1 st.2.2.2.2.2) (r:=r) (fun _=>rfl) ?_ (fun ih=>?_))
 ·intro n2 ih3
  rintro ⟨o,p,q,t,u,v⟩ h
  unfold ZbL at h
  refine wO J 4 h fun x y h=>ZR (WI N (⟨o,p,q,t,u⟩:Z9) (str [46]) _ y) [] [(0,.bp 0 0),(1,.sl 3)] ?_
  refine ZU J 1 h (fun h=>wa J 2 (ZO [(3,.sl 4)] (j1 (x.2.l',x.2.n',x.2.end',x.2.at',x.2.err',v) h))) fun h=>?_
  refine wO J 6 h fun z A h=>ZR (SD N x.2 _ A) [] [(0,.bp 0 0),(1,.sl 4)] ?_
  have ⟨C,D,h⟩:=ob h
  refine Yt D ?_
  have ⟨G,H,h⟩:=ob h
  exact Yt H (wa J 3 (ZO [(3,.sl 5)] (ih3 (z.2.l',z.2.n',z.2.end',z.2.at',z.2.err',G) h)))
 exact ZO [(3,.sl 2)] (ih N (e.2.l',e.2.n',e.2.end',e.2.at',e.2.err',e.1) h)
theorem Sv (N:Nat) (c:Z9) (r:Int × Z9) (h:U3 N c=some r) :
 Fn Tryz.prog 193 ⟨2,[.B 0 0],[(1,.sl YD c.l')],[(0,.box (Y4 1 c) 108)],3,.I r.1,[(2,.sl YD r.2.l')],[(0,.box (Y4 2 r.2) 108)]⟩:=by
 refine Z5 func193 rfl (fun E F w=>?_)
 unfold U3 at h
 refine wO J 7 h fun d e h=>ZR (PF N c _ e) [] [(0,.bp 0 0),(1,.sl 1)] ?_
 refine ZU J 10 h (fun h=>oi h▸wr J 19 func193 [(2,.sl 1)]) fun h=>?_
 refine wO J 4 h fun f g h=>ZR (Qb N c 3 _ g) [] [(0,.bp 0 0),(1,.sl 1)] ?_
 exact oi h▸wr J 5 func193 [(2,.sl 3)]
theorem Zco (N:Nat) (c:Z9) (r:Int × Z9) (h:L9 N c=some r) :
 Fn Tryz.prog 192 ⟨2,[.B 0 0],[(1,.sl YD c.l')],[(0,.box (Y4 1 c) 108)],3,.I r.1,[(2,.sl YD r.2.l')],[(0,.box (Y4 2 r.2) 108)]⟩:=by
 refine Z5 func192 rfl (fun E F w=>?_)
 unfold L9 at h
 refine wO J 8 h fun d e h=>ZR (WI N c (str [45]) _ e) [] [(0,.bp 0 0),(1,.sl 1)] ?_
 refine wB J 1 h (fun h=>?_) fun h=>?_
 ·refine wO J 4 h fun f g h=>ZR (Sv N d.2 _ g) [] [(0,.bp 0 0),(1,.sl 2)] ?_
  exact oi h▸wr J 3 func192 [(2,.sl 3)]
 refine wO J 5 h fun i j h=>ZR (Sv N d.2 _ j) [] [(0,.bp 0 0),(1,.sl 2)] ?_
 exact oi h▸wr J 2 func192 [(2,.sl 3)]
theorem ZlY (N:Nat) (c:Z9) (r:T2 × Z9) (h:ZbM N c=some r) :
 Fn Tryz.prog 149 ⟨2,[.B 0 0],[(1,.sl YD c.l')],[(0,.box (Y4 1 c) 108)],3,.a (XZ r.1),[(2,.sl YD r.2.l')],[(0,.box (Y4 2 r.2) 108)]⟩:=by
 refine Z5 func149 rfl (fun E F w=>?_)
 unfold ZbM at h
 refine wO J 7 h fun d e h=>ZR (SD N c _ e) [] [(0,.bp 0 0),(1,.sl 1)] ?_
 refine wO J 7 h fun f g h=>ZR (XX N d.2 (str [58]) _ g) [] [(0,.bp 0 0),(1,.sl 3)] ?_
 refine wO J 17 h fun i j h=>ZR (WI N f (str [105,110,116]) _ j) [] [(0,.bp 0 0),(1,.sl 5)] ?_
 refine ZU J 2 h (fun h=>?_) fun h=>?_
 ·refine wO J 5 h fun k l h=>ZR (Zco N i.2 _ l) [] [(0,.bp 0 0),(1,.sl 6)] ?_
  refine wO J 7 h fun m o h=>ZR (XX N k.2 (str [46,46]) _ o) [] [(0,.bp 0 0),(1,.sl 7)] ?_
  refine wO J 4 h fun p q h=>ZR (Zco N m _ q) [] [(0,.bp 0 0),(1,.sl 8)] ?_
  exact oi h▸wr J 9 func149 [(2,.sl 9)]
 refine wO J 4 h fun s t h=>ZR (XX N i.2 (str [116,101,120,116]) _ t) [] [(0,.bp 0 0),(1,.sl 6)] ?_
 refine wO J 15 h fun u v h=>ZR (Sv N s _ v) [] [(0,.bp 0 0),(1,.sl 7)] ?_
 refine wO J 7 h fun x y h=>ZR (XX N u.2 (str [46,46]) _ y) [] [(0,.bp 0 0),(1,.sl 8)] ?_
 refine wO J 4 h fun z A h=>ZR (Sv N x _ A) [] [(0,.bp 0 0),(1,.sl 9)] ?_
 exact oi h▸wr J 9 func149 [(2,.sl 10)]
theorem ZuG (N:Nat) (d:ByteArray) (e:Int) (r:Int) (h:ZgL N d e=some r) :
 Fn Tryz.prog 243 ⟨0,[.c (.s d),.c (.i .u8 e)],[],[],0,.I r,[],[]⟩:=by
 refine Z5 func243 rfl (fun E F w=>?_)
 unfold ZgL at h
 refine wa J 12 (Z4 (σ:=Unit) (fun st=>(WZ [])) (fun st=>ZgM=some r) ?_ (fun j1=>?_))
 ·intro _ h
  unfold ZgM at h
  exact oi h▸wr J 4 func243 []
 refine wa J 1 (Ye (σ:=Int) (fun st=>(WZ [(0,.c (.s d)),(1,.c (.i .u8 e)),(5,.I st)])) (fun n st=>ZcP d e n st) (r:=r) (fun _=>rfl) ?_ (fun ih=>?_))
 ·intro n2 ih3
  intro f h
  unfold ZcP at h
  refine ZU J 6 h (fun h=>wa J 2 (ZO [] (j1 () h))) fun h=>?_
  refine wO J 8 h fun g j h=>XV J j ?_
  exact wB J 3 h (fun h=>oi h▸wr J 6 func243 []) fun h=>wa J 8 (ZO [] (ih3 (ZN (f-1)) h))
 exact ZO [] (ih N (ZN ((d.size:Int)-1)) h)
theorem Zuy (N:Nat) (d:ByteArray) (e:Int) (r:Int) (h:z228 N d e=some r) :
 Fn Tryz.prog 228 ⟨0,[.c (.s d),.c (.i .u8 e)],[],[],0,.I r,[],[]⟩:=by
 refine Z5 func228 rfl (fun E F w=>?_)
 unfold z228 at h
 refine wO J 8 h fun f g h=>ZR (ZuG N d e _ g) [] [] ?_
 exact oi h▸wr J 2 func228 []
theorem Zcp (N:Nat) (d:Z9) (r:Yq × Z9) (h:Ha N d=some r) :
 Fn Tryz.prog 194 ⟨2,[.B 0 0],[(1,.sl YD d.l')],[(0,.box (Y4 1 d) 108)],3,.a (Xp r.1),[(2,.sl YD r.2.l')],[(0,.box (Y4 2 r.2) 108)]⟩:=by
 refine Z5 func194 rfl (fun E F w=>?_)
 unfold Ha at h
 refine wO J 8 h fun e f h=>ZR (ZlX N d (str [45]) _ f) [] [(0,.bp 0 0),(1,.sl 1)] ?_
 refine wB J 1 h (fun h=>?_) fun h=>?_
 ·refine wO J 10 h fun g i h=>ZR (Zco N d _ i) [] [(0,.bp 0 0),(1,.sl 1)] ?_
  exact oi h▸wr J 3 func194 [(2,.sl 3)]
 refine wO J 1 h fun j k h=>ZR (PF N d _ k) [] [(0,.bp 0 0),(1,.sl 1)] ?_
 refine wB J 4 h (fun h=>?_) fun h=>?_
 ·refine wO J 4 h fun l m h=>ZR (Zco N d _ m) [] [(0,.bp 0 0),(1,.sl 1)] ?_
  exact oi h▸wr J 3 func194 [(2,.sl 3)]
 refine wO J 16 h fun o p h=>ZR (WI N d (str [108,101,110]) _ p) [] [(0,.bp 0 0),(1,.sl 1)] (wa J 1 (Z4 (σ:=(List T7) × Int × Int × Int × Int × Int × ByteArray) (fun st=>⟨[(0,.B 0 0),(2,.B 2 0),(3,.B 3 0),(4,.c (.s st.2.2.2.2.2.2))],[(0,.box [.sl 5,.I st.2.1,.I st.2.2.1,.I st.2.2.2.1,.I st.2.2.2.2.1] 108),(2,.box [.I 0,.s (str []),.s (str []),.I 0] 76),(3,.box [.I st.2.2.2.2.2.1,.s (str []),.s (str []),.I 0] 76)],[(1,.sl YD d.l'),(5,.sl YD st.1)],6⟩) (fun st=>Zcr N st.1 st.2.1 st.2.2.1 st.2.2.2.1 st.2.2.2.2.1 st.2.2.2.2.2.1 st.2.2.2.2.2.2=some r) ?_ (fun j1=>?_)))
 ·rintro ⟨q,t,u,v,x,y,z⟩ h
  unfold Zcr at h
  refine wO J 10 h fun A C h=>ZR (Zuy N z 46 _ C) [] [] (wa J 7 (Z4 (σ:=ByteArray × ByteArray) (fun st=>⟨[(0,.B 0 0),(2,.B 2 0),(3,.B 3 0)],[(0,.box [.sl 5,.I t,.I u,.I v,.I x] 108),(2,.box [.I 0,.s (str []),.s (str []),.I 0] 76),(3,.box [.I y,.s st.1,.s st.2,.I 0] 76)],[(1,.sl YD d.l'),(5,.sl YD q)],6⟩) (fun st=>Zcq N q t u v x y st.1 st.2=some r) ?_ (fun j2=>?_)))
  ·rintro ⟨D,G⟩ h
   unfold Zcq at h
   refine wO J 4 h fun H R h=>ZR (WI N (⟨q,t,u,v,x⟩:Z9) (str [43]) _ R) [] [(0,.bp 0 0),(1,.sl 5)] ?_
   refine wB J 1 h (fun h=>?_) fun h=>?_
   ·refine wO J 3 h fun T U h=>ZR (Sv N H.2 _ U) [] [(0,.bp 0 0),(1,.sl 6)] ?_
    exact oi h▸wr J 8 func194 [(2,.sl 7)]
   refine wO J 4 h fun X Y h=>ZR (WI N H.2 (str [45]) _ Y) [] [(0,.bp 0 0),(1,.sl 6)] ?_
   refine ZU J 1 h (fun h=>oi h▸wr J 7 func194 [(2,.sl 7)]) fun h=>?_
   refine wO J 3 h fun Z a0 h=>ZR (Sv N X.2 _ a0) [] [(0,.bp 0 0),(1,.sl 7)] ?_
   exact oi h▸wr J 9 func194 [(2,.sl 8)]
  refine Xf h (fun h=>wa J 2 (ZO [] (j2 ((str []),z) h))) fun h=>?_
  refine wO J 4 h fun b0 c0 h=>VD J c0 ?_
  exact wO J 3 h fun e0 g0 h=>VD J g0 (wa J 4 (Yn (ZO [] (j2 (b0,e0) h))))
 refine Xf h (fun h=>?_) fun h=>?_
 ·exact wO J 3 h fun i0 j0 h=>ZR (LP N o.2 _ j0) [] [(0,.bp 0 0),(1,.sl 4)] (wa J 2 (ZO [] (j1 (i0.2.l',i0.2.n',i0.2.end',i0.2.at',i0.2.err',2,i0.1) h)))
 refine wO J 9 h fun k0 l0 h=>ZR (XX N o.2 (str [40]) _ l0) [] [(0,.bp 0 0),(1,.sl 4)] ?_
 refine wO J 4 h fun m0 o0 h=>ZR (LP N k0 _ o0) [] [(0,.bp 0 0),(1,.sl 5)] ?_
 exact wO J 4 h fun p0 q0 h=>ZR (XX N m0.2 (str [41]) _ q0) [] [(0,.bp 0 0),(1,.sl 6)] (wa J 1 (ZO [(5,.sl 7)] (j1 (p0.l',p0.n',p0.end',p0.at',p0.err',3,m0.1) h)))
theorem Zl3 (N:Nat) (r:(List ByteArray)) (h:LR N=some r) :
 Fn Tryz.prog 155 ⟨0,[],[],[],1,.S 0,[],[(0,.own rS r true)]⟩:=by
 refine Z5 func155 rfl (fun E F w=>?_)
 unfold LR at h
 refine wa J 6 (Yy J [] oS ([(str [60]),(str [60,61]),(str [61,61]),(str [62,61]),(str [62])]:List ByteArray) ?_)
 exact oi h▸wr J 2 func155 [(0,.sl 0)]
theorem Zl0 (N:Nat) (c:Z9) (r:Y5 × Z9) (h:ZbQ N c=some r) :
 Fn Tryz.prog 150 ⟨2,[.B 0 0],[(1,.sl YD c.l')],[(0,.box (Y4 1 c) 108)],3,.a [.I r.1.Zw.Zq,.s r.1.Zw.Zv,.s r.1.Zw.Field,.I r.1.Zw.N,.s r.1.Op,.I r.1.Zx.Zq,.s r.1.Zx.Zv,.s r.1.Zx.Field,.I r.1.Zx.N],[(2,.sl YD r.2.l')],[(0,.box (Y4 2 r.2) 108)]⟩:=by
 refine Z5 func150 rfl (fun E F w=>?_)
 unfold ZbQ at h
 refine wO J 7 h fun d e h=>ZR (Zcp N c _ e) [] [(0,.bp 0 0),(1,.sl 1)] ?_
 refine wO J 8 h fun f g h=>ZR (PF N d.2 _ g) [] [(0,.bp 0 0),(1,.sl 3)] ?_
 refine ZU J 9 h (fun h=>wa J 5 (Yn ?_)) fun h=>?_
 ·refine wO J 3 h fun i j h=>ZR (Qb N d.2 3 _ j) [] [(0,.bp 0 0),(1,.sl 3)] ?_
  refine wO J 4 h fun k l h=>ZR (Zcp N i _ l) [] [(0,.bp 0 0),(1,.sl 6)] ?_
  exact oi h▸wr J 8 func150 [(2,.sl 7)]
 have ⟨m,o,h⟩:=ob h
 refine ZR (Zl3 N _ o) [] [] ?_
 refine wO J 2 h fun p q h=>XA (R5 N m f.ZG _ q) [] [(0,.sl 6)] [6] (.inr ⟨rfl,trivial⟩) (wa J 1 (Yn ?_))
 refine eB h (fun h=>?_) fun h=>?_
 ·refine wO J 21 h fun t u h=>ZR (Zcp N (⟨d.2.l',(ZN (d.2.n'+1)),d.2.end',d.2.at',d.2.err'⟩:Z9) _ u) [] [(0,.bp 0 0),(1,.sl 3)] ?_
  exact oi h▸wr J 8 func150 [(2,.sl 7)]
 refine wO J 3 h fun v x h=>ZR (Qb N d.2 3 _ x) [] [(0,.bp 0 0),(1,.sl 3)] ?_
 refine wO J 4 h fun y z h=>ZR (Zcp N v _ z) [] [(0,.bp 0 0),(1,.sl 7)] ?_
 exact oi h▸wr J 8 func150 [(2,.sl 8)]
theorem Zvm (N:Nat) (c:Z9) (r:Z2 × Z9) (h:z81 N c=some r) :
 Fn Tryz.prog 81 ⟨2,[.B 0 0],[(1,.sl YD c.l')],[(0,.box (Y4 1 c) 108)],5,.a [.s r.1.Zt,.sl 2,.sl 3],(XC 2 3 r.1 [(4,.sl YD r.2.l')]),[(0,.box (Y4 4 r.2) 108)]⟩:=by
 refine Z5 func81 rfl (fun E F w=>?_)
 unfold z81 at h
 refine wO J 7 h fun d e h=>ZR (LP N c _ e) [] [(0,.bp 0 0),(1,.sl 1)] ?_
 refine wO J 7 h fun f g h=>ZR (XX N d.2 (str [40]) _ g) [] [(0,.bp 0 0),(1,.sl 3)] ?_
 refine wO J 5 h fun i j h=>ZR (WI N f (str [41]) _ j) [] [(0,.bp 0 0),(1,.sl 5)] (wa J 2 (Z4 (σ:=(List T7) × Int × Int × Int × Int × (List T2)) (fun st=>⟨[(0,.B 0 0),(2,.B 2 0),(3,.B 4 0)],[(0,.box [.sl 7,.I st.2.1,.I st.2.2.1,.I st.2.2.2.1,.I st.2.2.2.2.1] 108),(2,.box [.s (str []),.nil,.nil] 64),(4,.box [.s d.1,.sl 8,.nil] 64),(8,.own YU st.2.2.2.2.2 true)],[(1,.sl YD c.l'),(7,.sl YD st.1)],9⟩) (fun st=>Zdv N d st.1 st.2.1 st.2.2.1 st.2.2.2.1 st.2.2.2.2.1 st.2.2.2.2.2=some r) ?_ (fun j1=>?_)))
 ·rintro ⟨k,l,m,o,p,q⟩ h
  unfold Zdv at h
  refine wO J 4 h fun t u h=>ZR (WI N (⟨k,l,m,o,p⟩:Z9) (str [119,104,101,114,101]) _ u) [] [(0,.bp 0 0),(1,.sl 7)] ?_
  refine ZU J 1 h (fun h=>?_) fun h=>?_
  ·refine wO J 5 h fun v x h=>ZR (XX N t.2 (str [59]) _ x) [] [(0,.bp 0 0),(1,.sl 9)] (wa J 6 (WK [8] ?_))
   cases h
   exact Y2 J func81 [(2,.sl 8),(3,.nil),(4,.sl 10)]
  refine wO J 6 h fun y z h=>ZR (Zl0 N t.2 _ z) [] [(0,.bp 0 0),(1,.sl 9)] (Yy J [] Q3 ([y.1]:List Y5) ?_)
  have ⟨A,C,h⟩:=ob h
  refine eAn J Tu C (wa J 2 (Yn (Z4 (σ:=(List T7) × Int × Int × Int × Int × (List Y5)) (fun st=>(ZmB st.2.1 st.2.2.1 st.2.2.2.1 st.2.2.2.2.1 d.1 q st.2.2.2.2.2 c.l' st.1 [(0,.B 0 0),(2,.B 2 0),(3,.B 4 0)])) (fun st=>Zho N d q st.1 st.2.1 st.2.2.1 st.2.2.2.1 st.2.2.2.2.1 st.2.2.2.2.2=some r) ?_ (fun j5=>?_))))
  ·rintro ⟨D,G,H,R,T,U⟩ h
   unfold Zho at h
   refine wO J 3 h fun X Y h=>ZR (XX N (⟨D,G,H,R,T⟩:Z9) (str [59]) _ Y) [] [(0,.bp 0 0),(1,.sl 13)] (wa J 6 (WK [8] (WK [14] ?_)))
   cases h
   exact Y2 J func81 [(2,.sl 8),(3,.sl 14),(4,.sl 15)]
  refine wa J 1 (Ye (σ:=(List T7) × Int × Int × Int × Int × (List Y5)) (fun st=>(ZmB st.2.1 st.2.2.1 st.2.2.2.1 st.2.2.2.2.1 d.1 q st.2.2.2.2.2 c.l' st.1 [(0,.B 0 0),(2,.B 2 0),(3,.B 4 0)])) (fun n st=>Zdw N d q n st.1 st.2.1 st.2.2.1 st.2.2.2.1 st.2.2.2.2.1 st.2.2.2.2.2) (r:=r) (fun _=>rfl) ?_ (fun ih=>?_))
  ·intro n4 ih7
   rintro ⟨Z,a0,b0,c0,e0,g0⟩ h
   unfold Zdw at h
   refine wO J 4 h fun i0 j0 h=>ZR (WI N (⟨Z,a0,b0,c0,e0⟩:Z9) (str [97,110,100]) _ j0) [] [(0,.bp 0 0),(1,.sl 13)] ?_
   refine ZU J 1 h (fun h=>wa J 2 (ZO [(13,.sl 15)] (j5 (i0.2.l',i0.2.n',i0.2.end',i0.2.at',i0.2.err',g0) h))) fun h=>?_
   refine wO J 7 h fun k0 l0 h=>ZR (Zl0 N i0.2 _ l0) [] [(0,.bp 0 0),(1,.sl 15)] (Yy J [] Q3 ([k0.1]:List Y5) ?_)
   have ⟨m0,o0,h⟩:=ob h
   exact YR J Tu o0 (wa J 2 (Yn (wa J 1 (ZO [(13,.sl 16),(14,.sl 18)] (ih7 (k0.2.l',k0.2.n',k0.2.end',k0.2.at',k0.2.err',m0) h)))))
  exact ZO [(13,.sl 10),(14,.sl 12)] (ih N (y.2.l',y.2.n',y.2.end',y.2.at',y.2.err',A) h)
 refine Xf h (fun h=>wa J 2 (ZO [(7,.sl 6),(8,.nil)] (j1 (i.2.l',i.2.n',i.2.end',i.2.at',i.2.err',([]:List T2)) h))) fun h=>?_
 refine wO J 6 h fun p0 q0 h=>ZR (ZlY N i.2 _ q0) [] [(0,.bp 0 0),(1,.sl 6)] (Yy J [] XK ([p0.1]:List T2) ?_)
 have ⟨s0,t0,h⟩:=ob h
 refine eAn J YU t0 (wa J 2 (Yn (wa J 1 (Z4 (σ:=(List T7) × Int × Int × Int × Int × (List T2)) (fun st=>(ZmC st.2.1 st.2.2.1 st.2.2.2.1 st.2.2.2.2.1 d.1 st.2.2.2.2.2 c.l' st.1 [(0,.B 0 0),(2,.B 2 0),(3,.B 4 0)])) (fun st=>Zhp N d st.1 st.2.1 st.2.2.1 st.2.2.2.1 st.2.2.2.2.1 st.2.2.2.2.2=some r) ?_ (fun j8=>?_)))))
 ·rintro ⟨u0,v0,x0,y0,z0,A0⟩ h
  unfold Zhp at h
  exact wO J 2 h fun B0 C0 h=>ZR (XX N (⟨u0,v0,x0,y0,z0⟩:Z9) (str [41]) _ C0) [] [(0,.bp 0 0),(1,.sl 10)] (wa J 1 (ZO [(7,.sl 12),(8,.sl 11)] (j1 (B0.l',B0.n',B0.end',B0.at',B0.err',A0) h)))
 refine wa J 1 (Ye (σ:=(List T7) × Int × Int × Int × Int × (List T2)) (fun st=>(ZmC st.2.1 st.2.2.1 st.2.2.2.1 st.2.2.2.2.1 d.1 st.2.2.2.2.2 c.l' st.1 [(0,.B 0 0),(2,.B 2 0),(3,.B 4 0)])) (fun n st=>Zdx N d n st.1 st.2.1 st.2.2.1 st.2.2.2.1 st.2.2.2.2.1 st.2.2.2.2.2) (r:=r) (fun _=>rfl) ?_ (fun ih=>?_))
 ·intro n6 ih10
  rintro ⟨D0,G0,H0,I0,L0,M0⟩ h
  unfold Zdx at h
  refine wO J 4 h fun O0 R0 h=>ZR (WI N (⟨D0,G0,H0,I0,L0⟩:Z9) (str [44]) _ R0) [] [(0,.bp 0 0),(1,.sl 10)] ?_
  refine ZU J 1 h (fun h=>wa J 2 (ZO [(10,.sl 12)] (j8 (O0.2.l',O0.2.n',O0.2.end',O0.2.at',O0.2.err',M0) h))) fun h=>?_
  refine wO J 7 h fun S0 U0 h=>ZR (ZlY N O0.2 _ U0) [] [(0,.bp 0 0),(1,.sl 12)] (Yy J [] XK ([S0.1]:List T2) ?_)
  have ⟨V0,X0,h⟩:=ob h
  exact YR J YU X0 (wa J 2 (Yn (wa J 1 (ZO [(10,.sl 13),(11,.sl 15)] (ih10 (S0.2.l',S0.2.n',S0.2.end',S0.2.at',S0.2.err',V0) h)))))
 exact ZO [(10,.sl 7),(11,.sl 9)] (ih N (p0.2.l',p0.2.n',p0.2.end',p0.2.at',p0.2.err',s0) h)
theorem P0 (N:Nat) (rc:Z9->Option ((List ZS) × Z9)) (rcT:(∀ (c:Z9) (r:(List ZS) × Z9),rc c=some r->Fn Tryz.prog 82 ⟨2,[.B 0 0],[(1,.sl YD c.l')],[(0,.box (Y4 1 c) 108)],4,.S 2,[(3,.sl YD r.2.l')],[(2,.own Yi r.1 true),(0,.box (Y4 3 r.2) 108)]⟩)) (c:Z9) (r:(List ZS) × Z9) (h:Rr N rc c=some r) :
 Fn Tryz.prog 196 ⟨2,[.B 0 0],[(1,.sl YD c.l')],[(0,.box (Y4 1 c) 108)],4,.S 2,[(3,.sl YD r.2.l')],[(2,.own Yi r.1 true),(0,.box (Y4 3 r.2) 108)]⟩:=by
 refine Z5 func196 rfl (fun E F w=>?_)
 unfold Rr at h
 refine wO J 7 h fun d e h=>ZR (XX N c (str [123]) _ e) [] [(0,.bp 0 0),(1,.sl 1)] ?_
 refine wO J 4 h fun f g h=>ZR (rcT d _ g) [] [(0,.bp 0 0),(1,.sl 2)] ?_
 refine wO J 5 h fun i j h=>ZR (XX N f.2 (str [125]) _ j) [] [(0,.bp 0 0),(1,.sl 4)] ?_
 exact oi h▸wr J 6 func196 [(2,.sl 3),(3,.sl 5)]
theorem Zug (N:Nat) (rc:Z9->Option ((List ZS) × Z9)) (rcT:(∀ (c:Z9) (r:(List ZS) × Z9),rc c=some r->Fn Tryz.prog 82 ⟨2,[.B 0 0],[(1,.sl YD c.l')],[(0,.box (Y4 1 c) 108)],4,.S 2,[(3,.sl YD r.2.l')],[(2,.own Yi r.1 true),(0,.box (Y4 3 r.2) 108)]⟩)) (c:Z9) (r:ZS × Z9) (h:Zgy N rc c=some r) :
 Fn Tryz.prog 195 ⟨2,[.B 0 0],[(1,.sl YD c.l')],[(0,.box (Y4 1 c) 108)],5,.a [.I r.1.Zq,.s r.1.ZA,.sl 2,.s r.1.Zt,.s r.1.As,.I r.1.ZB,.sl 3],[(2,.sl rS r.1.To),(3,.sl (Yx Yi) r.1.ZC),(4,.sl YD r.2.l')],[(0,.box (Y4 4 r.2) 108)]⟩:=by
 refine Z5 func195 rfl (fun E F w=>?_)
 unfold Zgy at h
 refine wO J 7 h fun d e h=>ZR (XX N c (str [97,116]) _ e) [] [(0,.bp 0 0),(1,.sl 1)] ?_
 refine wO J 4 h fun f g h=>ZR (SD N d _ g) [] [(0,.bp 0 0),(1,.sl 3)] ?_
 refine wO J 8 h fun i j h=>ZR (WI N f.2 (str [119,105,116,104,105,110]) _ j) [] [(0,.bp 0 0),(1,.sl 4)] (wa J 1 (Z4 (σ:=(List T7) × Int × Int × Int × Int × Int) (fun st=>⟨[(0,.B 0 0),(2,.B 2 0),(3,.B 5 0)],[(0,.box [.sl 7,.I st.2.1,.I st.2.2.1,.I st.2.2.2.1,.I st.2.2.2.2.1] 108),(2,.box [.I 0,.s (str []),.nil,.s (str []),.s (str []),.I 0,.nil] 140),(5,.box [.I 2,.s f.1,.nil,.s (str []),.s (str []),.I st.2.2.2.2.2,.nil] 140)],[(1,.sl YD c.l'),(7,.sl YD st.1)],8⟩) (fun st=>PZ N rc f st.1 st.2.1 st.2.2.1 st.2.2.2.1 st.2.2.2.2.1 st.2.2.2.2.2=some r) ?_ (fun j1=>?_)))
 ·rintro ⟨k,l,m,o,p,q⟩ h
  unfold PZ at h
  refine wO J 3 h fun t u h=>ZR (P0 N rc rcT (⟨k,l,m,o,p⟩:Z9) _ u) [] [(0,.bp 0 0),(1,.sl 7)] (Yy J [8] (Y8 Yi) ([t.1]:List (List ZS)) (wa J 4 (Z4 (σ:=(List T7) × Int × Int × Int × Int × (List (List ZS))) (fun st=>(ZmD st.2.1 st.2.2.1 st.2.2.2.1 st.2.2.2.2.1 f.1 q st.2.2.2.2.2 c.l' st.1 [(0,.B 0 0),(2,.B 2 0),(3,.B 5 0)])) (fun st=>Zgz N rc f q st.1 st.2.1 st.2.2.1 st.2.2.2.1 st.2.2.2.2.1 st.2.2.2.2.2=some r) ?_ (fun j2=>?_))))
  ·rintro ⟨v,x,y,z,A,C⟩ h
   unfold Zgz at h
   refine ZU J 7 h (fun h=>wa J 7 (WK [12] ?_)) fun h=>?_
   ·cases h
    exact Y2 J func195 [(2,.nil),(3,.sl 12),(4,.sl 11)]
   refine wO J 4 h fun D G h=>ZR (XX N (⟨v,x,y,z,A⟩:Z9) (str [101,108,115,101]) _ G) [] [(0,.bp 0 0),(1,.sl 11)] ?_
   refine wO J 5 h fun H R h=>ZR (P0 N rc rcT D _ R) [] [(0,.bp 0 0),(1,.sl 13)] (Yy J [14] (Y8 Yi) ([H.1]:List (List ZS)) ?_)
   have ⟨T,U,h⟩:=ob h
   refine YR J (Yx Yi) U (wa J 2 (Yn (wa J 5 (WK [17] ?_))))
   cases h
   exact Y2 J func195 [(2,.nil),(3,.sl 17),(4,.sl 15)]
  refine wa J 1 (Ye (σ:=(List T7) × Int × Int × Int × Int × (List (List ZS))) (fun st=>(ZmD st.2.1 st.2.2.1 st.2.2.2.1 st.2.2.2.2.1 f.1 q st.2.2.2.2.2 c.l' st.1 [(0,.B 0 0),(2,.B 2 0),(3,.B 5 0)])) (fun n st=>Zcs N rc f q n st.1 st.2.1 st.2.2.1 st.2.2.2.1 st.2.2.2.2.1 st.2.2.2.2.2) (r:=r) (fun _=>rfl) ?_ (fun ih=>?_))
  ·intro n2 ih4
   rintro ⟨X,Y,Z,a0,b0,c0⟩ h
   unfold Zcs at h
   refine wO J 4 h fun e0 g0 h=>ZR (WI N (⟨X,Y,Z,a0,b0⟩:Z9) (str [111,114]) _ g0) [] [(0,.bp 0 0),(1,.sl 11)] ?_
   refine ZU J 1 h (fun h=>wa J 2 (ZO [(11,.sl 13)] (j2 (e0.2.l',e0.2.n',e0.2.end',e0.2.at',e0.2.err',c0) h))) fun h=>?_
   refine wO J 7 h fun i0 j0 h=>ZR (P0 N rc rcT e0.2 _ j0) [] [(0,.bp 0 0),(1,.sl 13)] (Yy J [14] (Y8 Yi) ([i0.1]:List (List ZS)) ?_)
   have ⟨k0,l0,h⟩:=ob h
   exact YR J (Yx Yi) l0 (wa J 2 (Yn (wa J 1 (ZO [(11,.sl 15),(12,.sl 17)] (ih4 (i0.2.l',i0.2.n',i0.2.end',i0.2.at',i0.2.err',k0) h)))))
  exact ZO [(11,.sl 9),(12,.sl 10)] (ih N (t.2.l',t.2.n',t.2.end',t.2.at',t.2.err',([t.1]:List (List ZS))) h)
 refine Xf h (fun h=>wa J 2 (ZO [(7,.sl 6)] (j1 (i.2.l',i.2.n',i.2.end',i.2.at',i.2.err',0) h))) fun h=>?_
 refine wO J 5 h fun m0 o0 h=>ZR (PF N i.2 _ o0) [] [(0,.bp 0 0),(1,.sl 6)] ?_
 refine ZU J 9 h (fun h=>?_) fun h=>?_
 ·exact wO J 14 h fun p0 q0 h=>ZR (Sv N i.2 _ q0) [] [(0,.bp 0 0),(1,.sl 6)] (wa J 3 (ZO [(7,.sl 8)] (j1 (p0.2.l',p0.2.n',p0.2.end',p0.2.at',p0.2.err',p0.1) h)))
 refine wB J 4 h (fun h=>?_) fun h=>?_
 ·refine wO J 9 h fun s0 t0 h=>ZR (Qb N i.2 2 _ t0) [] [(0,.bp 0 0),(1,.sl 6)] ?_
  exact wO J 3 h fun u0 v0 h=>ZR (Sv N s0 _ v0) [] [(0,.bp 0 0),(1,.sl 8)] (wa J 3 (ZO [(7,.sl 9)] (j1 (u0.2.l',u0.2.n',u0.2.end',u0.2.at',u0.2.err',u0.1) h)))
 refine ZU J 6 h (fun h=>?_) fun h=>?_
 ·exact wO J 4 h fun x0 y0 h=>ZR (Sv N i.2 _ y0) [] [(0,.bp 0 0),(1,.sl 6)] (wa J 3 (ZO [(7,.sl 8)] (j1 (x0.2.l',x0.2.n',x0.2.end',x0.2.at',x0.2.err',x0.1) h)))
 refine wO J 3 h fun z0 A0 h=>ZR (Qb N i.2 2 _ A0) [] [(0,.bp 0 0),(1,.sl 6)] ?_
 exact wO J 3 h fun B0 C0 h=>ZR (Sv N z0 _ C0) [] [(0,.bp 0 0),(1,.sl 8)] (wa J 3 (ZO [(7,.sl 9)] (j1 (B0.2.l',B0.2.n',B0.2.end',B0.2.at',B0.2.err',B0.1) h)))
theorem Zl1 (N:Nat) (rc:Z9->Option ((List ZS) × Z9)) (rcT:(∀ (c:Z9) (r:(List ZS) × Z9),rc c=some r->Fn Tryz.prog 82 ⟨2,[.B 0 0],[(1,.sl YD c.l')],[(0,.box (Y4 1 c) 108)],4,.S 2,[(3,.sl YD r.2.l')],[(2,.own Yi r.1 true),(0,.box (Y4 3 r.2) 108)]⟩)) (c:Z9) (r:ZS × Z9) (h:ZbR N rc c=some r) :
 Fn Tryz.prog 151 ⟨2,[.B 0 0],[(1,.sl YD c.l')],[(0,.box (Y4 1 c) 108)],5,.a [.I r.1.Zq,.s r.1.ZA,.sl 2,.s r.1.Zt,.s r.1.As,.I r.1.ZB,.sl 3],[(2,.sl rS r.1.To),(3,.sl (Yx Yi) r.1.ZC),(4,.sl YD r.2.l')],[(0,.box (Y4 4 r.2) 108)]⟩:=by
 refine Z5 func151 rfl (fun E F w=>?_)
 unfold ZbR at h
 refine wO J 9 h fun d e h=>ZR (WI N c (str [99,104,111,105,99,101]) _ e) [] [(0,.bp 0 0),(1,.sl 1)] ?_
 refine wB J 2 h (fun h=>?_) fun h=>?_
 ·refine wO J 4 h fun f g h=>ZR (Zug N rc rcT d.2 _ g) [] [(0,.bp 0 0),(1,.sl 3)] ?_
  exact oi h▸wr J 2 func151 [(2,.sl 4),(3,.sl 5),(4,.sl 6)]
 refine wO J 4 h fun i j h=>ZR (WI N d.2 (str [108,111,111,112]) _ j) [] [(0,.bp 0 0),(1,.sl 3)] ?_
 refine wB J 2 h (fun h=>?_) fun h=>?_
 ·refine wO J 4 h fun k l h=>ZR (LP N i.2 _ l) [] [(0,.bp 0 0),(1,.sl 4)] ?_
  refine wO J 7 h fun m o h=>ZR (P0 N rc rcT k.2 _ o) [] [(0,.bp 0 0),(1,.sl 5)] (Yy J [7] (Y8 Yi) ([m.1]:List (List ZS)) (wa J 8 (WK [9] ?_)))
  cases h
  exact Y2 J func151 [(2,.nil),(3,.sl 9),(4,.sl 8)]
 refine wO J 4 h fun p q h=>ZR (WI N i.2 (str [97,103,97,105,110]) _ q) [] [(0,.bp 0 0),(1,.sl 4)] ?_
 refine wB J 2 h (fun h=>?_) fun h=>?_
 ·refine wO J 4 h fun t u h=>ZR (LP N p.2 _ u) [] [(0,.bp 0 0),(1,.sl 5)] ?_
  refine wO J 7 h fun v x h=>ZR (XX N t.2 (str [59]) _ x) [] [(0,.bp 0 0),(1,.sl 6)] ?_
  exact oi h▸wr J 6 func151 [(2,.nil),(3,.nil),(4,.sl 8)]
 refine wO J 4 h fun y z h=>ZR (WI N p.2 (str [112,97,114]) _ z) [] [(0,.bp 0 0),(1,.sl 5)] ?_
 refine ZU J 2 h (fun h=>?_) fun h=>?_
 ·refine wO J 4 h fun A C h=>ZR (WI N y.2 (str [99,97,108,108]) _ C) [] [(0,.bp 0 0),(1,.sl 6)] ?_
  refine ZU J 2 h (fun h=>?_) fun h=>?_
  ·refine wO J 6 h fun D G h=>ZR (SD N A.2 _ G) [] [(0,.bp 0 0),(1,.sl 7)] ?_
   refine wO J 7 h fun H R h=>ZR (XX N D.2 (str [45,62]) _ R) [] [(0,.bp 0 0),(1,.sl 8)] ?_
   refine wO J 4 h fun T U h=>ZR (Zhl N H _ U) [] [(0,.bp 0 0),(1,.sl 10)] ?_
   refine wO J 6 h fun X Y h=>ZR (XX N T.2 (str [58]) _ Y) [] [(0,.bp 0 0),(1,.sl 12)] ?_
   refine wO J 4 h fun Z a0 h=>ZR (LP N X _ a0) [] [(0,.bp 0 0),(1,.sl 13)] ?_
   refine wO J 6 h fun b0 c0 h=>ZR (XX N Z.2 (str [59]) _ c0) [] [(0,.bp 0 0),(1,.sl 14)] (wa J 6 (WK [11] ?_))
   cases h
   exact Y2 J func151 [(2,.sl 11),(3,.nil),(4,.sl 15)]
  refine wO J 4 h fun e0 g0 h=>ZR (SD N A.2 _ g0) [] [(0,.bp 0 0),(1,.sl 7)] ?_
  refine wO J 7 h fun i0 j0 h=>ZR (XX N e0.2 (str [40]) _ j0) [] [(0,.bp 0 0),(1,.sl 8)] ?_
  refine wO J 4 h fun k0 l0 h=>ZR (Zhl N i0 _ l0) [] [(0,.bp 0 0),(1,.sl 10)] ?_
  refine wO J 6 h fun m0 o0 h=>ZR (XX N k0.2 (str [41]) _ o0) [] [(0,.bp 0 0),(1,.sl 12)] ?_
  refine wO J 4 h fun p0 q0 h=>ZR (XX N m0 (str [97,115]) _ q0) [] [(0,.bp 0 0),(1,.sl 13)] ?_
  refine wO J 4 h fun s0 t0 h=>ZR (SD N p0 _ t0) [] [(0,.bp 0 0),(1,.sl 14)] ?_
  refine wO J 6 h fun u0 v0 h=>ZR (XX N s0.2 (str [59]) _ v0) [] [(0,.bp 0 0),(1,.sl 15)] (wa J 6 (WK [11] ?_))
  cases h
  exact Y2 J func151 [(2,.sl 11),(3,.nil),(4,.sl 16)]
 refine wO J 4 h fun x0 y0 h=>ZR (P0 N rc rcT y.2 _ y0) [] [(0,.bp 0 0),(1,.sl 6)] (Yy J [7] (Y8 Yi) ([x0.1]:List (List ZS)) ?_)
 refine wO J 7 h fun z0 A0 h=>ZR (XX N x0.2 (str [97,110,100]) _ A0) [] [(0,.bp 0 0),(1,.sl 8)] ?_
 refine wO J 6 h fun B0 C0 h=>ZR (P0 N rc rcT z0 _ C0) [] [(0,.bp 0 0),(1,.sl 11)] (Yy J [12] (Y8 Yi) ([B0.1]:List (List ZS)) ?_)
 have ⟨D0,G0,h⟩:=ob h
 refine YR J (Yx Yi) G0 (wa J 2 (Yn (wa J 1 (Z4 (σ:=(List T7) × Int × Int × Int × Int × (List (List ZS))) (fun st=>(ZmE st.2.1 st.2.2.1 st.2.2.2.1 st.2.2.2.2.1 st.2.2.2.2.2 c.l' st.1 [(2,.B 2 0),(5,.B 10 0)])) (fun st=>Zgi st.1 st.2.1 st.2.2.1 st.2.2.2.1 st.2.2.2.2.1 st.2.2.2.2.2=some r) ?_ (fun j1=>?_)))))
 ·rintro ⟨H0,I0,L0,M0,O0,R0⟩ h
  unfold Zgi at h
  refine wa J 5 (WK [17] ?_)
  cases h
  exact Y2 J func151 [(2,.nil),(3,.sl 17),(4,.sl 16)]
 refine wa J 1 (Ye (σ:=(List T7) × Int × Int × Int × Int × (List (List ZS))) (fun st=>(ZmE st.2.1 st.2.2.1 st.2.2.2.1 st.2.2.2.2.1 st.2.2.2.2.2 c.l' st.1 [(0,.B 0 0),(2,.B 2 0),(5,.B 10 0)])) (fun n st=>ZbS N rc n st.1 st.2.1 st.2.2.1 st.2.2.2.1 st.2.2.2.2.1 st.2.2.2.2.2) (r:=r) (fun _=>rfl) ?_ (fun ih=>?_))
 ·intro n2 ih3
  rintro ⟨S0,U0,V0,X0,Y0,Z0⟩ h
  unfold ZbS at h
  refine wO J 4 h fun a1 b1 h=>ZR (WI N (⟨S0,U0,V0,X0,Y0⟩:Z9) (str [97,110,100]) _ b1) [] [(0,.bp 0 0),(1,.sl 16)] ?_
  refine ZU J 1 h (fun h=>wa J 2 (ZO [(16,.sl 18)] (j1 (a1.2.l',a1.2.n',a1.2.end',a1.2.at',a1.2.err',Z0) h))) fun h=>?_
  refine wO J 7 h fun c1 e1 h=>ZR (P0 N rc rcT a1.2 _ e1) [] [(0,.bp 0 0),(1,.sl 18)] (Yy J [19] (Y8 Yi) ([c1.1]:List (List ZS)) ?_)
  have ⟨g1,i1,h⟩:=ob h
  exact YR J (Yx Yi) i1 (wa J 2 (Yn (wa J 1 (ZO [(16,.sl 20),(17,.sl 22)] (ih3 (c1.2.l',c1.2.n',c1.2.end',c1.2.at',c1.2.err',g1) h)))))
 exact ZO [(16,.sl 13),(17,.sl 15)] (ih N (B0.2.l',B0.2.n',B0.2.end',B0.2.at',B0.2.err',D0) h)
theorem Zvn (N:Nat) (rc:Z9->Option ((List ZS) × Z9)) (rcT:(∀ (c:Z9) (r:(List ZS) × Z9),rc c=some r->Fn Tryz.prog 82 ⟨2,[.B 0 0],[(1,.sl YD c.l')],[(0,.box (Y4 1 c) 108)],4,.S 2,[(3,.sl YD r.2.l')],[(2,.own Yi r.1 true),(0,.box (Y4 3 r.2) 108)]⟩)) (c:Z9) (r:(List ZS) × Z9) (h:Zhq N rc c=some r) :
 Fn Tryz.prog 82 ⟨2,[.B 0 0],[(1,.sl YD c.l')],[(0,.box (Y4 1 c) 108)],4,.S 2,[(3,.sl YD r.2.l')],[(2,.own Yi r.1 true),(0,.box (Y4 3 r.2) 108)]⟩:=by
 refine Z5 func82 rfl (fun E F w=>?_)
 unfold Zhq at h
 refine wa J 9 (Ye (σ:=(List T7) × Int × Int × Int × Int × (List ZS)) (fun st=>⟨[(0,.B 0 0),(3,.S 3)],[(0,.box [.sl 2,.I st.2.1,.I st.2.2.1,.I st.2.2.2.1,.I st.2.2.2.2.1] 108),(3,.own Yi st.2.2.2.2.2 true)],[(1,.sl YD c.l'),(2,.sl YD st.1)],4⟩) (fun n st=>BE N rc n st.1 st.2.1 st.2.2.1 st.2.2.2.1 st.2.2.2.2.1 st.2.2.2.2.2) (r:=r) (fun _=>rfl) ?_ (fun ih=>?_))
 ·intro n1 ih1
  rintro ⟨d,e,f,g,i,j⟩ h
  unfold BE at h
  refine wO J 4 h fun k l h=>ZR (PF N (⟨d,e,f,g,i⟩:Z9) _ l) [] [(0,.bp 0 0),(1,.sl 2)] ?_
  refine wB J 10 h (fun h=>oi h▸wr J 19 func82 [(2,.sl 3),(3,.sl 2)]) fun h=>?_
  refine wO J 2 h fun m o h=>ZR (U6 N k.ZG _ o) [] [] ?_
  refine ZU J 2 h (fun h=>?_) fun h=>Yy J [] oS ([(str [99,104,111,105,99,101]),(str [108,111,111,112]),(str [97,103,97,105,110]),(str [112,97,114]),(str [99,97,108,108])]:List ByteArray) ?_
  ·refine wO J 13 h fun p q h=>ZR (Zl1 N rc rcT (⟨d,e,f,g,i⟩:Z9) _ q) [] [(0,.bp 0 0),(1,.sl 2)] (Yy J [] Q4 ([p.1]:List ZS) ?_)
   have ⟨s,t,h⟩:=ob h
   exact YR J Yi t (wa J 3 (ZO [(2,.sl 7),(3,.sl 9)] (ih1 (p.2.l',p.2.n',p.2.end',p.2.at',p.2.err',s) h)))
  refine wO J 2 h fun u v h=>XA (R5 N ([(str [99,104,111,105,99,101]),(str [108,111,111,112]),(str [97,103,97,105,110]),(str [112,97,114]),(str [99,97,108,108])]:List ByteArray) k.ZG _ v) [] [(0,.sl 5)] [5] (.inr ⟨rfl,trivial⟩) ?_
  refine wB J 4 h (fun h=>oi h▸wr J 6 func82 [(2,.sl 3),(3,.sl 2)]) fun h=>?_
  refine wO J 5 h fun x y h=>ZR (Zl1 N rc rcT (⟨d,e,f,g,i⟩:Z9) _ y) [] [(0,.bp 0 0),(1,.sl 2)] (Yy J [] Q4 ([x.1]:List ZS) ?_)
  have ⟨z,A,h⟩:=ob h
  exact YR J Yi A (wa J 3 (ZO [(2,.sl 8),(3,.sl 10)] (ih1 (x.2.l',x.2.n',x.2.end',x.2.at',x.2.err',z) h)))
 exact ZO [(2,.sl 1),(3,.nil)] (ih N (c.l',c.n',c.end',c.at',c.err',([]:List ZS)) h)
theorem Zvp:∀ (N:Nat) (c:Z9) (r:(List ZS) × Z9) (h:Zdy N c=some r),Fn Tryz.prog 82 ⟨2,[.B 0 0],[(1,.sl YD c.l')],[(0,.box (Y4 1 c) 108)],4,.S 2,[(3,.sl YD r.2.l')],[(2,.own Yi r.1 true),(0,.box (Y4 3 r.2) 108)]⟩:=by
 intro N
 induction N with
 | zero=>intros;rename_i h;cases h
 | succ N ih=>intro c r h;exact Zvn N (Zdy N) ih c r h
theorem Zvo (N:Nat) (c:Z9) (r:(List ZS) × Z9) (h:z82 N c=some r):Fn Tryz.prog 82 ⟨2,[.B 0 0],[(1,.sl YD c.l')],[(0,.box (Y4 1 c) 108)],4,.S 2,[(3,.sl YD r.2.l')],[(2,.own Yi r.1 true),(0,.box (Y4 3 r.2) 108)]⟩:=Zvp N c r h
theorem ZuN (N:Nat) (c:Z9) (r:ZT × Z9) (h:z31 N c=some r) :
 Fn Tryz.prog 31 ⟨2,[.B 0 0],[(1,.sl YD c.l')],[(0,.box (Y4 1 c) 108)],6,.a [.s r.1.Zt,.sl 2,.sl 3,.sl 4],(YS 2 3 4 r.1 [(5,.sl YD r.2.l')]),[(0,.box (Y4 5 r.2) 108)]⟩:=by
 refine Z5 func31 rfl (fun E F w=>?_)
 unfold z31 at h
 refine wO J 7 h fun d e h=>ZR (XX N c (str [112,114,111,116,111,99,111,108]) _ e) [] [(0,.bp 0 0),(1,.sl 1)] ?_
 refine wO J 4 h fun f g h=>ZR (SD N d _ g) [] [(0,.bp 0 0),(1,.sl 3)] ?_
 refine wO J 7 h fun i j h=>ZR (XX N f.2 (str [40]) _ j) [] [(0,.bp 0 0),(1,.sl 4)] ?_
 refine wO J 4 h fun k l h=>ZR (Zhl N i _ l) [] [(0,.bp 0 0),(1,.sl 6)] ?_
 refine wO J 6 h fun m o h=>ZR (XX N k.2 (str [41]) _ o) [] [(0,.bp 0 0),(1,.sl 8)] ?_
 refine wO J 4 h fun p q h=>ZR (XX N m (str [123]) _ q) [] [(0,.bp 0 0),(1,.sl 9)] (wa J 2 (Z4 (σ:=(List T7) × Int × Int × Int × Int × (List Z2)) (fun st=>(ZmF st.2.1 st.2.2.1 st.2.2.2.1 st.2.2.2.2.1 f.1 k.1 st.2.2.2.2.2 c.l' st.1 [(0,.B 0 0),(2,.B 2 0),(3,.B 5 0)])) (fun st=>ZgR N f k st.1 st.2.1 st.2.2.1 st.2.2.2.1 st.2.2.2.2.1 st.2.2.2.2.2=some r) ?_ (fun j1=>?_)))
 ·rintro ⟨t,u,v,x,y,z⟩ h
  unfold ZgR at h
  refine wO J 3 h fun A C h=>ZR (Zvo N (⟨t,u,v,x,y⟩:Z9) _ C) [] [(0,.bp 0 0),(1,.sl 11)] ?_
  refine wO J 6 h fun D G h=>ZR (XX N A.2 (str [125]) _ G) [] [(0,.bp 0 0),(1,.sl 14)] (wa J 6 (WK [7] (WK [12] (WK [13] ?_))))
  cases h
  exact Y2 J func31 [(2,.sl 7),(3,.sl 12),(4,.sl 13),(5,.sl 15)]
 refine wa J 1 (Ye (σ:=(List T7) × Int × Int × Int × Int × (List Z2)) (fun st=>(ZmF st.2.1 st.2.2.1 st.2.2.2.1 st.2.2.2.2.1 f.1 k.1 st.2.2.2.2.2 c.l' st.1 [(0,.B 0 0),(2,.B 2 0),(3,.B 5 0)])) (fun n st=>ZcY N f k n st.1 st.2.1 st.2.2.1 st.2.2.2.1 st.2.2.2.2.1 st.2.2.2.2.2) (r:=r) (fun _=>rfl) ?_ (fun ih=>?_))
 ·intro n2 ih3
  rintro ⟨H,R,T,U,X,Y⟩ h
  unfold ZcY at h
  refine wO J 4 h fun Z a0 h=>ZR (WI N (⟨H,R,T,U,X⟩:Z9) (str [109,101,115,115,97,103,101]) _ a0) [] [(0,.bp 0 0),(1,.sl 11)] ?_
  refine ZU J 1 h (fun h=>wa J 2 (ZO [(11,.sl 13)] (j1 (Z.2.l',Z.2.n',Z.2.end',Z.2.at',Z.2.err',Y) h))) fun h=>?_
  refine wO J 7 h fun b0 c0 h=>ZR (Zvm N Z.2 _ c0) [] [(0,.bp 0 0),(1,.sl 13)] (Yy J [] Ut ([b0.1]:List Z2) ?_)
  have ⟨e0,g0,h⟩:=ob h
  exact YR J YX g0 (wa J 2 (Yn (wa J 1 (ZO [(11,.sl 16),(12,.sl 18)] (ih3 (b0.2.l',b0.2.n',b0.2.end',b0.2.at',b0.2.err',e0) h)))))
 exact ZO [(11,.sl 10),(12,.nil)] (ih N (p.l',p.n',p.end',p.at',p.err',([]:List Z2)) h)
theorem ZtG (N:Nat) (d:ByteArray) (r:Bool) (h:ZbT N d=some r) :
 Fn Tryz.prog 152 ⟨0,[.c (.s d)],[],[],0,.O r,[],[]⟩:=by
 refine Z5 func152 rfl (fun E F w=>?_)
 unfold ZbT at h
 refine wO J 7 h fun e f h=>ZR (U6 N d _ f) [] [] ?_
 exact oi h▸wr J 3 func152 []
theorem Zt2 (N:Nat) (d:(List ByteArray)) (r:Int) (h:Zb8 N d=some r) :
 Fn Tryz.prog 178 ⟨1,[.S 0,.c (.cl 152 [] [])],[(0,.sl rS d)],[],1,.I r,[],[]⟩:=by
 refine Z5 func178 rfl (fun E F w=>?_)
 unfold Zb8 at h
 refine wa J 11 (Z4 (σ:=Unit) (fun st=>(Ug d [])) (fun st=>Zb9=some r) ?_ (fun j1=>?_))
 ·intro _ h
  unfold Zb9 at h
  exact oi h▸wr J 4 func178 []
 refine wa J 1 (Ye (σ:=Int) (fun st=>(Ug d [(0,.S 0),(1,.c (.cl 152 [] [])),(7,.I (d.length:Int)),(8,.I st)])) (fun n st=>PO N d n st) (r:=r) (fun _=>rfl) ?_ (fun ih=>?_))
 ·intro n2 ih3
  intro e h
  unfold PO at h
  refine ZU J 5 h (fun h=>wa J 2 (ZO [] (j1 () h))) fun h=>?_
  refine wO J 14 h fun f g h=>Ya J oS g ?_
  refine wO J 1 h fun i j h=>ZR (ZtG N f _ j) [] [] ?_
  exact wB J 1 h (fun h=>oi h▸wr J 6 func178 []) fun h=>wa J 7 (ZO [] (ih3 (ZN (e+1)) h))
 exact ZO [] (ih N 0 h)
theorem Ztu (N:Nat) (d:(List ByteArray)) (r:Bool) (h:ZbC N d=some r) :
 Fn Tryz.prog 136 ⟨1,[.S 0,.c (.cl 152 [] [])],[(0,.sl rS d)],[],1,.O r,[],[]⟩:=by
 refine Z5 func136 rfl (fun E F w=>?_)
 unfold ZbC at h
 refine wO J 8 h fun e f h=>ZR (Zt2 N d _ f) [] [(0,.sl 0)] ?_
 exact oi h▸wr J 3 func136 []
theorem Zhr (N:Nat) (c:(List ByteArray)) (d:Int) (r:Bool) (h:My N c d=some r) :
 Fn Tryz.prog 83 ⟨1,[.S 0,.I d],[(0,.sl rS c)],[],1,.O r,[],[]⟩:=by
 refine Z5 func83 rfl (fun E F w=>?_)
 unfold My at h
 refine ZU J 10 h (fun h=>oi h▸wr J 12 func83 []) fun h=>?_
 refine ZU J 6 h (fun h=>oi h▸wr J 6 func83 []) fun h=>?_
 refine wO J 1 h fun e f h=>ZR (Ztu N c _ f) [] [(0,.sl 0)] ?_
 exact oi h▸wr J 4 func83 []
theorem Zmd (N:Nat) (d:ByteArray) (r:Int) (h:ZcL N d=some r) :
 Fn Tryz.prog 239 ⟨0,[.c (.s d)],[],[],0,.I r,[],[]⟩:=by
 refine Z5 func239 rfl (fun E F w=>?_)
 unfold ZcL at h
 refine wa J 8 (eRn J (fun bk1=>wa J 1 (Z4 (σ:=Int × Nat) (fun st=>(HS (Vn bk1 d st.2) [(2,.I st.1)])) (fun st=>ZgJ st.1 st.2=some r) ?_ (fun j1=>?_))))
 ·rintro ⟨e,vi0_1⟩ h
  unfold ZgJ at h
  exact oi h▸wr J 5 func239 []
 refine wa J 1 (Ye (σ:=Int × Nat) (fun st=>(HS (Vn bk1 d st.2) [(2,.I st.1),(4,.c (.v (.pointer (some ⟨bk1,0,none⟩))))])) (fun n st=>ZcM d n st.1 st.2) (r:=r) (fun _=>rfl) ?_ (fun ih=>?_))
 ·intro n2 ih3
  rintro ⟨f,vi0_3⟩ h
  unfold ZcM at h
  obtain ⟨K,h⟩|⟨K,h⟩:=oc h
  ·exact wa J 2 (eNt bk1 0 K (wa J 12 (ZO [] (ih3 ((ZN (f+1)),(vi0_3+(Utf8.decode d vi0_3).2)) h))))
  exact wa J 2 (eNf bk1 0 K (wa J 5 (ZO [] (j1 (f,vi0_3) h))))
 exact ZO [] (ih N (0,(0:Nat)) h)
theorem Zme (N:Nat) (d:ByteArray) (r:Int × Int) (h:ZcQ N d=some r) :
 Fn Tryz.prog 247 ⟨0,[.c (.s d)],[],[],0,.t [.inl (.i .i32 r.1),.inl (.I r.2)],[],[]⟩:=by
 refine Z5 func247 rfl (fun E F w=>?_)
 unfold ZcQ at h
 refine wB J 17 h (fun h=>oi h▸wr J 6 func247 []) fun h=>?_
 refine wO J 5 h fun e f h=>XV J f ?_
 cases h
theorem ZuF (N:Nat) (d:ByteArray) (r:Int × Int) (h:ZgK N d=some r) :
 Fn Tryz.prog 240 ⟨0,[.c (.s d)],[],[],0,.t [.inl (.i .i32 r.1),.inl (.I r.2)],[],[]⟩:=by
 refine Z5 func240 rfl (fun E F w=>?_)
 unfold ZgK at h
 refine ZU J 11 h (fun h=>?_) fun h=>?_
 ·refine wO J 8 h fun e f h=>ZR (Zme N d _ f) [] [] ?_
  exact oi h▸wr J 6 func240 []
 refine wO J 1 h fun g j h=>XV J j ?_
 refine wB J 3 h (fun h=>?_) fun h=>?_
 ·refine wO J 4 h fun k l h=>XV J l ?_
  exact oi h▸wr J 4 func240 []
 refine wO J 3 h fun m o h=>ZR (Zme N d _ o) [] [] ?_
 exact oi h▸wr J 6 func240 []
theorem Zuu (N:Nat) (d:ByteArray) (e:Int) (r:(List ByteArray)) (h:ZgD N d e=some r) :
 Fn Tryz.prog 221 ⟨0,[.c (.s d),.I e],[],[],1,.S 0,[],[(0,.own rS r true)]⟩:=by
 refine Z5 func221 rfl (fun E F w=>?_)
 unfold ZgD at h
 refine wO J 7 h fun f g h=>ZR (Zmd N d _ g) [] [] ?_
 refine wa J 8 (Z4 (σ:=Bool) (fun st=>(WZ [(0,.c (.s d)),(1,.I e),(5,.I f),(18,.O st)])) (fun st=>ZcG N d e f st=some r) ?_ (fun j1=>?_))
 ·intro i h
  unfold ZcG at h
  refine Z4 (σ:=Int) (fun st=>(WZ [(0,.c (.s d)),(1,.I st)])) (fun st=>ZcF N d st=some r) ?_ (fun j2=>?_)
  ·intro j h
   unfold ZcF at h
   refine wO J 3 h fun k l h=>Ge J oS l (wa J 7 (Z4 (σ:=ByteArray × (List ByteArray)) (fun st=>(ZdU st.2 [(0,.c (.s st.1)),(1,.I j),(6,.S 0)])) (fun st=>ZgE j st.1 st.2=some r) ?_ (fun j3=>?_)))
   ·rintro ⟨m,o⟩ h
    unfold ZgE at h
    refine ZU J 6 h (fun h=>oi h▸wr J 7 func221 [(0,.sl 0)]) fun h=>?_
    refine wO J 6 h fun p q h=>Y7 J rS q (WL J [] oS m q ?_)
    exact oi h▸wr J 6 func221 [(0,.sl 0)]
   refine wa J 1 (Ye (σ:=ByteArray × (List ByteArray) × Int) (fun st=>(ZdU st.2.1 [(0,.c (.s st.1)),(1,.I j),(6,.S 0),(7,.I st.2.2)])) (fun n st=>ZcH N j n st.1 st.2.1 st.2.2) (r:=r) (fun _=>rfl) ?_ (fun ih=>?_))
   ·intro n2 ih5
    rintro ⟨t,u,v⟩ h
    unfold ZcH at h
    refine ZU J 8 h (fun h=>wa J 2 (ZO [] (j3 (t,u) h))) fun h=>?_
    refine wO J 7 h fun x y h=>ZR (ZuF N t _ y) [] [] ?_
    refine wO J 12 h fun z A h=>VD J A ?_
    have ⟨C,D,h⟩:=ob h
    refine Y7 J rS D (WL J [] oS z D ?_)
    exact wO J 4 h fun G H h=>VD J H (wa J 8 (ZO [] (ih5 (G,(YQ u v z),(ZN (v+1))) h)))
   exact ZO [] (ih N (d,k,0) h)
  exact eB h (fun h=>wa J 5 (ZO [] (j2 f h))) fun h=>wa J 2 (ZO [] (j2 e h))
 exact eB h (fun h=>wa J 5 (ZO [] (j1 true h))) fun h=>wa J 5 (ZO [] (j1 (decide (e > f)) h))
theorem Zuv (N:Nat) (d:ByteArray) (e:ByteArray) (r:Int) (h:z222 N d e=some r) :
 Fn Tryz.prog 222 ⟨0,[.c (.s d),.c (.s e)],[],[],0,.I r,[],[]⟩:=by
 refine Z5 func222 rfl (fun E F w=>?_)
 unfold z222 at h
 refine wB J 11 h (fun h=>?_) fun h=>?_
 ·refine wO J 4 h fun f g h=>ZR (Zmd N d _ g) [] [] ?_
  exact oi h▸wr J 3 func222 []
 refine wB J 9 h (fun h=>?_) fun h=>wa J 7 (Ye (σ:=ByteArray × Int) (fun st=>(WZ [(0,.c (.s st.1)),(1,.c (.s e)),(5,.I st.2)])) (fun n st=>ZcI N e n st.1 st.2) (r:=r) (fun _=>rfl) ?_ (fun ih=>?_))
 ·refine wO J 5 h fun i j h=>XV J j (eEx (ZoJ func241 (by kernel_rfl) (by kernel_rfl) (by kernel_rfl) (by kernel_rfl) d i) (fun _=>trivial) ?_)
  exact oi h▸wr J 2 func222 []
 ·intro n1 ih1
  rintro ⟨k,l⟩ h
  unfold ZcI at h
  refine wO J 5 h fun m o h=>ZR (Zgx N k e _ o) [] [] ?_
  refine wB J 8 h (fun h=>oi h▸wr J 6 func222 []) fun h=>?_
  exact wO J 14 h fun p q h=>VD J q (wa J 3 (ZO [] (ih1 (p,(ZN (l+1))) h)))
 exact ZO [] (ih N (d,0) h)
theorem Zuc (N:Nat) (d:ByteArray) (e:ByteArray) (f:Int) (g:Int) (r:(List ByteArray)) (h:Zch N d e f g=some r) :
 Fn Tryz.prog 188 ⟨0,[.c (.s d),.c (.s e),.I f,.I g],[],[],1,.S 0,[],[(0,.own rS r true)]⟩:=by
 refine Z5 func188 rfl (fun E F w=>?_)
 unfold Zch at h
 refine wB J 10 h (fun h=>oi h▸wr J 5 func188 [(0,.nil)]) fun h=>?_
 refine wB J 8 h (fun h=>?_) fun h=>wa J 8 (Z4 (σ:=Int) (fun st=>(WZ [(0,.c (.s d)),(1,.c (.s e)),(2,.I f),(3,.I st)])) (fun st=>DJ N d e f st=some r) ?_ (fun j1=>?_))
 ·refine wO J 5 h fun i j h=>ZR (Zuu N d g _ j) [] [] ?_
  exact oi h▸wr J 2 func188 [(0,.sl 0)]
 ·intro k h
  unfold DJ at h
  refine wO J 12 h fun l m h=>Ge J oS m (wa J 13 (Z4 (σ:=ByteArray × (List ByteArray) × Int) (fun st=>(ZdU st.2.1 [(0,.c (.s st.1)),(9,.S 0),(10,.I st.2.2)])) (fun st=>L8 st.1 st.2.1 st.2.2=some r) ?_ (fun j2=>?_)))
  ·rintro ⟨o,p,q⟩ h
   unfold L8 at h
   refine wO J 5 h fun t u h=>Y7 J rS u (WL J [] oS o u ?_)
   refine wO J 6 h fun v x h=>Gg J rS x (wa J 2 (eSl rS 2 x ?_))
   cases h
   exact Y2 J func188 [(0,.sl 2)]
  refine wa J 1 (Ye (σ:=ByteArray × (List ByteArray) × Int) (fun st=>(ZdU st.2.1 [(0,.c (.s st.1)),(1,.c (.s e)),(2,.I f),(3,.I (ZN ((XJ k (ZN ((d.size:Int)+1)))-1))),(9,.S 0),(10,.I st.2.2)])) (fun n st=>Qh N d e f k n st.1 st.2.1 st.2.2) (r:=r) (fun _=>rfl) ?_ (fun ih=>?_))
  ·intro n2 ih4
   rintro ⟨y,z,A⟩ h
   unfold Qh at h
   refine ZU J 7 h (fun h=>wa J 2 (ZO [] (j2 (y,z,A) h))) fun h=>?_
   refine wO J 7 h fun C D h=>ZR (Zgx N y e _ D) [] [] ?_
   refine wB J 8 h (fun h=>wa J 2 (ZO [] (j2 (y,z,A) h))) fun h=>?_
   refine wO J 10 h fun G H h=>VD J H ?_
   have ⟨R,T,h⟩:=ob h
   refine Y7 J rS T (WL J [] oS G T ?_)
   exact wO J 8 h fun U X h=>VD J X (wa J 8 (ZO [] (ih4 (U,(YQ z A G),(ZN (A+1))) h)))
  exact ZO [] (ih N (d,l,0) h)
 refine Xf h (fun h=>wa J 2 (ZO [] (j1 g h))) fun h=>?_
 exact wO J 4 h fun Y Z h=>ZR (Zuv N d e _ Z) [] [] (wa J 3 (ZO [] (j1 (ZN (Y+1)) h)))
theorem Ztw (N:Nat) (d:ByteArray) (e:ByteArray) (r:(List ByteArray)) (h:Dm N d e=some r) :
 Fn Tryz.prog 137 ⟨0,[.c (.s d),.c (.s e)],[],[],1,.S 0,[],[(0,.own rS r true)]⟩:=by
 refine Z5 func137 rfl (fun E F w=>?_)
 unfold Dm at h
 refine wO J 8 h fun f g h=>ZR (Zuc N d e 0 (-1) _ g) [] [] ?_
 exact oi h▸wr J 2 func137 [(0,.sl 0)]
theorem Ztx (N:Nat) (d:ByteArray) (r:Bool) (h:ZbE N d=some r) :
 Fn Tryz.prog 138 ⟨0,[.c (.s d)],[],[],0,.O r,[],[]⟩:=by
 refine Z5 func138 rfl (fun E F w=>?_)
 unfold ZbE at h
 refine wO J 7 h fun e f h=>ZR (U6 N d _ f) [] [] ?_
 exact oi h▸wr J 3 func138 []
theorem Zt4 (N:Nat) (d:(List ByteArray)) (r:Int) (h:Zca N d=some r) :
 Fn Tryz.prog 178 ⟨1,[.S 0,.c (.cl 138 [] [])],[(0,.sl rS d)],[],1,.I r,[],[]⟩:=by
 refine Z5 func178 rfl (fun E F w=>?_)
 unfold Zca at h
 refine wa J 11 (Z4 (σ:=Unit) (fun st=>(Ug d [])) (fun st=>Zcc=some r) ?_ (fun j1=>?_))
 ·intro _ h
  unfold Zcc at h
  exact oi h▸wr J 4 func178 []
 refine wa J 1 (Ye (σ:=Int) (fun st=>(Ug d [(0,.S 0),(1,.c (.cl 138 [] [])),(7,.I (d.length:Int)),(8,.I st)])) (fun n st=>PQ N d n st) (r:=r) (fun _=>rfl) ?_ (fun ih=>?_))
 ·intro n2 ih3
  intro e h
  unfold PQ at h
  refine ZU J 5 h (fun h=>wa J 2 (ZO [] (j1 () h))) fun h=>?_
  refine wO J 14 h fun f g h=>Ya J oS g ?_
  refine wO J 1 h fun i j h=>ZR (Ztx N f _ j) [] [] ?_
  exact wB J 1 h (fun h=>oi h▸wr J 6 func178 []) fun h=>wa J 7 (ZO [] (ih3 (ZN (e+1)) h))
 exact ZO [] (ih N 0 h)
theorem Ztv (N:Nat) (d:(List ByteArray)) (r:Bool) (h:ZbD N d=some r) :
 Fn Tryz.prog 136 ⟨1,[.S 0,.c (.cl 138 [] [])],[(0,.sl rS d)],[],1,.O r,[],[]⟩:=by
 refine Z5 func136 rfl (fun E F w=>?_)
 unfold ZbD at h
 refine wO J 8 h fun e f h=>ZR (Zt4 N d _ f) [] [(0,.sl 0)] ?_
 exact oi h▸wr J 3 func136 []
theorem Bq (N:Nat) (d:ByteArray) (r:Bool) (h:SB N d=some r) :
 Fn Tryz.prog 62 ⟨0,[.c (.s d)],[],[],0,.O r,[],[]⟩:=by
 refine Z5 func62 rfl (fun E F w=>?_)
 unfold SB at h
 refine ZU J 10 h (fun h=>oi h▸wr J 7 func62 []) fun h=>?_
 refine wO J 1 h fun e f h=>ZR (Ztw N d (str [46]) _ f) [] [] ?_
 have ⟨g,i,h⟩:=ob h
 refine XA (Ztv N e _ i) [] [(0,.sl 0)] [0] (.inr ⟨rfl,trivial⟩) ?_
 exact oi h▸wr J 4 func62 []
theorem ZtH (N:Nat) (c:ZS) (r:Bool) (h:Dp N c=some r) :
 Fn Tryz.prog 153 ⟨2,[.a [.I c.Zq,.s c.ZA,.sl 0,.s c.Zt,.s c.As,.I c.ZB,.sl 1]],[(0,.sl rS c.To),(1,.sl (Yx Yi) c.ZC)],[],2,.O r,[],[]⟩:=by
 refine Z5 func153 rfl (fun E F w=>?_)
 unfold Dp at h
 refine wB J 24 h (fun h=>?_) fun h=>?_
 ·refine wO J 5 h fun d e h=>ZR (U6 N c.ZA _ e) [] [] ?_
  refine ZU J 1 h (fun h=>oi h▸wr J 25 func153 []) fun h=>?_
  refine wO J 2 h fun f g h=>ZR (Zhr N c.To 5 _ g) [] [(0,.sl 0)] ?_
  refine ZU J 2 h (fun h=>oi h▸wr J 20 func153 []) fun h=>?_
  refine wO J 2 h fun i j h=>ZR (Bq N c.Zt _ j) [] [] ?_
  refine ZU J 2 h (fun h=>oi h▸wr J 15 func153 []) fun h=>?_
  refine ZU J 5 h (fun h=>oi h▸wr J 10 func153 []) fun h=>?_
  exact wB J 5 h (fun h=>oi h▸wr J 5 func153 []) fun h=>oi h▸wr J 5 func153 []
 refine wB J 6 h (fun h=>?_) fun h=>wa J 7 (Z4 (σ:=Bool) (fun st=>⟨[(1,.B 2 0),(3,.I (c.ZC.length:Int)),(8,.I c.Zq),(81,.O st)],[(2,.box [.I c.Zq,.s c.ZA,.sl 0,.s c.Zt,.s c.As,.I c.ZB,.sl 1] 140)],[(0,.sl rS c.To),(1,.sl (Yx Yi) c.ZC)],3⟩) (fun st=>PH N c st=some r) ?_ (fun j1=>?_))
 ·refine wO J 5 h fun k l h=>ZR (U6 N c.ZA _ l) [] [] ?_
  refine ZU J 1 h (fun h=>oi h▸wr J 39 func153 []) fun h=>?_
  refine ZU J 6 h (fun h=>oi h▸wr J 33 func153 []) fun h=>?_
  refine ZU J 5 h (fun h=>oi h▸wr J 28 func153 []) fun h=>?_
  refine ZU J 5 h (fun h=>oi h▸wr J 23 func153 []) fun h=>?_
  refine ZU J 5 h (fun h=>oi h▸wr J 18 func153 []) fun h=>?_
  refine ZU J 5 h (fun h=>oi h▸wr J 13 func153 []) fun h=>?_
  exact wB J 8 h (fun h=>oi h▸wr J 5 func153 []) fun h=>oi h▸wr J 5 func153 []
 ·intro m h
  unfold PH at h
  refine eB h (fun h=>?_) fun h=>?_
  ·refine ZU J 7 h (fun h=>oi h▸wr J 34 func153 []) fun h=>?_
   refine ZU J 6 h (fun h=>oi h▸wr J 28 func153 []) fun h=>?_
   refine wO J 2 h fun o p h=>ZR (Bq N c.Zt _ p) [] [] ?_
   refine ZU J 2 h (fun h=>oi h▸wr J 23 func153 []) fun h=>?_
   refine ZU J 5 h (fun h=>oi h▸wr J 18 func153 []) fun h=>?_
   refine ZU J 5 h (fun h=>oi h▸wr J 13 func153 []) fun h=>?_
   exact wB J 8 h (fun h=>oi h▸wr J 5 func153 []) fun h=>oi h▸wr J 5 func153 []
  refine wB J 6 h (fun h=>?_) fun h=>?_
  ·refine ZU J 7 h (fun h=>oi h▸wr J 30 func153 []) fun h=>?_
   refine ZU J 6 h (fun h=>oi h▸wr J 24 func153 []) fun h=>?_
   refine ZU J 5 h (fun h=>oi h▸wr J 19 func153 []) fun h=>?_
   refine ZU J 5 h (fun h=>oi h▸wr J 14 func153 []) fun h=>?_
   refine ZU J 5 h (fun h=>oi h▸wr J 9 func153 []) fun h=>?_
   exact wB J 4 h (fun h=>oi h▸wr J 5 func153 []) fun h=>oi h▸wr J 5 func153 []
  refine ZU J 6 h (fun h=>oi h▸wr J 7 func153 []) fun h=>?_
  refine ZU J 7 h (fun h=>oi h▸wr J 25 func153 []) fun h=>?_
  refine wO J 2 h fun q t h=>ZR (Zhr N c.To 6 _ t) [] [(0,.sl 0)] ?_
  refine ZU J 2 h (fun h=>oi h▸wr J 20 func153 []) fun h=>?_
  refine wO J 2 h fun u v h=>ZR (U6 N c.Zt _ v) [] [] ?_
  refine ZU J 2 h (fun h=>oi h▸wr J 15 func153 []) fun h=>?_
  refine wO J 2 h fun x y h=>ZR (U6 N c.As _ y) [] [] ?_
  refine ZU J 2 h (fun h=>oi h▸wr J 10 func153 []) fun h=>?_
  exact wB J 5 h (fun h=>oi h▸wr J 5 func153 []) fun h=>oi h▸wr J 5 func153 []
 exact eB h (fun h=>wa J 2 (ZO [] (j1 true h))) fun h=>wa J 5 (ZO [] (j1 (c.Zq==4) h))
theorem Zvq (N:Nat) (rc:(List ZS)->Int->Int->Option (Bool × Int)) (rcT:(∀ (c:(List ZS)) (d:Int) (e:Int) (r:Bool × Int),rc c d e=some r->Fn Tryz.prog 84 ⟨2,[.S 0,.I d,.B 1 0],[(0,.sl Yi c)],[(1,.box [.I e] 3)],2,.O r.1,[],[(1,.box [.I r.2] 3)]⟩)) (c:(List ZS)) (d:Int) (e:Int) (r:Bool × Int) (h:BF N rc c d e=some r) :
 Fn Tryz.prog 84 ⟨2,[.S 0,.I d,.B 1 0],[(0,.sl Yi c)],[(1,.box [.I e] 3)],2,.O r.1,[],[(1,.box [.I r.2] 3)]⟩:=by
 refine Z5 func84 rfl (fun E F w=>?_)
 unfold BF at h
 refine wa J 11 (Z4 (σ:=Int) (fun st=>⟨[],[(1,.box [.I st] 3)],[(0,.sl Yi c)],2⟩) (fun st=>Zdz st=some r) ?_ (fun j1=>?_))
 ·intro f h
  unfold Zdz at h
  exact oi h▸wr J 4 func84 []
 refine wa J 1 (Ye (σ:=Int × Int) (fun st=>⟨[(1,.I d),(2,.B 1 0),(11,.S 0),(12,.I (c.length:Int)),(13,.I st.2)],[(1,.box [.I st.1] 3)],[(0,.sl Yi c)],2⟩) (fun n st=>RB N rc c d n st.1 st.2) (r:=r) (fun _=>rfl) ?_ (fun ih=>?_))
 ·intro n12 ih12
  rintro ⟨g,i⟩ h
  unfold RB at h
  refine ZU J 5 h (fun h=>wa J 2 (ZO [] (j1 g h))) fun h=>?_
  refine wO J 6 h fun j k h=>Ya J Q4 k ?_
  refine wB J 19 h (fun h=>oi h▸wr J 16 func84 []) fun h=>?_
  refine wB J 6 h (fun h=>oi h▸wr J 10 func84 []) fun h=>?_
  refine wO J 1 h fun l m h=>ZR (ZtH N j _ m) [] [(0,.sl 3),(1,.sl 4)] ?_
  refine wB J 3 h (fun h=>oi h▸wr J 5 func84 []) fun h=>wa J 9 (Z4 (σ:=Int) (fun st=>⟨[(1,.I d),(2,.B 1 0),(11,.S 0),(12,.I (c.length:Int)),(13,.I i)],[(1,.box [.I st] 3)],[(0,.sl Yi c)],6⟩) (fun st=>ZdA i (RB N rc c d n12) st=some r) ?_ (fun j19=>?_))
  ·intro o h
   unfold ZdA at h
   exact wa J 5 (ZO [] (ih12 (o,(ZN (i+1))) h))
  refine wa J 1 (Ye (σ:=Int × Int) (fun st=>⟨[(1,.I d),(2,.B 1 0),(11,.S 0),(12,.I (c.length:Int)),(13,.I i),(36,.S 4),(37,.I (j.ZC.length:Int)),(38,.I st.2)],[(1,.box [.I st.1] 3)],[(0,.sl Yi c),(4,.sl (Yx Yi) j.ZC)],6⟩) (fun n st=>Mz rc d i (RB N rc c d n12) j n st.1 st.2) (r:=r) (fun _=>rfl) ?_ (fun ih=>?_))
  ·intro n14 ih21
   rintro ⟨p,q⟩ h
   unfold Mz at h
   refine ZU J 5 h (fun h=>wa J 2 (ZO [] (j19 p h))) fun h=>?_
   refine wO J 6 h fun s t h=>Ya J (Y8 Yi) t ?_
   refine wO J 9 h fun u v h=>ZR (rcT s (ZN (d+1)) p _ v) [] [(0,.sl 7),(1,.bp 1 0)] ?_
   exact wB J 2 h (fun h=>oi h▸wr J 5 func84 []) fun h=>wa J 7 (ZO [] (ih21 (u.2,(ZN (q+1))) h))
  exact ZO [] (ih N ((ZN (g+1)),0) h)
 exact ZO [] (ih N (e,0) h)
theorem Zvs:∀ (N:Nat) (c:(List ZS)) (d:Int) (e:Int) (r:Bool × Int) (h:ZdB N c d e=some r),Fn Tryz.prog 84 ⟨2,[.S 0,.I d,.B 1 0],[(0,.sl Yi c)],[(1,.box [.I e] 3)],2,.O r.1,[],[(1,.box [.I r.2] 3)]⟩:=by
 intro N
 induction N with
 | zero=>intros;rename_i h;cases h
 | succ N ih=>intro c d e r h;exact Zvq N (ZdB N) ih c d e r h
theorem Zvr (N:Nat) (c:(List ZS)) (d:Int) (e:Int) (r:Bool × Int) (h:HJ N c d e=some r):Fn Tryz.prog 84 ⟨2,[.S 0,.I d,.B 1 0],[(0,.sl Yi c)],[(1,.box [.I e] 3)],2,.O r.1,[],[(1,.box [.I r.2] 3)]⟩:=Zvs N c d e r h
theorem Zuh (N:Nat) (c:Int) (r:Bool) (h:Zct N c=some r) :
 Fn Tryz.prog 197 ⟨0,[.I c],[],[],0,.O r,[],[]⟩:=by
 refine Z5 func197 rfl (fun E F w=>?_)
 unfold Zct at h
 exact wB J 9 h (fun h=>oi h▸wr J 5 func197 []) fun h=>oi h▸wr J 5 func197 []
theorem Zl2 (N:Nat) (c:Yq) (r:Bool) (h:LQ N c=some r) :
 Fn Tryz.prog 154 ⟨0,[.a (Xp c)],[],[],0,.O r,[],[]⟩:=by
 refine Z5 func154 rfl (fun E F w=>?_)
 unfold LQ at h
 refine wO J 10 h fun d e h=>ZR (Zuh N c.N _ e) [] [] ?_
 refine wB J 2 h (fun h=>oi h▸wr J 5 func154 []) fun h=>?_
 refine wB J 14 h (fun h=>?_) fun h=>wa J 7 (Z4 (σ:=Bool) (fun st=>⟨[(1,.B 0 0),(19,.O st)],[(0,.box (Xp c) 76)],[],1⟩) (fun st=>PI N c st=some r) ?_ (fun j1=>?_))
 ·exact wB J 7 h (fun h=>oi h▸wr J 6 func154 []) fun h=>oi h▸wr J 6 func154 []
 ·intro f h
  unfold PI at h
  refine Xf h (fun h=>oi h▸wr J 7 func154 []) fun h=>?_
  refine wO J 5 h fun g i h=>ZR (U6 N c.Field _ i) [] [] ?_
  refine ZU J 1 h (fun h=>oi h▸wr J 11 func154 []) fun h=>?_
  refine wB J 4 h (fun h=>oi h▸wr J 7 func154 []) fun h=>?_
  refine wO J 2 h fun j k h=>ZR (Bq N c.Zv _ k) [] [] ?_
  exact oi h▸wr J 4 func154 []
 exact eB h (fun h=>wa J 2 (ZO [] (j1 true h))) fun h=>wa J 5 (ZO [] (j1 (c.Zq==3) h))
theorem Zvt (N:Nat) (c:Z2) (r:Bool) (h:BG N c=some r) :
 Fn Tryz.prog 85 ⟨2,[.a [.s c.Zt,.sl 0,.sl 1]],(XC 0 1 c []),[],2,.O r,[],[]⟩:=by
 refine Z5 func85 rfl (fun E F w=>?_)
 unfold BG at h
 refine wO J 10 h fun d e h=>ZR (Bq N c.Zt _ e) [] [] ?_
 refine wB J 2 h (fun h=>oi h▸wr J 17 func85 []) fun h=>?_
 refine wB J 6 h (fun h=>oi h▸wr J 11 func85 []) fun h=>?_
 refine wB J 6 h (fun h=>oi h▸wr J 5 func85 []) fun h=>wa J 10 (Z4 (σ:=Unit) (fun st=>⟨[(1,.B 2 0)],[(2,.box [.s c.Zt,.sl 0,.sl 1] 64)],(XC 0 1 c []),3⟩) (fun st=>ZdD N c=some r) ?_ (fun j1=>?_))
 ·intro _ h
  unfold ZdD at h
  refine wa J 8 (Z4 (σ:=Unit) (fun st=>⟨[],[],(XC 0 1 c []),3⟩) (fun st=>ZdC=some r) ?_ (fun j6=>?_))
  ·intro _ h
   unfold ZdC at h
   exact oi h▸wr J 4 func85 []
  refine wa J 1 (Ye (σ:=Int) (fun st=>⟨[(74,.S 1),(75,.I (c.Zz.length:Int)),(76,.I st)],[],(XC 0 1 c []),3⟩) (fun n st=>HL N c n st) (r:=r) (fun _=>rfl) ?_ (fun ih=>?_))
  ·intro n3 ih8
   intro f h
   unfold HL at h
   refine ZU J 5 h (fun h=>wa J 2 (ZO [] (j6 () h))) fun h=>?_
   refine wO J 6 h fun g i h=>Ya J Q3 i ?_
   refine wO J 8 h fun j k h=>ZR (Zl2 N g.Zw _ k) [] [] ?_
   refine wB J 2 h (fun h=>wa J 12 (Yn (oi h▸wr J 5 func85 []))) fun h=>?_
   refine wO J 2 h fun l m h=>ZR (Zl2 N g.Zx _ m) [] [] ?_
   refine wB J 3 h (fun h=>wa J 6 (Yn (oi h▸wr J 5 func85 []))) fun h=>?_
   have ⟨o,p,h⟩:=ob h
   refine ZR (Zl3 N _ p) [] [] ?_
   refine wO J 2 h fun q t h=>XA (R5 N o g.Op _ t) [] [(0,.sl 5)] [5] (.inr ⟨rfl,trivial⟩) (wa J 2 (Yn ?_))
   exact eB h (fun h=>oi h▸wr J 5 func85 []) fun h=>wa J 7 (ZO [] (ih8 (ZN (f+1)) h))
  exact ZO [] (ih N 0 h)
 refine wa J 1 (Ye (σ:=Int) (fun st=>⟨[(1,.B 2 0),(25,.S 0),(26,.I (c.Zy.length:Int)),(27,.I st)],[(2,.box [.s c.Zt,.sl 0,.sl 1] 64)],(XC 0 1 c []),3⟩) (fun n st=>SF N c n st) (r:=r) (fun _=>rfl) ?_ (fun ih=>?_))
 ·intro n4 ih9
  intro u h
  unfold SF at h
  refine ZU J 5 h (fun h=>wa J 2 (ZO [] (j1 () h))) fun h=>?_
  refine wO J 6 h fun v x h=>Ya J XK x (wa J 16 (Z4 (σ:=Int) (fun st=>⟨[(1,.B 2 0),(4,.B 4 0),(5,.I st),(25,.S 0),(26,.I (c.Zy.length:Int)),(27,.I u)],[(2,.box [.s c.Zt,.sl 0,.sl 1] 64),(4,.box (XZ v) 69)],(XC 0 1 c []),5⟩) (fun st=>HK N u (SF N c n4) v st=some r) ?_ (fun j12=>?_)))
  ·intro y h
   unfold HK at h
   refine wO J 4 h fun z A h=>ZR (U6 N v.Zt _ A) [] [] ?_
   refine wB J 2 h (fun h=>oi h▸wr J 38 func85 []) fun h=>?_
   refine ZU J 5 h (fun h=>?_) fun h=>?_
   ·refine wB J 18 h (fun h=>oi h▸wr J 15 func85 []) fun h=>?_
    exact wB J 10 h (fun h=>oi h▸wr J 5 func85 []) fun h=>wa J 7 (ZO [] (ih9 (ZN (u+1)) h))
   refine wB J 7 h (fun h=>oi h▸wr J 26 func85 []) fun h=>?_
   refine wB J 11 h (fun h=>oi h▸wr J 15 func85 []) fun h=>?_
   exact wB J 10 h (fun h=>oi h▸wr J 5 func85 []) fun h=>wa J 7 (ZO [] (ih9 (ZN (u+1)) h))
  exact eB h (fun h=>wa J 4 (ZO [] (j12 0 h))) fun h=>wa J 2 (ZO [] (j12 (-999999) h))
 exact ZO [] (ih N 0 h)
theorem Rn (N:Nat) (d:List ByteArray) (e:ByteArray) (r:ByteArray) (h:VQ N d e=some r):Fn Tryz.prog 157 ⟨1,[.S 0,.c (.s e)],[(0,.sl rS d)],[],1,.c (.s r),[],[]⟩:=by
  unfold VQ at h
  cases hb:(decide (d.length<=140737488355328) && decide ((Wq e.data.toList (d.map (·.data.toList))).length<=140737488355328)) with
  | false=>rw [hb] at h;cases h
  | true =>
    rw [hb] at h
    simp only [cond_true,Option.some.injEq] at h
    subst h
    simp only [Zc,decide_eq_true_eq] at hb
    exact ZpM d e hb.1 hb.2
theorem ZkW (l:List UInt8):∀ n:Nat,Go.Lib.repeatL l n=Lh l n
 | 0=>rfl
 | n+1=>by show l++Go.Lib.repeatL l n=l++Lh l n;rw [ZkW l n]
theorem ZgX (N:Nat) (d:ByteArray) (e:Int) (r:ByteArray) (h:Qo N d e=some r):Fn Tryz.prog 38 ⟨0,[.c (.s d),.I e],[],[],0,.c (.s r),[],[]⟩:=by
 unfold Qo at h
 cases hb:((decide (0<=e) && decide (e<=140737488355328)) && decide (d.size * e.toNat<=140737488355328)) with
 | false=>rw [hb] at h;cases h
 | true =>
  rw [hb] at h
  simp only [cond_true,Option.some.injEq] at h
  subst h
  simp only [Zc,decide_eq_true_eq] at hb
  obtain ⟨⟨h1,h2⟩,h3⟩:=hb
  obtain ⟨c,rfl⟩:=Int.eq_ofNat_of_zero_le h1
  have:=ZrM d c (by omega) h3
  rw [ZkW] at this
  exact this
theorem ZtR (N:Nat) (c:Yk) (r:Yk) (h:ZbZ N c=some r) :
 Fn Tryz.prog 168 ⟨1,[.B 0 0],[],[(0,.box [.v (.pointer none),.nil,.I c.depth'] 241)],2,.t [],[],[(1,.buf r.Builder 5),(0,.box [.bp 0 0,.sl 1,.I r.depth'] 241)]⟩:=by
 refine Z5 func168 rfl (fun E F w=>?_)
 unfold ZbZ at h
 refine wa J 6 (ePz (wa J 5 (eCu (eNe func202 (by kernel_rfl) (by kernel_rfl) (by kernel_rfl) (by kernel_rfl) (eCq ?_)))))
 exact oi h▸wr J 4 func168 [(1,.nil)]
theorem Zvz (N:Nat) (d:ByteArray) (e:Yk) (r:Int × Unit × Yk) (h:ZdP N d e=some r) :
 Fn Tryz.prog 97 ⟨1,[.B 0 0,.c (.s d)],[],[(0,.box [.v (.pointer none),.nil,.I e.depth'] 241)],2,.t [.inl (.I r.1),.inl (.v .nilIface)],[],[(1,.buf r.2.2.Builder 5),(0,.box [.bp 0 0,.sl 1,.I r.2.2.depth'] 241)]⟩:=by
 refine Z5 func97 rfl (fun E F w=>?_)
 unfold ZdP at h
 refine wO J 8 h fun f g h=>ZR (ZtR N (⟨ByteArray.empty,e.depth'⟩:Yk) _ g) [] [(0,.bp 0 0)] ?_
 refine wO J 9 h fun i j h=>eBt (ty:=5) J j ?_
 exact oi h▸wr J 11 func97 [(1,.sl 2)]
theorem ZtI (N:Nat) (c:(List ByteArray)) (d:Yk) (r:Yk) (h:Dr N c d=some r) :
 Fn Tryz.prog 156 ⟨2,[.B 1 0,.S 0],[(0,.sl rS c)],[(1,.box [.v (.pointer none),.nil,.I d.depth'] 241)],3,.t [],[],[(2,.buf r.Builder 5),(1,.box [.bp 1 0,.sl 2,.I r.depth'] 241)]⟩:=by
 refine Z5 func156 rfl (fun E F w=>?_)
 unfold Dr at h
 refine wO J 8 h fun e f h=>ZR (ZgX N (str [9]) d.depth' _ f) [] [] ?_
 refine wO J 1 h fun g i h=>ZR (Rn N c (str []) _ i) [] [(0,.sl 0)] ?_
 have ⟨j,k,h⟩:=ob h
 refine Yt k ?_
 have ⟨l,m,h⟩:=ob h
 refine Yt m ?_
 have ⟨o,p,h⟩:=ob h
 refine ZR (Zvz N l (⟨ByteArray.empty,d.depth'⟩:Yk) _ p) [] [(0,.bp 1 0)] (Yn ?_)
 cases h
 exact Y2 J func156 [(2,.sl 2)]
theorem Hb (N:Nat) (d:Int) (r:ByteArray) (h:TF N d=some r):Fn Tryz.prog 198 ⟨1,[.I d],[],[(0,.abs powT)],1,.c (.s r),[],[(0,.abs powT)]⟩:=by
 unfold TF at h
 cases hb:(decide ((-9223372036854775808)<=d) && decide (d<=9223372036854775807)) with
 | false=>rw [hb] at h;cases h
 | true =>
  rw [hb] at h
  simp only [cond_true,Option.some.injEq] at h
  subst h
  simp only [Zc,decide_eq_true_eq] at hb
  exact Zpt d hb.1 hb.2
theorem Zma (N:Nat) (d:Yq) (r:ByteArray) (h:P1 N d=some r) :
 Fn Tryz.prog 199 ⟨1,[.a (Xp d)],[],[(0,.abs powT)],1,.c (.s r),[],[(0,.abs powT)]⟩:=by
 refine Z5 func199 rfl (fun E F w=>?_)
 unfold P1 at h
 refine wB J 12 h (fun h=>?_) fun h=>wa J 15 (Z4 (σ:=ByteArray) (fun st=>⟨[(1,.B 1 0),(3,.c (.s st))],[(0,.abs powT),(1,.box (Xp d) 76)],[],2⟩) (fun st=>Qj N d st=some r) ?_ (fun j1=>?_))
 ·refine wO J 5 h fun e f h=>ZR (Hb N d.N _ f) [] [(0,.sl 0)] ?_
  exact oi h▸wr J 2 func199 []
 ·intro g h
  unfold Qj at h
  refine wa J 7 (Z4 (σ:=ByteArray) (fun st=>⟨[(1,.B 1 0),(3,.c (.s st))],[(0,.abs powT),(1,.box (Xp d) 76)],[],2⟩) (fun st=>Qi N d st=some r) ?_ (fun j2=>?_))
  ·intro i h
   unfold Qi at h
   refine wB J 9 h (fun h=>?_) fun h=>?_
   ·refine wO J 5 h fun j k h=>ZR (Hb N d.N _ k) [] [(0,.sl 0)] ?_
    have ⟨l,m,h⟩:=ob h
    refine Yt m ?_
    have ⟨o,p,h⟩:=ob h
    refine Yt p ?_
    exact oi h▸wr J 8 func199 []
   refine ZU J 8 h (fun h=>oi h▸wr J 8 func199 []) fun h=>?_
   refine wO J 6 h fun q t h=>ZR (Hb N (ZN (0-d.N)) _ t) [] [(0,.sl 0)] ?_
   have ⟨u,v,h⟩:=ob h
   refine Yt v ?_
   have ⟨x,y,h⟩:=ob h
   refine Yt y ?_
   exact oi h▸wr J 8 func199 []
  refine Xf h (fun h=>wa J 2 (ZO [] (j2 g h))) fun h=>?_
  refine wO J 3 h fun z A h=>Yt A ?_
  have ⟨C,D,h⟩:=ob h
  exact Yt D (wa J 2 (ZO [] (j2 C h)))
 refine Xf h (fun h=>wa J 2 (ZO [] (j1 d.Field h))) fun h=>?_
 refine wO J 4 h fun G H h=>Yt H ?_
 exact wO J 1 h fun R T h=>Yt T (wa J 2 (ZO [] (j1 R h)))
theorem ZtS (N:Nat) (c:Yk) (r:Unit) (h:Zb0 N c=some r) :
 Fn Tryz.prog 168 ⟨2,[.B 0 0],[],[(0,.box [.bp 0 0,.sl 1,.I c.depth'] 241),(1,.buf c.Builder 5)],2,.t [],[],[(0,.box [.bp 0 0,.sl 1,.I c.depth'] 241),(1,.buf c.Builder 5)]⟩:=by
 refine Z5 func168 rfl (fun E F w=>?_)
 unfold Zb0 at h
 refine wa J 6 (ePn false (wa J 9 (ePs ?_)))
 cases h
 exact wr J 3 func168 []
theorem Zvy (N:Nat) (d:ByteArray) (e:Yk) (r:Int × Unit × Yk) (h:ZdO N d e=some r) :
 Fn Tryz.prog 97 ⟨2,[.B 0 0,.c (.s d)],[],[(0,.box [.bp 0 0,.sl 1,.I e.depth'] 241),(1,.buf e.Builder 5)],3,.t [.inl (.I r.1),.inl (.v .nilIface)],[],[(1,.gone),(2,.buf r.2.2.Builder 5),(0,.box [.bp 0 0,.sl 2,.I r.2.2.depth'] 241)]⟩:=by
 refine Z5 func97 rfl (fun E F w=>?_)
 unfold ZdO at h
 refine wO J 8 h fun f g h=>ZR (ZtS N e _ g) [] [(0,.bp 0 0),(1,.sl 1)] ?_
 refine wO J 9 h fun i j h=>eBt (ty:=5) J j ?_
 exact oi h▸wr J 11 func97 [(2,.sl 2)]
theorem Ux (N:Nat) (c:(List ByteArray)) (d:Yk) (r:Yk) (h:WR N c d=some r) :
 Fn Tryz.prog 156 ⟨3,[.B 1 0,.S 0],[(0,.sl rS c)],[(1,.box [.bp 1 0,.sl 2,.I d.depth'] 241),(2,.buf d.Builder 5)],4,.t [],[],[(2,.gone),(3,.buf r.Builder 5),(1,.box [.bp 1 0,.sl 3,.I r.depth'] 241)]⟩:=by
 refine Z5 func156 rfl (fun E F w=>?_)
 unfold WR at h
 refine wO J 8 h fun e f h=>ZR (ZgX N (str [9]) d.depth' _ f) [] [] ?_
 refine wO J 1 h fun g i h=>ZR (Rn N c (str []) _ i) [] [(0,.sl 0)] ?_
 have ⟨j,k,h⟩:=ob h
 refine Yt k ?_
 have ⟨l,m,h⟩:=ob h
 refine Yt m ?_
 have ⟨o,p,h⟩:=ob h
 refine ZR (Zvy N l d _ p) [] [(0,.bp 1 0),(1,.sl 2)] (Yn ?_)
 cases h
 exact Y2 J func156 [(3,.sl 3)]
theorem Zl4 (N:Nat) (d:Z2) (e:Yk) (r:Yk) (h:PJ N d e=some r) :
 Fn Tryz.prog 158 ⟨5,[.B 2 0,.a [.s d.Zt,.sl 0,.sl 1]],(XC 0 1 d []),[(2,.box [.bp 2 0,.sl 3,.I e.depth'] 241),(3,.buf e.Builder 5),(4,.abs powT)],6,.t [],[],[(3,.gone),(5,.buf r.Builder 5),(2,.box [.bp 2 0,.sl 5,.I r.depth'] 241),(4,.abs powT)]⟩:=by
 refine Z5 func158 rfl (fun E F w=>?_)
 unfold PJ at h
 refine wa J 17 (Z4 (σ:=(List ByteArray)) (fun st=>(ZmG e.depth' e.Builder powT d.Zt st d [(0,.B 2 0),(3,.B 5 0),(4,.S 6),(5,.c .nil)])) (fun st=>Dt N d e st=some r) ?_ (fun j1=>?_))
 ·intro f h
  unfold Dt at h
  refine wa J 8 (Z4 (σ:=(List ByteArray)) (fun st=>(ZmH e.depth' e.Builder powT d.Zt f st d [(0,.B 2 0),(3,.B 5 0),(4,.S 6),(5,.S 7)])) (fun st=>Ds N d e f st=some r) ?_ (fun j6=>?_))
  ·intro g h
   unfold Ds at h
   refine ZU J 11 h (fun h=>?_) fun h=>?_
   ·refine wO J 7 h fun i j h=>XA (Rn N f (str [44,32]) _ j) [] [(0,.sl 6)] [6] (.inr ⟨rfl,trivial⟩) (wa J 1 (Yy J [] oS ([(str [109,101,115,115,97,103,101,32]),d.Zt,(str [40]),i,(str [41]),(str []),(str [59])]:List ByteArray) ?_))
    have ⟨k,l,h⟩:=ob h
    refine ZR (Ux N ([(str [109,101,115,115,97,103,101,32]),d.Zt,(str [40]),i,(str [41]),(str []),(str [59])]:List ByteArray) e _ l) [8] [(0,.sl 8),(1,.bp 2 0),(2,.sl 3)] (Yn ?_)
    cases h
    exact Y2 J func158 [(5,.sl 9)]
   refine wO J 3 h fun m o h=>XA (Rn N g (str [32,97,110,100,32]) _ o) [] [(0,.sl 7)] [7] (.inr ⟨rfl,trivial⟩) ?_
   have ⟨p,q,h⟩:=ob h
   refine Yt q ?_
   refine wO J 7 h fun u v h=>XA (Rn N f (str [44,32]) _ v) [] [(0,.sl 6)] [6] (.inr ⟨rfl,trivial⟩) (wa J 1 (Yy J [] oS ([(str [109,101,115,115,97,103,101,32]),d.Zt,(str [40]),u,(str [41]),p,(str [59])]:List ByteArray) ?_))
   have ⟨x,y,h⟩:=ob h
   refine ZR (Ux N ([(str [109,101,115,115,97,103,101,32]),d.Zt,(str [40]),u,(str [41]),p,(str [59])]:List ByteArray) e _ y) [8] [(0,.sl 8),(1,.bp 2 0),(2,.sl 3)] (Yn ?_)
   cases h
   exact Y2 J func158 [(5,.sl 9)]
  refine wa J 1 (Ye (σ:=(List ByteArray) × Int) (fun st=>(ZmH e.depth' e.Builder powT d.Zt f st.1 d [(0,.B 2 0),(3,.B 5 0),(4,.S 6),(5,.S 7),(43,.S 1),(44,.I (d.Zz.length:Int)),(45,.I st.2)])) (fun n st=>PK N d e f n st.1 st.2) (r:=r) (fun _=>rfl) ?_ (fun ih=>?_))
  ·intro n3 ih8
   rintro ⟨z,A⟩ h
   unfold PK at h
   refine ZU J 5 h (fun h=>wa J 2 (ZO [] (j6 z h))) fun h=>?_
   refine wO J 6 h fun C D h=>Ya J Q3 D ?_
   refine wO J 8 h fun G H h=>ZR (Zma N C.Zw _ H) [] [(0,.sl 4)] ?_
   have ⟨R,T,h⟩:=ob h
   refine Yt T ?_
   refine wO J 2 h fun U X h=>Yt X ?_
   have ⟨Y,Z,h⟩:=ob h
   refine Yt Z ?_
   refine wO J 2 h fun a0 b0 h=>ZR (Zma N C.Zx _ b0) [] [(0,.sl 4)] ?_
   have ⟨c0,e0,h⟩:=ob h
   refine Yt e0 (Yy J [] oS ([c0]:List ByteArray) ?_)
   have ⟨g0,i0,h⟩:=ob h
   exact YR J rS i0 (wa J 1 (Yn (wa J 5 (ZO [(7,.sl 11)] (ih8 (g0,(ZN (A+1))) h)))))
  exact ZO [(7,.nil)] (ih N (([]:List ByteArray),0) h)
 refine wa J 1 (Ye (σ:=(List ByteArray) × Int) (fun st=>(ZmG e.depth' e.Builder powT d.Zt st.1 d [(0,.B 2 0),(3,.B 5 0),(4,.S 6),(5,.c .nil),(13,.S 0),(14,.I (d.Zy.length:Int)),(15,.I st.2)])) (fun n st=>Ro N d e n st.1 st.2) (r:=r) (fun _=>rfl) ?_ (fun ih=>?_))
 ·intro n4 ih9
  rintro ⟨j0,k0⟩ h
  unfold Ro at h
  refine ZU J 5 h (fun h=>wa J 2 (ZO [] (j1 j0 h))) fun h=>?_
  refine wO J 6 h fun l0 m0 h=>Ya J XK m0 (wa J 16 (Z4 (σ:=ByteArray) (fun st=>⟨[(0,.B 2 0),(3,.B 5 0),(4,.S 6),(5,.c .nil),(7,.B 8 0),(8,.c (.s st)),(13,.S 0),(14,.I (d.Zy.length:Int)),(15,.I k0)],[(2,.box [.bp 2 0,.sl 3,.I e.depth'] 241),(3,.buf e.Builder 5),(4,.abs powT),(5,.box [.s d.Zt,.sl 0,.sl 1] 64),(6,.own rS j0 true),(8,.box (XZ l0) 69)],(XC 0 1 d []),9⟩) (fun st=>LU N j0 k0 (Ro N d e n4) l0 st=some r) ?_ (fun j12=>?_)))
  ·intro o0 h
   unfold LU at h
   refine wO J 5 h fun p0 q0 h=>Yt q0 ?_
   refine wO J 3 h fun s0 t0 h=>ZR (Hb N l0.Zu.Lo _ t0) [] [(0,.sl 4)] ?_
   have ⟨u0,v0,h⟩:=ob h
   refine Yt v0 ?_
   have ⟨x0,y0,h⟩:=ob h
   refine Yt y0 ?_
   refine wO J 3 h fun z0 A0 h=>ZR (Hb N l0.Zu.Hi _ A0) [] [(0,.sl 4)] ?_
   have ⟨B0,C0,h⟩:=ob h
   refine Yt C0 (Yy J [] oS ([B0]:List ByteArray) ?_)
   have ⟨D0,G0,h⟩:=ob h
   exact YR J rS G0 (wa J 1 (Yn (wa J 5 (ZO [(6,.sl 10)] (ih9 (D0,(ZN (k0+1))) h)))))
  exact eB h (fun h=>wa J 4 (ZO [] (j12 (str [58,32,116,101,120,116,32]) h))) fun h=>wa J 2 (ZO [] (j12 (str [58,32,105,110,116,32]) h))
 exact ZO [(6,.nil)] (ih N (([]:List ByteArray),0) h)
theorem Zcv (N:Nat) (rc:(List ZS)->Yk->Option Yk) (rcT:(∀ (d:(List ZS)) (e:Yk) (r:Yk),rc d e=some r->Fn Tryz.prog 159 ⟨4,[.B 1 0,.S 0],[(0,.sl Yi d)],[(1,.box [.bp 1 0,.sl 2,.I e.depth'] 241),(2,.buf e.Builder 5),(3,.abs powT)],5,.t [],[],[(2,.gone),(4,.buf r.Builder 5),(1,.box [.bp 1 0,.sl 4,.I r.depth'] 241),(3,.abs powT)]⟩)) (f:ByteArray) (g:ByteArray) (i:ByteArray) (d:(List (List ZS))) (e:Yk) (r:Yk) (h:Rs N rc f g i d e=some r) :
 Fn Tryz.prog 200 ⟨4,[.B 1 0,.c (.s f),.c (.s g),.c (.s i),.S 0],[(0,.sl (Yx Yi) d)],[(1,.box [.bp 1 0,.sl 2,.I e.depth'] 241),(2,.buf e.Builder 5),(3,.abs powT)],5,.t [],[],[(2,.gone),(4,.buf r.Builder 5),(1,.box [.bp 1 0,.sl 4,.I r.depth'] 241),(3,.abs powT)]⟩:=by
 refine Z5 func200 rfl (fun E F w=>?_)
 unfold Rs at h
 refine wa J 7 (Z4 (σ:=ByteArray × Int) (fun st=>⟨[(0,.B 1 0)],[(1,.box [.bp 1 0,.sl 4,.I st.2] 241),(3,.abs powT),(4,.buf st.1 5)],[(0,.sl (Yx Yi) d)],5⟩) (fun st=>Zcw N st.1 st.2=some r) ?_ (fun j1=>?_))
 ·rintro ⟨j,k⟩ h
  unfold Zcw at h
  refine wa J 2 (Yy J [] oS ([(str [125])]:List ByteArray) ?_)
  have ⟨l,m,h⟩:=ob h
  refine ZR (Ux N ([(str [125])]:List ByteArray) (⟨j,k⟩:Yk) _ m) [5] [(0,.sl 5),(1,.bp 1 0),(2,.sl 4)] ?_
  exact oi h▸wr J 1 func200 [(4,.sl 6)]
 refine wa J 1 (Ye (σ:=ByteArray × Int × Int) (fun st=>⟨[(0,.B 1 0),(1,.c (.s f)),(2,.c (.s g)),(3,.c (.s i)),(4,.S 0),(12,.S 0),(13,.I (d.length:Int)),(14,.I st.2.2)],[(1,.box [.bp 1 0,.sl 4,.I st.2.1] 241),(3,.abs powT),(4,.buf st.1 5)],[(0,.sl (Yx Yi) d)],5⟩) (fun n st=>U4 N rc f g i d n st.1 st.2.1 st.2.2) (r:=r) (fun _=>rfl) ?_ (fun ih=>?_))
 ·intro n2 ih6
  rintro ⟨o,p,q⟩ h
  unfold U4 at h
  refine ZU J 5 h (fun h=>wa J 2 (ZO [] (j1 (o,p) h))) fun h=>?_
  refine wO J 7 h fun u v h=>Ya J (Y8 Yi) v (wa J 12 (Z4 (σ:=ByteArray × Int) (fun st=>⟨[(0,.B 1 0),(1,.c (.s f)),(2,.c (.s g)),(3,.c (.s i)),(4,.S 0),(11,.S 6),(12,.S 0),(13,.I (d.length:Int)),(14,.I q)],[(1,.box [.bp 1 0,.sl 7,.I st.2] 241),(3,.abs powT),(7,.buf st.1 5)],[(0,.sl (Yx Yi) d),(6,.sl Yi u)],8⟩) (fun st=>Qk rc q (U4 N rc f g i d n2) u st.1 st.2=some r) ?_ (fun j9=>?_)))
  ·rintro ⟨x,y⟩ h
   unfold Qk at h
   exact wO J 16 h fun z A h=>ZR (rcT u (⟨x,(ZN (y+1))⟩:Yk) _ A) [] [(0,.sl 6),(1,.bp 1 0),(2,.sl 7),(3,.sl 3)] (wa J 16 (ZO [(4,.sl 8)] (ih6 (z.Builder,(ZN (z.depth'-1)),(ZN (q+1))) h)))
  refine eB h (fun h=>wa J 4 (Yy J [] oS ([f,(str [32,123])]:List ByteArray) ?_)) fun h=>?_
  ·have ⟨C,D,h⟩:=ob h
   exact ZR (Ux N ([f,(str [32,123])]:List ByteArray) (⟨o,p⟩:Yk) _ D) [7] [(0,.sl 7),(1,.bp 1 0),(2,.sl 4)] (wa J 1 (ZO [(7,.sl 8)] (j9 (C.Builder,C.depth') h)))
  refine ZU J 9 h (fun h=>wa J 9 (Yy J [] oS ([(str [125,32]),g,(str [32,123])]:List ByteArray) ?_)) fun h=>?_
  ·have ⟨G,H,h⟩:=ob h
   exact ZR (Ux N ([(str [125,32]),g,(str [32,123])]:List ByteArray) (⟨o,p⟩:Yk) _ H) [7] [(0,.sl 7),(1,.bp 1 0),(2,.sl 4)] (wa J 1 (ZO [(7,.sl 8)] (j9 (G.Builder,G.depth') h)))
  refine wB J 5 h (fun h=>wa J 4 (Yy J [] oS ([(str [125,32]),i,(str [32,123])]:List ByteArray) ?_)) fun h=>wa J 4 (Yy J [] oS ([(str [125,32]),g,(str [32,123])]:List ByteArray) ?_)
  ·have ⟨R,T,h⟩:=ob h
   exact ZR (Ux N ([(str [125,32]),i,(str [32,123])]:List ByteArray) (⟨o,p⟩:Yk) _ T) [7] [(0,.sl 7),(1,.bp 1 0),(2,.sl 4)] (wa J 1 (ZO [(7,.sl 8)] (j9 (R.Builder,R.depth') h)))
  have ⟨U,X,h⟩:=ob h
  exact ZR (Ux N ([(str [125,32]),g,(str [32,123])]:List ByteArray) (⟨o,p⟩:Yk) _ X) [7] [(0,.sl 7),(1,.bp 1 0),(2,.sl 4)] (wa J 1 (ZO [(7,.sl 8)] (j9 (U.Builder,U.depth') h)))
 exact ZO [(4,.sl 2)] (ih N (e.Builder,e.depth',0) h)
theorem ZtJ (N:Nat) (rc:(List ZS)->Yk->Option Yk) (rcT:(∀ (c:(List ZS)) (d:Yk) (r:Yk),rc c d=some r->Fn Tryz.prog 159 ⟨4,[.B 1 0,.S 0],[(0,.sl Yi c)],[(1,.box [.bp 1 0,.sl 2,.I d.depth'] 241),(2,.buf d.Builder 5),(3,.abs powT)],5,.t [],[],[(2,.gone),(4,.buf r.Builder 5),(1,.box [.bp 1 0,.sl 4,.I r.depth'] 241),(3,.abs powT)]⟩)) (c:(List ZS)) (d:Yk) (r:Yk) (h:Du N rc c d=some r) :
 Fn Tryz.prog 159 ⟨4,[.B 1 0,.S 0],[(0,.sl Yi c)],[(1,.box [.bp 1 0,.sl 2,.I d.depth'] 241),(2,.buf d.Builder 5),(3,.abs powT)],5,.t [],[],[(2,.gone),(4,.buf r.Builder 5),(1,.box [.bp 1 0,.sl 4,.I r.depth'] 241),(3,.abs powT)]⟩:=by
 refine Z5 func159 rfl (fun E F w=>?_)
 unfold Du at h
 refine wa J 6 (Z4 (σ:=ByteArray × Int) (fun st=>⟨[],[(1,.box [.bp 1 0,.sl 4,.I st.2] 241),(3,.abs powT),(4,.buf st.1 5)],[(0,.sl Yi c)],5⟩) (fun st=>ZbU st.1 st.2=some r) ?_ (fun j1=>?_))
 ·rintro ⟨e,f⟩ h
  unfold ZbU at h
  cases h
  exact Y2 J func159 [(4,.sl 4)]
 refine wa J 1 (Ye (σ:=ByteArray × Int × Int) (fun st=>⟨[(0,.B 1 0),(6,.S 0),(7,.I (c.length:Int)),(8,.I st.2.2)],[(1,.box [.bp 1 0,.sl 4,.I st.2.1] 241),(3,.abs powT),(4,.buf st.1 5)],[(0,.sl Yi c)],5⟩) (fun n st=>VR N rc c n st.1 st.2.1 st.2.2) (r:=r) (fun _=>rfl) ?_ (fun ih=>?_))
 ·intro n2 ih3
  rintro ⟨g,i,j⟩ h
  unfold VR at h
  refine ZU J 5 h (fun h=>wa J 2 (ZO [] (j1 (g,i) h))) fun h=>?_
  refine wO J 6 h fun k l h=>Ya J Q4 l ?_
  refine wB J 15 h (fun h=>?_) fun h=>?_
  ·refine wO J 7 h fun m o h=>ZR (Rn N k.To (str [44,32]) _ o) [] [(0,.sl 6)] (wa J 2 (Yy J [] oS ([k.ZA,(str [32,45,62,32]),m,(str [58,32]),k.Zt,(str [59])]:List ByteArray) ?_))
   have ⟨p,q,h⟩:=ob h
   exact ZR (Ux N ([k.ZA,(str [32,45,62,32]),m,(str [58,32]),k.Zt,(str [59])]:List ByteArray) (⟨g,i⟩:Yk) _ q) [9] [(0,.sl 9),(1,.bp 1 0),(2,.sl 4)] (Yn (wa J 6 (ZO [(4,.sl 10)] (ih3 (p.Builder,p.depth',(ZN (j+1))) h))))
  refine wB J 6 h (fun h=>?_) fun h=>?_
  ·refine ZU J 7 h (fun h=>?_) fun h=>?_
   ·refine wO J 5 h fun s u h=>Yt u ?_
    exact wO J 2 h fun v x h=>ZR (Zcv N rc rcT s (str [111,114]) (str []) k.ZC (⟨g,i⟩:Yk) _ x) [] [(0,.sl 7),(1,.bp 1 0),(2,.sl 4),(3,.sl 3)] (wa J 7 (ZO [(4,.sl 9)] (ih3 (v.Builder,v.depth',(ZN (j+1))) h)))
   refine wO J 5 h fun y z h=>Yt z ?_
   have ⟨A,C,h⟩:=ob h
   refine Yt C ?_
   refine wO J 2 h fun D G h=>ZR (Hb N k.ZB _ G) [] [(0,.sl 3)] ?_
   have ⟨H,R,h⟩:=ob h
   refine Yt R ?_
   exact wO J 2 h fun T U h=>ZR (Zcv N rc rcT H (str [111,114]) (str [101,108,115,101]) k.ZC (⟨g,i⟩:Yk) _ U) [] [(0,.sl 7),(1,.bp 1 0),(2,.sl 4),(3,.sl 3)] (Yn (wa J 6 (ZO [(4,.sl 9)] (ih3 (T.Builder,T.depth',(ZN (j+1))) h))))
  refine wB J 6 h (fun h=>?_) fun h=>?_
  ·refine wO J 5 h fun X Y h=>Yt Y ?_
   exact wO J 2 h fun Z a0 h=>ZR (Zcv N rc rcT X (str []) (str []) k.ZC (⟨g,i⟩:Yk) _ a0) [] [(0,.sl 7),(1,.bp 1 0),(2,.sl 4),(3,.sl 3)] (wa J 7 (ZO [(4,.sl 9)] (ih3 (Z.Builder,Z.depth',(ZN (j+1))) h)))
  refine wB J 6 h (fun h=>wa J 5 (Yy J [] oS ([(str [97,103,97,105,110,32]),k.Zt,(str [59])]:List ByteArray) ?_)) fun h=>?_
  ·have ⟨b0,c0,h⟩:=ob h
   exact ZR (Ux N ([(str [97,103,97,105,110,32]),k.Zt,(str [59])]:List ByteArray) (⟨g,i⟩:Yk) _ c0) [9] [(0,.sl 9),(1,.bp 1 0),(2,.sl 4)] (wa J 7 (ZO [(4,.sl 10)] (ih3 (b0.Builder,b0.depth',(ZN (j+1))) h)))
  refine wB J 6 h (fun h=>?_) fun h=>?_
  ·exact wO J 5 h fun e0 g0 h=>ZR (Zcv N rc rcT (str [112,97,114]) (str [97,110,100]) (str []) k.ZC (⟨g,i⟩:Yk) _ g0) [] [(0,.sl 7),(1,.bp 1 0),(2,.sl 4),(3,.sl 3)] (wa J 7 (ZO [(4,.sl 9)] (ih3 (e0.Builder,e0.depth',(ZN (j+1))) h)))
  refine ZU J 6 h (fun h=>wa J 8 (ZO [] (ih3 (g,i,(ZN (j+1))) h))) fun h=>?_
  refine wO J 7 h fun i0 j0 h=>ZR (Rn N k.To (str [44,32]) _ j0) [] [(0,.sl 6)] (wa J 2 (Yy J [] oS ([(str [99,97,108,108,32]),k.Zt,(str [40]),i0,(str [41,32,97,115,32]),k.As,(str [59])]:List ByteArray) ?_))
  have ⟨k0,l0,h⟩:=ob h
  exact ZR (Ux N ([(str [99,97,108,108,32]),k.Zt,(str [40]),i0,(str [41,32,97,115,32]),k.As,(str [59])]:List ByteArray) (⟨g,i⟩:Yk) _ l0) [9] [(0,.sl 9),(1,.bp 1 0),(2,.sl 4)] (Yn (wa J 6 (ZO [(4,.sl 10)] (ih3 (k0.Builder,k0.depth',(ZN (j+1))) h))))
 exact ZO [(4,.sl 2)] (ih N (d.Builder,d.depth',0) h)
theorem ZtK:∀ (N:Nat) (c:(List ZS)) (d:Yk) (r:Yk) (h:ZbV N c d=some r),Fn Tryz.prog 159 ⟨4,[.B 1 0,.S 0],[(0,.sl Yi c)],[(1,.box [.bp 1 0,.sl 2,.I d.depth'] 241),(2,.buf d.Builder 5),(3,.abs powT)],5,.t [],[],[(2,.gone),(4,.buf r.Builder 5),(1,.box [.bp 1 0,.sl 4,.I r.depth'] 241),(3,.abs powT)]⟩:=by
 intro N
 induction N with
 | zero=>intros;rename_i h;cases h
 | succ N ih=>intro c d r h;exact ZtJ N (ZbV N) ih c d r h
theorem Zl5 (N:Nat) (c:(List ZS)) (d:Yk) (r:Yk) (h:Rp N c d=some r):Fn Tryz.prog 159 ⟨4,[.B 1 0,.S 0],[(0,.sl Yi c)],[(1,.box [.bp 1 0,.sl 2,.I d.depth'] 241),(2,.buf d.Builder 5),(3,.abs powT)],5,.t [],[],[(2,.gone),(4,.buf r.Builder 5),(1,.box [.bp 1 0,.sl 4,.I r.depth'] 241),(3,.abs powT)]⟩:=ZtK N c d r h
theorem ZvA (N:Nat) (d:Yk) (r:ByteArray) (h:HP N d=some r) :
 Fn Tryz.prog 99 ⟨2,[.B 0 0],[],[(0,.box [.bp 0 0,.sl 1,.I d.depth'] 241),(1,.buf d.Builder 5)],2,.c (.s r),[],[(0,.box [.bp 0 0,.sl 1,.I d.depth'] 241),(1,.gone)]⟩:=by
 refine Z5 func99 rfl (fun E F w=>?_)
 unfold HP at h
 refine wO J 10 h fun e f h=>eUd (ty:=5) (Zjs f) (wa J 4 (eBl (sb:=d.Builder) (ty:=5) J ?_))
 have ⟨g,i,h⟩:=ob h
 refine eUs (ty:=5) (Zjs i) (wa J 1 (Yn ?_))
 cases h
 exact Y2 J func99 []
theorem ZvB (N:Nat) (d:Yk) (r:ByteArray) (h:ZhC N d=some r) :
 Fn Tryz.prog 99 ⟨1,[.B 0 0],[],[(0,.box [.v (.pointer none),.nil,.I d.depth'] 241)],1,.c (.s r),[],[(0,.box [.v (.pointer none),.nil,.I d.depth'] 241)]⟩:=by
 refine Z5 func99 rfl (fun E F w=>?_)
 unfold ZhC at h
 refine wa J 10 (eUn (wa J 5 (eUz (wa J 1 (Yn ?_)))))
 cases h
 exact Y2 J func99 []
theorem Zvu (N:Nat) (d:(List ZT)) (r:ByteArray) (h:BH N d=some r) :
 Fn Tryz.prog 86 ⟨2,[.S 0],[(0,.sl Ys d)],[(1,.abs powT)],2,.c (.s r),[],[(1,.abs powT)]⟩:=by
 refine Z5 func86 rfl (fun E F w=>?_)
 unfold BH at h
 refine wa J 18 (ePl ?_)
 refine ZU J 5 h (fun h=>?_) fun h=>?_
 ·refine wO J 7 h fun e f h=>ZR (ZvB N (⟨ByteArray.empty,0⟩:Yk) _ f) [] [(0,.bp 2 0)] ?_
  exact oi h▸wr J 2 func86 []
 refine wO J 6 h fun g i h=>Ya J Vp i ?_
 refine wO J 11 h fun j k h=>ZR (Rn N g.ZD (str [44,32]) _ k) [] [(0,.sl 4)] (Yy J [] oS ([(str [112,114,111,116,111,99,111,108,32]),g.Zt,(str [40]),j,(str [41,32,123])]:List ByteArray) ?_)
 have ⟨l,m,h⟩:=ob h
 refine ZR (ZtI N ([(str [112,114,111,116,111,99,111,108,32]),g.Zt,(str [40]),j,(str [41,32,123])]:List ByteArray) (⟨ByteArray.empty,0⟩:Yk) _ m) [8] [(0,.sl 8),(1,.bp 2 0)] (Yn (wa J 19 (Z4 (σ:=ByteArray × Int) (fun st=>(ZmI powT st.2 g.Zt st.1 d g [(3,.B 2 0),(5,.B 7 0),(10,.S 0),(11,.I (d.length:Int)),(12,.I 0)])) (fun st=>BJ N d g st.1 st.2=some r) ?_ (fun j15=>?_))))
 ·rintro ⟨o,p⟩ h
  unfold BJ at h
  refine wO J 5 h fun q t h=>ZR (Zl5 N g.ZF (⟨o,p⟩:Yk) _ t) [] [(0,.sl 6),(1,.bp 2 0),(2,.sl 10),(3,.sl 1)] (wa J 14 (Yy J [] oS ([(str [125])]:List ByteArray) ?_))
  have ⟨u,v,h⟩:=ob h
  refine ZR (Ux N ([(str [125])]:List ByteArray) (⟨q.Builder,(ZN (q.depth'-1))⟩:Yk) _ v) [12] [(0,.sl 12),(1,.bp 2 0),(2,.sl 11)] (wa J 6 (Zot (σ:=ByteArray × Int × Int) (fun st=>⟨[(3,.B 2 0),(10,.S 0),(11,.I (d.length:Int)),(12,.I st.2.2)],[(1,.abs powT),(2,.box [.bp 2 0,.sl 14,.I st.2.1] 241),(14,.buf st.1 5)],[(0,.sl Ys d)],15⟩) (fun n st=>U9 N d n st.1 st.2.1 st.2.2) (r:=r) (fun _=>rfl) ?_ (fun ih=>?_)))
  ·intro n15 ih17
   rintro ⟨x,y,z⟩ h
   unfold U9 at h
   refine ZU J 5 h (fun h=>?_) fun h=>?_
   ·refine wO J 7 h fun A C h=>ZR (ZvA N (⟨x,y⟩:Yk) _ C) [] [(0,.bp 2 0),(1,.sl 14)] ?_
    exact oi h▸wr J 2 func86 []
   refine wO J 6 h fun D G h=>Ya J Vp G ?_
   refine wO J 11 h fun H R h=>ZR (Rn N D.ZD (str [44,32]) _ R) [] [(0,.sl 16)] (Yy J [] oS ([(str [112,114,111,116,111,99,111,108,32]),D.Zt,(str [40]),H,(str [41,32,123])]:List ByteArray) ?_)
   have ⟨T,U,h⟩:=ob h
   refine ZR (Ux N ([(str [112,114,111,116,111,99,111,108,32]),D.Zt,(str [40]),H,(str [41,32,123])]:List ByteArray) (⟨x,y⟩:Yk) _ U) [20] [(0,.sl 20),(1,.bp 2 0),(2,.sl 14)] (Yn (wa J 19 (Z4 (σ:=ByteArray × Int) (fun st=>(ZmJ powT st.2 D.Zt st.1 d D [(3,.B 2 0),(5,.B 19 0),(10,.S 0),(11,.I (d.length:Int)),(12,.I z)])) (fun st=>BI N z (U9 N d n15) D st.1 st.2=some r) ?_ (fun j24=>?_))))
   ·rintro ⟨X,Y⟩ h
    unfold BI at h
    refine wO J 5 h fun Z a0 h=>ZR (Zl5 N D.ZF (⟨X,Y⟩:Yk) _ a0) [] [(0,.sl 18),(1,.bp 2 0),(2,.sl 22),(3,.sl 1)] (wa J 14 (Yy J [] oS ([(str [125])]:List ByteArray) ?_))
    have ⟨b0,c0,h⟩:=ob h
    exact ZR (Ux N ([(str [125])]:List ByteArray) (⟨Z.Builder,(ZN (Z.depth'-1))⟩:Yk) _ c0) [24] [(0,.sl 24),(1,.bp 2 0),(2,.sl 23)] (wa J 6 (ZO [(14,.sl 25)] (ih17 (b0.Builder,b0.depth',(ZN (z+1))) h)))
   refine wa J 1 (Ye (σ:=ByteArray × Int × Int) (fun st=>(ZmJ powT st.2.1 D.Zt st.1 d D [(3,.B 2 0),(5,.B 19 0),(10,.S 0),(11,.I (d.length:Int)),(12,.I z),(32,.S 17),(33,.I (D.ZE.length:Int)),(34,.I st.2.2)])) (fun n st=>MA N z (U9 N d n15) D n st.1 st.2.1 st.2.2) (r:=r) (fun _=>rfl) ?_ (fun ih=>?_))
   ·intro n17 ih26
    rintro ⟨e0,g0,i0⟩ h
    unfold MA at h
    refine ZU J 5 h (fun h=>wa J 2 (ZO [] (j24 (e0,g0) h))) fun h=>?_
    refine wO J 6 h fun j0 k0 h=>Ya J Ut k0 ?_
    exact wO J 7 h fun l0 m0 h=>ZR (Zl4 N j0 (⟨e0,g0⟩:Yk) _ m0) [] [(0,.sl 24),(1,.sl 25),(2,.bp 2 0),(3,.sl 22),(4,.sl 1)] (wa J 6 (ZO [(22,.sl 27)] (ih26 (l0.Builder,l0.depth',(ZN (i0+1))) h)))
   exact ZO [(22,.sl 21)] (ih N (T.Builder,(ZN (T.depth'+1)),0) h)
  exact ZO [(14,.sl 13)] (ih N (u.Builder,u.depth',(ZN ((0:Int)+(1:Int)))) h)
 refine wa J 1 (Ye (σ:=ByteArray × Int × Int) (fun st=>(ZmI powT st.2.1 g.Zt st.1 d g [(3,.B 2 0),(5,.B 7 0),(10,.S 0),(11,.I (d.length:Int)),(12,.I 0),(32,.S 5),(33,.I (g.ZE.length:Int)),(34,.I st.2.2)])) (fun n st=>MB N d g n st.1 st.2.1 st.2.2) (r:=r) (fun _=>rfl) ?_ (fun ih=>?_))
 ·intro n18 ih27
  rintro ⟨o0,p0,q0⟩ h
  unfold MB at h
  refine ZU J 5 h (fun h=>wa J 2 (ZO [] (j15 (o0,p0) h))) fun h=>?_
  refine wO J 6 h fun s0 t0 h=>Ya J Ut t0 ?_
  exact wO J 7 h fun u0 v0 h=>ZR (Zl4 N s0 (⟨o0,p0⟩:Yk) _ v0) [] [(0,.sl 12),(1,.sl 13),(2,.bp 2 0),(3,.sl 10),(4,.sl 1)] (wa J 6 (ZO [(10,.sl 15)] (ih27 (u0.Builder,u0.depth',(ZN (q0+1))) h)))
 exact ZO [(10,.sl 9)] (ih N (l.Builder,(ZN (l.depth'+1)),0) h)
theorem Zmh (N:Nat) (c:(List ZT)) (r:Bool) (h:Mh N c=some r) :
 Fn Tryz.prog 32 ⟨2,[.S 0],[(0,.sl Ys c)],[(1,.abs powT)],2,.O r,[],[(1,.abs powT)]⟩:=by
 refine Z5 func32 rfl (fun E F w=>?_)
 unfold Mh at h
 refine wB J 11 h (fun h=>oi h▸wr J 5 func32 []) fun h=>wa J 9 (Z4 (σ:=Unit) (fun st=>⟨[(0,.S 0)],[(1,.abs powT)],[(0,.sl Ys c)],2⟩) (fun st=>ZcZ N c=some r) ?_ (fun j1=>?_))
 ·intro _ h
  unfold ZcZ at h
  refine wO J 3 h fun d e h=>ZR (Zvu N c _ e) [] [(0,.sl 0),(1,.sl 1)] ?_
  exact oi h▸wr J 4 func32 []
 refine wa J 1 (Ye (σ:=Int) (fun st=>⟨[(0,.S 0),(11,.S 0),(12,.I (c.length:Int)),(13,.I st)],[(1,.abs powT)],[(0,.sl Ys c)],2⟩) (fun n st=>Rw N c n st) (r:=r) (fun _=>rfl) ?_ (fun ih=>?_))
 ·intro n12 ih12
  intro f h
  unfold Rw at h
  refine ZU J 5 h (fun h=>wa J 2 (ZO [] (j1 () h))) fun h=>?_
  refine wO J 6 h fun g i h=>Ya J Vp i ?_
  refine wO J 14 h fun j k h=>ZR (U6 N g.Zt _ k) [] [] ?_
  refine wB J 2 h (fun h=>oi h▸wr J 23 func32 []) fun h=>?_
  refine wO J 2 h fun l m h=>ZR (Zhr N g.ZD 6 _ m) [] [(0,.sl 3)] ?_
  refine wB J 3 h (fun h=>oi h▸wr J 17 func32 []) fun h=>?_
  refine wB J 6 h (fun h=>oi h▸wr J 11 func32 []) fun h=>?_
  refine wO J 2 h fun o p h=>ZR (Zvr N g.ZF 1 0 _ p) [] [(0,.sl 5),(1,.bp 7 0)] ?_
  refine wB J 3 h (fun h=>oi h▸wr J 5 func32 []) fun h=>wa J 9 (Z4 (σ:=Unit) (fun st=>⟨[(0,.S 0),(11,.S 0),(12,.I (c.length:Int)),(13,.I f)],[(1,.abs powT)],[(0,.sl Ys c)],8⟩) (fun st=>Zc0 f (Rw N c n12)=some r) ?_ (fun j19=>?_))
  ·intro _ h
   unfold Zc0 at h
   exact wa J 5 (ZO [] (ih12 (ZN (f+1)) h))
  refine wa J 1 (Ye (σ:=Int) (fun st=>⟨[(0,.S 0),(11,.S 0),(12,.I (c.length:Int)),(13,.I f),(40,.S 4),(41,.I (g.ZE.length:Int)),(42,.I st)],[(1,.abs powT)],[(0,.sl Ys c),(4,.sl YX g.ZE)],8⟩) (fun n st=>Mi N f (Rw N c n12) g n st) (r:=r) (fun _=>rfl) ?_ (fun ih=>?_))
  ·intro n14 ih21
   intro q h
   unfold Mi at h
   refine ZU J 5 h (fun h=>wa J 2 (ZO [] (j19 () h))) fun h=>?_
   refine wO J 6 h fun s t h=>Ya J Ut t ?_
   refine wO J 7 h fun u v h=>ZR (Zvt N s _ v) [] [(0,.sl 9),(1,.sl 10)] ?_
   exact wB J 2 h (fun h=>oi h▸wr J 5 func32 []) fun h=>wa J 7 (ZO [] (ih21 (ZN (q+1)) h))
  exact ZO [] (ih N 0 h)
 exact ZO [] (ih N 0 h)
theorem Ztd (N:Nat) (d:ByteArray) (r:(List ZT) × Int × Int) (h:z11 N d=some r) :
 Fn Tryz.prog 11 ⟨1,[.c (.s d)],[],[(0,.abs powT)],2,.t [.inl (.sl 1),.inl (.I r.2.1),.inl (.I r.2.2)],[(1,.sl Ys r.1)],[(0,.abs powT)]⟩:=by
 refine Z5 func11 rfl (fun E F w=>?_)
 unfold z11 at h
 refine wO J 9 h fun e f h=>ZR (ZuM N d _ f) [] [] ?_
 refine wB J 14 h (fun h=>oi h▸wr J 9 func11 [(1,.nil)]) fun h=>wa J 12 (Z4 (σ:=(List ZT) × (List T7) × Int × Int × Int × Int) (fun st=>⟨[(2,.S 3),(6,.B 2 0)],[(0,.abs powT),(2,.box [.sl 4,.I st.2.2.1,.I st.2.2.2.1,.I st.2.2.2.2.1,.I st.2.2.2.2.2] 108),(3,.own Ys st.1 true)],[(4,.sl YD st.2.1)],5⟩) (fun st=>Zbj N st.1 st.2.1 st.2.2.1 st.2.2.2.1 st.2.2.2.2.1 st.2.2.2.2.2=some r) ?_ (fun j1=>?_))
 ·rintro ⟨g,i,j,k,l,m⟩ h
  unfold Zbj at h
  refine wB J 9 h (fun h=>wa J 14 (Yn ?_)) fun h=>?_
  ·cases h
   exact Y2 J func11 [(1,.nil)]
  refine wO J 6 h fun o p h=>ZR (Zmh N g _ p) [3] [(0,.sl 3),(1,.sl 0)] ?_
  exact wB J 2 h (fun h=>oi h▸wr J 7 func11 [(1,.nil)]) fun h=>oi h▸wr J 9 func11 [(1,.sl 3)]
 refine wa J 1 (Ye (σ:=(List ZT) × (List T7) × Int × Int × Int × Int) (fun st=>⟨[(2,.S 3),(5,.S 1),(6,.B 2 0)],[(0,.abs powT),(2,.box [.sl 4,.I st.2.2.1,.I st.2.2.2.1,.I st.2.2.2.2.1,.I st.2.2.2.2.2] 108),(3,.own Ys st.1 true)],[(1,.sl YD e.1),(4,.sl YD st.2.1)],5⟩) (fun n st=>Zbk N e n st.1 st.2.1 st.2.2.1 st.2.2.2.1 st.2.2.2.2.1 st.2.2.2.2.2) (r:=r) (fun _=>rfl) ?_ (fun ih=>?_))
 ·intro n2 ih3
  rintro ⟨q,u,v,x,y,z⟩ h
  unfold Zbk at h
  refine ZU J 11 h (fun h=>wa J 9 (ZO [] (j1 (q,u,v,x,y,z) h))) fun h=>?_
  refine ZU J 7 h (fun h=>wa J 2 (ZO [] (j1 (q,u,v,x,y,z) h))) fun h=>?_
  refine wO J 6 h fun A C h=>ZR (ZuN N (⟨u,v,x,y,z⟩:Z9) _ C) [] [(0,.bp 2 0),(1,.sl 4)] (Yy J [] Vp ([A.1]:List ZT) ?_)
  have ⟨D,G,h⟩:=ob h
  exact YR J Ys G (wa J 3 (ZO [(3,.sl 10),(4,.sl 8)] (ih3 (D,A.2.l',A.2.n',A.2.end',A.2.at',A.2.err') h)))
 exact WK [1] (ZO [(3,.nil),(4,.sl 1)] (ih N (([]:List ZT),e.1,0,(d.size:Int),0,0) h))
theorem ZuU (N:Nat) (c:ZT) (d:ZT) (r:Bool) (h:Zc9 N c d=some r) :
 Fn Tryz.prog 44 ⟨7,[.a [.s c.Zt,.sl 0,.sl 1,.sl 2],.B 3 0],(YS 0 1 2 c (YS 4 5 6 d [])),[(3,.box [.s d.Zt,.sl 4,.sl 5,.sl 6] 37)],7,.O r,[],[(3,.box [.s d.Zt,.sl 4,.sl 5,.sl 6] 37)]⟩:=by
 refine Z5 func44 rfl (fun E F w=>?_)
 unfold Zc9 at h
 exact oi h▸wr J 14 func44 []
theorem ZsO (N:Nat) (d:(List ZT)) (e:ZT) (r:Int) (h:GQ N d e=some r) :
 Fn Tryz.prog 101 ⟨5,[.S 0,.c (.cl 44 [] [1])],((0,.sl Ys d)::YS 2 3 4 e []),[(1,.box [.s e.Zt,.sl 2,.sl 3,.sl 4] 37)],5,.I r,[],[(1,.box [.s e.Zt,.sl 2,.sl 3,.sl 4] 37)]⟩:=by
 refine Z5 func101 rfl (fun E F w=>?_)
 unfold GQ at h
 refine wa J 11 (Z4 (σ:=Unit) (fun st=>(ZdV e.Zt d e [])) (fun st=>Za1=some r) ?_ (fun j1=>?_))
 ·intro _ h
  unfold Za1 at h
  exact oi h▸wr J 4 func101 []
 refine wa J 1 (Ye (σ:=Int) (fun st=>(ZdV e.Zt d e [(0,.S 0),(1,.c (.cl 44 [] [1])),(7,.I (d.length:Int)),(8,.I st)])) (fun n st=>Pf N d e n st) (r:=r) (fun _=>rfl) ?_ (fun ih=>?_))
 ·intro n2 ih3
  intro f h
  unfold Pf at h
  refine ZU J 5 h (fun h=>wa J 2 (ZO [] (j1 () h))) fun h=>?_
  refine wO J 14 h fun g i h=>Ya J Vp i ?_
  refine wO J 1 h fun j k h=>ZR (ZuU N g e _ k) [] [(0,.sl 6),(1,.sl 7),(2,.sl 8),(3,.bp 1 0),(4,.sl 2),(5,.sl 3),(6,.sl 4)] ?_
  exact wB J 1 h (fun h=>oi h▸wr J 6 func101 []) fun h=>wa J 7 (ZO [] (ih3 (ZN (f+1)) h))
 exact ZO [] (ih N 0 h)
theorem ZuS (N:Nat) (d:(List ZT)) (e:ZT) (r:Bool) (h:Ht N d e=some r) :
 Fn Tryz.prog 43 ⟨5,[.S 0,.c (.cl 44 [] [1])],((0,.sl Ys d)::YS 2 3 4 e []),[(1,.box [.s e.Zt,.sl 2,.sl 3,.sl 4] 37)],5,.O r,[],[(1,.box [.s e.Zt,.sl 2,.sl 3,.sl 4] 37)]⟩:=by
 refine Z5 func43 rfl (fun E F w=>?_)
 unfold Ht at h
 refine wO J 8 h fun f g h=>ZR (ZsO N d e _ g) [] [(0,.sl 0),(1,.bp 1 0),(2,.sl 2),(3,.sl 3),(4,.sl 4)] ?_
 exact oi h▸wr J 3 func43 []
theorem Zmm (N:Nat) (c:(List ByteArray)) (d:Int) (r:Bool) (h:z46 N c d=some r) :
 Fn Tryz.prog 46 ⟨1,[.S 0,.I d],[(0,.sl rS c)],[],1,.O r,[],[]⟩:=by
 refine Z5 func46 rfl (fun E F w=>?_)
 unfold z46 at h
 refine wO J 8 h fun e f h=>SU J rS f ?_
 refine wO J 2 h fun g i h=>Ya J oS i ?_
 refine wO J 1 h fun j k h=>ZR (R5 N e g _ k) [] [(0,.sl 1)] (wa J 1 (Yn ?_))
 cases h
 exact Y2 J func46 []
theorem ZsU (N:Nat) (c:Z2) (d:Z2) (r:Bool) (h:Za5 N c d=some r) :
 Fn Tryz.prog 104 ⟨5,[.a [.s c.Zt,.sl 0,.sl 1],.B 2 0],(XC 0 1 c (XC 3 4 d [])),[(2,.box [.s d.Zt,.sl 3,.sl 4] 64)],5,.O r,[],[(2,.box [.s d.Zt,.sl 3,.sl 4] 64)]⟩:=by
 refine Z5 func104 rfl (fun E F w=>?_)
 unfold Za5 at h
 exact oi h▸wr J 14 func104 []
theorem ZtV (N:Nat) (d:(List Z2)) (e:Z2) (r:Int) (h:Dx N d e=some r) :
 Fn Tryz.prog 171 ⟨4,[.S 0,.c (.cl 104 [] [1])],((0,.sl YX d)::XC 2 3 e []),[(1,.box [.s e.Zt,.sl 2,.sl 3] 64)],4,.I r,[],[(1,.box [.s e.Zt,.sl 2,.sl 3] 64)]⟩:=by
 refine Z5 func171 rfl (fun E F w=>?_)
 unfold Dx at h
 refine wa J 11 (Z4 (σ:=Unit) (fun st=>⟨[],[(1,.box [.s e.Zt,.sl 2,.sl 3] 64)],((0,.sl YX d)::XC 2 3 e []),4⟩) (fun st=>Zb1=some r) ?_ (fun j1=>?_))
 ·intro _ h
  unfold Zb1 at h
  exact oi h▸wr J 4 func171 []
 refine wa J 1 (Ye (σ:=Int) (fun st=>⟨[(0,.S 0),(1,.c (.cl 104 [] [1])),(7,.I (d.length:Int)),(8,.I st)],[(1,.box [.s e.Zt,.sl 2,.sl 3] 64)],((0,.sl YX d)::XC 2 3 e []),4⟩) (fun n st=>PL N d e n st) (r:=r) (fun _=>rfl) ?_ (fun ih=>?_))
 ·intro n2 ih3
  intro f h
  unfold PL at h
  refine ZU J 5 h (fun h=>wa J 2 (ZO [] (j1 () h))) fun h=>?_
  refine wO J 14 h fun g i h=>Ya J Ut i ?_
  refine wO J 1 h fun j k h=>ZR (ZsU N g e _ k) [] [(0,.sl 5),(1,.sl 6),(2,.bp 1 0),(3,.sl 2),(4,.sl 3)] ?_
  exact wB J 1 h (fun h=>oi h▸wr J 6 func171 []) fun h=>wa J 7 (ZO [] (ih3 (ZN (f+1)) h))
 exact ZO [] (ih N 0 h)
theorem ZsS (N:Nat) (d:(List Z2)) (e:Z2) (r:Bool) (h:GV N d e=some r) :
 Fn Tryz.prog 103 ⟨4,[.S 0,.c (.cl 104 [] [1])],((0,.sl YX d)::XC 2 3 e []),[(1,.box [.s e.Zt,.sl 2,.sl 3] 64)],4,.O r,[],[(1,.box [.s e.Zt,.sl 2,.sl 3] 64)]⟩:=by
 refine Z5 func103 rfl (fun E F w=>?_)
 unfold GV at h
 refine wO J 8 h fun f g h=>ZR (ZtV N d e _ g) [] [(0,.sl 0),(1,.bp 1 0),(2,.sl 2),(3,.sl 3)] ?_
 exact oi h▸wr J 3 func103 []
theorem ZsV (N:Nat) (c:T2) (d:T2) (r:Bool) (h:Za6 N c d=some r) :
 Fn Tryz.prog 105 ⟨1,[.a (XZ c),.B 0 0],[],[(0,.box (XZ d) 69)],1,.O r,[],[(0,.box (XZ d) 69)]⟩:=by
 refine Z5 func105 rfl (fun E F w=>?_)
 unfold Za6 at h
 exact oi h▸wr J 14 func105 []
theorem Zuk (N:Nat) (d:(List T2)) (e:T2) (r:Int) (h:DN N d e=some r) :
 Fn Tryz.prog 20 ⟨2,[.S 0,.c (.cl 105 [] [1])],[(0,.sl YU d)],[(1,.box (XZ e) 69)],2,.I r,[],[(1,.box (XZ e) 69)]⟩:=by
 refine Z5 func20 rfl (fun E F w=>?_)
 unfold DN at h
 refine wa J 11 (Z4 (σ:=Unit) (fun st=>(ZdW e d [])) (fun st=>Zcx=some r) ?_ (fun j1=>?_))
 ·intro _ h
  unfold Zcx at h
  exact oi h▸wr J 4 func20 []
 refine wa J 1 (Ye (σ:=Int) (fun st=>(ZdW e d [(0,.S 0),(1,.c (.cl 105 [] [1])),(7,.I (d.length:Int)),(8,.I st)])) (fun n st=>P2 N d e n st) (r:=r) (fun _=>rfl) ?_ (fun ih=>?_))
 ·intro n2 ih3
  intro f h
  unfold P2 at h
  refine ZU J 5 h (fun h=>wa J 2 (ZO [] (j1 () h))) fun h=>?_
  refine wO J 14 h fun g i h=>Ya J XK i ?_
  refine wO J 1 h fun j k h=>ZR (ZsV N g e _ k) [] [(0,.bp 1 0)] ?_
  exact wB J 1 h (fun h=>oi h▸wr J 6 func20 []) fun h=>wa J 7 (ZO [] (ih3 (ZN (f+1)) h))
 exact ZO [] (ih N 0 h)
theorem Zvd (N:Nat) (d:(List T2)) (e:T2) (r:Bool) (h:Bt N d e=some r) :
 Fn Tryz.prog 67 ⟨2,[.S 0,.c (.cl 105 [] [1])],[(0,.sl YU d)],[(1,.box (XZ e) 69)],2,.O r,[],[(1,.box (XZ e) 69)]⟩:=by
 refine Z5 func67 rfl (fun E F w=>?_)
 unfold Bt at h
 refine wO J 8 h fun f g h=>ZR (Zuk N d e _ g) [] [(0,.sl 0),(1,.bp 1 0)] ?_
 exact oi h▸wr J 3 func67 []
theorem ZtY (N:Nat) (c:Z2) (d:Yq) (r:Bool) (h:Zb4 N c d=some r) :
 Fn Tryz.prog 172 ⟨3,[.a [.s c.Zt,.sl 0,.sl 1],.B 2 0],(XC 0 1 c []),[(2,.box (Xp d) 76)],3,.O r,[],[(2,.box (Xp d) 76)]⟩:=by
 refine Z5 func172 rfl (fun E F w=>?_)
 unfold Zb4 at h
 exact oi h▸wr J 14 func172 []
theorem ZtW (N:Nat) (d:(List Z2)) (e:Yq) (r:Int) (h:Dy N d e=some r) :
 Fn Tryz.prog 171 ⟨2,[.S 0,.c (.cl 172 [] [1])],[(0,.sl YX d)],[(1,.box (Xp e) 76)],2,.I r,[],[(1,.box (Xp e) 76)]⟩:=by
 refine Z5 func171 rfl (fun E F w=>?_)
 unfold Dy at h
 refine wa J 11 (Z4 (σ:=Unit) (fun st=>⟨[],[(1,.box (Xp e) 76)],[(0,.sl YX d)],2⟩) (fun st=>Zb2=some r) ?_ (fun j1=>?_))
 ·intro _ h
  unfold Zb2 at h
  exact oi h▸wr J 4 func171 []
 refine wa J 1 (Ye (σ:=Int) (fun st=>⟨[(0,.S 0),(1,.c (.cl 172 [] [1])),(7,.I (d.length:Int)),(8,.I st)],[(1,.box (Xp e) 76)],[(0,.sl YX d)],2⟩) (fun n st=>PM N d e n st) (r:=r) (fun _=>rfl) ?_ (fun ih=>?_))
 ·intro n2 ih3
  intro f h
  unfold PM at h
  refine ZU J 5 h (fun h=>wa J 2 (ZO [] (j1 () h))) fun h=>?_
  refine wO J 14 h fun g i h=>Ya J Ut i ?_
  refine wO J 1 h fun j k h=>ZR (ZtY N g e _ k) [] [(0,.sl 3),(1,.sl 4),(2,.bp 1 0)] ?_
  exact wB J 1 h (fun h=>oi h▸wr J 6 func171 []) fun h=>wa J 7 (ZO [] (ih3 (ZN (f+1)) h))
 exact ZO [] (ih N 0 h)
theorem ZtZ (N:Nat) (c:T2) (d:Yq) (r:Bool) (h:Zb5 N c d=some r) :
 Fn Tryz.prog 173 ⟨1,[.a (XZ c),.B 0 0],[],[(0,.box (Xp d) 76)],1,.O r,[],[(0,.box (Xp d) 76)]⟩:=by
 refine Z5 func173 rfl (fun E F w=>?_)
 unfold Zb5 at h
 exact oi h▸wr J 14 func173 []
theorem Zul (N:Nat) (d:(List T2)) (e:Yq) (r:Int) (h:DO N d e=some r) :
 Fn Tryz.prog 20 ⟨2,[.S 0,.c (.cl 173 [] [1])],[(0,.sl YU d)],[(1,.box (Xp e) 76)],2,.I r,[],[(1,.box (Xp e) 76)]⟩:=by
 refine Z5 func20 rfl (fun E F w=>?_)
 unfold DO at h
 refine wa J 11 (Z4 (σ:=Unit) (fun st=>(ZdX e d [])) (fun st=>Zcy=some r) ?_ (fun j1=>?_))
 ·intro _ h
  unfold Zcy at h
  exact oi h▸wr J 4 func20 []
 refine wa J 1 (Ye (σ:=Int) (fun st=>(ZdX e d [(0,.S 0),(1,.c (.cl 173 [] [1])),(7,.I (d.length:Int)),(8,.I st)])) (fun n st=>P3 N d e n st) (r:=r) (fun _=>rfl) ?_ (fun ih=>?_))
 ·intro n2 ih3
  intro f h
  unfold P3 at h
  refine ZU J 5 h (fun h=>wa J 2 (ZO [] (j1 () h))) fun h=>?_
  refine wO J 14 h fun g i h=>Ya J XK i ?_
  refine wO J 1 h fun j k h=>ZR (ZtZ N g e _ k) [] [(0,.bp 1 0)] ?_
  exact wB J 1 h (fun h=>oi h▸wr J 6 func20 []) fun h=>wa J 7 (ZO [] (ih3 (ZN (f+1)) h))
 exact ZO [] (ih N 0 h)
theorem ZsW (N:Nat) (c:ZX) (d:Z2) (e:Yq) (r:Int) (h:GX N c d e=some r) :
 Fn Tryz.prog 106 ⟨8,[.B 0 0,.a [.s d.Zt,.sl 6,.sl 7],.a (Xp e)],(Pc 1 2 3 4 5 c (XC 6 7 d [])),[(0,.box (Xw 1 2 3 4 5 c) 131)],8,.I r,[],[(0,.box (Xw 1 2 3 4 5 c) 131)]⟩:=by
 refine Z5 func106 rfl (fun E F w=>?_)
 unfold GX at h
 refine wa J 13 (Z4 (σ:=ByteArray × (List T2) × (List Y5)) (fun st=>⟨[(4,.B 8 0),(5,.B 9 0)],[(0,.box (Xw 1 2 3 4 5 c) 131),(8,.box [.s st.1,.sl 10,.sl 11] 64),(9,.box (Xp e) 76)],(Pc 1 2 3 4 5 c (XC 6 7 d [(10,.sl YU st.2.1),(11,.sl Tu st.2.2)])),12⟩) (fun st=>LC N e st.1 st.2.1 st.2.2=some r) ?_ (fun j1=>?_))
 ·rintro ⟨f,g,i⟩ h
  unfold LC at h
  refine wO J 5 h fun j k h=>ZR (Zul N g e _ k) [] [(0,.sl 10),(1,.bp 9 0)] ?_
  refine wB J 8 h (fun h=>oi h▸wr J 5 func106 []) fun h=>?_
  refine wO J 7 h fun l m h=>Ya J XK m ?_
  exact oi h▸wr J 5 func106 []
 refine Xf h (fun h=>wa J 2 (ZO [(10,.sl 6),(11,.sl 7)] (j1 (d.Zt,d.Zy,d.Zz) h))) fun h=>?_
 refine wO J 9 h fun o p h=>ZR (ZtW N c.p'.ZE e _ p) [] [(0,.sl 3),(1,.bp 9 0)] ?_
 refine wB J 8 h (fun h=>oi h▸wr J 5 func106 []) fun h=>?_
 exact wO J 9 h fun q t h=>Ya J Ut t (wa J 3 (ZO [(10,.sl 11),(11,.sl 12)] (j1 (q.Zt,q.Zy,q.Zz) h)))
theorem ZsX (N:Nat) (c:(List Yv)) (r:(List Yv)) (h:Za7 N c=some r) :
 Fn Tryz.prog 107 ⟨1,[.S 0],[(0,.sl XL c)],[],2,.S 1,[],[(1,.own XL r true)]⟩:=by
 refine Z5 func107 rfl (fun E F w=>?_)
 unfold Za7 at h
 refine wa J 8 (eNi XL c false ?_)
 intro nb hnb
 cases nb
 ·refine wa J 5 (Yy J [] UR ([]:List Yv) ?_)
  refine wO J 1 h fun d e h=>YR J XL e ?_
  exact oi h▸wr J 2 func107 [(1,.sl 2)]
 ·obtain rfl:=hnb rfl
  replace h:(some ([]:List Yv):Option (List Yv))=some r:=h
  exact oi h▸wr J 6 func107 [(1,.nil)]
theorem Zt0 (N:Nat) (c:Z2) (d:ZS) (r:Bool) (h:Zb6 N c d=some r) :
 Fn Tryz.prog 174 ⟨5,[.a [.s c.Zt,.sl 0,.sl 1],.B 2 0],(XC 0 1 c [(3,.sl rS d.To),(4,.sl (Yx Yi) d.ZC)]),[(2,.box [.I d.Zq,.s d.ZA,.sl 3,.s d.Zt,.s d.As,.I d.ZB,.sl 4] 140)],5,.O r,[],[(2,.box [.I d.Zq,.s d.ZA,.sl 3,.s d.Zt,.s d.As,.I d.ZB,.sl 4] 140)]⟩:=by
 refine Z5 func174 rfl (fun E F w=>?_)
 unfold Zb6 at h
 exact oi h▸wr J 14 func174 []
theorem ZtX (N:Nat) (d:(List Z2)) (e:ZS) (r:Int) (h:Dz N d e=some r) :
 Fn Tryz.prog 171 ⟨4,[.S 0,.c (.cl 174 [] [1])],[(0,.sl YX d),(2,.sl rS e.To),(3,.sl (Yx Yi) e.ZC)],[(1,.box [.I e.Zq,.s e.ZA,.sl 2,.s e.Zt,.s e.As,.I e.ZB,.sl 3] 140)],4,.I r,[],[(1,.box [.I e.Zq,.s e.ZA,.sl 2,.s e.Zt,.s e.As,.I e.ZB,.sl 3] 140)]⟩:=by
 refine Z5 func171 rfl (fun E F w=>?_)
 unfold Dz at h
 refine wa J 11 (Z4 (σ:=Unit) (fun st=>⟨[],[(1,.box [.I e.Zq,.s e.ZA,.sl 2,.s e.Zt,.s e.As,.I e.ZB,.sl 3] 140)],[(0,.sl YX d),(2,.sl rS e.To),(3,.sl (Yx Yi) e.ZC)],4⟩) (fun st=>Zb3=some r) ?_ (fun j1=>?_))
 ·intro _ h
  unfold Zb3 at h
  exact oi h▸wr J 4 func171 []
 refine wa J 1 (Ye (σ:=Int) (fun st=>⟨[(0,.S 0),(1,.c (.cl 174 [] [1])),(7,.I (d.length:Int)),(8,.I st)],[(1,.box [.I e.Zq,.s e.ZA,.sl 2,.s e.Zt,.s e.As,.I e.ZB,.sl 3] 140)],[(0,.sl YX d),(2,.sl rS e.To),(3,.sl (Yx Yi) e.ZC)],4⟩) (fun n st=>PN N d e n st) (r:=r) (fun _=>rfl) ?_ (fun ih=>?_))
 ·intro n2 ih3
  intro f h
  unfold PN at h
  refine ZU J 5 h (fun h=>wa J 2 (ZO [] (j1 () h))) fun h=>?_
  refine wO J 14 h fun g i h=>Ya J Ut i ?_
  refine wO J 1 h fun j k h=>ZR (Zt0 N g e _ k) [] [(0,.sl 5),(1,.sl 6),(2,.bp 1 0),(3,.sl 2),(4,.sl 3)] ?_
  exact wB J 1 h (fun h=>oi h▸wr J 6 func171 []) fun h=>wa J 7 (ZO [] (ih3 (ZN (f+1)) h))
 exact ZO [] (ih N 0 h)
theorem ZsT (N:Nat) (d:(List Z2)) (e:ZS) (r:Bool) (h:GW N d e=some r) :
 Fn Tryz.prog 103 ⟨4,[.S 0,.c (.cl 174 [] [1])],[(0,.sl YX d),(2,.sl rS e.To),(3,.sl (Yx Yi) e.ZC)],[(1,.box [.I e.Zq,.s e.ZA,.sl 2,.s e.Zt,.s e.As,.I e.ZB,.sl 3] 140)],4,.O r,[],[(1,.box [.I e.Zq,.s e.ZA,.sl 2,.s e.Zt,.s e.As,.I e.ZB,.sl 3] 140)]⟩:=by
 refine Z5 func103 rfl (fun E F w=>?_)
 unfold GW at h
 refine wO J 8 h fun f g h=>ZR (ZtX N d e _ g) [] [(0,.sl 0),(1,.bp 1 0),(2,.sl 2),(3,.sl 3)] ?_
 exact oi h▸wr J 3 func103 []
theorem Zs1 (N:Nat) (c:Yv) (d:ZS) (r:Bool) (h:Za8 N c d=some r) :
 Fn Tryz.prog 111 ⟨3,[.a (Zh5 c),.B 0 0],[(1,.sl rS d.To),(2,.sl (Yx Yi) d.ZC)],[(0,.box [.I d.Zq,.s d.ZA,.sl 1,.s d.Zt,.s d.As,.I d.ZB,.sl 2] 140)],3,.O r,[],[(0,.box [.I d.Zq,.s d.ZA,.sl 1,.s d.Zt,.s d.As,.I d.ZB,.sl 2] 140)]⟩:=by
 refine Z5 func111 rfl (fun E F w=>?_)
 unfold Za8 at h
 exact oi h▸wr J 14 func111 []
theorem Zs2 (N:Nat) (d:(List Yv)) (e:ZS) (r:Int) (h:G2 N d e=some r) :
 Fn Tryz.prog 112 ⟨4,[.S 0,.c (.cl 111 [] [1])],[(0,.sl XL d),(2,.sl rS e.To),(3,.sl (Yx Yi) e.ZC)],[(1,.box [.I e.Zq,.s e.ZA,.sl 2,.s e.Zt,.s e.As,.I e.ZB,.sl 3] 140)],4,.I r,[],[(1,.box [.I e.Zq,.s e.ZA,.sl 2,.s e.Zt,.s e.As,.I e.ZB,.sl 3] 140)]⟩:=by
 refine Z5 func112 rfl (fun E F w=>?_)
 unfold G2 at h
 refine wa J 11 (Z4 (σ:=Unit) (fun st=>(ZdY e.Zq e.ZA e.Zt e.As e.ZB d e.To e.ZC [])) (fun st=>Za9=some r) ?_ (fun j1=>?_))
 ·intro _ h
  unfold Za9 at h
  exact oi h▸wr J 4 func112 []
 refine wa J 1 (Ye (σ:=Int) (fun st=>(ZdY e.Zq e.ZA e.Zt e.As e.ZB d e.To e.ZC [(0,.S 0),(1,.c (.cl 111 [] [1])),(7,.I (d.length:Int)),(8,.I st)])) (fun n st=>Pl N d e n st) (r:=r) (fun _=>rfl) ?_ (fun ih=>?_))
 ·intro n2 ih3
  intro f h
  unfold Pl at h
  refine ZU J 5 h (fun h=>wa J 2 (ZO [] (j1 () h))) fun h=>?_
  refine wO J 14 h fun g i h=>Ya J UR i ?_
  refine wO J 1 h fun j k h=>ZR (Zs1 N g e _ k) [] [(0,.bp 1 0),(1,.sl 2),(2,.sl 3)] ?_
  exact wB J 1 h (fun h=>oi h▸wr J 6 func112 []) fun h=>wa J 7 (ZO [] (ih3 (ZN (f+1)) h))
 exact ZO [] (ih N 0 h)
theorem Zs0 (N:Nat) (d:(List Yv)) (e:ZS) (r:Bool) (h:GZ N d e=some r) :
 Fn Tryz.prog 110 ⟨4,[.S 0,.c (.cl 111 [] [1])],[(0,.sl XL d),(2,.sl rS e.To),(3,.sl (Yx Yi) e.ZC)],[(1,.box [.I e.Zq,.s e.ZA,.sl 2,.s e.Zt,.s e.As,.I e.ZB,.sl 3] 140)],4,.O r,[],[(1,.box [.I e.Zq,.s e.ZA,.sl 2,.s e.Zt,.s e.As,.I e.ZB,.sl 3] 140)]⟩:=by
 refine Z5 func110 rfl (fun E F w=>?_)
 unfold GZ at h
 refine wO J 8 h fun f g h=>ZR (Zs2 N d e _ g) [] [(0,.sl 0),(1,.bp 1 0),(2,.sl 2),(3,.sl 3)] ?_
 exact oi h▸wr J 3 func110 []
theorem Zs4 (N:Nat) (c:Yv) (d:ZS) (r:Bool) (h:Zbb N c d=some r) :
 Fn Tryz.prog 113 ⟨3,[.a (Zh5 c),.B 0 0],[(1,.sl rS d.To),(2,.sl (Yx Yi) d.ZC)],[(0,.box [.I d.Zq,.s d.ZA,.sl 1,.s d.Zt,.s d.As,.I d.ZB,.sl 2] 140)],3,.O r,[],[(0,.box [.I d.Zq,.s d.ZA,.sl 1,.s d.Zt,.s d.As,.I d.ZB,.sl 2] 140)]⟩:=by
 refine Z5 func113 rfl (fun E F w=>?_)
 unfold Zbb at h
 exact wB J 13 h (fun h=>oi h▸wr J 6 func113 []) fun h=>oi h▸wr J 6 func113 []
theorem Zs3 (N:Nat) (d:(List Yv)) (e:ZS) (r:Int) (h:G3 N d e=some r) :
 Fn Tryz.prog 112 ⟨4,[.S 0,.c (.cl 113 [] [1])],[(0,.sl XL d),(2,.sl rS e.To),(3,.sl (Yx Yi) e.ZC)],[(1,.box [.I e.Zq,.s e.ZA,.sl 2,.s e.Zt,.s e.As,.I e.ZB,.sl 3] 140)],4,.I r,[],[(1,.box [.I e.Zq,.s e.ZA,.sl 2,.s e.Zt,.s e.As,.I e.ZB,.sl 3] 140)]⟩:=by
 refine Z5 func112 rfl (fun E F w=>?_)
 unfold G3 at h
 refine wa J 11 (Z4 (σ:=Unit) (fun st=>(ZdY e.Zq e.ZA e.Zt e.As e.ZB d e.To e.ZC [])) (fun st=>Zba=some r) ?_ (fun j1=>?_))
 ·intro _ h
  unfold Zba at h
  exact oi h▸wr J 4 func112 []
 refine wa J 1 (Ye (σ:=Int) (fun st=>(ZdY e.Zq e.ZA e.Zt e.As e.ZB d e.To e.ZC [(0,.S 0),(1,.c (.cl 113 [] [1])),(7,.I (d.length:Int)),(8,.I st)])) (fun n st=>Pm N d e n st) (r:=r) (fun _=>rfl) ?_ (fun ih=>?_))
 ·intro n2 ih3
  intro f h
  unfold Pm at h
  refine ZU J 5 h (fun h=>wa J 2 (ZO [] (j1 () h))) fun h=>?_
  refine wO J 14 h fun g i h=>Ya J UR i ?_
  refine wO J 1 h fun j k h=>ZR (Zs4 N g e _ k) [] [(0,.bp 1 0),(1,.sl 2),(2,.sl 3)] ?_
  exact wB J 1 h (fun h=>oi h▸wr J 6 func112 []) fun h=>wa J 7 (ZO [] (ih3 (ZN (f+1)) h))
 exact ZO [] (ih N 0 h)
theorem Zt1 (N:Nat) (c:ZT) (d:ZS) (r:Bool) (h:Zb7 N c d=some r) :
 Fn Tryz.prog 175 ⟨6,[.a [.s c.Zt,.sl 0,.sl 1,.sl 2],.B 3 0],(YS 0 1 2 c [(4,.sl rS d.To),(5,.sl (Yx Yi) d.ZC)]),[(3,.box [.I d.Zq,.s d.ZA,.sl 4,.s d.Zt,.s d.As,.I d.ZB,.sl 5] 140)],6,.O r,[],[(3,.box [.I d.Zq,.s d.ZA,.sl 4,.s d.Zt,.s d.As,.I d.ZB,.sl 5] 140)]⟩:=by
 refine Z5 func175 rfl (fun E F w=>?_)
 unfold Zb7 at h
 exact oi h▸wr J 14 func175 []
theorem ZsP (N:Nat) (d:(List ZT)) (e:ZS) (r:Int) (h:GR N d e=some r) :
 Fn Tryz.prog 101 ⟨4,[.S 0,.c (.cl 175 [] [1])],[(0,.sl Ys d),(2,.sl rS e.To),(3,.sl (Yx Yi) e.ZC)],[(1,.box [.I e.Zq,.s e.ZA,.sl 2,.s e.Zt,.s e.As,.I e.ZB,.sl 3] 140)],4,.I r,[],[(1,.box [.I e.Zq,.s e.ZA,.sl 2,.s e.Zt,.s e.As,.I e.ZB,.sl 3] 140)]⟩:=by
 refine Z5 func101 rfl (fun E F w=>?_)
 unfold GR at h
 refine wa J 11 (Z4 (σ:=Unit) (fun st=>⟨[],[(1,.box [.I e.Zq,.s e.ZA,.sl 2,.s e.Zt,.s e.As,.I e.ZB,.sl 3] 140)],[(0,.sl Ys d),(2,.sl rS e.To),(3,.sl (Yx Yi) e.ZC)],4⟩) (fun st=>Za2=some r) ?_ (fun j1=>?_))
 ·intro _ h
  unfold Za2 at h
  exact oi h▸wr J 4 func101 []
 refine wa J 1 (Ye (σ:=Int) (fun st=>⟨[(0,.S 0),(1,.c (.cl 175 [] [1])),(7,.I (d.length:Int)),(8,.I st)],[(1,.box [.I e.Zq,.s e.ZA,.sl 2,.s e.Zt,.s e.As,.I e.ZB,.sl 3] 140)],[(0,.sl Ys d),(2,.sl rS e.To),(3,.sl (Yx Yi) e.ZC)],4⟩) (fun n st=>Pg N d e n st) (r:=r) (fun _=>rfl) ?_ (fun ih=>?_))
 ·intro n2 ih3
  intro f h
  unfold Pg at h
  refine ZU J 5 h (fun h=>wa J 2 (ZO [] (j1 () h))) fun h=>?_
  refine wO J 14 h fun g i h=>Ya J Vp i ?_
  refine wO J 1 h fun j k h=>ZR (Zt1 N g e _ k) [] [(0,.sl 5),(1,.sl 6),(2,.sl 7),(3,.bp 1 0),(4,.sl 2),(5,.sl 3)] ?_
  exact wB J 1 h (fun h=>oi h▸wr J 6 func101 []) fun h=>wa J 7 (ZO [] (ih3 (ZN (f+1)) h))
 exact ZO [] (ih N 0 h)
theorem Wb (N:Nat) (d:ZX) (e:ByteArray) (f:Int) (r:ZX) (h:Xo N d e f=some r) :
 Fn Tryz.prog 45 ⟨6,[.B 0 0,.c (.s e),.I f],((1,.sl Ys d.all')::YS 2 3 4 d.p' []),[(0,.box (Xw 1 2 3 4 5 d) 131),(5,.own rS d.calls' false)],11,.t [],((6,.sl Ys r.all')::YS 7 8 9 r.p' []),[(5,.gone),(10,.own rS r.calls' false),(0,.box (Xw 6 7 8 9 10 r) 131)]⟩:=by
 refine Z5 func45 rfl (fun E F w=>?_)
 unfold Xo at h
 exact wB J 9 h (fun h=>oi h▸wr J 15 func45 [(6,.sl 1),(7,.sl 2),(8,.sl 3),(9,.sl 4),(10,.sl 5)]) fun h=>oi h▸wr J 2 func45 [(6,.sl 1),(7,.sl 2),(8,.sl 3),(9,.sl 4),(10,.sl 5)]
theorem Zf1 (N:Nat) (c:ZX) (d:(List ByteArray)) (e:Int) (r:ZX) (h:z109 N c d e=some r) :
 Fn Tryz.prog 109 ⟨7,[.B 0 0,.S 6,.I e],((1,.sl Ys c.all')::YS 2 3 4 c.p' [(6,.sl rS d)]),[(0,.box (Xw 1 2 3 4 5 c) 131),(5,.own rS c.calls' false)],12,.t [],((7,.sl Ys r.all')::YS 8 9 10 r.p' []),[(5,.gone),(11,.own rS r.calls' false),(0,.box (Xw 7 8 9 10 11 r) 131)]⟩:=by
 refine Z5 func109 rfl (fun E F w=>?_)
 unfold z109 at h
 refine wO J 9 h fun f g h=>Ya J oS g ?_
 refine wO J 1 h fun i j h=>ZR (R5 N c.p'.ZD f _ j) [] [(0,.sl 2)] ?_
 refine wB J 2 h (fun h=>wa J 4 (Yn ?_)) fun h=>?_
 ·refine wO J 5 h fun k l h=>Ya J oS l ?_
  refine wO J 1 h fun m o h=>ZR (Wb N c k 12 _ o) [] [(0,.bp 0 0),(1,.sl 1),(2,.sl 2),(3,.sl 3),(4,.sl 4),(5,.sl 5)] ?_
  exact oi h▸wr J 1 func109 [(7,.sl 9),(8,.sl 10),(9,.sl 11),(10,.sl 12),(11,.sl 13)]
 refine wO J 2 h fun p q h=>ZR (Zmm N d e _ q) [] [(0,.sl 6)] (wa J 1 (Yn ?_))
 refine Xf h (fun h=>oi h▸wr J 2 func109 [(7,.sl 1),(8,.sl 2),(9,.sl 3),(10,.sl 4),(11,.sl 5)]) fun h=>?_
 refine wO J 5 h fun s u h=>Ya J oS u ?_
 refine wO J 1 h fun v x h=>ZR (Wb N c s 12 _ x) [] [(0,.bp 0 0),(1,.sl 1),(2,.sl 2),(3,.sl 3),(4,.sl 4),(5,.sl 5)] ?_
 exact oi h▸wr J 1 func109 [(7,.sl 9),(8,.sl 10),(9,.sl 11),(10,.sl 12),(11,.sl 13)]
theorem Zs5 (N:Nat) (c:ZX) (d:ZS) (r:ZX) (h:G4 N c d=some r) :
 Fn Tryz.prog 114 ⟨8,[.B 0 0,.a [.I d.Zq,.s d.ZA,.sl 6,.s d.Zt,.s d.As,.I d.ZB,.sl 7]],((1,.sl Ys c.all')::YS 2 3 4 c.p' [(6,.sl rS d.To),(7,.sl (Yx Yi) d.ZC)]),[(0,.box (Xw 1 2 3 4 5 c) 131),(5,.own rS c.calls' false)],13,.t [],((8,.sl Ys r.all')::YS 9 10 11 r.p' []),[(5,.gone),(12,.own rS r.calls' false),(0,.box (Xw 8 9 10 11 12 r) 131)]⟩:=by
 refine Z5 func114 rfl (fun E F w=>?_)
 unfold G4 at h
 refine wO J 11 h fun e f h=>ZR (ZsP N c.all' d _ f) [] [(0,.sl 1),(1,.bp 8 0),(2,.sl 6),(3,.sl 7)] ?_
 refine wB J 8 h (fun h=>?_) fun h=>?_
 ·refine wO J 6 h fun g i h=>ZR (Wb N c d.Zt 10 _ i) [] [(0,.bp 0 0),(1,.sl 1),(2,.sl 2),(3,.sl 3),(4,.sl 4),(5,.sl 5)] ?_
  exact oi h▸wr J 1 func114 [(8,.sl 9),(9,.sl 10),(10,.sl 11),(11,.sl 12),(12,.sl 13)]
 refine wO J 10 h fun j k h=>Ya J Vp k (wa J 7 (Yn (Z4 (σ:=(List ZT) × ByteArray × (List ByteArray) × (List Z2) × (List ZS) × (List ByteArray) × ByteArray × ByteArray × Int) (fun st=>⟨[(0,.B 0 0),(3,.B 8 0)],[(0,.box [.sl 13,.s st.2.1,.sl 14,.sl 15,.sl 16,.sl 17,.s st.2.2.2.2.2.2.1,.s st.2.2.2.2.2.2.2.1,.I st.2.2.2.2.2.2.2.2] 131),(8,.box [.I d.Zq,.s d.ZA,.sl 6,.s d.Zt,.s d.As,.I d.ZB,.sl 7] 140),(17,.own rS st.2.2.2.2.2.1 false)],((1,.sl Ys c.all')::YS 2 3 4 c.p' [(6,.sl rS d.To),(7,.sl (Yx Yi) d.ZC),(13,.sl Ys st.1),(14,.sl rS st.2.2.1),(15,.sl YX st.2.2.2.1),(16,.sl Yi st.2.2.2.2.1)]),18⟩) (fun st=>LF N d st.1 st.2.1 st.2.2.1 st.2.2.2.1 st.2.2.2.2.1 st.2.2.2.2.2.1 st.2.2.2.2.2.2.1 st.2.2.2.2.2.2.2.1 st.2.2.2.2.2.2.2.2=some r) ?_ (fun j1=>?_))))
 ·rintro ⟨l,m,o,p,q,u,v,x,y⟩ h
  unfold LF at h
  refine wa J 8 (Z4 (σ:=(List ZT) × ByteArray × (List ByteArray) × (List Z2) × (List ZS) × (List ByteArray) × ByteArray × ByteArray × Int) (fun st=>(ZmK st.2.1 st.2.2.2.2.2.2.1 st.2.2.2.2.2.2.2.1 st.2.2.2.2.2.2.2.2 d.Zq d.ZA d.Zt d.As d.ZB st.2.2.2.2.2.1 c.all' c.p' d.To d.ZC st.1 st.2.2.1 st.2.2.2.1 st.2.2.2.2.1 [(0,.B 0 0),(3,.B 8 0)])) (fun st=>Pn N d st.1 st.2.1 st.2.2.1 st.2.2.2.1 st.2.2.2.2.1 st.2.2.2.2.2.1 st.2.2.2.2.2.2.1 st.2.2.2.2.2.2.2.1 st.2.2.2.2.2.2.2.2=some r) ?_ (fun j2=>?_))
  ·rintro ⟨z,A,C,D,G,H,R,T,U⟩ h
   unfold Pn at h
   refine wO J 9 h fun X Y h=>XA (R5 N H d.As _ Y) [] [(0,.sl 22)] [22] (.inr ⟨rfl,trivial⟩) (Yn ?_)
   refine Xf h (fun h=>wa J 10 (Yy J [] oS ([d.As]:List ByteArray) ?_)) fun h=>?_
   ·have ⟨Z,a0,h⟩:=ob h
    refine YR J rS a0 (wa J 3 (Yn ?_))
    cases h
    exact Y2 J func114 [(8,.sl 18),(9,.sl 19),(10,.sl 20),(11,.sl 21),(12,.sl 24)]
   refine wO J 5 h fun b0 c0 h=>ZR (Wb N (⟨z,(⟨A,C,D,G⟩:ZT),H,(⟨R,T,U⟩:T9)⟩:ZX) d.As 9 _ c0) [] [(0,.bp 0 0),(1,.sl 18),(2,.sl 19),(3,.sl 20),(4,.sl 21),(5,.sl 22)] (wa J 9 (Yy J [] oS ([d.As]:List ByteArray) ?_))
   have ⟨e0,g0,h⟩:=ob h
   refine YR J rS g0 (wa J 3 (Yn ?_))
   cases h
   exact Y2 J func114 [(8,.sl 23),(9,.sl 24),(10,.sl 25),(11,.sl 26),(12,.sl 29)]
  refine wa J 1 (Ye (σ:=(List ZT) × ByteArray × (List ByteArray) × (List Z2) × (List ZS) × (List ByteArray) × ByteArray × ByteArray × Int × Int) (fun st=>(ZmK st.2.1 st.2.2.2.2.2.2.1 st.2.2.2.2.2.2.2.1 st.2.2.2.2.2.2.2.2.1 d.Zq d.ZA d.Zt d.As d.ZB st.2.2.2.2.2.1 c.all' c.p' d.To d.ZC st.1 st.2.2.1 st.2.2.2.1 st.2.2.2.2.1 [(0,.B 0 0),(3,.B 8 0),(37,.I (d.To.length:Int)),(38,.I st.2.2.2.2.2.2.2.2.2)])) (fun n st=>Po N d n st.1 st.2.1 st.2.2.1 st.2.2.2.1 st.2.2.2.2.1 st.2.2.2.2.2.1 st.2.2.2.2.2.2.1 st.2.2.2.2.2.2.2.1 st.2.2.2.2.2.2.2.2.1 st.2.2.2.2.2.2.2.2.2) (r:=r) (fun _=>rfl) ?_ (fun ih=>?_))
  ·intro n2 ih4
   rintro ⟨i0,j0,k0,l0,m0,o0,p0,q0,s0,t0⟩ h
   unfold Po at h
   refine ZU J 5 h (fun h=>wa J 2 (ZO [] (j2 (i0,j0,k0,l0,m0,o0,p0,q0,s0) h))) fun h=>?_
   exact wO J 14 h fun u0 v0 h=>ZR (Zf1 N (⟨i0,(⟨j0,k0,l0,m0⟩:ZT),o0,(⟨p0,q0,s0⟩:T9)⟩:ZX) d.To t0 _ v0) [] [(0,.bp 0 0),(1,.sl 18),(2,.sl 19),(3,.sl 20),(4,.sl 21),(5,.sl 22),(6,.sl 6)] (wa J 6 (ZO [(18,.sl 23),(19,.sl 24),(20,.sl 25),(21,.sl 26),(22,.sl 27)] (ih4 (u0.all',u0.p'.Zt,u0.p'.ZD,u0.p'.ZE,u0.p'.ZF,u0.calls',u0.out'.ZL,u0.out'.Zt,u0.out'.ZM,(ZN (t0+1))) h)))
  exact ZO [(18,.sl 13),(19,.sl 14),(20,.sl 15),(21,.sl 16),(22,.sl 17)] (ih N (l,m,o,p,q,u,v,x,y,0) h)
 refine Xf h (fun h=>wa J 2 (ZO [(13,.sl 1),(14,.sl 2),(15,.sl 3),(16,.sl 4),(17,.sl 5)] (j1 (c.all',c.p'.Zt,c.p'.ZD,c.p'.ZE,c.p'.ZF,c.calls',c.out'.ZL,c.out'.Zt,c.out'.ZM) h))) fun h=>?_
 exact wO J 5 h fun x0 y0 h=>ZR (Wb N c d.Zt 1 _ y0) [] [(0,.bp 0 0),(1,.sl 1),(2,.sl 2),(3,.sl 3),(4,.sl 4),(5,.sl 5)] (wa J 1 (ZO [] (j1 (x0.all',x0.p'.Zt,x0.p'.ZD,x0.p'.ZE,x0.p'.ZF,x0.calls',x0.out'.ZL,x0.out'.Zt,x0.out'.ZM) h)))
theorem ZsY (N:Nat) (c:ZX) (d:ZS) (r:ZX) (h:GY N c d=some r) :
 Fn Tryz.prog 108 ⟨8,[.B 0 0,.a [.I d.Zq,.s d.ZA,.sl 6,.s d.Zt,.s d.As,.I d.ZB,.sl 7]],((1,.sl Ys c.all')::YS 2 3 4 c.p' [(6,.sl rS d.To),(7,.sl (Yx Yi) d.ZC)]),[(0,.box (Xw 1 2 3 4 5 c) 131),(5,.own rS c.calls' false)],13,.t [],((8,.sl Ys r.all')::YS 9 10 11 r.p' []),[(5,.gone),(12,.own rS r.calls' false),(0,.box (Xw 8 9 10 11 12 r) 131)]⟩:=by
 refine Z5 func108 rfl (fun E F w=>?_)
 unfold GY at h
 refine wa J 8 (Yy J [] oS ([d.ZA]:List ByteArray) ?_)
 refine wO J 2 h fun e f h=>YR J rS f (wa J 9 (Z4 (σ:=(List ZT) × ByteArray × (List ByteArray) × (List Z2) × (List ZS) × (List ByteArray) × ByteArray × ByteArray × Int) (fun st=>⟨[(0,.B 0 0),(3,.B 8 0)],[(0,.box [.sl 11,.s st.2.1,.sl 12,.sl 13,.sl 14,.sl 15,.s st.2.2.2.2.2.2.1,.s st.2.2.2.2.2.2.2.1,.I st.2.2.2.2.2.2.2.2] 131),(8,.box [.I d.Zq,.s d.ZA,.sl 6,.s d.Zt,.s d.As,.I d.ZB,.sl 7] 140),(15,.own rS st.2.2.2.2.2.1 false)],((1,.sl Ys c.all')::YS 2 3 4 c.p' [(6,.sl rS d.To),(7,.sl (Yx Yi) d.ZC),(11,.sl Ys st.1),(12,.sl rS st.2.2.1),(13,.sl YX st.2.2.2.1),(14,.sl Yi st.2.2.2.2.1)]),16⟩) (fun st=>LD N d st.1 st.2.1 st.2.2.1 st.2.2.2.1 st.2.2.2.2.1 st.2.2.2.2.2.1 st.2.2.2.2.2.2.1 st.2.2.2.2.2.2.2.1 st.2.2.2.2.2.2.2.2=some r) ?_ (fun j1=>?_)))
 ·rintro ⟨g,i,j,k,l,m,o,p,q⟩ h
  unfold LD at h
  refine wO J 8 h fun u v h=>ZR (ZsT N k d _ v) [] [(0,.sl 13),(1,.bp 8 0),(2,.sl 6),(3,.sl 7)] ?_
  refine ZU J 2 h (fun h=>oi h▸wr J 2 func108 [(8,.sl 11),(9,.sl 12),(10,.sl 13),(11,.sl 14),(12,.sl 15)]) fun h=>?_
  refine wO J 5 h fun x y h=>ZR (Wb N (⟨g,(⟨i,j,k,l⟩:ZT),m,(⟨o,p,q⟩:T9)⟩:ZX) d.Zt 10 _ y) [] [(0,.bp 0 0),(1,.sl 11),(2,.sl 12),(3,.sl 13),(4,.sl 14),(5,.sl 15)] ?_
  exact oi h▸wr J 1 func108 [(8,.sl 16),(9,.sl 17),(10,.sl 18),(11,.sl 19),(12,.sl 20)]
 refine wa J 1 (Ye (σ:=(List ZT) × ByteArray × (List ByteArray) × (List Z2) × (List ZS) × (List ByteArray) × ByteArray × ByteArray × Int × Int) (fun st=>⟨[(0,.B 0 0),(3,.B 8 0),(4,.S 10),(13,.I (e.length:Int)),(14,.I st.2.2.2.2.2.2.2.2.2)],[(0,.box [.sl 11,.s st.2.1,.sl 12,.sl 13,.sl 14,.sl 15,.s st.2.2.2.2.2.2.1,.s st.2.2.2.2.2.2.2.1,.I st.2.2.2.2.2.2.2.2.1] 131),(8,.box [.I d.Zq,.s d.ZA,.sl 6,.s d.Zt,.s d.As,.I d.ZB,.sl 7] 140),(15,.own rS st.2.2.2.2.2.1 false)],((1,.sl Ys c.all')::YS 2 3 4 c.p' [(6,.sl rS d.To),(7,.sl (Yx Yi) d.ZC),(10,.sl rS e),(11,.sl Ys st.1),(12,.sl rS st.2.2.1),(13,.sl YX st.2.2.2.1),(14,.sl Yi st.2.2.2.2.1)]),16⟩) (fun n st=>Pj N d e n st.1 st.2.1 st.2.2.1 st.2.2.2.1 st.2.2.2.2.1 st.2.2.2.2.2.1 st.2.2.2.2.2.2.1 st.2.2.2.2.2.2.2.1 st.2.2.2.2.2.2.2.2.1 st.2.2.2.2.2.2.2.2.2) (r:=r) (fun _=>rfl) ?_ (fun ih=>?_))
 ·intro n2 ih3
  rintro ⟨z,A,C,D,G,H,R,T,U,X⟩ h
  unfold Pj at h
  refine ZU J 5 h (fun h=>wa J 2 (ZO [] (j1 (z,A,C,D,G,H,R,T,U) h))) fun h=>?_
  exact wO J 13 h fun Y Z h=>ZR (Zf1 N (⟨z,(⟨A,C,D,G⟩:ZT),H,(⟨R,T,U⟩:T9)⟩:ZX) e X _ Z) [] [(0,.bp 0 0),(1,.sl 11),(2,.sl 12),(3,.sl 13),(4,.sl 14),(5,.sl 15),(6,.sl 10)] (wa J 6 (ZO [(11,.sl 16),(12,.sl 17),(13,.sl 18),(14,.sl 19),(15,.sl 20)] (ih3 (Y.all',Y.p'.Zt,Y.p'.ZD,Y.p'.ZE,Y.p'.ZF,Y.calls',Y.out'.ZL,Y.out'.Zt,Y.out'.ZM,(ZN (X+1))) h)))
 exact WK [10] (ZO [(11,.sl 1),(12,.sl 2),(13,.sl 3),(14,.sl 4),(15,.sl 5)] (ih N (c.all',c.p'.Zt,c.p'.ZD,c.p'.ZE,c.p'.ZF,c.calls',c.out'.ZL,c.out'.Zt,c.out'.ZM,0) h))
theorem ZuX (N:Nat) (rc:ZX->(List ZS)->(List Yv)->Option ZX) (rcT:(∀ (c:ZX) (d:(List ZS)) (e:(List Yv)) (r:ZX),rc c d e=some r->Fn Tryz.prog 49 ⟨8,[.B 0 0,.S 6,.S 7],((1,.sl Ys c.all')::YS 2 3 4 c.p' [(6,.sl Yi d),(7,.sl XL e)]),[(0,.box (Xw 1 2 3 4 5 c) 131),(5,.own rS c.calls' false)],13,.t [],((8,.sl Ys r.all')::YS 9 10 11 r.p' []),[(5,.gone),(12,.own rS r.calls' false),(0,.box (Xw 8 9 10 11 12 r) 131)]⟩)) (c:ZX) (d:(List ZS)) (e:(List Yv)) (r:ZX) (h:Bd N rc c d e=some r) :
 Fn Tryz.prog 49 ⟨8,[.B 0 0,.S 6,.S 7],((1,.sl Ys c.all')::YS 2 3 4 c.p' [(6,.sl Yi d),(7,.sl XL e)]),[(0,.box (Xw 1 2 3 4 5 c) 131),(5,.own rS c.calls' false)],13,.t [],((8,.sl Ys r.all')::YS 9 10 11 r.p' []),[(5,.gone),(12,.own rS r.calls' false),(0,.box (Xw 8 9 10 11 12 r) 131)]⟩:=by
 refine Z5 func49 rfl (fun E F w=>?_)
 unfold Bd at h
 refine wa J 6 (Z4 (σ:=(List ZT) × ByteArray × (List ByteArray) × (List Z2) × (List ZS) × (List ByteArray) × ByteArray × ByteArray × Int) (fun st=>(ZmL st.2.1 st.2.2.2.2.2.2.1 st.2.2.2.2.2.2.2.1 st.2.2.2.2.2.2.2.2 st.2.2.2.2.2.1 c.all' c.p' d e st.1 st.2.2.1 st.2.2.2.1 st.2.2.2.2.1 [])) (fun st=>Be st.1 st.2.1 st.2.2.1 st.2.2.2.1 st.2.2.2.2.1 st.2.2.2.2.2.1 st.2.2.2.2.2.2.1 st.2.2.2.2.2.2.2.1 st.2.2.2.2.2.2.2.2=some r) ?_ (fun j1=>?_))
 ·rintro ⟨f,g,i,j,k,l,m,o,p⟩ h
  unfold Be at h
  cases h
  exact Y2 J func49 [(8,.sl 8),(9,.sl 9),(10,.sl 10),(11,.sl 11),(12,.sl 12)]
 refine wa J 1 (Ye (σ:=(List ZT) × ByteArray × (List ByteArray) × (List Z2) × (List ZS) × (List ByteArray) × ByteArray × ByteArray × Int × Int) (fun st=>(ZmL st.2.1 st.2.2.2.2.2.2.1 st.2.2.2.2.2.2.2.1 st.2.2.2.2.2.2.2.2.1 st.2.2.2.2.2.1 c.all' c.p' d e st.1 st.2.2.1 st.2.2.2.1 st.2.2.2.2.1 [(0,.B 0 0),(1,.S 6),(2,.S 7),(14,.S 6),(15,.I (d.length:Int)),(16,.I st.2.2.2.2.2.2.2.2.2)])) (fun n st=>Vg N rc d e n st.1 st.2.1 st.2.2.1 st.2.2.2.1 st.2.2.2.2.1 st.2.2.2.2.2.1 st.2.2.2.2.2.2.1 st.2.2.2.2.2.2.2.1 st.2.2.2.2.2.2.2.2.1 st.2.2.2.2.2.2.2.2.2) (r:=r) (fun _=>rfl) ?_ (fun ih=>?_))
 ·intro n32 ih33
  rintro ⟨q,u,v,x,y,z,A,C,D,G⟩ h
  unfold Vg at h
  refine ZU J 5 h (fun h=>wa J 2 (ZO [] (j1 (q,u,v,x,y,z,A,C,D) h))) fun h=>?_
  refine wO J 7 h fun H R h=>Ya J Q4 R ?_
  refine wO J 8 h fun T U h=>ZR (ZsX N e _ U) [] [(0,.sl 7)] (wa J 9 (Z4 (σ:=(List Yv)) (fun st=>(ZmM u A C D z H.Zq H.ZA H.Zt H.As H.ZB st c.all' c.p' d e q v x y H.To H.ZC [(0,.B 0 0),(1,.S 6),(2,.S 7),(7,.B 16 0),(8,.S 17),(14,.S 6),(15,.I (d.length:Int)),(16,.I G)])) (fun st=>HB N rc q u v x y z A C D G (Vg N rc d e n32) H st=some r) ?_ (fun j54=>?_)))
  ·intro X h
   unfold HB at h
   refine wa J 12 (Z4 (σ:=(List ZT) × ByteArray × (List ByteArray) × (List Z2) × (List ZS) × (List ByteArray) × ByteArray × ByteArray × Int × (List Yv)) (fun st=>(ZhD st.2.1 st.2.2.2.2.2.2.1 st.2.2.2.2.2.2.2.1 st.2.2.2.2.2.2.2.2.1 H.Zq H.ZA H.Zt H.As H.ZB st.2.2.2.2.2.1 st.2.2.2.2.2.2.2.2.2 c.all' c.p' d e H.To H.ZC st.1 st.2.2.1 st.2.2.2.1 st.2.2.2.2.1 [(0,.B 0 0),(1,.S 6),(2,.S 7),(7,.B 16 0),(8,.S 23),(14,.S 6),(15,.I (d.length:Int)),(16,.I G)])) (fun st=>Ue N rc G (Vg N rc d e n32) H st.1 st.2.1 st.2.2.1 st.2.2.2.1 st.2.2.2.2.1 st.2.2.2.2.2.1 st.2.2.2.2.2.2.1 st.2.2.2.2.2.2.2.1 st.2.2.2.2.2.2.2.2.1 st.2.2.2.2.2.2.2.2.2=some r) ?_ (fun j56=>?_))
   ·rintro ⟨Y,Z,a0,b0,c0,e0,g0,i0,j0,k0⟩ h
    unfold Ue at h
    refine wa J 8 (Z4 (σ:=(List Yv)) (fun st=>(ZhD Z g0 i0 j0 H.Zq H.ZA H.Zt H.As H.ZB e0 st c.all' c.p' d e H.To H.ZC Y a0 b0 c0 [(0,.B 0 0),(1,.S 6),(2,.S 7),(7,.B 16 0),(8,.S 23),(14,.S 6),(15,.I (d.length:Int)),(16,.I G)])) (fun st=>Bg N rc G (Vg N rc d e n32) H Y Z a0 b0 c0 e0 g0 i0 j0 st=some r) ?_ (fun j57=>?_))
    ·intro l0 h
     unfold Bg at h
     refine wa J 7 (Z4 (σ:=(List ZT) × ByteArray × (List ByteArray) × (List Z2) × (List ZS) × (List ByteArray) × ByteArray × ByteArray × Int) (fun st=>⟨[(0,.B 0 0),(1,.S 6),(2,.S 7),(14,.S 6),(15,.I (d.length:Int)),(16,.I G)],[(0,.box [.sl 24,.s st.2.1,.sl 25,.sl 26,.sl 27,.sl 28,.s st.2.2.2.2.2.2.1,.s st.2.2.2.2.2.2.2.1,.I st.2.2.2.2.2.2.2.2] 131),(28,.own rS st.2.2.2.2.2.1 false)],((1,.sl Ys c.all')::YS 2 3 4 c.p' [(6,.sl Yi d),(7,.sl XL e),(24,.sl Ys st.1),(25,.sl rS st.2.2.1),(26,.sl YX st.2.2.2.1),(27,.sl Yi st.2.2.2.2.1)]),29⟩) (fun st=>Bf G (Vg N rc d e n32) st.1 st.2.1 st.2.2.1 st.2.2.2.1 st.2.2.2.2.1 st.2.2.2.2.2.1 st.2.2.2.2.2.2.1 st.2.2.2.2.2.2.2.1 st.2.2.2.2.2.2.2.2=some r) ?_ (fun j59=>?_))
     ·rintro ⟨m0,o0,p0,q0,s0,t0,u0,v0,x0⟩ h
      unfold Bf at h
      exact wa J 5 (ZO [(8,.sl 24),(9,.sl 25),(10,.sl 26),(11,.sl 27),(12,.sl 28)] (ih33 (m0,o0,p0,q0,s0,t0,u0,v0,x0,(ZN (G+1))) h))
     refine wa J 1 (Ye (σ:=(List ZT) × ByteArray × (List ByteArray) × (List Z2) × (List ZS) × (List ByteArray) × ByteArray × ByteArray × Int × Int) (fun st=>⟨[(0,.B 0 0),(1,.S 6),(2,.S 7),(8,.S 23),(14,.S 6),(15,.I (d.length:Int)),(16,.I G),(123,.S 15),(124,.I (H.ZC.length:Int)),(125,.I st.2.2.2.2.2.2.2.2.2)],[(0,.box [.sl 24,.s st.2.1,.sl 25,.sl 26,.sl 27,.sl 28,.s st.2.2.2.2.2.2.1,.s st.2.2.2.2.2.2.2.1,.I st.2.2.2.2.2.2.2.2.1] 131),(28,.own rS st.2.2.2.2.2.1 false)],((1,.sl Ys c.all')::YS 2 3 4 c.p' [(6,.sl Yi d),(7,.sl XL e),(15,.sl (Yx Yi) H.ZC),(23,.sl XL l0),(24,.sl Ys st.1),(25,.sl rS st.2.2.1),(26,.sl YX st.2.2.2.1),(27,.sl Yi st.2.2.2.2.1)]),29⟩) (fun n st=>Ml rc G (Vg N rc d e n32) H l0 n st.1 st.2.1 st.2.2.1 st.2.2.2.1 st.2.2.2.2.1 st.2.2.2.2.2.1 st.2.2.2.2.2.2.1 st.2.2.2.2.2.2.2.1 st.2.2.2.2.2.2.2.2.1 st.2.2.2.2.2.2.2.2.2) (r:=r) (fun _=>rfl) ?_ (fun ih=>?_))
     ·intro n36 ih61
      rintro ⟨y0,z0,A0,B0,C0,D0,G0,H0,I0,L0⟩ h
      unfold Ml at h
      refine ZU J 5 h (fun h=>wa J 2 (ZO [] (j59 (y0,z0,A0,B0,C0,D0,G0,H0,I0) h))) fun h=>?_
      refine wO J 6 h fun M0 O0 h=>Ya J (Y8 Yi) O0 ?_
      exact wO J 7 h fun R0 S0 h=>ZR (rcT (⟨y0,(⟨z0,A0,B0,C0⟩:ZT),D0,(⟨G0,H0,I0⟩:T9)⟩:ZX) M0 l0 _ S0) [] [(0,.bp 0 0),(1,.sl 24),(2,.sl 25),(3,.sl 26),(4,.sl 27),(5,.sl 28),(6,.sl 30),(7,.sl 23)] (wa J 6 (ZO [(24,.sl 31),(25,.sl 32),(26,.sl 33),(27,.sl 34),(28,.sl 35)] (ih61 (R0.all',R0.p'.Zt,R0.p'.ZD,R0.p'.ZE,R0.p'.ZF,R0.calls',R0.out'.ZL,R0.out'.Zt,R0.out'.ZM,(ZN (L0+1))) h)))
     exact WK [23] (ZO [(24,.sl 18),(25,.sl 19),(26,.sl 20),(27,.sl 21),(28,.sl 22)] (ih N (Y,Z,a0,b0,c0,e0,g0,i0,j0,0) h))
    refine wa J 1 (Ye (σ:=(List Yv) × Int) (fun st=>(ZhD Z g0 i0 j0 H.Zq H.ZA H.Zt H.As H.ZB e0 st.1 c.all' c.p' d e H.To H.ZC Y a0 b0 c0 [(0,.B 0 0),(1,.S 6),(2,.S 7),(7,.B 16 0),(8,.S 23),(14,.S 6),(15,.I (d.length:Int)),(16,.I G),(103,.I (k0.length:Int)),(104,.I st.2)])) (fun n st=>Qp N rc G (Vg N rc d e n32) H Y Z a0 b0 c0 e0 g0 i0 j0 k0 n st.1 st.2) (r:=r) (fun _=>rfl) ?_ (fun ih=>?_))
    ·intro n37 ih62
     rintro ⟨U0,V0⟩ h
     unfold Qp at h
     refine ZU J 5 h (fun h=>wa J 2 (ZO [] (j57 U0 h))) fun h=>?_
     refine wO J 14 h fun X0 Y0 h=>Y7 J XL Y0 (wa J 1 (We J UR Y0 ?_))
     refine wB J 1 h (fun h=>?_) fun h=>?_
     ·exact wO J 4 h fun Z0 a1 h=>Y7 J XL a1 (wa J 1 (WL J [] UR (⟨Z0.name',Z0.tail',true⟩:Yv) a1 (wa J 6 (ZO [] (ih62 ((YQ U0 V0 (⟨Z0.name',Z0.tail',true⟩:Yv)),(ZN (V0+1))) h)))))
     exact wO J 4 h fun b1 c1 h=>Y7 J XL c1 (wa J 1 (WL J [] UR (⟨b1.name',b1.tail',(H.Zq==5)⟩:Yv) c1 (wa J 6 (ZO [] (ih62 ((YQ U0 V0 (⟨b1.name',b1.tail',(H.Zq==5)⟩:Yv)),(ZN (V0+1))) h)))))
    exact ZO [] (ih N (k0,0) h)
   refine eB h (fun h=>?_) fun h=>?_
   ·exact wO J 4 h fun e1 g1 h=>ZR (ZsY N (⟨q,(⟨u,v,x,y⟩:ZT),z,(⟨A,C,D⟩:T9)⟩:ZX) H _ g1) [] [(0,.bp 0 0),(1,.sl 8),(2,.sl 9),(3,.sl 10),(4,.sl 11),(5,.sl 12),(6,.sl 14),(7,.sl 15)] (wa J 1 (ZO [(23,.sl 17)] (j56 (e1.all',e1.p'.Zt,e1.p'.ZD,e1.p'.ZE,e1.p'.ZF,e1.calls',e1.out'.ZL,e1.out'.Zt,e1.out'.ZM,X) h)))
   refine wB J 6 h (fun h=>wa J 5 (Yy J [] oS ([H.ZA]:List ByteArray) ?_)) fun h=>?_
   ·have ⟨i1,k1,h⟩:=ob h
    exact ZR (Zf1 N (⟨q,(⟨u,v,x,y⟩:ZT),z,(⟨A,C,D⟩:T9)⟩:ZX) ([H.ZA]:List ByteArray) 0 _ k1) [18] [(0,.bp 0 0),(1,.sl 8),(2,.sl 9),(3,.sl 10),(4,.sl 11),(5,.sl 12),(6,.sl 18)] (wa J 1 (ZO [(18,.sl 19),(19,.sl 20),(20,.sl 21),(21,.sl 22),(22,.sl 23),(23,.sl 17)] (j56 (i1.all',i1.p'.Zt,i1.p'.ZD,i1.p'.ZE,i1.p'.ZF,i1.calls',i1.out'.ZL,i1.out'.Zt,i1.out'.ZM,X) h)))
   refine wB J 6 h (fun h=>?_) fun h=>?_
   ·refine wO J 6 h fun l1 m1 h=>XA (Zs0 N X H _ m1) [] [(0,.sl 17),(1,.bp 16 0),(2,.sl 14),(3,.sl 15)] [17] (.inr ⟨rfl,trivial⟩) ?_
    refine ZU J 1 h (fun h=>wa J 7 (Yy J [] UR ([(⟨H.Zt,true,false⟩:Yv)]:List Yv) ?_)) fun h=>?_
    ·have ⟨o1,p1,h⟩:=ob h
     exact YR J XL p1 (wa J 2 (ZO [(18,.sl 8),(19,.sl 9),(20,.sl 10),(21,.sl 11),(22,.sl 12),(23,.sl 19)] (j56 (q,u,v,x,y,z,A,C,D,o1) h)))
    refine wO J 5 h fun q1 s1 h=>ZR (Wb N (⟨q,(⟨u,v,x,y⟩:ZT),z,(⟨A,C,D⟩:T9)⟩:ZX) H.Zt 9 _ s1) [] [(0,.bp 0 0),(1,.sl 8),(2,.sl 9),(3,.sl 10),(4,.sl 11),(5,.sl 12)] (wa J 6 (Yy J [] UR ([(⟨H.Zt,true,false⟩:Yv)]:List Yv) ?_))
    have ⟨t1,u1,h⟩:=ob h
    exact YR J XL u1 (wa J 2 (ZO [(23,.sl 24)] (j56 (q1.all',q1.p'.Zt,q1.p'.ZD,q1.p'.ZE,q1.p'.ZF,q1.calls',q1.out'.ZL,q1.out'.Zt,q1.out'.ZM,t1) h)))
   refine ZU J 6 h (fun h=>?_) fun h=>?_
   ·refine ZU J 6 h (fun h=>wa J 2 (ZO [(18,.sl 8),(19,.sl 9),(20,.sl 10),(21,.sl 11),(22,.sl 12),(23,.sl 17)] (j56 (q,u,v,x,y,z,A,C,D,X) h))) fun h=>?_
    exact wO J 4 h fun v1 x1 h=>ZR (Zs5 N (⟨q,(⟨u,v,x,y⟩:ZT),z,(⟨A,C,D⟩:T9)⟩:ZX) H _ x1) [] [(0,.bp 0 0),(1,.sl 8),(2,.sl 9),(3,.sl 10),(4,.sl 11),(5,.sl 12),(6,.sl 14),(7,.sl 15)] (wa J 1 (ZO [(23,.sl 17)] (j56 (v1.all',v1.p'.Zt,v1.p'.ZD,v1.p'.ZE,v1.p'.ZF,v1.calls',v1.out'.ZL,v1.out'.Zt,v1.out'.ZM,X) h)))
   refine wO J 5 h fun y1 z1 h=>XA (Zs3 N X H _ z1) [] [(0,.sl 17),(1,.bp 16 0),(2,.sl 14),(3,.sl 15)] [17] (.inr ⟨rfl,trivial⟩) ?_
   refine wB J 9 h (fun h=>?_) fun h=>?_
   ·exact wO J 5 h fun A1 B1 h=>ZR (Wb N (⟨q,(⟨u,v,x,y⟩:ZT),z,(⟨A,C,D⟩:T9)⟩:ZX) H.Zt 10 _ B1) [] [(0,.bp 0 0),(1,.sl 8),(2,.sl 9),(3,.sl 10),(4,.sl 11),(5,.sl 12)] (wa J 2 (ZO [(23,.sl 17)] (j56 (A1.all',A1.p'.Zt,A1.p'.ZD,A1.p'.ZE,A1.p'.ZF,A1.calls',A1.out'.ZL,A1.out'.Zt,A1.out'.ZM,X) h)))
   refine wO J 5 h fun C1 D1 h=>Y7 J XL D1 (wa J 1 (We J UR D1 ?_))
   refine ZU J 3 h (fun h=>wa J 3 (ZO [(18,.sl 8),(19,.sl 9),(20,.sl 10),(21,.sl 11),(22,.sl 12),(23,.sl 17)] (j56 (q,u,v,x,y,z,A,C,D,X) h))) fun h=>?_
   exact wO J 5 h fun G1 H1 h=>ZR (Wb N (⟨q,(⟨u,v,x,y⟩:ZT),z,(⟨A,C,D⟩:T9)⟩:ZX) H.Zt 7 _ H1) [] [(0,.bp 0 0),(1,.sl 8),(2,.sl 9),(3,.sl 10),(4,.sl 11),(5,.sl 12)] (wa J 2 (ZO [(18,.sl 19),(19,.sl 20),(20,.sl 21),(21,.sl 22),(22,.sl 23),(23,.sl 17)] (j56 (G1.all',G1.p'.Zt,G1.p'.ZD,G1.p'.ZE,G1.p'.ZF,G1.calls',G1.out'.ZL,G1.out'.Zt,G1.out'.ZM,X) h)))
  refine wa J 1 (Ye (σ:=(List Yv) × Int) (fun st=>(ZmM u A C D z H.Zq H.ZA H.Zt H.As H.ZB st.1 c.all' c.p' d e q v x y H.To H.ZC [(0,.B 0 0),(1,.S 6),(2,.S 7),(6,.I G),(7,.B 16 0),(8,.S 17),(14,.S 6),(15,.I (d.length:Int)),(16,.I G),(24,.I (T.length:Int)),(25,.I st.2)])) (fun n st=>Qq N rc d q u v x y z A C D G (Vg N rc d e n32) H T n st.1 st.2) (r:=r) (fun _=>rfl) ?_ (fun ih=>?_))
  ·intro n38 ih63
   rintro ⟨I1,L1⟩ h
   unfold Qq at h
   refine ZU J 5 h (fun h=>wa J 2 (ZO [] (j54 I1 h))) fun h=>?_
   refine wO J 14 h fun M1 O1 h=>Y7 J XL O1 (wa J 1 (We J UR O1 ?_))
   refine wB J 1 h (fun h=>?_) fun h=>?_
   ·exact wO J 6 h fun R1 S1 h=>Y7 J XL S1 (wa J 1 (WL J [] UR (⟨R1.name',(G==(ZN ((d.length:Int)-1))),R1.hidden'⟩:Yv) S1 (wa J 6 (ZO [] (ih63 ((YQ I1 L1 (⟨R1.name',(G==(ZN ((d.length:Int)-1))),R1.hidden'⟩:Yv)),(ZN (L1+1))) h)))))
   exact wO J 6 h fun U1 V1 h=>Y7 J XL V1 (wa J 1 (WL J [] UR (⟨U1.name',false,U1.hidden'⟩:Yv) V1 (wa J 6 (ZO [] (ih63 ((YQ I1 L1 (⟨U1.name',false,U1.hidden'⟩:Yv)),(ZN (L1+1))) h)))))
  exact ZO [] (ih N (T,0) h)
 exact ZO [(8,.sl 1),(9,.sl 2),(10,.sl 3),(11,.sl 4),(12,.sl 5)] (ih N (c.all',c.p'.Zt,c.p'.ZD,c.p'.ZE,c.p'.ZF,c.calls',c.out'.ZL,c.out'.Zt,c.out'.ZM,0) h)
theorem ZuZ:∀ (N:Nat) (c:ZX) (d:(List ZS)) (e:(List Yv)) (r:ZX) (h:Zdb N c d e=some r),Fn Tryz.prog 49 ⟨8,[.B 0 0,.S 6,.S 7],((1,.sl Ys c.all')::YS 2 3 4 c.p' [(6,.sl Yi d),(7,.sl XL e)]),[(0,.box (Xw 1 2 3 4 5 c) 131),(5,.own rS c.calls' false)],13,.t [],((8,.sl Ys r.all')::YS 9 10 11 r.p' []),[(5,.gone),(12,.own rS r.calls' false),(0,.box (Xw 8 9 10 11 12 r) 131)]⟩:=by
 intro N
 induction N with
 | zero=>intros;rename_i h;cases h
 | succ N ih=>intro c d e r h;exact ZuX N (Zdb N) ih c d e r h
theorem ZuY (N:Nat) (c:ZX) (d:(List ZS)) (e:(List Yv)) (r:ZX) (h:Vw N c d e=some r):Fn Tryz.prog 49 ⟨8,[.B 0 0,.S 6,.S 7],((1,.sl Ys c.all')::YS 2 3 4 c.p' [(6,.sl Yi d),(7,.sl XL e)]),[(0,.box (Xw 1 2 3 4 5 c) 131),(5,.own rS c.calls' false)],13,.t [],((8,.sl Ys r.all')::YS 9 10 11 r.p' []),[(5,.gone),(12,.own rS r.calls' false),(0,.box (Xw 8 9 10 11 12 r) 131)]⟩:=ZuZ N c d e r h
end Gx
end
