/- Each function of the statement computes what its plain definition says, part 2. -/
import Derived.Test.YtdlhgdfjpilcjaaGreatDoorExplainWhyWalk1
set_option linter.all false
section
set_option maxRecDepth 10000
set_option maxHeartbeats 4000000
open Go Go.Kx Go.Proofs Tryz
namespace Gx
theorem Zm7 (N:Nat) (x_:(List Int)) (r:Int) (h:Zc1 N x_=some r) :
 Fn Tryz.prog 249 ⟨1,[.S 0],[(0,.sl (rI .i64) x_)],[],1,.I r,[],[]⟩:=by
 refine Zs func249 rfl (fun E F w=>?_)
 unfold Zc1 at h
 refine wB J 11 h (fun h=>?_) fun h=>?_
 ·cases h
 refine wO J 5 h fun x1 c h=>Zq J (oI .i64) c (wa J 8 (ZB (σ:=Int) (fun st=>(Zbk x_ [(3,.I st)])) (fun st=>ZbG st=some r) ?_ (fun j2=>?_)))
 ·intro d h
  replace h:ZbG d=some r:=h
  unfold ZbG at h
  cases h
  exact wr J 5 func249 []
 refine wa J 1 (ZF (σ:=Int × Int) (fun st=>(Zbk x_ [(0,.S 0),(3,.I st.1),(4,.I st.2)])) (fun n st=>HC x_ n st.1 st.2) (r:=r) (fun _=>rfl) ?_ (fun ih=>?_))
 ·intro n2 ih4
  rintro ⟨e,f⟩ h
  replace h:HC x_ (n2+1) e f=some r:=h
  unfold HC at h
  refine Zo J 8 h (fun h=>wa J 2 (Zj [] (j2 e h))) fun h=>?_
  exact wO J 8 h fun g i h=>Zq J (oI .i64) i (wa J 10 (Zj [] (ih4 ((YI e g),(Zi (f+1))) h)))
 exact Zj [] (ih N (x1,1) h)
theorem Zmd (N:Nat) (x_:(List Int)) (r:Int) (h:ZdH N x_=some r) :
 Fn Tryz.prog 250 ⟨1,[.S 0],[(0,.sl (rI .i64) x_)],[],1,.I r,[],[]⟩:=by
 refine Zs func250 rfl (fun E F w=>?_)
 unfold ZdH at h
 refine wB J 11 h (fun h=>?_) fun h=>?_
 ·cases h
 refine wO J 5 h fun x1 c h=>Zq J (oI .i64) c (wa J 8 (ZB (σ:=Int) (fun st=>(Zbk x_ [(3,.I st)])) (fun st=>Zah st=some r) ?_ (fun j2=>?_)))
 ·intro d h
  replace h:Zah d=some r:=h
  unfold Zah at h
  cases h
  exact wr J 5 func250 []
 refine wa J 1 (ZF (σ:=Int × Int) (fun st=>(Zbk x_ [(0,.S 0),(3,.I st.1),(4,.I st.2)])) (fun n st=>DM x_ n st.1 st.2) (r:=r) (fun _=>rfl) ?_ (fun ih=>?_))
 ·intro n2 ih4
  rintro ⟨e,f⟩ h
  replace h:DM x_ (n2+1) e f=some r:=h
  unfold DM at h
  refine Zo J 8 h (fun h=>wa J 2 (Zj [] (j2 e h))) fun h=>?_
  exact wO J 8 h fun g i h=>Zq J (oI .i64) i (wa J 10 (Zj [] (ih4 ((Wk e g),(Zi (f+1))) h)))
 exact Zj [] (ih N (x1,1) h)
theorem ZfT (N:Nat) (z_:ZY) (r:Bool) (h:Zbn N z_=some r) :
 Fn Tryz.prog 196 ⟨1,[.a (VZ 0 z_)],[(0,.sl (rI .i64) z_.B)],[],1,.O r,[],[]⟩:=by
 refine Zs func196 rfl (fun E F w=>?_)
 unfold Zbn at h
 refine Zo J 11 h (fun h=>?_) fun h=>?_
 ·cases h
  exact wr J 31 func196 []
 refine Zo J 5 h (fun h=>?_) fun h=>?_
 ·cases h
  exact wr J 26 func196 []
 refine Zo J 13 h (fun h=>?_) fun h=>?_
 ·cases h
  exact wr J 13 func196 []
 refine wO J 2 h fun x1 c h=>Zn (Zm7 N z_.B _ c) [] [(0,.sl 0)] ?_
 refine Zo J 3 h (fun h=>?_) fun h=>?_
 ·cases h
  exact wr J 7 func196 []
 refine wO J 2 h fun x2 d h=>Zn (Zmd N z_.B _ d) [] [(0,.sl 0)] ?_
 cases h
 exact wr J 4 func196 []
theorem Zhk (N:Nat) (z_:ZY) (x_:Int) (r:Bool) (h:Zbj N z_ x_=some r) :
 Fn Tryz.prog 197 ⟨1,[.a (VZ 0 z_),.I x_],[(0,.sl (rI .i64) z_.B)],[],1,.O r,[],[]⟩:=by
 refine Zs func197 rfl (fun E F w=>?_)
 unfold Zbj at h
 refine wB J 10 h (fun h=>?_) fun h=>?_
 ·cases h
  exact wr J 7 func197 []
 cases h
 exact wr J 7 func197 []
theorem Zhn (N:Nat) (s_:(List Int)) (r:(List Int)) (h:Za4 N s_=some r) :
 Fn Tryz.prog 198 ⟨1,[.S 0],[(0,.sl (rI .i64) s_)],[],2,.S 1,[],[(1,.own (rI .i64) r true)]⟩:=by
 refine Zs func198 rfl (fun E F w=>?_)
 unfold Za4 at h
 refine wa J 8 (eNi (rI .i64) s_ false ?_)
 intro nb hnb
 cases nb
 ·refine wa J 5 (Z8 J [] (oI .i64) ([]:List Int) ?_)
  refine wO J 1 h fun x1 c h=>Yr J (rI .i64) c ?_
  cases h
  exact wr J 2 func198 [(1,.sl 2)]
 ·obtain rfl:=hnb rfl
  replace h:(some ([]:List Int):Option (List Int))=some r:=h
  cases h
  exact wr J 6 func198 [(1,.nil)]
theorem Zk6 (N:Nat) (z_:ZY) (d_:T1) (r:ZY × Int) (h:Zdn N z_ d_=some r) :
 Fn Tryz.prog 111 ⟨1,[.a (VZ 0 z_),.a (Da d_)],[(0,.sl (rI .i64) z_.B)],[],2,.t [.inr (VZ 1 r.1),.inl (.I r.2)],[(1,.sl (rI .i64) r.1.B)],[]⟩:=by
 refine Zs func111 rfl (fun E F w=>?_)
 unfold Zdn at h
 refine wO J 11 h fun x1 c h=>Zn (ZfT N z_ _ c) [] [(0,.sl 0)] ?_
 refine wB J 2 h (fun h=>?_) fun h=>?_
 ·cases h
  exact wr J 7 func111 [(1,.nil)]
 refine wO J 8 h fun x2 d h=>Zn (Zhk N z_ d_.X _ d) [] [(0,.sl 0)] ?_
 refine wB J 2 h (fun h=>?_) fun h=>?_
 ·cases h
  exact wr J 14 func111 [(1,.nil)]
 refine wO J 3 h fun x3 e h=>Zn (Zhk N z_ d_.Y _ e) [] [(0,.sl 0)] ?_
 refine wB J 3 h (fun h=>?_) fun h=>?_
 ·cases h
  exact wr J 7 func111 [(1,.nil)]
 refine wO J 8 h fun x4 f h=>Zn (Zhn N z_.B _ f) [] [(0,.sl 0)] (wa J 3 (ZA ?_))
 refine wO J 23 h fun x5 g h=>Z9 J (rI .i64) g (YJ J (oI .i64) g ?_)
 refine wO J 4 h fun x6 i h=>Z9 J (rI .i64) i (Xj J [] (oI .i64) (YI x5 (Wk d_.C (-20001))) i (ZA (wa J 6 (UD [4] ?_))))
 cases h
 exact Z4 J func111 [(1,.sl 4)]
theorem ZlK (N:Nat) (z_:ZY) (r:ZY × Bool) (h:Ze1 N z_=some r) :
 Fn Tryz.prog 199 ⟨1,[.a (VZ 0 z_)],[(0,.sl (rI .i64) z_.B)],[],2,.t [.inr (VZ 1 r.1),.inl (.b r.2)],[(1,.sl (rI .i64) r.1.B)],[]⟩:=by
 refine Zs func199 rfl (fun E F w=>?_)
 unfold Ze1 at h
 refine wO J 10 h fun x1 c h=>Zn (ZfT N z_ _ c) [] [(0,.sl 0)] ?_
 refine wB J 2 h (fun h=>?_) fun h=>?_
 ·cases h
  exact wr J 7 func199 [(1,.nil)]
 refine wO J 15 h fun x2 d h=>Zn (Zhn N z_.B _ d) [] [(0,.sl 0)] (wa J 3 (ZA (wa J 6 (ZB (σ:=(List Int)) (fun st=>(V6 st z_ z_.B [(2,.B 2 0),(4,.I (Zi (z_.N+1))),(5,.B 4 0)])) (fun st=>Zcg N z_ st=some r) ?_ (fun j1=>?_)))))
 ·intro e h
  replace h:Zcg N z_ e=some r:=h
  unfold Zcg at h
  refine wa J 6 (ZB (σ:=(List Int)) (fun st=>(V6 st z_ z_.B [(2,.B 2 0),(5,.B 4 0)])) (fun st=>Zbo z_ st=some r) ?_ (fun j12=>?_))
  ·intro f h
   replace h:Zbo z_ f=some r:=h
   unfold Zbo at h
   refine wa J 6 (UD [3] ?_)
   cases h
   exact Z4 J func199 [(1,.sl 3)]
  refine wa J 1 (ZF (σ:=(List Int) × Int) (fun st=>(V6 st.1 z_ z_.B [(2,.B 2 0),(4,.I (Zi (z_.N+1))),(5,.B 4 0),(56,.I (Zi (z_.N+1))),(57,.I st.2)])) (fun n st=>WB N z_ n st.1 st.2) (r:=r) (fun _=>rfl) ?_ (fun ih=>?_))
  ·intro n89 ih86
   rintro ⟨g,i⟩ h
   replace h:WB N z_ (n89+1) g i=some r:=h
   unfold WB at h
   refine Zo J 5 h (fun h=>wa J 2 (Zj [] (j12 g h))) fun h=>wa J 15 (ZB (σ:=(List Int)) (fun st=>(V6 st z_ z_.B [(2,.B 2 0),(4,.I (Zi (z_.N+1))),(5,.B 4 0),(56,.I (Zi (z_.N+1))),(57,.I i)])) (fun st=>Zb8 N z_ i (WB N z_ n89) st=some r) ?_ (fun j135=>?_))
   ·intro j h
    replace h:Zb8 N z_ i (WB N z_ n89) j=some r:=h
    unfold Zb8 at h
    refine wa J 5 (ZB (σ:=Unit) (fun st=>(V6 j z_ z_.B [(2,.B 2 0),(4,.I (Zi (z_.N+1))),(5,.B 4 0),(56,.I (Zi (z_.N+1))),(57,.I i)])) (fun st=>Zce i (WB N z_ n89) j=some r) ?_ (fun j146=>?_))
    ·intro _ h
     replace h:Zce i (WB N z_ n89) j=some r:=h
     unfold Zce at h
     exact wa J 5 (Zj [] (ih86 (j,(Zi (i+1))) h))
    refine wa J 1 (ZF (σ:=Int) (fun st=>(V6 j z_ z_.B [(2,.B 2 0),(4,.I (Zi (z_.N+1))),(5,.B 4 0),(56,.I (Zi (z_.N+1))),(57,.I i),(107,.I (Zi (z_.N+1))),(108,.I st)])) (fun n st=>DP z_ i (WB N z_ n89) j n st) (r:=r) (fun _=>rfl) ?_ (fun ih=>?_))
    ·intro n98 ih148
     intro k h
     replace h:DP z_ i (WB N z_ n89) j (n98+1) k=some r:=h
     unfold DP at h
     refine Zo J 5 h (fun h=>wa J 2 (Zj [] (j146 () h))) fun h=>?_
     refine wO J 18 h fun l m h=>Z9 J (rI .i64) m (YJ J (oI .i64) m ?_)
     refine wB J 2 h (fun h=>?_) fun h=>wa J 7 (Zj [] (ih148 (Zi (k+1)) h))
     cases h
     exact wr J 7 func199 [(1,.nil)]
    exact Zj [] (ih N 0 h)
   refine wa J 1 (ZF (σ:=(List Int) × Int) (fun st=>(V6 st.1 z_ z_.B [(2,.B 2 0),(4,.I (Zi (z_.N+1))),(5,.B 4 0),(8,.I i),(56,.I (Zi (z_.N+1))),(57,.I i),(60,.I (Zi (z_.N+1))),(61,.I st.2)])) (fun n st=>TY N z_ i (WB N z_ n89) n st.1 st.2) (r:=r) (fun _=>rfl) ?_ (fun ih=>?_))
   ·intro n103 ih149
    rintro ⟨o,p⟩ h
    replace h:TY N z_ i (WB N z_ n89) (n103+1) o p=some r:=h
    unfold TY at h
    refine Zo J 5 h (fun h=>wa J 2 (Zj [] (j135 o h))) fun h=>wa J 14 (ZB (σ:=(List Int)) (fun st=>(V6 st z_ z_.B [(2,.B 2 0),(4,.I (Zi (z_.N+1))),(5,.B 4 0),(8,.I i),(56,.I (Zi (z_.N+1))),(57,.I i),(60,.I (Zi (z_.N+1))),(61,.I p)])) (fun st=>Zcb p (TY N z_ i (WB N z_ n89) n103) st=some r) ?_ (fun j156=>?_))
    ·intro q h
     replace h:Zcb p (TY N z_ i (WB N z_ n89) n103) q=some r:=h
     unfold Zcb at h
     exact wa J 5 (Zj [] (ih149 (q,(Zi (p+1))) h))
    refine wa J 1 (ZF (σ:=(List Int) × Int) (fun st=>(V6 st.1 z_ z_.B [(2,.B 2 0),(4,.I (Zi (z_.N+1))),(5,.B 4 0),(8,.I i),(9,.I p),(56,.I (Zi (z_.N+1))),(57,.I i),(60,.I (Zi (z_.N+1))),(61,.I p),(64,.I (Zi (z_.N+1))),(65,.I st.2)])) (fun n st=>DV z_ i p (TY N z_ i (WB N z_ n89) n103) n st.1 st.2) (r:=r) (fun _=>rfl) ?_ (fun ih=>?_))
    ·intro n105 ih158
     rintro ⟨s,u⟩ h
     replace h:DV z_ i p (TY N z_ i (WB N z_ n89) n103) (n105+1) s u=some r:=h
     unfold DV at h
     refine Zo J 5 h (fun h=>wa J 2 (Zj [] (j156 s h))) fun h=>?_
     refine wO J 24 h fun v x h=>Z9 J (rI .i64) x (YJ J (oI .i64) x ?_)
     refine wO J 7 h fun y z h=>Z9 J (rI .i64) z (YJ J (oI .i64) z ?_)
     refine wO J 7 h fun A C h=>Z9 J (rI .i64) C (YJ J (oI .i64) C ?_)
     exact wO J 2 h fun D G h=>Z9 J (rI .i64) G (Xj J [] (oI .i64) (YI v (Zi (y+A))) G (ZA (wa J 5 (Zj [] (ih158 ((ZW s (Zi ((Zi (p * (Zi (z_.N+1))))+u)) (YI v (Zi (y+A)))),(Zi (u+1))) h)))))
    exact Zj [] (ih N (o,0) h)
   exact Zj [] (ih N (g,0) h)
  exact Zj [] (ih N (e,0) h)
 refine wa J 1 (ZF (σ:=(List Int) × Int) (fun st=>(V6 st.1 z_ z_.B [(2,.B 2 0),(4,.I (Zi (z_.N+1))),(5,.B 4 0),(25,.I (Zi (z_.N+1))),(26,.I st.2)])) (fun n st=>Sf N z_ n st.1 st.2) (r:=r) (fun _=>rfl) ?_ (fun ih=>?_))
 ·intro n110 ih159
  rintro ⟨H,R⟩ h
  replace h:Sf N z_ (n110+1) H R=some r:=h
  unfold Sf at h
  refine Zo J 5 h (fun h=>wa J 2 (Zj [] (j1 H h))) fun h=>wa J 14 (ZB (σ:=(List Int)) (fun st=>(V6 st z_ z_.B [(2,.B 2 0),(4,.I (Zi (z_.N+1))),(5,.B 4 0),(25,.I (Zi (z_.N+1))),(26,.I R)])) (fun st=>Bv R (Sf N z_ n110) st=some r) ?_ (fun j166=>?_))
  ·intro T h
   replace h:Bv R (Sf N z_ n110) T=some r:=h
   unfold Bv at h
   exact wa J 5 (Zj [] (ih159 (T,(Zi (R+1))) h))
  refine wa J 1 (ZF (σ:=(List Int) × Int) (fun st=>(V6 st.1 z_ z_.B [(2,.B 2 0),(4,.I (Zi (z_.N+1))),(5,.B 4 0),(6,.I R),(25,.I (Zi (z_.N+1))),(26,.I R),(29,.I (Zi (z_.N+1))),(30,.I st.2)])) (fun n st=>Gs N z_ R (Sf N z_ n110) n st.1 st.2) (r:=r) (fun _=>rfl) ?_ (fun ih=>?_))
  ·intro n112 ih168
   rintro ⟨U,X⟩ h
   replace h:Gs N z_ R (Sf N z_ n110) (n112+1) U X=some r:=h
   unfold Gs at h
   refine Zo J 5 h (fun h=>wa J 2 (Zj [] (j166 U h))) fun h=>?_
   refine wO J 24 h fun Y Z h=>Z9 J (rI .i64) Z (YJ J (oI .i64) Z ?_)
   refine wO J 2 h fun a0 b0 h=>Zn (Zg1 N R X _ b0) [] [] ?_
   exact wO J 1 h fun c0 d0 h=>Z9 J (rI .i64) d0 (Xj J [] (oI .i64) (YI Y a0) d0 (ZA (wa J 5 (Zj [] (ih168 ((ZW U (Zi ((Zi (R * (Zi (z_.N+1))))+X)) (YI Y a0)),(Zi (X+1))) h)))))
  exact Zj [] (ih N (H,0) h)
 exact Zj [] (ih N (x2,0) h)
theorem Zg6 (N:Nat) (z_:ZY) (i_:Int) (j_:Int) (r:Int) (h:B8 N z_ i_ j_=some r) :
 Fn Tryz.prog 200 ⟨1,[.a (VZ 0 z_),.I i_,.I j_],[(0,.sl (rI .i64) z_.B)],[],1,.I r,[],[]⟩:=by
 refine Zs func200 rfl (fun E F w=>?_)
 unfold B8 at h
 refine wO J 16 h fun x1 c h=>Zq J (oI .i64) c ?_
 cases h
 exact wr J 3 func200 []
theorem Zn9 (N:Nat) (z_:ZY) (r:(List Int) × Bool) (h:ZeY N z_=some r) :
 Fn Tryz.prog 112 ⟨1,[.a (VZ 0 z_)],[(0,.sl (rI .i64) z_.B)],[],2,.t [.inl (.sl 1),.inl (.b r.2)],[],[(1,.own (rI .i64) r.1 true)]⟩:=by
 refine Zs func112 rfl (fun E F w=>?_)
 unfold ZeY at h
 refine wO J 9 h fun x1 c h=>Zn (ZlK N z_ _ c) [] [(0,.sl 0)] ?_
 refine wB J 13 h (fun h=>?_) fun h=>wa J 4 (Z8 J [] (oI .i64) ([]:List Int) (wa J 9 (ZB (σ:=(List Int)) (fun st=>⟨[(6,.S 5)],[(5,.own (rI .i64) st true)],[(0,.sl (rI .i64) z_.B)],6⟩) (fun st=>ZaN st=some r) ?_ (fun j1=>?_))))
 ·cases h
  exact wr J 6 func112 [(1,.nil)]
 ·intro d h
  replace h:ZaN d=some r:=h
  unfold ZaN at h
  cases h
  exact wr J 6 func112 [(1,.sl 5)]
 refine wa J 1 (ZF (σ:=(List Int) × Int) (fun st=>(ZcR x1.1 st.1 z_.B x1.1.B [(4,.B 3 0),(6,.S 5),(20,.I z_.N),(21,.I st.2)])) (fun n st=>Sr N z_ x1 n st.1 st.2) (r:=r) (fun _=>rfl) ?_ (fun ih=>?_))
 ·intro n12 ih12
  rintro ⟨e,f⟩ h
  replace h:Sr N z_ x1 (n12+1) e f=some r:=h
  unfold Sr at h
  refine Zo J 5 h (fun h=>wa J 2 (Zj [] (j1 e h))) fun h=>?_
  refine wO J 14 h fun g i h=>Zn (Zg6 N x1.1 0 (Zi (f+1)) _ i) [] [(0,.sl 2)] (wa J 10 (ZB (σ:=Int) (fun st=>(ZcR x1.1 e z_.B x1.1.B [(4,.B 3 0),(6,.S 5),(8,.I st),(20,.I z_.N),(21,.I f)])) (fun st=>Za7 e f (Sr N z_ x1 n12) st=some r) ?_ (fun j19=>?_)))
  ·intro j h
   replace h:Za7 e f (Sr N z_ x1 n12) j=some r:=h
   unfold Za7 at h
   refine wa J 3 (Z8 J [] (oI .i64) ([j]:List Int) ?_)
   obtain ⟨k,l,h⟩:=ob h
   exact Yr J (rI .i64) l (wa J 7 (Zj [(5,.sl 7)] (ih12 (k,(Zi (f+1))) h)))
  refine wa J 1 (ZF (σ:=Int × Int) (fun st=>(ZcR x1.1 e z_.B x1.1.B [(4,.B 3 0),(6,.S 5),(7,.I f),(8,.I st.1),(20,.I z_.N),(21,.I f),(29,.S 5),(30,.I (e.length:Int)),(31,.I st.2)])) (fun n st=>L4 N x1 e f (Sr N z_ x1 n12) n st.1 st.2) (r:=r) (fun _=>rfl) ?_ (fun ih=>?_))
  ·intro n14 ih21
   rintro ⟨m,o⟩ h
   replace h:L4 N x1 e f (Sr N z_ x1 n12) (n14+1) m o=some r:=h
   unfold L4 at h
   refine Zo J 5 h (fun h=>wa J 2 (Zj [] (j19 m h))) fun h=>?_
   refine wO J 7 h fun p q h=>Z9 J (rI .i64) q (YJ J (oI .i64) q ?_)
   exact wO J 11 h fun s u h=>Zn (Zg6 N x1.1 (Zi (o+1)) (Zi (f+1)) _ u) [] [(0,.sl 2)] (wa J 9 (Zj [] (ih21 ((Wk m (Zi (p-s))),(Zi (o+1))) h)))
  exact Zj [] (ih N ((Zi (0-g)),0) h)
 exact Zj [(5,.sl 4)] (ih N (([]:List Int),0) h)
theorem ZhN (l:List UInt8):∀ n:Nat,Go.Lib.repeatL l n=ZbF l n
 | 0=>rfl
 | n+1=>by show l++Go.Lib.repeatL l n=l++ZbF l n;rw [ZhN l n]
theorem ZoH (N:Nat) (s_:ByteArray) (count_:Int) (r:ByteArray) (h:ZcH N s_ count_=some r):Fn Tryz.prog 113 ⟨0,[.c (.s s_),.I count_],[],[],0,.c (.s r),[],[]⟩:=by
 unfold ZcH at h
 cases hb:((decide (0≤count_) && decide (count_≤140737488355328)) && decide (s_.size * count_.toNat≤140737488355328)) with
 | false=>rw [hb] at h;cases h
 | true =>
  rw [hb] at h
  simp only [cond_true,Option.some.injEq] at h
  subst h
  simp only [Zc,decide_eq_true_eq] at hb
  obtain ⟨⟨h1,h2⟩,h3⟩:=hb
  obtain ⟨c,rfl⟩:=Ze h1
  have:=ZoV s_ c (by omega) h3
  rw [ZhN] at this
  exact this
theorem Zn7 (N:Nat) (d_:T0) (l_:(List Zm)) (r:(List Zm)) (h:Zeo N d_ l_=some r) :
 Fn Tryz.prog 115 ⟨4,[.a (Yt 0 1 2 d_),.S 3],(Yn 0 1 2 d_ []),[(3,.own ZD l_ false)],4,.t [],[],[(3,.own ZD r false)]⟩:=by
 refine Zs func115 rfl (fun E F w=>?_)
 unfold Zeo at h
 refine wO J 8 h fun x1 c h=>Ue J oB c (wa J 9 (ZB (σ:=(List Bool)) (fun st=>(Hh l_ d_ st [(1,.S 3),(2,.B 4 0),(4,.S 5)])) (fun st=>B4 N d_ l_ st=some r) ?_ (fun j1=>?_)))
 ·intro d h
  replace h:B4 N d_ l_ d=some r:=h
  unfold B4 at h
  refine wa J 4 (ZB (σ:=(List Zm)) (fun st=>⟨[],[(3,.own ZD st false)],(Yn 0 1 2 d_ []),6⟩) (fun st=>ZbW st=some r) ?_ (fun j3=>?_))
  ·intro e h
   replace h:ZbW e=some r:=h
   unfold ZbW at h
   cases h
   exact Z4 J func115 []
  refine wa J 1 (ZF (σ:=(List Zm) × (List Bool) × Bool) (fun st=>(Hh st.1 d_ st.2.1 [(1,.S 3),(2,.B 4 0),(4,.S 5),(6,.O st.2.2)])) (fun n st=>WY N d_ n st.1 st.2.1 st.2.2) (r:=r) (fun _=>rfl) ?_ (fun ih=>?_))
  ·intro n73 ih176
   rintro ⟨f,g,j⟩ h
   replace h:WY N d_ (n73+1) f g j=some r:=h
   unfold WY at h
   refine Zo J 5 h (fun h=>wa J 2 (Zj [] (j3 f h))) fun h=>wa J 15 (ZB (σ:=(List Zm) × (List Bool) × Bool) (fun st=>(Hh st.1 d_ st.2.1 [(1,.S 3),(2,.B 4 0),(4,.S 5),(6,.O st.2.2)])) (fun st=>B2 (WY N d_ n73) st.1 st.2.1 st.2.2=some r) ?_ (fun j291=>?_))
   ·rintro ⟨k,l,m⟩ h
    replace h:B2 (WY N d_ n73) k l m=some r:=h
    unfold B2 at h
    exact wa J 1 (Zj [] (ih176 (k,l,m) h))
   refine wa J 1 (ZF (σ:=(List Zm) × (List Bool) × Bool × Int) (fun st=>(Hh st.1 d_ st.2.1 [(1,.S 3),(2,.B 4 0),(4,.S 5),(6,.O st.2.2.1),(49,.S 2),(50,.I (d_.Guard.Equals.length:Int)),(51,.I st.2.2.2)])) (fun n st=>US N d_ (WY N d_ n73) n st.1 st.2.1 st.2.2.1 st.2.2.2) (r:=r) (fun _=>rfl) ?_ (fun ih=>?_))
   ·intro n85 ih320
    rintro ⟨o,p,q,s⟩ h
    replace h:US N d_ (WY N d_ n73) (n85+1) o p q s=some r:=h
    unfold US at h
    refine Zo J 5 h (fun h=>wa J 2 (Zj [] (j291 (o,p,q) h))) fun h=>?_
    refine wO J 6 h fun u v h=>Zq J (oP (oI .i64) (oI .i64)) v (wa J 9 (ZB (σ:=(List Zm) × (List Bool) × Bool) (fun st=>⟨[(1,.S 3),(2,.B 4 0),(4,.S 5),(6,.O st.2.2),(49,.S 2),(50,.I (d_.Guard.Equals.length:Int)),(51,.I s)],[(3,.own ZD st.1 false),(4,.box (Yt 0 1 2 d_) 75),(5,.own rB st.2.1 true)],(Yn 0 1 2 d_ []),8⟩) (fun st=>Zb1 s (US N d_ (WY N d_ n73) n85) st.1 st.2.1 st.2.2=some r) ?_ (fun j339=>?_)))
    ·rintro ⟨x,y,z⟩ h
     replace h:Zb1 s (US N d_ (WY N d_ n73) n85) x y z=some r:=h
     unfold Zb1 at h
     exact wa J 5 (Zj [] (ih320 (x,y,z,(Zi (s+1))) h))
    refine wa J 1 (ZF (σ:=(List Zm) × (List Bool) × Bool × Int) (fun st=>(Zi9 st.1 d_ st.2.1 u.1 u.2 [(1,.S 3),(2,.B 4 0),(4,.S 5),(6,.O st.2.2.1),(8,.B 7 0),(49,.S 2),(50,.I (d_.Guard.Equals.length:Int)),(51,.I s),(55,.a [.I u.1,.I u.2]),(56,.I st.2.2.2)])) (fun n st=>Ru s (US N d_ (WY N d_ n73) n85) u n st.1 st.2.1 st.2.2.1 st.2.2.2) (r:=r) (fun _=>rfl) ?_ (fun ih=>?_))
    ·intro n87 ih344
     rintro ⟨A,C,D,G⟩ h
     replace h:Ru s (US N d_ (WY N d_ n73) n85) u (n87+1) A C D G=some r:=h
     unfold Ru at h
     refine Zo J 5 h (fun h=>wa J 2 (Zj [] (j339 (A,C,D) h))) fun h=>?_
     refine wO J 7 h fun H R h=>eAx (SC.i .i64) ([u.1,u.2]:List Int) R ?_
     refine wa J 7 (ZB (σ:=Int) (fun st=>(Zi9 A d_ C u.1 u.2 [(1,.S 3),(2,.B 4 0),(4,.S 5),(6,.O D),(8,.B 7 0),(10,.I H),(11,.I st),(49,.S 2),(50,.I (d_.Guard.Equals.length:Int)),(51,.I s),(55,.a [.I u.1,.I u.2]),(56,.I G)])) (fun st=>G5 A C D G (Ru s (US N d_ (WY N d_ n73) n85) u n87) H st=some r) ?_ (fun j347=>?_))
     ·intro T h
      replace h:G5 A C D G (Ru s (US N d_ (WY N d_ n73) n85) u n87) H T=some r:=h
      unfold G5 at h
      refine wO J 4 h fun U X h=>Z9 J rB X (YJ J oB X ?_)
      refine Zo J 1 h (fun h=>wa J 14 (Zj [] (ih344 (A,C,D,(Zi (G+1))) h))) fun h=>?_
      refine wO J 2 h fun Y Z h=>Z9 J rB Z (YJ J oB Z ?_)
      refine Zo J 3 h (fun h=>wa J 7 (Zj [] (ih344 (A,C,D,(Zi (G+1))) h))) fun h=>?_
      refine wO J 8 h fun a0 b0 h=>Z9 J ZD b0 (wa J 1 (YJ J Z5 b0 ?_))
      obtain ⟨c0,d0,h⟩:=ob h
      refine Z9 J ZD d0 (wa J 1 (Xj J [] Z5 (⟨c0.Kind,c0.N,a0.S⟩:Zm) d0 ?_))
      obtain ⟨e0,f0,h⟩:=ob h
      exact Z9 J rB f0 (Xj J [] oB true f0 (wa J 7 (Zj [] (ih344 ((ZW A H (⟨c0.Kind,c0.N,a0.S⟩:Zm)),(ZW C H true),true,(Zi (G+1))) h))))
     obtain ⟨K,h⟩|⟨K,h⟩:=oc h
     ·exact XA 0 (by exact eq_of_beq K) (wa J 3 (Zj [] (j347 u.1 h)))
     obtain ⟨K,h⟩|⟨K,h⟩:=oc h
     ·exact XA 1 (by exact eq_of_beq K) (wa J 3 (Zj [] (j347 u.2 h)))
     cases h
    exact Zj [] (ih N (o,p,q,0) h)
   exact Zj [] (ih N (f,g,false,0) h)
  exact Zj [] (ih N (l_,d,true) h)
 refine wa J 1 (ZF (σ:=(List Bool) × Int) (fun st=>(Hh l_ d_ st.1 [(1,.S 3),(2,.B 4 0),(4,.S 5),(16,.I (l_.length:Int)),(17,.I st.2)])) (fun n st=>Q7 N d_ l_ n st.1 st.2) (r:=r) (fun _=>rfl) ?_ (fun ih=>?_))
 ·intro n88 ih348
  rintro ⟨g0,i0⟩ h
  replace h:Q7 N d_ l_ (n88+1) g0 i0=some r:=h
  unfold Q7 at h
  refine Zo J 5 h (fun h=>wa J 2 (Zj [] (j1 g0 h))) fun h=>?_
  refine wB J 17 h (fun h=>?_) fun h=>?_
  ·refine wO J 12 h fun j0 k0 h=>Z9 J ZD k0 (wa J 1 (YJ J Z5 k0 ?_))
   exact wO J 2 h fun l0 m0 h=>Z9 J rB m0 (Xj J [] oB (j0.Kind != 0) m0 (wa J 6 (Zj [] (ih348 ((ZW g0 i0 (j0.Kind != 0)),(Zi (i0+1))) h))))
  refine Zo J 10 h (fun h=>?_) fun h=>?_
  ·exact wO J 7 h fun o0 p0 h=>Z9 J rB p0 (Xj J [] oB false p0 (wa J 6 (Zj [] (ih348 ((ZW g0 i0 false),(Zi (i0+1))) h))))
  refine wO J 2 h fun q0 s0 h=>Z9 J ZD s0 (wa J 1 (YJ J Z5 s0 ?_))
  exact wO J 2 h fun t0 u0 h=>Z9 J rB u0 (Xj J [] oB (q0.Kind != 0) u0 (wa J 6 (Zj [] (ih348 ((ZW g0 i0 (q0.Kind != 0)),(Zi (i0+1))) h))))
 exact Zj [] (ih N (x1,0) h)
theorem ZlM (N:Nat) (decls_:(List T0)) (label_:Int) (known_:(List Zm)) (r:(List Zm) × Bool) (h:z54 N decls_ label_ known_=some r) :
 Fn Tryz.prog 54 ⟨2,[.S 0,.I label_,.S 1],[(0,.sl ZL decls_),(1,.sl ZD known_)],[],3,.t [.inl (.sl 2),.inl (.b r.2)],[],[(2,.own ZD r.1 true)]⟩:=by
 refine Zs func54 rfl (fun E F w=>?_)
 unfold z54 at h
 refine wO J 11 h fun x1 c h=>Zn (Zc4 N decls_ label_ known_ _ c) [] [(0,.sl 0),(1,.sl 1)] ?_
 refine wB J 2 h (fun h=>?_) fun h=>?_
 ·cases h
  exact wr J 6 func54 [(2,.nil)]
 refine wO J 6 h fun x2 d h=>Zq J Yg d ?_
 refine wO J 14 h fun x3 e h=>Zn (Zno N (x2.Fields.length:Int) _ e) [] [] ?_
 refine wO J 11 h fun x4 f h=>Zn (ZhJ N x2 _ f) [] [(0,.sl 3),(1,.sl 4),(2,.sl 5)] (wa J 3 (ZB (σ:=Int × (List Int)) (fun st=>⟨[(2,.S 1),(8,.B 6 0),(9,.I (x2.Fields.length:Int)),(10,.B 8 0)],[(6,.box (Yt 3 4 5 x2) 75),(8,.box [.I st.1,.sl 10] 173)],((0,.sl ZL decls_)::(1,.sl ZD known_)::Yn 3 4 5 x2 [(10,.sl (rI .i64) st.2)]),11⟩) (fun st=>ZaF N known_ x2 st.1 st.2=some r) ?_ (fun j1=>?_)))
 ·rintro ⟨g,j⟩ h
  replace h:ZaF N known_ x2 g j=some r:=h
  unfold ZaF at h
  refine wO J 3 h fun k l h=>Zn (Zn9 N (⟨g,j⟩:ZY) _ l) [] [(0,.sl 10)] ?_
  refine wB J 12 h (fun h=>?_) fun h=>?_
  ·cases h
   exact wr J 6 func54 [(2,.nil)]
  refine wO J 5 h fun m o h=>Ue J Z5 o (wa J 10 (ZB (σ:=(List Zm)) (fun st=>⟨[(2,.S 1),(8,.B 6 0),(9,.I (x2.Fields.length:Int)),(20,.S 12)],[(6,.box (Yt 3 4 5 x2) 75),(12,.own ZD st true)],((0,.sl ZL decls_)::(1,.sl ZD known_)::Yn 3 4 5 x2 []),13⟩) (fun st=>B7 N known_ x2 st=some r) ?_ (fun j36=>?_)))
  ·intro p h
   replace h:B7 N known_ x2 p=some r:=h
   unfold B7 at h
   refine wO J 5 h fun q s h=>Xe (Zep N x2 p known_ _ s) [] [(0,.sl 3),(1,.sl 4),(2,.sl 5),(3,.sl 12),(4,.sl 1)] [12] (.inr ⟨rfl,⟨(Zom (ZfX (Zcr _) (ZfX (Zcr _) ZnV))),trivial⟩⟩) ?_
   refine wO J 6 h fun u v h=>Zn (Zn7 N x2 q _ v) [] [(0,.sl 3),(1,.sl 4),(2,.sl 5),(3,.sl 13)] ?_
   refine wO J 11 h fun x y h=>UQ J ZD y ?_
   obtain ⟨z,A,h⟩:=ob h
   refine eDp J ZD y A ?_
   refine wO J 7 h fun D G h=>Xe (Zhs N x2.Guard u _ G) [] [(0,.sl 4),(1,.sl 5),(2,.sl 13)] [13] (.inr ⟨rfl,trivial⟩) ?_
   refine wB J 2 h (fun h=>?_) fun h=>?_
   ·cases h
    exact wr J 13 func54 [(2,.nil)]
   refine wO J 3 h fun H R h=>Xe (ZdK N x2.Fields z.1 _ R) [] [(0,.sl 3),(1,.sl 12)] [12] (.inr ⟨rfl,trivial⟩) ?_
   refine wB J 3 h (fun h=>?_) fun h=>?_
   ·cases h
    exact wr J 6 func54 [(2,.nil)]
   cases h
   exact wr J 8 func54 [(2,.sl 12)]
  refine wa J 1 (ZF (σ:=(List Zm) × Int) (fun st=>⟨[(2,.S 1),(8,.B 6 0),(9,.I (x2.Fields.length:Int)),(18,.S 11),(20,.S 12),(129,.S 3),(130,.I (x2.Fields.length:Int)),(131,.I st.2)],[(6,.box (Yt 3 4 5 x2) 75),(11,.own (rI .i64) k.1 true),(12,.own ZD st.1 true)],((0,.sl ZL decls_)::(1,.sl ZD known_)::Yn 3 4 5 x2 []),13⟩) (fun n st=>Lm N known_ x2 k n st.1 st.2) (r:=r) (fun _=>rfl) ?_ (fun ih=>?_))
  ·intro n9 ih38
   rintro ⟨T,U⟩ h
   replace h:Lm N known_ x2 k (n9+1) T U=some r:=h
   unfold Lm at h
   refine Zo J 5 h (fun h=>wa J 2 (Zj [] (j36 T h))) fun h=>?_
   refine wO J 7 h fun Z a0 h=>Zq J Xq a0 ?_
   refine wO J 14 h fun b0 c0 h=>Z9 J (rI .i64) c0 (YJ J (oI .i64) c0 ?_)
   refine wO J 1 h fun d0 e0 h=>Z9 J ZD e0 (Xj J [] Z5 (⟨Z.Sort'.Kind,b0,(str [])⟩:Zm) e0 (ZA ?_))
   refine Zo J 7 h (fun h=>wa J 7 (Zj [] (ih38 ((ZW T U (⟨Z.Sort'.Kind,b0,(str [])⟩:Zm)),(Zi (U+1))) h))) fun h=>?_
   refine wO J 6 h fun f0 g0 h=>Z9 J (rI .i64) g0 (YJ J (oI .i64) g0 ?_)
   obtain ⟨i0,j0,h⟩:=ob h
   refine Zn (ZoH N (str [97]) f0 _ j0) [] [] ?_
   exact wO J 1 h fun k0 l0 h=>Z9 J ZD l0 (Xj J [] Z5 (⟨2,0,i0⟩:Zm) l0 (wa J 6 (Zj [] (ih38 ((ZW (ZW T U (⟨Z.Sort'.Kind,b0,(str [])⟩:Zm)) U (⟨2,0,i0⟩:Zm)),(Zi (U+1))) h))))
  exact Zj [] (ih N (m,0) h)
 refine wa J 1 (ZF (σ:=Int × (List Int) × Int) (fun st=>⟨[(2,.S 1),(8,.B 6 0),(9,.I (x2.Fields.length:Int)),(10,.B 8 0),(42,.S 9),(43,.I (x4.length:Int)),(44,.I st.2.2)],[(6,.box (Yt 3 4 5 x2) 75),(8,.box [.I st.1,.sl 10] 173),(9,.own YO x4 true)],((0,.sl ZL decls_)::(1,.sl ZD known_)::Yn 3 4 5 x2 [(10,.sl (rI .i64) st.2.1)]),11⟩) (fun n st=>UV N known_ x2 x4 n st.1 st.2.1 st.2.2) (r:=r) (fun _=>rfl) ?_ (fun ih=>?_))
 ·intro n14 ih39
  rintro ⟨m0,o0,p0⟩ h
  replace h:UV N known_ x2 x4 (n14+1) m0 o0 p0=some r:=h
  unfold UV at h
  refine Zo J 5 h (fun h=>wa J 2 (Zj [] (j1 (m0,o0) h))) fun h=>?_
  refine wO J 6 h fun q0 s0 h=>Z9 J YO s0 (YJ J Ut s0 (wa J 25 (ZB (σ:=Int × Int × Int) (fun st=>(ZeA x2 m0 x4 st.2.1 st.2.2 decls_ known_ o0 [(2,.S 1),(8,.B 6 0),(9,.I (x2.Fields.length:Int)),(10,.B 8 0),(14,.I st.1),(15,.B 13 0),(42,.S 9),(43,.I (x4.length:Int)),(44,.I p0)])) (fun st=>Zbc N m0 o0 p0 (UV N known_ x2 x4 n14) st.1 st.2.1 st.2.2=some r) ?_ (fun j62=>?_))))
  ·rintro ⟨t0,u0,v0⟩ h
   replace h:Zbc N m0 o0 p0 (UV N known_ x2 x4 n14) t0 u0 v0=some r:=h
   unfold Zbc at h
   refine wa J 2 (XA 0 rfl (wa J 1 (XA 1 rfl ?_)))
   exact wO J 3 h fun x0 y0 h=>Zn (Zk6 N (⟨m0,o0⟩:ZY) (⟨u0,v0,t0⟩:T1) _ y0) [] [(0,.sl 10)] (wa J 10 (Zj [(10,.sl 14)] (ih39 (x0.1.N,x0.1.B,(Zi (p0+1))) h)))
  refine wa J 1 (ZF (σ:=Int × Int × Int × Int) (fun st=>(ZeA x2 m0 x4 st.2.1 st.2.2.1 decls_ known_ o0 [(2,.S 1),(8,.B 6 0),(9,.I (x2.Fields.length:Int)),(10,.B 8 0),(14,.I st.1),(15,.B 13 0),(42,.S 9),(43,.I (x4.length:Int)),(44,.I p0),(55,.a [.I q0.X,.I q0.Y]),(56,.I st.2.2.2)])) (fun n st=>So N known_ x2 m0 o0 p0 (UV N known_ x2 x4 n14) q0 n st.1 st.2.1 st.2.2.1 st.2.2.2) (r:=r) (fun _=>rfl) ?_ (fun ih=>?_))
  ·intro n16 ih68
   rintro ⟨z0,A0,B0,C0⟩ h
   replace h:So N known_ x2 m0 o0 p0 (UV N known_ x2 x4 n14) q0 (n16+1) z0 A0 B0 C0=some r:=h
   unfold So at h
   refine Zo J 5 h (fun h=>wa J 2 (Zj [] (j62 (z0,A0,B0) h))) fun h=>?_
   refine wO J 7 h fun D0 G0 h=>eAx (SC.i .i64) ([q0.X,q0.Y]:List Int) G0 ?_
   refine wB J 10 h (fun h=>wa J 8 (Zj [] (ih68 (z0,A0,B0,(Zi (C0+1))) h))) fun h=>?_
   refine wa J 8 (ZB (σ:=Bool) (fun st=>(ZeA x2 m0 x4 A0 B0 decls_ known_ o0 [(2,.S 1),(8,.B 6 0),(9,.I (x2.Fields.length:Int)),(10,.B 8 0),(14,.I z0),(15,.B 13 0),(16,.I C0),(17,.I D0),(42,.S 9),(43,.I (x4.length:Int)),(44,.I p0),(55,.a [.I q0.X,.I q0.Y]),(56,.I C0),(70,.O st)])) (fun st=>LH N known_ x2 z0 A0 B0 C0 (So N known_ x2 m0 o0 p0 (UV N known_ x2 x4 n14) q0 n16) D0 st=some r) ?_ (fun j72=>?_))
   ·intro H0 h
    replace h:LH N known_ x2 z0 A0 B0 C0 (So N known_ x2 m0 o0 p0 (UV N known_ x2 x4 n14) q0 n16) D0 H0=some r:=h
    unfold LH at h
    refine eB h (fun h=>?_) fun h=>?_
    ·obtain ⟨K,h⟩|⟨K,h⟩:=oc h
     ·exact wa J 7 (XA 0 (by exact eq_of_beq K) (wa J 8 (Zj [] (ih68 (z0,(Zi (D0-x2.First)),B0,(Zi (C0+1))) h))))
     obtain ⟨K,h⟩|⟨K,h⟩:=oc h
     ·exact wa J 7 (XA 1 (by exact eq_of_beq K) (wa J 8 (Zj [] (ih68 (z0,A0,(Zi (D0-x2.First)),(Zi (C0+1))) h))))
     cases h
    refine wO J 5 h fun I0 L0 h=>Zq J Z5 L0 ?_
    refine wB J 5 h (fun h=>?_) fun h=>?_
    ·cases h
     exact wr J 6 func54 [(2,.nil)]
    refine wB J 7 h (fun h=>?_) fun h=>?_
    ·refine wO J 5 h fun M0 O0 h=>Zq J Z5 O0 ?_
     exact wO J 1 h fun R0 S0 h=>Zn (Gk N M0 _ S0) [] [] (wa J 9 (Zj [] (ih68 ((Zi (z0-R0)),A0,B0,(Zi (C0+1))) h)))
    refine wO J 5 h fun T0 U0 h=>Zq J Z5 U0 ?_
    exact wO J 1 h fun V0 X0 h=>Zn (Gk N T0 _ X0) [] [] (wa J 9 (Zj [] (ih68 ((Zi (z0+V0)),A0,B0,(Zi (C0+1))) h)))
   exact eB h (fun h=>wa J 9 (Zj [] (j72 (decide (D0 < (Zi (x2.First+(x2.Fields.length:Int))))) h))) fun h=>wa J 9 (Zj [] (j72 false h))
  exact Zj [] (ih N (q0.C,(-1),(-1),0) h)
 exact Zj [(10,.sl 7)] (ih N (x3.1.N,x3.1.B,0) h)
theorem ZnL (N:Nat) (g_:T5) (m_:T8) (s_:ZJ) (r:(List T3)) (h:z20 N g_ m_ s_=some r) :
 Fn Tryz.prog 20 ⟨9,[.a (ZT 0 1 2 3 g_),.a (ZX 4 5 6 m_),.a (Xy 7 8 s_)],((0,.sl rS g_.Roles)::(1,.sl ZL g_.Decls)::(2,.sl Yf g_.Edges)::(3,.sl Z2 g_.Timeouts)::(4,.sl rB m_.Finals)::(5,.sl Xn m_.Moves)::(6,.sl Z2 m_.Timeouts)::XG 7 8 s_ []),[],10,.S 9,[],[(9,.own Yv r true)]⟩:=by
 refine Zs func20 rfl (fun E F w=>?_)
 unfold z20 at h
 refine wO J 13 h fun x1 c h=>Zn (ZcQ N g_ m_ s_ _ c) [] [(0,.sl 0),(1,.sl 1),(2,.sl 2),(3,.sl 3),(4,.sl 4),(5,.sl 5),(6,.sl 6),(7,.sl 7),(8,.sl 8)] ?_
 refine wB J 2 h (fun h=>?_) fun h=>?_
 ·cases h
  exact wr J 5 func20 [(9,.nil)]
 refine wO J 12 h fun x2 d h=>Zn (Zfc N m_ s_.At _ d) [] [(0,.sl 4),(1,.sl 5),(2,.sl 6)] (wa J 3 (ZB (σ:=(List T3)) (fun st=>⟨[(7,.S 13)],[(13,.own Yv st true)],((0,.sl rS g_.Roles)::(1,.sl ZL g_.Decls)::(2,.sl Yf g_.Edges)::(3,.sl Z2 g_.Timeouts)::(4,.sl rB m_.Finals)::(5,.sl Xn m_.Moves)::(6,.sl Z2 m_.Timeouts)::XG 7 8 s_ []),14⟩) (fun st=>D6 st=some r) ?_ (fun j1=>?_)))
 ·intro e h
  replace h:D6 e=some r:=h
  unfold D6 at h
  cases h
  exact wr J 5 func20 [(9,.sl 13)]
 refine wa J 1 (ZF (σ:=(List T3) × Int) (fun st=>⟨[(3,.B 9 0),(4,.B 10 0),(5,.B 11 0),(7,.S 13),(21,.S 12),(22,.I (x2.length:Int)),(23,.I st.2)],[(9,.box (ZT 0 1 2 3 g_) 27),(10,.box (ZX 4 5 6 m_) 31),(11,.box (Xy 7 8 s_) 48),(13,.own Yv st.1 true)],((0,.sl rS g_.Roles)::(1,.sl ZL g_.Decls)::(2,.sl Yf g_.Edges)::(3,.sl Z2 g_.Timeouts)::(4,.sl rB m_.Finals)::(5,.sl Xn m_.Moves)::(6,.sl Z2 m_.Timeouts)::XG 7 8 s_ [(12,.sl (rI .i64) x2)]),14⟩) (fun n st=>SN N g_ m_ s_ x2 n st.1 st.2) (r:=r) (fun _=>rfl) ?_ (fun ih=>?_))
 ·intro n2 ih6
  rintro ⟨f,g⟩ h
  replace h:SN N g_ m_ s_ x2 (n2+1) f g=some r:=h
  unfold SN at h
  refine Zo J 5 h (fun h=>wa J 2 (Zj [] (j1 f h))) fun h=>?_
  refine wO J 6 h fun i j h=>Zq J (oI .i64) j ?_
  refine wO J 8 h fun k l h=>Zq J YH l ?_
  refine wO J 12 h fun m o h=>Zn (ZlM N g_.Decls k.Label s_.Known _ o) [] [(0,.sl 1),(1,.sl 7)] (wa J 12 (ZB (σ:=(List Zm) × Bool) (fun st=>⟨[(3,.B 9 0),(4,.B 10 0),(5,.B 11 0),(7,.S 13),(10,.B 16 0),(11,.S 18),(12,.O st.2),(21,.S 12),(22,.I (x2.length:Int)),(23,.I g)],[(9,.box (ZT 0 1 2 3 g_) 27),(10,.box (ZX 4 5 6 m_) 31),(11,.box (Xy 7 8 s_) 48),(13,.own Yv f true),(16,.box (UF k) 52),(18,.own ZD st.1 true)],((0,.sl rS g_.Roles)::(1,.sl ZL g_.Decls)::(2,.sl Yf g_.Edges)::(3,.sl Z2 g_.Timeouts)::(4,.sl rB m_.Finals)::(5,.sl Xn m_.Moves)::(6,.sl Z2 m_.Timeouts)::XG 7 8 s_ [(12,.sl (rI .i64) x2)]),19⟩) (fun st=>LO m_ f g (SN N g_ m_ s_ x2 n2) k st.1 st.2=some r) ?_ (fun j9=>?_)))
  ·rintro ⟨p,q⟩ h
   replace h:LO m_ f g (SN N g_ m_ s_ x2 n2) k p q=some r:=h
   unfold LO at h
   refine Zo J 4 h (fun h=>wa J 7 (Zj [] (ih6 (f,(Zi (g+1))) h))) fun h=>wa J 13 (Z8 J [18] W1 ([(⟨m_.Role,k.Send,k.Peer,k.Label,p⟩:T3)]:List T3) ?_)
   obtain ⟨s,t,h⟩:=ob h
   exact Yr J Yv t (wa J 7 (Zj [(13,.sl 20)] (ih6 (s,(Zi (g+1))) h)))
  refine VH h (fun h=>wa J 2 (Zj [(18,.sl 17)] (j9 (m.1,m.2) h))) fun h=>?_
  refine wO J 4 h fun u v h=>Zn (Ze0 N s_.Pending _ v) [] [(0,.sl 8)] ?_
  exact wO J 8 h fun x y h=>Zn (Zie N g_.Decls k.Label s_.Pending s_.Known _ y) [] [(0,.sl 1),(1,.sl 8),(2,.sl 7)] (wa J 2 (ZA (Zj [] (j9 (u,x) h))))
 exact Zj [(13,.nil)] (ih N (([]:List T3),0) h)
theorem ZkN (N:Nat) (a_:(List ByteArray)) (b_:(List ByteArray)) (r:Bool) (h:z12 N a_ b_=some r) :
 Fn Tryz.prog 12 ⟨2,[.S 0,.S 1],[(0,.sl rS a_),(1,.sl rS b_)],[],2,.O r,[],[]⟩:=by
 refine Zs func12 rfl (fun E F w=>?_)
 unfold z12 at h
 refine wB J 13 h (fun h=>?_) fun h=>wa J 7 (ZB (σ:=Unit) (fun st=>⟨[],[],[(0,.sl rS a_),(1,.sl rS b_)],2⟩) (fun st=>Zb4=some r) ?_ (fun j1=>?_))
 ·cases h
  exact wr J 5 func12 []
 ·intro _ h
  replace h:Zb4=some r:=h
  unfold Zb4 at h
  cases h
  exact wr J 4 func12 []
 refine wa J 1 (ZF (σ:=Int) (fun st=>⟨[(0,.S 0),(1,.S 1),(5,.I st)],[],[(0,.sl rS a_),(1,.sl rS b_)],2⟩) (fun n st=>HT a_ b_ n st) (r:=r) (fun _=>rfl) ?_ (fun ih=>?_))
 ·intro n2 ih3
  intro c h
  replace h:HT a_ b_ (n2+1) c=some r:=h
  unfold HT at h
  refine Zo J 8 h (fun h=>wa J 2 (Zj [] (j1 () h))) fun h=>?_
  refine wO J 8 h fun d e h=>Zq J oS e ?_
  refine wO J 3 h fun f g h=>Zq J oS g (wa J 2 (ZA ?_))
  refine eB h (fun h=>?_) fun h=>wa J 8 (Zj [] (ih3 (Zi (c+1)) h))
  cases h
  exact wr J 5 func12 []
 exact Zj [] (ih N 0 h)
theorem ZhW (N:Nat) (n_:Int) (r:Zm) (h:z26 N n_=some r) :
 Fn Tryz.prog 26 ⟨0,[.I n_],[],[],0,.a (Xx r),[],[]⟩:=by
 refine Zs func26 rfl (fun E F w=>?_)
 unfold z26 at h
 cases h
 exact wr J 10 func26 []
theorem Zgq (N:Nat) (a_:(List Zm)) (b_:(List Zm)) (r:Bool) (h:z25 N a_ b_=some r) :
 Fn Tryz.prog 25 ⟨2,[.S 0,.S 1],[(0,.sl ZD a_),(1,.sl ZD b_)],[],2,.O r,[],[]⟩:=by
 refine Zs func25 rfl (fun E F w=>?_)
 unfold z25 at h
 refine wB J 13 h (fun h=>?_) fun h=>wa J 7 (ZB (σ:=Unit) (fun st=>(RL a_ b_ [])) (fun st=>ZcC=some r) ?_ (fun j1=>?_))
 ·cases h
  exact wr J 5 func25 []
 ·intro _ h
  replace h:ZcC=some r:=h
  unfold ZcC at h
  cases h
  exact wr J 4 func25 []
 refine wa J 1 (ZF (σ:=Int) (fun st=>(RL a_ b_ [(0,.S 0),(1,.S 1),(5,.I st)])) (fun n st=>RR a_ b_ n st) (r:=r) (fun _=>rfl) ?_ (fun ih=>?_))
 ·intro n2 ih3
  intro c h
  replace h:RR a_ b_ (n2+1) c=some r:=h
  unfold RR at h
  refine Zo J 8 h (fun h=>wa J 2 (Zj [] (j1 () h))) fun h=>?_
  refine wO J 8 h fun d e h=>Zq J Z5 e ?_
  refine wO J 3 h fun f g h=>Zq J Z5 g (wa J 1 (R9 (ZA ?_)))
  refine eB h (fun h=>?_) fun h=>wa J 8 (Zj [] (ih3 (Zi (c+1)) h))
  cases h
  exact wr J 5 func25 []
 exact Zj [] (ih N 0 h)
theorem Zma (N:Nat) (r:Bool) (h:z8 N=some r) :
 Fn Tryz.prog 8 ⟨1,[],[],[(0,.abs powT)],1,.O r,[],[(0,.abs powT)]⟩:=by
 refine Zs func8 rfl (fun E F w=>?_)
 unfold z8 at h
 refine wa J 13 (Z8 J [] oS ([(str [97]),(str [98])]:List ByteArray) (wa J 1 (Z8 J [] Xq ([(⟨(str [110]),(⟨1,0,9⟩:Yb)⟩:T4)]:List T4) (wa J 1 (Z8 J [3] Yg ([(⟨(str [97,115,107]),([(⟨(str [110]),(⟨1,0,9⟩:Yb)⟩:T4)]:List T4),0,(⟨([]:List T1),([]:List (Int × Int))⟩:T6)⟩:T0)]:List T0) (wa J 2 (Z8 J [] XX ([(⟨0,(⟨0,1,0⟩:T7),1,false⟩:T2)]:List T2) (wa J 6 (Z8 J [] oB ([false,true]:List Bool) (wa J 1 (Z8 J [] YH ([(⟨0,true,1,0,1,false⟩:T9)]:List T9) ?_)))))))))))
 refine wO J 8 h fun x1 c h=>Zn (Zon N (⟨(str [80]),([(str [97]),(str [98])]:List ByteArray),([(⟨(str [97,115,107]),([(⟨(str [110]),(⟨1,0,9⟩:Yb)⟩:T4)]:List T4),0,(⟨([]:List T1),([]:List (Int × Int))⟩:T6)⟩:T0)]:List T0),2,0,1,([(⟨0,(⟨0,1,0⟩:T7),1,false⟩:T2)]:List T2),([]:List Yj)⟩:T5) (⟨0,2,0,([false,true]:List Bool),([(⟨0,true,1,0,1,false⟩:T9)]:List T9),([]:List Yj)⟩:T8) 0 _ c) [2,4,5,7,8] [(0,.sl 2),(1,.sl 4),(2,.sl 5),(3,.nil),(4,.sl 7),(5,.sl 8),(6,.nil),(7,.sl 0)] ?_
 refine wO J 11 h fun x2 d h=>Zn (ZiZ N (⟨(str [80]),([(str [97]),(str [98])]:List ByteArray),([(⟨(str [97,115,107]),([(⟨(str [110]),(⟨1,0,9⟩:Yb)⟩:T4)]:List T4),0,(⟨([]:List T1),([]:List (Int × Int))⟩:T6)⟩:T0)]:List T0),2,0,1,([(⟨0,(⟨0,1,0⟩:T7),1,false⟩:T2)]:List T2),([]:List Yj)⟩:T5) (⟨0,2,0,([false,true]:List Bool),([(⟨0,true,1,0,1,false⟩:T9)]:List T9),([]:List Yj)⟩:T8) ([]:List T3) (⟨0,true,1,0,([]:List Zm)⟩:T3) _ d) [] [(0,.sl 2),(1,.sl 4),(2,.sl 5),(3,.nil),(4,.sl 7),(5,.sl 8),(6,.nil),(7,.nil),(8,.nil),(9,.sl 0)] ?_
 refine wO J 12 h fun x3 e h=>Zn (ZeR N (⟨(str [80]),([(str [97]),(str [98])]:List ByteArray),([(⟨(str [97,115,107]),([(⟨(str [110]),(⟨1,0,9⟩:Yb)⟩:T4)]:List T4),0,(⟨([]:List T1),([]:List (Int × Int))⟩:T6)⟩:T0)]:List T0),2,0,1,([(⟨0,(⟨0,1,0⟩:T7),1,false⟩:T2)]:List T2),([]:List Yj)⟩:T5) (⟨0,2,0,([false,true]:List Bool),([(⟨0,true,1,0,1,false⟩:T9)]:List T9),([]:List Yj)⟩:T8) _ e) [] [(0,.sl 2),(1,.sl 4),(2,.sl 5),(3,.nil),(4,.sl 7),(5,.sl 8),(6,.nil)] ?_
 obtain ⟨x4,f,h⟩:=ob h
 refine Zn (ZnL N (⟨(str [80]),([(str [97]),(str [98])]:List ByteArray),([(⟨(str [97,115,107]),([(⟨(str [110]),(⟨1,0,9⟩:Yb)⟩:T4)]:List T4),0,(⟨([]:List T1),([]:List (Int × Int))⟩:T6)⟩:T0)]:List T0),2,0,1,([(⟨0,(⟨0,1,0⟩:T7),1,false⟩:T2)]:List T2),([]:List Yj)⟩:T5) (⟨0,2,0,([false,true]:List Bool),([(⟨0,true,1,0,1,false⟩:T9)]:List T9),([]:List Yj)⟩:T8) x3 _ f) [] [(0,.sl 2),(1,.sl 4),(2,.sl 5),(3,.nil),(4,.sl 7),(5,.sl 8),(6,.nil),(7,.sl 11),(8,.sl 12)] (wa J 1 (ZA ?_))
 refine Zo J 5 h (fun h=>wa J 27 (ZA ?_)) fun h=>?_
 ·cases h
  exact Z4 J func8 []
 refine Zo J 4 h (fun h=>wa J 23 (ZA ?_)) fun h=>wa J 1 (Z8 J [] oS ([(str [115,101,110,100,32,97,115,107,40,110,58,32,105,110,116,32,48,32,46,46,32,57,41,32,116,111,32,98])]:List ByteArray) ?_)
 ·cases h
  exact Z4 J func8 []
 obtain ⟨x5,g,h⟩:=ob h
 refine Xe (ZkN N x1.1 ([(str [115,101,110,100,32,97,115,107,40,110,58,32,105,110,116,32,48,32,46,46,32,57,41,32,116,111,32,98])]:List ByteArray) _ g) [] [(0,.sl 10),(1,.sl 14)] [10,14] (.inr ⟨rfl,trivial⟩) ?_
 refine Zo J 2 h (fun h=>wa J 18 (ZA ?_)) fun h=>?_
 ·cases h
  exact Z4 J func8 []
 refine Zo J 4 h (fun h=>wa J 14 (ZA ?_)) fun h=>?_
 ·cases h
  exact Z4 J func8 []
 refine Zo J 5 h (fun h=>wa J 9 (ZA ?_)) fun h=>?_
 ·cases h
  exact Z4 J func8 []
 refine wO J 1 h fun x6 i h=>Z9 J Yv i (wa J 1 (YJ J W1 i ?_))
 obtain ⟨x7,j,h⟩:=ob h
 refine Zn (ZhW N 0 _ j) [] [] (Z8 J [] Z5 ([x7]:List Zm) ?_)
 obtain ⟨x8,k,h⟩:=ob h
 refine Xe (Zgq N x6.Values ([x7]:List Zm) _ k) [] [(0,.sl 16),(1,.sl 17)] [17] (.inr ⟨rfl,trivial⟩) (wa J 2 (ZA ?_))
 cases h
 exact Z4 J func8 []
theorem Zks (N:Nat) (l_:(List T0)) (r:Bool) (h:Br N l_=some r) :
 Fn Tryz.prog 62 ⟨1,[.S 0],[(0,.sl ZL l_)],[],1,.O r,[],[]⟩:=by
 refine Zs func62 rfl (fun E F w=>?_)
 unfold Br at h
 refine wa J 13 (ZB (σ:=Int) (fun st=>(Qo l_ [(0,.S 0),(3,.I st)])) (fun st=>Gd l_ st=some r) ?_ (fun j1=>?_))
 ·intro c h
  replace h:Gd l_ c=some r:=h
  unfold Gd at h
  refine wB J 6 h (fun h=>?_) fun h=>?_
  ·cases h
   exact wr J 5 func62 []
  cases h
  exact wr J 5 func62 []
 refine wa J 1 (ZF (σ:=Int × Int) (fun st=>(Qo l_ [(0,.S 0),(3,.I st.1),(4,.I st.2)])) (fun n st=>S1 l_ n st.1 st.2) (r:=r) (fun _=>rfl) ?_ (fun ih=>?_))
 ·intro n2 ih3
  rintro ⟨d,e⟩ h
  replace h:S1 l_ (n2+1) d e=some r:=h
  unfold S1 at h
  refine Zo J 8 h (fun h=>wa J 2 (Zj [] (j1 d h))) fun h=>?_
  refine wO J 8 h fun f g h=>Zq J Yg g ?_
  refine wO J 5 h fun i j h=>Zq J Yg j ?_
  exact wO J 7 h fun k l h=>Zq J Yg l (wa J 7 (ZA (wa J 6 (Zj [] (ih3 ((Zi (d+(Zi ((Zi ((f.Fields.length:Int)+(i.Guard.Diffs.length:Int)))+(k.Guard.Equals.length:Int))))),(Zi (e+1))) h)))))
 exact Zj [] (ih N (0,0) h)
theorem ZsS (N:Nat) (g_:T5) (r:Bool) (h:z27 N g_=some r) :
 Fn Tryz.prog 27 ⟨4,[.a (ZT 0 1 2 3 g_)],(Yh 0 1 2 3 g_ []),[],4,.O r,[],[]⟩:=by
 refine Zs func27 rfl (fun E F w=>?_)
 unfold z27 at h
 refine Zo J 11 h (fun h=>?_) fun h=>?_
 ·cases h
  exact wr J 24 func27 []
 refine Zo J 6 h (fun h=>?_) fun h=>?_
 ·cases h
  exact wr J 18 func27 []
 refine Zo J 6 h (fun h=>?_) fun h=>?_
 ·cases h
  exact wr J 12 func27 []
 refine Zo J 6 h (fun h=>?_) fun h=>?_
 ·cases h
  exact wr J 6 func27 []
 refine wO J 2 h fun x1 c h=>Zn (Zks N g_.Decls _ c) [] [(0,.sl 1)] ?_
 cases h
 exact wr J 3 func27 []
theorem ZsU (N:Nat) (m_:T8) (r:Bool) (h:z28 N m_=some r) :
 Fn Tryz.prog 28 ⟨3,[.a (ZX 0 1 2 m_)],(ZZ 0 1 2 m_ []),[],3,.O r,[],[]⟩:=by
 refine Zs func28 rfl (fun E F w=>?_)
 unfold z28 at h
 refine Zo J 11 h (fun h=>?_) fun h=>?_
 ·cases h
  exact wr J 19 func28 []
 refine Zo J 6 h (fun h=>?_) fun h=>?_
 ·cases h
  exact wr J 13 func28 []
 refine wB J 6 h (fun h=>?_) fun h=>?_
 ·cases h
  exact wr J 7 func28 []
 cases h
 exact wr J 7 func28 []
theorem Zou (N:Nat) (l_:(List Zm)) (r:Bool) (h:z63 N l_=some r) :
 Fn Tryz.prog 63 ⟨1,[.S 0],[(0,.sl ZD l_)],[],1,.O r,[],[]⟩:=by
 refine Zs func63 rfl (fun E F w=>?_)
 unfold z63 at h
 refine wa J 9 (ZB (σ:=Unit) (fun st=>⟨[(0,.S 0)],[],[(0,.sl ZD l_)],1⟩) (fun st=>ZaI l_=some r) ?_ (fun j1=>?_))
 ·intro _ h
  replace h:ZaI l_=some r:=h
  unfold ZaI at h
  cases h
  exact wr J 7 func63 []
 refine wa J 1 (ZF (σ:=Int) (fun st=>⟨[(0,.S 0),(3,.I st)],[],[(0,.sl ZD l_)],1⟩) (fun n st=>Rw l_ n st) (r:=r) (fun _=>rfl) ?_ (fun ih=>?_))
 ·intro n2 ih3
  intro c h
  replace h:Rw l_ (n2+1) c=some r:=h
  unfold Rw at h
  refine Zo J 8 h (fun h=>wa J 2 (Zj [] (j1 () h))) fun h=>?_
  refine wO J 8 h fun x9 d h=>Zq J Z5 d ?_
  refine wB J 5 h (fun h=>?_) fun h=>wa J 8 (Zj [] (ih3 (Zi (c+1)) h))
  cases h
  exact wr J 5 func63 []
 exact Zj [] (ih N 0 h)
theorem Zsv (N:Nat) (l_:(List T3)) (r:Bool) (h:z29 N l_=some r) :
 Fn Tryz.prog 29 ⟨1,[.S 0],[(0,.sl Yv l_)],[],1,.O r,[],[]⟩:=by
 refine Zs func29 rfl (fun E F w=>?_)
 unfold z29 at h
 refine wa J 9 (ZB (σ:=Unit) (fun st=>⟨[(0,.S 0)],[],[(0,.sl Yv l_)],1⟩) (fun st=>Bh l_=some r) ?_ (fun j1=>?_))
 ·intro _ h
  replace h:Bh l_=some r:=h
  unfold Bh at h
  cases h
  exact wr J 7 func29 []
 refine wa J 1 (ZF (σ:=Int) (fun st=>⟨[(0,.S 0),(3,.I st)],[],[(0,.sl Yv l_)],1⟩) (fun n st=>S8 N l_ n st) (r:=r) (fun _=>rfl) ?_ (fun ih=>?_))
 ·intro n2 ih3
  intro c h
  replace h:S8 N l_ (n2+1) c=some r:=h
  unfold S8 at h
  refine Zo J 8 h (fun h=>wa J 2 (Zj [] (j1 () h))) fun h=>?_
  refine wO J 8 h fun d e h=>Zq J W1 e ?_
  refine wO J 2 h fun f g h=>Zn (Zou N d.Values _ g) [] [(0,.sl 2)] ?_
  refine wB J 2 h (fun h=>?_) fun h=>wa J 8 (Zj [] (ih3 (Zi (c+1)) h))
  cases h
  exact wr J 5 func29 []
 exact Zj [] (ih N 0 h)
theorem Zos (N:Nat) (g_:T5) (m_:T8) (l_:(List T3)) (r:Bool) (h:z9 N g_ m_ l_=some r) :
 Fn Tryz.prog 9 ⟨8,[.a (ZT 0 1 2 3 g_),.a (ZX 4 5 6 m_),.S 7],((0,.sl rS g_.Roles)::(1,.sl ZL g_.Decls)::(2,.sl Yf g_.Edges)::(3,.sl Z2 g_.Timeouts)::ZZ 4 5 6 m_ [(7,.sl Yv l_)]),[],8,.O r,[],[]⟩:=by
 refine Zs func9 rfl (fun E F w=>?_)
 unfold z9 at h
 refine wO J 9 h fun x1 c h=>Zn (ZsS N g_ _ c) [] [(0,.sl 0),(1,.sl 1),(2,.sl 2),(3,.sl 3)] ?_
 refine Zo J 1 h (fun h=>?_) fun h=>?_
 ·cases h
  exact wr J 9 func9 []
 refine wO J 1 h fun x2 d h=>Zn (ZsU N m_ _ d) [] [(0,.sl 4),(1,.sl 5),(2,.sl 6)] ?_
 refine Zo J 2 h (fun h=>?_) fun h=>?_
 ·cases h
  exact wr J 5 func9 []
 refine wO J 1 h fun x3 e h=>Zn (Zsv N l_ _ e) [] [(0,.sl 7)] ?_
 cases h
 exact wr J 3 func9 []
theorem ZgW (N:Nat) (c_:Int) (r:Bool) (h:LJ N c_=some r) :
 Fn Tryz.prog 225 ⟨0,[.c (.i .u8 c_)],[],[],0,.O r,[],[]⟩:=by
 refine Zs func225 rfl (fun E F w=>?_)
 unfold LJ at h
 refine Zo J 9 h (fun h=>?_) fun h=>?_
 ·refine wB J 7 h (fun h=>?_) fun h=>?_
  ·cases h
   exact wr J 6 func225 []
  cases h
  exact wr J 6 func225 []
 refine wB J 4 h (fun h=>?_) fun h=>?_
 ·cases h
  exact wr J 9 func225 []
 refine wB J 3 h (fun h=>?_) fun h=>?_
 ·cases h
  exact wr J 6 func225 []
 cases h
 exact wr J 6 func225 []
theorem ZmO (N:Nat) (c_:Int) (r:Bool) (h:Zdh N c_=some r) :
 Fn Tryz.prog 265 ⟨0,[.c (.i .u8 c_)],[],[],0,.O r,[],[]⟩:=by
 refine Zs func265 rfl (fun E F w=>?_)
 unfold Zdh at h
 refine wB J 9 h (fun h=>?_) fun h=>?_
 ·cases h
  exact wr J 5 func265 []
 cases h
 exact wr J 5 func265 []
theorem ZoE (N:Nat) (c_:Int) (r:Bool) (h:Zda N c_=some r) :
 Fn Tryz.prog 226 ⟨0,[.c (.i .u8 c_)],[],[],0,.O r,[],[]⟩:=by
 refine Zs func226 rfl (fun E F w=>?_)
 unfold Zda at h
 refine wO J 7 h fun x1 d h=>Zn (ZgW N c_ _ d) [] [] ?_
 refine wB J 1 h (fun h=>?_) fun h=>?_
 ·cases h
  exact wr J 9 func226 []
 refine wO J 1 h fun x2 e h=>Zn (ZmO N c_ _ e) [] [] ?_
 refine wB J 2 h (fun h=>?_) fun h=>?_
 ·cases h
  exact wr J 5 func226 []
 cases h
 exact wr J 5 func226 []
theorem Zp5 (N:Nat) (s_:ByteArray) (r:Bool) (h:Gm N s_=some r) :
 Fn Tryz.prog 155 ⟨0,[.c (.s s_)],[],[],0,.O r,[],[]⟩:=by
 refine Zs func155 rfl (fun E F w=>?_)
 unfold Gm at h
 refine wB J 10 h (fun h=>?_) fun h=>?_
 ·cases h
  exact wr J 16 func155 []
 refine wO J 1 h fun x1 d h=>XW J d ?_
 obtain ⟨x2,e,h⟩:=ob h
 refine Zn (ZgW N x1 _ e) [] [] ?_
 refine wB J 3 h (fun h=>?_) fun h=>?_
 ·cases h
  exact wr J 10 func155 []
 refine wB J 5 h (fun h=>?_) fun h=>wa J 7 (ZB (σ:=Unit) (fun st=>(VO [])) (fun st=>Zcz=some r) ?_ (fun j1=>?_))
 ·cases h
  exact wr J 5 func155 []
 ·intro _ h
  replace h:Zcz=some r:=h
  unfold Zcz at h
  cases h
  exact wr J 4 func155 []
 refine wa J 1 (ZF (σ:=Int) (fun st=>(VO [(0,.c (.s s_)),(3,.I st)])) (fun n st=>Qz N s_ n st) (r:=r) (fun _=>rfl) ?_ (fun ih=>?_))
 ·intro n2 ih3
  intro f h
  replace h:Qz N s_ (n2+1) f=some r:=h
  unfold Qz at h
  refine Zo J 8 h (fun h=>wa J 2 (Zj [] (j1 () h))) fun h=>?_
  refine wO J 8 h fun g i h=>XW J i ?_
  obtain ⟨j,k,h⟩:=ob h
  refine Zn (ZoE N g _ k) [] [] ?_
  refine wB J 2 h (fun h=>?_) fun h=>wa J 8 (Zj [] (ih3 (Zi (f+1)) h))
  cases h
  exact wr J 5 func155 []
 exact Zj [] (ih N 0 h)
theorem ZmD (N:Nat) (r:(List ByteArray)) (h:Zb5 N=some r) :
 Fn Tryz.prog 157 ⟨0,[],[],[],1,.S 0,[],[(0,.own rS r true)]⟩:=by
 refine Zs func157 rfl (fun E F w=>?_)
 unfold Zb5 at h
 refine wa J 6 (Z8 J [] oS ([(str [97,103,97,105,110]),(str [97,110,100]),(str [97,115]),(str [97,116]),(str [99,97,108,108]),(str [99,104,111,105,99,101]),(str [101,108,115,101]),(str [102,114,111,109]),(str [105,102]),(str [105,110,116]),(str [108,101,110]),(str [108,111,111,112]),(str [109,101,115,115,97,103,101]),(str [111,102]),(str [111,102,102,101,114]),(str [111,110]),(str [111,114]),(str [112,97,114]),(str [112,108,97,121,115]),(str [112,114,111,116,111,99,111,108]),(str [115,101,114,118,105,99,101]),(str [116,101,120,116]),(str [116,105,109,101,115]),(str [116,111]),(str [118,97,114]),(str [119,104,101,114,101]),(str [119,104,105,108,101]),(str [119,105,116,104,105,110])]:List ByteArray) ?_)
 cases h
 exact wr J 2 func157 [(0,.sl 0)]
theorem ZlN (N:Nat) (l_:(List ByteArray)) (s_:ByteArray) (r:Bool) (h:H2 N l_ s_=some r) :
 Fn Tryz.prog 156 ⟨1,[.S 0,.c (.s s_)],[(0,.sl rS l_)],[],1,.O r,[],[]⟩:=by
 refine Zs func156 rfl (fun E F w=>?_)
 unfold H2 at h
 refine wa J 9 (ZB (σ:=Unit) (fun st=>(RD l_ [])) (fun st=>Hf=some r) ?_ (fun j1=>?_))
 ·intro _ h
  replace h:Hf=some r:=h
  unfold Hf at h
  cases h
  exact wr J 4 func156 []
 refine wa J 1 (ZF (σ:=Int) (fun st=>(RD l_ [(0,.S 0),(1,.c (.s s_)),(5,.I st)])) (fun n st=>Rv l_ s_ n st) (r:=r) (fun _=>rfl) ?_ (fun ih=>?_))
 ·intro n2 ih3
  intro d h
  replace h:Rv l_ s_ (n2+1) d=some r:=h
  unfold Rv at h
  refine Zo J 8 h (fun h=>wa J 2 (Zj [] (j1 () h))) fun h=>?_
  refine wO J 8 h fun x9 e h=>Zq J oS e ?_
  refine wB J 4 h (fun h=>?_) fun h=>wa J 8 (Zj [] (ih3 (Zi (d+1)) h))
  cases h
  exact wr J 5 func156 []
 exact Zj [] (ih N 0 h)
theorem Za0 (N:Nat) (s_:ByteArray) (r:Bool) (h:Rg N s_=some r) :
 Fn Tryz.prog 80 ⟨0,[.c (.s s_)],[],[],0,.O r,[],[]⟩:=by
 refine Zs func80 rfl (fun E F w=>?_)
 unfold Rg at h
 refine wO J 7 h fun x1 d h=>Zn (Zp5 N s_ _ d) [] [] ?_
 refine Zo J 1 h (fun h=>?_) fun h=>?_
 ·cases h
  exact wr J 7 func80 []
 obtain ⟨x2,e,h⟩:=ob h
 refine Zn (ZmD N _ e) [] [] ?_
 refine wO J 1 h fun x3 f h=>Xe (ZlN N x2 s_ _ f) [] [(0,.sl 0)] [0] (.inr ⟨rfl,trivial⟩) ?_
 cases h
 exact wr J 4 func80 []
theorem Zr3 (N:Nat) (l_:(List ByteArray)) (s_:ByteArray) (r:Int) (h:P3 N l_ s_=some r) :
 Fn Tryz.prog 235 ⟨1,[.S 0,.c (.s s_)],[(0,.sl rS l_)],[],1,.I r,[],[]⟩:=by
 refine Zs func235 rfl (fun E F w=>?_)
 unfold P3 at h
 refine wa J 9 (ZB (σ:=Unit) (fun st=>(RD l_ [])) (fun st=>GX=some r) ?_ (fun j1=>?_))
 ·intro _ h
  replace h:GX=some r:=h
  unfold GX at h
  cases h
  exact wr J 4 func235 []
 refine wa J 1 (ZF (σ:=Int) (fun st=>(RD l_ [(0,.S 0),(1,.c (.s s_)),(5,.I st)])) (fun n st=>SZ l_ s_ n st) (r:=r) (fun _=>rfl) ?_ (fun ih=>?_))
 ·intro n2 ih3
  intro d h
  replace h:SZ l_ s_ (n2+1) d=some r:=h
  unfold SZ at h
  refine Zo J 8 h (fun h=>wa J 2 (Zj [] (j1 () h))) fun h=>?_
  refine wO J 8 h fun x9 e h=>Zq J oS e ?_
  refine wB J 4 h (fun h=>?_) fun h=>wa J 8 (Zj [] (ih3 (Zi (d+1)) h))
  cases h
  exact wr J 6 func235 []
 exact Zj [] (ih N 0 h)
theorem GP (N:Nat) (decls_:(List T0)) (r:Int) (h:Ss N decls_=some r) :
 Fn Tryz.prog 78 ⟨1,[.S 0],[(0,.sl ZL decls_)],[],1,.I r,[],[]⟩:=by
 refine Zs func78 rfl (fun E F w=>?_)
 unfold Ss at h
 refine wa J 13 (ZB (σ:=Int) (fun st=>(Qo decls_ [(3,.I st)])) (fun st=>Dh st=some r) ?_ (fun j1=>?_))
 ·intro c h
  replace h:Dh c=some r:=h
  unfold Dh at h
  cases h
  exact wr J 5 func78 []
 refine wa J 1 (ZF (σ:=Int × Int) (fun st=>(Qo decls_ [(0,.S 0),(3,.I st.1),(4,.I st.2)])) (fun n st=>Re decls_ n st.1 st.2) (r:=r) (fun _=>rfl) ?_ (fun ih=>?_))
 ·intro n2 ih3
  rintro ⟨d,e⟩ h
  replace h:Re decls_ (n2+1) d e=some r:=h
  unfold Re at h
  refine Zo J 8 h (fun h=>wa J 2 (Zj [] (j1 d h))) fun h=>?_
  exact wO J 8 h fun x9 f h=>Zq J Yg f (wa J 12 (Zj [] (ih3 ((Zi (d+(x9.Fields.length:Int))),(Zi (e+1))) h)))
 exact Zj [] (ih N (0,0) h)
theorem Znn (N:Nat) (s_:Yb) (r:Bool) (h:HU N s_=some r) :
 Fn Tryz.prog 79 ⟨0,[.a (UG s_)],[],[],0,.O r,[],[]⟩:=by
 refine Zs func79 rfl (fun E F w=>?_)
 unfold HU at h
 refine wa J 17 (ZB (σ:=Int × Int) (fun st=>⟨[(1,.B 0 0),(3,.I st.1),(4,.I st.2)],[(0,.box (UG s_) 66)],[],1⟩) (fun st=>MA s_ st.1 st.2=some r) ?_ (fun j1=>?_))
 ·rintro ⟨c,d⟩ h
  replace h:MA s_ c d=some r:=h
  unfold MA at h
  refine wB J 6 h (fun h=>?_) fun h=>?_
  ·refine Zo J 11 h (fun h=>?_) fun h=>?_
   ·cases h
    exact wr J 14 func79 []
   refine wB J 6 h (fun h=>?_) fun h=>?_
   ·cases h
    exact wr J 8 func79 []
   cases h
   exact wr J 8 func79 []
  refine Zo J 5 h (fun h=>?_) fun h=>?_
  ·cases h
   exact wr J 20 func79 []
  refine Zo J 6 h (fun h=>?_) fun h=>?_
  ·cases h
   exact wr J 14 func79 []
  refine wB J 6 h (fun h=>?_) fun h=>?_
  ·cases h
   exact wr J 8 func79 []
  cases h
  exact wr J 8 func79 []
 exact eB h (fun h=>wa J 5 (Zj [] (j1 (0,40) h))) fun h=>wa J 2 (Zj [] (j1 ((-1000),1000) h))
theorem ZlW (N:Nat) (s_:ByteArray) (r:Bool) (h:G3 N s_=some r) :
 Fn Tryz.prog 158 ⟨0,[.c (.s s_)],[],[],0,.O r,[],[]⟩:=by
 refine Zs func158 rfl (fun E F w=>?_)
 unfold G3 at h
 refine wO J 7 h fun x1 d h=>Zn (Za0 N s_ _ d) [] [] ?_
 cases h
 exact wr J 2 func158 []
theorem ZoY (N:Nat) (s_:ByteArray) (r:Bool) (h:HW N s_=some r) :
 Fn Tryz.prog 81 ⟨0,[.c (.s s_)],[],[],0,.O r,[],[]⟩:=by
 refine Zs func81 rfl (fun E F w=>?_)
 unfold HW at h
 refine wa J 13 (ZB (σ:=Unit) (fun st=>(VO [(0,.c (.s s_))])) (fun st=>MK s_=some r) ?_ (fun j1=>?_))
 ·intro _ h
  replace h:MK s_=some r:=h
  unfold MK at h
  cases h
  exact wr J 7 func81 []
 refine wa J 1 (ZF (σ:=Int × Int) (fun st=>(VO [(0,.c (.s s_)),(3,.I st.1),(4,.I st.2)])) (fun n st=>Ud N s_ n st.1 st.2) (r:=r) (fun _=>rfl) ?_ (fun ih=>?_))
 ·intro n2 ih6
  rintro ⟨d,e⟩ h
  replace h:Ud N s_ (n2+1) d e=some r:=h
  unfold Ud at h
  refine Zo J 8 h (fun h=>wa J 2 (Zj [] (j1 () h))) fun h=>?_
  refine wa J 11 (ZB (σ:=Bool) (fun st=>(VO [(0,.c (.s s_)),(3,.I d),(4,.I e),(20,.O st)])) (fun st=>SP N s_ d e (Ud N s_ n2) st=some r) ?_ (fun j9=>?_))
  ·intro f h
   replace h:SP N s_ d e (Ud N s_ n2) f=some r:=h
   unfold SP at h
   refine VH h (fun h=>wa J 8 (Zj [] (ih6 (d,(Zi (e+1))) h))) fun h=>?_
   refine wO J 7 h fun g i h=>Rm J i ?_
   obtain ⟨j,k,h⟩:=ob h
   refine Zn (ZlW N g _ k) [] [] ?_
   refine wB J 2 h (fun h=>?_) fun h=>wa J 13 (Zj [] (ih6 ((Zi (e+1)),(Zi (e+1))) h))
   cases h
   exact wr J 5 func81 []
  refine eB h (fun h=>wa J 6 (Zj [] (j9 true h))) fun h=>?_
  exact wO J 2 h fun l m h=>XW J m (wa J 3 (Zj [] (j9 (l==46) h)))
 exact Zj [] (ih N (0,0) h)
theorem Zjz (N:Nat) (decls_:(List T0)) (x_:Int) (r:T4) (h:PX N decls_ x_=some r) :
 Fn Tryz.prog 140 ⟨1,[.S 0,.I x_],[(0,.sl ZL decls_)],[],1,.a (WM r),[],[]⟩:=by
 refine Zs func140 rfl (fun E F w=>?_)
 unfold PX at h
 refine wa J 9 (ZB (σ:=Unit) (fun st=>⟨[(4,.B 1 0)],[(1,.box [.s (str []),.I 0,.I 0,.I 0] 68)],[(0,.sl ZL decls_)],2⟩) (fun st=>Zcl=some r) ?_ (fun j1=>?_))
 ·intro _ h
  replace h:Zcl=some r:=h
  unfold Zcl at h
  cases h
  exact wr J 5 func140 []
 refine wa J 1 (ZF (σ:=Int × Int) (fun st=>⟨[(0,.S 0),(1,.I st.1),(4,.B 1 0),(5,.I st.2)],[(1,.box [.s (str []),.I 0,.I 0,.I 0] 68)],[(0,.sl ZL decls_)],2⟩) (fun n st=>Ph decls_ n st.1 st.2) (r:=r) (fun _=>rfl) ?_ (fun ih=>?_))
 ·intro n2 ih3
  rintro ⟨c,d⟩ h
  replace h:Ph decls_ (n2+1) c d=some r:=h
  unfold Ph at h
  refine Zo J 8 h (fun h=>wa J 2 (Zj [] (j1 () h))) fun h=>?_
  refine wO J 10 h fun e f h=>Zq J Yg f ?_
  refine Zo J 5 h (fun h=>?_) fun h=>?_
  ·exact wO J 6 h fun g i h=>Zq J Yg i (wa J 12 (Zj [] (ih3 ((Zi (c-(g.Fields.length:Int))),(Zi (d+1))) h)))
  refine wO J 5 h fun j k h=>Zq J Yg k ?_
  refine wO J 3 h fun l m h=>Zq J Xq m ?_
  cases h
  exact wr J 3 func140 []
 exact Zj [] (ih N (x_,0) h)
theorem Zgp (N:Nat) (decls_:(List T0)) (x_:Int) (r:Bool) (h:PS N decls_ x_=some r) :
 Fn Tryz.prog 159 ⟨1,[.S 0,.I x_],[(0,.sl ZL decls_)],[],1,.O r,[],[]⟩:=by
 refine Zs func159 rfl (fun E F w=>?_)
 unfold PS at h
 refine Zo J 9 h (fun h=>?_) fun h=>?_
 ·cases h
  exact wr J 15 func159 []
 refine wO J 2 h fun x1 c h=>Zn (GP N decls_ _ c) [] [(0,.sl 0)] ?_
 refine Zo J 3 h (fun h=>?_) fun h=>?_
 ·cases h
  exact wr J 9 func159 []
 refine wO J 2 h fun x2 d h=>Zn (Zjz N decls_ x_ _ d) [] [(0,.sl 0)] ?_
 cases h
 exact wr J 6 func159 []
theorem Zte (N:Nat) (decls_:(List T0)) (g_:T6) (r:Bool) (h:GO N decls_ g_=some r) :
 Fn Tryz.prog 82 ⟨3,[.S 0,.a [.sl 1,.sl 2]],[(0,.sl ZL decls_),(1,.sl YO g_.Diffs),(2,.sl (rP (rI .i64) (rI .i64)) g_.Equals)],[],3,.O r,[],[]⟩:=by
 refine Zs func82 rfl (fun E F w=>?_)
 unfold GO at h
 refine wO J 8 h fun x1 c h=>Zn (GP N decls_ _ c) [] [(0,.sl 0)] (wa J 7 (ZB (σ:=Unit) (fun st=>(B3 decls_ g_.Diffs g_.Equals [(0,.S 0),(3,.B 3 0)])) (fun st=>Lx N decls_ g_=some r) ?_ (fun j1=>?_)))
 ·intro _ h
  replace h:Lx N decls_ g_=some r:=h
  unfold Lx at h
  refine wa J 5 (ZB (σ:=Unit) (fun st=>(B3 decls_ g_.Diffs g_.Equals [(3,.B 3 0)])) (fun st=>Pl g_=some r) ?_ (fun j3=>?_))
  ·intro _ h
   replace h:Pl g_=some r:=h
   unfold Pl at h
   refine wB J 7 h (fun h=>?_) fun h=>?_
   ·cases h
    exact wr J 7 func82 []
   cases h
   exact wr J 7 func82 []
  refine wa J 1 (ZF (σ:=Int) (fun st=>(B3 decls_ g_.Diffs g_.Equals [(0,.S 0),(3,.B 3 0),(8,.I st)])) (fun n st=>R3 N decls_ g_ n st) (r:=r) (fun _=>rfl) ?_ (fun ih=>?_))
  ·intro n3 ih5
   intro d h
   replace h:R3 N decls_ g_ (n3+1) d=some r:=h
   unfold R3 at h
   refine Zo J 9 h (fun h=>wa J 2 (Zj [] (j3 () h))) fun h=>?_
   refine wO J 10 h fun e f h=>Zq J (oP (oI .i64) (oI .i64)) f (P9 0 rfl ?_)
   refine wO J 1 h fun g i h=>Zn (Zgp N decls_ e.1 _ i) [] [(0,.sl 0)] ?_
   refine wB J 2 h (fun h=>?_) fun h=>?_
   ·cases h
    exact wr J 16 func82 []
   refine wO J 4 h fun j k h=>Zq J (oP (oI .i64) (oI .i64)) k (P9 1 rfl ?_)
   refine wO J 1 h fun l m h=>Zn (Zgp N decls_ j.2 _ m) [] [(0,.sl 0)] ?_
   refine wB J 3 h (fun h=>?_) fun h=>wa J 8 (Zj [] (ih5 (Zi (d+1)) h))
   cases h
   exact wr J 5 func82 []
  exact Zj [] (ih N 0 h)
 refine wa J 1 (ZF (σ:=Int) (fun st=>(B3 decls_ g_.Diffs g_.Equals [(0,.S 0),(3,.B 3 0),(5,.I x1),(6,.I st)])) (fun n st=>SQ N decls_ g_ x1 n st) (r:=r) (fun _=>rfl) ?_ (fun ih=>?_))
 ·intro n4 ih6
  intro o h
  replace h:SQ N decls_ g_ x1 (n4+1) o=some r:=h
  unfold SQ at h
  refine Zo J 9 h (fun h=>wa J 2 (Zj [] (j1 () h))) fun h=>?_
  refine wO J 9 h fun p q h=>Zq J Ut q ?_
  refine wB J 10 h (fun h=>?_) fun h=>?_
  ·cases h
   exact wr J 32 func82 []
  refine wB J 6 h (fun h=>?_) fun h=>?_
  ·cases h
   exact wr J 26 func82 []
  refine wB J 5 h (fun h=>?_) fun h=>?_
  ·cases h
   exact wr J 21 func82 []
  refine wB J 6 h (fun h=>?_) fun h=>?_
  ·cases h
   exact wr J 15 func82 []
  refine wB J 5 h (fun h=>?_) fun h=>?_
  ·cases h
   exact wr J 10 func82 []
  refine wB J 5 h (fun h=>?_) fun h=>wa J 8 (Zj [] (ih6 (Zi (o+1)) h))
  cases h
  exact wr J 5 func82 []
 exact Zj [] (ih N 0 h)
theorem Zbm (N:Nat) (decls_:(List T0)) (r:Bool) (h:R4 N decls_=some r) :
 Fn Tryz.prog 41 ⟨1,[.S 0],[(0,.sl ZL decls_)],[],1,.O r,[],[]⟩:=by
 refine Zs func41 rfl (fun E F w=>?_)
 unfold R4 at h
 refine wB J 11 h (fun h=>?_) fun h=>?_
 ·cases h
  exact wr J 10 func41 []
 refine wO J 1 h fun x1 c h=>Zn (GP N decls_ _ c) [] [(0,.sl 0)] ?_
 refine wB J 3 h (fun h=>?_) fun h=>wa J 11 (ZB (σ:=Unit) (fun st=>(Qo decls_ [])) (fun st=>Hn=some r) ?_ (fun j1=>?_))
 ·cases h
  exact wr J 5 func41 []
 ·intro _ h
  replace h:Hn=some r:=h
  unfold Hn at h
  cases h
  exact wr J 4 func41 []
 refine wa J 1 (ZF (σ:=Int × Int) (fun st=>(Qo decls_ [(0,.S 0),(3,.I st.1),(4,.I st.2)])) (fun n st=>Y3 N decls_ n st.1 st.2) (r:=r) (fun _=>rfl) ?_ (fun ih=>?_))
 ·intro n82 ih75
  rintro ⟨d,e⟩ h
  replace h:Y3 N decls_ (n82+1) d e=some r:=h
  unfold Y3 at h
  refine Zo J 8 h (fun h=>wa J 2 (Zj [] (j1 () h))) fun h=>?_
  refine wO J 8 h fun f g h=>Zq J Yg g (wa J 9 (ZB (σ:=Unit) (fun st=>(Q0 f decls_ [(0,.S 0),(3,.I d),(4,.I e),(5,.B 5 0)])) (fun st=>P1 N decls_ d e (Y3 N decls_ n82) f=some r) ?_ (fun j124=>?_)))
  ·intro _ h
   replace h:P1 N decls_ d e (Y3 N decls_ n82) f=some r:=h
   unfold P1 at h
   refine wa J 5 (ZB (σ:=Unit) (fun st=>(Q0 f decls_ [(0,.S 0),(3,.I d),(4,.I e),(5,.B 5 0)])) (fun st=>Lk N decls_ d e (Y3 N decls_ n82) f=some r) ?_ (fun j126=>?_))
   ·intro _ h
    replace h:Lk N decls_ d e (Y3 N decls_ n82) f=some r:=h
    unfold Lk at h
    refine wO J 5 h fun i j h=>Zn (ZoY N f.Name _ j) [] [] ?_
    refine wB J 2 h (fun h=>?_) fun h=>?_
    ·cases h
     exact wr J 24 func41 []
    refine wB J 6 h (fun h=>?_) fun h=>?_
    ·cases h
     exact wr J 18 func41 []
    refine wB J 6 h (fun h=>?_) fun h=>?_
    ·cases h
     exact wr J 12 func41 []
    refine wO J 3 h fun k l h=>Zn (Zte N decls_ f.Guard _ l) [] [(0,.sl 0),(1,.sl 3),(2,.sl 4)] ?_
    refine wB J 3 h (fun h=>?_) fun h=>wa J 16 (Zj [] (ih75 ((Zi (d+(f.Fields.length:Int))),(Zi (e+1))) h))
    cases h
    exact wr J 5 func41 []
   refine wa J 1 (ZF (σ:=Int) (fun st=>(Q0 f decls_ [(0,.S 0),(3,.I d),(4,.I e),(5,.B 5 0),(7,.I st)])) (fun n st=>Ve N decls_ d e (Y3 N decls_ n82) f n st) (r:=r) (fun _=>rfl) ?_ (fun ih=>?_))
   ·intro n95 ih137
    intro m h
    replace h:Ve N decls_ d e (Y3 N decls_ n82) f (n95+1) m=some r:=h
    unfold Ve at h
    refine Zo J 9 h (fun h=>wa J 2 (Zj [] (j126 () h))) fun h=>?_
    refine wO J 10 h fun o p h=>Zq J Xq p ?_
    refine wO J 2 h fun q s h=>Zn (Znn N o.Sort' _ s) [] [] ?_
    refine wB J 2 h (fun h=>?_) fun h=>?_
    ·cases h
     exact wr J 15 func41 []
    refine wO J 3 h fun t u h=>Zq J Xq u ?_
    refine wO J 2 h fun v x h=>Zn (Za0 N t.Name _ x) [] [] ?_
    refine wB J 3 h (fun h=>?_) fun h=>wa J 6 (ZB (σ:=Unit) (fun st=>⟨[(0,.S 0),(3,.I d),(4,.I e),(5,.B 5 0),(7,.I m)],[(5,.box (Yt 2 3 4 f) 75)],((0,.sl ZL decls_)::Yn 2 3 4 f []),8⟩) (fun st=>PZ m (Ve N decls_ d e (Y3 N decls_ n82) f n95)=some r) ?_ (fun j144=>?_))
    ·cases h
     exact wr J 5 func41 []
    ·intro _ h
     replace h:PZ m (Ve N decls_ d e (Y3 N decls_ n82) f n95)=some r:=h
     unfold PZ at h
     exact wa J 6 (Zj [] (ih137 (Zi (m+1)) h))
    refine wa J 1 (ZF (σ:=Int) (fun st=>⟨[(0,.S 0),(3,.I d),(4,.I e),(5,.B 5 0),(7,.I m),(8,.I st)],[(5,.box (Yt 2 3 4 f) 75)],((0,.sl ZL decls_)::Yn 2 3 4 f []),8⟩) (fun n st=>Rt f m (Ve N decls_ d e (Y3 N decls_ n82) f n95) n st) (r:=r) (fun _=>rfl) ?_ (fun ih=>?_))
    ·intro n97 ih146
     intro y h
     replace h:Rt f m (Ve N decls_ d e (Y3 N decls_ n82) f n95) (n97+1) y=some r:=h
     unfold Rt at h
     refine Zo J 7 h (fun h=>wa J 2 (Zj [] (j144 () h))) fun h=>?_
     refine wO J 9 h fun z A h=>Zq J Xq A ?_
     refine wO J 5 h fun C D h=>Zq J Xq D (wa J 3 (ZA ?_))
     refine eB h (fun h=>?_) fun h=>wa J 8 (Zj [] (ih146 (Zi (y+1)) h))
     cases h
     exact wr J 5 func41 []
    exact Zj [] (ih N 0 h)
   exact Zj [] (ih N 0 h)
  refine wa J 1 (ZF (σ:=Int) (fun st=>(Q0 f decls_ [(0,.S 0),(3,.I d),(4,.I e),(5,.B 5 0),(6,.I st)])) (fun n st=>Qa N decls_ d e (Y3 N decls_ n82) f n st) (r:=r) (fun _=>rfl) ?_ (fun ih=>?_))
  ·intro n98 ih147
   intro G h
   replace h:Qa N decls_ d e (Y3 N decls_ n82) f (n98+1) G=some r:=h
   unfold Qa at h
   refine Zo J 7 h (fun h=>wa J 2 (Zj [] (j124 () h))) fun h=>?_
   refine wO J 8 h fun H R h=>Zq J Yg R (wa J 5 (ZA ?_))
   refine eB h (fun h=>?_) fun h=>wa J 8 (Zj [] (ih147 (Zi (G+1)) h))
   cases h
   exact wr J 5 func41 []
  exact Zj [] (ih N 0 h)
 exact Zj [] (ih N (0,0) h)
theorem Zp4 (N:Nat) (g_:T5) (r:Bool) (h:Ds N g_=some r) :
 Fn Tryz.prog 178 ⟨4,[.a (ZT 0 1 2 3 g_)],(Yh 0 1 2 3 g_ []),[],4,.O r,[],[]⟩:=by
 refine Zs func178 rfl (fun E F w=>?_)
 unfold Ds at h
 refine wa J 10 (ZB (σ:=Unit) (fun st=>(Ty g_ [(1,.B 4 0)])) (fun st=>MU N g_=some r) ?_ (fun j1=>?_))
 ·intro _ h
  replace h:MU N g_=some r:=h
  unfold MU at h
  refine wO J 4 h fun c d h=>Zn (Za0 N g_.Name _ d) [] [] ?_
  refine Zo J 1 h (fun h=>?_) fun h=>?_
  ·cases h
   exact wr J 18 func178 []
  refine Zo J 6 h (fun h=>?_) fun h=>?_
  ·cases h
   exact wr J 12 func178 []
  refine Zo J 6 h (fun h=>?_) fun h=>?_
  ·cases h
   exact wr J 6 func178 []
  refine wO J 2 h fun e f h=>Zn (Zbm N g_.Decls _ f) [] [(0,.sl 1)] ?_
  cases h
  exact wr J 3 func178 []
 refine wa J 1 (ZF (σ:=Int) (fun st=>(Ty g_ [(1,.B 4 0),(3,.I st)])) (fun n st=>Qd N g_ n st) (r:=r) (fun _=>rfl) ?_ (fun ih=>?_))
 ·intro n2 ih3
  intro g h
  replace h:Qd N g_ (n2+1) g=some r:=h
  unfold Qd at h
  refine Zo J 9 h (fun h=>wa J 2 (Zj [] (j1 () h))) fun h=>?_
  refine wO J 9 h fun i j h=>Zq J oS j ?_
  refine wO J 1 h fun k l h=>Zn (Za0 N i _ l) [] [] ?_
  refine wB J 2 h (fun h=>wa J 11 (ZA ?_)) fun h=>?_
  ·cases h
   exact wr J 5 func178 []
  refine wO J 5 h fun m o h=>Zq J oS o ?_
  refine wO J 1 h fun p q h=>Zn (Zr3 N g_.Roles m _ q) [] [(0,.sl 0)] (wa J 3 (ZA ?_))
  refine eB h (fun h=>?_) fun h=>wa J 8 (Zj [] (ih3 (Zi (g+1)) h))
  cases h
  exact wr J 5 func178 []
 exact Zj [] (ih N 0 h)
theorem Gr (N:Nat) (g_:T5) (s_:Int) (r:Bool) (h:Sp N g_ s_=some r) :
 Fn Tryz.prog 236 ⟨4,[.a (ZT 0 1 2 3 g_),.I s_],(Yh 0 1 2 3 g_ []),[],4,.O r,[],[]⟩:=by
 refine Zs func236 rfl (fun E F w=>?_)
 unfold Sp at h
 refine wB J 10 h (fun h=>?_) fun h=>?_
 ·cases h
  exact wr J 7 func236 []
 cases h
 exact wr J 7 func236 []
theorem Zo1 (N:Nat) (g_:T5) (r:Bool) (h:GH N g_=some r) :
 Fn Tryz.prog 179 ⟨4,[.a (ZT 0 1 2 3 g_)],(Yh 0 1 2 3 g_ []),[],4,.O r,[],[]⟩:=by
 refine Zs func179 rfl (fun E F w=>?_)
 unfold GH at h
 refine wa J 10 (ZB (σ:=Unit) (fun st=>(Ty g_ [(1,.B 4 0)])) (fun st=>Lg N g_=some r) ?_ (fun j1=>?_))
 ·intro _ h
  replace h:Lg N g_=some r:=h
  unfold Lg at h
  refine Zo J 6 h (fun h=>?_) fun h=>?_
  ·cases h
   exact wr J 24 func179 []
  refine Zo J 5 h (fun h=>?_) fun h=>?_
  ·cases h
   exact wr J 19 func179 []
  refine wO J 3 h fun c d h=>Zn (Gr N g_ g_.Start _ d) [] [(0,.sl 0),(1,.sl 1),(2,.sl 2),(3,.sl 3)] ?_
  refine Zo J 2 h (fun h=>?_) fun h=>?_
  ·cases h
   exact wr J 13 func179 []
  refine wO J 3 h fun e f h=>Zn (Gr N g_ g_.End _ f) [] [(0,.sl 0),(1,.sl 1),(2,.sl 2),(3,.sl 3)] ?_
  refine wB J 2 h (fun h=>?_) fun h=>?_
  ·cases h
   exact wr J 7 func179 []
  cases h
  exact wr J 7 func179 []
 refine wa J 1 (ZF (σ:=Int) (fun st=>(Ty g_ [(1,.B 4 0),(3,.I st)])) (fun n st=>RZ N g_ n st) (r:=r) (fun _=>rfl) ?_ (fun ih=>?_))
 ·intro n2 ih3
  intro g h
  replace h:RZ N g_ (n2+1) g=some r:=h
  unfold RZ at h
  refine Zo J 9 h (fun h=>wa J 2 (Zj [] (j1 () h))) fun h=>?_
  refine wO J 9 h fun i j h=>Zq J XX j ?_
  refine wO J 9 h fun k l h=>Zn (Gr N g_ i.From _ l) [] [(0,.sl 0),(1,.sl 1),(2,.sl 2),(3,.sl 3)] ?_
  refine wB J 2 h (fun h=>?_) fun h=>?_
  ·cases h
   exact wr J 66 func179 []
  refine wO J 3 h fun m o h=>Zn (Gr N g_ i.To _ o) [] [(0,.sl 0),(1,.sl 1),(2,.sl 2),(3,.sl 3)] ?_
  refine wB J 3 h (fun h=>?_) fun h=>?_
  ·cases h
   exact wr J 59 func179 []
  refine wB J 6 h (fun h=>?_) fun h=>?_
  ·cases h
   exact wr J 53 func179 []
  refine wB J 9 h (fun h=>?_) fun h=>?_
  ·cases h
   exact wr J 44 func179 []
  refine wB J 6 h (fun h=>?_) fun h=>?_
  ·cases h
   exact wr J 38 func179 []
  refine wB J 9 h (fun h=>?_) fun h=>?_
  ·cases h
   exact wr J 29 func179 []
  refine wB J 9 h (fun h=>?_) fun h=>?_
  ·cases h
   exact wr J 20 func179 []
  refine wB J 6 h (fun h=>?_) fun h=>?_
  ·cases h
   exact wr J 14 func179 []
  refine wB J 9 h (fun h=>?_) fun h=>wa J 8 (Zj [] (ih3 (Zi (g+1)) h))
  cases h
  exact wr J 5 func179 []
 exact Zj [] (ih N 0 h)
theorem Zmq (N:Nat) (g_:T5) (r:Bool) (h:HV N g_=some r) :
 Fn Tryz.prog 180 ⟨4,[.a (ZT 0 1 2 3 g_)],(Yh 0 1 2 3 g_ []),[],4,.O r,[],[]⟩:=by
 refine Zs func180 rfl (fun E F w=>?_)
 unfold HV at h
 refine wa J 10 (ZB (σ:=Unit) (fun st=>(MX g_ [])) (fun st=>D2=some r) ?_ (fun j1=>?_))
 ·intro _ h
  replace h:D2=some r:=h
  unfold D2 at h
  cases h
  exact wr J 4 func180 []
 refine wa J 1 (ZF (σ:=Int) (fun st=>(Ty g_ [(1,.B 4 0),(3,.I st)])) (fun n st=>X8 N g_ n st) (r:=r) (fun _=>rfl) ?_ (fun ih=>?_))
 ·intro n12 ih33
  intro c h
  replace h:X8 N g_ (n12+1) c=some r:=h
  unfold X8 at h
  refine Zo J 9 h (fun h=>wa J 2 (Zj [] (j1 () h))) fun h=>?_
  refine wO J 9 h fun d e h=>Zq J XX e ?_
  refine wa J 10 (ZB (σ:=Bool) (fun st=>(Bb g_ d [(1,.B 4 0),(3,.I c),(4,.B 6 0),(27,.O st)])) (fun st=>Lf N g_ c (X8 N g_ n12) d st=some r) ?_ (fun j54=>?_))
  ·intro f h
   replace h:Lf N g_ c (X8 N g_ n12) d f=some r:=h
   unfold Lf at h
   refine eB h (fun h=>?_) fun h=>wa J 6 (ZB (σ:=Unit) (fun st=>⟨[(1,.B 4 0),(3,.I c)],[(4,.box (ZT 0 1 2 3 g_) 27)],(Yh 0 1 2 3 g_ []),7⟩) (fun st=>PU c (X8 N g_ n12)=some r) ?_ (fun j55=>?_))
   ·cases h
    exact wr J 5 func180 []
   ·intro _ h
    replace h:PU c (X8 N g_ n12)=some r:=h
    unfold PU at h
    exact wa J 6 (Zj [] (ih33 (Zi (c+1)) h))
   refine wa J 1 (ZF (σ:=Int) (fun st=>(Bb g_ d [(1,.B 4 0),(3,.I c),(4,.B 6 0),(5,.I st)])) (fun n st=>Va g_ c (X8 N g_ n12) d n st) (r:=r) (fun _=>rfl) ?_ (fun ih=>?_))
   ·intro n14 ih60
    intro g h
    replace h:Va g_ c (X8 N g_ n12) d (n14+1) g=some r:=h
    unfold Va at h
    refine Zo J 9 h (fun h=>wa J 2 (Zj [] (j55 () h))) fun h=>?_
    refine wO J 9 h fun i j h=>Zq J XX j ?_
    refine wa J 11 (ZB (σ:=Bool) (fun st=>(Zje g_ d i [(1,.B 4 0),(3,.I c),(4,.B 6 0),(5,.I g),(6,.B 8 0),(69,.O st)])) (fun st=>TU d g (Va g_ c (X8 N g_ n12) d n14) i st=some r) ?_ (fun j63=>?_))
    ·intro k h
     replace h:TU d g (Va g_ c (X8 N g_ n12) d n14) i k=some r:=h
     unfold TU at h
     refine eB h (fun h=>?_) fun h=>?_
     ·cases h
      exact wr J 5 func180 []
     refine Zo J 7 h (fun h=>wa J 33 (Zj [] (ih60 (Zi (g+1)) h))) fun h=>?_
     refine Zo J 7 h (fun h=>wa J 26 (Zj [] (ih60 (Zi (g+1)) h))) fun h=>?_
     refine wB J 8 h (fun h=>?_) fun h=>?_
     ·cases h
      exact wr J 15 func180 []
     refine wB J 10 h (fun h=>?_) fun h=>wa J 8 (Zj [] (ih60 (Zi (g+1)) h))
     cases h
     exact wr J 5 func180 []
    refine VH h (fun h=>wa J 27 (Zj [] (j63 false h))) fun h=>?_
    refine Zo J 7 h (fun h=>wa J 20 (Zj [] (j63 false h))) fun h=>wa J 4 (R9 ?_)
    refine wB J 1 h (fun h=>wa J 14 (Zj [] (j63 true h))) fun h=>?_
    exact wB J 9 h (fun h=>wa J 5 (Zj [] (j63 true h))) fun h=>wa J 5 (Zj [] (j63 d.Again h))
   exact Zj [] (ih N 0 h)
  exact eB h (fun h=>wa J 7 (Zj [] (j54 (d.From==g_.Start) h))) fun h=>wa J 7 (Zj [] (j54 false h))
 exact Zj [] (ih N 0 h)
theorem ZqD (N:Nat) (g_:T5) (r:(List Int)) (h:HF N g_=some r) :
 Fn Tryz.prog 237 ⟨4,[.a (ZT 0 1 2 3 g_)],(Yh 0 1 2 3 g_ []),[],5,.S 4,[],[(4,.own (rI .i64) r true)]⟩:=by
 refine Zs func237 rfl (fun E F w=>?_)
 unfold HF at h
 refine wO J 9 h fun x1 c h=>Ue J (oI .i64) c (wa J 7 (ZB (σ:=(List Int)) (fun st=>(Zef g_ st [(1,.B 4 0),(3,.S 5)])) (fun st=>MB N g_ st=some r) ?_ (fun j1=>?_)))
 ·intro d h
  replace h:MB N g_ d=some r:=h
  unfold MB at h
  refine wO J 5 h fun x6 e h=>Z9 J (rI .i64) e (Xj J [] (oI .i64) 0 e (wa J 6 (ZB (σ:=(List Int)) (fun st=>⟨[(3,.S 5)],[(5,.own (rI .i64) st true)],(Yh 0 1 2 3 g_ []),7⟩) (fun st=>Gg st=some r) ?_ (fun j3=>?_))))
  ·intro f h
   replace h:Gg f=some r:=h
   unfold Gg at h
   cases h
   exact wr J 5 func237 [(4,.sl 5)]
  refine wa J 1 (ZF (σ:=(List Int) × Int) (fun st=>(GM g_ st.1 [(1,.B 4 0),(3,.S 5),(5,.I st.2)])) (fun n st=>VJ N g_ n st.1 st.2) (r:=r) (fun _=>rfl) ?_ (fun ih=>?_))
  ·intro n13 ih14
   rintro ⟨g,i⟩ h
   replace h:VJ N g_ (n13+1) g i=some r:=h
   unfold VJ at h
   refine Zo J 8 h (fun h=>wa J 2 (Zj [] (j3 g h))) fun h=>wa J 8 (ZB (σ:=(List Int)) (fun st=>(GM g_ st [(1,.B 4 0),(3,.S 5),(5,.I i)])) (fun st=>G7 i (VJ N g_ n13) st=some r) ?_ (fun j21=>?_))
   ·intro j h
    replace h:G7 i (VJ N g_ n13) j=some r:=h
    unfold G7 at h
    exact wa J 6 (Zj [] (ih14 (j,(Zi (i+1))) h))
   refine wa J 1 (ZF (σ:=(List Int) × Int) (fun st=>(GM g_ st.1 [(1,.B 4 0),(3,.S 5),(5,.I i),(6,.I st.2)])) (fun n st=>VD g_ i (VJ N g_ n13) n st.1 st.2) (r:=r) (fun _=>rfl) ?_ (fun ih=>?_))
   ·intro n15 ih23
    rintro ⟨k,l⟩ h
    replace h:VD g_ i (VJ N g_ n13) (n15+1) k l=some r:=h
    unfold VD at h
    refine Zo J 9 h (fun h=>wa J 2 (Zj [] (j21 k h))) fun h=>?_
    refine wO J 9 h fun m o h=>Zq J XX o ?_
    refine wO J 9 h fun p q h=>Z9 J (rI .i64) q (YJ J (oI .i64) q ?_)
    refine Zo J 3 h (fun h=>wa J 16 (Zj [] (ih23 (k,(Zi (l+1))) h))) fun h=>?_
    refine wO J 3 h fun s t h=>Z9 J (rI .i64) t (YJ J (oI .i64) t ?_)
    refine Zo J 3 h (fun h=>wa J 8 (Zj [] (ih23 (k,(Zi (l+1))) h))) fun h=>?_
    exact wO J 7 h fun u v h=>Z9 J (rI .i64) v (Xj J [] (oI .i64) (Zi (i+1)) v (wa J 7 (Zj [] (ih23 ((ZW k m.From (Zi (i+1))),(Zi (l+1))) h))))
   exact Zj [] (ih N (g,0) h)
  exact Zj [] (ih N ((ZW d g_.End 0),0) h)
 refine wa J 1 (ZF (σ:=(List Int) × Int) (fun st=>(Zef g_ st.1 [(1,.B 4 0),(3,.S 5),(4,.I st.2)])) (fun n st=>Rf N g_ n st.1 st.2) (r:=r) (fun _=>rfl) ?_ (fun ih=>?_))
 ·intro n16 ih24
  rintro ⟨x,y⟩ h
  replace h:Rf N g_ (n16+1) x y=some r:=h
  unfold Rf at h
  refine Zo J 8 h (fun h=>wa J 2 (Zj [] (j1 x h))) fun h=>?_
  exact wO J 7 h fun z A h=>Z9 J (rI .i64) A (Xj J [] (oI .i64) (-1) A (wa J 7 (Zj [] (ih24 ((ZW x y (-1)),(Zi (y+1))) h))))
 exact Zj [] (ih N (x1,0) h)
theorem ZsR (N:Nat) (g_:T5) (i_:Int) (k_:Int) (r:Bool) (h:DL N g_ i_ k_=some r) :
 Fn Tryz.prog 272 ⟨4,[.a (ZT 0 1 2 3 g_),.I i_,.I k_],(Yh 0 1 2 3 g_ []),[],4,.O r,[],[]⟩:=by
 refine Zs func272 rfl (fun E F w=>?_)
 unfold DL at h
 refine wO J 10 h fun x1 c h=>Zq J XX c ?_
 refine wO J 5 h fun x2 d h=>Zq J XX d (wa J 6 (ZA ?_))
 refine wB J 9 h (fun h=>?_) fun h=>?_
 ·cases h
  exact wr J 10 func272 []
 refine wB J 11 h (fun h=>?_) fun h=>?_
 ·cases h
  exact wr J 10 func272 []
 cases h
 exact wr J 9 func272 []
theorem ZlG (N:Nat) (g_:T5) (s_:Int) (r:(List Int)) (h:HJ N g_ s_=some r) :
 Fn Tryz.prog 238 ⟨4,[.a (ZT 0 1 2 3 g_),.I s_],(Yh 0 1 2 3 g_ []),[],5,.S 4,[],[(4,.own (rI .i64) r true)]⟩:=by
 refine Zs func238 rfl (fun E F w=>?_)
 unfold HJ at h
 refine wa J 14 (ZB (σ:=(List Int)) (fun st=>⟨[(5,.S 5)],[(5,.own (rI .i64) st true)],(Yh 0 1 2 3 g_ []),6⟩) (fun st=>Hs st=some r) ?_ (fun j1=>?_))
 ·intro c h
  replace h:Hs c=some r:=h
  unfold Hs at h
  cases h
  exact wr J 5 func238 [(4,.sl 5)]
 refine wa J 1 (ZF (σ:=(List Int) × Int) (fun st=>(Zef g_ st.1 [(1,.I s_),(2,.B 4 0),(5,.S 5),(6,.I st.2)])) (fun n st=>WX N g_ s_ n st.1 st.2) (r:=r) (fun _=>rfl) ?_ (fun ih=>?_))
 ·intro n12 ih12
  rintro ⟨d,e⟩ h
  replace h:WX N g_ s_ (n12+1) d e=some r:=h
  unfold WX at h
  refine Zo J 9 h (fun h=>wa J 2 (Zj [] (j1 d h))) fun h=>?_
  refine wO J 10 h fun f g h=>Zq J XX g ?_
  refine wB J 5 h (fun h=>wa J 7 (Zj [] (ih12 (d,(Zi (e+1))) h))) fun h=>wa J 7 (ZB (σ:=Int) (fun st=>(GM g_ d [(1,.I s_),(2,.B 4 0),(5,.S 5),(6,.I e),(7,.I st)])) (fun st=>Py d e (WX N g_ s_ n12) st=some r) ?_ (fun j19=>?_))
  ·intro i h
   replace h:Py d e (WX N g_ s_ n12) i=some r:=h
   unfold Py at h
   refine wO J 3 h fun j k h=>UQ J (rI .i64) k (wa J 1 (Z8 J [] (oI .i64) ([e]:List Int) ?_))
   refine wO J 2 h fun l m h=>UQ J (rI .i64) m ?_
   obtain ⟨o,p,h⟩:=ob h
   refine eAv J (rI .i64) m p ?_
   obtain ⟨q,s,h⟩:=ob h
   exact eAz J (rI .i64) k s (wa J 1 (ZA (wa J 6 (Zj [(5,.sl 11)] (ih12 (q,(Zi (e+1))) h)))))
  refine wa J 1 (ZF (σ:=Int) (fun st=>(GM g_ d [(1,.I s_),(2,.B 4 0),(5,.S 5),(6,.I e),(7,.I st)])) (fun n st=>SJ N g_ d e (WX N g_ s_ n12) n st) (r:=r) (fun _=>rfl) ?_ (fun ih=>?_))
  ·intro n14 ih21
   intro t h
   replace h:SJ N g_ d e (WX N g_ s_ n12) (n14+1) t=some r:=h
   unfold SJ at h
   refine Zo J 8 h (fun h=>wa J 8 (ZA (wa J 2 (Zj [] (j19 t h))))) fun h=>?_
   refine wO J 3 h fun u v h=>Z9 J (rI .i64) v (YJ J (oI .i64) v ?_)
   refine wO J 1 h fun x y h=>Zn (ZsR N g_ u e _ y) [] [(0,.sl 0),(1,.sl 1),(2,.sl 2),(3,.sl 3)] (wa J 1 (ZA ?_))
   exact eB h (fun h=>wa J 9 (Zj [] (ih21 (Zi (t+1)) h))) fun h=>wa J 2 (Zj [] (j19 t h))
  exact Zj [] (ih N 0 h)
 exact Zj [(5,.nil)] (ih N (([]:List Int),0) h)
theorem ZpY (N:Nat) (g_:T5) (r:Bool) (h:DD N g_=some r) :
 Fn Tryz.prog 181 ⟨4,[.a (ZT 0 1 2 3 g_)],(Yh 0 1 2 3 g_ []),[],4,.O r,[],[]⟩:=by
 refine Zs func181 rfl (fun E F w=>?_)
 unfold DD at h
 refine wO J 9 h fun x1 c h=>Ue J oB c ?_
 refine wO J 7 h fun x2 d h=>Z9 J rB d (Xj J [] oB true d (wa J 6 (ZB (σ:=(List Bool)) (fun st=>(ZaM g_ st [(1,.B 4 0),(3,.S 5)])) (fun st=>LC N g_ st=some r) ?_ (fun j1=>?_))))
 ·intro e h
  replace h:LC N g_ e=some r:=h
  unfold LC at h
  refine wO J 3 h fun f g h=>Zn (ZqD N g_ _ g) [] [(0,.sl 0),(1,.sl 1),(2,.sl 2),(3,.sl 3)] (wa J 7 (ZB (σ:=Unit) (fun st=>⟨[(1,.B 4 0)],[(4,.box (ZT 0 1 2 3 g_) 27)],(Yh 0 1 2 3 g_ []),8⟩) (fun st=>Qw N g_=some r) ?_ (fun j12=>?_)))
  ·intro _ h
   replace h:Qw N g_=some r:=h
   unfold Qw at h
   refine wO J 5 h fun i j h=>Zn (ZlG N g_ g_.End _ j) [] [(0,.sl 0),(1,.sl 1),(2,.sl 2),(3,.sl 3)] ?_
   cases h
   exact wr J 4 func181 []
  refine wa J 1 (ZF (σ:=Int) (fun st=>⟨[(1,.B 4 0),(3,.S 5),(6,.S 7),(7,.I st)],[(4,.box (ZT 0 1 2 3 g_) 27),(5,.own rB e true),(7,.own (rI .i64) f true)],(Yh 0 1 2 3 g_ []),8⟩) (fun n st=>RV N g_ e f n st) (r:=r) (fun _=>rfl) ?_ (fun ih=>?_))
  ·intro n9 ih14
   intro k h
   replace h:RV N g_ e f (n9+1) k=some r:=h
   unfold RV at h
   refine Zo J 8 h (fun h=>wa J 2 (Zj [] (j12 () h))) fun h=>?_
   refine wO J 8 h fun l m h=>Z9 J rB m (YJ J oB m ?_)
   refine wB J 2 h (fun h=>?_) fun h=>?_
   ·cases h
    exact wr J 12 func181 []
   refine wO J 2 h fun o p h=>Z9 J (rI .i64) p (YJ J (oI .i64) p ?_)
   refine wB J 3 h (fun h=>?_) fun h=>wa J 8 (Zj [] (ih14 (Zi (k+1)) h))
   cases h
   exact wr J 5 func181 []
  exact Zj [] (ih N 0 h)
 refine wa J 1 (ZF (σ:=(List Bool) × Int) (fun st=>(ZaM g_ st.1 [(1,.B 4 0),(3,.S 5),(4,.I st.2)])) (fun n st=>VC N g_ n st.1 st.2) (r:=r) (fun _=>rfl) ?_ (fun ih=>?_))
 ·intro n14 ih15
  rintro ⟨q,s⟩ h
  replace h:VC N g_ (n14+1) q s=some r:=h
  unfold VC at h
  refine Zo J 8 h (fun h=>wa J 2 (Zj [] (j1 q h))) fun h=>wa J 8 (ZB (σ:=(List Bool)) (fun st=>(ZaM g_ st [(1,.B 4 0),(3,.S 5),(4,.I s)])) (fun st=>Hg s (VC N g_ n14) st=some r) ?_ (fun j22=>?_))
  ·intro t h
   replace h:Hg s (VC N g_ n14) t=some r:=h
   unfold Hg at h
   exact wa J 6 (Zj [] (ih15 (t,(Zi (s+1))) h))
  refine wa J 1 (ZF (σ:=(List Bool) × Int) (fun st=>(ZaM g_ st.1 [(1,.B 4 0),(3,.S 5),(4,.I s),(5,.I st.2)])) (fun n st=>U1 g_ s (VC N g_ n14) n st.1 st.2) (r:=r) (fun _=>rfl) ?_ (fun ih=>?_))
  ·intro n16 ih24
   rintro ⟨u,v⟩ h
   replace h:U1 g_ s (VC N g_ n14) (n16+1) u v=some r:=h
   unfold U1 at h
   refine Zo J 9 h (fun h=>wa J 2 (Zj [] (j22 u h))) fun h=>?_
   refine wO J 9 h fun x y h=>Zq J XX y ?_
   refine wO J 6 h fun z A h=>Zq J XX A ?_
   refine wO J 2 h fun C D h=>Z9 J rB D (YJ J oB D ?_)
   refine wB J 1 h (fun h=>?_) fun h=>?_
   ·exact wO J 10 h fun G H h=>Z9 J rB H (Xj J [] oB true H (ZA (wa J 6 (Zj [] (ih24 ((ZW u x.To true),(Zi (v+1))) h)))))
   refine wO J 4 h fun R T h=>Zq J XX T ?_
   refine wO J 2 h fun U X h=>Z9 J rB X (YJ J oB X ?_)
   exact wO J 1 h fun Y Z h=>Z9 J rB Z (Xj J [] oB U Z (ZA (wa J 6 (Zj [] (ih24 ((ZW u x.To U),(Zi (v+1))) h)))))
  exact Zj [] (ih N (q,0) h)
 exact Zj [] (ih N ((ZW x1 g_.Start true),0) h)
theorem Zo5 (N:Nat) (g_:T5) (r:Bool) (h:DN N g_=some r) :
 Fn Tryz.prog 182 ⟨4,[.a (ZT 0 1 2 3 g_)],(Yh 0 1 2 3 g_ []),[],4,.O r,[],[]⟩:=by
 refine Zs func182 rfl (fun E F w=>?_)
 unfold DN at h
 refine wa J 10 (ZB (σ:=Unit) (fun st=>(MX g_ [])) (fun st=>Gt=some r) ?_ (fun j1=>?_))
 ·intro _ h
  replace h:Gt=some r:=h
  unfold Gt at h
  cases h
  exact wr J 4 func182 []
 refine wa J 1 (ZF (σ:=Int) (fun st=>(Ty g_ [(1,.B 4 0),(3,.I st)])) (fun n st=>Ux N g_ n st) (r:=r) (fun _=>rfl) ?_ (fun ih=>?_))
 ·intro n2 ih3
  intro c h
  replace h:Ux N g_ (n2+1) c=some r:=h
  unfold Ux at h
  refine Zo J 9 h (fun h=>wa J 2 (Zj [] (j1 () h))) fun h=>?_
  refine wO J 9 h fun d e h=>Zq J Uv e ?_
  refine wO J 9 h fun f g h=>Zn (Gr N g_ d.State _ g) [] [(0,.sl 0),(1,.sl 1),(2,.sl 2),(3,.sl 3)] ?_
  refine wB J 2 h (fun h=>wa J 59 (ZA ?_)) fun h=>?_
  ·cases h
   exact wr J 5 func182 []
  refine Zo J 3 h (fun h=>?_) fun h=>?_
  ·refine wB J 18 h (fun h=>wa J 38 (ZA ?_)) fun h=>?_
   ·cases h
    exact wr J 5 func182 []
   refine wB J 5 h (fun h=>wa J 33 (ZA ?_)) fun h=>?_
   ·cases h
    exact wr J 5 func182 []
   refine wB J 5 h (fun h=>wa J 28 (ZA ?_)) fun h=>?_
   ·cases h
    exact wr J 5 func182 []
   refine wB J 8 h (fun h=>wa J 20 (ZA ?_)) fun h=>?_
   ·cases h
    exact wr J 5 func182 []
   refine wO J 4 h fun i j h=>Zq J XX j ?_
   refine wB J 7 h (fun h=>wa J 8 (ZA ?_)) fun h=>?_
   ·cases h
    exact wr J 5 func182 []
   refine wO J 4 h fun k l h=>Zq J XX l (wa J 3 (ZA ?_))
   refine eB h (fun h=>?_) fun h=>wa J 8 (Zj [] (ih3 (Zi (c+1)) h))
   cases h
   exact wr J 5 func182 []
  refine wO J 6 h fun m o h=>Zq J Uv o ?_
  refine wB J 6 h (fun h=>wa J 43 (ZA ?_)) fun h=>?_
  ·cases h
   exact wr J 5 func182 []
  refine wB J 5 h (fun h=>wa J 38 (ZA ?_)) fun h=>?_
  ·cases h
   exact wr J 5 func182 []
  refine wB J 5 h (fun h=>wa J 33 (ZA ?_)) fun h=>?_
  ·cases h
   exact wr J 5 func182 []
  refine wB J 5 h (fun h=>wa J 28 (ZA ?_)) fun h=>?_
  ·cases h
   exact wr J 5 func182 []
  refine wB J 8 h (fun h=>wa J 20 (ZA ?_)) fun h=>?_
  ·cases h
   exact wr J 5 func182 []
  refine wO J 4 h fun p q h=>Zq J XX q ?_
  refine wB J 7 h (fun h=>wa J 8 (ZA ?_)) fun h=>?_
  ·cases h
   exact wr J 5 func182 []
  refine wO J 4 h fun s t h=>Zq J XX t (wa J 3 (ZA ?_))
  refine eB h (fun h=>?_) fun h=>wa J 8 (Zj [] (ih3 (Zi (c+1)) h))
  cases h
  exact wr J 5 func182 []
 exact Zj [] (ih N 0 h)
theorem Zp2 (N:Nat) (g_:T5) (r:Bool) (h:LP N g_=some r) :
 Fn Tryz.prog 102 ⟨4,[.a (ZT 0 1 2 3 g_)],(Yh 0 1 2 3 g_ []),[],4,.O r,[],[]⟩:=by
 refine Zs func102 rfl (fun E F w=>?_)
 unfold LP at h
 refine wO J 8 h fun x1 c h=>Zn (Zp4 N g_ _ c) [] [(0,.sl 0),(1,.sl 1),(2,.sl 2),(3,.sl 3)] ?_
 refine Zo J 1 h (fun h=>?_) fun h=>?_
 ·cases h
  exact wr J 17 func102 []
 refine wO J 1 h fun x2 d h=>Zn (Zo1 N g_ _ d) [] [(0,.sl 0),(1,.sl 1),(2,.sl 2),(3,.sl 3)] ?_
 refine Zo J 2 h (fun h=>?_) fun h=>?_
 ·cases h
  exact wr J 13 func102 []
 refine wO J 1 h fun x3 e h=>Zn (Zmq N g_ _ e) [] [(0,.sl 0),(1,.sl 1),(2,.sl 2),(3,.sl 3)] ?_
 refine Zo J 2 h (fun h=>?_) fun h=>?_
 ·cases h
  exact wr J 9 func102 []
 refine wO J 1 h fun x4 f h=>Zn (ZpY N g_ _ f) [] [(0,.sl 0),(1,.sl 1),(2,.sl 2),(3,.sl 3)] ?_
 refine Zo J 2 h (fun h=>?_) fun h=>?_
 ·cases h
  exact wr J 5 func102 []
 refine wO J 1 h fun x5 g h=>Zn (Zo5 N g_ _ g) [] [(0,.sl 0),(1,.sl 1),(2,.sl 2),(3,.sl 3)] ?_
 cases h
 exact wr J 3 func102 []
theorem Zov (N:Nat) (m_:T8) (r:Bool) (h:G2 N m_=some r) :
 Fn Tryz.prog 183 ⟨3,[.a (ZX 0 1 2 m_)],(ZZ 0 1 2 m_ []),[],3,.O r,[],[]⟩:=by
 refine Zs func183 rfl (fun E F w=>?_)
 unfold G2 at h
 refine wB J 12 h (fun h=>?_) fun h=>?_
 ·cases h
  exact wr J 46 func183 []
 refine wB J 5 h (fun h=>?_) fun h=>?_
 ·cases h
  exact wr J 41 func183 []
 refine wB J 5 h (fun h=>?_) fun h=>?_
 ·cases h
  exact wr J 36 func183 []
 refine wB J 5 h (fun h=>?_) fun h=>?_
 ·cases h
  exact wr J 31 func183 []
 refine wB J 5 h (fun h=>?_) fun h=>?_
 ·cases h
  exact wr J 26 func183 []
 refine wB J 7 h (fun h=>?_) fun h=>?_
 ·cases h
  exact wr J 19 func183 []
 refine wB J 8 h (fun h=>?_) fun h=>?_
 ·cases h
  exact wr J 11 func183 []
 refine wB J 6 h (fun h=>?_) fun h=>wa J 7 (ZB (σ:=Unit) (fun st=>(He m_ [])) (fun st=>Zap=some r) ?_ (fun j1=>?_))
 ·cases h
  exact wr J 5 func183 []
 ·intro _ h
  replace h:Zap=some r:=h
  unfold Zap at h
  cases h
  exact wr J 4 func183 []
 refine wa J 1 (ZF (σ:=Int) (fun st=>(De m_ [(1,.B 3 0),(3,.I st)])) (fun n st=>SG m_ n st) (r:=r) (fun _=>rfl) ?_ (fun ih=>?_))
 ·intro n2 ih3
  intro c h
  replace h:SG m_ (n2+1) c=some r:=h
  unfold SG at h
  refine Zo J 9 h (fun h=>wa J 2 (Zj [] (j1 () h))) fun h=>?_
  refine wO J 9 h fun x9 d h=>Zq J YH d ?_
  refine wB J 10 h (fun h=>?_) fun h=>?_
  ·cases h
   exact wr J 51 func183 []
  refine wB J 7 h (fun h=>?_) fun h=>?_
  ·cases h
   exact wr J 44 func183 []
  refine wB J 5 h (fun h=>?_) fun h=>?_
  ·cases h
   exact wr J 39 func183 []
  refine wB J 7 h (fun h=>?_) fun h=>?_
  ·cases h
   exact wr J 32 func183 []
  refine wB J 5 h (fun h=>?_) fun h=>?_
  ·cases h
   exact wr J 27 func183 []
  refine wB J 5 h (fun h=>?_) fun h=>?_
  ·cases h
   exact wr J 22 func183 []
  refine wB J 7 h (fun h=>?_) fun h=>?_
  ·cases h
   exact wr J 15 func183 []
  refine wB J 5 h (fun h=>?_) fun h=>?_
  ·cases h
   exact wr J 10 func183 []
  refine wB J 5 h (fun h=>?_) fun h=>wa J 8 (Zj [] (ih3 (Zi (c+1)) h))
  cases h
  exact wr J 5 func183 []
 exact Zj [] (ih N 0 h)
theorem ZrK (N:Nat) (m_:T8) (r:Bool) (h:DF N m_=some r) :
 Fn Tryz.prog 184 ⟨3,[.a (ZX 0 1 2 m_)],(ZZ 0 1 2 m_ []),[],3,.O r,[],[]⟩:=by
 refine Zs func184 rfl (fun E F w=>?_)
 unfold DF at h
 refine wa J 10 (ZB (σ:=Unit) (fun st=>(He m_ [])) (fun st=>ZbB=some r) ?_ (fun j1=>?_))
 ·intro _ h
  replace h:ZbB=some r:=h
  unfold ZbB at h
  cases h
  exact wr J 4 func184 []
 refine wa J 1 (ZF (σ:=Int) (fun st=>(De m_ [(1,.B 3 0),(3,.I st)])) (fun n st=>Xp N m_ n st) (r:=r) (fun _=>rfl) ?_ (fun ih=>?_))
 ·intro n12 ih33
  intro c h
  replace h:Xp N m_ (n12+1) c=some r:=h
  unfold Xp at h
  refine Zo J 9 h (fun h=>wa J 2 (Zj [] (j1 () h))) fun h=>?_
  refine wO J 9 h fun d e h=>Zq J YH e ?_
  refine wa J 10 (ZB (σ:=Bool) (fun st=>⟨[(1,.B 3 0),(3,.I c),(4,.B 5 0),(40,.O st)],[(3,.box (ZX 0 1 2 m_) 31),(5,.box (UF d) 52)],(ZZ 0 1 2 m_ []),6⟩) (fun st=>Ry N m_ c (Xp N m_ n12) d st=some r) ?_ (fun j54=>?_))
  ·intro f h
   replace h:Ry N m_ c (Xp N m_ n12) d f=some r:=h
   unfold Ry at h
   refine eB h (fun h=>?_) fun h=>wa J 6 (ZB (σ:=Unit) (fun st=>⟨[(1,.B 3 0),(3,.I c)],[(3,.box (ZX 0 1 2 m_) 31)],(ZZ 0 1 2 m_ []),6⟩) (fun st=>HZ c (Xp N m_ n12)=some r) ?_ (fun j55=>?_))
   ·cases h
    exact wr J 5 func184 []
   ·intro _ h
    replace h:HZ c (Xp N m_ n12)=some r:=h
    unfold HZ at h
    exact wa J 6 (Zj [] (ih33 (Zi (c+1)) h))
   refine wa J 1 (ZF (σ:=Int) (fun st=>⟨[(1,.B 3 0),(3,.I c),(4,.B 5 0),(5,.I st)],[(3,.box (ZX 0 1 2 m_) 31),(5,.box (UF d) 52)],(ZZ 0 1 2 m_ []),6⟩) (fun n st=>Wx m_ c (Xp N m_ n12) d n st) (r:=r) (fun _=>rfl) ?_ (fun ih=>?_))
   ·intro n14 ih60
    intro g h
    replace h:Wx m_ c (Xp N m_ n12) d (n14+1) g=some r:=h
    unfold Wx at h
    refine Zo J 9 h (fun h=>wa J 2 (Zj [] (j55 () h))) fun h=>?_
    refine wO J 9 h fun i j h=>Zq J YH j ?_
    refine wa J 11 (ZB (σ:=Bool) (fun st=>⟨[(1,.B 3 0),(3,.I c),(4,.B 5 0),(5,.I g),(6,.B 7 0),(87,.O st)],[(3,.box (ZX 0 1 2 m_) 31),(5,.box (UF d) 52),(7,.box (UF i) 52)],(ZZ 0 1 2 m_ []),8⟩) (fun st=>Ta d g (Wx m_ c (Xp N m_ n12) d n14) i st=some r) ?_ (fun j63=>?_))
    ·intro k h
     replace h:Ta d g (Wx m_ c (Xp N m_ n12) d n14) i k=some r:=h
     unfold Ta at h
     refine eB h (fun h=>?_) fun h=>?_
     ·cases h
      exact wr J 5 func184 []
     refine Zo J 7 h (fun h=>wa J 27 (Zj [] (ih60 (Zi (g+1)) h))) fun h=>?_
     refine Zo J 7 h (fun h=>wa J 20 (Zj [] (ih60 (Zi (g+1)) h))) fun h=>?_
     refine wB J 4 h (fun h=>?_) fun h=>?_
     ·cases h
      exact wr J 13 func184 []
     refine wB J 8 h (fun h=>?_) fun h=>wa J 8 (Zj [] (ih60 (Zi (g+1)) h))
     cases h
     exact wr J 5 func184 []
    refine VH h (fun h=>wa J 32 (Zj [] (j63 false h))) fun h=>?_
    refine Zo J 7 h (fun h=>wa J 25 (Zj [] (j63 false h))) fun h=>?_
    refine wB J 6 h (fun h=>wa J 19 (Zj [] (j63 true h))) fun h=>?_
    refine Zo J 6 h (fun h=>wa J 13 (Zj [] (j63 d.Again h))) fun h=>?_
    exact wB J 8 h (fun h=>wa J 5 (Zj [] (j63 true h))) fun h=>wa J 5 (Zj [] (j63 d.Again h))
   exact Zj [] (ih N 0 h)
  refine VH h (fun h=>wa J 20 (Zj [] (j54 false h))) fun h=>?_
  refine wB J 4 h (fun h=>wa J 16 (Zj [] (j54 true h))) fun h=>?_
  refine wB J 7 h (fun h=>wa J 9 (Zj [] (j54 true h))) fun h=>?_
  exact wO J 4 h fun l m h=>Zq J oB m (wa J 4 (Zj [] (j54 l h)))
 exact Zj [] (ih N 0 h)
theorem Zod (N:Nat) (m_:T8) (r:Bool) (h:Dm N m_=some r) :
 Fn Tryz.prog 185 ⟨3,[.a (ZX 0 1 2 m_)],(ZZ 0 1 2 m_ []),[],3,.O r,[],[]⟩:=by
 refine Zs func185 rfl (fun E F w=>?_)
 unfold Dm at h
 refine wa J 10 (ZB (σ:=Unit) (fun st=>(He m_ [])) (fun st=>Zbf=some r) ?_ (fun j1=>?_))
 ·intro _ h
  replace h:Zbf=some r:=h
  unfold Zbf at h
  cases h
  exact wr J 4 func185 []
 refine wa J 1 (ZF (σ:=Int) (fun st=>(De m_ [(1,.B 3 0),(3,.I st)])) (fun n st=>Wm m_ n st) (r:=r) (fun _=>rfl) ?_ (fun ih=>?_))
 ·intro n2 ih6
  intro c h
  replace h:Wm m_ (n2+1) c=some r:=h
  unfold Wm at h
  refine Zo J 9 h (fun h=>wa J 2 (Zj [] (j1 () h))) fun h=>?_
  refine wO J 9 h fun d e h=>Zq J Uv e ?_
  refine wa J 11 (ZB (σ:=Bool) (fun st=>⟨[(1,.B 3 0),(3,.I c),(4,.B 5 0),(54,.O st)],[(3,.box (ZX 0 1 2 m_) 31),(5,.box (GK d) 54)],(ZZ 0 1 2 m_ []),6⟩) (fun st=>Us m_ c (Wm m_ n2) d st=some r) ?_ (fun j9=>?_))
  ·intro f h
   replace h:Us m_ c (Wm m_ n2) d f=some r:=h
   unfold Us at h
   refine eB h (fun h=>?_) fun h=>?_
   ·cases h
    exact wr J 5 func185 []
   refine wO J 8 h fun g i h=>Zq J YH i ?_
   refine wB J 12 h (fun h=>?_) fun h=>?_
   ·cases h
    exact wr J 14 func185 []
   refine wB J 5 h (fun h=>?_) fun h=>?_
   ·cases h
    exact wr J 9 func185 []
   refine wB J 4 h (fun h=>?_) fun h=>wa J 8 (Zj [] (ih6 (Zi (c+1)) h))
   cases h
   exact wr J 5 func185 []
  refine eB h (fun h=>wa J 33 (ZA (Zj [] (j9 true h)))) fun h=>?_
  refine wB J 5 h (fun h=>wa J 28 (ZA (Zj [] (j9 true h)))) fun h=>?_
  refine wB J 5 h (fun h=>wa J 23 (ZA (Zj [] (j9 true h)))) fun h=>?_
  refine wB J 8 h (fun h=>wa J 15 (ZA (Zj [] (j9 true h)))) fun h=>?_
  refine Zo J 3 h (fun h=>wa J 12 (ZA (Zj [] (j9 false h)))) fun h=>?_
  exact wO J 6 h fun j k h=>Zq J Uv k (wa J 5 (ZA (Zj [] (j9 (decide (d.State≤j.State)) h))))
 exact Zj [] (ih N 0 h)
theorem ZsP (N:Nat) (l_:(List Int)) (n_:Int) (r:Bool) (h:DX N l_ n_=some r) :
 Fn Tryz.prog 239 ⟨1,[.S 0,.I n_],[(0,.sl (rI .i64) l_)],[],1,.O r,[],[]⟩:=by
 refine Zs func239 rfl (fun E F w=>?_)
 unfold DX at h
 refine wa J 9 (ZB (σ:=Unit) (fun st=>(PA l_ [])) (fun st=>Zbl=some r) ?_ (fun j1=>?_))
 ·intro _ h
  replace h:Zbl=some r:=h
  unfold Zbl at h
  cases h
  exact wr J 4 func239 []
 refine wa J 1 (ZF (σ:=Int) (fun st=>(PA l_ [(0,.S 0),(1,.I n_),(5,.I st)])) (fun n st=>Uf l_ n_ n st) (r:=r) (fun _=>rfl) ?_ (fun ih=>?_))
 ·intro n2 ih3
  intro c h
  replace h:Uf l_ n_ (n2+1) c=some r:=h
  unfold Uf at h
  refine Zo J 8 h (fun h=>wa J 2 (Zj [] (j1 () h))) fun h=>?_
  refine wO J 8 h fun x9 d h=>Zq J (oI .i64) d ?_
  refine wB J 4 h (fun h=>?_) fun h=>wa J 8 (Zj [] (ih3 (Zi (c+1)) h))
  cases h
  exact wr J 5 func239 []
 exact Zj [] (ih N 0 h)
theorem Zsf (N:Nat) (l_:(List Int)) (n_:Int) (r:(List Int)) (h:L3 N l_ n_=some r) :
 Fn Tryz.prog 240 ⟨1,[.S 0,.I n_],[(0,.sl (rI .i64) l_)],[],2,.S 1,[],[(1,.own (rI .i64) r true)]⟩:=by
 refine Zs func240 rfl (fun E F w=>?_)
 unfold L3 at h
 refine wa J 17 (ZB (σ:=(List Int) × Bool) (fun st=>(BM st.1 l_ [(1,.I n_),(5,.S 1),(6,.O st.2)])) (fun st=>Hk n_ st.1 st.2=some r) ?_ (fun j1=>?_))
 ·rintro ⟨c,d⟩ h
  replace h:Hk n_ c d=some r:=h
  unfold Hk at h
  refine Zo J 6 h (fun h=>?_) fun h=>wa J 4 (Z8 J [] (oI .i64) ([n_]:List Int) ?_)
  ·cases h
   exact wr J 7 func240 [(1,.sl 1)]
  obtain ⟨e,f,h⟩:=ob h
  refine Yr J (rI .i64) f ?_
  cases h
  exact wr J 7 func240 [(1,.sl 3)]
 refine wa J 1 (ZF (σ:=(List Int) × Bool × Int) (fun st=>(BM st.1 l_ [(0,.S 0),(1,.I n_),(5,.S 1),(6,.O st.2.1),(7,.I st.2.2)])) (fun n st=>UZ l_ n_ n st.1 st.2.1 st.2.2) (r:=r) (fun _=>rfl) ?_ (fun ih=>?_))
 ·intro n2 ih3
  rintro ⟨g,i,j⟩ h
  replace h:UZ l_ n_ (n2+1) g i j=some r:=h
  unfold UZ at h
  refine Zo J 8 h (fun h=>wa J 2 (Zj [] (j1 (g,i) h))) fun h=>?_
  refine Zo J 10 h (fun h=>?_) fun h=>?_
  ·refine wO J 14 h fun k l h=>Zq J (oI .i64) l (wa J 1 (Z8 J [] (oI .i64) ([k]:List Int) ?_))
   obtain ⟨m,o,h⟩:=ob h
   exact Yr J (rI .i64) o (wa J 8 (Zj [(1,.sl 4)] (ih3 (m,i,(Zi (j+1))) h)))
  refine wO J 2 h fun p q h=>Zq J (oI .i64) q ?_
  refine Zo J 5 h (fun h=>?_) fun h=>?_
  ·refine wO J 6 h fun s t h=>Zq J (oI .i64) t (wa J 1 (Z8 J [] (oI .i64) ([s]:List Int) ?_))
   obtain ⟨u,v,h⟩:=ob h
   exact Yr J (rI .i64) v (wa J 8 (Zj [(1,.sl 5)] (ih3 (u,i,(Zi (j+1))) h)))
  refine wO J 6 h fun x y h=>Zq J (oI .i64) y ?_
  refine Zo J 4 h (fun h=>?_) fun h=>wa J 4 (Z8 J [] (oI .i64) ([n_]:List Int) ?_)
  ·refine wO J 9 h fun z A h=>Zq J (oI .i64) A (wa J 1 (Z8 J [] (oI .i64) ([z]:List Int) ?_))
   obtain ⟨C,D,h⟩:=ob h
   exact Yr J (rI .i64) D (wa J 8 (Zj [(1,.sl 6)] (ih3 (C,true,(Zi (j+1))) h)))
  obtain ⟨G,H,h⟩:=ob h
  refine Yr J (rI .i64) H ?_
  refine wO J 9 h fun R T h=>Zq J (oI .i64) T (wa J 1 (Z8 J [] (oI .i64) ([R]:List Int) ?_))
  obtain ⟨U,X,h⟩:=ob h
  exact Yr J (rI .i64) X (wa J 8 (Zj [(1,.sl 8)] (ih3 (U,true,(Zi (j+1))) h)))
 exact Zj [(1,.nil)] (ih N (([]:List Int),false,0) h)
theorem ZkK (N:Nat) (m_:T8) (r:(List Int)) (h:Bu N m_=some r) :
 Fn Tryz.prog 186 ⟨3,[.a (ZX 0 1 2 m_)],(ZZ 0 1 2 m_ []),[],4,.S 3,[],[(3,.own (rI .i64) r true)]⟩:=by
 refine Zs func186 rfl (fun E F w=>?_)
 unfold Bu at h
 refine wa J 9 (Z8 J [] (oI .i64) ([m_.Start]:List Int) (wa J 7 (ZB (σ:=(List Int)) (fun st=>⟨[(3,.S 5)],[(5,.own (rI .i64) st true)],(ZZ 0 1 2 m_ []),6⟩) (fun st=>ZbS st=some r) ?_ (fun j1=>?_))))
 ·intro c h
  replace h:ZbS c=some r:=h
  unfold ZbS at h
  cases h
  exact wr J 5 func186 [(3,.sl 5)]
 refine wa J 1 (ZF (σ:=(List Int) × Int) (fun st=>⟨[(1,.B 3 0),(3,.S 5),(4,.I st.2)],[(3,.box (ZX 0 1 2 m_) 31),(5,.own (rI .i64) st.1 true)],(ZZ 0 1 2 m_ []),6⟩) (fun n st=>Vp N m_ n st.1 st.2) (r:=r) (fun _=>rfl) ?_ (fun ih=>?_))
 ·intro n12 ih12
  rintro ⟨d,e⟩ h
  replace h:Vp N m_ (n12+1) d e=some r:=h
  unfold Vp at h
  refine Zo J 8 h (fun h=>wa J 2 (Zj [] (j1 d h))) fun h=>wa J 8 (ZB (σ:=(List Int)) (fun st=>⟨[(1,.B 3 0),(3,.S 6),(4,.I e)],[(3,.box (ZX 0 1 2 m_) 31),(6,.own (rI .i64) st true)],(ZZ 0 1 2 m_ []),7⟩) (fun st=>ZaE e (Vp N m_ n12) st=some r) ?_ (fun j19=>?_))
  ·intro f h
   replace h:ZaE e (Vp N m_ n12) f=some r:=h
   unfold ZaE at h
   exact wa J 6 (Zj [(5,.sl 6)] (ih12 (f,(Zi (e+1))) h))
  refine wa J 1 (ZF (σ:=(List Int) × Int) (fun st=>⟨[(1,.B 3 0),(3,.S 6),(4,.I e),(5,.I st.2)],[(3,.box (ZX 0 1 2 m_) 31),(6,.own (rI .i64) st.1 true)],(ZZ 0 1 2 m_ []),7⟩) (fun n st=>Sg N m_ e (Vp N m_ n12) n st.1 st.2) (r:=r) (fun _=>rfl) ?_ (fun ih=>?_))
  ·intro n14 ih21
   rintro ⟨g,i⟩ h
   replace h:Sg N m_ e (Vp N m_ n12) (n14+1) g i=some r:=h
   unfold Sg at h
   refine Zo J 9 h (fun h=>wa J 2 (Zj [] (j19 g h))) fun h=>?_
   refine wO J 10 h fun j k h=>Zq J YH k ?_
   refine wO J 2 h fun l m h=>Xe (ZsP N g j.From _ m) [] [(0,.sl 6)] [6] (.inr ⟨rfl,trivial⟩) ?_
   refine Zo J 1 h (fun h=>wa J 8 (Zj [] (ih21 (g,(Zi (i+1))) h))) fun h=>?_
   refine wO J 6 h fun o p h=>Zq J YH p ?_
   exact wO J 2 h fun q s h=>Xe (Zsf N g o.To _ s) [] [(0,.sl 6)] [6] (.inr ⟨rfl,⟨(Zcr _),trivial⟩⟩) (wa J 8 (Zj [(6,.sl 9)] (ih21 (q,(Zi (i+1))) h)))
  exact Zj [(6,.sl 5)] (ih N (d,0) h)
 exact Zj [(5,.sl 4)] (ih N (([m_.Start]:List Int),0) h)
theorem ZiG (N:Nat) (m_:T8) (r:Bool) (h:TO N m_=some r) :
 Fn Tryz.prog 103 ⟨3,[.a (ZX 0 1 2 m_)],(ZZ 0 1 2 m_ []),[],3,.O r,[],[]⟩:=by
 refine Zs func103 rfl (fun E F w=>?_)
 unfold TO at h
 refine wO J 8 h fun x1 c h=>Zn (Zov N m_ _ c) [] [(0,.sl 0),(1,.sl 1),(2,.sl 2)] ?_
 refine Zo J 1 h (fun h=>wa J 16 (ZA ?_)) fun h=>?_
 ·cases h
  exact Z4 J func103 []
 refine wO J 1 h fun x2 d h=>Zn (ZrK N m_ _ d) [] [(0,.sl 0),(1,.sl 1),(2,.sl 2)] ?_
 refine Zo J 2 h (fun h=>wa J 12 (ZA ?_)) fun h=>?_
 ·cases h
  exact Z4 J func103 []
 refine wO J 1 h fun x3 e h=>Zn (Zod N m_ _ e) [] [(0,.sl 0),(1,.sl 1),(2,.sl 2)] ?_
 refine Zo J 2 h (fun h=>wa J 8 (ZA ?_)) fun h=>?_
 ·cases h
  exact Z4 J func103 []
 refine wO J 1 h fun x4 f h=>Zn (ZkK N m_ _ f) [] [(0,.sl 0),(1,.sl 1),(2,.sl 2)] (wa J 6 (ZA ?_))
 cases h
 exact Z4 J func103 []
theorem Zdm (N:Nat) (g_:T5) (m_:T8) (r:Bool) (h:z51 N g_ m_=some r) :
 Fn Tryz.prog 51 ⟨7,[.a (ZT 0 1 2 3 g_),.a (ZX 4 5 6 m_)],((0,.sl rS g_.Roles)::(1,.sl ZL g_.Decls)::(2,.sl Yf g_.Edges)::(3,.sl Z2 g_.Timeouts)::ZZ 4 5 6 m_ []),[],7,.O r,[],[]⟩:=by
 refine Zs func51 rfl (fun E F w=>?_)
 unfold z51 at h
 refine wO J 10 h fun x1 c h=>Zn (Zp2 N g_ _ c) [] [(0,.sl 0),(1,.sl 1),(2,.sl 2),(3,.sl 3)] ?_
 refine wB J 2 h (fun h=>?_) fun h=>?_
 ·cases h
  exact wr J 18 func51 []
 refine wO J 1 h fun x2 d h=>Zn (ZiG N m_ _ d) [] [(0,.sl 4),(1,.sl 5),(2,.sl 6)] ?_
 refine wB J 3 h (fun h=>?_) fun h=>?_
 ·cases h
  exact wr J 13 func51 []
 refine wB J 8 h (fun h=>?_) fun h=>wa J 7 (ZB (σ:=Unit) (fun st=>⟨[],[],((0,.sl rS g_.Roles)::(1,.sl ZL g_.Decls)::(2,.sl Yf g_.Edges)::(3,.sl Z2 g_.Timeouts)::ZZ 4 5 6 m_ []),9⟩) (fun st=>B5=some r) ?_ (fun j1=>?_))
 ·cases h
  exact wr J 5 func51 []
 ·intro _ h
  replace h:B5=some r:=h
  unfold B5 at h
  cases h
  exact wr J 4 func51 []
 refine wa J 1 (ZF (σ:=Int) (fun st=>⟨[(2,.B 7 0),(3,.B 8 0),(5,.I st)],[(7,.box (ZT 0 1 2 3 g_) 27),(8,.box (ZX 4 5 6 m_) 31)],((0,.sl rS g_.Roles)::(1,.sl ZL g_.Decls)::(2,.sl Yf g_.Edges)::(3,.sl Z2 g_.Timeouts)::ZZ 4 5 6 m_ []),9⟩) (fun n st=>SM g_ m_ n st) (r:=r) (fun _=>rfl) ?_ (fun ih=>?_))
 ·intro n2 ih3
  intro e h
  replace h:SM g_ m_ (n2+1) e=some r:=h
  unfold SM at h
  refine Zo J 9 h (fun h=>wa J 2 (Zj [] (j1 () h))) fun h=>?_
  refine wO J 9 h fun f g h=>Zq J YH g ?_
  refine wB J 7 h (fun h=>wa J 11 (ZA ?_)) fun h=>?_
  ·cases h
   exact wr J 5 func51 []
  refine wO J 3 h fun i j h=>Zq J YH j (wa J 7 (ZA ?_))
  refine eB h (fun h=>?_) fun h=>wa J 8 (Zj [] (ih3 (Zi (e+1)) h))
  cases h
  exact wr J 5 func51 []
 exact Zj [] (ih N 0 h)
theorem Zmy (N:Nat) (decls_:(List T0)) (r:(List Zm)) (h:Ho N decls_=some r) :
 Fn Tryz.prog 67 ⟨1,[.S 0],[(0,.sl ZL decls_)],[],2,.S 1,[],[(1,.own ZD r true)]⟩:=by
 refine Zs func67 rfl (fun E F w=>?_)
 unfold Ho at h
 refine wO J 7 h fun x1 c h=>Zn (GP N decls_ _ c) [] [(0,.sl 0)] ?_
 obtain ⟨x2,d,h⟩:=ob h
 refine Ue J Z5 d ?_
 cases h
 exact wr J 2 func67 [(1,.sl 1)]
theorem ZiL (N:Nat) (g_:T5) (m_:T8) (r:ZJ) (h:Vc N g_ m_=some r) :
 Fn Tryz.prog 33 ⟨7,[.a (ZT 0 1 2 3 g_),.a (ZX 4 5 6 m_)],((0,.sl rS g_.Roles)::(1,.sl ZL g_.Decls)::(2,.sl Yf g_.Edges)::(3,.sl Z2 g_.Timeouts)::ZZ 4 5 6 m_ []),[],9,.a (Xy 7 8 r),(XG 7 8 r []),[]⟩:=by
 refine Zs func33 rfl (fun E F w=>?_)
 unfold Vc at h
 refine wO J 11 h fun x1 c h=>Zn (Zdm N g_ m_ _ c) [] [(0,.sl 0),(1,.sl 1),(2,.sl 2),(3,.sl 3),(4,.sl 4),(5,.sl 5),(6,.sl 6)] ?_
 refine wB J 2 h (fun h=>?_) fun h=>?_
 ·cases h
  exact wr J 6 func33 [(7,.nil),(8,.nil)]
 refine wO J 8 h fun x2 d h=>Zn (Zmy N g_.Decls _ d) [] [(0,.sl 1)] (wa J 2 (ZA (UD [10] ?_)))
 cases h
 exact Z4 J func33 [(7,.sl 10),(8,.nil)]
theorem D5 (N:Nat) (v_:Zm) (r:Int) (h:QY N v_=some r) :
 Fn Tryz.prog 128 ⟨0,[.a (Xx v_)],[],[],0,.I r,[],[]⟩:=by
 refine Zs func128 rfl (fun E F w=>?_)
 unfold QY at h
 refine wB J 12 h (fun h=>?_) fun h=>?_
 ·cases h
  exact wr J 8 func128 []
 cases h
 exact wr J 8 func128 []
theorem Zhu (N:Nat) (s_:Yb) (v_:Zm) (r:Bool) (h:Ls N s_ v_=some r) :
 Fn Tryz.prog 139 ⟨0,[.a (UG s_),.a (Xx v_)],[],[],0,.O r,[],[]⟩:=by
 refine Zs func139 rfl (fun E F w=>?_)
 unfold Ls at h
 refine wa J 11 (ZB (σ:=Unit) (fun st=>(Zc6 s_ v_ [(2,.B 0 0),(3,.B 1 0)])) (fun st=>Q8 N s_ v_=some r) ?_ (fun j1=>?_))
 ·intro _ h
  replace h:Q8 N s_ v_=some r:=h
  unfold Q8 at h
  refine wa J 7 (ZB (σ:=Bool) (fun st=>(Zc6 s_ v_ [(2,.B 0 0),(3,.B 1 0),(42,.O st)])) (fun st=>Te N s_ v_ st=some r) ?_ (fun j3=>?_))
  ·intro c h
   replace h:Te N s_ v_ c=some r:=h
   unfold Te at h
   refine eB h (fun h=>?_) fun h=>?_
   ·cases h
    exact wr J 5 func139 []
   refine Zo J 10 h (fun h=>wa J 14 (ZA ?_)) fun h=>?_
   ·cases h
    exact Z4 J func139 []
   refine wO J 1 h fun x9 d h=>Zn (D5 N v_ _ d) [] [] ?_
   refine Zo J 5 h (fun h=>wa J 7 (ZA ?_)) fun h=>?_
   ·cases h
    exact Z4 J func139 []
   refine wO J 1 h fun e f h=>Zn (D5 N v_ _ f) [] [] (wa J 5 (ZA ?_))
   cases h
   exact Z4 J func139 []
  refine VH h (fun h=>?_) fun h=>?_
  ·exact wB J 9 h (fun h=>wa J 6 (Zj [] (j3 (!(v_.S.toList==(str []).toList)) h))) fun h=>wa J 6 (Zj [] (j3 false h))
  refine wB J 5 h (fun h=>wa J 10 (Zj [] (j3 true h))) fun h=>?_
  exact wB J 4 h (fun h=>wa J 6 (Zj [] (j3 (!(v_.S.toList==(str []).toList)) h))) fun h=>wa J 6 (Zj [] (j3 false h))
 refine wa J 1 (ZF (σ:=Int) (fun st=>(Zc6 s_ v_ [(2,.B 0 0),(3,.B 1 0),(5,.I st)])) (fun n st=>RK N s_ v_ n st) (r:=r) (fun _=>rfl) ?_ (fun ih=>?_))
 ·intro n2 ih4
  intro g h
  replace h:RK N s_ v_ (n2+1) g=some r:=h
  unfold RK at h
  refine Zo J 9 h (fun h=>wa J 2 (Zj [] (j1 () h))) fun h=>?_
  refine wO J 9 h fun i j h=>XW J j ?_
  refine wB J 2 h (fun h=>?_) fun h=>?_
  ·cases h
   exact wr J 12 func139 []
  refine wO J 3 h fun k l h=>XW J l ?_
  refine wB J 3 h (fun h=>?_) fun h=>wa J 8 (Zj [] (ih4 (Zi (g+1)) h))
  cases h
  exact wr J 5 func139 []
 exact Zj [] (ih N 0 h)
theorem ZeV (N:Nat) (decls_:(List T0)) (known_:(List Zm)) (r:Bool) (h:z66 N decls_ known_=some r) :
 Fn Tryz.prog 66 ⟨2,[.S 0,.S 1],[(0,.sl ZL decls_),(1,.sl ZD known_)],[],2,.O r,[],[]⟩:=by
 refine Zs func66 rfl (fun E F w=>?_)
 unfold z66 at h
 refine wO J 10 h fun x1 c h=>Zn (GP N decls_ _ c) [] [(0,.sl 0)] ?_
 refine wB J 2 h (fun h=>?_) fun h=>wa J 7 (ZB (σ:=Unit) (fun st=>⟨[],[],[(0,.sl ZL decls_),(1,.sl ZD known_)],2⟩) (fun st=>Bz=some r) ?_ (fun j1=>?_))
 ·cases h
  exact wr J 5 func66 []
 ·intro _ h
  replace h:Bz=some r:=h
  unfold Bz at h
  cases h
  exact wr J 4 func66 []
 refine wa J 1 (ZF (σ:=Int) (fun st=>⟨[(0,.S 0),(1,.S 1),(5,.I st)],[],[(0,.sl ZL decls_),(1,.sl ZD known_)],2⟩) (fun n st=>SK N decls_ known_ n st) (r:=r) (fun _=>rfl) ?_ (fun ih=>?_))
 ·intro n2 ih3
  intro d h
  replace h:SK N decls_ known_ (n2+1) d=some r:=h
  unfold SK at h
  refine Zo J 8 h (fun h=>wa J 2 (Zj [] (j1 () h))) fun h=>?_
  refine wO J 8 h fun e f h=>Zq J Z5 f (wa J 2 (R9 ?_))
  refine Zo J 1 h (fun h=>wa J 11 (ZA (wa J 8 (Zj [] (ih3 (Zi (d+1)) h))))) fun h=>?_
  refine wO J 2 h fun g i h=>Zn (Zjz N decls_ d _ i) [] [(0,.sl 0)] ?_
  refine wO J 3 h fun j k h=>Zq J Z5 k ?_
  refine wO J 1 h fun l m h=>Zn (Zhu N g.Sort' j _ m) [] [] (wa J 2 (ZA ?_))
  refine eB h (fun h=>?_) fun h=>wa J 8 (Zj [] (ih3 (Zi (d+1)) h))
  cases h
  exact wr J 5 func66 []
 exact Zj [] (ih N 0 h)
theorem Zjm (N:Nat) (g_:T5) (m_:T8) (s_:ZJ) (r:Bool) (h:UB N g_ m_ s_=some r) :
 Fn Tryz.prog 32 ⟨9,[.a (ZT 0 1 2 3 g_),.a (ZX 4 5 6 m_),.a (Xy 7 8 s_)],((0,.sl rS g_.Roles)::(1,.sl ZL g_.Decls)::(2,.sl Yf g_.Edges)::(3,.sl Z2 g_.Timeouts)::(4,.sl rB m_.Finals)::(5,.sl Xn m_.Moves)::(6,.sl Z2 m_.Timeouts)::XG 7 8 s_ []),[],9,.O r,[],[]⟩:=by
 refine Zs func32 rfl (fun E F w=>?_)
 unfold UB at h
 refine wO J 11 h fun x1 c h=>Zn (Zdm N g_ m_ _ c) [] [(0,.sl 0),(1,.sl 1),(2,.sl 2),(3,.sl 3),(4,.sl 4),(5,.sl 5),(6,.sl 6)] ?_
 refine Zo J 1 h (fun h=>?_) fun h=>?_
 ·cases h
  exact wr J 20 func32 []
 refine Zo J 5 h (fun h=>?_) fun h=>?_
 ·cases h
  exact wr J 15 func32 []
 refine Zo J 7 h (fun h=>?_) fun h=>?_
 ·cases h
  exact wr J 8 func32 []
 refine wO J 4 h fun x2 d h=>Zn (ZeV N g_.Decls s_.Known _ d) [] [(0,.sl 1),(1,.sl 7)] ?_
 cases h
 exact wr J 3 func32 []
theorem Zj4 (N:Nat) (m_:T8) (state_:Int) (r:Bool) (h:MQ N m_ state_=some r) :
 Fn Tryz.prog 68 ⟨3,[.a (ZX 0 1 2 m_),.I state_],(ZZ 0 1 2 m_ []),[],3,.O r,[],[]⟩:=by
 refine Zs func68 rfl (fun E F w=>?_)
 unfold MQ at h
 refine wO J 8 h fun x1 c h=>Zn (ZiG N m_ _ c) [] [(0,.sl 0),(1,.sl 1),(2,.sl 2)] ?_
 refine Zo J 1 h (fun h=>?_) fun h=>?_
 ·cases h
  exact wr J 11 func68 []
 refine wB J 4 h (fun h=>?_) fun h=>?_
 ·cases h
  exact wr J 7 func68 []
 cases h
 exact wr J 7 func68 []
theorem Zqt (N:Nat) (x_:T9) (y_:T9) (r:Bool) (h:DZ N x_ y_=some r) :
 Fn Tryz.prog 141 ⟨0,[.a (UF x_),.a (UF y_)],[],[],0,.O r,[],[]⟩:=by
 refine Zs func141 rfl (fun E F w=>?_)
 unfold DZ at h
 refine wB J 15 h (fun h=>?_) fun h=>?_
 ·cases h
  exact wr J 7 func141 []
 refine wB J 11 h (fun h=>?_) fun h=>?_
 ·cases h
  exact wr J 10 func141 []
 cases h
 exact wr J 11 func141 []
theorem ZpC (N:Nat) (m_:T8) (state_:Int) (r:(List Int)) (h:z69 N m_ state_=some r) :
 Fn Tryz.prog 69 ⟨3,[.a (ZX 0 1 2 m_),.I state_],(ZZ 0 1 2 m_ []),[],4,.S 3,[],[(3,.own (rI .i64) r true)]⟩:=by
 refine Zs func69 rfl (fun E F w=>?_)
 unfold z69 at h
 refine wa J 14 (ZB (σ:=(List Int)) (fun st=>⟨[(5,.S 4)],[(4,.own (rI .i64) st true)],(ZZ 0 1 2 m_ []),5⟩) (fun st=>ZbM st=some r) ?_ (fun j1=>?_))
 ·intro c h
  replace h:ZbM c=some r:=h
  unfold ZbM at h
  cases h
  exact wr J 5 func69 [(3,.sl 4)]
 refine wa J 1 (ZF (σ:=(List Int) × Int) (fun st=>⟨[(1,.I state_),(2,.B 3 0),(5,.S 4),(6,.I st.2)],[(3,.box (ZX 0 1 2 m_) 31),(4,.own (rI .i64) st.1 true)],(ZZ 0 1 2 m_ []),5⟩) (fun n st=>Vf N m_ state_ n st.1 st.2) (r:=r) (fun _=>rfl) ?_ (fun ih=>?_))
 ·intro n12 ih12
  rintro ⟨d,e⟩ h
  replace h:Vf N m_ state_ (n12+1) d e=some r:=h
  unfold Vf at h
  refine Zo J 9 h (fun h=>wa J 2 (Zj [] (j1 d h))) fun h=>?_
  refine wO J 10 h fun f g h=>Zq J YH g ?_
  refine wB J 5 h (fun h=>wa J 7 (Zj [] (ih12 (d,(Zi (e+1))) h))) fun h=>wa J 7 (ZB (σ:=Int) (fun st=>⟨[(1,.I state_),(2,.B 3 0),(5,.S 4),(6,.I e),(7,.I st)],[(3,.box (ZX 0 1 2 m_) 31),(4,.own (rI .i64) d true)],(ZZ 0 1 2 m_ []),6⟩) (fun st=>PB d e (Vf N m_ state_ n12) st=some r) ?_ (fun j19=>?_))
  ·intro i h
   replace h:PB d e (Vf N m_ state_ n12) i=some r:=h
   unfold PB at h
   refine wa J 1 (Z8 J [] (oI .i64) ([]:List Int) ?_)
   refine wO J 2 h fun j k h=>UQ J (rI .i64) k ?_
   obtain ⟨l,m,h⟩:=ob h
   refine eAv J (rI .i64) k m (wa J 1 (Z8 J [] (oI .i64) ([e]:List Int) ?_))
   obtain ⟨o,p,h⟩:=ob h
   refine Yr J (rI .i64) p ?_
   refine wO J 2 h fun q s h=>UQ J (rI .i64) s ?_
   obtain ⟨t,u,h⟩:=ob h
   exact eAv J (rI .i64) s u (wa J 1 (ZA (wa J 6 (Zj [(4,.sl 12)] (ih12 (t,(Zi (e+1))) h)))))
  refine wa J 1 (ZF (σ:=Int) (fun st=>⟨[(1,.I state_),(2,.B 3 0),(5,.S 4),(6,.I e),(7,.I st)],[(3,.box (ZX 0 1 2 m_) 31),(4,.own (rI .i64) d true)],(ZZ 0 1 2 m_ []),6⟩) (fun n st=>SL N m_ d e (Vf N m_ state_ n12) n st) (r:=r) (fun _=>rfl) ?_ (fun ih=>?_))
  ·intro n14 ih21
   intro v h
   replace h:SL N m_ d e (Vf N m_ state_ n12) (n14+1) v=some r:=h
   unfold SL at h
   refine Zo J 8 h (fun h=>wa J 16 (ZA (wa J 2 (Zj [] (j19 v h))))) fun h=>?_
   refine wO J 3 h fun x y h=>Zq J YH y ?_
   refine wO J 5 h fun z A h=>Z9 J (rI .i64) A (YJ J (oI .i64) A ?_)
   obtain ⟨C,D,h⟩:=ob h
   refine Zq J YH D ?_
   refine wO J 1 h fun G H h=>Zn (Zqt N x C _ H) [] [] (wa J 2 (ZA ?_))
   exact eB h (fun h=>wa J 9 (Zj [] (ih21 (Zi (v+1)) h))) fun h=>wa J 2 (Zj [] (j19 v h))
  exact Zj [] (ih N 0 h)
 exact Zj [(4,.nil)] (ih N (([]:List Int),0) h)
theorem Zm0 (N:Nat) (m_:T8) (state_:Int) (r:(List Int)) (h:Mc N m_ state_=some r) :
 Fn Tryz.prog 34 ⟨3,[.a (ZX 0 1 2 m_),.I state_],(ZZ 0 1 2 m_ []),[],4,.S 3,[],[(3,.own (rI .i64) r true)]⟩:=by
 refine Zs func34 rfl (fun E F w=>?_)
 unfold Mc at h
 refine wO J 10 h fun x1 c h=>Zn (Zj4 N m_ state_ _ c) [] [(0,.sl 0),(1,.sl 1),(2,.sl 2)] ?_
 refine wB J 2 h (fun h=>?_) fun h=>?_
 ·cases h
  exact wr J 5 func34 [(3,.nil)]
 refine wO J 6 h fun x2 d h=>Zn (ZpC N m_ state_ _ d) [] [(0,.sl 0),(1,.sl 1),(2,.sl 2)] ?_
 cases h
 exact wr J 2 func34 [(3,.sl 4)]
theorem ZqX (N:Nat) (rc:Int→Option ByteArray) (rc_ref09_Digits_ct:(∀ (n_:Int) (r:ByteArray),rc n_=some r→Fn Tryz.prog 36 ⟨0,[.I n_],[],[],0,.c (.s r),[],[]⟩)) (n_:Int) (r:ByteArray) (h:Zex N rc n_=some r) :
 Fn Tryz.prog 36 ⟨0,[.I n_],[],[],0,.c (.s r),[],[]⟩:=by
 refine Zs func36 rfl (fun E F w=>?_)
 unfold Zex at h
 refine wB J 12 h (fun h=>?_) fun h=>?_
 ·refine wO J 5 h fun x1 d h=>Zn (rc_ref09_Digits_ct (Zi (n_.tdiv 10)) _ d) [] [] (wa J 4 (RB ?_))
  obtain ⟨x2,e,h⟩:=ob h
  refine ZC e ?_
  cases h
  exact wr J 2 func36 []
 refine wB J 7 h (fun h=>wa J 6 (RB ?_)) fun h=>?_
 ·obtain ⟨x3,f,h⟩:=ob h
  refine ZC f ?_
  cases h
  exact wr J 2 func36 []
 refine wB J 7 h (fun h=>wa J 6 (RB ?_)) fun h=>?_
 ·cases h
  exact wr J 2 func36 []
 refine wO J 7 h fun x4 g h=>Zn (rc_ref09_Digits_ct (Zi (n_.tdiv 10)) _ g) [] [] (wa J 4 (RB ?_))
 obtain ⟨x5,i,h⟩:=ob h
 refine ZC i ?_
 cases h
 exact wr J 2 func36 []
theorem Zl3:∀ (N:Nat) (n_:Int) (r:ByteArray) (h:Pu N n_=some r),Fn Tryz.prog 36 ⟨0,[.I n_],[],[],0,.c (.s r),[],[]⟩:=by
 intro N
 induction N with
 | zero=>intros;rename_i h;cases h
 | succ N ih=>intro n_ r h;exact ZqX N (Pu N) ih n_ r h
theorem WJ (N:Nat) (n_:Int) (r:ByteArray) (h:Xd N n_=some r):Fn Tryz.prog 36 ⟨0,[.I n_],[],[],0,.c (.s r),[],[]⟩:=Zl3 N n_ r h
theorem Zdu (N:Nat) (d_:T0) (r:Int) (h:Vr N d_=some r) :
 Fn Tryz.prog 42 ⟨3,[.a (Yt 0 1 2 d_)],(Yn 0 1 2 d_ []),[],3,.I r,[],[]⟩:=by
 refine Zs func42 rfl (fun E F w=>?_)
 unfold Vr at h
 cases h
 exact wr J 18 func42 []
theorem ZdT (N:Nat) (decls_:(List T0)) (x_:Int) (r:ByteArray × Bool) (h:Pt N decls_ x_=some r) :
 Fn Tryz.prog 83 ⟨1,[.S 0,.I x_],[(0,.sl ZL decls_)],[],1,.t [.inl (.s r.1),.inl (.b r.2)],[],[]⟩:=by
 refine Zs func83 rfl (fun E F w=>?_)
 unfold Pt at h
 refine wa J 10 (ZB (σ:=Unit) (fun st=>(Qo decls_ [])) (fun st=>Be=some r) ?_ (fun j1=>?_))
 ·intro _ h
  replace h:Be=some r:=h
  unfold Be at h
  cases h
  exact wr J 5 func83 []
 refine wa J 1 (ZF (σ:=Int) (fun st=>(Qo decls_ [(0,.S 0),(1,.I x_),(6,.I st)])) (fun n st=>SB decls_ x_ n st) (r:=r) (fun _=>rfl) ?_ (fun ih=>?_))
 ·intro n2 ih3
  intro c h
  replace h:SB decls_ x_ (n2+1) c=some r:=h
  unfold SB at h
  refine Zo J 8 h (fun h=>wa J 2 (Zj [] (j1 () h))) fun h=>?_
  refine wO J 8 h fun d e h=>Zq J Yg e ?_
  refine Zo J 11 h (fun h=>wa J 18 (Zj [] (ih3 (Zi (c+1)) h))) fun h=>?_
  refine Zo J 10 h (fun h=>wa J 8 (Zj [] (ih3 (Zi (c+1)) h))) fun h=>?_
  refine wO J 9 h fun f g h=>Zq J Xq g ?_
  refine wO J 8 h fun i j h=>ZC j ?_
  refine wO J 2 h fun k l h=>ZC l (wa J 6 (ZA ?_))
  cases h
  exact Z4 J func83 []
 exact Zj [] (ih N 0 h)
theorem RQ (N:Nat) (decls_:(List T0)) (x_:Int) (r:ByteArray) (h:WC N decls_ x_=some r) :
 Fn Tryz.prog 84 ⟨1,[.S 0,.I x_],[(0,.sl ZL decls_)],[],1,.c (.s r),[],[]⟩:=by
 refine Zs func84 rfl (fun E F w=>?_)
 unfold WC at h
 refine wO J 8 h fun x1 d h=>Zn (ZdT N decls_ x_ _ d) [] [(0,.sl 0)] ?_
 refine Zo J 11 h (fun h=>?_) fun h=>?_
 ·cases h
  exact wr J 7 func84 []
 refine wO J 4 h fun x2 e h=>ZC e ?_
 obtain ⟨x3,f,h⟩:=ob h
 refine ZC f ?_
 cases h
 exact wr J 2 func84 []
theorem Zdr (N:Nat) (decls_:(List T0)) (at_:Int) (part_:Int) (r:ByteArray) (h:VG N decls_ at_ part_=some r) :
 Fn Tryz.prog 43 ⟨1,[.S 0,.I at_,.I part_],[(0,.sl ZL decls_)],[],1,.c (.s r),[],[]⟩:=by
 refine Zs func43 rfl (fun E F w=>?_)
 unfold VG at h
 refine wO J 8 h fun x1 d h=>Zn (Zbm N decls_ _ d) [] [(0,.sl 0)] ?_
 refine wB J 2 h (fun h=>?_) fun h=>?_
 ·cases h
  exact wr J 28 func43 []
 refine wB J 4 h (fun h=>?_) fun h=>?_
 ·cases h
  exact wr J 24 func43 []
 refine wB J 6 h (fun h=>?_) fun h=>?_
 ·cases h
  exact wr J 18 func43 []
 refine wB J 4 h (fun h=>?_) fun h=>?_
 ·cases h
  exact wr J 14 func43 []
 refine wO J 3 h fun x2 e h=>Zq J Yg e ?_
 refine wO J 1 h fun x3 f h=>Zn (Zdu N x2 _ f) [] [(0,.sl 2),(1,.sl 3),(2,.sl 4)] ?_
 refine wB J 3 h (fun h=>?_) fun h=>?_
 ·cases h
  exact wr J 5 func43 []
 refine wO J 7 h fun x4 g h=>Zq J Yg g ?_
 refine wB J 12 h (fun h=>?_) fun h=>?_
 ·refine wO J 5 h fun x5 i h=>Zq J Yg i ?_
  refine wO J 6 h fun x6 j h=>Zq J (oP (oI .i64) (oI .i64)) j (wa J 7 (XA 0 rfl ?_))
  refine wO J 1 h fun x7 k h=>Zn (ZdT N decls_ x6.1 _ k) [] [(0,.sl 0)] (wa J 9 (XA 1 rfl ?_))
  refine wO J 1 h fun x8 l h=>Zn (ZdT N decls_ x6.2 _ l) [] [(0,.sl 0)] ?_
  refine wO J 9 h fun x9 m h=>ZC m ?_
  refine wO J 1 h fun o p h=>ZC p ?_
  cases h
  exact wr J 2 func43 []
 refine wO J 6 h fun q t h=>Zq J Yg t ?_
 refine wO J 4 h fun u v h=>Zq J Ut v ?_
 refine Zo J 12 h (fun h=>?_) fun h=>?_
 ·refine wB J 14 h (fun h=>?_) fun h=>?_
  ·refine wO J 6 h fun x y h=>Zn (RQ N decls_ u.X _ y) [] [(0,.sl 0)] ?_
   obtain ⟨z,A,h⟩:=ob h
   refine ZC A ?_
   refine wO J 2 h fun D G h=>Zn (WJ N u.C _ G) [] [] ?_
   obtain ⟨H,R,h⟩:=ob h
   refine ZC R (wa J 1 (ZA ?_))
   cases h
   exact Z4 J func43 []
  refine wB J 8 h (fun h=>?_) fun h=>?_
  ·refine wO J 6 h fun T U h=>Zn (RQ N decls_ u.Y _ U) [] [(0,.sl 0)] ?_
   obtain ⟨Z,a0,h⟩:=ob h
   refine ZC a0 ?_
   refine wO J 3 h fun b0 c0 h=>Zn (WJ N (Zi (0-u.C)) _ c0) [] [] ?_
   obtain ⟨d0,e0,h⟩:=ob h
   refine ZC e0 (wa J 1 (ZA ?_))
   cases h
   exact Z4 J func43 []
  refine wO J 8 h fun f0 g0 h=>Zn (RQ N decls_ u.X _ g0) [] [(0,.sl 0)] ?_
  obtain ⟨i0,j0,h⟩:=ob h
  refine ZC j0 ?_
  refine wO J 3 h fun k0 l0 h=>Zn (RQ N decls_ u.Y _ l0) [] [(0,.sl 0)] ?_
  obtain ⟨m0,o0,h⟩:=ob h
  refine ZC o0 (wa J 1 (ZA ?_))
  refine wB J 9 h (fun h=>?_) fun h=>?_
  ·refine wO J 4 h fun p0 q0 h=>ZC q0 ?_
   refine wO J 2 h fun s0 t0 h=>Zn (WJ N u.C _ t0) [] [] ?_
   obtain ⟨u0,v0,h⟩:=ob h
   refine ZC v0 ?_
   cases h
   exact wr J 2 func43 []
  refine Zo J 8 h (fun h=>?_) fun h=>?_
  ·cases h
   exact wr J 8 func43 []
  refine wO J 4 h fun x0 y0 h=>ZC y0 ?_
  refine wO J 3 h fun z0 A0 h=>Zn (WJ N (Zi (0-u.C)) _ A0) [] [] ?_
  obtain ⟨B0,C0,h⟩:=ob h
  refine ZC C0 ?_
  cases h
  exact wr J 2 func43 []
 refine wB J 6 h (fun h=>?_) fun h=>?_
 ·refine wO J 5 h fun D0 G0 h=>Zn (WJ N u.C _ G0) [] [] ?_
  obtain ⟨H0,I0,h⟩:=ob h
  refine ZC I0 ?_
  cases h
  exact wr J 2 func43 []
 refine wB J 8 h (fun h=>?_) fun h=>?_
 ·refine wO J 6 h fun L0 M0 h=>Zn (RQ N decls_ u.X _ M0) [] [(0,.sl 0)] ?_
  obtain ⟨O0,R0,h⟩:=ob h
  refine ZC R0 ?_
  refine wO J 2 h fun S0 T0 h=>Zn (WJ N u.C _ T0) [] [] ?_
  obtain ⟨U0,V0,h⟩:=ob h
  refine ZC V0 (wa J 1 (ZA ?_))
  cases h
  exact Z4 J func43 []
 refine wB J 8 h (fun h=>?_) fun h=>?_
 ·refine wO J 6 h fun X0 Y0 h=>Zn (RQ N decls_ u.Y _ Y0) [] [(0,.sl 0)] ?_
  obtain ⟨Z0,a1,h⟩:=ob h
  refine ZC a1 ?_
  refine wO J 3 h fun b1 c1 h=>Zn (WJ N (Zi (0-u.C)) _ c1) [] [] ?_
  obtain ⟨d1,e1,h⟩:=ob h
  refine ZC e1 (wa J 1 (ZA ?_))
  cases h
  exact Z4 J func43 []
 refine wO J 8 h fun f1 g1 h=>Zn (RQ N decls_ u.X _ g1) [] [(0,.sl 0)] ?_
 obtain ⟨i1,j1,h⟩:=ob h
 refine ZC j1 ?_
 refine wO J 3 h fun k1 l1 h=>Zn (RQ N decls_ u.Y _ l1) [] [(0,.sl 0)] ?_
 obtain ⟨m1,o1,h⟩:=ob h
 refine ZC o1 (wa J 1 (ZA ?_))
 refine wB J 9 h (fun h=>?_) fun h=>?_
 ·refine wO J 4 h fun p1 q1 h=>ZC q1 ?_
  refine wO J 2 h fun s1 t1 h=>Zn (WJ N u.C _ t1) [] [] ?_
  obtain ⟨u1,v1,h⟩:=ob h
  refine ZC v1 ?_
  cases h
  exact wr J 2 func43 []
 refine Zo J 8 h (fun h=>?_) fun h=>?_
 ·cases h
  exact wr J 8 func43 []
 refine wO J 4 h fun y1 z1 h=>ZC z1 ?_
 refine wO J 3 h fun A1 B1 h=>Zn (WJ N (Zi (0-u.C)) _ B1) [] [] ?_
 obtain ⟨C1,D1,h⟩:=ob h
 refine ZC D1 ?_
 cases h
 exact wr J 2 func43 []
theorem Zh3 (N:Nat) (decls_:(List T0)) (label_:Int) (r:ByteArray) (h:Lq N decls_ label_=some r) :
 Fn Tryz.prog 14 ⟨1,[.S 0,.I label_],[(0,.sl ZL decls_)],[],1,.c (.s r),[],[]⟩:=by
 refine Zs func14 rfl (fun E F w=>?_)
 unfold Lq at h
 refine wO J 8 h fun x1 d h=>Zn (Zbm N decls_ _ d) [] [(0,.sl 0)] ?_
 refine wB J 2 h (fun h=>?_) fun h=>?_
 ·cases h
  exact wr J 15 func14 []
 refine wB J 4 h (fun h=>?_) fun h=>?_
 ·cases h
  exact wr J 11 func14 []
 refine wB J 6 h (fun h=>?_) fun h=>?_
 ·cases h
  exact wr J 5 func14 []
 refine wO J 6 h fun x2 e h=>Zq J Yg e ?_
 refine wO J 8 h fun x3 f h=>ZC f (wa J 7 (ZB (σ:=ByteArray) (fun st=>(Q0 x2 decls_ [(0,.S 0),(1,.I label_),(5,.B 5 0),(6,.c (.s st))])) (fun st=>SA N decls_ label_ x2 st=some r) ?_ (fun j1=>?_)))
 ·intro g h
  replace h:SA N decls_ label_ x2 g=some r:=h
  unfold SA at h
  refine wO J 3 h fun i j h=>ZC j (wa J 7 (ZB (σ:=ByteArray) (fun st=>⟨[(6,.c (.s st))],[],[(0,.sl ZL decls_)],6⟩) (fun st=>Md st=some r) ?_ (fun j9=>?_)))
  ·intro k h
   replace h:Md k=some r:=h
   unfold Md at h
   cases h
   exact wr J 5 func14 []
  refine wa J 1 (ZF (σ:=ByteArray × Int) (fun st=>(Q0 x2 decls_ [(0,.S 0),(1,.I label_),(5,.B 5 0),(6,.c (.s st.1)),(9,.I st.2)])) (fun n st=>TA N decls_ label_ x2 n st.1 st.2) (r:=r) (fun _=>rfl) ?_ (fun ih=>?_))
  ·intro n3 ih11
   rintro ⟨l,m⟩ h
   replace h:TA N decls_ label_ x2 (n3+1) l m=some r:=h
   unfold TA at h
   refine wO J 5 h fun o p h=>Zn (Zdu N x2 _ p) [] [(0,.sl 2),(1,.sl 3),(2,.sl 4)] ?_
   refine Zo J 2 h (fun h=>wa J 2 (Zj [] (j9 l h))) fun h=>?_
   refine wB J 10 h (fun h=>?_) fun h=>?_
   ·refine wO J 3 h fun q t h=>ZC t ?_
    refine wO J 7 h fun u v h=>Zn (Zdr N decls_ label_ m _ v) [] [(0,.sl 0)] ?_
    obtain ⟨x,y,h⟩:=ob h
    exact ZC y (wa J 8 (Zj [] (ih11 (x,(Zi (m+1))) h)))
   refine wO J 3 h fun z A h=>ZC A ?_
   refine wO J 7 h fun C D h=>Zn (Zdr N decls_ label_ m _ D) [] [(0,.sl 0)] ?_
   obtain ⟨G,H,h⟩:=ob h
   exact ZC H (wa J 8 (Zj [] (ih11 (G,(Zi (m+1))) h)))
  exact Zj [] (ih N (i,0) h)
 refine wa J 1 (ZF (σ:=ByteArray × Int) (fun st=>(Q0 x2 decls_ [(0,.S 0),(1,.I label_),(5,.B 5 0),(6,.c (.s st.1)),(7,.I st.2)])) (fun n st=>WQ N decls_ label_ x2 n st.1 st.2) (r:=r) (fun _=>rfl) ?_ (fun ih=>?_))
 ·intro n4 ih12
  rintro ⟨R,T⟩ h
  replace h:WQ N decls_ label_ x2 (n4+1) R T=some r:=h
  unfold WQ at h
  refine Zo J 9 h (fun h=>wa J 2 (Zj [] (j1 R h))) fun h=>?_
  refine wO J 9 h fun U X h=>Zq J Xq X (wa J 10 (ZB (σ:=ByteArray) (fun st=>(ZgC x2 U decls_ [(0,.S 0),(1,.I label_),(5,.B 5 0),(6,.c (.s st)),(7,.I T),(8,.B 7 0)])) (fun st=>Pp N T (WQ N decls_ label_ x2 n4) U st=some r) ?_ (fun j17=>?_)))
  ·intro Y h
   replace h:Pp N T (WQ N decls_ label_ x2 n4) U Y=some r:=h
   unfold Pp at h
   refine wO J 5 h fun Z a0 h=>ZC a0 ?_
   obtain ⟨b0,c0,h⟩:=ob h
   refine ZC c0 (wa J 10 (ZB (σ:=ByteArray) (fun st=>(ZgC x2 U decls_ [(0,.S 0),(1,.I label_),(5,.B 5 0),(6,.c (.s st)),(7,.I T),(8,.B 7 0)])) (fun st=>PH N T (WQ N decls_ label_ x2 n4) U st=some r) ?_ (fun j18=>?_)))
   ·intro d0 h
    replace h:PH N T (WQ N decls_ label_ x2 n4) U d0=some r:=h
    unfold PH at h
    refine wO J 5 h fun e0 f0 h=>Zn (WJ N U.Sort'.Lo _ f0) [] [] ?_
    obtain ⟨g0,i0,h⟩:=ob h
    refine ZC i0 ?_
    refine wO J 3 h fun j0 k0 h=>Zn (WJ N U.Sort'.Hi _ k0) [] [] ?_
    obtain ⟨l0,m0,h⟩:=ob h
    refine ZC m0 ?_
    obtain ⟨o0,p0,h⟩:=ob h
    exact ZC p0 (wa J 1 (ZA (wa J 6 (Zj [] (ih12 (o0,(Zi (T+1))) h)))))
   refine eB h (fun h=>?_) fun h=>?_
   ·exact wO J 3 h fun q0 s0 h=>ZC s0 (wa J 2 (Zj [] (j18 q0 h)))
   exact wO J 3 h fun t0 u0 h=>ZC u0 (wa J 2 (Zj [] (j18 t0 h)))
  refine VH h (fun h=>wa J 2 (Zj [] (j17 R h))) fun h=>?_
  exact wO J 3 h fun v0 x0 h=>ZC x0 (wa J 2 (Zj [] (j17 v0 h)))
 exact Zj [] (ih N (x3,0) h)
theorem Ztk (N:Nat) (m_:T8) (state_:Int) (r:Int) (h:z70 N m_ state_=some r) :
 Fn Tryz.prog 70 ⟨3,[.a (ZX 0 1 2 m_),.I state_],(ZZ 0 1 2 m_ []),[],3,.I r,[],[]⟩:=by
 refine Zs func70 rfl (fun E F w=>?_)
 unfold z70 at h
 refine wa J 10 (ZB (σ:=Unit) (fun st=>(He m_ [])) (fun st=>Zcu=some r) ?_ (fun j1=>?_))
 ·intro _ h
  replace h:Zcu=some r:=h
  unfold Zcu at h
  cases h
  exact wr J 4 func70 []
 refine wa J 1 (ZF (σ:=Int) (fun st=>(De m_ [(1,.I state_),(2,.B 3 0),(5,.I st)])) (fun n st=>RH m_ state_ n st) (r:=r) (fun _=>rfl) ?_ (fun ih=>?_))
 ·intro n2 ih3
  intro c h
  replace h:RH m_ state_ (n2+1) c=some r:=h
  unfold RH at h
  refine Zo J 9 h (fun h=>wa J 2 (Zj [] (j1 () h))) fun h=>?_
  refine wO J 9 h fun x9 d h=>Zq J Uv d ?_
  refine wB J 5 h (fun h=>?_) fun h=>wa J 8 (Zj [] (ih3 (Zi (c+1)) h))
  cases h
  exact wr J 6 func70 []
 exact Zj [] (ih N 0 h)
theorem ZmJ (N:Nat) (m_:T8) (state_:Int) (r:Yj × Bool) (h:GF N m_ state_=some r) :
 Fn Tryz.prog 35 ⟨3,[.a (ZX 0 1 2 m_),.I state_],(ZZ 0 1 2 m_ []),[],3,.t [.inr (GK r.1),.inl (.b r.2)],[],[]⟩:=by
 refine Zs func35 rfl (fun E F w=>?_)
 unfold GF at h
 refine wO J 11 h fun x1 c h=>Zn (Zj4 N m_ state_ _ c) [] [(0,.sl 0),(1,.sl 1),(2,.sl 2)] ?_
 refine wB J 2 h (fun h=>?_) fun h=>?_
 ·cases h
  exact wr J 7 func35 []
 refine wO J 7 h fun x2 d h=>Zn (Ztk N m_ state_ _ d) [] [(0,.sl 0),(1,.sl 1),(2,.sl 2)] ?_
 refine Zo J 7 h (fun h=>?_) fun h=>?_
 ·cases h
  exact wr J 8 func35 []
 refine wO J 6 h fun x3 e h=>Zq J Uv e ?_
 cases h
 exact wr J 4 func35 []
theorem ZpG (N:Nat) (g_:T5) (m_:T8) (state_:Int) (r:(List ByteArray) × Int) (h:TT N g_ m_ state_=some r) :
 Fn Tryz.prog 11 ⟨7,[.a (ZT 0 1 2 3 g_),.a (ZX 4 5 6 m_),.I state_],((0,.sl rS g_.Roles)::(1,.sl ZL g_.Decls)::(2,.sl Yf g_.Edges)::(3,.sl Z2 g_.Timeouts)::ZZ 4 5 6 m_ []),[],8,.t [.inl (.sl 7),.inl (.I r.2)],[],[(7,.own rS r.1 true)]⟩:=by
 refine Zs func11 rfl (fun E F w=>?_)
 unfold TT at h
 refine wO J 14 h fun x1 c h=>Zn (ZiL N g_ m_ _ c) [] [(0,.sl 0),(1,.sl 1),(2,.sl 2),(3,.sl 3),(4,.sl 4),(5,.sl 5),(6,.sl 6)] ?_
 obtain ⟨x2,d,h⟩:=ob h
 refine Zn (Zjm N g_ m_ x1 _ d) [] [(0,.sl 0),(1,.sl 1),(2,.sl 2),(3,.sl 3),(4,.sl 4),(5,.sl 5),(6,.sl 6),(7,.sl 9),(8,.sl 10)] ?_
 refine wB J 2 h (fun h=>wa J 9 (ZA ?_)) fun h=>?_
 ·cases h
  exact wr J 6 func11 [(7,.nil)]
 refine wB J 4 h (fun h=>wa J 5 (ZA ?_)) fun h=>wa J 5 (ZA ?_)
 ·cases h
  exact wr J 6 func11 [(7,.nil)]
 refine eB h (fun h=>?_) fun h=>?_
 ·cases h
  exact wr J 6 func11 [(7,.nil)]
 refine wO J 10 h fun x3 e h=>Zn (Zm0 N m_ state_ _ e) [] [(0,.sl 4),(1,.sl 5),(2,.sl 6)] (wa J 7 (ZB (σ:=(List ByteArray)) (fun st=>⟨[(2,.I state_),(3,.B 7 0),(4,.B 8 0),(8,.S 12)],[(7,.box (ZT 0 1 2 3 g_) 27),(8,.box (ZX 4 5 6 m_) 31),(12,.own rS st true)],((0,.sl rS g_.Roles)::(1,.sl ZL g_.Decls)::(2,.sl Yf g_.Edges)::(3,.sl Z2 g_.Timeouts)::ZZ 4 5 6 m_ []),13⟩) (fun st=>Qb N g_ m_ state_ st=some r) ?_ (fun j1=>?_)))
 ·intro f h
  replace h:Qb N g_ m_ state_ f=some r:=h
  unfold Qb at h
  refine wO J 5 h fun g i h=>Zn (ZmJ N m_ state_ _ i) [] [(0,.sl 4),(1,.sl 5),(2,.sl 6)] ?_
  refine Zo J 11 h (fun h=>?_) fun h=>?_
  ·refine wO J 8 h fun j k h=>Zq J oB k ?_
   refine Zo J 2 h (fun h=>?_) fun h=>wa J 3 (Z8 J [] oS ([(str [116,104,101,32,101,110,100])]:List ByteArray) ?_)
   ·cases h
    exact wr J 8 func11 [(7,.sl 12)]
   obtain ⟨l,m,h⟩:=ob h
   refine Yr J rS m ?_
   cases h
   exact wr J 8 func11 [(7,.sl 16)]
  refine wO J 7 h fun o p h=>Zq J YH p ?_
  refine wO J 8 h fun q s h=>Zn (WJ N g.1.Ticks _ s) [] [] ?_
  obtain ⟨u,v,h⟩:=ob h
  refine ZC v ?_
  obtain ⟨x,y,h⟩:=ob h
  refine ZC y ?_
  refine wO J 4 h fun z A h=>Zq J Yg A ?_
  refine wO J 2 h fun C D h=>ZC D ?_
  obtain ⟨G,H,h⟩:=ob h
  refine ZC H ?_
  refine wO J 4 h fun R T h=>Zq J oS T ?_
  refine wO J 1 h fun U X h=>ZC X (Z8 J [] oS ([U]:List ByteArray) ?_)
  obtain ⟨Y,Z,h⟩:=ob h
  refine Yr J rS Z (wa J 1 (ZA ?_))
  refine wO J 6 h fun a0 b0 h=>Zq J oB b0 ?_
  refine Zo J 2 h (fun h=>?_) fun h=>wa J 3 (Z8 J [] oS ([(str [116,104,101,32,101,110,100])]:List ByteArray) ?_)
  ·cases h
   exact wr J 8 func11 [(7,.sl 22)]
  obtain ⟨c0,d0,h⟩:=ob h
  refine Yr J rS d0 ?_
  cases h
  exact wr J 8 func11 [(7,.sl 25)]
 refine wa J 1 (ZF (σ:=(List ByteArray) × Int) (fun st=>⟨[(2,.I state_),(3,.B 7 0),(4,.B 8 0),(8,.S 12),(9,.S 11),(10,.I st.2)],[(7,.box (ZT 0 1 2 3 g_) 27),(8,.box (ZX 4 5 6 m_) 31),(11,.own (rI .i64) x3 true),(12,.own rS st.1 true)],((0,.sl rS g_.Roles)::(1,.sl ZL g_.Decls)::(2,.sl Yf g_.Edges)::(3,.sl Z2 g_.Timeouts)::ZZ 4 5 6 m_ []),13⟩) (fun n st=>Up N g_ m_ state_ x3 n st.1 st.2) (r:=r) (fun _=>rfl) ?_ (fun ih=>?_))
 ·intro n2 ih3
  rintro ⟨e0,f0⟩ h
  replace h:Up N g_ m_ state_ x3 (n2+1) e0 f0=some r:=h
  unfold Up at h
  refine Zo J 8 h (fun h=>wa J 2 (Zj [] (j1 e0 h))) fun h=>?_
  refine wO J 10 h fun g0 i0 h=>Z9 J (rI .i64) i0 (YJ J (oI .i64) i0 ?_)
  obtain ⟨j0,k0,h⟩:=ob h
  refine Zq J YH k0 (wa J 3 (ZA ?_))
  refine wB J 7 h (fun h=>?_) fun h=>?_
  ·refine wO J 7 h fun l0 m0 h=>Zq J Yg m0 ?_
   refine wO J 2 h fun o0 p0 h=>ZC p0 ?_
   obtain ⟨q0,s0,h⟩:=ob h
   refine ZC s0 ?_
   refine wO J 4 h fun t0 u0 h=>Zq J oS u0 ?_
   refine wO J 1 h fun v0 x0 h=>ZC x0 (Z8 J [] oS ([v0]:List ByteArray) ?_)
   obtain ⟨y0,z0,h⟩:=ob h
   exact Yr J rS z0 (wa J 1 (ZA (wa J 7 (Zj [(12,.sl 22)] (ih3 (y0,(Zi (f0+1))) h)))))
  refine wB J 7 h (fun h=>?_) fun h=>?_
  ·refine wO J 7 h fun A0 B0 h=>Zn (Zh3 N g_.Decls j0.Label _ B0) [] [(0,.sl 1)] ?_
   obtain ⟨C0,D0,h⟩:=ob h
   refine ZC D0 ?_
   obtain ⟨G0,H0,h⟩:=ob h
   refine ZC H0 ?_
   refine wO J 4 h fun I0 L0 h=>Zq J oS L0 ?_
   refine wO J 1 h fun M0 O0 h=>ZC O0 (Z8 J [] oS ([M0]:List ByteArray) ?_)
   obtain ⟨R0,S0,h⟩:=ob h
   exact Yr J rS S0 (wa J 1 (ZA (wa J 7 (Zj [(12,.sl 18)] (ih3 (R0,(Zi (f0+1))) h)))))
  refine wO J 7 h fun T0 U0 h=>Zn (Zh3 N g_.Decls j0.Label _ U0) [] [(0,.sl 1)] ?_
  obtain ⟨V0,X0,h⟩:=ob h
  refine ZC X0 ?_
  obtain ⟨Y0,Z0,h⟩:=ob h
  refine ZC Z0 ?_
  refine wO J 4 h fun a1 b1 h=>Zq J oS b1 ?_
  refine wO J 1 h fun c1 d1 h=>ZC d1 (Z8 J [] oS ([c1]:List ByteArray) ?_)
  obtain ⟨e1,f1,h⟩:=ob h
  exact Yr J rS f1 (wa J 1 (ZA (wa J 7 (Zj [(12,.sl 18)] (ih3 (e1,(Zi (f0+1))) h)))))
 exact Zj [(12,.nil)] (ih N (([]:List ByteArray),0) h)
theorem Zf0 (N:Nat) (m_:T8) (at_:Int) (x_:T3) (r:Int) (h:Sw N m_ at_ x_=some r) :
 Fn Tryz.prog 104 ⟨4,[.a (ZX 0 1 2 m_),.I at_,.a (X5 3 x_)],(ZZ 0 1 2 m_ [(3,.sl ZD x_.Values)]),[],4,.I r,[],[]⟩:=by
 refine Zs func104 rfl (fun E F w=>?_)
 unfold Sw at h
 refine wa J 11 (ZB (σ:=Unit) (fun st=>⟨[],[],(ZZ 0 1 2 m_ [(3,.sl ZD x_.Values)]),6⟩) (fun st=>ZbD=some r) ?_ (fun j1=>?_))
 ·intro _ h
  replace h:ZbD=some r:=h
  unfold ZbD at h
  cases h
  exact wr J 4 func104 []
 refine wa J 1 (ZF (σ:=Int) (fun st=>⟨[(1,.I at_),(3,.B 4 0),(5,.B 5 0),(7,.I st)],[(4,.box (ZX 0 1 2 m_) 31),(5,.box (X5 3 x_) 46)],(ZZ 0 1 2 m_ [(3,.sl ZD x_.Values)]),6⟩) (fun n st=>UT m_ at_ x_ n st) (r:=r) (fun _=>rfl) ?_ (fun ih=>?_))
 ·intro n2 ih3
  intro c h
  replace h:UT m_ at_ x_ (n2+1) c=some r:=h
  unfold UT at h
  refine Zo J 9 h (fun h=>wa J 2 (Zj [] (j1 () h))) fun h=>?_
  refine wO J 9 h fun x9 d h=>Zq J YH d ?_
  refine Zo J 11 h (fun h=>wa J 29 (Zj [] (ih3 (Zi (c+1)) h))) fun h=>?_
  refine Zo J 7 h (fun h=>wa J 22 (Zj [] (ih3 (Zi (c+1)) h))) fun h=>?_
  refine Zo J 7 h (fun h=>wa J 15 (Zj [] (ih3 (Zi (c+1)) h))) fun h=>?_
  refine wB J 7 h (fun h=>?_) fun h=>wa J 8 (Zj [] (ih3 (Zi (c+1)) h))
  cases h
  exact wr J 6 func104 []
 exact Zj [] (ih N 0 h)
theorem ZkE (N:Nat) (s_:Yb) (r:Bool) (h:Hw N s_=some r) :
 Fn Tryz.prog 266 ⟨0,[.a (UG s_)],[],[],0,.O r,[],[]⟩:=by
 refine Zs func266 rfl (fun E F w=>?_)
 unfold Hw at h
 refine wB J 17 h (fun h=>?_) fun h=>?_
 ·refine Zo J 7 h (fun h=>?_) fun h=>?_
  ·cases h
   exact wr J 13 func266 []
  refine wB J 7 h (fun h=>?_) fun h=>?_
  ·cases h
   exact wr J 6 func266 []
  cases h
  exact wr J 6 func266 []
 refine Zo J 6 h (fun h=>?_) fun h=>?_
 ·cases h
  exact wr J 7 func266 []
 refine Zo J 7 h (fun h=>?_) fun h=>?_
 ·cases h
  exact wr J 13 func266 []
 refine wB J 7 h (fun h=>?_) fun h=>?_
 ·cases h
  exact wr J 6 func266 []
 cases h
 exact wr J 6 func266 []
theorem Zk9 (N:Nat) (s_:ByteArray) (r:Bool) (h:GA N s_=some r) :
 Fn Tryz.prog 229 ⟨0,[.c (.s s_)],[],[],0,.O r,[],[]⟩:=by
 refine Zs func229 rfl (fun E F w=>?_)
 unfold GA at h
 refine wa J 9 (ZB (σ:=Unit) (fun st=>(VO [])) (fun st=>Zal=some r) ?_ (fun j1=>?_))
 ·intro _ h
  replace h:Zal=some r:=h
  unfold Zal at h
  cases h
  exact wr J 4 func229 []
 refine wa J 1 (ZF (σ:=Int) (fun st=>(VO [(0,.c (.s s_)),(3,.I st)])) (fun n st=>Sa s_ n st) (r:=r) (fun _=>rfl) ?_ (fun ih=>?_))
 ·intro n2 ih3
  intro d h
  replace h:Sa s_ (n2+1) d=some r:=h
  unfold Sa at h
  refine Zo J 8 h (fun h=>wa J 2 (Zj [] (j1 () h))) fun h=>?_
  refine wO J 8 h fun e f h=>XW J f ?_
  refine wB J 2 h (fun h=>?_) fun h=>?_
  ·cases h
   exact wr J 11 func229 []
  refine wO J 2 h fun g i h=>XW J i ?_
  refine wB J 3 h (fun h=>?_) fun h=>wa J 8 (Zj [] (ih3 (Zi (d+1)) h))
  cases h
  exact wr J 5 func229 []
 exact Zj [] (ih N 0 h)
theorem Zfs (N:Nat) (v_:Zm) (r:Bool) (h:P7 N v_=some r) :
 Fn Tryz.prog 165 ⟨0,[.a (Xx v_)],[],[],0,.O r,[],[]⟩:=by
 refine Zs func165 rfl (fun E F w=>?_)
 unfold P7 at h
 refine wB J 17 h (fun h=>?_) fun h=>?_
 ·refine Zo J 7 h (fun h=>?_) fun h=>?_
  ·cases h
   exact wr J 11 func165 []
  refine wB J 5 h (fun h=>?_) fun h=>?_
  ·cases h
   exact wr J 6 func165 []
  cases h
  exact wr J 6 func165 []
 refine Zo J 6 h (fun h=>?_) fun h=>?_
 ·cases h
  exact wr J 7 func165 []
 refine Zo J 7 h (fun h=>?_) fun h=>?_
 ·cases h
  exact wr J 12 func165 []
 refine Zo J 6 h (fun h=>?_) fun h=>?_
 ·cases h
  exact wr J 6 func165 []
 refine wO J 2 h fun x1 c h=>Zn (Zk9 N v_.S _ c) [] [] ?_
 cases h
 exact wr J 3 func165 []
theorem Bi (N:Nat) (v_:Zm) (r:Int) (h:RN N v_=some r) :
 Fn Tryz.prog 267 ⟨0,[.a (Xx v_)],[],[],0,.I r,[],[]⟩:=by
 refine Zs func267 rfl (fun E F w=>?_)
 unfold RN at h
 refine wB J 17 h (fun h=>?_) fun h=>?_
 ·cases h
  exact wr J 7 func267 []
 refine wB J 6 h (fun h=>?_) fun h=>?_
 ·cases h
  exact wr J 8 func267 []
 cases h
 exact wr J 7 func267 []
theorem Zjs (N:Nat) (s_:Yb) (v_:Zm) (r:Bool) (h:PP N s_ v_=some r) :
 Fn Tryz.prog 227 ⟨0,[.a (UG s_),.a (Xx v_)],[],[],0,.O r,[],[]⟩:=by
 refine Zs func227 rfl (fun E F w=>?_)
 unfold PP at h
 refine wO J 9 h fun x1 c h=>Zn (ZkE N s_ _ c) [] [] ?_
 refine Zo J 1 h (fun h=>wa J 25 (ZA ?_)) fun h=>?_
 ·cases h
  exact Z4 J func227 []
 refine wO J 1 h fun x2 d h=>Zn (Zfs N v_ _ d) [] [] ?_
 refine Zo J 2 h (fun h=>wa J 21 (ZA ?_)) fun h=>?_
 ·cases h
  exact Z4 J func227 []
 refine Zo J 7 h (fun h=>wa J 14 (ZA ?_)) fun h=>?_
 ·cases h
  exact Z4 J func227 []
 refine wO J 1 h fun x3 e h=>Zn (Bi N v_ _ e) [] [] ?_
 refine Zo J 5 h (fun h=>wa J 7 (ZA ?_)) fun h=>?_
 ·cases h
  exact Z4 J func227 []
 refine wO J 1 h fun x4 f h=>Zn (Bi N v_ _ f) [] [] (wa J 5 (ZA ?_))
 cases h
 exact Z4 J func227 []
theorem ZsD (N:Nat) (l_:(List T4)) (v_:(List Zm)) (r:Bool) (h:G4 N l_ v_=some r) :
 Fn Tryz.prog 187 ⟨2,[.S 0,.S 1],[(0,.sl YM l_),(1,.sl ZD v_)],[],2,.O r,[],[]⟩:=by
 refine Zs func187 rfl (fun E F w=>?_)
 unfold G4 at h
 refine wB J 13 h (fun h=>?_) fun h=>wa J 7 (ZB (σ:=Unit) (fun st=>(Rp l_ v_ [])) (fun st=>Zb7=some r) ?_ (fun j1=>?_))
 ·cases h
  exact wr J 5 func187 []
 ·intro _ h
  replace h:Zb7=some r:=h
  unfold Zb7 at h
  cases h
  exact wr J 4 func187 []
 refine wa J 1 (ZF (σ:=Int) (fun st=>(Rp l_ v_ [(0,.S 0),(1,.S 1),(5,.I st)])) (fun n st=>Rb N l_ v_ n st) (r:=r) (fun _=>rfl) ?_ (fun ih=>?_))
 ·intro n2 ih3
  intro c h
  replace h:Rb N l_ v_ (n2+1) c=some r:=h
  unfold Rb at h
  refine Zo J 8 h (fun h=>wa J 2 (Zj [] (j1 () h))) fun h=>?_
  refine wO J 8 h fun d e h=>Zq J Xq e ?_
  refine wO J 4 h fun f g h=>Zq J Z5 g ?_
  refine wO J 1 h fun i j h=>Zn (Zjs N d.Sort' f _ j) [] [] (wa J 1 (ZA ?_))
  refine eB h (fun h=>?_) fun h=>wa J 8 (Zj [] (ih3 (Zi (c+1)) h))
  cases h
  exact wr J 5 func187 []
 exact Zj [] (ih N 0 h)
theorem ZrW (N:Nat) (d_:T0) (l_:(List Zm)) (r:Bool) (h:Hj N d_ l_=some r) :
 Fn Tryz.prog 105 ⟨4,[.a (Yt 0 1 2 d_),.S 3],(Yn 0 1 2 d_ [(3,.sl ZD l_)]),[],4,.O r,[],[]⟩:=by
 refine Zs func105 rfl (fun E F w=>?_)
 unfold Hj at h
 refine wO J 10 h fun x1 c h=>Zn (ZsD N d_.Fields l_ _ c) [] [(0,.sl 0),(1,.sl 3)] ?_
 cases h
 exact wr J 2 func105 []
theorem Zgz (N:Nat) (decls_:(List T0)) (label_:Int) (r:Bool) (h:P5 N decls_ label_=some r) :
 Fn Tryz.prog 119 ⟨1,[.S 0,.I label_],[(0,.sl ZL decls_)],[],1,.O r,[],[]⟩:=by
 refine Zs func119 rfl (fun E F w=>?_)
 unfold P5 at h
 refine wO J 7 h fun x1 c h=>Zn (Zbm N decls_ _ c) [] [(0,.sl 0)] ?_
 refine Zo J 1 h (fun h=>?_) fun h=>?_
 ·cases h
  exact wr J 11 func119 []
 refine wB J 4 h (fun h=>?_) fun h=>?_
 ·cases h
  exact wr J 7 func119 []
 cases h
 exact wr J 7 func119 []
theorem ZjT (N:Nat) (d_:T0) (values_:(List Zm)) (r:Bool) (h:MI N d_ values_=some r) :
 Fn Tryz.prog 120 ⟨4,[.a (Yt 0 1 2 d_),.S 3],(Yn 0 1 2 d_ [(3,.sl ZD values_)]),[],4,.O r,[],[]⟩:=by
 refine Zs func120 rfl (fun E F w=>?_)
 unfold MI at h
 refine wa J 10 (ZB (σ:=Unit) (fun st=>(ZdA d_ values_ [(1,.S 3),(2,.B 4 0)])) (fun st=>QD d_ values_=some r) ?_ (fun j1=>?_))
 ·intro _ h
  replace h:QD d_ values_=some r:=h
  unfold QD at h
  cases h
  exact wr J 10 func120 []
 refine wa J 1 (ZF (σ:=Int) (fun st=>(ZdA d_ values_ [(1,.S 3),(2,.B 4 0),(5,.I st)])) (fun n st=>Se N d_ values_ n st) (r:=r) (fun _=>rfl) ?_ (fun ih=>?_))
 ·intro n2 ih3
  intro c h
  replace h:Se N d_ values_ (n2+1) c=some r:=h
  unfold Se at h
  refine Zo J 8 h (fun h=>wa J 9 (Zj [] (j1 () h))) fun h=>?_
  refine Zo J 7 h (fun h=>wa J 2 (Zj [] (j1 () h))) fun h=>?_
  refine wO J 9 h fun d e h=>Zq J Xq e ?_
  refine wO J 4 h fun f g h=>Zq J Z5 g ?_
  refine wO J 1 h fun i j h=>Zn (Zhu N d.Sort' f _ j) [] [] (wa J 1 (ZA ?_))
  refine eB h (fun h=>?_) fun h=>wa J 8 (Zj [] (ih3 (Zi (c+1)) h))
  cases h
  exact wr J 5 func120 []
 exact Zj [] (ih N 0 h)
theorem Zge (N:Nat) (d_:T0) (values_:(List Zm)) (known_:(List Zm)) (r:(List Zm)) (h:Lb N d_ values_ known_=some r) :
 Fn Tryz.prog 122 ⟨5,[.a (Yt 0 1 2 d_),.S 3,.S 4],(Yn 0 1 2 d_ [(3,.sl ZD values_),(4,.sl ZD known_)]),[],6,.S 5,[],[(5,.own ZD r true)]⟩:=by
 refine Zs func122 rfl (fun E F w=>?_)
 unfold Lb at h
 refine wa J 7 (Z8 J [] Z5 ([]:List Zm) ?_)
 refine wO J 1 h fun x1 c h=>Yr J ZD c (wa J 7 (ZB (σ:=(List Zm)) (fun st=>⟨[(7,.S 7)],[(7,.own ZD st true)],(Yn 0 1 2 d_ [(3,.sl ZD values_),(4,.sl ZD known_)]),8⟩) (fun st=>D8 st=some r) ?_ (fun j1=>?_)))
 ·intro d h
  replace h:D8 d=some r:=h
  unfold D8 at h
  cases h
  exact wr J 5 func122 [(5,.sl 7)]
 refine wa J 1 (ZF (σ:=(List Zm) × Int) (fun st=>⟨[(1,.S 3),(3,.B 5 0),(7,.S 7),(8,.I st.2)],[(5,.box (Yt 0 1 2 d_) 75),(7,.own ZD st.1 true)],(Yn 0 1 2 d_ [(3,.sl ZD values_),(4,.sl ZD known_)]),8⟩) (fun n st=>RY d_ values_ n st.1 st.2) (r:=r) (fun _=>rfl) ?_ (fun ih=>?_))
 ·intro n2 ih3
  rintro ⟨e,f⟩ h
  replace h:RY d_ values_ (n2+1) e f=some r:=h
  unfold RY at h
  refine Zo J 8 h (fun h=>wa J 2 (Zj [] (j1 e h))) fun h=>?_
  refine wO J 12 h fun g i h=>Zq J Z5 i ?_
  exact wO J 1 h fun j k h=>Z9 J ZD k (Xj J [] Z5 g k (ZA (wa J 6 (Zj [] (ih3 ((ZW e (Zi (d_.First+f)) g),(Zi (f+1))) h)))))
 exact Zj [] (ih N (x1,0) h)
theorem Zsq (N:Nat) (g_:T6) (all_:(List Zm)) (r:Bool) (h:GG N g_ all_=some r) :
 Fn Tryz.prog 121 ⟨3,[.a [.sl 0,.sl 1],.S 2],[(0,.sl YO g_.Diffs),(1,.sl (rP (rI .i64) (rI .i64)) g_.Equals),(2,.sl ZD all_)],[],3,.O r,[],[]⟩:=by
 refine Zs func121 rfl (fun E F w=>?_)
 unfold GG at h
 refine wa J 10 (ZB (σ:=Unit) (fun st=>(Rl g_.Diffs g_.Equals all_ [(1,.S 2),(2,.B 3 0)])) (fun st=>LR N g_ all_=some r) ?_ (fun j1=>?_))
 ·intro _ h
  replace h:LR N g_ all_=some r:=h
  unfold LR at h
  refine wa J 5 (ZB (σ:=Unit) (fun st=>(ZbO g_.Diffs g_.Equals all_ [])) (fun st=>Zbe=some r) ?_ (fun j9=>?_))
  ·intro _ h
   replace h:Zbe=some r:=h
   unfold Zbe at h
   cases h
   exact wr J 4 func121 []
  refine wa J 1 (ZF (σ:=Int) (fun st=>(Rl g_.Diffs g_.Equals all_ [(1,.S 2),(2,.B 3 0),(9,.I st)])) (fun n st=>SI g_ all_ n st) (r:=r) (fun _=>rfl) ?_ (fun ih=>?_))
  ·intro n3 ih11
   intro c h
   replace h:SI g_ all_ (n3+1) c=some r:=h
   unfold SI at h
   refine Zo J 9 h (fun h=>wa J 2 (Zj [] (j9 () h))) fun h=>?_
   refine wO J 10 h fun d e h=>Zq J (oP (oI .i64) (oI .i64)) e (P9 0 rfl ?_)
   refine wO J 1 h fun f g h=>Zq J Z5 g ?_
   refine wO J 5 h fun i j h=>Zq J (oP (oI .i64) (oI .i64)) j (P9 1 rfl ?_)
   refine wO J 1 h fun k l h=>Zq J Z5 l (wa J 5 (ZA ?_))
   refine wB J 6 h (fun h=>?_) fun h=>?_
   ·cases h
    exact wr J 17 func121 []
   refine wB J 5 h (fun h=>?_) fun h=>?_
   ·cases h
    exact wr J 12 func121 []
   refine wB J 7 h (fun h=>?_) fun h=>wa J 8 (Zj [] (ih11 (Zi (c+1)) h))
   cases h
   exact wr J 5 func121 []
  exact Zj [] (ih N 0 h)
 refine wa J 1 (ZF (σ:=Int) (fun st=>(Rl g_.Diffs g_.Equals all_ [(1,.S 2),(2,.B 3 0),(5,.I st)])) (fun n st=>W9 N g_ all_ n st) (r:=r) (fun _=>rfl) ?_ (fun ih=>?_))
 ·intro n4 ih12
  intro m h
  replace h:W9 N g_ all_ (n4+1) m=some r:=h
  unfold W9 at h
  refine Zo J 9 h (fun h=>wa J 2 (Zj [] (j1 () h))) fun h=>?_
  refine wO J 9 h fun o p h=>Zq J Ut p (wa J 16 (ZB (σ:=Int) (fun st=>(Zj7 o g_.Diffs g_.Equals all_ [(1,.S 2),(2,.B 3 0),(5,.I m),(6,.B 5 0),(7,.I st),(8,.I 0)])) (fun st=>PC N all_ m (W9 N g_ all_ n4) o st=some r) ?_ (fun j17=>?_)))
  ·intro q h
   replace h:PC N all_ m (W9 N g_ all_ n4) o q=some r:=h
   unfold PC at h
   refine wa J 7 (ZB (σ:=Int) (fun st=>(Zj7 o g_.Diffs g_.Equals all_ [(1,.S 2),(2,.B 3 0),(5,.I m),(6,.B 5 0),(7,.I q),(8,.I st)])) (fun st=>QF all_ m (W9 N g_ all_ n4) o q st=some r) ?_ (fun j18=>?_))
   ·intro s h
    replace h:QF all_ m (W9 N g_ all_ n4) o q s=some r:=h
    unfold QF at h
    refine Zo J 6 h (fun h=>?_) fun h=>?_
    ·refine Zo J 13 h (fun h=>?_) fun h=>?_
     ·refine wB J 18 h (fun h=>?_) fun h=>wa J 8 (Zj [] (ih12 (Zi (m+1)) h))
      cases h
      exact wr J 5 func121 []
     refine wO J 3 h fun t u h=>Zq J Z5 u ?_
     refine wB J 6 h (fun h=>?_) fun h=>?_
     ·cases h
      exact wr J 13 func121 []
     refine wB J 8 h (fun h=>?_) fun h=>wa J 8 (Zj [] (ih12 (Zi (m+1)) h))
     cases h
     exact wr J 5 func121 []
    refine wO J 3 h fun v x h=>Zq J Z5 x ?_
    refine wB J 5 h (fun h=>?_) fun h=>?_
    ·cases h
     exact wr J 27 func121 []
    refine Zo J 4 h (fun h=>?_) fun h=>?_
    ·refine wB J 18 h (fun h=>?_) fun h=>wa J 8 (Zj [] (ih12 (Zi (m+1)) h))
     cases h
     exact wr J 5 func121 []
    refine wO J 3 h fun y z h=>Zq J Z5 z ?_
    refine wB J 6 h (fun h=>?_) fun h=>?_
    ·cases h
     exact wr J 13 func121 []
    refine wB J 8 h (fun h=>?_) fun h=>wa J 8 (Zj [] (ih12 (Zi (m+1)) h))
    cases h
    exact wr J 5 func121 []
   refine VH h (fun h=>wa J 2 (Zj [] (j18 0 h))) fun h=>?_
   refine wO J 5 h fun A C h=>Zq J Z5 C ?_
   exact wO J 1 h fun D G h=>Zn (D5 N A _ G) [] [] (wa J 2 (Zj [] (j18 D h)))
  refine VH h (fun h=>wa J 2 (Zj [] (j17 0 h))) fun h=>?_
  refine wO J 5 h fun H R h=>Zq J Z5 R ?_
  exact wO J 1 h fun T U h=>Zn (D5 N H _ U) [] [] (wa J 2 (Zj [] (j17 T h)))
 exact Zj [] (ih N 0 h)
theorem Ztf (N:Nat) (decls_:(List T0)) (label_:Int) (values_:(List Zm)) (known_:(List Zm)) (r:Bool) (h:MP N decls_ label_ values_ known_=some r) :
 Fn Tryz.prog 58 ⟨3,[.S 0,.I label_,.S 1,.S 2],[(0,.sl ZL decls_),(1,.sl ZD values_),(2,.sl ZD known_)],[],3,.O r,[],[]⟩:=by
 refine Zs func58 rfl (fun E F w=>?_)
 unfold MP at h
 refine wO J 9 h fun x1 c h=>Zn (Zgz N decls_ label_ _ c) [] [(0,.sl 0)] ?_
 refine wB J 2 h (fun h=>?_) fun h=>?_
 ·cases h
  exact wr J 20 func58 []
 refine wO J 2 h fun x2 d h=>Zn (ZeV N decls_ known_ _ d) [] [(0,.sl 0),(1,.sl 2)] ?_
 refine wB J 3 h (fun h=>?_) fun h=>?_
 ·cases h
  exact wr J 14 func58 []
 refine wO J 2 h fun x3 e h=>Zq J Yg e ?_
 refine wO J 2 h fun x4 f h=>Zn (ZjT N x3 values_ _ f) [] [(0,.sl 4),(1,.sl 5),(2,.sl 6),(3,.sl 1)] ?_
 refine wB J 3 h (fun h=>?_) fun h=>?_
 ·cases h
  exact wr J 5 func58 []
 refine wO J 6 h fun x5 g h=>Zq J Yg g ?_
 refine wO J 4 h fun x6 i h=>Zq J Yg i ?_
 refine wO J 3 h fun x7 j h=>Zn (Zge N x6 values_ known_ _ j) [] [(0,.sl 12),(1,.sl 13),(2,.sl 14),(3,.sl 1),(4,.sl 2)] ?_
 obtain ⟨x8,k,h⟩:=ob h
 refine Xe (Zsq N x5.Guard x7 _ k) [] [(0,.sl 9),(1,.sl 10),(2,.sl 15)] [15] (.inr ⟨rfl,trivial⟩) (wa J 1 (ZA ?_))
 cases h
 exact Z4 J func58 []
theorem ZqI (N:Nat) (decls_:(List T0)) (label_:Int) (values_:(List Zm)) (known_:(List Zm)) (r:(List Zm) × Int) (h:HI N decls_ label_ values_ known_=some r) :
 Fn Tryz.prog 106 ⟨3,[.S 0,.I label_,.S 1,.S 2],[(0,.sl ZL decls_),(1,.sl ZD values_),(2,.sl ZD known_)],[],4,.t [.inl (.sl 3),.inl (.I r.2)],[],[(3,.own ZD r.1 true)]⟩:=by
 refine Zs func106 rfl (fun E F w=>?_)
 unfold HI at h
 refine wO J 11 h fun x1 c h=>Zn (Zgz N decls_ label_ _ c) [] [(0,.sl 0)] ?_
 refine wB J 2 h (fun h=>?_) fun h=>?_
 ·cases h
  exact wr J 13 func106 [(3,.nil)]
 refine wO J 2 h fun x2 d h=>Zn (ZeV N decls_ known_ _ d) [] [(0,.sl 0),(1,.sl 2)] ?_
 refine wB J 4 h (fun h=>?_) fun h=>?_
 ·cases h
  exact wr J 6 func106 [(3,.nil)]
 refine wO J 5 h fun x3 e h=>Zq J Yg e ?_
 refine wO J 2 h fun x4 f h=>Zn (ZjT N x3 values_ _ f) [] [(0,.sl 4),(1,.sl 5),(2,.sl 6),(3,.sl 1)] ?_
 refine wB J 3 h (fun h=>?_) fun h=>?_
 ·cases h
  exact wr J 6 func106 [(3,.nil)]
 refine wO J 7 h fun x5 g h=>Zq J Yg g ?_
 refine wO J 3 h fun x6 i h=>Zn (Zge N x5 values_ known_ _ i) [] [(0,.sl 8),(1,.sl 9),(2,.sl 10),(3,.sl 1),(4,.sl 2)] ?_
 cases h
 exact wr J 3 func106 [(3,.sl 11)]
theorem Zq7 (N:Nat) (g_:T5) (m_:T8) (s_:ZJ) (x_:T3) (r:ZJ × Int) (h:PQ N g_ m_ s_ x_=some r) :
 Fn Tryz.prog 52 ⟨10,[.a (ZT 0 1 2 3 g_),.a (ZX 4 5 6 m_),.a (Xy 7 8 s_),.a (X5 9 x_)],((0,.sl rS g_.Roles)::(1,.sl ZL g_.Decls)::(2,.sl Yf g_.Edges)::(3,.sl Z2 g_.Timeouts)::(4,.sl rB m_.Finals)::(5,.sl Xn m_.Moves)::(6,.sl Z2 m_.Timeouts)::XG 7 8 s_ [(9,.sl ZD x_.Values)]),[],12,.t [.inr (Xy 10 11 r.1),.inl (.I r.2)],(XG 10 11 r.1 []),[]⟩:=by
 refine Zs func52 rfl (fun E F w=>?_)
 unfold PQ at h
 refine wO J 15 h fun x1 c h=>Zn (Zjm N g_ m_ s_ _ c) [] [(0,.sl 0),(1,.sl 1),(2,.sl 2),(3,.sl 3),(4,.sl 4),(5,.sl 5),(6,.sl 6),(7,.sl 7),(8,.sl 8)] ?_
 refine wB J 2 h (fun h=>?_) fun h=>?_
 ·cases h
  exact wr J 7 func52 [(10,.nil),(11,.nil)]
 refine wO J 8 h fun x2 d h=>Zn (Zf0 N m_ s_.At x_ _ d) [] [(0,.sl 4),(1,.sl 5),(2,.sl 6),(3,.sl 9)] ?_
 refine wB J 13 h (fun h=>?_) fun h=>?_
 ·cases h
  exact wr J 7 func52 [(10,.nil),(11,.nil)]
 refine wB J 7 h (fun h=>?_) fun h=>?_
 ·cases h
  exact wr J 7 func52 [(10,.nil),(11,.nil)]
 refine wO J 7 h fun x3 e h=>Zq J Yg e ?_
 refine wO J 3 h fun x4 f h=>Zn (ZrW N x3 x_.Values _ f) [] [(0,.sl 16),(1,.sl 17),(2,.sl 18),(3,.sl 9)] (wa J 2 (ZA ?_))
 refine eB h (fun h=>?_) fun h=>?_
 ·cases h
  exact wr J 7 func52 [(10,.nil),(11,.nil)]
 refine wO J 11 h fun x5 g h=>Zn (Ztf N g_.Decls x_.Label x_.Values s_.Known _ g) [] [(0,.sl 1),(1,.sl 9),(2,.sl 7)] ?_
 refine wa J 2 (ZB (σ:=Bool) (fun st=>⟨[(4,.B 10 0),(5,.B 11 0),(6,.B 12 0),(7,.B 13 0),(8,.B 14 0),(10,.I x2),(46,.O st)],[(10,.box (ZT 0 1 2 3 g_) 27),(11,.box (ZX 4 5 6 m_) 31),(12,.box (Xy 7 8 s_) 57),(13,.box (X5 9 x_) 46),(14,.box [.I 0,.nil,.nil] 57)],((0,.sl rS g_.Roles)::(1,.sl ZL g_.Decls)::(2,.sl Yf g_.Edges)::(3,.sl Z2 g_.Timeouts)::(4,.sl rB m_.Finals)::(5,.sl Xn m_.Moves)::(6,.sl Z2 m_.Timeouts)::XG 7 8 s_ [(9,.sl ZD x_.Values)]),19⟩) (fun st=>U2 N g_ m_ s_ x_ x2 st=some r) ?_ (fun j1=>?_))
 ·intro i h
  replace h:U2 N g_ m_ s_ x_ x2 i=some r:=h
  unfold U2 at h
  refine eB h (fun h=>?_) fun h=>?_
  ·cases h
   exact wr J 7 func52 [(10,.nil),(11,.nil)]
  refine wO J 8 h fun x8 j h=>Zq J YH j ?_
  refine wO J 16 h fun x9 k h=>Zn (ZqI N g_.Decls x_.Label x_.Values s_.Known _ k) [] [(0,.sl 1),(1,.sl 9),(2,.sl 7)] ?_
  refine Zo J 12 h (fun h=>wa J 8 (UD [21] ?_)) fun h=>wa J 2 (Z8 J [] Z5 ([]:List Zm) ?_)
  ·cases h
   exact Z4 J func52 [(10,.sl 21),(11,.nil)]
  refine wO J 2 h fun l m h=>Yr J ZD m (wa J 9 (UD [21] (UD [23] ?_)))
  cases h
  exact Z4 J func52 [(10,.sl 21),(11,.sl 23)]
 refine eB h (fun h=>wa J 17 (Zj [] (j1 true h))) fun h=>?_
 refine wO J 3 h fun o p h=>Zq J YH p ?_
 refine Zo J 3 h (fun h=>wa J 10 (Zj [] (j1 false h))) fun h=>?_
 exact wO J 4 h fun q s h=>Zn (Zgq N x_.Values s_.Pending _ s) [] [(0,.sl 9),(1,.sl 8)] (wa J 5 (Zj [] (j1 (!q) h)))
theorem Zhg (N:Nat) (g_:T5) (m_:T8) (history_:(List T3)) (r:ZJ × Int × Int) (h:SE N g_ m_ history_=some r) :
 Fn Tryz.prog 19 ⟨8,[.a (ZT 0 1 2 3 g_),.a (ZX 4 5 6 m_),.S 7],((0,.sl rS g_.Roles)::(1,.sl ZL g_.Decls)::(2,.sl Yf g_.Edges)::(3,.sl Z2 g_.Timeouts)::ZZ 4 5 6 m_ [(7,.sl Yv history_)]),[],10,.t [.inr (Xy 8 9 r.1),.inl (.I r.2.1),.inl (.I r.2.2)],(XG 8 9 r.1 []),[]⟩:=by
 refine Zs func19 rfl (fun E F w=>?_)
 unfold SE at h
 refine wO J 12 h fun x1 c h=>Zn (ZiL N g_ m_ _ c) [] [(0,.sl 0),(1,.sl 1),(2,.sl 2),(3,.sl 3),(4,.sl 4),(5,.sl 5),(6,.sl 6)] ?_
 refine wO J 8 h fun x2 d h=>Zn (Zdm N g_ m_ _ d) [] [(0,.sl 0),(1,.sl 1),(2,.sl 2),(3,.sl 3),(4,.sl 4),(5,.sl 5),(6,.sl 6)] ?_
 refine wB J 2 h (fun h=>?_) fun h=>wa J 7 (ZB (σ:=Int × (List Zm) × (List Zm)) (fun st=>⟨[(2,.S 7),(6,.B 10 0),(9,.B 13 0)],[(10,.box [.I 0,.nil,.nil] 57),(13,.box [.I st.1,.sl 14,.sl 15] 57)],((0,.sl rS g_.Roles)::(1,.sl ZL g_.Decls)::(2,.sl Yf g_.Edges)::(3,.sl Z2 g_.Timeouts)::ZZ 4 5 6 m_ [(7,.sl Yv history_),(14,.sl ZD st.2.1),(15,.sl ZD st.2.2)]),16⟩) (fun st=>BR history_ st.1 st.2.1 st.2.2=some r) ?_ (fun j1=>?_))
 ·cases h
  exact wr J 8 func19 [(8,.nil),(9,.nil)]
 ·rintro ⟨e,f,g⟩ h
  replace h:BR history_ e f g=some r:=h
  unfold BR at h
  cases h
  exact wr J 9 func19 [(8,.sl 14),(9,.sl 15)]
 refine wa J 1 (ZF (σ:=Int × (List Zm) × (List Zm) × Int) (fun st=>⟨[(2,.S 7),(3,.B 8 0),(4,.B 9 0),(6,.B 10 0),(9,.B 13 0),(10,.I st.2.2.2)],[(8,.box (ZT 0 1 2 3 g_) 27),(9,.box (ZX 4 5 6 m_) 31),(10,.box [.I 0,.nil,.nil] 57),(13,.box [.I st.1,.sl 14,.sl 15] 57)],((0,.sl rS g_.Roles)::(1,.sl ZL g_.Decls)::(2,.sl Yf g_.Edges)::(3,.sl Z2 g_.Timeouts)::ZZ 4 5 6 m_ [(7,.sl Yv history_),(14,.sl ZD st.2.1),(15,.sl ZD st.2.2.1)]),16⟩) (fun n st=>SS N g_ m_ history_ n st.1 st.2.1 st.2.2.1 st.2.2.2) (r:=r) (fun _=>rfl) ?_ (fun ih=>?_))
 ·intro n2 ih3
  rintro ⟨i,j,k,l⟩ h
  replace h:SS N g_ m_ history_ (n2+1) i j k l=some r:=h
  unfold SS at h
  refine Zo J 8 h (fun h=>wa J 2 (Zj [] (j1 (i,j,k) h))) fun h=>?_
  refine wO J 11 h fun m o h=>Zq J W1 o ?_
  refine wO J 1 h fun p q h=>Zn (Zq7 N g_ m_ (⟨i,j,k⟩:ZJ) m _ q) [] [(0,.sl 0),(1,.sl 1),(2,.sl 2),(3,.sl 3),(4,.sl 4),(5,.sl 5),(6,.sl 6),(7,.sl 14),(8,.sl 15),(9,.sl 17)] (wa J 6 (ZA ?_))
  refine wB J 6 h (fun h=>?_) fun h=>wa J 12 (Zj [(14,.sl 18),(15,.sl 19)] (ih3 (p.1.At,p.1.Known,p.1.Pending,(Zi (l+1))) h))
  cases h
  exact wr J 10 func19 [(8,.sl 14),(9,.sl 15)]
 exact Zj [(14,.sl 11),(15,.sl 12)] (ih N (x1.At,x1.Known,x1.Pending,0) h)
theorem Zj6 (N:Nat) (d_:T0) (l_:(List Zm)) (r:Int) (h:Mz N d_ l_=some r) :
 Fn Tryz.prog 160 ⟨4,[.a (Yt 0 1 2 d_),.S 3],(Yn 0 1 2 d_ [(3,.sl ZD l_)]),[],4,.I r,[],[]⟩:=by
 refine Zs func160 rfl (fun E F w=>?_)
 unfold Mz at h
 refine wa J 10 (ZB (σ:=Unit) (fun st=>⟨[],[],(Yn 0 1 2 d_ [(3,.sl ZD l_)]),5⟩) (fun st=>Ba=some r) ?_ (fun j1=>?_))
 ·intro _ h
  replace h:Ba=some r:=h
  unfold Ba at h
  cases h
  exact wr J 4 func160 []
 refine wa J 1 (ZF (σ:=Int) (fun st=>(ZdA d_ l_ [(1,.S 3),(2,.B 4 0),(5,.I st)])) (fun n st=>VU N d_ l_ n st) (r:=r) (fun _=>rfl) ?_ (fun ih=>?_))
 ·intro n2 ih3
  intro c h
  replace h:VU N d_ l_ (n2+1) c=some r:=h
  unfold VU at h
  refine Zo J 8 h (fun h=>wa J 2 (Zj [] (j1 () h))) fun h=>?_
  refine wO J 9 h fun d e h=>Zq J Xq e ?_
  refine wO J 4 h fun f g h=>Zq J Z5 g ?_
  refine wO J 1 h fun i j h=>Zn (Zjs N d.Sort' f _ j) [] [] (wa J 1 (ZA ?_))
  refine eB h (fun h=>?_) fun h=>wa J 8 (Zj [] (ih3 (Zi (c+1)) h))
  cases h
  exact wr J 6 func160 []
 exact Zj [] (ih N 0 h)
theorem Zci (N:Nat) (d_:T0) (l_:(List Zm)) (known_:(List Zm)) (x_:Int) (r:Zm × Bool) (h:Td N d_ l_ known_ x_=some r) :
 Fn Tryz.prog 268 ⟨5,[.a (Yt 0 1 2 d_),.S 3,.S 4,.I x_],(Yn 0 1 2 d_ [(3,.sl ZD l_),(4,.sl ZD known_)]),[],5,.t [.inr (Xx r.1),.inl (.b r.2)],[],[]⟩:=by
 refine Zs func268 rfl (fun E F w=>?_)
 unfold Td at h
 refine wB J 14 h (fun h=>?_) fun h=>?_
 ·refine wO J 3 h fun x1 c h=>Zn (ZhW N 0 _ c) [] [] ?_
  cases h
  exact wr J 3 func268 []
 refine Zo J 8 h (fun h=>?_) fun h=>?_
 ·refine wO J 17 h fun x5 d h=>Zq J Z5 d ?_
  refine wO J 3 h fun x6 e h=>Zq J Z5 e (wa J 5 (ZA ?_))
  cases h
  exact Z4 J func268 []
 refine wB J 10 h (fun h=>?_) fun h=>?_
 ·refine wO J 8 h fun x2 f h=>Zq J Z5 f ?_
  cases h
  exact wr J 4 func268 []
 refine wO J 7 h fun x3 g h=>Zq J Z5 g ?_
 refine wO J 3 h fun x4 i h=>Zq J Z5 i (wa J 5 (ZA ?_))
 cases h
 exact Z4 J func268 []
theorem Zrh (N:Nat) (d_:T0) (l_:(List Zm)) (known_:(List Zm)) (part_:Int) (r:Bool) (h:Pn N d_ l_ known_ part_=some r) :
 Fn Tryz.prog 228 ⟨5,[.a (Yt 0 1 2 d_),.S 3,.S 4,.I part_],(Yn 0 1 2 d_ [(3,.sl ZD l_),(4,.sl ZD known_)]),[],5,.O r,[],[]⟩:=by
 refine Zs func228 rfl (fun E F w=>?_)
 unfold Pn at h
 refine wB J 20 h (fun h=>?_) fun h=>?_
 ·refine wO J 9 h fun x1 c h=>Zq J (oP (oI .i64) (oI .i64)) c (wa J 9 (XA 0 rfl ?_))
  refine wO J 1 h fun x2 d h=>Zn (Zci N d_ l_ known_ x1.1 _ d) [] [(0,.sl 0),(1,.sl 1),(2,.sl 2),(3,.sl 3),(4,.sl 4)] (wa J 12 (XA 1 rfl ?_))
  refine wO J 1 h fun x3 e h=>Zn (Zci N d_ l_ known_ x1.2 _ e) [] [(0,.sl 0),(1,.sl 1),(2,.sl 2),(3,.sl 3),(4,.sl 4)] ?_
  refine Zo J 11 h (fun h=>?_) fun h=>?_
  ·cases h
   exact wr J 11 func228 []
  refine wB J 3 h (fun h=>?_) fun h=>?_
  ·cases h
   exact wr J 8 func228 []
  cases h
  exact wr J 8 func228 []
 refine wO J 8 h fun x4 f h=>Zq J Ut f ?_
 refine wO J 11 h fun x5 g h=>Zn (Zci N d_ l_ known_ x4.X _ g) [] [(0,.sl 0),(1,.sl 1),(2,.sl 2),(3,.sl 3),(4,.sl 4)] ?_
 refine wO J 14 h fun x6 i h=>Zn (Zci N d_ l_ known_ x4.Y _ i) [] [(0,.sl 0),(1,.sl 1),(2,.sl 2),(3,.sl 3),(4,.sl 4)] ?_
 refine Zo J 11 h (fun h=>wa J 13 (ZA ?_)) fun h=>?_
 ·cases h
  exact Z4 J func228 []
 refine Zo J 3 h (fun h=>wa J 10 (ZA ?_)) fun h=>?_
 ·cases h
  exact Z4 J func228 []
 refine wO J 1 h fun x7 j h=>Zn (Bi N x5.1 _ j) [] [] ?_
 refine wO J 1 h fun x8 k h=>Zn (Bi N x6.1 _ k) [] [] (wa J 6 (ZA ?_))
 cases h
 exact Z4 J func228 []
theorem Zil (N:Nat) (d_:T0) (l_:(List Zm)) (known_:(List Zm)) (r:Int) (h:M4 N d_ l_ known_=some r) :
 Fn Tryz.prog 161 ⟨5,[.a (Yt 0 1 2 d_),.S 3,.S 4],(Yn 0 1 2 d_ [(3,.sl ZD l_),(4,.sl ZD known_)]),[],5,.I r,[],[]⟩:=by
 refine Zs func161 rfl (fun E F w=>?_)
 unfold M4 at h
 refine wa J 10 (ZB (σ:=Unit) (fun st=>⟨[],[],(Yn 0 1 2 d_ [(3,.sl ZD l_),(4,.sl ZD known_)]),6⟩) (fun st=>Zca=some r) ?_ (fun j1=>?_))
 ·intro _ h
  replace h:Zca=some r:=h
  unfold Zca at h
  cases h
  exact wr J 4 func161 []
 refine wa J 1 (ZF (σ:=Int) (fun st=>⟨[(1,.S 3),(2,.S 4),(3,.B 5 0),(7,.I st)],[(5,.box (Yt 0 1 2 d_) 75)],(Yn 0 1 2 d_ [(3,.sl ZD l_),(4,.sl ZD known_)]),6⟩) (fun n st=>Uk N d_ l_ known_ n st) (r:=r) (fun _=>rfl) ?_ (fun ih=>?_))
 ·intro n2 ih3
  intro c h
  replace h:Uk N d_ l_ known_ (n2+1) c=some r:=h
  unfold Uk at h
  refine wO J 5 h fun d e h=>Zn (Zdu N d_ _ e) [] [(0,.sl 0),(1,.sl 1),(2,.sl 2)] ?_
  refine Zo J 2 h (fun h=>wa J 2 (Zj [] (j1 () h))) fun h=>?_
  refine wO J 10 h fun f g h=>Zn (Zrh N d_ l_ known_ c _ g) [] [(0,.sl 0),(1,.sl 1),(2,.sl 2),(3,.sl 3),(4,.sl 4)] ?_
  refine wB J 2 h (fun h=>?_) fun h=>wa J 8 (Zj [] (ih3 (Zi (c+1)) h))
  cases h
  exact wr J 6 func161 []
 exact Zj [] (ih N 0 h)
theorem ZnY (N:Nat) (a_:(List Zm)) (b_:(List Zm)) (r:Int) (h:Zcn N a_ b_=some r) :
 Fn Tryz.prog 162 ⟨2,[.S 0,.S 1],[(0,.sl ZD a_),(1,.sl ZD b_)],[],2,.I r,[],[]⟩:=by
 refine Zs func162 rfl (fun E F w=>?_)
 unfold Zcn at h
 refine wa J 9 (ZB (σ:=Unit) (fun st=>(RL a_ b_ [])) (fun st=>GY=some r) ?_ (fun j1=>?_))
 ·intro _ h
  replace h:GY=some r:=h
  unfold GY at h
  cases h
  exact wr J 4 func162 []
 refine wa J 1 (ZF (σ:=Int) (fun st=>(RL a_ b_ [(0,.S 0),(1,.S 1),(5,.I st)])) (fun n st=>S6 a_ b_ n st) (r:=r) (fun _=>rfl) ?_ (fun ih=>?_))
 ·intro n2 ih3
  intro c h
  replace h:S6 a_ b_ (n2+1) c=some r:=h
  unfold S6 at h
  refine Zo J 8 h (fun h=>wa J 8 (Zj [] (j1 () h))) fun h=>?_
  refine Zo J 6 h (fun h=>wa J 2 (Zj [] (j1 () h))) fun h=>?_
  refine wO J 8 h fun d e h=>Zq J Z5 e ?_
  refine wO J 3 h fun f g h=>Zq J Z5 g (wa J 1 (R9 (ZA ?_)))
  refine eB h (fun h=>?_) fun h=>wa J 8 (Zj [] (ih3 (Zi (c+1)) h))
  cases h
  exact wr J 6 func162 []
 exact Zj [] (ih N 0 h)
theorem Zqf (N:Nat) (g_:T5) (m_:T8) (history_:(List T3)) (r:Xu × Bool × Int) (h:QC N g_ m_ history_=some r) :
 Fn Tryz.prog 85 ⟨8,[.a (ZT 0 1 2 3 g_),.a (ZX 4 5 6 m_),.S 7],((0,.sl rS g_.Roles)::(1,.sl ZL g_.Decls)::(2,.sl Yf g_.Edges)::(3,.sl Z2 g_.Timeouts)::ZZ 4 5 6 m_ [(7,.sl Yv history_)]),[],8,.t [.inr (Zdc r.1),.inl (.b r.2.1),.inl (.I r.2.2)],[],[]⟩:=by
 refine Zs func85 rfl (fun E F w=>?_)
 unfold QC at h
 refine wO J 13 h fun x1 c h=>Zn (Zhg N g_ m_ history_ _ c) [] [(0,.sl 0),(1,.sl 1),(2,.sl 2),(3,.sl 3),(4,.sl 4),(5,.sl 5),(6,.sl 6),(7,.sl 7)] ?_
 refine wB J 17 h (fun h=>?_) fun h=>?_
 ·cases h
  exact wr J 8 func85 []
 refine wB J 7 h (fun h=>?_) fun h=>?_
 ·cases h
  exact wr J 8 func85 []
 refine wO J 7 h fun x2 d h=>Zq J W1 d (wa J 20 (ZB (σ:=Int) (fun st=>⟨[(3,.B 8 0),(4,.B 9 0),(6,.B 10 0),(9,.B 13 0),(12,.B 16 0),(13,.B 17 0)],[(8,.box (ZT 0 1 2 3 g_) 27),(9,.box (ZX 4 5 6 m_) 31),(10,.box [.I 0,.I 0,.I 0,.I 0] 145),(13,.box (Xy 11 12 x1.1) 57),(16,.box (X5 15 x2) 46),(17,.box [.I x1.2.1,.I 0,.I 0,.I st] 145)],((0,.sl rS g_.Roles)::(1,.sl ZL g_.Decls)::(2,.sl Yf g_.Edges)::(3,.sl Z2 g_.Timeouts)::(4,.sl rB m_.Finals)::(5,.sl Xn m_.Moves)::(6,.sl Z2 m_.Timeouts)::(7,.sl Yv history_)::XG 11 12 x1.1 [(15,.sl ZD x2.Values)]),18⟩) (fun st=>Q9 N g_ m_ x1 x2 st=some r) ?_ (fun j1=>?_)))
 ·intro e h
  replace h:Q9 N g_ m_ x1 x2 e=some r:=h
  unfold Q9 at h
  refine wB J 9 h (fun h=>wa J 9 (ZA ?_)) fun h=>?_
  ·cases h
   exact wr J 7 func85 []
  refine wO J 9 h fun x3 f h=>Zn (Zf0 N m_ x1.1.At x2 _ f) [] [(0,.sl 4),(1,.sl 5),(2,.sl 6),(3,.sl 15)] ?_
  refine wB J 2 h (fun h=>?_) fun h=>?_
  ·cases h
   exact wr J 13 func85 []
  refine wO J 8 h fun x4 g h=>Zq J Yg g ?_
  refine wB J 17 h (fun h=>?_) fun h=>?_
  ·cases h
   exact wr J 13 func85 []
  refine wO J 6 h fun x5 i h=>Zn (Zj6 N x4 x2.Values _ i) [] [(0,.sl 19),(1,.sl 20),(2,.sl 21),(3,.sl 15)] ?_
  refine wB J 3 h (fun h=>?_) fun h=>?_
  ·refine wO J 5 h fun x6 j h=>Zn (Zj6 N x4 x2.Values _ j) [] [(0,.sl 19),(1,.sl 20),(2,.sl 21),(3,.sl 15)] ?_
   cases h
   exact wr J 13 func85 []
  refine wO J 8 h fun x7 k h=>Zn (Zil N x4 x2.Values x1.1.Known _ k) [] [(0,.sl 19),(1,.sl 20),(2,.sl 21),(3,.sl 15),(4,.sl 11)] ?_
  refine wB J 3 h (fun h=>?_) fun h=>?_
  ·refine wO J 7 h fun x8 l h=>Zn (Zil N x4 x2.Values x1.1.Known _ l) [] [(0,.sl 19),(1,.sl 20),(2,.sl 21),(3,.sl 15),(4,.sl 11)] ?_
   cases h
   exact wr J 13 func85 []
  refine wO J 6 h fun x9 m h=>Zn (ZnY N x2.Values x1.1.Pending _ m) [] [(0,.sl 15),(1,.sl 12)] ?_
  cases h
  exact wr J 13 func85 []
 exact eB h (fun h=>wa J 7 (Zj [] (j1 x2.Peer h))) fun h=>wa J 2 (Zj [] (j1 m_.Role h))
theorem Zn2 (N:Nat) (g_:T5) (i_:Int) (r:ByteArray) (h:HA N g_ i_=some r) :
 Fn Tryz.prog 163 ⟨4,[.a (ZT 0 1 2 3 g_),.I i_],(Yh 0 1 2 3 g_ []),[],4,.c (.s r),[],[]⟩:=by
 refine Zs func163 rfl (fun E F w=>?_)
 unfold HA at h
 refine wB J 11 h (fun h=>?_) fun h=>?_
 ·cases h
  exact wr J 12 func163 []
 refine wB J 7 h (fun h=>?_) fun h=>?_
 ·cases h
  exact wr J 5 func163 []
 refine wO J 7 h fun x1 d h=>Zq J Yg d ?_
 cases h
 exact wr J 4 func163 []
theorem ZkX (N:Nat) (rc:Int→Option ByteArray) (rc_ref15_digits_ct:(∀ (n_:Int) (r:ByteArray),rc n_=some r→Fn Tryz.prog 166 ⟨0,[.I n_],[],[],0,.c (.s r),[],[]⟩)) (n_:Int) (r:ByteArray) (h:HN N rc n_=some r) :
 Fn Tryz.prog 166 ⟨0,[.I n_],[],[],0,.c (.s r),[],[]⟩:=by
 refine Zs func166 rfl (fun E F w=>?_)
 unfold HN at h
 refine wB J 12 h (fun h=>?_) fun h=>?_
 ·refine wO J 5 h fun x1 d h=>Zn (rc_ref15_digits_ct (Zi (n_.tdiv 10)) _ d) [] [] (wa J 4 (RB ?_))
  obtain ⟨x2,e,h⟩:=ob h
  refine ZC e ?_
  cases h
  exact wr J 2 func166 []
 refine wB J 7 h (fun h=>wa J 6 (RB ?_)) fun h=>?_
 ·obtain ⟨x3,f,h⟩:=ob h
  refine ZC f ?_
  cases h
  exact wr J 2 func166 []
 refine wB J 7 h (fun h=>wa J 6 (RB ?_)) fun h=>?_
 ·cases h
  exact wr J 2 func166 []
 refine wO J 7 h fun x4 g h=>Zn (rc_ref15_digits_ct (Zi (n_.tdiv 10)) _ g) [] [] (wa J 4 (RB ?_))
 obtain ⟨x5,i,h⟩:=ob h
 refine ZC i ?_
 cases h
 exact wr J 2 func166 []
theorem Zns:∀ (N:Nat) (n_:Int) (r:ByteArray) (h:UM N n_=some r),Fn Tryz.prog 166 ⟨0,[.I n_],[],[],0,.c (.s r),[],[]⟩:=by
 intro N
 induction N with
 | zero=>intros;rename_i h;cases h
 | succ N ih=>intro n_ r h;exact ZkX N (UM N) ih n_ r h
theorem ZoA (N:Nat) (n_:Int) (r:ByteArray) (h:ZaX N n_=some r):Fn Tryz.prog 166 ⟨0,[.I n_],[],[],0,.c (.s r),[],[]⟩:=Zns N n_ r h
theorem ZcJ (N:Nat) (v_:Zm) (r:ByteArray) (h:RE N v_=some r) :
 Fn Tryz.prog 88 ⟨0,[.a (Xx v_)],[],[],0,.c (.s r),[],[]⟩:=by
 refine Zs func88 rfl (fun E F w=>?_)
 unfold RE at h
 refine wO J 9 h fun x1 d h=>Zn (Zfs N v_ _ d) [] [] ?_
 refine wB J 2 h (fun h=>?_) fun h=>?_
 ·cases h
  exact wr J 5 func88 []
 refine wB J 9 h (fun h=>?_) fun h=>wa J 11 (ZB (σ:=ByteArray) (fun st=>⟨[(3,.c (.s st))],[],[],1⟩) (fun st=>Ge st=some r) ?_ (fun j1=>?_))
 ·refine wO J 5 h fun x2 e h=>Zn (ZoA N v_.N _ e) [] [] ?_
  cases h
  exact wr J 2 func88 []
 ·intro f h
  replace h:Ge f=some r:=h
  unfold Ge at h
  refine wO J 3 h fun g i h=>ZC i ?_
  cases h
  exact wr J 2 func88 []
 refine wa J 1 (ZF (σ:=ByteArray × Int) (fun st=>⟨[(1,.B 0 0),(3,.c (.s st.1)),(4,.I st.2)],[(0,.box (Xx v_) 83)],[],1⟩) (fun n st=>Ua v_ n st.1 st.2) (r:=r) (fun _=>rfl) ?_ (fun ih=>?_))
 ·intro n2 ih6
  rintro ⟨j,k⟩ h
  replace h:Ua v_ (n2+1) j k=some r:=h
  unfold Ua at h
  refine Zo J 9 h (fun h=>wa J 2 (Zj [] (j1 j h))) fun h=>?_
  refine wO J 10 h fun l m h=>XW J m ?_
  refine wa J 2 (ZB (σ:=Bool) (fun st=>⟨[(1,.B 0 0),(3,.c (.s j)),(4,.I k),(32,.O st)],[(0,.box (Xx v_) 83)],[],1⟩) (fun st=>Pg v_ j k (Ua v_ n2) st=some r) ?_ (fun j9=>?_))
  ·intro o h
   replace h:Pg v_ j k (Ua v_ n2) o=some r:=h
   unfold Pg at h
   refine VH h (fun h=>?_) fun h=>?_
   ·refine wO J 9 h fun p q h=>Rm J q ?_
    obtain ⟨t,u,h⟩:=ob h
    exact ZC u (wa J 8 (Zj [] (ih6 (t,(Zi (k+1))) h)))
   refine wO J 3 h fun v x h=>ZC x ?_
   refine wO J 9 h fun y z h=>Rm J z ?_
   obtain ⟨A,C,h⟩:=ob h
   exact ZC C (wa J 8 (Zj [] (ih6 (A,(Zi (k+1))) h)))
  refine eB h (fun h=>wa J 7 (Zj [] (j9 true h))) fun h=>?_
  exact wO J 3 h fun D G h=>XW J G (wa J 3 (Zj [] (j9 (D==92) h)))
 exact Zj [] (ih N ((str [34]),0) h)
theorem Zkw (N:Nat) (l_:(List Zm)) (r:ByteArray) (h:z164 N l_=some r) :
 Fn Tryz.prog 164 ⟨1,[.S 0],[(0,.sl ZD l_)],[],1,.c (.s r),[],[]⟩:=by
 refine Zs func164 rfl (fun E F w=>?_)
 unfold z164 at h
 refine wa J 13 (ZB (σ:=ByteArray) (fun st=>⟨[(3,.c (.s st))],[],[(0,.sl ZD l_)],1⟩) (fun st=>Ga st=some r) ?_ (fun j1=>?_))
 ·intro d h
  replace h:Ga d=some r:=h
  unfold Ga at h
  refine wO J 3 h fun e f h=>ZC f ?_
  cases h
  exact wr J 2 func164 []
 refine wa J 1 (ZF (σ:=ByteArray × Int) (fun st=>⟨[(0,.S 0),(3,.c (.s st.1)),(4,.I st.2)],[],[(0,.sl ZD l_)],1⟩) (fun n st=>UU N l_ n st.1 st.2) (r:=r) (fun _=>rfl) ?_ (fun ih=>?_))
 ·intro n2 ih3
  rintro ⟨g,i⟩ h
  replace h:UU N l_ (n2+1) g i=some r:=h
  unfold UU at h
  refine Zo J 8 h (fun h=>wa J 2 (Zj [] (j1 g h))) fun h=>?_
  refine Zo J 10 h (fun h=>?_) fun h=>?_
  ·refine wO J 6 h fun j k h=>Zq J Z5 k ?_
   refine wO J 1 h fun l m h=>Zn (ZcJ N j _ m) [] [] ?_
   obtain ⟨o,p,h⟩:=ob h
   exact ZC p (wa J 8 (Zj [] (ih3 (o,(Zi (i+1))) h)))
  refine wO J 3 h fun q t h=>ZC t ?_
  refine wO J 6 h fun u v h=>Zq J Z5 v ?_
  refine wO J 1 h fun x y h=>Zn (ZcJ N u _ y) [] [] ?_
  obtain ⟨z,A,h⟩:=ob h
  exact ZC A (wa J 8 (Zj [] (ih3 (z,(Zi (i+1))) h)))
 exact Zj [] (ih N ((str [40]),0) h)
theorem GD (N:Nat) (g_:T5) (i_:Int) (r:ByteArray) (h:Sq N g_ i_=some r) :
 Fn Tryz.prog 87 ⟨4,[.a (ZT 0 1 2 3 g_),.I i_],(Yh 0 1 2 3 g_ []),[],4,.c (.s r),[],[]⟩:=by
 refine Zs func87 rfl (fun E F w=>?_)
 unfold Sq at h
 refine wB J 11 h (fun h=>?_) fun h=>?_
 ·cases h
  exact wr J 12 func87 []
 refine wB J 7 h (fun h=>?_) fun h=>?_
 ·cases h
  exact wr J 5 func87 []
 refine wO J 7 h fun x1 d h=>Zq J oS d ?_
 cases h
 exact wr J 3 func87 []
theorem ZpD (N:Nat) (g_:T5) (x_:T3) (r:ByteArray) (h:GJ N g_ x_=some r) :
 Fn Tryz.prog 86 ⟨5,[.a (ZT 0 1 2 3 g_),.a (X5 4 x_)],(Yh 0 1 2 3 g_ [(4,.sl ZD x_.Values)]),[],5,.c (.s r),[],[]⟩:=by
 refine Zs func86 rfl (fun E F w=>?_)
 unfold GJ at h
 refine wO J 11 h fun x1 d h=>Zn (Zn2 N g_ x_.Label _ d) [] [(0,.sl 0),(1,.sl 1),(2,.sl 2),(3,.sl 3)] ?_
 refine wO J 2 h fun x2 e h=>Zn (Zkw N x_.Values _ e) [] [(0,.sl 4)] ?_
 obtain ⟨x3,f,h⟩:=ob h
 refine ZC f (wa J 1 (ZA ?_))
 refine wB J 6 h (fun h=>?_) fun h=>?_
 ·refine wO J 6 h fun x4 g h=>Zn (GD N g_ x_.Role _ g) [] [(0,.sl 0),(1,.sl 1),(2,.sl 2),(3,.sl 3)] ?_
  obtain ⟨x5,i,h⟩:=ob h
  refine ZC i ?_
  refine wO J 1 h fun x6 j h=>ZC j ?_
  obtain ⟨x7,k,h⟩:=ob h
  refine ZC k ?_
  refine wO J 3 h fun x8 l h=>Zn (GD N g_ x_.Peer _ l) [] [(0,.sl 0),(1,.sl 1),(2,.sl 2),(3,.sl 3)] ?_
  obtain ⟨x9,m,h⟩:=ob h
  refine ZC m (wa J 1 (ZA ?_))
  cases h
  exact Z4 J func86 []
 refine wO J 7 h fun o p h=>Zn (GD N g_ x_.Role _ p) [] [(0,.sl 0),(1,.sl 1),(2,.sl 2),(3,.sl 3)] ?_
 obtain ⟨q,t,h⟩:=ob h
 refine ZC t ?_
 refine wO J 1 h fun u v h=>ZC v ?_
 obtain ⟨x,y,h⟩:=ob h
 refine ZC y ?_
 refine wO J 3 h fun z A h=>Zn (GD N g_ x_.Peer _ A) [] [(0,.sl 0),(1,.sl 1),(2,.sl 2),(3,.sl 3)] ?_
 obtain ⟨C,D,h⟩:=ob h
 refine ZC D (wa J 1 (ZA ?_))
 cases h
 exact Z4 J func86 []
theorem Zst (N:Nat) (g_:T5) (m_:T8) (history_:(List T3)) (r:ByteArray × Int) (h:z45 N g_ m_ history_=some r) :
 Fn Tryz.prog 45 ⟨8,[.a (ZT 0 1 2 3 g_),.a (ZX 4 5 6 m_),.S 7],((0,.sl rS g_.Roles)::(1,.sl ZL g_.Decls)::(2,.sl Yf g_.Edges)::(3,.sl Z2 g_.Timeouts)::ZZ 4 5 6 m_ [(7,.sl Yv history_)]),[],8,.t [.inl (.s r.1),.inl (.I r.2)],[],[]⟩:=by
 refine Zs func45 rfl (fun E F w=>?_)
 unfold z45 at h
 refine wO J 12 h fun x1 c h=>Zn (Zqf N g_ m_ history_ _ c) [] [(0,.sl 0),(1,.sl 1),(2,.sl 2),(3,.sl 3),(4,.sl 4),(5,.sl 5),(6,.sl 6),(7,.sl 7)] ?_
 refine wB J 15 h (fun h=>?_) fun h=>?_
 ·cases h
  exact wr J 7 func45 []
 refine wO J 7 h fun x2 d h=>Zq J W1 d ?_
 refine wO J 8 h fun x3 e h=>Zn (ZpD N g_ x2 _ e) [] [(0,.sl 0),(1,.sl 1),(2,.sl 2),(3,.sl 3),(4,.sl 12)] ?_
 obtain ⟨x4,f,h⟩:=ob h
 refine ZC f ?_
 refine wB J 14 h (fun h=>?_) fun h=>?_
 ·refine wO J 4 h fun x5 g h=>ZC g ?_
  refine wO J 3 h fun x6 i h=>Zn (GD N g_ m_.Role _ i) [] [(0,.sl 0),(1,.sl 1),(2,.sl 2),(3,.sl 3)] ?_
  obtain ⟨x7,j,h⟩:=ob h
  refine ZC j ?_
  cases h
  exact wr J 3 func45 []
 refine wB J 6 h (fun h=>?_) fun h=>?_
 ·refine wO J 4 h fun x8 k h=>ZC k ?_
  cases h
  exact wr J 3 func45 []
 refine wB J 6 h (fun h=>?_) fun h=>?_
 ·refine wO J 4 h fun x9 l h=>ZC l ?_
  refine wO J 3 h fun m o h=>Zn (WJ N (x2.Values.length:Int) _ o) [] [] ?_
  obtain ⟨p,q,h⟩:=ob h
  refine ZC q ?_
  obtain ⟨u,v,h⟩:=ob h
  refine ZC v ?_
  refine wO J 4 h fun x y h=>Zq J Yg y ?_
  refine wO J 3 h fun z A h=>Zn (WJ N (x.Fields.length:Int) _ A) [] [] ?_
  obtain ⟨C,D,h⟩:=ob h
  refine ZC D (wa J 2 (ZA ?_))
  cases h
  exact Z4 J func45 []
 refine Zo J 6 h (fun h=>?_) fun h=>?_
 ·refine Zo J 6 h (fun h=>?_) fun h=>?_
  ·refine wO J 6 h fun G H h=>ZC H ?_
   cases h
   exact wr J 3 func45 []
  refine wO J 4 h fun R T h=>ZC T ?_
  refine wO J 6 h fun U X h=>Zn (Zdr N g_.Decls x2.Label x1.1.Part _ X) [] [(0,.sl 1)] ?_
  obtain ⟨Y,Z,h⟩:=ob h
  refine ZC Z ?_
  cases h
  exact wr J 3 func45 []
 refine wO J 7 h fun a0 b0 h=>Zq J Yg b0 ?_
 refine wO J 4 h fun c0 d0 h=>Zq J Xq d0 (wa J 3 (ZA ?_))
 refine wO J 3 h fun e0 f0 h=>ZC f0 ?_
 refine wO J 4 h fun g0 i0 h=>Zq J Z5 i0 ?_
 refine wO J 1 h fun j0 k0 h=>Zn (ZcJ N g0 _ k0) [] [] ?_
 obtain ⟨l0,m0,h⟩:=ob h
 refine ZC m0 ?_
 obtain ⟨o0,p0,h⟩:=ob h
 refine ZC p0 ?_
 refine wO J 2 h fun q0 s0 h=>ZC s0 ?_
 obtain ⟨t0,u0,h⟩:=ob h
 refine ZC u0 ?_
 refine wO J 3 h fun v0 x0 h=>Zn (WJ N c0.Sort'.Lo _ x0) [] [] ?_
 obtain ⟨y0,z0,h⟩:=ob h
 refine ZC z0 ?_
 obtain ⟨A0,B0,h⟩:=ob h
 refine ZC B0 ?_
 refine wO J 3 h fun C0 D0 h=>Zn (WJ N c0.Sort'.Hi _ D0) [] [] ?_
 obtain ⟨G0,H0,h⟩:=ob h
 refine ZC H0 (wa J 2 (ZA ?_))
 cases h
 exact Z4 J func45 []
end Gx
end
