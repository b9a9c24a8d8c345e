/- Each function of the statement computes what its plain definition says, part 2. -/
import Derived.Test.YtenajajnbmfijaaGreatDoorGlobalDecodeWalk1
set_option linter.all false
section
set_option maxRecDepth 10000
set_option maxHeartbeats 4000000
open Go Go.Kx Go.Proofs
namespace Gx
theorem z147_12_b_ct (N:Nat) (rc:(List Int)→Int→Int→Int→T4→Option (List Int)) (rc_slices_symMergeCmpFunc_int_of_global_Edges_1_ct:(∀ (data_:(List Int)) (a_:Int) (m_:Int) (b_:Int) (c0_:T4) (r:(List Int)),rc data_ a_ m_ b_ c0_=some r→Fn Tryz.prog 147 ⟨6,[.S 0,.I a_,.I m_,.I b_,.c (.cl 48 [] [1])],(vV4 2 3 4 5 c0_ []),[(0,.own (rI .i64) data_ false),(1,.box (cC4 2 3 4 5 c0_) 27)],6,.t [],[],[(0,.own (rI .i64) r false),(1,.box (cC4 2 3 4 5 c0_) 27)]⟩)) (data_:(List Int)) (a_:Int) (m_:Int) (b_:Int) (c0_:T4) (r:(List Int)) (h:z147_12_b N rc data_ a_ m_ b_ c0_=some r) :
 Fn Tryz.prog 147 ⟨6,[.S 0,.I a_,.I m_,.I b_,.c (.cl 48 [] [1])],(vV4 2 3 4 5 c0_ []),[(0,.own (rI .i64) data_ false),(1,.box (cC4 2 3 4 5 c0_) 27)],6,.t [],[],[(0,.own (rI .i64) r false),(1,.box (cC4 2 3 4 5 c0_) 27)]⟩:=by
 refine Fn.intro _ _ Tryz.func147 rfl (by kernel_rfl) rfl (fun E F w=>?_)
 unfold z147_12_b at h
 refine wq (wq (wg (wx (zz1 data_ c0_ [(0,.S 0),(1,.I a_),(2,.I m_),(3,.I b_),(4,.c (.cl 48 [] [1])),(28,.O ((w64 (m_-a_))==1))]) J 4 (wn ?_))))
 rcases oc h with ⟨hc,h⟩ | ⟨hc,h⟩
 ·refine wt hc Q (wq (wg (ws J 2 Q (wn (wq (wg (wx (zz1 data_ c0_ [(0,.S 0),(1,.I a_),(4,.c (.cl 48 [] [1])),(10,.I m_),(11,.I b_)]) J 2 (wn (wq ?_)))))))))
  refine wC (σ:=Int) (fun st=>(zz1 data_ c0_ [(0,.S 0),(1,.I a_),(10,.I st)])) (fun st=>z147_12_k3 N data_ a_ st=some r) ?_ (fun j1=>?_)
  ·intro d h
   replace h:z147_12_k3 N data_ a_ d=some r:=h
   unfold z147_12_k3 at h
   refine wq (wq (wg (ws J 2 Q (wn ?_))))
   refine wC (σ:=(List Int)) (fun st=>(zz1 st c0_ [])) (fun st=>z147_12_k1 st=some r) ?_ (fun j3=>?_)
   ·intro e h
    replace h:z147_12_k1 e=some r:=h
    unfold z147_12_k1 at h
    cases h
    exact we J Tryz.func147 [] Q Q Q Q
   refine wo ?_
   refine wI (σ:=(List Int) × Int) (fun st=>(zz1 st.1 c0_ [(0,.S 0),(10,.I d),(13,.I st.2)])) (fun n st=>z147_12_l2 d n st.1 st.2) (r:=r) (fun _=>rfl) ?_ (fun ih=>?_)
   ·intro n3 ih5
    rintro ⟨f,g⟩ h
    replace h:z147_12_l2 d (n3+1) f g=some r:=h
    unfold z147_12_l2 at h
    refine wq (wq (wg (wx (zz1 f c0_ [(0,.S 0),(10,.I d),(13,.I g),(58,.O (decide (g < (w64 (d-1)))))]) J 4 (wn ?_))))
    rcases oc' h with ⟨hc,h⟩ | ⟨hc,h⟩
    ·exact wf hc Q (wz rfl (wu [] (j3 f h) Q Q Q Q))
    refine wt hc Q (wi (wq (wo (wN (fun j l m=>?_)))))
    have o:j 0 (zz3 [(0,.S 0)] [(61,.S 0)]):=l _ _ (wl J Q Q Q Q Q Q)
    have p:j 1 (zz3 [(13,.I g)] [(62,.I g)]):=l _ _ (wl J Q Q Q Q Q Q)
    have q:j 2 (zz3 [(0,.S 0)] [(63,.S 0)]):=l _ _ (wl J Q Q Q Q Q Q)
    have s:j 3 (zz3 [(13,.I g)] [(64,.I g)]):=l _ _ (wl J Q Q Q Q Q Q)
    have u:j 4 (zz3 [(64,.I g)] [(65,.I (w64 (g+1)))]):=l _ _ (wl J Q Q Q Q Q Q)
    have v:j 5 (zz3 [(0,.S 0)] [(66,.S 0)]):=l _ _ (wl J Q Q Q Q Q Q)
    have x:j 6 (zz3 [(13,.I g)] [(67,.I g)]):=l _ _ (wl J Q Q Q Q Q Q)
    have y:j 7 (zz3 [(67,.I g)] [(68,.I (w64 (g+1)))]):=l _ _ (wl J Q Q Q Q Q Q)
    obtain ⟨z,A,h⟩:=ob h
    have C:j 8 (zz51 f (((w64 (g+(1:Int)))).toNat * ((rI .i64)).sz) [(66,.S 0),(68,.I (w64 (g+1)))] [(69,.P 6 0)]):=l _ _ (wO Q Q Q (fun _ _ _ _ _ _ _ k=>wX J A Q Q Q Q Q Q Q Q Q (k)) rfl)
    have D:j 9 (zz52 (((w64 (g+(1:Int)))).toNat * ((rI .i64)).sz) f [(69,.P 6 0)] [(70,.I z)]):=l _ _ (wO Q Q Q (fun _ _ _ _ _ _ _ k=>wL (oI .i64) J A Q Q Q Q Q Q Q Q Q Q (k)) rfl)
    have G:j 10 (zz4 [(0,.S 0)] [(71,.S 0)]):=l _ _ (wl J Q Q Q Q Q Q)
    have H:j 11 (zz4 [(13,.I g)] [(72,.I g)]):=l _ _ (wl J Q Q Q Q Q Q)
    obtain ⟨K,R,h⟩:=ob h
    have T:j 12 (zz53 f ((g).toNat * ((rI .i64)).sz) [(71,.S 0),(72,.I g)] [(73,.P 7 0)]):=l _ _ (wO Q Q Q (fun _ _ _ _ _ _ _ k=>wX J R Q Q Q Q Q Q Q Q Q (k)) rfl)
    have U:j 13 (zz54 ((g).toNat * ((rI .i64)).sz) f [(73,.P 7 0)] [(74,.I K)]):=l _ _ (wO Q Q Q (fun _ _ _ _ _ _ _ k=>wL (oI .i64) J R Q Q Q Q Q Q Q Q Q Q (k)) rfl)
    obtain ⟨X,Y,h⟩:=ob h
    have Z:j 14 (zz101 f ((g).toNat * ((rI .i64)).sz) [(61,.S 0),(62,.I g)] [(75,.P 8 0)]):=l _ _ (wO Q Q Q (fun _ _ _ _ _ _ _ k=>wX J Y Q Q Q Q Q Q Q Q Q (k)) rfl)
    have a0:j 15 (zz122 ((g).toNat * ((rI .i64)).sz) f (setL' f g z) [(70,.I z),(75,.P 8 0)] []):=l _ _ (wO Q Q Q (fun _ _ _ _ _ _ _ k=>WPr.sto (oI .i64) J z Y Q Q Q Q Q Q Q Q Q Q (by exact rfl) rfl (k)) rfl)
    obtain ⟨b0,c0,h⟩:=ob h
    have d0:j 16 (zz102 (setL' f g z) (((w64 (g+(1:Int)))).toNat * ((rI .i64)).sz) [(63,.S 0),(65,.I (w64 (g+1)))] [(76,.P 9 0)]):=l _ _ (wO Q Q Q (fun _ _ _ _ _ _ _ k=>wX J c0 Q Q Q Q Q Q Q Q Q (k)) rfl)
    have e0:j 17 (zz123 (((w64 (g+(1:Int)))).toNat * ((rI .i64)).sz) (setL' f g z) (setL' (setL' f g z) (w64 (g+1)) K) [(74,.I K),(76,.P 9 0)] []):=l _ _ (wO Q Q Q (fun _ _ _ _ _ _ _ k=>WPr.sto (oI .i64) J K c0 Q Q Q Q Q Q Q Q Q Q (by exact rfl) rfl (k)) rfl)
    exact wD (t:=(zz62 (setL' (setL' f g z) (w64 (g+1)) K) c0_ [(0,.S 0),(10,.I d),(13,.I g)])) [0,0,0,0,8,0,0,64,224,480,0,0,3072,7168,16355,32739,65535,131071] (.cons (m _ _ o) (.cons (m _ _ p) (.cons (m _ _ q) (.cons (m _ _ s) (.cons (m _ _ u) (.cons (m _ _ v) (.cons (m _ _ x) (.cons (m _ _ y) (.cons (m _ _ C) (.cons (m _ _ D) (.cons (m _ _ G) (.cons (m _ _ H) (.cons (m _ _ T) (.cons (m _ _ U) (.cons (m _ _ Z) (.cons (m _ _ a0) (.cons (m _ _ d0) (.cons (m _ _ e0) .nil)))))))))))))))))) (by kernel_rfl) (by kernel_rfl) (by kernel_rfl) (by kernel_rfl) (wb (wg (wx (zz62 (setL' (setL' f g z) (w64 (g+1)) K) c0_ [(0,.S 0),(10,.I d),(13,.I (w64 (g+1)))]) J 3 (wn (wu [] (ih5 ((setL' (setL' f g z) (w64 (g+1)) K),(w64 (g+1))) h) Q Q Q Q)))))
   exact wu [] (ih N (data_,a_) h) Q Q Q Q
  refine wo ?_
  refine wI (σ:=Int × Int) (fun st=>(zz1 data_ c0_ [(0,.S 0),(1,.I a_),(4,.c (.cl 48 [] [1])),(10,.I st.1),(11,.I st.2)])) (fun n st=>z147_12_l4 N data_ a_ c0_ n st.1 st.2) (r:=r) (fun _=>rfl) ?_ (fun ih=>?_)
  ·intro n4 ih6
   rintro ⟨f0,g0⟩ h
   replace h:z147_12_l4 N data_ a_ c0_ (n4+1) f0 g0=some r:=h
   unfold z147_12_l4 at h
   refine wq (wq (wg (wx (zz1 data_ c0_ [(0,.S 0),(1,.I a_),(4,.c (.cl 48 [] [1])),(10,.I f0),(11,.I g0),(33,.O (decide (f0 < g0)))]) J 3 (wn ?_))))
   rcases oc' h with ⟨hc,h⟩ | ⟨hc,h⟩
   ·exact wf hc Q (wz rfl (wu [] (j1 f0 h) Q Q Q Q))
   refine wt hc Q (wi (wo (wq (wg (xw [4,5,6] (zz1 data_ c0_ [(0,.S 0),(1,.I a_),(4,.c (.cl 48 [] [1])),(10,.I f0),(11,.I g0),(37,.c (.i .u64 (wk .u64 ((w64 (f0+g0))))))]) J 4 ?_)))))
   obtain ⟨i0,j0,h⟩:=ob h
   refine WPr.bin j0 Q Q Q Q Q Q Q Q (wx (zz1 data_ c0_ [(0,.S 0),(1,.I a_),(4,.c (.cl 48 [] [1])),(10,.I f0),(11,.I g0),(12,.I (w64 (i0)))]) J 2 (wn (wq (wN (fun k0 l0 m0=>?_)))))
   have o0:k0 0 (zz3 [(4,.c (.cl 48 [] [1]))] [(40,.c (.cl 48 [] [1]))]):=l0 _ _ (wl J Q Q Q Q Q Q)
   have p0:k0 1 (zz3 [(0,.S 0)] [(41,.S 0)]):=l0 _ _ (wl J Q Q Q Q Q Q)
   have q0:k0 2 (zz3 [(12,.I (w64 (i0)))] [(42,.I (w64 (i0)))]):=l0 _ _ (wl J Q Q Q Q Q Q)
   obtain ⟨s0,t0,h⟩:=ob h
   have u0:k0 3 (zz51 data_ (((w64 (i0))).toNat * ((rI .i64)).sz) [(41,.S 0),(42,.I (w64 (i0)))] [(43,.P 6 0)]):=l0 _ _ (wO Q Q Q (fun _ _ _ _ _ _ _ k=>wX J t0 Q Q Q Q Q Q Q Q Q (k)) rfl)
   have v0:k0 4 (zz52 (((w64 (i0))).toNat * ((rI .i64)).sz) data_ [(43,.P 6 0)] [(44,.I s0)]):=l0 _ _ (wO Q Q Q (fun _ _ _ _ _ _ _ k=>wL (oI .i64) J t0 Q Q Q Q Q Q Q Q Q Q (k)) rfl)
   have x0:k0 5 (zz4 [(0,.S 0)] [(45,.S 0)]):=l0 _ _ (wl J Q Q Q Q Q Q)
   have y0:k0 6 (zz4 [(1,.I a_)] [(46,.I a_)]):=l0 _ _ (wl J Q Q Q Q Q Q)
   obtain ⟨z0,A0,h⟩:=ob h
   have B0:k0 7 (zz53 data_ ((a_).toNat * ((rI .i64)).sz) [(45,.S 0),(46,.I a_)] [(47,.P 7 0)]):=l0 _ _ (wO Q Q Q (fun _ _ _ _ _ _ _ k=>wX J A0 Q Q Q Q Q Q Q Q Q (k)) rfl)
   have C0:k0 8 (zz54 ((a_).toNat * ((rI .i64)).sz) data_ [(47,.P 7 0)] [(48,.I z0)]):=l0 _ _ (wO Q Q Q (fun _ _ _ _ _ _ _ k=>wL (oI .i64) J A0 Q Q Q Q Q Q Q Q Q Q (k)) rfl)
   obtain ⟨D0,G0,h⟩:=ob h
   have H0:k0 9 (zz100 c0_ [(40,.c (.cl 48 [] [1])),(44,.I s0),(48,.I z0)] [(49,.I D0)]):=l0 _ _ (wO Q Q Q (fun _ _ _ _ _ _ _ k=>WPr.callc (z48_8_ct N s0 z0 c0_ _ G0) [(0,.bp 1 0),(1,.sl 2),(2,.sl 3),(3,.sl 4),(4,.sl 5)] [] Q Q Q Q Q Q Q Q Q (.inl rfl) rfl (k)) rfl)
   have I0:k0 10 (zz11 [(49,.I D0)] [(50,.O (decide (D0 < 0)))]):=l0 _ _ (wl J Q Q Q Q Q Q)
   refine wD (t:=(zz55 data_ c0_ [(0,.S 0),(1,.I a_),(4,.c (.cl 48 [] [1])),(10,.I f0),(11,.I g0),(12,.I (w64 (i0))),(50,.O (decide (D0 < 0)))])) [0,0,0,6,14,0,0,96,224,511,1023] (.cons (m0 _ _ o0) (.cons (m0 _ _ p0) (.cons (m0 _ _ q0) (.cons (m0 _ _ u0) (.cons (m0 _ _ v0) (.cons (m0 _ _ x0) (.cons (m0 _ _ y0) (.cons (m0 _ _ B0) (.cons (m0 _ _ C0) (.cons (m0 _ _ H0) (.cons (m0 _ _ I0) .nil))))))))))) (by kernel_rfl) (by kernel_rfl) (by kernel_rfl) (by kernel_rfl) ?_
   rcases oc h with ⟨hc,h⟩ | ⟨hc,h⟩
   ·exact wt hc Q (wg (wx (zz55 data_ c0_ [(0,.S 0),(1,.I a_),(4,.c (.cl 48 [] [1])),(10,.I (w64 ((w64 (i0))+1))),(11,.I g0)]) J 3 (wn (wb (wu [] (ih6 ((w64 ((w64 (i0))+1)),g0) h) Q Q Q Q)))))
   exact wf hc Q (wg (ws J 2 Q (wn (wb (wu [] (ih6 (f0,(w64 (i0))) h) Q Q Q Q)))))
  exact wu [] (ih N (m_,b_) h) Q Q Q Q
 refine wf hc Q (wi (wq (wq (wg (wx (zz1 data_ c0_ [(0,.S 0),(1,.I a_),(2,.I m_),(3,.I b_),(4,.c (.cl 48 [] [1])),(80,.O ((w64 (b_-m_))==1))]) J 4 (wn ?_))))))
 rcases oc h with ⟨hc,h⟩ | ⟨hc,h⟩
 ·refine wt hc Q (wq (wg (ws J 2 Q (wn (wq (wg (wx (zz1 data_ c0_ [(0,.S 0),(2,.I m_),(4,.c (.cl 48 [] [1])),(14,.I a_),(15,.I m_)]) J 2 (wn (wq ?_)))))))))
  refine wC (σ:=Int) (fun st=>(zz1 data_ c0_ [(0,.S 0),(2,.I m_),(14,.I st)])) (fun st=>z147_12_k7 N data_ m_ st=some r) ?_ (fun j7=>?_)
  ·intro K0 h
   replace h:z147_12_k7 N data_ m_ K0=some r:=h
   unfold z147_12_k7 at h
   refine wq (wq (wg (ws J 2 Q (wn ?_))))
   refine wC (σ:=(List Int)) (fun st=>(zz1 st c0_ [])) (fun st=>z147_12_k5 st=some r) ?_ (fun j9=>?_)
   ·intro L0 h
    replace h:z147_12_k5 L0=some r:=h
    unfold z147_12_k5 at h
    cases h
    exact we J Tryz.func147 [] Q Q Q Q
   refine wo ?_
   refine wI (σ:=(List Int) × Int) (fun st=>(zz1 st.1 c0_ [(0,.S 0),(14,.I K0),(17,.I st.2)])) (fun n st=>z147_12_l6 K0 n st.1 st.2) (r:=r) (fun _=>rfl) ?_ (fun ih=>?_)
   ·intro n7 ih11
    rintro ⟨M0,O0⟩ h
    replace h:z147_12_l6 K0 (n7+1) M0 O0=some r:=h
    unfold z147_12_l6 at h
    refine wq (wq (wg (wx (zz1 M0 c0_ [(0,.S 0),(14,.I K0),(17,.I O0),(110,.O (decide (O0 > K0)))]) J 3 (wn ?_))))
    rcases oc' h with ⟨hc,h⟩ | ⟨hc,h⟩
    ·exact wf hc Q (wz rfl (wu [] (j9 M0 h) Q Q Q Q))
    refine wt hc Q (wi (wq (wo (wN (fun R0 S0 T0=>?_)))))
    have U0:R0 0 (zz3 [(0,.S 0)] [(113,.S 0)]):=S0 _ _ (wl J Q Q Q Q Q Q)
    have V0:R0 1 (zz3 [(17,.I O0)] [(114,.I O0)]):=S0 _ _ (wl J Q Q Q Q Q Q)
    have X0:R0 2 (zz3 [(0,.S 0)] [(115,.S 0)]):=S0 _ _ (wl J Q Q Q Q Q Q)
    have Y0:R0 3 (zz3 [(17,.I O0)] [(116,.I O0)]):=S0 _ _ (wl J Q Q Q Q Q Q)
    have Z0:R0 4 (zz3 [(116,.I O0)] [(117,.I (w64 (O0-1)))]):=S0 _ _ (wl J Q Q Q Q Q Q)
    have a1:R0 5 (zz3 [(0,.S 0)] [(118,.S 0)]):=S0 _ _ (wl J Q Q Q Q Q Q)
    have b1:R0 6 (zz3 [(17,.I O0)] [(119,.I O0)]):=S0 _ _ (wl J Q Q Q Q Q Q)
    have c1:R0 7 (zz3 [(119,.I O0)] [(120,.I (w64 (O0-1)))]):=S0 _ _ (wl J Q Q Q Q Q Q)
    obtain ⟨d1,e1,h⟩:=ob h
    have f1:R0 8 (zz51 M0 (((w64 (O0-(1:Int)))).toNat * ((rI .i64)).sz) [(118,.S 0),(120,.I (w64 (O0-1)))] [(121,.P 6 0)]):=S0 _ _ (wO Q Q Q (fun _ _ _ _ _ _ _ k=>wX J e1 Q Q Q Q Q Q Q Q Q (k)) rfl)
    have g1:R0 9 (zz52 (((w64 (O0-(1:Int)))).toNat * ((rI .i64)).sz) M0 [(121,.P 6 0)] [(122,.I d1)]):=S0 _ _ (wO Q Q Q (fun _ _ _ _ _ _ _ k=>wL (oI .i64) J e1 Q Q Q Q Q Q Q Q Q Q (k)) rfl)
    have i1:R0 10 (zz4 [(0,.S 0)] [(123,.S 0)]):=S0 _ _ (wl J Q Q Q Q Q Q)
    have k1:R0 11 (zz4 [(17,.I O0)] [(124,.I O0)]):=S0 _ _ (wl J Q Q Q Q Q Q)
    obtain ⟨l1,m1,h⟩:=ob h
    have o1:R0 12 (zz53 M0 ((O0).toNat * ((rI .i64)).sz) [(123,.S 0),(124,.I O0)] [(125,.P 7 0)]):=S0 _ _ (wO Q Q Q (fun _ _ _ _ _ _ _ k=>wX J m1 Q Q Q Q Q Q Q Q Q (k)) rfl)
    have p1:R0 13 (zz54 ((O0).toNat * ((rI .i64)).sz) M0 [(125,.P 7 0)] [(126,.I l1)]):=S0 _ _ (wO Q Q Q (fun _ _ _ _ _ _ _ k=>wL (oI .i64) J m1 Q Q Q Q Q Q Q Q Q Q (k)) rfl)
    obtain ⟨q1,s1,h⟩:=ob h
    have t1:R0 14 (zz101 M0 ((O0).toNat * ((rI .i64)).sz) [(113,.S 0),(114,.I O0)] [(127,.P 8 0)]):=S0 _ _ (wO Q Q Q (fun _ _ _ _ _ _ _ k=>wX J s1 Q Q Q Q Q Q Q Q Q (k)) rfl)
    have u1:R0 15 (zz122 ((O0).toNat * ((rI .i64)).sz) M0 (setL' M0 O0 d1) [(122,.I d1),(127,.P 8 0)] []):=S0 _ _ (wO Q Q Q (fun _ _ _ _ _ _ _ k=>WPr.sto (oI .i64) J d1 s1 Q Q Q Q Q Q Q Q Q Q (by exact rfl) rfl (k)) rfl)
    obtain ⟨v1,x1,h⟩:=ob h
    have y1:R0 16 (zz102 (setL' M0 O0 d1) (((w64 (O0-(1:Int)))).toNat * ((rI .i64)).sz) [(115,.S 0),(117,.I (w64 (O0-1)))] [(128,.P 9 0)]):=S0 _ _ (wO Q Q Q (fun _ _ _ _ _ _ _ k=>wX J x1 Q Q Q Q Q Q Q Q Q (k)) rfl)
    have z1:R0 17 (zz123 (((w64 (O0-(1:Int)))).toNat * ((rI .i64)).sz) (setL' M0 O0 d1) (setL' (setL' M0 O0 d1) (w64 (O0-1)) l1) [(126,.I l1),(128,.P 9 0)] []):=S0 _ _ (wO Q Q Q (fun _ _ _ _ _ _ _ k=>WPr.sto (oI .i64) J l1 x1 Q Q Q Q Q Q Q Q Q Q (by exact rfl) rfl (k)) rfl)
    exact wD (t:=(zz62 (setL' (setL' M0 O0 d1) (w64 (O0-1)) l1) c0_ [(0,.S 0),(14,.I K0),(17,.I O0)])) [0,0,0,0,8,0,0,64,224,480,0,0,3072,7168,16355,32739,65535,131071] (.cons (T0 _ _ U0) (.cons (T0 _ _ V0) (.cons (T0 _ _ X0) (.cons (T0 _ _ Y0) (.cons (T0 _ _ Z0) (.cons (T0 _ _ a1) (.cons (T0 _ _ b1) (.cons (T0 _ _ c1) (.cons (T0 _ _ f1) (.cons (T0 _ _ g1) (.cons (T0 _ _ i1) (.cons (T0 _ _ k1) (.cons (T0 _ _ o1) (.cons (T0 _ _ p1) (.cons (T0 _ _ t1) (.cons (T0 _ _ u1) (.cons (T0 _ _ y1) (.cons (T0 _ _ z1) .nil)))))))))))))))))) (by kernel_rfl) (by kernel_rfl) (by kernel_rfl) (by kernel_rfl) (wb (wg (wx (zz62 (setL' (setL' M0 O0 d1) (w64 (O0-1)) l1) c0_ [(0,.S 0),(14,.I K0),(17,.I (w64 (O0-1)))]) J 3 (wn (wu [] (ih11 ((setL' (setL' M0 O0 d1) (w64 (O0-1)) l1),(w64 (O0-1))) h) Q Q Q Q)))))
   exact wu [] (ih N (data_,m_) h) Q Q Q Q
  refine wo ?_
  refine wI (σ:=Int × Int) (fun st=>(zz1 data_ c0_ [(0,.S 0),(2,.I m_),(4,.c (.cl 48 [] [1])),(14,.I st.1),(15,.I st.2)])) (fun n st=>z147_12_l8 N data_ m_ c0_ n st.1 st.2) (r:=r) (fun _=>rfl) ?_ (fun ih=>?_)
  ·intro n8 ih12
   rintro ⟨A1,B1⟩ h
   replace h:z147_12_l8 N data_ m_ c0_ (n8+1) A1 B1=some r:=h
   unfold z147_12_l8 at h
   refine wq (wq (wg (wx (zz1 data_ c0_ [(0,.S 0),(2,.I m_),(4,.c (.cl 48 [] [1])),(14,.I A1),(15,.I B1),(85,.O (decide (A1 < B1)))]) J 3 (wn ?_))))
   rcases oc' h with ⟨hc,h⟩ | ⟨hc,h⟩
   ·exact wf hc Q (wz rfl (wu [] (j7 A1 h) Q Q Q Q))
   refine wt hc Q (wi (wo (wq (wg (xw [4,5,6] (zz1 data_ c0_ [(0,.S 0),(2,.I m_),(4,.c (.cl 48 [] [1])),(14,.I A1),(15,.I B1),(89,.c (.i .u64 (wk .u64 ((w64 (A1+B1))))))]) J 4 ?_)))))
   obtain ⟨C1,D1,h⟩:=ob h
   refine WPr.bin D1 Q Q Q Q Q Q Q Q (wx (zz1 data_ c0_ [(0,.S 0),(2,.I m_),(4,.c (.cl 48 [] [1])),(14,.I A1),(15,.I B1),(16,.I (w64 (C1)))]) J 2 (wn (wq (wN (fun G1 H1 I1=>?_)))))
   have K1:G1 0 (zz3 [(4,.c (.cl 48 [] [1]))] [(92,.c (.cl 48 [] [1]))]):=H1 _ _ (wl J Q Q Q Q Q Q)
   have L1:G1 1 (zz3 [(0,.S 0)] [(93,.S 0)]):=H1 _ _ (wl J Q Q Q Q Q Q)
   have M1:G1 2 (zz3 [(2,.I m_)] [(94,.I m_)]):=H1 _ _ (wl J Q Q Q Q Q Q)
   obtain ⟨O1,R1,h⟩:=ob h
   have S1:G1 3 (zz51 data_ ((m_).toNat * ((rI .i64)).sz) [(93,.S 0),(94,.I m_)] [(95,.P 6 0)]):=H1 _ _ (wO Q Q Q (fun _ _ _ _ _ _ _ k=>wX J R1 Q Q Q Q Q Q Q Q Q (k)) rfl)
   have T1:G1 4 (zz52 ((m_).toNat * ((rI .i64)).sz) data_ [(95,.P 6 0)] [(96,.I O1)]):=H1 _ _ (wO Q Q Q (fun _ _ _ _ _ _ _ k=>wL (oI .i64) J R1 Q Q Q Q Q Q Q Q Q Q (k)) rfl)
   have U1:G1 5 (zz4 [(0,.S 0)] [(97,.S 0)]):=H1 _ _ (wl J Q Q Q Q Q Q)
   have V1:G1 6 (zz4 [(16,.I (w64 (C1)))] [(98,.I (w64 (C1)))]):=H1 _ _ (wl J Q Q Q Q Q Q)
   obtain ⟨X1,Y1,h⟩:=ob h
   have Z1:G1 7 (zz53 data_ (((w64 (C1))).toNat * ((rI .i64)).sz) [(97,.S 0),(98,.I (w64 (C1)))] [(99,.P 7 0)]):=H1 _ _ (wO Q Q Q (fun _ _ _ _ _ _ _ k=>wX J Y1 Q Q Q Q Q Q Q Q Q (k)) rfl)
   have a2:G1 8 (zz54 (((w64 (C1))).toNat * ((rI .i64)).sz) data_ [(99,.P 7 0)] [(100,.I X1)]):=H1 _ _ (wO Q Q Q (fun _ _ _ _ _ _ _ k=>wL (oI .i64) J Y1 Q Q Q Q Q Q Q Q Q Q (k)) rfl)
   obtain ⟨b2,c2,h⟩:=ob h
   have d2:G1 9 (zz100 c0_ [(92,.c (.cl 48 [] [1])),(96,.I O1),(100,.I X1)] [(101,.I b2)]):=H1 _ _ (wO Q Q Q (fun _ _ _ _ _ _ _ k=>WPr.callc (z48_8_ct N O1 X1 c0_ _ c2) [(0,.bp 1 0),(1,.sl 2),(2,.sl 3),(3,.sl 4),(4,.sl 5)] [] Q Q Q Q Q Q Q Q Q (.inl rfl) rfl (k)) rfl)
   have e2:G1 10 (zz11 [(101,.I b2)] [(102,.O (decide (b2 < 0)))]):=H1 _ _ (wl J Q Q Q Q Q Q)
   have f2:G1 11 (zz11 [(102,.O (decide (b2 < 0)))] [(103,.O (!(decide (b2 < 0))))]):=H1 _ _ (wl J Q Q Q Q Q Q)
   refine wD (t:=(zz55 data_ c0_ [(0,.S 0),(2,.I m_),(4,.c (.cl 48 [] [1])),(14,.I A1),(15,.I B1),(16,.I (w64 (C1))),(103,.O (!(decide (b2 < 0))))])) [0,0,0,6,14,0,0,96,224,511,1023,2047] (.cons (I1 _ _ K1) (.cons (I1 _ _ L1) (.cons (I1 _ _ M1) (.cons (I1 _ _ S1) (.cons (I1 _ _ T1) (.cons (I1 _ _ U1) (.cons (I1 _ _ V1) (.cons (I1 _ _ Z1) (.cons (I1 _ _ a2) (.cons (I1 _ _ d2) (.cons (I1 _ _ e2) (.cons (I1 _ _ f2) .nil)))))))))))) (by kernel_rfl) (by kernel_rfl) (by kernel_rfl) (by kernel_rfl) ?_
   rcases oc h with ⟨hc,h⟩ | ⟨hc,h⟩
   ·exact wt hc Q (wg (wx (zz55 data_ c0_ [(0,.S 0),(2,.I m_),(4,.c (.cl 48 [] [1])),(14,.I (w64 ((w64 (C1))+1))),(15,.I B1)]) J 3 (wn (wb (wu [] (ih12 ((w64 ((w64 (C1))+1)),B1) h) Q Q Q Q)))))
   exact wf hc Q (wg (ws J 2 Q (wn (wb (wu [] (ih12 (A1,(w64 (C1))) h) Q Q Q Q)))))
  exact wu [] (ih N (a_,m_) h) Q Q Q Q
 refine wf hc Q (wi (wq (wg (xw [4,5,6] (zz1 data_ c0_ [(0,.S 0),(1,.I a_),(2,.I m_),(3,.I b_),(4,.c (.cl 48 [] [1])),(132,.c (.i .u64 (wk .u64 ((w64 (a_+b_))))))]) J 4 ?_))))
 obtain ⟨g2,i2,h⟩:=ob h
 refine WPr.bin i2 Q Q Q Q Q Q Q Q (wx (zz1 data_ c0_ [(0,.S 0),(1,.I a_),(2,.I m_),(3,.I b_),(4,.c (.cl 48 [] [1])),(18,.I (w64 (g2)))]) J 2 (wn (wq (wg (wx (zz1 data_ c0_ [(0,.S 0),(1,.I a_),(2,.I m_),(3,.I b_),(4,.c (.cl 48 [] [1])),(18,.I (w64 (g2))),(19,.I (w64 ((w64 (g2))+m_)))]) J 4 (wn (wq (wg (ws J 2 Q (wn (wq (wq (wg (wx (zz1 data_ c0_ [(0,.S 0),(1,.I a_),(2,.I m_),(3,.I b_),(4,.c (.cl 48 [] [1])),(18,.I (w64 (g2))),(19,.I (w64 ((w64 (g2))+m_))),(140,.O (decide (m_ > (w64 (g2)))))]) J 3 (wn ?_)))))))))))))))
 refine wC (σ:=Int × Int) (fun st=>(zz1 data_ c0_ [(0,.S 0),(1,.I a_),(2,.I m_),(3,.I b_),(4,.c (.cl 48 [] [1])),(18,.I (w64 (g2))),(19,.I (w64 ((w64 (g2))+m_))),(20,.I st.1),(21,.I st.2)])) (fun st=>z147_12_k15 N rc data_ a_ m_ b_ c0_ g2 st.1 st.2=some r) ?_ (fun j13=>?_)
 ·rintro ⟨j2,k2⟩ h
  replace h:z147_12_k15 N rc data_ a_ m_ b_ c0_ g2 j2 k2=some r:=h
  unfold z147_12_k15 at h
  refine wq (wg (wx (zz1 data_ c0_ [(0,.S 0),(1,.I a_),(2,.I m_),(3,.I b_),(4,.c (.cl 48 [] [1])),(18,.I (w64 (g2))),(19,.I (w64 ((w64 (g2))+m_))),(20,.I j2),(21,.I k2),(22,.I (w64 ((w64 ((w64 (g2))+m_))-1)))]) J 3 (wn (wq ?_))))
  refine wC (σ:=Int) (fun st=>(zz1 data_ c0_ [(0,.S 0),(1,.I a_),(2,.I m_),(3,.I b_),(4,.c (.cl 48 [] [1])),(18,.I (w64 (g2))),(19,.I (w64 ((w64 (g2))+m_))),(20,.I st)])) (fun st=>z147_12_k13 N rc data_ a_ m_ b_ c0_ g2 st=some r) ?_ (fun j14=>?_)
  ·intro l2 h
   replace h:z147_12_k13 N rc data_ a_ m_ b_ c0_ g2 l2=some r:=h
   unfold z147_12_k13 at h
   refine wq (wg (wx (zz1 data_ c0_ [(0,.S 0),(1,.I a_),(2,.I m_),(3,.I b_),(4,.c (.cl 48 [] [1])),(18,.I (w64 (g2))),(20,.I l2),(24,.I (w64 ((w64 ((w64 (g2))+m_))-l2)))]) J 4 (wn (wq (wq (wg (xw [4,5,6,7] (zz1 data_ c0_ [(0,.S 0),(1,.I a_),(2,.I m_),(3,.I b_),(4,.c (.cl 48 [] [1])),(18,.I (w64 (g2))),(20,.I l2),(24,.I (w64 ((w64 ((w64 (g2))+m_))-l2))),(181,.O (decide (l2 < m_)))]) J 4 ?_)))))))
   refine WP.cutr (σ:=Bool) (fun st=>(zz1 data_ c0_ [(0,.S 0),(1,.I a_),(2,.I m_),(3,.I b_),(4,.c (.cl 48 [] [1])),(18,.I (w64 (g2))),(20,.I l2),(24,.I (w64 ((w64 ((w64 (g2))+m_))-l2))),(185,.O st)])) (fun st=>z147_12_k12 N rc data_ a_ m_ b_ c0_ g2 l2 st=some r) ?_ (fun j16=>?_)
   ·intro m2 h
    replace h:z147_12_k12 N rc data_ a_ m_ b_ c0_ g2 l2 m2=some r:=h
    unfold z147_12_k12 at h
    refine wC (σ:=(List Int)) (fun st=>(zz1 st c0_ [(0,.S 0),(1,.I a_),(3,.I b_),(4,.c (.cl 48 [] [1])),(18,.I (w64 (g2))),(20,.I l2),(24,.I (w64 ((w64 ((w64 (g2))+m_))-l2)))])) (fun st=>z147_12_k11 rc a_ m_ b_ c0_ g2 l2 st=some r) ?_ (fun j17=>?_)
    ·intro o2 h
     replace h:z147_12_k11 rc a_ m_ b_ c0_ g2 l2 o2=some r:=h
     unfold z147_12_k11 at h
     refine wq (wq (wg (xw [4,5,6,7] (zz1 o2 c0_ [(0,.S 0),(1,.I a_),(3,.I b_),(4,.c (.cl 48 [] [1])),(18,.I (w64 (g2))),(20,.I l2),(24,.I (w64 ((w64 ((w64 (g2))+m_))-l2))),(195,.O (decide (a_ < l2)))]) J 4 ?_)))
     refine WP.cutr (σ:=Bool) (fun st=>(zz1 o2 c0_ [(0,.S 0),(1,.I a_),(3,.I b_),(4,.c (.cl 48 [] [1])),(18,.I (w64 (g2))),(20,.I l2),(24,.I (w64 ((w64 ((w64 (g2))+m_))-l2))),(199,.O st)])) (fun st=>z147_12_k10 rc a_ m_ b_ c0_ g2 l2 o2 st=some r) ?_ (fun j18=>?_)
     ·intro p2 h
      replace h:z147_12_k10 rc a_ m_ b_ c0_ g2 l2 o2 p2=some r:=h
      unfold z147_12_k10 at h
      refine wC (σ:=(List Int)) (fun st=>(zz1 st c0_ [(0,.S 0),(3,.I b_),(4,.c (.cl 48 [] [1])),(18,.I (w64 (g2))),(24,.I (w64 ((w64 ((w64 (g2))+m_))-l2)))])) (fun st=>z147_12_k9 rc m_ b_ c0_ g2 l2 st=some r) ?_ (fun j19=>?_)
      ·intro q2 h
       replace h:z147_12_k9 rc m_ b_ c0_ g2 l2 q2=some r:=h
       unfold z147_12_k9 at h
       refine wq (wg (xw [4,5,6,7] (zz1 q2 c0_ [(0,.S 0),(3,.I b_),(4,.c (.cl 48 [] [1])),(18,.I (w64 (g2))),(24,.I (w64 ((w64 ((w64 (g2))+m_))-l2))),(209,.O (decide ((w64 (g2)) < (w64 ((w64 ((w64 (g2))+m_))-l2)))))]) J 4 ?_))
       rcases oc' h with ⟨hc,h⟩ | ⟨hc,h⟩
       ·refine wy 209 hc Q (wx (zz1 q2 c0_ [(0,.S 0),(3,.I b_),(4,.c (.cl 48 [] [1])),(18,.I (w64 (g2))),(24,.I (w64 ((w64 ((w64 (g2))+m_))-l2))),(213,.O false)]) J 4 (wn (wf Q Q (wi ?_))))
        cases h
        exact WP.fin J Tryz.func147 [] Q Q Q Q
       refine wy 209 hc Q (wx (zz1 q2 c0_ [(0,.S 0),(3,.I b_),(4,.c (.cl 48 [] [1])),(18,.I (w64 (g2))),(24,.I (w64 ((w64 ((w64 (g2))+m_))-l2))),(213,.O (decide ((w64 ((w64 ((w64 (g2))+m_))-l2)) < b_)))]) J 4 (wn ?_))
       rcases oc' h with ⟨hc,h⟩ | ⟨hc,h⟩
       ·refine wf hc Q (wi ?_)
        cases h
        exact WP.fin J Tryz.func147 [] Q Q Q Q
       refine wt hc Q (wg (xw [5] (zz1 q2 c0_ [(214,.S 0),(215,.I (w64 (g2))),(216,.I (w64 ((w64 ((w64 (g2))+m_))-l2))),(217,.I b_),(218,.c (.cl 48 [] [1]))]) J 5 ?_))
       obtain ⟨s2,t2,h⟩:=ob h
       refine wc (rc_slices_symMergeCmpFunc_int_of_global_Edges_1_ct q2 (w64 (g2)) (w64 ((w64 ((w64 (g2))+m_))-l2)) b_ c0_ _ t2) [(0,.sl 0),(1,.bp 1 0),(2,.sl 2),(3,.sl 3),(4,.sl 4),(5,.sl 5)] [] Q Q Q Q Q Q Q Q (.inl rfl) rfl (wx (zz1 s2 c0_ []) J 0 (wn ?_))
       cases h
       exact WP.fin J Tryz.func147 [] Q Q Q Q
      rcases oc' h with ⟨hc,h⟩ | ⟨hc,h⟩
      ·exact wf hc Q (wi (wu [] (j19 o2 h) Q Q Q Q))
      refine wt hc Q (wg (xw [5] (zz1 o2 c0_ [(0,.S 0),(3,.I b_),(4,.c (.cl 48 [] [1])),(18,.I (w64 (g2))),(24,.I (w64 ((w64 ((w64 (g2))+m_))-l2))),(200,.S 0),(201,.I a_),(202,.I l2),(203,.I (w64 (g2))),(204,.c (.cl 48 [] [1]))]) J 5 ?_))
      obtain ⟨u2,v2,h⟩:=ob h
      exact wc (rc_slices_symMergeCmpFunc_int_of_global_Edges_1_ct o2 a_ l2 (w64 (g2)) c0_ _ v2) [(0,.sl 0),(1,.bp 1 0),(2,.sl 2),(3,.sl 3),(4,.sl 4),(5,.sl 5)] [] Q Q Q Q Q Q Q Q (.inl rfl) rfl (wx (zz1 u2 c0_ [(0,.S 0),(3,.I b_),(4,.c (.cl 48 [] [1])),(18,.I (w64 (g2))),(24,.I (w64 ((w64 ((w64 (g2))+m_))-l2)))]) J 0 (wn (wu [] (j19 u2 h) Q Q Q Q)))
     rcases oc h with ⟨hc,h⟩ | ⟨hc,h⟩
     ·exact wy 195 hc Q (wx (zz1 o2 c0_ [(0,.S 0),(1,.I a_),(3,.I b_),(4,.c (.cl 48 [] [1])),(18,.I (w64 (g2))),(20,.I l2),(24,.I (w64 ((w64 ((w64 (g2))+m_))-l2))),(199,.O (decide (l2 < (w64 (g2)))))]) J 4 (wn (wu [] (j18 (decide (l2 < (w64 (g2)))) h) Q Q Q Q)))
     exact wy 195 hc Q (wx (zz1 o2 c0_ [(0,.S 0),(1,.I a_),(3,.I b_),(4,.c (.cl 48 [] [1])),(18,.I (w64 (g2))),(20,.I l2),(24,.I (w64 ((w64 ((w64 (g2))+m_))-l2))),(199,.O false)]) J 4 (wn (wu [] (j18 false h) Q Q Q Q)))
    rcases oc' h with ⟨hc,h⟩ | ⟨hc,h⟩
    ·exact wf hc Q (wi (wu [] (j17 data_ h) Q Q Q Q))
    refine wt hc Q (wg (xw [5] (zz1 data_ c0_ [(0,.S 0),(1,.I a_),(3,.I b_),(4,.c (.cl 48 [] [1])),(18,.I (w64 (g2))),(20,.I l2),(24,.I (w64 ((w64 ((w64 (g2))+m_))-l2))),(186,.S 0),(187,.I l2),(188,.I m_),(189,.I (w64 ((w64 ((w64 (g2))+m_))-l2))),(190,.c (.cl 48 [] [1]))]) J 5 ?_))
    obtain ⟨x2,y2,h⟩:=ob h
    exact wc (z168_11_ct N data_ l2 m_ (w64 ((w64 ((w64 (g2))+m_))-l2)) c0_ _ y2) [(0,.sl 0),(1,.bp 1 0),(2,.sl 2),(3,.sl 3),(4,.sl 4),(5,.sl 5)] [] Q Q Q Q Q Q Q Q (.inl rfl) rfl (wx (zz1 x2 c0_ [(0,.S 0),(1,.I a_),(3,.I b_),(4,.c (.cl 48 [] [1])),(18,.I (w64 (g2))),(20,.I l2),(24,.I (w64 ((w64 ((w64 (g2))+m_))-l2)))]) J 0 (wn (wu [] (j17 x2 h) Q Q Q Q)))
   rcases oc h with ⟨hc,h⟩ | ⟨hc,h⟩
   ·exact wy 181 hc Q (wx (zz1 data_ c0_ [(0,.S 0),(1,.I a_),(2,.I m_),(3,.I b_),(4,.c (.cl 48 [] [1])),(18,.I (w64 (g2))),(20,.I l2),(24,.I (w64 ((w64 ((w64 (g2))+m_))-l2))),(185,.O (decide (m_ < (w64 ((w64 ((w64 (g2))+m_))-l2)))))]) J 4 (wn (wu [] (j16 (decide (m_ < (w64 ((w64 ((w64 (g2))+m_))-l2)))) h) Q Q Q Q)))
   exact wy 181 hc Q (wx (zz1 data_ c0_ [(0,.S 0),(1,.I a_),(2,.I m_),(3,.I b_),(4,.c (.cl 48 [] [1])),(18,.I (w64 (g2))),(20,.I l2),(24,.I (w64 ((w64 ((w64 (g2))+m_))-l2))),(185,.O false)]) J 4 (wn (wu [] (j16 false h) Q Q Q Q)))
  refine wo ?_
  refine wI (σ:=Int × Int) (fun st=>(zz1 data_ c0_ [(0,.S 0),(1,.I a_),(2,.I m_),(3,.I b_),(4,.c (.cl 48 [] [1])),(18,.I (w64 (g2))),(19,.I (w64 ((w64 (g2))+m_))),(20,.I st.1),(21,.I st.2),(22,.I (w64 ((w64 ((w64 (g2))+m_))-1)))])) (fun n st=>z147_12_l14 N rc data_ a_ m_ b_ c0_ g2 n st.1 st.2) (r:=r) (fun _=>rfl) ?_ (fun ih=>?_)
  ·intro n10 ih20
   rintro ⟨z2,A2⟩ h
   replace h:z147_12_l14 N rc data_ a_ m_ b_ c0_ g2 (n10+1) z2 A2=some r:=h
   unfold z147_12_l14 at h
   refine wq (wq (wg (wx (zz1 data_ c0_ [(0,.S 0),(1,.I a_),(2,.I m_),(3,.I b_),(4,.c (.cl 48 [] [1])),(18,.I (w64 (g2))),(19,.I (w64 ((w64 (g2))+m_))),(20,.I z2),(21,.I A2),(22,.I (w64 ((w64 ((w64 (g2))+m_))-1))),(151,.O (decide (z2 < A2)))]) J 3 (wn ?_))))
   rcases oc' h with ⟨hc,h⟩ | ⟨hc,h⟩
   ·exact wf hc Q (wz rfl (wu [] (j14 z2 h) Q Q Q Q))
   refine wt hc Q (wi (wo (wq (wg (xw [4,5,6] (zz1 data_ c0_ [(0,.S 0),(1,.I a_),(2,.I m_),(3,.I b_),(4,.c (.cl 48 [] [1])),(18,.I (w64 (g2))),(19,.I (w64 ((w64 (g2))+m_))),(20,.I z2),(21,.I A2),(22,.I (w64 ((w64 ((w64 (g2))+m_))-1))),(155,.c (.i .u64 (wk .u64 ((w64 (z2+A2))))))]) J 4 ?_)))))
   obtain ⟨B2,C2,h⟩:=ob h
   refine WPr.bin C2 Q Q Q Q Q Q Q Q (wx (zz1 data_ c0_ [(0,.S 0),(1,.I a_),(2,.I m_),(3,.I b_),(4,.c (.cl 48 [] [1])),(18,.I (w64 (g2))),(19,.I (w64 ((w64 (g2))+m_))),(20,.I z2),(21,.I A2),(22,.I (w64 ((w64 ((w64 (g2))+m_))-1))),(23,.I (w64 (B2)))]) J 2 (wn (wq (wN (fun D2 G2 H2=>?_)))))
   have I2:D2 0 (zz3 [(4,.c (.cl 48 [] [1]))] [(158,.c (.cl 48 [] [1]))]):=G2 _ _ (wl J Q Q Q Q Q Q)
   have K2:D2 1 (zz3 [(0,.S 0)] [(159,.S 0)]):=G2 _ _ (wl J Q Q Q Q Q Q)
   have L2:D2 2 (zz3 [(22,.I (w64 ((w64 ((w64 (g2))+m_))-1)))] [(160,.I (w64 ((w64 ((w64 (g2))+m_))-1)))]):=G2 _ _ (wl J Q Q Q Q Q Q)
   have M2:D2 3 (zz3 [(23,.I (w64 (B2)))] [(161,.I (w64 (B2)))]):=G2 _ _ (wl J Q Q Q Q Q Q)
   have O2:D2 4 (zz3 [(160,.I (w64 ((w64 ((w64 (g2))+m_))-1))),(161,.I (w64 (B2)))] [(162,.I (w64 ((w64 ((w64 ((w64 (g2))+m_))-1))-(w64 (B2)))))]):=G2 _ _ (wl J Q Q Q Q Q Q)
   obtain ⟨R2,S2,h⟩:=ob h
   have T2:D2 5 (zz51 data_ (((w64 ((w64 ((w64 ((w64 (g2))+m_))-1))-(w64 (B2))))).toNat * ((rI .i64)).sz) [(159,.S 0),(162,.I (w64 ((w64 ((w64 ((w64 (g2))+m_))-1))-(w64 (B2)))))] [(163,.P 6 0)]):=G2 _ _ (wO Q Q Q (fun _ _ _ _ _ _ _ k=>wX J S2 Q Q Q Q Q Q Q Q Q (k)) rfl)
   have U2:D2 6 (zz52 (((w64 ((w64 ((w64 ((w64 (g2))+m_))-1))-(w64 (B2))))).toNat * ((rI .i64)).sz) data_ [(163,.P 6 0)] [(164,.I R2)]):=G2 _ _ (wO Q Q Q (fun _ _ _ _ _ _ _ k=>wL (oI .i64) J S2 Q Q Q Q Q Q Q Q Q Q (k)) rfl)
   have V2:D2 7 (zz4 [(0,.S 0)] [(165,.S 0)]):=G2 _ _ (wl J Q Q Q Q Q Q)
   have X2:D2 8 (zz4 [(23,.I (w64 (B2)))] [(166,.I (w64 (B2)))]):=G2 _ _ (wl J Q Q Q Q Q Q)
   obtain ⟨Y2,Z2,h⟩:=ob h
   have a3:D2 9 (zz53 data_ (((w64 (B2))).toNat * ((rI .i64)).sz) [(165,.S 0),(166,.I (w64 (B2)))] [(167,.P 7 0)]):=G2 _ _ (wO Q Q Q (fun _ _ _ _ _ _ _ k=>wX J Z2 Q Q Q Q Q Q Q Q Q (k)) rfl)
   have b3:D2 10 (zz54 (((w64 (B2))).toNat * ((rI .i64)).sz) data_ [(167,.P 7 0)] [(168,.I Y2)]):=G2 _ _ (wO Q Q Q (fun _ _ _ _ _ _ _ k=>wL (oI .i64) J Z2 Q Q Q Q Q Q Q Q Q Q (k)) rfl)
   obtain ⟨c3,d3,h⟩:=ob h
   have e3:D2 11 (zz100 c0_ [(158,.c (.cl 48 [] [1])),(164,.I R2),(168,.I Y2)] [(169,.I c3)]):=G2 _ _ (wO Q Q Q (fun _ _ _ _ _ _ _ k=>WPr.callc (z48_8_ct N R2 Y2 c0_ _ d3) [(0,.bp 1 0),(1,.sl 2),(2,.sl 3),(3,.sl 4),(4,.sl 5)] [] Q Q Q Q Q Q Q Q Q (.inl rfl) rfl (k)) rfl)
   have f3:D2 12 (zz11 [(169,.I c3)] [(170,.O (decide (c3 < 0)))]):=G2 _ _ (wl J Q Q Q Q Q Q)
   have g3:D2 13 (zz11 [(170,.O (decide (c3 < 0)))] [(171,.O (!(decide (c3 < 0))))]):=G2 _ _ (wl J Q Q Q Q Q Q)
   refine wD (t:=(zz55 data_ c0_ [(0,.S 0),(1,.I a_),(2,.I m_),(3,.I b_),(4,.c (.cl 48 [] [1])),(18,.I (w64 (g2))),(19,.I (w64 ((w64 (g2))+m_))),(20,.I z2),(21,.I A2),(22,.I (w64 ((w64 ((w64 (g2))+m_))-1))),(23,.I (w64 (B2))),(171,.O (!(decide (c3 < 0))))])) [0,0,0,0,12,30,62,0,0,384,896,2047,4095,8191] (.cons (H2 _ _ I2) (.cons (H2 _ _ K2) (.cons (H2 _ _ L2) (.cons (H2 _ _ M2) (.cons (H2 _ _ O2) (.cons (H2 _ _ T2) (.cons (H2 _ _ U2) (.cons (H2 _ _ V2) (.cons (H2 _ _ X2) (.cons (H2 _ _ a3) (.cons (H2 _ _ b3) (.cons (H2 _ _ e3) (.cons (H2 _ _ f3) (.cons (H2 _ _ g3) .nil)))))))))))))) (by kernel_rfl) (by kernel_rfl) (by kernel_rfl) (by kernel_rfl) ?_
   rcases oc h with ⟨hc,h⟩ | ⟨hc,h⟩
   ·exact wt hc Q (wg (wx (zz55 data_ c0_ [(0,.S 0),(1,.I a_),(2,.I m_),(3,.I b_),(4,.c (.cl 48 [] [1])),(18,.I (w64 (g2))),(19,.I (w64 ((w64 (g2))+m_))),(20,.I (w64 ((w64 (B2))+1))),(21,.I A2),(22,.I (w64 ((w64 ((w64 (g2))+m_))-1)))]) J 3 (wn (wb (wu [] (ih20 ((w64 ((w64 (B2))+1)),A2) h) Q Q Q Q)))))
   exact wf hc Q (wg (ws J 2 Q (wn (wb (wu [] (ih20 (z2,(w64 (B2))) h) Q Q Q Q)))))
  exact wu [] (ih N (j2,k2) h) Q Q Q Q
 rcases oc h with ⟨hc,h⟩ | ⟨hc,h⟩
 ·exact wt hc Q (wq (wg (wx (zz1 data_ c0_ [(0,.S 0),(1,.I a_),(2,.I m_),(3,.I b_),(4,.c (.cl 48 [] [1])),(18,.I (w64 (g2))),(19,.I (w64 ((w64 (g2))+m_))),(20,.I (w64 ((w64 ((w64 (g2))+m_))-b_)))]) J 4 (wn (wg (ws J 2 Q (wn (wu [] (j13 ((w64 ((w64 ((w64 (g2))+m_))-b_)),(w64 (g2))) h) Q Q Q Q))))))))
 exact wf hc Q (wq (wg (ws J 2 Q (wn (wg (wx (zz1 data_ c0_ [(0,.S 0),(1,.I a_),(2,.I m_),(3,.I b_),(4,.c (.cl 48 [] [1])),(18,.I (w64 (g2))),(19,.I (w64 ((w64 (g2))+m_))),(20,.I a_),(21,.I m_)]) J 2 (wn (wu [] (j13 (a_,m_) h) Q Q Q Q))))))))
theorem z147_12_rct:∀ (N:Nat) (data_:(List Int)) (a_:Int) (m_:Int) (b_:Int) (c0_:T4) (r:(List Int)) (h:z147_12_r N data_ a_ m_ b_ c0_=some r),Fn Tryz.prog 147 ⟨6,[.S 0,.I a_,.I m_,.I b_,.c (.cl 48 [] [1])],(vV4 2 3 4 5 c0_ []),[(0,.own (rI .i64) data_ false),(1,.box (cC4 2 3 4 5 c0_) 27)],6,.t [],[],[(0,.own (rI .i64) r false),(1,.box (cC4 2 3 4 5 c0_) 27)]⟩:=by
 intro N
 induction N with
 | zero=>intros;rename_i h;cases h
 | succ N ih=>intro data_ a_ m_ b_ c0_ r h;exact z147_12_b_ct N (z147_12_r N) ih data_ a_ m_ b_ c0_ r h
theorem z147_12_ct (N:Nat) (data_:(List Int)) (a_:Int) (m_:Int) (b_:Int) (c0_:T4) (r:(List Int)) (h:z147_12 N data_ a_ m_ b_ c0_=some r):Fn Tryz.prog 147 ⟨6,[.S 0,.I a_,.I m_,.I b_,.c (.cl 48 [] [1])],(vV4 2 3 4 5 c0_ []),[(0,.own (rI .i64) data_ false),(1,.box (cC4 2 3 4 5 c0_) 27)],6,.t [],[],[(0,.own (rI .i64) r false),(1,.box (cC4 2 3 4 5 c0_) 27)]⟩:=z147_12_rct N data_ a_ m_ b_ c0_ r h
theorem z110_13_ct (N:Nat) (data_:(List Int)) (n_:Int) (c0_:T4) (r:(List Int)) (h:z110_13 N data_ n_ c0_=some r) :
 Fn Tryz.prog 110 ⟨6,[.S 0,.I n_,.c (.cl 48 [] [1])],(vV4 2 3 4 5 c0_ []),[(0,.own (rI .i64) data_ false),(1,.box (cC4 2 3 4 5 c0_) 27)],6,.t [],[],[(0,.own (rI .i64) r false),(1,.box (cC4 2 3 4 5 c0_) 27)]⟩:=by
 refine Fn.intro _ _ Tryz.func110 rfl (by kernel_rfl) rfl (fun E F w=>?_)
 unfold z110_13 at h
 refine wq (wg (ws J 1 Q (wn (wq (wg (wx (zz1 data_ c0_ [(0,.S 0),(1,.I n_),(2,.c (.cl 48 [] [1])),(6,.I 20),(7,.I 0),(8,.I 20)]) J 3 (wn (wq ?_))))))))
 refine wC (σ:=(List Int) × Int) (fun st=>(zz1 st.1 c0_ [(0,.S 0),(1,.I n_),(2,.c (.cl 48 [] [1])),(6,.I 20),(7,.I st.2)])) (fun st=>z110_13_k5 N n_ c0_ st.1 st.2=some r) ?_ (fun j1=>?_)
 ·rintro ⟨d,e⟩ h
  replace h:z110_13_k5 N n_ c0_ d e=some r:=h
  unfold z110_13_k5 at h
  refine wq (wg (xw [4] (zz1 d c0_ [(0,.S 0),(1,.I n_),(2,.c (.cl 48 [] [1])),(6,.I 20),(23,.S 0),(24,.I e),(25,.I n_),(26,.c (.cl 48 [] [1]))]) J 4 ?_))
  obtain ⟨x5,f,h⟩:=ob h
  refine wc (z146_9_ct N d e n_ c0_ _ f) [(0,.sl 0),(1,.bp 1 0),(2,.sl 2),(3,.sl 3),(4,.sl 4),(5,.sl 5)] [] Q Q Q Q Q Q Q Q (.inl rfl) rfl (wx (zz1 x5 c0_ [(0,.S 0),(1,.I n_),(2,.c (.cl 48 [] [1])),(6,.I 20)]) J 0 (wn ?_))
  refine wC (σ:=(List Int)) (fun st=>(zz1 st c0_ [])) (fun st=>z110_13_k1 st=some r) ?_ (fun j3=>?_)
  ·intro g h
   replace h:z110_13_k1 g=some r:=h
   unfold z110_13_k1 at h
   cases h
   exact WP.fin J Tryz.func110 [] Q Q Q Q
  refine wo ?_
  refine wI (σ:=(List Int) × Int) (fun st=>(zz1 st.1 c0_ [(0,.S 0),(1,.I n_),(2,.c (.cl 48 [] [1])),(6,.I st.2)])) (fun n st=>z110_13_l2 N n_ c0_ n st.1 st.2) (r:=r) (fun _=>rfl) ?_ (fun ih=>?_)
  ·intro n13 ih14
   rintro ⟨i,j⟩ h
   replace h:z110_13_l2 N n_ c0_ (n13+1) i j=some r:=h
   unfold z110_13_l2 at h
   refine wq (wq (wg (wx (zz1 i c0_ [(0,.S 0),(1,.I n_),(2,.c (.cl 48 [] [1])),(6,.I j),(30,.O (decide (j < n_)))]) J 3 (wn ?_))))
   rcases oc' h with ⟨hc,h⟩ | ⟨hc,h⟩
   ·exact wf hc Q (wz rfl (wu [] (j3 i h) Q Q Q Q))
   refine wt hc Q (wi (wo (wq (wg (wx (zz1 i c0_ [(0,.S 0),(1,.I n_),(2,.c (.cl 48 [] [1])),(6,.I j),(7,.I 0),(8,.I (w64 (2 * j)))]) J 4 (wn (wq ?_)))))))
   refine wC (σ:=(List Int) × Int) (fun st=>(zz1 st.1 c0_ [(0,.S 0),(1,.I n_),(2,.c (.cl 48 [] [1])),(6,.I j),(7,.I st.2)])) (fun st=>z110_13_k3 N n_ c0_ j (z110_13_l2 N n_ c0_ n13) st.1 st.2=some r) ?_ (fun j21=>?_)
   ·rintro ⟨k,l⟩ h
    replace h:z110_13_k3 N n_ c0_ j (z110_13_l2 N n_ c0_ n13) k l=some r:=h
    unfold z110_13_k3 at h
    refine wq (wq (wg (wx (zz1 k c0_ [(0,.S 0),(1,.I n_),(2,.c (.cl 48 [] [1])),(6,.I j),(7,.I l),(9,.I (w64 (l+j)))]) J 4 (wn (wq (wg (wx (zz1 k c0_ [(0,.S 0),(1,.I n_),(2,.c (.cl 48 [] [1])),(6,.I j),(7,.I l),(9,.I (w64 (l+j))),(54,.O (decide ((w64 (l+j)) < n_)))]) J 3 (wn ?_))))))))
    rcases oc' h with ⟨hc,h⟩ | ⟨hc,h⟩
    ·exact wf hc Q (wi (wg (wx (zz1 k c0_ [(0,.S 0),(1,.I n_),(2,.c (.cl 48 [] [1])),(6,.I (w64 (j * 2)))]) J 3 (wn (wb (wu [] (ih14 (k,(w64 (j * 2))) h) Q Q Q Q))))))
    refine wt hc Q (wg (xw [5] (zz1 k c0_ [(0,.S 0),(1,.I n_),(2,.c (.cl 48 [] [1])),(6,.I j),(55,.S 0),(56,.I l),(57,.I (w64 (l+j))),(58,.I n_),(59,.c (.cl 48 [] [1]))]) J 5 ?_))
    obtain ⟨m,o,h⟩:=ob h
    exact wc (z147_12_ct N k l (w64 (l+j)) n_ c0_ _ o) [(0,.sl 0),(1,.bp 1 0),(2,.sl 2),(3,.sl 3),(4,.sl 4),(5,.sl 5)] [] Q Q Q Q Q Q Q Q (.inl rfl) rfl (wx (zz1 m c0_ [(0,.S 0),(1,.I n_),(2,.c (.cl 48 [] [1])),(6,.I j)]) J 0 (wn (wg (wx (zz1 m c0_ [(0,.S 0),(1,.I n_),(2,.c (.cl 48 [] [1])),(6,.I (w64 (j * 2)))]) J 3 (wn (wb (wu [] (ih14 (m,(w64 (j * 2))) h) Q Q Q Q)))))))
   refine wo ?_
   refine wI (σ:=(List Int) × Int × Int) (fun st=>(zz1 st.1 c0_ [(0,.S 0),(1,.I n_),(2,.c (.cl 48 [] [1])),(6,.I j),(7,.I st.2.1),(8,.I st.2.2)])) (fun n st=>z110_13_l4 N n_ c0_ j (z110_13_l2 N n_ c0_ n13) n st.1 st.2.1 st.2.2) (r:=r) (fun _=>rfl) ?_ (fun ih=>?_)
   ·intro n15 ih23
    rintro ⟨p,q,s⟩ h
    replace h:z110_13_l4 N n_ c0_ j (z110_13_l2 N n_ c0_ n13) (n15+1) p q s=some r:=h
    unfold z110_13_l4 at h
    refine wq (wq (wg (wx (zz1 p c0_ [(0,.S 0),(1,.I n_),(2,.c (.cl 48 [] [1])),(6,.I j),(7,.I q),(8,.I s),(35,.O (decide (s≤n_)))]) J 3 (wn ?_))))
    rcases oc' h with ⟨hc,h⟩ | ⟨hc,h⟩
    ·exact wf hc Q (wz rfl (wu [] (j21 (p,q) h) Q Q Q Q))
    refine wt hc Q (wi (wo (wq (wg (xw [7] (zz1 p c0_ [(0,.S 0),(1,.I n_),(2,.c (.cl 48 [] [1])),(6,.I j),(8,.I s),(36,.S 0),(37,.I q),(40,.I (w64 (q+j))),(41,.I s),(42,.c (.cl 48 [] [1]))]) J 7 ?_)))))
    obtain ⟨u,v,h⟩:=ob h
    exact wc (z147_12_ct N p q (w64 (q+j)) s c0_ _ v) [(0,.sl 0),(1,.bp 1 0),(2,.sl 2),(3,.sl 3),(4,.sl 4),(5,.sl 5)] [] Q Q Q Q Q Q Q Q (.inl rfl) rfl (wx (zz1 u c0_ [(0,.S 0),(1,.I n_),(2,.c (.cl 48 [] [1])),(6,.I j),(8,.I s)]) J 0 (wn (wq (wg (ws J 2 Q (wn (wg (wx (zz1 u c0_ [(0,.S 0),(1,.I n_),(2,.c (.cl 48 [] [1])),(6,.I j),(7,.I s),(8,.I (w64 (s+(w64 (2 * j)))))]) J 5 (wn (wb (wu [] (ih23 (u,s,(w64 (s+(w64 (2 * j))))) h) Q Q Q Q)))))))))))
   exact wu [] (ih N (i,0,(w64 (2 * j))) h) Q Q Q Q
  exact wu [] (ih N (x5,20) h) Q Q Q Q
 refine wo ?_
 refine wI (σ:=(List Int) × Int × Int) (fun st=>(zz1 st.1 c0_ [(0,.S 0),(1,.I n_),(2,.c (.cl 48 [] [1])),(6,.I 20),(7,.I st.2.1),(8,.I st.2.2)])) (fun n st=>z110_13_l6 N n_ c0_ n st.1 st.2.1 st.2.2) (r:=r) (fun _=>rfl) ?_ (fun ih=>?_)
 ·intro n16 ih24
  rintro ⟨x,y,z⟩ h
  replace h:z110_13_l6 N n_ c0_ (n16+1) x y z=some r:=h
  unfold z110_13_l6 at h
  refine wq (wq (wg (wx (zz1 x c0_ [(0,.S 0),(1,.I n_),(2,.c (.cl 48 [] [1])),(6,.I 20),(7,.I y),(8,.I z),(13,.O (decide (z≤n_)))]) J 3 (wn ?_))))
  rcases oc' h with ⟨hc,h⟩ | ⟨hc,h⟩
  ·exact wf hc Q (wz rfl (wu [] (j1 (x,y) h) Q Q Q Q))
  refine wt hc Q (wi (wo (wq (wg (xw [4] (zz1 x c0_ [(0,.S 0),(1,.I n_),(2,.c (.cl 48 [] [1])),(6,.I 20),(8,.I z),(14,.S 0),(15,.I y),(16,.I z),(17,.c (.cl 48 [] [1]))]) J 4 ?_)))))
  obtain ⟨A,C,h⟩:=ob h
  exact wc (z146_9_ct N x y z c0_ _ C) [(0,.sl 0),(1,.bp 1 0),(2,.sl 2),(3,.sl 3),(4,.sl 4),(5,.sl 5)] [] Q Q Q Q Q Q Q Q (.inl rfl) rfl (wx (zz1 A c0_ [(0,.S 0),(1,.I n_),(2,.c (.cl 48 [] [1])),(6,.I 20),(8,.I z)]) J 0 (wn (wq (wg (ws J 2 Q (wn (wg (wx (zz1 A c0_ [(0,.S 0),(1,.I n_),(2,.c (.cl 48 [] [1])),(6,.I 20),(7,.I z),(8,.I (w64 (z+20)))]) J 4 (wn (wb (wu [] (ih24 (A,z,(w64 (z+20))) h) Q Q Q Q)))))))))))
 exact wu [] (ih N (data_,0,20) h) Q Q Q Q
theorem z47_14_ct (N:Nat) (x_:(List Int)) (c0_:T4) (r:(List Int)) (h:z47_14 N x_ c0_=some r) :
 Fn Tryz.prog 47 ⟨6,[.S 0,.c (.cl 48 [] [1])],(vV4 2 3 4 5 c0_ []),[(0,.own (rI .i64) x_ false),(1,.box (cC4 2 3 4 5 c0_) 27)],6,.t [],[],[(0,.own (rI .i64) r false),(1,.box (cC4 2 3 4 5 c0_) 27)]⟩:=by
 refine Fn.intro _ _ Tryz.func47 rfl (by kernel_rfl) rfl (fun E F w=>?_)
 unfold z47_14 at h
 refine wg (xw [4] (zz1 x_ c0_ [(4,.S 0),(6,.I (x_.length:Int)),(7,.c (.cl 48 [] [1]))]) J 4 ?_)
 obtain ⟨x1,d,h⟩:=ob h
 refine wc (z110_13_ct N x_ (x_.length:Int) c0_ _ d) [(0,.sl 0),(1,.bp 1 0),(2,.sl 2),(3,.sl 3),(4,.sl 4),(5,.sl 5)] [] Q Q Q Q Q Q Q Q (.inl rfl) rfl (wx (zz1 x1 c0_ []) J 0 (wn ?_))
 cases h
 exact WP.fin J Tryz.func47 [] Q Q Q Q
theorem z18_ct (N:Nat) (g_:T4) (state_:Int) (r:(List Int)) (h:z18 N g_ state_=some r) :
 Fn Tryz.prog 18 ⟨4,[.a (cC4 0 1 2 3 g_),.I state_],(vV4 0 1 2 3 g_ []),[],5,.S 4,[],[(4,.own (rI .i64) r true)]⟩:=by
 refine Fn.intro _ _ Tryz.func18 rfl (by kernel_rfl) rfl (fun E F w=>?_)
 unfold z18 at h
 refine wq (wg (ws J 2 Q (wn (wq (wg (wx (zz2 g_ [(1,.I state_),(2,.B 4 0),(4,.c .nil),(5,.c .nil)]) J 1 (wn (wq (wq (wg (wx (zz2 g_ [(1,.I state_),(2,.B 4 0),(4,.c .nil),(5,.c .nil),(9,.S 2),(10,.I (g_.Edges.length:Int)),(11,.I 0)]) J 4 (wn ?_))))))))))))
 refine wC (σ:=(List Int)) (fun st=>(zz29 g_ st [(2,.B 4 0),(5,.S 5)])) (fun st=>z18_k1 N g_ st=some r) ?_ (fun j1=>?_)
 ·intro d h
  replace h:z18_k1 N g_ d=some r:=h
  unfold z18_k1 at h
  refine wq (wg (ws J 2 Q ?_))
  obtain ⟨x9,e,h⟩:=ob h
  refine wc (z47_14_ct N d g_ _ e) [(0,.sl 5),(1,.bp 4 0),(2,.sl 0),(3,.sl 1),(4,.sl 2),(5,.sl 3)] [] Q Q Q Q Q Q Q Q (.inl rfl) rfl (wx ⟨[(5,.S 5)],[(5,.own (rI .i64) x9 true)],(vV4 0 1 2 3 g_ []),6⟩ J 0 (wn (wq (wg (ws J 2 Q (wn ?_))))))
  cases h
  exact we J Tryz.func18 [(4,.sl 5)] Q Q Q Q
 refine wo ?_
 refine wI (σ:=(List Int) × Int) (fun st=>(zz29 g_ st.1 [(1,.I state_),(2,.B 4 0),(5,.S 5),(9,.S 2),(10,.I (g_.Edges.length:Int)),(11,.I st.2)])) (fun n st=>z18_l2 N g_ state_ n st.1 st.2) (r:=r) (fun _=>rfl) ?_ (fun ih=>?_)
 ·intro n2 ih3
  rintro ⟨f,g⟩ h
  replace h:z18_l2 N g_ state_ (n2+1) f g=some r:=h
  unfold z18_l2 at h
  refine wq (wg (ws J 1 Q (wn (wq ?_))))
  rcases oc' h with ⟨hc,h⟩ | ⟨hc,h⟩
  ·exact wf hc Q (wz rfl (wu [] (j1 f h) Q Q Q Q))
  refine wt hc Q (wi (wq (wo (wq (wg (ws J 1 Q ?_))))))
  obtain ⟨i,j,h⟩:=ob h
  refine wj oO2 J j Q Q Q Q Q Q Q Q Q (wx ⟨[(1,.I state_),(2,.B 4 0),(5,.S 5),(6,.I g),(7,.B 7 0),(9,.S 2),(10,.I (g_.Edges.length:Int)),(11,.I g)],[(4,.box (cC4 0 1 2 3 g_) 27),(5,.own (rI .i64) f true),(7,.box (cC2 i) 43)],(vV4 0 1 2 3 g_ []),8⟩ J 4 (wn (wq (wg (wx (zz124 g_ f [(1,.I state_),(2,.B 4 0),(5,.S 5),(6,.I g),(9,.S 2),(10,.I (g_.Edges.length:Int)),(11,.I g),(19,.O (i.From==state_))]) J 4 (wn ?_))))))
  rcases oc' h with ⟨hc,h⟩ | ⟨hc,h⟩
  ·exact wf hc Q (wi (wb (wg (ws J 2 Q (wn (wu [] (ih3 (f,(w64 (g+1))) h) Q Q Q Q))))))
  refine wt hc Q (wg (ws J 2 Q (WPr.bs (cs:=[.I g]) (oI .i64) J ([g]:List Int) Q Q Q Q Q Q (by kernel_rfl) (by exact (an Q Q)) rfl (xw [3,4] ⟨[(1,.I state_),(2,.B 4 0),(9,.S 2),(10,.I (g_.Edges.length:Int)),(11,.I g),(20,.S 5),(22,.S 8)],[(4,.box (cC4 0 1 2 3 g_) 27),(5,.own (rI .i64) f true),(8,.own (rI .i64) ([g]:List Int) true)],(vV4 0 1 2 3 g_ []),9⟩ J 0 ?_))))
  obtain ⟨k,l,h⟩:=ob h
  exact WPr.app J l (by exact (srcO rfl)) Q Q Q Q Q Q Q Q Q Q (wx ⟨[(1,.I state_),(2,.B 4 0),(5,.S 9),(9,.S 2),(10,.I (g_.Edges.length:Int)),(11,.I g)],[(4,.box (cC4 0 1 2 3 g_) 27),(9,.own (rI .i64) k true)],(vV4 0 1 2 3 g_ []),10⟩ J 1 (wn (wb (wg (ws J 2 Q (wn (wu [(5,.sl 9)] (ih3 (k,(w64 (g+1))) h) Q Q Q Q)))))))
 exact wu [(5,.nil)] (ih N (([]:List Int),0) h) Q Q Q Q
theorem z45_ct (N:Nat) (s_:(List T6)) (r:(List T6)) (h:z45 N s_=some r) :
 Fn Tryz.prog 45 ⟨1,[.S 0],[(0,.sl rR6 s_)],[],2,.S 1,[],[(1,.own rR6 r true)]⟩:=by
 refine Fn.intro _ _ Tryz.func45 rfl (by kernel_rfl) rfl (fun E F w=>?_)
 unfold z45 at h
 refine wq (wg (ws J 1 Q (wn (wq (wq (wg (ws J 1 Q (WPr.nilc (el:=37) false (Or.inl rfl) Q Q Q Q (by kernel_rfl) Q Q Q ?_))))))))
 intro nb hnb
 cases nb
 ·refine wx ⟨[(0,.S 0),(2,.c .nil),(4,.O false)],[],[(0,.sl rR6 s_)],1⟩ J 0 (wn (wf Q Q (wi (wq (wg (WPr.bs (cs:=[]) oO6 J ([]:List T6) Q Q Q Q Q Q (by kernel_rfl) (by exact rfl) rfl (ws J 1 Q ?_)))))))
  obtain ⟨x1,d,h⟩:=ob h
  refine WPr.app J d (by exact (srcI rfl)) Q Q Q Q Q Q Q Q Q Q (wx ⟨[(2,.S 2)],[(2,.own rR6 x1 true)],[(0,.sl rR6 s_)],3⟩ J 1 (wn ?_))
  cases h
  exact we J Tryz.func45 [(1,.sl 2)] Q Q Q Q
 ·obtain rfl:=hnb rfl
  replace h:(some ([]:List T6):Option (List T6))=some r:=h
  refine wx ⟨[(0,.S 0),(2,.c .nil),(4,.O true)],[],[(0,.sl rR6 ([]:List T6))],1⟩ J 0 (wn (wt Q Q (wq (wg (ws J 1 Q (wn ?_))))))
  cases h
  exact we J Tryz.func45 [(1,.nil)] Q Q Q Q
theorem z14_ct (N:Nat) (g_:T4) (n_:Int) (r:(List (List T6)) × Int) (h:z14 N g_ n_=some r) :
 Fn Tryz.prog 14 ⟨4,[.a (cC4 0 1 2 3 g_),.I n_],(vV4 0 1 2 3 g_ []),[],5,.t [.inl (.sl 4),.inl (.I r.2)],[],[(4,.own (rSl rR6) r.1 true)]⟩:=by
 refine Fn.intro _ _ Tryz.func14 rfl (by kernel_rfl) rfl (fun E F w=>?_)
 unfold z14 at h
 refine wq (wg (wx (zz2 g_ [(1,.I n_),(2,.B 4 0),(4,.c .nil),(5,.I 0)]) J 3 (wn (wq (wq (wg (ws J 1 Q ?_)))))))
 obtain ⟨x1,d,h⟩:=ob h
 refine wc (z22_ct N g_ _ d) [(0,.sl 0),(1,.sl 1),(2,.sl 2),(3,.sl 3)] [] Q Q Q Q Q Q Q Q (.inl rfl) rfl (wx (zz2 g_ [(1,.I n_),(2,.B 4 0),(4,.c .nil),(5,.I 0),(13,.O (!x1))]) J 1 (wn ?_))
 rcases oc h with ⟨hc,h⟩ | ⟨hc,h⟩
 ·refine wt hc Q (wq (wg (ws J 2 Q (wn ?_))))
  cases h
  exact we J Tryz.func14 [(4,.nil)] Q Q Q Q
 refine wf hc Q (wi (wq (wq (wg (xw [3,4,5] (zz2 g_ [(1,.I n_),(2,.B 4 0),(4,.c .nil),(5,.I 0),(16,.O (decide (n_ < 0)))]) J 3 ?_)))))
 rcases oc h with ⟨hc,h⟩ | ⟨hc,h⟩
 ·refine wy 16 hc Q (wx (zz2 g_ [(1,.I n_),(2,.B 4 0),(4,.c .nil),(5,.I 0),(19,.O true)]) J 3 (wn (wt Q Q (wq (wg (ws J 2 Q (wn ?_)))))))
  cases h
  exact we J Tryz.func14 [(4,.nil)] Q Q Q Q
 refine wy 16 hc Q (wx (zz2 g_ [(1,.I n_),(2,.B 4 0),(4,.c .nil),(5,.I 0),(19,.O (decide (n_ > 12)))]) J 3 (wn ?_))
 rcases oc h with ⟨hc,h⟩ | ⟨hc,h⟩
 ·refine wt hc Q (wq (wg (ws J 2 Q (wn ?_))))
  cases h
  exact we J Tryz.func14 [(4,.nil)] Q Q Q Q
 refine wf hc Q (wi (wq (wg (WPr.bs (cs:=[.nil]) (oSl rR6) J ([([]:List T6)]:List (List T6)) Q Q Q Q Q Q (by kernel_rfl) (by exact (an Q Q)) rfl (ws J 1 Q (wn (wq (wg (xw [2,3] ⟨[(1,.I n_),(2,.B 4 0),(4,.c .nil),(5,.I 0),(6,.S 5),(22,.I g_.Start)],[(4,.box (cC4 0 1 2 3 g_) 27),(5,.own (rSl rR6) ([([]:List T6)]:List (List T6)) true)],(vV4 0 1 2 3 g_ []),6⟩ J 2 (WPr.bs (cs:=[.I g_.Start]) (oI .i64) J ([g_.Start]:List Int) Q Q Q Q Q Q (by kernel_rfl) (by exact (an Q Q)) rfl (ws J 1 Q (wn (wq (wq (wg (wx ⟨[(1,.I n_),(2,.B 4 0),(4,.c .nil),(5,.I 0),(6,.S 5),(7,.S 6),(8,.I 0)],[(4,.box (cC4 0 1 2 3 g_) 27),(5,.own (rSl rR6) ([([]:List T6)]:List (List T6)) true),(6,.own (rI .i64) ([g_.Start]:List Int) true)],(vV4 0 1 2 3 g_ []),7⟩ J 1 (wn ?_)))))))))))))))))
 refine wC (σ:=(List (List T6))) (fun st=>⟨[(6,.S 7)],[(7,.own (rSl rR6) st true)],(vV4 0 1 2 3 g_ []),8⟩) (fun st=>z14_k1 st=some r) ?_ (fun j1=>?_)
 ·intro e h
  replace h:z14_k1 e=some r:=h
  unfold z14_k1 at h
  refine wq (wg (wx ⟨[(4,.S 7),(5,.I 0)],[(7,.own (rSl rR6) e true)],(vV4 0 1 2 3 g_ []),8⟩ J 3 (wn ?_)))
  cases h
  exact we J Tryz.func14 [(4,.sl 7)] Q Q Q Q
 refine wo ?_
 refine wI (σ:=(List (List T6)) × (List Int) × Int) (fun st=>(zz159 g_ st.1 st.2.1 [(1,.I n_),(2,.B 4 0),(6,.S 7),(7,.S 8),(8,.I st.2.2)])) (fun n st=>z14_l2 N g_ n_ n st.1 st.2.1 st.2.2) (r:=r) (fun _=>rfl) ?_ (fun ih=>?_)
 ·intro n12 ih12
  rintro ⟨f,g,i⟩ h
  replace h:z14_l2 N g_ n_ (n12+1) f g i=some r:=h
  unfold z14_l2 at h
  refine wq (wq (wg (wx (zz159 g_ f g [(1,.I n_),(2,.B 4 0),(6,.S 7),(7,.S 8),(8,.I i),(27,.O (decide (i < (f.length:Int))))]) J 4 (wn ?_))))
  rcases oc' h with ⟨hc,h⟩ | ⟨hc,h⟩
  ·exact wf hc Q (wz rfl (wu [] (j1 f h) Q Q Q Q))
  refine wt hc Q (wi (wq (wo (wq (wq (wg (ws J 2 Q ?_)))))))
  obtain ⟨j,l,h⟩:=ob h
  refine wX J l Q Q Q Q Q Q Q Q Q (xw [3,4,5,6] ⟨[(1,.I n_),(2,.B 4 0),(6,.S 7),(7,.S 8),(8,.I i),(32,.P 9 0)],[(4,.box (cC4 0 1 2 3 g_) 27),(7,.own (rSl rR6) f true),(8,.own (rI .i64) g true)],(vV4 0 1 2 3 g_ [(9,.el 7 ((i).toNat * ((rSl rR6)).sz))]),10⟩ J 0 (wL (oSl rR6) J l Q Q Q Q Q Q Q Q Q Q (wx (zz160 g_ f g [(1,.I n_),(2,.B 4 0),(6,.S 7),(7,.S 8),(8,.I i),(36,.O ((j.length:Int)==n_))]) J 3 (wn ?_))))
  rcases oc h with ⟨hc,h⟩ | ⟨hc,h⟩
  ·exact wt hc Q (wz rfl (wg (wx (zz160 g_ f g [(1,.I n_),(2,.B 4 0),(6,.S 7),(7,.S 8),(8,.I (w64 (i+1)))]) J 3 (wn (wu [] (ih12 (f,g,(w64 (i+1))) h) Q Q Q Q)))))
  refine wf hc Q (wi (wq (wq (wN (fun m o p=>?_)))))
  have q:m 0 ⟨[(2,.B 4 0)],(vV4 0 1 2 3 g_ []),[],[(4,.box (cC4 0 1 2 3 g_) 27)],11,[(37,.a (cC4 0 1 2 3 g_))],[],[],11⟩:=o _ _ (wl J Q Q Q Q Q Q)
  have s:m 1 (zz30 [(7,.S 8)] [(38,.S 8)]):=o _ _ (wl J Q Q Q Q Q Q)
  have u:m 2 (zz30 [(8,.I i)] [(39,.I i)]):=o _ _ (wl J Q Q Q Q Q Q)
  obtain ⟨v,x,h⟩:=ob h
  have y:m 3 ⟨[(38,.S 8),(39,.I i)],[],[],[(8,.own (rI .i64) g true)],11,[(40,.P 11 0)],[(11,.el 8 ((i).toNat * ((rI .i64)).sz))],[],12⟩:=o _ _ (wO Q Q Q (fun _ _ _ _ _ _ _ k=>wX J x Q Q Q Q Q Q Q Q Q (k)) rfl)
  have z:m 4 ⟨[(40,.P 11 0)],[(11,.el 8 ((i).toNat * ((rI .i64)).sz))],[],[(8,.own (rI .i64) g true)],12,[(41,.I v)],[],[],12⟩:=o _ _ (wO Q Q Q (fun _ _ _ _ _ _ _ k=>wL (oI .i64) J x Q Q Q Q Q Q Q Q Q Q (k)) rfl)
  obtain ⟨A,C,h⟩:=ob h
  have D:m 5 ⟨[(37,.a (cC4 0 1 2 3 g_)),(41,.I v)],(vV4 0 1 2 3 g_ []),[],[],12,[(42,.S 12)],[],[(12,.own (rI .i64) A true)],13⟩:=o _ _ (wO Q Q Q (fun _ _ _ _ _ _ _ k=>wc (z18_ct N g_ v _ C) [(0,.sl 0),(1,.sl 1),(2,.sl 2),(3,.sl 3)] [] Q Q Q Q Q Q Q Q (.inl rfl) rfl (k)) rfl)
  have G:m 6 ⟨[(42,.S 12)],[],[],[(12,.own (rI .i64) A true)],13,[(43,.I (A.length:Int))],[],[],13⟩:=o _ _ (wl J Q Q Q Q Q Q)
  have H:m 7 ⟨[],[],[],[],13,[(44,.I 0)],[],[],13⟩:=o _ _ (wl J Q Q Q Q Q Q)
  refine wD (t:=⟨[(1,.I n_),(2,.B 4 0),(6,.S 7),(7,.S 8),(8,.I i),(42,.S 12),(43,.I (A.length:Int)),(44,.I 0)],[(4,.box (cC4 0 1 2 3 g_) 27),(7,.own (rSl rR6) f true),(8,.own (rI .i64) g true),(12,.own (rI .i64) A true)],(vV4 0 1 2 3 g_ []),13⟩) [0,0,0,6,14,31,63,0] (.cons (p _ _ q) (.cons (p _ _ s) (.cons (p _ _ u) (.cons (p _ _ y) (.cons (p _ _ z) (.cons (p _ _ D) (.cons (p _ _ G) (.cons (p _ _ H) .nil)))))))) (by kernel_rfl) (by kernel_rfl) (by kernel_rfl) (by kernel_rfl) ?_
  refine wC (σ:=(List (List T6)) × (List Int)) (fun st=>(zz125 g_ st.1 st.2 [(1,.I n_),(2,.B 4 0),(6,.S 13),(7,.S 14),(8,.I i)])) (fun st=>z14_k3 i (z14_l2 N g_ n_ n12) st.1 st.2=some r) ?_ (fun j19=>?_)
  ·rintro ⟨K,R⟩ h
   replace h:z14_k3 i (z14_l2 N g_ n_ n12) K R=some r:=h
   unfold z14_k3 at h
   refine wq (wg (wx (zz125 g_ K R [(1,.I n_),(2,.B 4 0),(6,.S 13),(7,.S 14),(8,.I i),(76,.O (decide ((K.length:Int) > 3000)))]) J 3 (wn ?_)))
   rcases oc h with ⟨hc,h⟩ | ⟨hc,h⟩
   ·refine wt hc Q (wq (wg (ws J 2 Q (wn ?_))))
    cases h
    exact we J Tryz.func14 [(4,.nil)] Q Q Q Q
   exact wf hc Q (wi (wb (wg (wx (zz125 g_ K R [(1,.I n_),(2,.B 4 0),(6,.S 13),(7,.S 14),(8,.I (w64 (i+1)))]) J 3 (wn (wu [(7,.sl 13),(8,.sl 14)] (ih12 (K,R,(w64 (i+1))) h) Q Q Q Q))))))
  refine wo ?_
  refine wI (σ:=(List (List T6)) × (List Int) × Int) (fun st=>⟨[(1,.I n_),(2,.B 4 0),(6,.S 13),(7,.S 14),(8,.I i),(42,.S 12),(43,.I (A.length:Int)),(44,.I st.2.2)],[(4,.box (cC4 0 1 2 3 g_) 27),(12,.own (rI .i64) A true),(13,.own (rSl rR6) st.1 true),(14,.own (rI .i64) st.2.1 true)],(vV4 0 1 2 3 g_ []),15⟩) (fun n st=>z14_l4 N g_ i (z14_l2 N g_ n_ n12) A n st.1 st.2.1 st.2.2) (r:=r) (fun _=>rfl) ?_ (fun ih=>?_)
  ·intro n14 ih21
   rintro ⟨T,U,X⟩ h
   replace h:z14_l4 N g_ i (z14_l2 N g_ n_ n12) A (n14+1) T U X=some r:=h
   unfold z14_l4 at h
   refine wq (wg (ws J 1 Q (wn (wq ?_))))
   rcases oc' h with ⟨hc,h⟩ | ⟨hc,h⟩
   ·exact wf hc Q (wz rfl (wu [] (j19 (T,U) h) Q Q Q Q))
   refine wt hc Q (wi (wq (wo (wq (wg ?_)))))
   obtain ⟨Y,Z,h⟩:=ob h
   refine wX J Z Q Q Q Q Q Q Q Q Q (wL (oI .i64) J Z Q Q Q Q Q Q Q Q Q Q (wx ⟨[(1,.I n_),(2,.B 4 0),(6,.S 13),(7,.S 14),(8,.I i),(10,.I Y),(42,.S 12),(43,.I (A.length:Int)),(44,.I X)],[(4,.box (cC4 0 1 2 3 g_) 27),(12,.own (rI .i64) A true),(13,.own (rSl rR6) T true),(14,.own (rI .i64) U true)],(vV4 0 1 2 3 g_ []),16⟩ J 1 (wn (wq (wN (fun a0 b0 c0=>?_))))))
   have d0:a0 0 (zz72 [(6,.S 13)] [(48,.S 13)]):=b0 _ _ (wl J Q Q Q Q Q Q)
   have e0:a0 1 (zz72 [(6,.S 13)] [(49,.S 13)]):=b0 _ _ (wl J Q Q Q Q Q Q)
   have f0:a0 2 (zz72 [(8,.I i)] [(50,.I i)]):=b0 _ _ (wl J Q Q Q Q Q Q)
   obtain ⟨g0,i0,h⟩:=ob h
   have j0:a0 3 ⟨[(49,.S 13),(50,.I i)],[],[],[(13,.own (rSl rR6) T true)],16,[(51,.P 16 0)],[(16,.el 13 ((i).toNat * ((rSl rR6)).sz))],[],17⟩:=b0 _ _ (wO Q Q Q (fun _ _ _ _ _ _ _ k=>wX J i0 Q Q Q Q Q Q Q Q Q (k)) rfl)
   have k0:a0 4 ⟨[(51,.P 16 0)],[(16,.el 13 ((i).toNat * ((rSl rR6)).sz))],[],[(13,.own (rSl rR6) T true)],17,[(52,.S 17)],[(17,.sl rR6 g0)],[],18⟩:=b0 _ _ (wO Q Q Q (fun _ _ _ _ _ _ _ k=>wL (oSl rR6) J i0 Q Q Q Q Q Q Q Q Q Q (k)) rfl)
   obtain ⟨l0,m0,h⟩:=ob h
   have o0:a0 5 ⟨[(52,.S 17)],[(17,.sl rR6 g0)],[],[],18,[(53,.S 18)],[],[(18,.own rR6 l0 true)],19⟩:=b0 _ _ (wO Q Q Q (fun _ _ _ _ _ _ _ k=>wc (z45_ct N g0 _ m0) [(0,.sl 17)] [] Q Q Q Q Q Q Q Q (.inl rfl) rfl (k)) rfl)
   have p0:a0 6 ⟨[(2,.B 4 0)],[],[],[],19,[(54,.B 4 6)],[],[],19⟩:=b0 _ _ (wl J Q Q Q Q Q Q)
   have q0:a0 7 ⟨[(54,.B 4 6)],(vV4 0 1 2 3 g_ []),[],[(4,.box (cC4 0 1 2 3 g_) 27)],19,[(55,.S 2)],[],[],19⟩:=b0 _ _ (wl J Q Q Q Q Q Q)
   have s0:a0 8 ⟨[(10,.I Y)],[],[],[],19,[(56,.I Y)],[],[],19⟩:=b0 _ _ (wl J Q Q Q Q Q Q)
   obtain ⟨t0,u0,h⟩:=ob h
   have v0:a0 9 ⟨[(55,.S 2),(56,.I Y)],[(2,.sl rR2 g_.Edges)],[],[],19,[(57,.P 19 0)],[(19,.pl (cC2 t0))],[],20⟩:=b0 _ _ (wO Q Q Q (fun _ _ _ _ _ _ _ k=>wj oO2 J u0 Q Q Q Q Q Q Q Q Q (k)) rfl)
   have x0:a0 10 ⟨[(57,.P 19 0)],[(19,.pl (cC2 t0))],[],[],20,[(58,.P 19 1)],[],[],20⟩:=b0 _ _ (wl J Q Q Q Q Q Q)
   have y0:a0 11 ⟨[(58,.P 19 1)],[(19,.pl (cC2 t0))],[],[],20,[(59,.a (cC6 t0.Act))],[],[],20⟩:=b0 _ _ (wl J Q Q Q Q Q Q)
   have z0:a0 12 ⟨[(59,.a (cC6 t0.Act))],[],[],[],20,[(60,.S 20)],[],[(20,.own rR6 ([t0.Act]:List T6) true)],21⟩:=b0 _ _ (wO Q Q Q (fun _ _ _ _ _ _ _ k=>WPr.bs (cs:=(cC6 t0.Act)) oO6 J ([t0.Act]:List T6) Q Q Q Q Q Q (by kernel_rfl) (by exact (an (an rfl (an Q Q)) rfl)) rfl (k)) rfl)
   obtain ⟨A0,B0,h⟩:=ob h
   have C0:a0 13 ⟨[(53,.S 18),(60,.S 20)],[],[(18,.own rR6 l0 true)],[(20,.own rR6 ([t0.Act]:List T6) true)],21,[(61,.S 21)],[],[(18,.gone),(21,.own rR6 A0 true)],22⟩:=b0 _ _ (wO Q Q Q (fun _ _ _ _ _ _ _ k=>WPr.app J B0 (by exact (srcO rfl)) Q Q Q Q Q Q Q Q Q Q (k)) rfl)
   have D0:a0 14 ⟨[(61,.S 21)],[],[(21,.own rR6 A0 true)],[],22,[(62,.S 22)],[(21,.sl rR6 A0)],[(21,.gone),(22,.own (rSl rR6) ([A0]:List (List T6)) true)],23⟩:=b0 _ _ (wO Q Q Q (fun _ _ _ _ _ _ _ k=>WPr.frz 21 rfl (WPr.bs (cs:=[.sl 21]) (oSl rR6) J ([A0]:List (List T6)) Q Q Q Q Q Q (by kernel_rfl) (by exact (an Q Q)) rfl (k))) rfl)
   obtain ⟨G0,H0,h⟩:=ob h
   have I0:a0 15 ⟨[(48,.S 13),(62,.S 22)],[],[(13,.own (rSl rR6) T true)],[(22,.own (rSl rR6) ([A0]:List (List T6)) true)],23,[(63,.S 23)],[],[(13,.gone),(23,.own (rSl rR6) G0 true)],24⟩:=b0 _ _ (wO Q Q Q (fun _ _ _ _ _ _ _ k=>WPr.app J H0 (by exact (srcO rfl)) Q Q Q Q Q Q Q Q Q Q (k)) rfl)
   have K0:a0 16 ⟨[(63,.S 23)],[],[],[],24,[(6,.S 23)],[],[],24⟩:=b0 _ _ (wl J Q Q Q Q Q Q)
   refine wD (t:=(zz161 g_ A U G0 [(1,.I n_),(2,.B 4 0),(6,.S 23),(7,.S 14),(8,.I i),(10,.I Y),(42,.S 12),(43,.I (A.length:Int)),(44,.I X)])) [0,0,0,6,14,30,0,64,0,448,960,1984,4032,8190,16382,32767,65535] (.cons (c0 _ _ d0) (.cons (c0 _ _ e0) (.cons (c0 _ _ f0) (.cons (c0 _ _ j0) (.cons (c0 _ _ k0) (.cons (c0 _ _ o0) (.cons (c0 _ _ p0) (.cons (c0 _ _ q0) (.cons (c0 _ _ s0) (.cons (c0 _ _ v0) (.cons (c0 _ _ x0) (.cons (c0 _ _ y0) (.cons (c0 _ _ z0) (.cons (c0 _ _ C0) (.cons (c0 _ _ D0) (.cons (c0 _ _ I0) (.cons (c0 _ _ K0) .nil))))))))))))))))) (by kernel_rfl) (by kernel_rfl) (by kernel_rfl) (by kernel_rfl) (wg (xw (rg 4 6) (zz161 g_ A U G0 [(1,.I n_),(2,.B 4 0),(6,.S 23),(8,.I i),(42,.S 12),(43,.I (A.length:Int)),(44,.I X),(64,.S 14),(66,.S 2),(67,.I Y)]) J 4 ?_))
   obtain ⟨L0,M0,h⟩:=ob h
   refine wj oO2 J M0 Q Q Q Q Q Q Q Q Q (xw [7,8,9] ⟨[(1,.I n_),(2,.B 4 0),(6,.S 23),(8,.I i),(42,.S 12),(43,.I (A.length:Int)),(44,.I X),(64,.S 14),(70,.I L0.To)],[(4,.box (cC4 0 1 2 3 g_) 27),(12,.own (rI .i64) A true),(14,.own (rI .i64) U true),(23,.own (rSl rR6) G0 true)],(vV4 0 1 2 3 g_ []),25⟩ J 2 (WPr.bs (cs:=[.I L0.To]) (oI .i64) J ([L0.To]:List Int) Q Q Q Q Q Q (by kernel_rfl) (by exact (an Q Q)) rfl ?_))
   obtain ⟨O0,R0,h⟩:=ob h
   exact WPr.app J R0 (by exact (srcO rfl)) Q Q Q Q Q Q Q Q Q Q (wx ⟨[(1,.I n_),(2,.B 4 0),(6,.S 23),(7,.S 26),(8,.I i),(42,.S 12),(43,.I (A.length:Int)),(44,.I X)],[(4,.box (cC4 0 1 2 3 g_) 27),(12,.own (rI .i64) A true),(23,.own (rSl rR6) G0 true),(26,.own (rI .i64) O0 true)],(vV4 0 1 2 3 g_ []),27⟩ J 1 (wn (wb (wg (ws J 2 Q (wn (wu [(13,.sl 23),(14,.sl 26)] (ih21 (G0,O0,(w64 (X+1))) h) Q Q Q Q)))))))
  exact wu [(13,.sl 7),(14,.sl 8)] (ih N (f,g,0) h) Q Q Q Q
 exact wu [(7,.sl 5),(8,.sl 6)] (ih N (([([]:List T6)]:List (List T6)),([g_.Start]:List Int),0) h) Q Q Q Q
theorem z17_ct (N:Nat) (g_:T4) (state_:Int) (act_:T6) (r:Int × Bool) (h:z17 N g_ state_ act_=some r) :
 Fn Tryz.prog 17 ⟨4,[.a (cC4 0 1 2 3 g_),.I state_,.a (cC6 act_)],(vV4 0 1 2 3 g_ []),[],4,.t [.inl (.I r.1),.inl (.b r.2)],[],[]⟩:=by
 refine Fn.intro _ _ Tryz.func17 rfl (by kernel_rfl) rfl (fun E F w=>?_)
 unfold z17 at h
 refine wq (wg (wx ⟨[(1,.I state_),(3,.B 4 0),(5,.B 5 0),(6,.I 0),(7,.O false)],[(4,.box (cC4 0 1 2 3 g_) 27),(5,.box (cC6 act_) 37)],(vV4 0 1 2 3 g_ []),6⟩ J 4 (wn (wq (wq (wg (wx ⟨[(1,.I state_),(5,.B 5 0),(6,.I 0),(7,.O false),(11,.S 2),(12,.I (g_.Edges.length:Int)),(13,.I 0)],[(5,.box (cC6 act_) 37)],(vV4 0 1 2 3 g_ []),6⟩ J 4 (wn ?_))))))))
 refine wC (σ:=Unit) (fun st=>⟨[],[],(vV4 0 1 2 3 g_ []),6⟩) (fun st=>z17_k1=some r) ?_ (fun j1=>?_)
 ·intro _ h
  replace h:z17_k1=some r:=h
  unfold z17_k1 at h
  refine wq (wg (ws J 2 Q (wn ?_)))
  cases h
  exact we J Tryz.func17 [] Q Q Q Q
 refine wo ?_
 refine wI (σ:=Int) (fun st=>⟨[(1,.I state_),(5,.B 5 0),(11,.S 2),(12,.I (g_.Edges.length:Int)),(13,.I st)],[(5,.box (cC6 act_) 37)],(vV4 0 1 2 3 g_ []),6⟩) (fun n st=>z17_l2 g_ state_ act_ n st) (r:=r) (fun _=>rfl) ?_ (fun ih=>?_)
 ·intro n2 ih3
  intro c h
  replace h:z17_l2 g_ state_ act_ (n2+1) c=some r:=h
  unfold z17_l2 at h
  refine wq (wg (ws J 1 Q (wn (wq ?_))))
  rcases oc' h with ⟨hc,h⟩ | ⟨hc,h⟩
  ·exact wf hc Q (wz rfl (wu [] (j1 () h) Q Q Q Q))
  refine wt hc Q (wi (wq (wo (wq (wg ?_)))))
  obtain ⟨x9,d,h⟩:=ob h
  refine wj oO2 J d Q Q Q Q Q Q Q Q Q (wx (zz103 act_ x9 g_ [(1,.I state_),(5,.B 5 0),(9,.B 7 0),(11,.S 2),(12,.I (g_.Edges.length:Int)),(13,.I c)]) J 3 (wn (wq (wg (xw [5,6,7,8,9] (zz103 act_ x9 g_ [(1,.I state_),(5,.B 5 0),(9,.B 7 0),(11,.S 2),(12,.I (g_.Edges.length:Int)),(13,.I c),(21,.O (x9.From==state_))]) J 5 ?_)))))
  rcases oc' h with ⟨hc,h⟩ | ⟨hc,h⟩
  ·exact wy 21 hc Q (wx (zz103 act_ x9 g_ [(1,.I state_),(5,.B 5 0),(9,.B 7 0),(11,.S 2),(12,.I (g_.Edges.length:Int)),(13,.I c),(26,.O false)]) J 5 (wn (wf Q Q (wi (wb (wg (ws J 2 Q (wn (wu [] (ih3 (w64 (c+1)) h) Q Q Q Q)))))))))
  refine wy 21 hc Q (xw [8,9] (zz103 act_ x9 g_ [(1,.I state_),(5,.B 5 0),(9,.B 7 0),(11,.S 2),(12,.I (g_.Edges.length:Int)),(13,.I c),(21,.O true),(23,.a (cC6 x9.Act)),(24,.a (cC6 act_))]) J 3 (WPr.eqa (neg:=false) (equal_run (b:=((x9.Act.From==act_.From) && ((x9.Act.To==act_.To) && ((x9.Act.Label==act_.Label) && true)))) (by kernel_rfl) (by kernel_rfl)) (by kernel_rfl) Q Q Q Q Q Q Q (ws J 1 Q (wn ?_))))
  rcases oc h with ⟨hc,h⟩ | ⟨hc,h⟩
  ·refine wt hc Q (wq (wg (wx ⟨[(6,.I x9.To),(7,.O true)],[],(vV4 0 1 2 3 g_ []),8⟩ J 4 (wn ?_))))
   cases h
   exact we J Tryz.func17 [] Q Q Q Q
  exact wf hc Q (wi (wb (wg (wx ⟨[(1,.I state_),(5,.B 5 0),(11,.S 2),(12,.I (g_.Edges.length:Int)),(13,.I (w64 (c+1)))],[(5,.box (cC6 act_) 37)],(vV4 0 1 2 3 g_ []),8⟩ J 2 (wn (wu [] (ih3 (w64 (c+1)) h) Q Q Q Q))))))
 exact wu [] (ih N 0 h) Q Q Q Q
theorem z68_ct (N:Nat) (s1_:(List ByteArray)) (s2_:(List ByteArray)) (r:Bool) (h:z68 N s1_ s2_=some r) :
 Fn Tryz.prog 68 ⟨2,[.S 0,.S 1],[(0,.sl rS s1_),(1,.sl rS s2_)],[],2,.O r,[],[]⟩:=by
 refine Fn.intro _ _ Tryz.func68 rfl (by kernel_rfl) rfl (fun E F w=>?_)
 unfold z68 at h
 refine wq (wg (ws J 1 Q (wn (wq (wq (wg (wx (zz73 s1_ s2_ [(0,.S 0),(1,.S 1),(4,.O false),(10,.O ((s1_.length:Int) != (s2_.length:Int)))]) J 5 (wn ?_))))))))
 rcases oc h with ⟨hc,h⟩ | ⟨hc,h⟩
 ·refine wt hc Q (wq (wg (ws J 1 Q (wn ?_))))
  cases h
  exact we J Tryz.func68 [] Q Q Q Q
 refine wf hc Q (wi (wq (wq (wg (wx (zz73 s1_ s2_ [(0,.S 0),(1,.S 1),(4,.O false),(12,.I (s1_.length:Int)),(13,.I 0)]) J 3 (wn ?_))))))
 refine wC (σ:=Unit) (fun st=>(zz73 s1_ s2_ [])) (fun st=>z68_k1=some r) ?_ (fun j1=>?_)
 ·intro _ h
  replace h:z68_k1=some r:=h
  unfold z68_k1 at h
  refine wq (wg (ws J 1 Q (wn ?_)))
  cases h
  exact we J Tryz.func68 [] Q Q Q Q
 refine wo ?_
 refine wI (σ:=Int) (fun st=>(zz73 s1_ s2_ [(0,.S 0),(1,.S 1),(12,.I (s1_.length:Int)),(13,.I st)])) (fun n st=>z68_l2 s1_ s2_ n st) (r:=r) (fun _=>rfl) ?_ (fun ih=>?_)
 ·intro n2 ih3
  intro d h
  replace h:z68_l2 s1_ s2_ (n2+1) d=some r:=h
  unfold z68_l2 at h
  refine wq (wg (ws J 1 Q (wn (wq ?_))))
  rcases oc' h with ⟨hc,h⟩ | ⟨hc,h⟩
  ·exact wf hc Q (wz rfl (wu [] (j1 () h) Q Q Q Q))
  refine wt hc Q (wi (wq (wo (wq (wg (wx (zz73 s1_ s2_ [(0,.S 0),(1,.S 1),(5,.I d),(12,.I (s1_.length:Int)),(13,.I d)]) J 2 (wn (wq (wQ (by kernel_rfl) (by kernel_rfl) (WPq.sil J 2 rfl ?_))))))))))
  obtain ⟨e,f,h⟩:=ob h
  refine WPq.op Q Q (VN.vs (VN.ix oS J f Q Q Q Q Q Q Q)) (xq [6,7,8] ⟨[(0,.S 0),(1,.S 1),(12,.I (s1_.length:Int)),(13,.I d),(19,.c (.s e)),(20,.S 1),(21,.I d)],[],[(0,.sl rS s1_),(1,.sl rS s2_)],3⟩ J 3 ?_)
  obtain ⟨g,i,h⟩:=ob h
  refine WPq.op Q Q (VN.vs (VN.ix oS J i Q Q Q Q Q Q Q)) (qx ⟨[(0,.S 0),(1,.S 1),(12,.I (s1_.length:Int)),(13,.I d),(24,.O (!(e.toList==g.toList)))],[],[(0,.sl rS s1_),(1,.sl rS s2_)],4⟩ J 2 (qn ?_))
  rcases oc h with ⟨hc,h⟩ | ⟨hc,h⟩
  ·refine wt hc Q (wq (wg (ws J 1 Q (wn ?_))))
   cases h
   exact we J Tryz.func68 [] Q Q Q Q
  exact wf hc Q (wi (wb (wg (ws J 2 Q (wn (wu [] (ih3 (w64 (d+1)) h) Q Q Q Q))))))
 exact wu [] (ih N 0 h) Q Q Q Q
theorem z124_ct (N:Nat) (s1_:(List T3)) (s2_:(List T3)) (r:Bool) (h:z124 N s1_ s2_=some r) :
 Fn Tryz.prog 124 ⟨2,[.S 0,.S 1],[(0,.sl rR3 s1_),(1,.sl rR3 s2_)],[],2,.O r,[],[]⟩:=by
 refine Fn.intro _ _ Tryz.func124 rfl (by kernel_rfl) rfl (fun E F w=>?_)
 unfold z124 at h
 refine wq (wg (ws J 1 Q (wn (wq (wq (wg (wx (zz74 s1_ s2_ [(0,.S 0),(1,.S 1),(4,.O false),(10,.O ((s1_.length:Int) != (s2_.length:Int)))]) J 5 (wn ?_))))))))
 rcases oc h with ⟨hc,h⟩ | ⟨hc,h⟩
 ·refine wt hc Q (wq (wg (ws J 1 Q (wn ?_))))
  cases h
  exact we J Tryz.func124 [] Q Q Q Q
 refine wf hc Q (wi (wq (wq (wg (wx (zz74 s1_ s2_ [(0,.S 0),(1,.S 1),(4,.O false),(12,.I (s1_.length:Int)),(13,.I 0)]) J 3 (wn ?_))))))
 refine wC (σ:=Unit) (fun st=>(zz74 s1_ s2_ [])) (fun st=>z124_k1=some r) ?_ (fun j1=>?_)
 ·intro _ h
  replace h:z124_k1=some r:=h
  unfold z124_k1 at h
  refine wq (wg (ws J 1 Q (wn ?_)))
  cases h
  exact we J Tryz.func124 [] Q Q Q Q
 refine wo ?_
 refine wI (σ:=Int) (fun st=>(zz74 s1_ s2_ [(0,.S 0),(1,.S 1),(12,.I (s1_.length:Int)),(13,.I st)])) (fun n st=>z124_l2 s1_ s2_ n st) (r:=r) (fun _=>rfl) ?_ (fun ih=>?_)
 ·intro n2 ih3
  intro c h
  replace h:z124_l2 s1_ s2_ (n2+1) c=some r:=h
  unfold z124_l2 at h
  refine wq (wg (ws J 1 Q (wn (wq ?_))))
  rcases oc' h with ⟨hc,h⟩ | ⟨hc,h⟩
  ·exact wf hc Q (wz rfl (wu [] (j1 () h) Q Q Q Q))
  refine wt hc Q (wi (wq (wo (wq (wg (wx (zz74 s1_ s2_ [(0,.S 0),(1,.S 1),(5,.I c),(12,.I (s1_.length:Int)),(13,.I c)]) J 2 (wn (wq (wQ (by kernel_rfl) (by kernel_rfl) (WPq.sil J 2 rfl ?_))))))))))
  obtain ⟨d,e,h⟩:=ob h
  refine WPq.op Q Q (VN.vs (VN.ix oO3 J e Q Q Q Q Q Q Q)) (xq [6,7,8] ⟨[(0,.S 0),(1,.S 1),(12,.I (s1_.length:Int)),(13,.I c),(19,.a (cC3 d)),(20,.S 1),(21,.I c)],[],[(0,.sl rR3 s1_),(1,.sl rR3 s2_)],3⟩ J 3 ?_)
  obtain ⟨f,g,h⟩:=ob h
  refine WPq.op Q Q (VN.vs (VN.ix oO3 J g Q Q Q Q Q Q Q)) (WPq.sil J 1 rfl (WPq.op Q Q (VN.vs (VN.eqa (neg:=true) (equal_run (b:=((d.Name.toList==f.Name.toList) && (((d.Sort'.Kind==f.Sort'.Kind) && ((d.Sort'.Lo==f.Sort'.Lo) && ((d.Sort'.Hi==f.Sort'.Hi) && true))) && true))) (by kernel_rfl) (by kernel_rfl)) (by kernel_rfl) Q Q Q Q Q)) (qx ⟨[(0,.S 0),(1,.S 1),(12,.I (s1_.length:Int)),(13,.I c),(24,.O (!((d.Name.toList==f.Name.toList) && (((d.Sort'.Kind==f.Sort'.Kind) && ((d.Sort'.Lo==f.Sort'.Lo) && ((d.Sort'.Hi==f.Sort'.Hi) && true))) && true))))],[],[(0,.sl rR3 s1_),(1,.sl rR3 s2_)],4⟩ J 0 (qn ?_))))
  rcases oc h with ⟨hc,h⟩ | ⟨hc,h⟩
  ·refine wt hc Q (wq (wg (ws J 1 Q (wn ?_))))
   cases h
   exact we J Tryz.func124 [] Q Q Q Q
  exact wf hc Q (wi (wb (wg (ws J 2 Q (wn (wu [] (ih3 (w64 (c+1)) h) Q Q Q Q))))))
 exact wu [] (ih N 0 h) Q Q Q Q
theorem z125_ct (N:Nat) (s1_:(List T1)) (s2_:(List T1)) (r:Bool) (h:z125 N s1_ s2_=some r) :
 Fn Tryz.prog 125 ⟨2,[.S 0,.S 1],[(0,.sl rR1 s1_),(1,.sl rR1 s2_)],[],2,.O r,[],[]⟩:=by
 refine Fn.intro _ _ Tryz.func125 rfl (by kernel_rfl) rfl (fun E F w=>?_)
 unfold z125 at h
 refine wq (wg (ws J 1 Q (wn (wq (wq (wg (wx (zz39 s1_ s2_ [(0,.S 0),(1,.S 1),(4,.O false),(10,.O ((s1_.length:Int) != (s2_.length:Int)))]) J 5 (wn ?_))))))))
 rcases oc h with ⟨hc,h⟩ | ⟨hc,h⟩
 ·refine wt hc Q (wq (wg (ws J 1 Q (wn ?_))))
  cases h
  exact we J Tryz.func125 [] Q Q Q Q
 refine wf hc Q (wi (wq (wq (wg (wx (zz39 s1_ s2_ [(0,.S 0),(1,.S 1),(4,.O false),(12,.I (s1_.length:Int)),(13,.I 0)]) J 3 (wn ?_))))))
 refine wC (σ:=Unit) (fun st=>(zz39 s1_ s2_ [])) (fun st=>z125_k1=some r) ?_ (fun j1=>?_)
 ·intro _ h
  replace h:z125_k1=some r:=h
  unfold z125_k1 at h
  refine wq (wg (ws J 1 Q (wn ?_)))
  cases h
  exact we J Tryz.func125 [] Q Q Q Q
 refine wo ?_
 refine wI (σ:=Int) (fun st=>(zz39 s1_ s2_ [(0,.S 0),(1,.S 1),(12,.I (s1_.length:Int)),(13,.I st)])) (fun n st=>z125_l2 s1_ s2_ n st) (r:=r) (fun _=>rfl) ?_ (fun ih=>?_)
 ·intro n2 ih3
  intro c h
  replace h:z125_l2 s1_ s2_ (n2+1) c=some r:=h
  unfold z125_l2 at h
  refine wq (wg (ws J 1 Q (wn (wq ?_))))
  rcases oc' h with ⟨hc,h⟩ | ⟨hc,h⟩
  ·exact wf hc Q (wz rfl (wu [] (j1 () h) Q Q Q Q))
  refine wt hc Q (wi (wq (wo (wq (wg (wx (zz39 s1_ s2_ [(0,.S 0),(1,.S 1),(5,.I c),(12,.I (s1_.length:Int)),(13,.I c)]) J 2 (wn (wq (wQ (by kernel_rfl) (by kernel_rfl) (WPq.sil J 2 rfl ?_))))))))))
  obtain ⟨d,e,h⟩:=ob h
  refine WPq.op Q Q (VN.vs (VN.ix oO1 J e Q Q Q Q Q Q Q)) (xq [6,7,8] ⟨[(0,.S 0),(1,.S 1),(12,.I (s1_.length:Int)),(13,.I c),(19,.a (cC1 d)),(20,.S 1),(21,.I c)],[],[(0,.sl rR1 s1_),(1,.sl rR1 s2_)],3⟩ J 3 ?_)
  obtain ⟨f,g,h⟩:=ob h
  refine WPq.op Q Q (VN.vs (VN.ix oO1 J g Q Q Q Q Q Q Q)) (WPq.sil J 1 rfl (WPq.op Q Q (VN.vs (VN.eqa (neg:=true) (equal_run (b:=((d.X==f.X) && ((d.Y==f.Y) && ((d.C==f.C) && true)))) (by kernel_rfl) (by kernel_rfl)) (by kernel_rfl) Q Q Q Q Q)) (qx ⟨[(0,.S 0),(1,.S 1),(12,.I (s1_.length:Int)),(13,.I c),(24,.O (!((d.X==f.X) && ((d.Y==f.Y) && ((d.C==f.C) && true)))))],[],[(0,.sl rR1 s1_),(1,.sl rR1 s2_)],4⟩ J 0 (qn ?_))))
  rcases oc h with ⟨hc,h⟩ | ⟨hc,h⟩
  ·refine wt hc Q (wq (wg (ws J 1 Q (wn ?_))))
   cases h
   exact we J Tryz.func125 [] Q Q Q Q
  exact wf hc Q (wi (wb (wg (ws J 2 Q (wn (wu [] (ih3 (w64 (c+1)) h) Q Q Q Q))))))
 exact wu [] (ih N 0 h) Q Q Q Q
theorem z126_ct (N:Nat) (s1_:(List (Int × Int))) (s2_:(List (Int × Int))) (r:Bool) (h:z126 N s1_ s2_=some r) :
 Fn Tryz.prog 126 ⟨2,[.S 0,.S 1],[(0,.sl (rP (rI .i64) (rI .i64)) s1_),(1,.sl (rP (rI .i64) (rI .i64)) s2_)],[],2,.O r,[],[]⟩:=by
 refine Fn.intro _ _ Tryz.func126 rfl (by kernel_rfl) rfl (fun E F w=>?_)
 unfold z126 at h
 refine wq (wg (ws J 1 Q (wn (wq (wq (wg (wx (zz75 s1_ s2_ [(0,.S 0),(1,.S 1),(4,.O false),(10,.O ((s1_.length:Int) != (s2_.length:Int)))]) J 5 (wn ?_))))))))
 rcases oc h with ⟨hc,h⟩ | ⟨hc,h⟩
 ·refine wt hc Q (wq (wg (ws J 1 Q (wn ?_))))
  cases h
  exact we J Tryz.func126 [] Q Q Q Q
 refine wf hc Q (wi (wq (wq (wg (wx (zz75 s1_ s2_ [(0,.S 0),(1,.S 1),(4,.O false),(12,.I (s1_.length:Int)),(13,.I 0)]) J 3 (wn ?_))))))
 refine wC (σ:=Unit) (fun st=>(zz75 s1_ s2_ [])) (fun st=>z126_k1=some r) ?_ (fun j1=>?_)
 ·intro _ h
  replace h:z126_k1=some r:=h
  unfold z126_k1 at h
  refine wq (wg (ws J 1 Q (wn ?_)))
  cases h
  exact we J Tryz.func126 [] Q Q Q Q
 refine wo ?_
 refine wI (σ:=Int) (fun st=>(zz75 s1_ s2_ [(0,.S 0),(1,.S 1),(12,.I (s1_.length:Int)),(13,.I st)])) (fun n st=>z126_l2 s1_ s2_ n st) (r:=r) (fun _=>rfl) ?_ (fun ih=>?_)
 ·intro n2 ih3
  intro c h
  replace h:z126_l2 s1_ s2_ (n2+1) c=some r:=h
  unfold z126_l2 at h
  refine wq (wg (ws J 1 Q (wn (wq ?_))))
  rcases oc' h with ⟨hc,h⟩ | ⟨hc,h⟩
  ·exact wf hc Q (wz rfl (wu [] (j1 () h) Q Q Q Q))
  refine wt hc Q (wi (wq (wo (wq (wg (wx (zz75 s1_ s2_ [(0,.S 0),(1,.S 1),(5,.I c),(12,.I (s1_.length:Int)),(13,.I c)]) J 2 (wn (wq (wQ (by kernel_rfl) (by kernel_rfl) (WPq.sil J 2 rfl ?_))))))))))
  obtain ⟨d,e,h⟩:=ob h
  refine WPq.op Q Q (VN.vs (VN.ix (oP (oI .i64) (oI .i64)) J e Q Q Q Q Q Q Q)) (xq [6,7,8] ⟨[(0,.S 0),(1,.S 1),(12,.I (s1_.length:Int)),(13,.I c),(19,.a [.I d.1,.I d.2]),(20,.S 1),(21,.I c)],[],[(0,.sl (rP (rI .i64) (rI .i64)) s1_),(1,.sl (rP (rI .i64) (rI .i64)) s2_)],3⟩ J 3 ?_)
  obtain ⟨f,g,h⟩:=ob h
  refine WPq.op Q Q (VN.vs (VN.ix (oP (oI .i64) (oI .i64)) J g Q Q Q Q Q Q Q)) (WPq.sil J 1 rfl (WPq.op Q Q (VN.vs (VN.eqa (neg:=true) (equal_run (b:=((d.1==f.1) && ((d.2==f.2) && true))) (by kernel_rfl) (by kernel_rfl)) (by kernel_rfl) Q Q Q Q Q)) (qx ⟨[(0,.S 0),(1,.S 1),(12,.I (s1_.length:Int)),(13,.I c),(24,.O (!((d.1==f.1) && ((d.2==f.2) && true))))],[],[(0,.sl (rP (rI .i64) (rI .i64)) s1_),(1,.sl (rP (rI .i64) (rI .i64)) s2_)],4⟩ J 0 (qn ?_))))
  rcases oc h with ⟨hc,h⟩ | ⟨hc,h⟩
  ·refine wt hc Q (wq (wg (ws J 1 Q (wn ?_))))
   cases h
   exact we J Tryz.func126 [] Q Q Q Q
  exact wf hc Q (wi (wb (wg (ws J 2 Q (wn (wu [] (ih3 (w64 (c+1)) h) Q Q Q Q))))))
 exact wu [] (ih N 0 h) Q Q Q Q
theorem z70_ct (N:Nat) (a_:T0) (b_:T0) (r:Bool) (h:z70 N a_ b_=some r) :
 Fn Tryz.prog 70 ⟨6,[.a (cC0 0 1 2 a_),.a (cC0 3 4 5 b_)],(vV0 0 1 2 a_ (vV0 3 4 5 b_ [])),[],6,.O r,[],[]⟩:=by
 refine Fn.intro _ _ Tryz.func70 rfl (by kernel_rfl) rfl (fun E F w=>?_)
 unfold z70 at h
 refine wq (wg (wx (zz56 a_ b_ [(2,.B 6 0),(3,.B 7 0),(4,.O false)]) J 3 (wn (wq (wg (xw (rg 6 32) (zz56 a_ b_ [(2,.B 6 0),(3,.B 7 0),(10,.O (a_.Name.toList==b_.Name.toList))]) J 6 ?_))))))
 rcases oc' h with ⟨hc,h⟩ | ⟨hc,h⟩
 ·refine wy 10 hc Q (wx (zz63 a_ b_ [(4,.O false)]) J 32 (wn ?_))
  cases h
  exact we J Tryz.func70 [] Q Q Q Q
 refine wy 10 hc Q (xw (rg 13 25) (zz56 a_ b_ [(2,.B 6 0),(3,.B 7 0),(17,.O (a_.First==b_.First))]) J 7 ?_)
 rcases oc' h with ⟨hc,h⟩ | ⟨hc,h⟩
 ·refine wy 17 hc Q (wx (zz63 a_ b_ [(4,.O false)]) J 25 (wn ?_))
  cases h
  exact we J Tryz.func70 [] Q Q Q Q
 refine wy 17 hc Q (xw (rg 17 21) (zz56 a_ b_ [(2,.B 6 0),(3,.B 7 0),(17,.O true),(19,.S 0),(21,.S 3)]) J 4 ?_)
 obtain ⟨x1,c,h⟩:=ob h
 refine wc (z124_ct N a_.Fields b_.Fields _ c) [(0,.sl 0),(1,.sl 3)] [] Q Q Q Q Q Q Q Q (.inl rfl) rfl (xw (rg 20 18) (zz56 a_ b_ [(2,.B 6 0),(3,.B 7 0),(24,.O x1)]) J 2 ?_)
 rcases oc' h with ⟨hc,h⟩ | ⟨hc,h⟩
 ·refine wy 24 hc Q (wx (zz63 a_ b_ [(4,.O false)]) J 18 (wn ?_))
  cases h
  exact we J Tryz.func70 [] Q Q Q Q
 refine wy 24 hc Q (xw (rg 26 12) (zz56 a_ b_ [(2,.B 6 0),(3,.B 7 0),(24,.O true),(27,.S 1),(30,.S 4)]) J 6 ?_)
 obtain ⟨x2,d,h⟩:=ob h
 refine wc (z125_ct N a_.Guard.Diffs b_.Guard.Diffs _ d) [(0,.sl 1),(1,.sl 4)] [] Q Q Q Q Q Q Q Q (.inl rfl) rfl (xw (rg 29 9) (zz56 a_ b_ [(2,.B 6 0),(3,.B 7 0),(33,.O x2)]) J 2 ?_)
 rcases oc' h with ⟨hc,h⟩ | ⟨hc,h⟩
 ·refine wy 33 hc Q (wx (zz63 a_ b_ [(4,.O false)]) J 9 (wn ?_))
  cases h
  exact we J Tryz.func70 [] Q Q Q Q
 refine wy 33 hc Q (xw [35,36,37] (zz63 a_ b_ [(33,.O true),(36,.S 2),(39,.S 5)]) J 6 ?_)
 obtain ⟨x3,e,h⟩:=ob h
 refine wc (z126_ct N a_.Guard.Equals b_.Guard.Equals _ e) [(0,.sl 2),(1,.sl 5)] [] Q Q Q Q Q Q Q Q (.inl rfl) rfl (wx (zz63 a_ b_ [(4,.O x3)]) J 2 (wn ?_))
 cases h
 exact we J Tryz.func70 [] Q Q Q Q
theorem z69_15_ct (N:Nat) (s1_:(List T0)) (s2_:(List T0)) (r:Bool) (h:z69_15 N s1_ s2_=some r) :
 Fn Tryz.prog 69 ⟨2,[.S 0,.S 1,.c (.cl 70 [] [])],[(0,.sl rR0 s1_),(1,.sl rR0 s2_)],[],2,.O r,[],[]⟩:=by
 refine Fn.intro _ _ Tryz.func69 rfl (by kernel_rfl) rfl (fun E F w=>?_)
 unfold z69_15 at h
 refine wq (wg (ws J 1 Q (wn (wq (wq (wg (wx (zz45 s1_ s2_ [(0,.S 0),(1,.S 1),(2,.c (.cl 70 [] [])),(6,.O false),(14,.O ((s1_.length:Int) != (s2_.length:Int)))]) J 5 (wn ?_))))))))
 rcases oc h with ⟨hc,h⟩ | ⟨hc,h⟩
 ·refine wt hc Q (wq (wg (ws J 1 Q (wn ?_))))
  cases h
  exact we J Tryz.func69 [] Q Q Q Q
 refine wf hc Q (wi (wq (wq (wg (wx (zz45 s1_ s2_ [(1,.S 1),(2,.c (.cl 70 [] [])),(6,.O false),(15,.S 0),(16,.I (s1_.length:Int)),(17,.I 0)]) J 3 (wn ?_))))))
 refine wC (σ:=Unit) (fun st=>(zz45 s1_ s2_ [])) (fun st=>z69_15_k1=some r) ?_ (fun j1=>?_)
 ·intro _ h
  replace h:z69_15_k1=some r:=h
  unfold z69_15_k1 at h
  refine wq (wg (ws J 1 Q (wn ?_)))
  cases h
  exact we J Tryz.func69 [] Q Q Q Q
 refine wo ?_
 refine wI (σ:=Int) (fun st=>(zz45 s1_ s2_ [(1,.S 1),(2,.c (.cl 70 [] [])),(15,.S 0),(16,.I (s1_.length:Int)),(17,.I st)])) (fun n st=>z69_15_l2 N s1_ s2_ n st) (r:=r) (fun _=>rfl) ?_ (fun ih=>?_)
 ·intro n2 ih3
  intro d h
  replace h:z69_15_l2 N s1_ s2_ (n2+1) d=some r:=h
  unfold z69_15_l2 at h
  refine wq (wg (ws J 1 Q (wn (wq ?_))))
  rcases oc' h with ⟨hc,h⟩ | ⟨hc,h⟩
  ·exact wf hc Q (wz rfl (wu [] (j1 () h) Q Q Q Q))
  refine wt hc Q (wi (wq (wo (wq (wg (ws J 1 Q ?_))))))
  obtain ⟨e,f,h⟩:=ob h
  refine wj oO0 J f Q Q Q Q Q Q Q Q Q (wx ⟨[(1,.S 1),(2,.c (.cl 70 [] [])),(7,.I d),(8,.B 6 0),(15,.S 0),(16,.I (s1_.length:Int)),(17,.I d)],[(6,.box (cC0 3 4 5 e) 94)],((0,.sl rR0 s1_)::(1,.sl rR0 s2_)::vV0 3 4 5 e []),7⟩ J 4 (wn (wq (wg (ws J 2 Q ?_)))))
  obtain ⟨g,i,h⟩:=ob h
  refine wj oO0 J i Q Q Q Q Q Q Q Q Q (wx ⟨[(1,.S 1),(2,.c (.cl 70 [] [])),(8,.B 6 0),(9,.B 11 0),(15,.S 0),(16,.I (s1_.length:Int)),(17,.I d)],[(6,.box (cC0 3 4 5 e) 94),(11,.box (cC0 8 9 10 g) 94)],((0,.sl rR0 s1_)::(1,.sl rR0 s2_)::vV0 3 4 5 e (vV0 8 9 10 g [])),12⟩ J 3 (wn (wq (wg (xw [3,4] ⟨[(1,.S 1),(2,.c (.cl 70 [] [])),(15,.S 0),(16,.I (s1_.length:Int)),(17,.I d),(26,.c (.cl 70 [] [])),(27,.a (cC0 3 4 5 e)),(28,.a (cC0 8 9 10 g))],[],((0,.sl rR0 s1_)::(1,.sl rR0 s2_)::vV0 3 4 5 e (vV0 8 9 10 g [])),12⟩ J 3 ?_)))))
  obtain ⟨j,k,h⟩:=ob h
  refine WPr.callc (z70_ct N e g _ k) [(0,.sl 3),(1,.sl 4),(2,.sl 5),(3,.sl 8),(4,.sl 9),(5,.sl 10)] [] Q Q Q Q Q Q Q Q Q (.inl rfl) rfl (wx ⟨[(1,.S 1),(2,.c (.cl 70 [] [])),(15,.S 0),(16,.I (s1_.length:Int)),(17,.I d),(30,.O (!j))],[],[(0,.sl rR0 s1_),(1,.sl rR0 s2_)],12⟩ J 1 (wn ?_))
  rcases oc h with ⟨hc,h⟩ | ⟨hc,h⟩
  ·refine wt hc Q (wq (wg (ws J 1 Q (wn ?_))))
   cases h
   exact we J Tryz.func69 [] Q Q Q Q
  exact wf hc Q (wi (wb (wg (ws J 2 Q (wn (wu [] (ih3 (w64 (d+1)) h) Q Q Q Q))))))
 exact wu [] (ih N 0 h) Q Q Q Q
theorem z71_ct (N:Nat) (s1_:(List T2)) (s2_:(List T2)) (r:Bool) (h:z71 N s1_ s2_=some r) :
 Fn Tryz.prog 71 ⟨2,[.S 0,.S 1],[(0,.sl rR2 s1_),(1,.sl rR2 s2_)],[],2,.O r,[],[]⟩:=by
 refine Fn.intro _ _ Tryz.func71 rfl (by kernel_rfl) rfl (fun E F w=>?_)
 unfold z71 at h
 refine wq (wg (ws J 1 Q (wn (wq (wq (wg (wx (zz76 s1_ s2_ [(0,.S 0),(1,.S 1),(4,.O false),(10,.O ((s1_.length:Int) != (s2_.length:Int)))]) J 5 (wn ?_))))))))
 rcases oc h with ⟨hc,h⟩ | ⟨hc,h⟩
 ·refine wt hc Q (wq (wg (ws J 1 Q (wn ?_))))
  cases h
  exact we J Tryz.func71 [] Q Q Q Q
 refine wf hc Q (wi (wq (wq (wg (wx (zz76 s1_ s2_ [(0,.S 0),(1,.S 1),(4,.O false),(12,.I (s1_.length:Int)),(13,.I 0)]) J 3 (wn ?_))))))
 refine wC (σ:=Unit) (fun st=>(zz76 s1_ s2_ [])) (fun st=>z71_k1=some r) ?_ (fun j1=>?_)
 ·intro _ h
  replace h:z71_k1=some r:=h
  unfold z71_k1 at h
  refine wq (wg (ws J 1 Q (wn ?_)))
  cases h
  exact we J Tryz.func71 [] Q Q Q Q
 refine wo ?_
 refine wI (σ:=Int) (fun st=>(zz76 s1_ s2_ [(0,.S 0),(1,.S 1),(12,.I (s1_.length:Int)),(13,.I st)])) (fun n st=>z71_l2 s1_ s2_ n st) (r:=r) (fun _=>rfl) ?_ (fun ih=>?_)
 ·intro n2 ih3
  intro c h
  replace h:z71_l2 s1_ s2_ (n2+1) c=some r:=h
  unfold z71_l2 at h
  refine wq (wg (ws J 1 Q (wn (wq ?_))))
  rcases oc' h with ⟨hc,h⟩ | ⟨hc,h⟩
  ·exact wf hc Q (wz rfl (wu [] (j1 () h) Q Q Q Q))
  refine wt hc Q (wi (wq (wo (wq (wg (wx (zz76 s1_ s2_ [(0,.S 0),(1,.S 1),(5,.I c),(12,.I (s1_.length:Int)),(13,.I c)]) J 2 (wn (wq (wQ (by kernel_rfl) (by kernel_rfl) (WPq.sil J 2 rfl ?_))))))))))
  obtain ⟨d,e,h⟩:=ob h
  refine WPq.op Q Q (VN.vs (VN.ix oO2 J e Q Q Q Q Q Q Q)) (xq [6,7,8] ⟨[(0,.S 0),(1,.S 1),(12,.I (s1_.length:Int)),(13,.I c),(19,.a (cC2 d)),(20,.S 1),(21,.I c)],[],[(0,.sl rR2 s1_),(1,.sl rR2 s2_)],3⟩ J 3 ?_)
  obtain ⟨f,g,h⟩:=ob h
  refine WPq.op Q Q (VN.vs (VN.ix oO2 J g Q Q Q Q Q Q Q)) (WPq.sil J 1 rfl (WPq.op Q Q (VN.vs (VN.eqa (neg:=true) (equal_run (b:=((d.From==f.From) && (((d.Act.From==f.Act.From) && ((d.Act.To==f.Act.To) && ((d.Act.Label==f.Act.Label) && true))) && ((d.To==f.To) && ((d.Again==f.Again) && true))))) (by kernel_rfl) (by kernel_rfl)) (by kernel_rfl) Q Q Q Q Q)) (qx ⟨[(0,.S 0),(1,.S 1),(12,.I (s1_.length:Int)),(13,.I c),(24,.O (!((d.From==f.From) && (((d.Act.From==f.Act.From) && ((d.Act.To==f.Act.To) && ((d.Act.Label==f.Act.Label) && true))) && ((d.To==f.To) && ((d.Again==f.Again) && true))))))],[],[(0,.sl rR2 s1_),(1,.sl rR2 s2_)],4⟩ J 0 (qn ?_))))
  rcases oc h with ⟨hc,h⟩ | ⟨hc,h⟩
  ·refine wt hc Q (wq (wg (ws J 1 Q (wn ?_))))
   cases h
   exact we J Tryz.func71 [] Q Q Q Q
  exact wf hc Q (wi (wb (wg (ws J 2 Q (wn (wu [] (ih3 (w64 (c+1)) h) Q Q Q Q))))))
 exact wu [] (ih N 0 h) Q Q Q Q
theorem z72_ct (N:Nat) (s1_:(List T8)) (s2_:(List T8)) (r:Bool) (h:z72 N s1_ s2_=some r) :
 Fn Tryz.prog 72 ⟨2,[.S 0,.S 1],[(0,.sl rR8 s1_),(1,.sl rR8 s2_)],[],2,.O r,[],[]⟩:=by
 refine Fn.intro _ _ Tryz.func72 rfl (by kernel_rfl) rfl (fun E F w=>?_)
 unfold z72 at h
 refine wq (wg (ws J 1 Q (wn (wq (wq (wg (wx (zz77 s1_ s2_ [(0,.S 0),(1,.S 1),(4,.O false),(10,.O ((s1_.length:Int) != (s2_.length:Int)))]) J 5 (wn ?_))))))))
 rcases oc h with ⟨hc,h⟩ | ⟨hc,h⟩
 ·refine wt hc Q (wq (wg (ws J 1 Q (wn ?_))))
  cases h
  exact we J Tryz.func72 [] Q Q Q Q
 refine wf hc Q (wi (wq (wq (wg (wx (zz77 s1_ s2_ [(0,.S 0),(1,.S 1),(4,.O false),(12,.I (s1_.length:Int)),(13,.I 0)]) J 3 (wn ?_))))))
 refine wC (σ:=Unit) (fun st=>(zz77 s1_ s2_ [])) (fun st=>z72_k1=some r) ?_ (fun j1=>?_)
 ·intro _ h
  replace h:z72_k1=some r:=h
  unfold z72_k1 at h
  refine wq (wg (ws J 1 Q (wn ?_)))
  cases h
  exact we J Tryz.func72 [] Q Q Q Q
 refine wo ?_
 refine wI (σ:=Int) (fun st=>(zz77 s1_ s2_ [(0,.S 0),(1,.S 1),(12,.I (s1_.length:Int)),(13,.I st)])) (fun n st=>z72_l2 s1_ s2_ n st) (r:=r) (fun _=>rfl) ?_ (fun ih=>?_)
 ·intro n2 ih3
  intro c h
  replace h:z72_l2 s1_ s2_ (n2+1) c=some r:=h
  unfold z72_l2 at h
  refine wq (wg (ws J 1 Q (wn (wq ?_))))
  rcases oc' h with ⟨hc,h⟩ | ⟨hc,h⟩
  ·exact wf hc Q (wz rfl (wu [] (j1 () h) Q Q Q Q))
  refine wt hc Q (wi (wq (wo (wq (wg (wx (zz77 s1_ s2_ [(0,.S 0),(1,.S 1),(5,.I c),(12,.I (s1_.length:Int)),(13,.I c)]) J 2 (wn (wq (wQ (by kernel_rfl) (by kernel_rfl) (WPq.sil J 2 rfl ?_))))))))))
  obtain ⟨d,e,h⟩:=ob h
  refine WPq.op Q Q (VN.vs (VN.ix oO8 J e Q Q Q Q Q Q Q)) (xq [6,7,8] ⟨[(0,.S 0),(1,.S 1),(12,.I (s1_.length:Int)),(13,.I c),(19,.a (cC8 d)),(20,.S 1),(21,.I c)],[],[(0,.sl rR8 s1_),(1,.sl rR8 s2_)],3⟩ J 3 ?_)
  obtain ⟨f,g,h⟩:=ob h
  refine WPq.op Q Q (VN.vs (VN.ix oO8 J g Q Q Q Q Q Q Q)) (WPq.sil J 1 rfl (WPq.op Q Q (VN.vs (VN.eqa (neg:=true) (equal_run (b:=((d.State==f.State) && ((d.Ticks==f.Ticks) && ((d.Else==f.Else) && true)))) (by kernel_rfl) (by kernel_rfl)) (by kernel_rfl) Q Q Q Q Q)) (qx ⟨[(0,.S 0),(1,.S 1),(12,.I (s1_.length:Int)),(13,.I c),(24,.O (!((d.State==f.State) && ((d.Ticks==f.Ticks) && ((d.Else==f.Else) && true)))))],[],[(0,.sl rR8 s1_),(1,.sl rR8 s2_)],4⟩ J 0 (qn ?_))))
  rcases oc h with ⟨hc,h⟩ | ⟨hc,h⟩
  ·refine wt hc Q (wq (wg (ws J 1 Q (wn ?_))))
   cases h
   exact we J Tryz.func72 [] Q Q Q Q
  exact wf hc Q (wi (wb (wg (ws J 2 Q (wn (wu [] (ih3 (w64 (c+1)) h) Q Q Q Q))))))
 exact wu [] (ih N 0 h) Q Q Q Q
theorem z23_ct (N:Nat) (a_:T4) (b_:T4) (r:Bool) (h:z23 N a_ b_=some r) :
 Fn Tryz.prog 23 ⟨8,[.a (cC4 0 1 2 3 a_),.a (cC4 4 5 6 7 b_)],(vV4 0 1 2 3 a_ (vV4 4 5 6 7 b_ [])),[],8,.O r,[],[]⟩:=by
 refine Fn.intro _ _ Tryz.func23 rfl (by kernel_rfl) rfl (fun E F w=>?_)
 unfold z23 at h
 refine wq (wg (wx (zz5 a_ b_ [(2,.B 8 0),(3,.B 9 0),(4,.O false)]) J 3 (wn (wq (wg (xw (rg 6 49) (zz5 a_ b_ [(2,.B 8 0),(3,.B 9 0),(10,.O (a_.Name.toList==b_.Name.toList))]) J 6 ?_))))))
 rcases oc' h with ⟨hc,h⟩ | ⟨hc,h⟩
 ·refine wy 10 hc Q (wx (zz36 a_ b_ [(4,.O false)]) J 49 (wn ?_))
  cases h
  exact we J Tryz.func23 [] Q Q Q Q
 refine wy 10 hc Q (xw (rg 10 45) (zz5 a_ b_ [(2,.B 8 0),(3,.B 9 0),(10,.O true),(12,.S 0),(14,.S 4)]) J 4 ?_)
 obtain ⟨x1,c,h⟩:=ob h
 refine wc (z68_ct N a_.Roles b_.Roles _ c) [(0,.sl 0),(1,.sl 4)] [] Q Q Q Q Q Q Q Q (.inl rfl) rfl (xw (rg 13 42) (zz5 a_ b_ [(2,.B 8 0),(3,.B 9 0),(17,.O x1)]) J 2 ?_)
 rcases oc' h with ⟨hc,h⟩ | ⟨hc,h⟩
 ·refine wy 17 hc Q (wx (zz36 a_ b_ [(4,.O false)]) J 42 (wn ?_))
  cases h
  exact we J Tryz.func23 [] Q Q Q Q
 refine wy 17 hc Q (xw (rg 17 38) (zz5 a_ b_ [(2,.B 8 0),(3,.B 9 0),(17,.O true),(19,.S 1),(21,.S 5)]) J 4 ?_)
 obtain ⟨x2,d,h⟩:=ob h
 refine wc (z69_15_ct N a_.Decls b_.Decls _ d) [(0,.sl 1),(1,.sl 5)] [] Q Q Q Q Q Q Q Q (.inl rfl) rfl (xw (rg 20 35) (zz5 a_ b_ [(2,.B 8 0),(3,.B 9 0),(24,.O x2)]) J 2 ?_)
 rcases oc' h with ⟨hc,h⟩ | ⟨hc,h⟩
 ·refine wy 24 hc Q (wx (zz36 a_ b_ [(4,.O false)]) J 35 (wn ?_))
  cases h
  exact we J Tryz.func23 [] Q Q Q Q
 refine wy 24 hc Q (xw (rg 27 28) (zz5 a_ b_ [(2,.B 8 0),(3,.B 9 0),(31,.O (a_.States==b_.States))]) J 7 ?_)
 rcases oc' h with ⟨hc,h⟩ | ⟨hc,h⟩
 ·refine wy 31 hc Q (wx (zz36 a_ b_ [(4,.O false)]) J 28 (wn ?_))
  cases h
  exact we J Tryz.func23 [] Q Q Q Q
 refine wy 31 hc Q (xw (rg 34 21) (zz5 a_ b_ [(2,.B 8 0),(3,.B 9 0),(38,.O (a_.Start==b_.Start))]) J 7 ?_)
 rcases oc' h with ⟨hc,h⟩ | ⟨hc,h⟩
 ·refine wy 38 hc Q (wx (zz36 a_ b_ [(4,.O false)]) J 21 (wn ?_))
  cases h
  exact we J Tryz.func23 [] Q Q Q Q
 refine wy 38 hc Q (xw (rg 41 14) (zz5 a_ b_ [(2,.B 8 0),(3,.B 9 0),(45,.O (a_.End==b_.End))]) J 7 ?_)
 rcases oc' h with ⟨hc,h⟩ | ⟨hc,h⟩
 ·refine wy 45 hc Q (wx (zz36 a_ b_ [(4,.O false)]) J 14 (wn ?_))
  cases h
  exact we J Tryz.func23 [] Q Q Q Q
 refine wy 45 hc Q (xw (rg 45 10) (zz5 a_ b_ [(2,.B 8 0),(3,.B 9 0),(45,.O true),(47,.S 2),(49,.S 6)]) J 4 ?_)
 obtain ⟨x3,e,h⟩:=ob h
 refine wc (z71_ct N a_.Edges b_.Edges _ e) [(0,.sl 2),(1,.sl 6)] [] Q Q Q Q Q Q Q Q (.inl rfl) rfl (xw (rg 48 7) (zz5 a_ b_ [(2,.B 8 0),(3,.B 9 0),(52,.O x3)]) J 2 ?_)
 rcases oc' h with ⟨hc,h⟩ | ⟨hc,h⟩
 ·refine wy 52 hc Q (wx (zz36 a_ b_ [(4,.O false)]) J 7 (wn ?_))
  cases h
  exact we J Tryz.func23 [] Q Q Q Q
 refine wy 52 hc Q (xw [52,53,54] (zz36 a_ b_ [(52,.O true),(54,.S 3),(56,.S 7)]) J 4 ?_)
 obtain ⟨x4,f,h⟩:=ob h
 refine wc (z72_ct N a_.Timeouts b_.Timeouts _ f) [(0,.sl 3),(1,.sl 7)] [] Q Q Q Q Q Q Q Q (.inl rfl) rfl (wx (zz36 a_ b_ [(4,.O x4)]) J 2 (wn ?_))
 cases h
 exact we J Tryz.func23 [] Q Q Q Q
theorem z78_16_ct (N:Nat) (d_:T0) (c0_:ByteArray) (r:Bool) (h:z78_16 N d_ c0_=some r) :
 Fn Tryz.prog 78 ⟨4,[.a (cC0 0 1 2 d_),.B 3 0],(vV0 0 1 2 d_ []),[(3,.box [.s c0_] 9)],4,.O r,[],[(3,.box [.s c0_] 9)]⟩:=by
 refine Fn.intro _ _ Tryz.func78 rfl (by kernel_rfl) rfl (fun E F w=>?_)
 unfold z78_16 at h
 refine wq (wg (ws J 2 Q (wn (wq (wg (wx ⟨[(3,.O (d_.Name.toList==c0_.toList))],[(3,.box [.s c0_] 9)],(vV0 0 1 2 d_ []),5⟩ J 5 (wn ?_)))))))
 cases h
 exact we J Tryz.func78 [] Q Q Q Q
theorem z77_17_ct (N:Nat) (s_:(List T0)) (c0_:ByteArray) (r:Int) (h:z77_17 N s_ c0_=some r) :
 Fn Tryz.prog 77 ⟨2,[.S 0,.c (.cl 78 [] [1])],[(0,.sl rR0 s_)],[(1,.box [.s c0_] 9)],2,.I r,[],[(1,.box [.s c0_] 9)]⟩:=by
 refine Fn.intro _ _ Tryz.func77 rfl (by kernel_rfl) rfl (fun E F w=>?_)
 unfold z77_17 at h
 refine wq (wg (ws J 1 Q (wn (wq (wq (wg (wx (zz78 c0_ s_ [(0,.S 0),(1,.c (.cl 78 [] [1])),(4,.I 0),(7,.I (s_.length:Int)),(8,.I 0)]) J 3 (wn ?_))))))))
 refine wC (σ:=Unit) (fun st=>(zz78 c0_ s_ [])) (fun st=>z77_17_k1=some r) ?_ (fun j1=>?_)
 ·intro _ h
  replace h:z77_17_k1=some r:=h
  unfold z77_17_k1 at h
  refine wq (wg (ws J 1 Q (wn ?_)))
  cases h
  exact we J Tryz.func77 [] Q Q Q Q
 refine wo ?_
 refine wI (σ:=Int) (fun st=>(zz78 c0_ s_ [(0,.S 0),(1,.c (.cl 78 [] [1])),(7,.I (s_.length:Int)),(8,.I st)])) (fun n st=>z77_17_l2 N s_ c0_ n st) (r:=r) (fun _=>rfl) ?_ (fun ih=>?_)
 ·intro n2 ih3
  intro d h
  replace h:z77_17_l2 N s_ c0_ (n2+1) d=some r:=h
  unfold z77_17_l2 at h
  refine wq (wg (ws J 1 Q (wn (wq ?_))))
  rcases oc' h with ⟨hc,h⟩ | ⟨hc,h⟩
  ·exact wf hc Q (wz rfl (wu [] (j1 () h) Q Q Q Q))
  refine wt hc Q (wi (wq (wo (wq (wg (wx (zz78 c0_ s_ [(0,.S 0),(1,.c (.cl 78 [] [1])),(5,.I d),(7,.I (s_.length:Int)),(8,.I d)]) J 2 (wn (wq (wg (xw [3,4,5] (zz78 c0_ s_ [(0,.S 0),(1,.c (.cl 78 [] [1])),(5,.I d),(7,.I (s_.length:Int)),(8,.I d),(11,.c (.cl 78 [] [1])),(12,.S 0),(13,.I d)]) J 3 ?_))))))))))
  obtain ⟨e,f,h⟩:=ob h
  refine wj oO0 J f Q Q Q Q Q Q Q Q Q (ws J 1 Q ?_)
  obtain ⟨g,i,h⟩:=ob h
  refine WPr.callc (z78_16_ct N e c0_ _ i) [(0,.sl 3),(1,.sl 4),(2,.sl 5),(3,.bp 1 0)] [] Q Q Q Q Q Q Q Q Q (.inl rfl) rfl (wx ⟨[(0,.S 0),(1,.c (.cl 78 [] [1])),(5,.I d),(7,.I (s_.length:Int)),(8,.I d),(16,.O g)],[(1,.box [.s c0_] 9)],[(0,.sl rR0 s_)],6⟩ J 0 (wn ?_))
  rcases oc h with ⟨hc,h⟩ | ⟨hc,h⟩
  ·refine wt hc Q (wq (wg (ws J 2 Q (wn ?_))))
   cases h
   exact we J Tryz.func77 [] Q Q Q Q
  exact wf hc Q (wi (wb (wg (ws J 2 Q (wn (wu [] (ih3 (w64 (d+1)) h) Q Q Q Q))))))
 exact wu [] (ih N 0 h) Q Q Q Q
theorem z31_ct (N:Nat) (g_:T4) (name_:ByteArray) (r:Int) (h:z31 N g_ name_=some r) :
 Fn Tryz.prog 31 ⟨4,[.a (cC4 0 1 2 3 g_),.c (.s name_)],(vV4 0 1 2 3 g_ []),[],4,.I r,[],[]⟩:=by
 refine Fn.intro _ _ Tryz.func31 rfl (by kernel_rfl) rfl (fun E F w=>?_)
 unfold z31 at h
 refine wq (wg (wx ⟨[(2,.B 4 0),(3,.B 5 0),(4,.I 0)],[(4,.box (cC4 0 1 2 3 g_) 27),(5,.box [.s name_] 9)],(vV4 0 1 2 3 g_ []),6⟩ J 3 (wn (wq (wg (xw [3,4] ⟨[(6,.S 1),(7,.c (.cl 78 [] [5]))],[(5,.box [.s name_] 9)],(vV4 0 1 2 3 g_ []),6⟩ J 3 ?_))))))
 obtain ⟨x1,d,h⟩:=ob h
 refine wc (z77_17_ct N g_.Decls name_ _ d) [(0,.sl 1),(1,.bp 5 0)] [] Q Q Q Q Q Q Q Q (.inl rfl) rfl (wx ⟨[(4,.I x1)],[],(vV4 0 1 2 3 g_ []),6⟩ J 1 (wn ?_))
 cases h
 exact we J Tryz.func31 [] Q Q Q Q
theorem z115_ct (N:Nat) (s_:(List ByteArray)) (r:(List ByteArray)) (h:z115 N s_=some r) :
 Fn Tryz.prog 115 ⟨1,[.S 0],[(0,.sl rS s_)],[],2,.S 1,[],[(1,.own rS r true)]⟩:=by
 refine Fn.intro _ _ Tryz.func115 rfl (by kernel_rfl) rfl (fun E F w=>?_)
 unfold z115 at h
 refine wq (wg (ws J 1 Q (wn (wq (wq (wg (ws J 1 Q (WPr.nilc (el:=9) false (Or.inl rfl) Q Q Q Q (by kernel_rfl) Q Q Q ?_))))))))
 intro nb hnb
 cases nb
 ·refine wx (zz13 s_ [(0,.S 0),(2,.c .nil),(4,.O false)]) J 0 (wn (wf Q Q (wi (wq (wg (WPr.bs (cs:=[]) oS J ([]:List ByteArray) Q Q Q Q Q Q (by kernel_rfl) (by exact rfl) rfl (ws J 1 Q ?_)))))))
  obtain ⟨x1,d,h⟩:=ob h
  refine WPr.app J d (by exact (srcI rfl)) Q Q Q Q Q Q Q Q Q Q (wx ⟨[(2,.S 2)],[(2,.own rS x1 true)],[(0,.sl rS s_)],3⟩ J 1 (wn ?_))
  cases h
  exact we J Tryz.func115 [(1,.sl 2)] Q Q Q Q
 ·obtain rfl:=hnb rfl
  replace h:(some ([]:List ByteArray):Option (List ByteArray))=some r:=h
  refine wx ⟨[(0,.S 0),(2,.c .nil),(4,.O true)],[],[(0,.sl rS ([]:List ByteArray))],1⟩ J 0 (wn (wt Q Q (wq (wg (ws J 1 Q (wn ?_))))))
  cases h
  exact we J Tryz.func115 [(1,.nil)] Q Q Q Q
theorem z116_ct (N:Nat) (s_:(List T3)) (r:(List T3)) (h:z116 N s_=some r) :
 Fn Tryz.prog 116 ⟨1,[.S 0],[(0,.sl rR3 s_)],[],2,.S 1,[],[(1,.own rR3 r true)]⟩:=by
 refine Fn.intro _ _ Tryz.func116 rfl (by kernel_rfl) rfl (fun E F w=>?_)
 unfold z116 at h
 refine wq (wg (ws J 1 Q (wn (wq (wq (wg (ws J 1 Q (WPr.nilc (el:=141) false (Or.inl rfl) Q Q Q Q (by kernel_rfl) Q Q Q ?_))))))))
 intro nb hnb
 cases nb
 ·refine wx ⟨[(0,.S 0),(2,.c .nil),(4,.O false)],[],[(0,.sl rR3 s_)],1⟩ J 0 (wn (wf Q Q (wi (wq (wg (WPr.bs (cs:=[]) oO3 J ([]:List T3) Q Q Q Q Q Q (by kernel_rfl) (by exact rfl) rfl (ws J 1 Q ?_)))))))
  obtain ⟨x1,d,h⟩:=ob h
  refine WPr.app J d (by exact (srcI rfl)) Q Q Q Q Q Q Q Q Q Q (wx ⟨[(2,.S 2)],[(2,.own rR3 x1 true)],[(0,.sl rR3 s_)],3⟩ J 1 (wn ?_))
  cases h
  exact we J Tryz.func116 [(1,.sl 2)] Q Q Q Q
 ·obtain rfl:=hnb rfl
  replace h:(some ([]:List T3):Option (List T3))=some r:=h
  refine wx ⟨[(0,.S 0),(2,.c .nil),(4,.O true)],[],[(0,.sl rR3 ([]:List T3))],1⟩ J 0 (wn (wt Q Q (wq (wg (ws J 1 Q (wn ?_))))))
  cases h
  exact we J Tryz.func116 [(1,.nil)] Q Q Q Q
theorem z117_ct (N:Nat) (s_:(List T1)) (r:(List T1)) (h:z117 N s_=some r) :
 Fn Tryz.prog 117 ⟨1,[.S 0],[(0,.sl rR1 s_)],[],2,.S 1,[],[(1,.own rR1 r true)]⟩:=by
 refine Fn.intro _ _ Tryz.func117 rfl (by kernel_rfl) rfl (fun E F w=>?_)
 unfold z117 at h
 refine wq (wg (ws J 1 Q (wn (wq (wq (wg (ws J 1 Q (WPr.nilc (el:=144) false (Or.inl rfl) Q Q Q Q (by kernel_rfl) Q Q Q ?_))))))))
 intro nb hnb
 cases nb
 ·refine wx ⟨[(0,.S 0),(2,.c .nil),(4,.O false)],[],[(0,.sl rR1 s_)],1⟩ J 0 (wn (wf Q Q (wi (wq (wg (WPr.bs (cs:=[]) oO1 J ([]:List T1) Q Q Q Q Q Q (by kernel_rfl) (by exact rfl) rfl (ws J 1 Q ?_)))))))
  obtain ⟨x1,d,h⟩:=ob h
  refine WPr.app J d (by exact (srcI rfl)) Q Q Q Q Q Q Q Q Q Q (wx ⟨[(2,.S 2)],[(2,.own rR1 x1 true)],[(0,.sl rR1 s_)],3⟩ J 1 (wn ?_))
  cases h
  exact we J Tryz.func117 [(1,.sl 2)] Q Q Q Q
 ·obtain rfl:=hnb rfl
  replace h:(some ([]:List T1):Option (List T1))=some r:=h
  refine wx ⟨[(0,.S 0),(2,.c .nil),(4,.O true)],[],[(0,.sl rR1 ([]:List T1))],1⟩ J 0 (wn (wt Q Q (wq (wg (ws J 1 Q (wn ?_))))))
  cases h
  exact we J Tryz.func117 [(1,.nil)] Q Q Q Q
theorem z118_ct (N:Nat) (s_:(List (Int × Int))) (r:(List (Int × Int))) (h:z118 N s_=some r) :
 Fn Tryz.prog 118 ⟨1,[.S 0],[(0,.sl (rP (rI .i64) (rI .i64)) s_)],[],2,.S 1,[],[(1,.own (rP (rI .i64) (rI .i64)) r true)]⟩:=by
 refine Fn.intro _ _ Tryz.func118 rfl (by kernel_rfl) rfl (fun E F w=>?_)
 unfold z118 at h
 refine wq (wg (ws J 1 Q (wn (wq (wq (wg (ws J 1 Q (WPr.nilc (el:=146) false (Or.inl rfl) Q Q Q Q (by kernel_rfl) Q Q Q ?_))))))))
 intro nb hnb
 cases nb
 ·refine wx ⟨[(0,.S 0),(2,.c .nil),(4,.O false)],[],[(0,.sl (rP (rI .i64) (rI .i64)) s_)],1⟩ J 0 (wn (wf Q Q (wi (wq (wg (WPr.bs (cs:=[]) (oP (oI .i64) (oI .i64)) J ([]:List (Int × Int)) Q Q Q Q Q Q (by kernel_rfl) (by exact rfl) rfl (ws J 1 Q ?_)))))))
  obtain ⟨x1,d,h⟩:=ob h
  refine WPr.app J d (by exact (srcI rfl)) Q Q Q Q Q Q Q Q Q Q (wx ⟨[(2,.S 2)],[(2,.own (rP (rI .i64) (rI .i64)) x1 true)],[(0,.sl (rP (rI .i64) (rI .i64)) s_)],3⟩ J 1 (wn ?_))
  cases h
  exact we J Tryz.func118 [(1,.sl 2)] Q Q Q Q
 ·obtain rfl:=hnb rfl
  replace h:(some ([]:List (Int × Int)):Option (List (Int × Int)))=some r:=h
  refine wx ⟨[(0,.S 0),(2,.c .nil),(4,.O true)],[],[(0,.sl (rP (rI .i64) (rI .i64)) ([]:List (Int × Int)))],1⟩ J 0 (wn (wt Q Q (wq (wg (ws J 1 Q (wn ?_))))))
  cases h
  exact we J Tryz.func118 [(1,.nil)] Q Q Q Q
theorem z60_18_ct (N:Nat) (t_:T8) (c0_:Int) (r:Bool) (h:z60_18 N t_ c0_=some r) :
 Fn Tryz.prog 60 ⟨1,[.a (cC8 t_),.B 0 0],[],[(0,.box [.I c0_] 3)],1,.O r,[],[(0,.box [.I c0_] 3)]⟩:=by
 refine Fn.intro _ _ Tryz.func60 rfl (by kernel_rfl) rfl (fun E F w=>?_)
 unfold z60_18 at h
 refine wq (wg (ws J 2 Q (wn (wq (wg (wx ⟨[(3,.O (t_.State==c0_))],[(0,.box [.I c0_] 3)],[],2⟩ J 5 (wn ?_)))))))
 cases h
 exact we J Tryz.func60 [] Q Q Q Q
theorem z59_19_ct (N:Nat) (s_:(List T8)) (c0_:Int) (r:Int) (h:z59_19 N s_ c0_=some r) :
 Fn Tryz.prog 59 ⟨2,[.S 0,.c (.cl 60 [] [1])],[(0,.sl rR8 s_)],[(1,.box [.I c0_] 3)],2,.I r,[],[(1,.box [.I c0_] 3)]⟩:=by
 refine Fn.intro _ _ Tryz.func59 rfl (by kernel_rfl) rfl (fun E F w=>?_)
 unfold z59_19 at h
 refine wq (wg (ws J 1 Q (wn (wq (wq (wg (wx (zz79 c0_ s_ [(0,.S 0),(1,.c (.cl 60 [] [1])),(4,.I 0),(7,.I (s_.length:Int)),(8,.I 0)]) J 3 (wn ?_))))))))
 refine wC (σ:=Unit) (fun st=>(zz79 c0_ s_ [])) (fun st=>z59_19_k1=some r) ?_ (fun j1=>?_)
 ·intro _ h
  replace h:z59_19_k1=some r:=h
  unfold z59_19_k1 at h
  refine wq (wg (ws J 1 Q (wn ?_)))
  cases h
  exact we J Tryz.func59 [] Q Q Q Q
 refine wo ?_
 refine wI (σ:=Int) (fun st=>(zz79 c0_ s_ [(0,.S 0),(1,.c (.cl 60 [] [1])),(7,.I (s_.length:Int)),(8,.I st)])) (fun n st=>z59_19_l2 N s_ c0_ n st) (r:=r) (fun _=>rfl) ?_ (fun ih=>?_)
 ·intro n2 ih3
  intro d h
  replace h:z59_19_l2 N s_ c0_ (n2+1) d=some r:=h
  unfold z59_19_l2 at h
  refine wq (wg (ws J 1 Q (wn (wq ?_))))
  rcases oc' h with ⟨hc,h⟩ | ⟨hc,h⟩
  ·exact wf hc Q (wz rfl (wu [] (j1 () h) Q Q Q Q))
  refine wt hc Q (wi (wq (wo (wq (wg (wx (zz79 c0_ s_ [(0,.S 0),(1,.c (.cl 60 [] [1])),(5,.I d),(7,.I (s_.length:Int)),(8,.I d)]) J 2 (wn (wq (wg (xw [3,4,5] (zz79 c0_ s_ [(0,.S 0),(1,.c (.cl 60 [] [1])),(5,.I d),(7,.I (s_.length:Int)),(8,.I d),(11,.c (.cl 60 [] [1])),(12,.S 0),(13,.I d)]) J 3 ?_))))))))))
  obtain ⟨e,f,h⟩:=ob h
  refine wj oO8 J f Q Q Q Q Q Q Q Q Q (ws J 1 Q ?_)
  obtain ⟨g,i,h⟩:=ob h
  refine WPr.callc (z60_18_ct N e c0_ _ i) [(0,.bp 1 0)] [] Q Q Q Q Q Q Q Q Q (.inl rfl) rfl (wx ⟨[(0,.S 0),(1,.c (.cl 60 [] [1])),(5,.I d),(7,.I (s_.length:Int)),(8,.I d),(16,.O g)],[(1,.box [.I c0_] 3)],[(0,.sl rR8 s_)],3⟩ J 0 (wn ?_))
  rcases oc h with ⟨hc,h⟩ | ⟨hc,h⟩
  ·refine wt hc Q (wq (wg (ws J 2 Q (wn ?_))))
   cases h
   exact we J Tryz.func59 [] Q Q Q Q
  exact wf hc Q (wi (wb (wg (ws J 2 Q (wn (wu [] (ih3 (w64 (d+1)) h) Q Q Q Q))))))
 exact wu [] (ih N 0 h) Q Q Q Q
theorem z57_ct (N:Nat) (g_:T4) (r:T4) (h:z57 N g_=some r) :
 Fn Tryz.prog 57 ⟨4,[.a (cC4 0 1 2 3 g_)],(vV4 0 1 2 3 g_ []),[],8,.a (cC4 4 5 6 7 r),[(4,.sl rS r.Roles),(5,.sl rR0 r.Decls)],[(6,.own rR2 r.Edges true),(7,.own rR8 r.Timeouts true)]⟩:=by
 refine Fn.intro _ _ Tryz.func57 rfl (by kernel_rfl) rfl (fun E F w=>?_)
 unfold z57 at h
 refine wq (wg (ws J 2 Q (wn (wq (wN (fun A1 d e=>?_))))))
 have f:A1 0 (zz3 [(1,.B 4 0)] [(6,.B 4 0)]):=d _ _ (wl J Q Q Q Q Q Q)
 have g:A1 1 (zz104 g_ [(6,.B 4 0)] [(7,.c (.s g_.Name))]):=d _ _ (wl J Q Q Q Q Q Q)
 have i:A1 2 (zz3 [(1,.B 4 0)] [(8,.B 4 1)]):=d _ _ (wl J Q Q Q Q Q Q)
 have j:A1 3 (zz104 g_ [(8,.B 4 1)] [(9,.S 0)]):=d _ _ (wl J Q Q Q Q Q Q)
 obtain ⟨x5,l,h⟩:=ob h
 have m:A1 4 ⟨[(9,.S 0)],[(0,.sl rS g_.Roles)],[],[],6,[(10,.S 6)],[],[(6,.own rS x5 true)],7⟩:=d _ _ (wO Q Q Q (fun _ _ _ _ _ _ _ k=>wc (z115_ct N g_.Roles _ l) [(0,.sl 0)] [] Q Q Q Q Q Q Q Q (.inl rfl) rfl (k)) rfl)
 have o:A1 5 (zz4 [(7,.c (.s g_.Name)),(10,.S 6)] [(11,.a [.s g_.Name,.sl 6,.nil,.I 0,.I 0,.I 0,.nil,.nil])]):=d _ _ (wl J Q Q Q Q Q Q)
 have p:A1 6 ⟨[],[],[],[],7,[(3,.B 7 0)],[],[(7,.box [.s (str []),.nil,.nil,.I 0,.I 0,.I 0,.nil,.nil] 27)],8⟩:=d _ _ (wl J Q Q Q Q Q Q)
 have q:A1 7 ⟨[(3,.B 7 0),(11,.a [.s g_.Name,.sl 6,.nil,.I 0,.I 0,.I 0,.nil,.nil])],[],[(7,.box [.s (str []),.nil,.nil,.I 0,.I 0,.I 0,.nil,.nil] 27)],[(6,.own rS x5 true)],8,[],[],[(7,.box [.s g_.Name,.sl 6,.nil,.I 0,.I 0,.I 0,.nil,.nil] 27)],8⟩:=d _ _ (wl J Q Q Q Q Q Q)
 refine wD (t:=⟨[(1,.B 4 0),(2,.B 5 0),(3,.B 7 0)],[(4,.box (cC4 0 1 2 3 g_) 27),(5,.box [.s (str []),.nil,.nil,.I 0,.I 0,.I 0,.nil,.nil] 27),(6,.own rS x5 true),(7,.box [.s g_.Name,.sl 6,.nil,.I 0,.I 0,.I 0,.nil,.nil] 27)],(vV4 0 1 2 3 g_ []),8⟩) [0,1,0,4,12,31,0,127] (.cons (e _ _ f) (.cons (e _ _ g) (.cons (e _ _ i) (.cons (e _ _ j) (.cons (e _ _ m) (.cons (e _ _ o) (.cons (e _ _ p) (.cons (e _ _ q) .nil)))))))) (by kernel_rfl) (by kernel_rfl) (by kernel_rfl) (by kernel_rfl) (wq (wq (wg (wx ⟨[(2,.B 5 0),(3,.B 7 0),(13,.S 1),(14,.I (g_.Decls.length:Int)),(15,.I 0)],[(5,.box [.s (str []),.nil,.nil,.I 0,.I 0,.I 0,.nil,.nil] 27),(6,.own rS x5 true),(7,.box [.s g_.Name,.sl 6,.nil,.I 0,.I 0,.I 0,.nil,.nil] 27)],(vV4 0 1 2 3 g_ []),8⟩ J 4 (wn ?_)))))
 refine wC (σ:=(List T0)) (fun st=>(zz162 x5 g_.Name st g_ [(2,.B 5 0),(3,.B 7 0)])) (fun st=>z57_k1 g_ x5 st=some r) ?_ (fun j1=>?_)
 ·intro u h
  replace h:z57_k1 g_ x5 u=some r:=h
  unfold z57_k1 at h
  refine wq (wg (ws J 2 Q (wn (WP.frz 6 rfl (WP.frz 8 rfl ?_)))))
  cases h
  exact we J Tryz.func57 [(4,.sl 6),(5,.sl 8),(6,.nil),(7,.nil)] Q Q Q Q
 refine wo ?_
 refine wI (σ:=(List T0) × Int) (fun st=>(zz162 x5 g_.Name st.1 g_ [(2,.B 5 0),(3,.B 7 0),(13,.S 1),(14,.I (g_.Decls.length:Int)),(15,.I st.2)])) (fun n st=>z57_l2 N g_ x5 n st.1 st.2) (r:=r) (fun _=>rfl) ?_ (fun ih=>?_)
 ·intro n2 ih3
  rintro ⟨v,x⟩ h
  replace h:z57_l2 N g_ x5 (n2+1) v x=some r:=h
  unfold z57_l2 at h
  refine wq (wg (ws J 1 Q (wn (wq ?_))))
  rcases oc' h with ⟨hc,h⟩ | ⟨hc,h⟩
  ·exact wf hc Q (wz rfl (wu [] (j1 v h) Q Q Q Q))
  refine wt hc Q (wi (wq (wo (wq (wg ?_)))))
  obtain ⟨y,z,h⟩:=ob h
  refine wj oO0 J z Q Q Q Q Q Q Q Q Q (wx ⟨[(2,.B 5 0),(3,.B 7 0),(5,.B 13 0),(13,.S 1),(14,.I (g_.Decls.length:Int)),(15,.I x)],[(5,.box [.s (str []),.nil,.nil,.I 0,.I 0,.I 0,.nil,.nil] 27),(6,.own rS x5 true),(7,.box [.s g_.Name,.sl 6,.sl 8,.I 0,.I 0,.I 0,.nil,.nil] 27),(8,.own rR0 v true),(13,.box (cC0 10 11 12 y) 94)],(vV4 0 1 2 3 g_ (vV0 10 11 12 y [])),14⟩ J 3 (wn (wq (wg (ws J 2 Q ?_)))))
  obtain ⟨A,C,h⟩:=ob h
  refine wc (z116_ct N y.Fields _ C) [(0,.sl 10)] [] Q Q Q Q Q Q Q Q (.inl rfl) rfl (wx ⟨[(2,.B 5 0),(3,.B 7 0),(5,.B 13 0),(13,.S 1),(14,.I (g_.Decls.length:Int)),(15,.I x)],[(5,.box [.s (str []),.nil,.nil,.I 0,.I 0,.I 0,.nil,.nil] 27),(6,.own rS x5 true),(7,.box [.s g_.Name,.sl 6,.sl 8,.I 0,.I 0,.I 0,.nil,.nil] 27),(8,.own rR0 v true),(13,.box (cC0 14 11 12 y) 94),(14,.own rR3 A true)],(vV4 0 1 2 3 g_ [(11,.sl rR1 y.Guard.Diffs),(12,.sl (rP (rI .i64) (rI .i64)) y.Guard.Equals)]),15⟩ J 2 (wn (wq (wN (fun D G H=>?_)))))
  have K:D 0 (zz31 [(5,.B 13 0)] [(23,.B 13 3)]):=G _ _ (wl J Q Q Q Q Q Q)
  have R:D 1 (zz31 [(23,.B 13 3)] [(24,.B 13 3)]):=G _ _ (wl J Q Q Q Q Q Q)
  have T:D 2 ⟨[(24,.B 13 3)],[(11,.sl rR1 y.Guard.Diffs),(12,.sl (rP (rI .i64) (rI .i64)) y.Guard.Equals)],[],[(13,.box (cC0 14 11 12 y) 94)],15,[(25,.S 11)],[],[],15⟩:=G _ _ (wl J Q Q Q Q Q Q)
  obtain ⟨U,X,h⟩:=ob h
  have Y:D 3 ⟨[(25,.S 11)],[(11,.sl rR1 y.Guard.Diffs)],[],[],15,[(26,.S 15)],[],[(15,.own rR1 U true)],16⟩:=G _ _ (wO Q Q Q (fun _ _ _ _ _ _ _ k=>wc (z117_ct N y.Guard.Diffs _ X) [(0,.sl 11)] [] Q Q Q Q Q Q Q Q (.inl rfl) rfl (k)) rfl)
  have Z:D 4 (zz72 [(5,.B 13 0)] [(27,.B 13 3)]):=G _ _ (wl J Q Q Q Q Q Q)
  have a0:D 5 (zz72 [(27,.B 13 3)] [(28,.B 13 4)]):=G _ _ (wl J Q Q Q Q Q Q)
  have b0:D 6 ⟨[(28,.B 13 4)],[(11,.sl rR1 y.Guard.Diffs),(12,.sl (rP (rI .i64) (rI .i64)) y.Guard.Equals)],[],[(13,.box (cC0 14 11 12 y) 94)],16,[(29,.S 12)],[],[],16⟩:=G _ _ (wl J Q Q Q Q Q Q)
  obtain ⟨c0,d0,h⟩:=ob h
  have e0:D 7 ⟨[(29,.S 12)],[(12,.sl (rP (rI .i64) (rI .i64)) y.Guard.Equals)],[],[],16,[(30,.S 16)],[],[(16,.own (rP (rI .i64) (rI .i64)) c0 true)],17⟩:=G _ _ (wO Q Q Q (fun _ _ _ _ _ _ _ k=>wc (z118_ct N y.Guard.Equals _ d0) [(0,.sl 12)] [] Q Q Q Q Q Q Q Q (.inl rfl) rfl (k)) rfl)
  have f0:D 8 (zz105 [(26,.S 15),(30,.S 16)] [(31,.a [.sl 15,.sl 16])]):=G _ _ (wl J Q Q Q Q Q Q)
  have g0:D 9 (zz105 [(5,.B 13 0)] [(32,.B 13 3)]):=G _ _ (wl J Q Q Q Q Q Q)
  have i0:D 10 ⟨[(31,.a [.sl 15,.sl 16]),(32,.B 13 3)],[(11,.sl rR1 y.Guard.Diffs),(12,.sl (rP (rI .i64) (rI .i64)) y.Guard.Equals)],[(13,.box (cC0 14 11 12 y) 94)],[(15,.own rR1 U true),(16,.own (rP (rI .i64) (rI .i64)) c0 true)],17,[],[],[(13,.box (cC0 14 15 16 y) 94)],17⟩:=G _ _ (wl J Q Q Q Q Q Q)
  refine wD (t:=⟨[(2,.B 5 0),(3,.B 7 0),(5,.B 13 0),(13,.S 1),(14,.I (g_.Decls.length:Int)),(15,.I x)],[(5,.box [.s (str []),.nil,.nil,.I 0,.I 0,.I 0,.nil,.nil] 27),(6,.own rS x5 true),(7,.box [.s g_.Name,.sl 6,.sl 8,.I 0,.I 0,.I 0,.nil,.nil] 27),(8,.own rR0 v true),(13,.box (cC0 14 15 16 y) 94),(14,.own rR3 A true),(15,.own rR1 U true),(16,.own (rP (rI .i64) (rI .i64)) c0 true)],(vV4 0 1 2 3 g_ []),17⟩) [0,1,3,7,0,16,48,127,255,511,1023] (.cons (H _ _ K) (.cons (H _ _ R) (.cons (H _ _ T) (.cons (H _ _ Y) (.cons (H _ _ Z) (.cons (H _ _ a0) (.cons (H _ _ b0) (.cons (H _ _ e0) (.cons (H _ _ f0) (.cons (H _ _ g0) (.cons (H _ _ i0) .nil))))))))))) (by kernel_rfl) (by kernel_rfl) (by kernel_rfl) (by kernel_rfl) (wg (xw [3,4,5,6] ⟨[(2,.B 5 0),(3,.B 7 0),(13,.S 1),(14,.I (g_.Decls.length:Int)),(15,.I x),(34,.S 8),(35,.a (cC0 14 15 16 y))],[(5,.box [.s (str []),.nil,.nil,.I 0,.I 0,.I 0,.nil,.nil] 27),(6,.own rS x5 true),(7,.box [.s g_.Name,.sl 6,.sl 8,.I 0,.I 0,.I 0,.nil,.nil] 27),(8,.own rR0 v true),(14,.own rR3 A true),(15,.own rR1 U true),(16,.own (rP (rI .i64) (rI .i64)) c0 true)],(vV4 0 1 2 3 g_ []),17⟩ J 3 (WPr.frz 14 rfl (WPr.frz 15 rfl (WPr.frz 16 rfl (WPr.bs (cs:=(cC0 14 15 16 y)) oO0 J ([(⟨y.Name,A,y.First,(⟨U,c0⟩:T5)⟩:T0)]:List T0) Q Q Q Q Q Q (by kernel_rfl) (by exact (an (an rfl (an rfl (an rfl (an Q Q)))) rfl)) rfl ?_))))))
  obtain ⟨j0,k0,h⟩:=ob h
  exact WPr.app J k0 (by exact (srcO rfl)) Q Q Q Q Q Q Q Q Q Q (wx ⟨[(2,.B 5 0),(3,.B 7 0),(13,.S 1),(14,.I (g_.Decls.length:Int)),(15,.I x)],[(5,.box [.s (str []),.nil,.nil,.I 0,.I 0,.I 0,.nil,.nil] 27),(6,.own rS x5 true),(7,.box [.s g_.Name,.sl 6,.sl 18,.I 0,.I 0,.I 0,.nil,.nil] 27),(18,.own rR0 j0 true)],(vV4 0 1 2 3 g_ []),19⟩ J 2 (wn (wb (wg (ws J 2 Q (wn (wu [(8,.sl 18)] (ih3 (j0,(w64 (x+1))) h) Q Q Q Q)))))))
 exact wu [(8,.nil)] (ih N (([]:List T0),0) h) Q Q Q Q
theorem z21_ct (N:Nat) (g_:T4) (r:T4 × Int) (h:z21 N g_=some r) :
 Fn Tryz.prog 21 ⟨4,[.a (cC4 0 1 2 3 g_)],(vV4 0 1 2 3 g_ []),[],8,.t [.inr (cC4 4 5 6 7 r.1),.inl (.I r.2)],(vV4 4 5 6 7 r.1 []),[]⟩:=by
 refine Fn.intro _ _ Tryz.func21 rfl (by kernel_rfl) rfl (fun E F w=>?_)
 unfold z21 at h
 refine wq (wg (wx (zz163 g_ [(1,.B 4 0),(2,.B 5 0),(3,.I 0)]) J 3 (wn (wq (wq (wg (ws J 1 Q ?_)))))))
 obtain ⟨x1,d,h⟩:=ob h
 refine wc (z22_ct N g_ _ d) [(0,.sl 0),(1,.sl 1),(2,.sl 2),(3,.sl 3)] [] Q Q Q Q Q Q Q Q (.inl rfl) rfl (wx (zz163 g_ [(1,.B 4 0),(2,.B 5 0),(3,.I 0),(14,.O (!x1))]) J 1 (wn ?_))
 rcases oc h with ⟨hc,h⟩ | ⟨hc,h⟩
 ·refine wt hc Q (wq (wg (wx ⟨[(2,.B 5 0),(3,.I 1)],[(5,.box [.s (str []),.nil,.nil,.I 0,.I 0,.I 0,.nil,.nil] 27)],(vV4 0 1 2 3 g_ []),6⟩ J 3 (wn ?_))))
  cases h
  exact we J Tryz.func21 [(4,.nil),(5,.nil),(6,.nil),(7,.nil)] Q Q Q Q
 refine wf hc Q (wi (wq (wg (ws J 1 Q ?_))))
 obtain ⟨x2,e,h⟩:=ob h
 refine wc (z57_ct N g_ _ e) [(0,.sl 0),(1,.sl 1),(2,.sl 2),(3,.sl 3)] [] Q Q Q Q Q Q Q Q (.inl rfl) rfl (wx ⟨[(1,.B 4 0),(2,.B 5 0),(3,.I 0),(4,.B 10 0)],[(4,.box (cC4 0 1 2 3 g_) 27),(5,.box [.s (str []),.nil,.nil,.I 0,.I 0,.I 0,.nil,.nil] 27),(8,.own rR2 x2.Edges true),(9,.own rR8 x2.Timeouts true),(10,.box (cC4 6 7 8 9 x2) 27)],(vV4 0 1 2 3 g_ [(6,.sl rS x2.Roles),(7,.sl rR0 x2.Decls)]),11⟩ J 2 (wn (wq (wg (WPr.bs (cs:=[.I (-1)]) (oI .i64) J ([(-1)]:List Int) Q Q Q Q Q Q (by kernel_rfl) (by exact (an Q Q)) rfl (xw [3,4] ⟨[(1,.B 4 0),(2,.B 5 0),(3,.I 0),(4,.B 10 0),(18,.S 11),(20,.I g_.States)],[(4,.box (cC4 0 1 2 3 g_) 27),(5,.box [.s (str []),.nil,.nil,.I 0,.I 0,.I 0,.nil,.nil] 27),(8,.own rR2 x2.Edges true),(9,.own rR8 x2.Timeouts true),(10,.box (cC4 6 7 8 9 x2) 27),(11,.own (rI .i64) ([(-1)]:List Int) true)],(vV4 0 1 2 3 g_ [(6,.sl rS x2.Roles),(7,.sl rR0 x2.Decls)]),12⟩ J 2 ?_))))))
 obtain ⟨x3,f,h⟩:=ob h
 refine wc (z58_ct N ([(-1)]:List Int) g_.States _ f) [(0,.sl 11)] [11] Q Q Q Q Q Q Q Q (.inr ⟨rfl,⟨(rI_flat _),trivial⟩⟩) rfl (wx (zz164 g_ x2.Edges x2.Timeouts x2 x3 x2.Roles x2.Decls [(1,.B 4 0),(2,.B 5 0),(3,.I 0),(4,.B 10 0),(5,.S 12)]) J 1 (wn (wq (wg (xw [3,4] (zz164 g_ x2.Edges x2.Timeouts x2 x3 x2.Roles x2.Decls [(1,.B 4 0),(2,.B 5 0),(3,.I 0),(4,.B 10 0),(5,.S 12),(22,.S 12),(24,.I g_.Start)]) J 3 ?_)))))
 obtain ⟨x4,g,h⟩:=ob h
 refine wX J g Q Q Q Q Q Q Q Q Q (WPr.sto (oI .i64) J 0 g Q Q Q Q Q Q Q Q Q Q (by exact rfl) rfl (wn (wq (wq (wg (xw [2,3] ⟨[(1,.B 4 0),(2,.B 5 0),(3,.I 0),(4,.B 10 0),(5,.S 12),(27,.I g_.Start)],[(4,.box (cC4 0 1 2 3 g_) 27),(5,.box [.s (str []),.nil,.nil,.I 0,.I 0,.I 0,.nil,.nil] 27),(8,.own rR2 x2.Edges true),(9,.own rR8 x2.Timeouts true),(10,.box (cC4 6 7 8 9 x2) 27),(12,.own (rI .i64) (setL' x3 g_.Start 0) true)],(vV4 0 1 2 3 g_ [(6,.sl rS x2.Roles),(7,.sl rR0 x2.Decls)]),14⟩ J 2 (WPr.bs (cs:=[.I g_.Start]) (oI .i64) J ([g_.Start]:List Int) Q Q Q Q Q Q (by kernel_rfl) (by exact (an Q Q)) rfl (ws J 1 Q (wn ?_)))))))))
 refine wC (σ:=Int × (List T2) × (List T8) × (List Int)) (fun st=>⟨[(1,.B 4 0),(2,.B 5 0),(4,.B 10 0),(5,.S 12)],[(4,.box (cC4 0 1 2 3 g_) 27),(5,.box [.s (str []),.nil,.nil,.I 0,.I 0,.I 0,.nil,.nil] 27),(10,.box [.s x2.Name,.sl 6,.sl 7,.I st.1,.I x2.Start,.I x2.End,.sl 15,.sl 16] 27),(12,.own (rI .i64) st.2.2.2 true),(15,.own rR2 st.2.1 true),(16,.own rR8 st.2.2.1 true)],(vV4 0 1 2 3 g_ [(6,.sl rS x2.Roles),(7,.sl rR0 x2.Decls)]),17⟩) (fun st=>z21_k1 g_ x2 st.1 st.2.1 st.2.2.1 st.2.2.2=some r) ?_ (fun j1=>?_)
 ·rintro ⟨i,j,l,m⟩ h
  replace h:z21_k1 g_ x2 i j l m=some r:=h
  unfold z21_k1 at h
  refine wq (wg (xw [3,4,5,6] ⟨[(2,.B 5 0),(4,.B 10 0),(124,.S 12),(126,.I g_.End)],[(5,.box [.s (str []),.nil,.nil,.I 0,.I 0,.I 0,.nil,.nil] 27),(10,.box [.s x2.Name,.sl 6,.sl 7,.I i,.I x2.Start,.I x2.End,.sl 15,.sl 16] 27),(12,.own (rI .i64) m true),(15,.own rR2 j true),(16,.own rR8 l true)],(vV4 0 1 2 3 g_ [(6,.sl rS x2.Roles),(7,.sl rR0 x2.Decls)]),17⟩ J 3 ?_))
  obtain ⟨o,p,h⟩:=ob h
  refine wX J p Q Q Q Q Q Q Q Q Q (wL (oI .i64) J p Q Q Q Q Q Q Q Q Q Q (wx ⟨[(2,.B 5 0),(4,.B 10 0)],[(5,.box [.s (str []),.nil,.nil,.I 0,.I 0,.I 0,.nil,.nil] 27),(10,.box [.s x2.Name,.sl 6,.sl 7,.I i,.I x2.Start,.I o,.sl 15,.sl 16] 27),(15,.own rR2 j true),(16,.own rR8 l true)],(vV4 0 1 2 3 g_ [(6,.sl rS x2.Roles),(7,.sl rR0 x2.Decls)]),18⟩ J 2 (wn (wq (wg (wx ⟨[(2,.B 5 0),(3,.I 0)],[(5,.box [.s x2.Name,.sl 6,.sl 7,.I i,.I x2.Start,.I o,.sl 15,.sl 16] 27),(15,.own rR2 j true),(16,.own rR8 l true)],(vV4 0 1 2 3 g_ [(6,.sl rS x2.Roles),(7,.sl rR0 x2.Decls)]),18⟩ J 3 (wn (WP.frz 15 rfl (WP.frz 16 rfl ?_)))))))))
  cases h
  exact we J Tryz.func21 [(4,.sl 6),(5,.sl 7),(6,.sl 15),(7,.sl 16)] Q Q Q Q
 refine wo ?_
 refine wI (σ:=Int × (List T2) × (List T8) × (List Int) × (List Int)) (fun st=>(zz126 g_ x2.Name st.1 x2.Start x2.End st.2.2.2.1 st.2.1 st.2.2.1 st.2.2.2.2 x2.Roles x2.Decls [(1,.B 4 0),(2,.B 5 0),(4,.B 10 0),(5,.S 12),(6,.S 17)])) (fun n st=>z21_l2 N g_ x2 n st.1 st.2.1 st.2.2.1 st.2.2.2.1 st.2.2.2.2) (r:=r) (fun _=>rfl) ?_ (fun ih=>?_)
 ·intro n12 ih66
  rintro ⟨q,u,v,x,y⟩ h
  replace h:z21_l2 N g_ x2 (n12+1) q u v x y=some r:=h
  unfold z21_l2 at h
  refine wq (wq (wg (wx (zz126 g_ x2.Name q x2.Start x2.End x u v y x2.Roles x2.Decls [(1,.B 4 0),(2,.B 5 0),(4,.B 10 0),(5,.S 12),(6,.S 17),(33,.O (decide (q < (y.length:Int))))]) J 5 (wn ?_))))
  rcases oc' h with ⟨hc,h⟩ | ⟨hc,h⟩
  ·exact wf hc Q (wz rfl (wu [] (j1 (q,u,v,x) h) Q Q Q Q))
  refine wt hc Q (wi (wq (wo (wq (wg (xw [3,4,5,6] (zz126 g_ x2.Name q x2.Start x2.End x u v y x2.Roles x2.Decls [(1,.B 4 0),(2,.B 5 0),(4,.B 10 0),(5,.S 12),(6,.S 17),(38,.S 17),(40,.I q)]) J 3 ?_))))))
  obtain ⟨z,A,h⟩:=ob h
  refine wX J A Q Q Q Q Q Q Q Q Q (wL (oI .i64) J A Q Q Q Q Q Q Q Q Q Q (wx (zz127 g_ x2.Name q x2.Start x2.End x u v y z x2.Roles x2.Decls [(1,.B 4 0),(2,.B 5 0),(4,.B 10 0),(5,.S 12),(6,.S 17),(7,.B 19 0)]) J 2 (wn (wq (wg (xw [3,4] (zz127 g_ x2.Name q x2.Start x2.End x u v y z x2.Roles x2.Decls [(1,.B 4 0),(2,.B 5 0),(4,.B 10 0),(5,.S 12),(6,.S 17),(7,.B 19 0),(44,.S 3),(45,.c (.cl 60 [] [19]))]) J 3 ?_))))))
  obtain ⟨C,D,h⟩:=ob h
  refine wc (z59_19_ct N g_.Timeouts z _ D) [(0,.sl 3),(1,.bp 19 0)] [] Q Q Q Q Q Q Q Q (.inl rfl) rfl (wx (zz127 g_ x2.Name q x2.Start x2.End x u v y z x2.Roles x2.Decls [(1,.B 4 0),(2,.B 5 0),(4,.B 10 0),(5,.S 12),(6,.S 17),(7,.B 19 0),(8,.I C)]) J 1 (wn (wq (wg (ws J 2 Q ?_)))))
  obtain ⟨G,H,h⟩:=ob h
  refine wc (z18_ct N g_ z _ H) [(0,.sl 0),(1,.sl 1),(2,.sl 2),(3,.sl 3)] [] Q Q Q Q Q Q Q Q (.inl rfl) rfl (wx ⟨[(1,.B 4 0),(2,.B 5 0),(4,.B 10 0),(5,.S 12),(6,.S 17),(8,.I C),(49,.S 20),(50,.I (G.length:Int)),(51,.I 0)],[(4,.box (cC4 0 1 2 3 g_) 27),(5,.box [.s (str []),.nil,.nil,.I 0,.I 0,.I 0,.nil,.nil] 27),(10,.box [.s x2.Name,.sl 6,.sl 7,.I q,.I x2.Start,.I x2.End,.sl 15,.sl 16] 27),(12,.own (rI .i64) x true),(15,.own rR2 u true),(16,.own rR8 v true),(17,.own (rI .i64) y true),(20,.own (rI .i64) G true)],(vV4 0 1 2 3 g_ [(6,.sl rS x2.Roles),(7,.sl rR0 x2.Decls)]),21⟩ J 2 (wn ?_))
  refine wC (σ:=(List T2) × (List T8) × (List Int) × (List Int)) (fun st=>(zz165 g_ x2.Name q x2.Start x2.End st.2.2.1 st.1 st.2.1 st.2.2.2 x2.Roles x2.Decls [(1,.B 4 0),(2,.B 5 0),(4,.B 10 0),(5,.S 12),(6,.S 23)])) (fun st=>z21_k3 q (z21_l2 N g_ x2 n12) st.1 st.2.1 st.2.2.1 st.2.2.2=some r) ?_ (fun j109=>?_)
  ·rintro ⟨K,R,T,U⟩ h
   replace h:z21_k3 q (z21_l2 N g_ x2 n12) K R T U=some r:=h
   unfold z21_k3 at h
   exact wb (wg (wx (zz165 g_ x2.Name (w64 (q+1)) x2.Start x2.End T K R U x2.Roles x2.Decls [(1,.B 4 0),(2,.B 5 0),(4,.B 10 0),(5,.S 12),(6,.S 23)]) J 5 (wn (wu [(15,.sl 21),(16,.sl 22),(17,.sl 23)] (ih66 ((w64 (q+1)),K,R,T,U) h) Q Q Q Q))))
  refine wo ?_
  refine wI (σ:=(List T2) × (List T8) × (List Int) × (List Int) × Int) (fun st=>⟨[(1,.B 4 0),(2,.B 5 0),(4,.B 10 0),(5,.S 12),(6,.S 23),(8,.I C),(49,.S 20),(50,.I (G.length:Int)),(51,.I st.2.2.2.2)],[(4,.box (cC4 0 1 2 3 g_) 27),(5,.box [.s (str []),.nil,.nil,.I 0,.I 0,.I 0,.nil,.nil] 27),(10,.box [.s x2.Name,.sl 6,.sl 7,.I q,.I x2.Start,.I x2.End,.sl 21,.sl 22] 27),(12,.own (rI .i64) st.2.2.1 true),(20,.own (rI .i64) G true),(21,.own rR2 st.1 true),(22,.own rR8 st.2.1 true),(23,.own (rI .i64) st.2.2.2.1 true)],(vV4 0 1 2 3 g_ [(6,.sl rS x2.Roles),(7,.sl rR0 x2.Decls)]),24⟩) (fun n st=>z21_l4 g_ q (z21_l2 N g_ x2 n12) C G n st.1 st.2.1 st.2.2.1 st.2.2.2.1 st.2.2.2.2) (r:=r) (fun _=>rfl) ?_ (fun ih=>?_)
  ·intro n14 ih120
   rintro ⟨X,Y,Z,a0,b0⟩ h
   replace h:z21_l4 g_ q (z21_l2 N g_ x2 n12) C G (n14+1) X Y Z a0 b0=some r:=h
   unfold z21_l4 at h
   refine wq (wg (ws J 1 Q (wn (wq ?_))))
   rcases oc' h with ⟨hc,h⟩ | ⟨hc,h⟩
   ·exact wf hc Q (wz rfl (wu [] (j109 (X,Y,Z,a0) h) Q Q Q Q))
   refine wt hc Q (wi (wq (wo (wq (wg ?_)))))
   obtain ⟨c0,d0,h⟩:=ob h
   refine wX J d0 Q Q Q Q Q Q Q Q Q (wL (oI .i64) J d0 Q Q Q Q Q Q Q Q Q Q (wx (zz166 g_ x2.Name q x2.Start x2.End Z G X Y a0 x2.Roles x2.Decls [(1,.B 4 0),(2,.B 5 0),(4,.B 10 0),(5,.S 12),(6,.S 23),(8,.I C),(10,.I c0),(49,.S 20),(50,.I (G.length:Int)),(51,.I b0)]) J 1 (wn (wq (wg (xw [3,4,5,6] (zz166 g_ x2.Name q x2.Start x2.End Z G X Y a0 x2.Roles x2.Decls [(1,.B 4 0),(2,.B 5 0),(4,.B 10 0),(5,.S 12),(6,.S 23),(8,.I C),(10,.I c0),(49,.S 20),(50,.I (G.length:Int)),(51,.I b0),(56,.S 2),(57,.I c0)]) J 3 ?_))))))
   obtain ⟨e0,f0,h⟩:=ob h
   refine wj oO2 J f0 Q Q Q Q Q Q Q Q Q (wx (zz167 g_ x2.Name q x2.Start x2.End Z G X Y a0 e0 x2.Roles x2.Decls [(1,.B 4 0),(2,.B 5 0),(4,.B 10 0),(5,.S 12),(6,.S 23),(8,.I C),(10,.I c0),(11,.B 26 0),(49,.S 20),(50,.I (G.length:Int)),(51,.I b0)]) J 3 (wn (wq (wq (wg (xw [3,4,5] (zz167 g_ x2.Name q x2.Start x2.End Z G X Y a0 e0 x2.Roles x2.Decls [(1,.B 4 0),(2,.B 5 0),(4,.B 10 0),(5,.S 12),(6,.S 23),(8,.I C),(10,.I c0),(11,.B 26 0),(49,.S 20),(50,.I (G.length:Int)),(51,.I b0),(60,.S 12),(62,.I e0.To)]) J 3 ?_))))))
   obtain ⟨g0,i0,h⟩:=ob h
   refine wX J i0 Q Q Q Q Q Q Q Q Q (wL (oI .i64) J i0 Q Q Q Q Q Q Q Q Q Q (wx (zz168 g_ x2.Name q x2.Start x2.End Z G X Y a0 e0 x2.Roles x2.Decls [(1,.B 4 0),(2,.B 5 0),(4,.B 10 0),(5,.S 12),(6,.S 23),(8,.I C),(10,.I c0),(11,.B 26 0),(49,.S 20),(50,.I (G.length:Int)),(51,.I b0),(65,.O (decide (g0 < 0)))]) J 1 (wn ?_)))
   refine wC (σ:=(List Int) × (List Int)) (fun st=>(zz80 g_ x2.Name q x2.Start x2.End st.1 G X Y e0 st.2 x2.Roles x2.Decls [(1,.B 4 0),(2,.B 5 0),(4,.B 10 0),(5,.S 12),(6,.S 28),(8,.I C),(10,.I c0),(11,.B 26 0),(49,.S 20),(50,.I (G.length:Int)),(51,.I b0)])) (fun st=>z21_k7 g_ q C X Y b0 (z21_l4 g_ q (z21_l2 N g_ x2 n12) C G n14) c0 e0 st.1 st.2=some r) ?_ (fun j127=>?_)
   ·rintro ⟨j0,k0⟩ h
    replace h:z21_k7 g_ q C X Y b0 (z21_l4 g_ q (z21_l2 N g_ x2 n12) C G n14) c0 e0 j0 k0=some r:=h
    unfold z21_k7 at h
    refine wq (wq (wg (xw (rg 3 9) (zz80 g_ x2.Name q x2.Start x2.End j0 G X Y e0 k0 x2.Roles x2.Decls [(1,.B 4 0),(2,.B 5 0),(4,.B 10 0),(5,.S 12),(6,.S 28),(8,.I C),(10,.I c0),(11,.B 26 0),(49,.S 20),(50,.I (G.length:Int)),(51,.I b0),(79,.O (decide (C≥0)))]) J 3 ?_)))
    refine WP.cutr (σ:=Bool) (fun st=>(zz80 g_ x2.Name q x2.Start x2.End j0 G X Y e0 k0 x2.Roles x2.Decls [(1,.B 4 0),(2,.B 5 0),(4,.B 10 0),(5,.S 12),(6,.S 28),(8,.I C),(11,.B 26 0),(49,.S 20),(50,.I (G.length:Int)),(51,.I b0),(88,.O st)])) (fun st=>z21_k6 g_ q C X Y b0 (z21_l4 g_ q (z21_l2 N g_ x2 n12) C G n14) e0 j0 k0 st=some r) ?_ (fun j128=>?_)
    ·intro l0 h
     replace h:z21_k6 g_ q C X Y b0 (z21_l4 g_ q (z21_l2 N g_ x2 n12) C G n14) e0 j0 k0 l0=some r:=h
     unfold z21_k6 at h
     refine wC (σ:=(List T8)) (fun st=>⟨[(1,.B 4 0),(2,.B 5 0),(4,.B 10 0),(5,.S 12),(6,.S 28),(8,.I C),(11,.B 26 0),(49,.S 20),(50,.I (G.length:Int)),(51,.I b0)],[(4,.box (cC4 0 1 2 3 g_) 27),(5,.box [.s (str []),.nil,.nil,.I 0,.I 0,.I 0,.nil,.nil] 27),(10,.box [.s x2.Name,.sl 6,.sl 7,.I q,.I x2.Start,.I x2.End,.sl 21,.sl 29] 27),(12,.own (rI .i64) j0 true),(20,.own (rI .i64) G true),(21,.own rR2 X true),(26,.box (cC2 e0) 43),(28,.own (rI .i64) k0 true),(29,.own rR8 st true)],(vV4 0 1 2 3 g_ [(6,.sl rS x2.Roles),(7,.sl rR0 x2.Decls)]),30⟩) (fun st=>z21_k5 q X b0 (z21_l4 g_ q (z21_l2 N g_ x2 n12) C G n14) e0 j0 k0 st=some r) ?_ (fun j129=>?_)
     ·intro m0 h
      replace h:z21_k5 q X b0 (z21_l4 g_ q (z21_l2 N g_ x2 n12) C G n14) e0 j0 k0 m0=some r:=h
      unfold z21_k5 at h
      refine wN (fun o0 p0 q0=>?_)
      have s0:o0 0 (zz57 [(4,.B 10 0)] [(106,.B 10 6)]):=p0 _ _ (wl J Q Q Q Q Q Q)
      have t0:o0 1 (zz169 x2.Roles x2.Decls x2.Name q x2.Start x2.End [(106,.B 10 6)] [(107,.S 21)]):=p0 _ _ (wl J Q Q Q Q Q Q)
      have u0:o0 2 (zz57 [(4,.B 10 0)] [(108,.B 10 3)]):=p0 _ _ (wl J Q Q Q Q Q Q)
      have v0:o0 3 (zz169 x2.Roles x2.Decls x2.Name q x2.Start x2.End [(108,.B 10 3)] [(109,.I q)]):=p0 _ _ (wl J Q Q Q Q Q Q)
      have x0:o0 4 (zz57 [(11,.B 26 0)] [(110,.B 26 1)]):=p0 _ _ (wl J Q Q Q Q Q Q)
      have y0:o0 5 ⟨[(110,.B 26 1)],[],[],[(26,.box (cC2 e0) 43)],30,[(111,.a (cC6 e0.Act))],[],[],30⟩:=p0 _ _ (wl J Q Q Q Q Q Q)
      have z0:o0 6 (zz57 [(5,.S 12)] [(112,.S 12)]):=p0 _ _ (wl J Q Q Q Q Q Q)
      have A0:o0 7 (zz57 [(11,.B 26 0)] [(113,.B 26 4)]):=p0 _ _ (wl J Q Q Q Q Q Q)
      have B0:o0 8 ⟨[(113,.B 26 4)],[],[],[(26,.box (cC2 e0) 43)],30,[(114,.I e0.To)],[],[],30⟩:=p0 _ _ (wl J Q Q Q Q Q Q)
      obtain ⟨C0,D0,h⟩:=ob h
      have G0:o0 9 ⟨[(112,.S 12),(114,.I e0.To)],[],[],[(12,.own (rI .i64) j0 true)],30,[(115,.P 30 0)],[(30,.el 12 ((e0.To).toNat * ((rI .i64)).sz))],[],31⟩:=p0 _ _ (wO Q Q Q (fun _ _ _ _ _ _ _ k=>wX J D0 Q Q Q Q Q Q Q Q Q (k)) rfl)
      have H0:o0 10 ⟨[(115,.P 30 0)],[(30,.el 12 ((e0.To).toNat * ((rI .i64)).sz))],[],[(12,.own (rI .i64) j0 true)],31,[(116,.I C0)],[],[],31⟩:=p0 _ _ (wO Q Q Q (fun _ _ _ _ _ _ _ k=>wL (oI .i64) J D0 Q Q Q Q Q Q Q Q Q Q (k)) rfl)
      have I0:o0 11 ⟨[(11,.B 26 0)],[],[],[],31,[(117,.B 26 5)],[],[],31⟩:=p0 _ _ (wl J Q Q Q Q Q Q)
      have K0:o0 12 ⟨[(117,.B 26 5)],[],[],[(26,.box (cC2 e0) 43)],31,[(118,.O e0.Again)],[],[],31⟩:=p0 _ _ (wl J Q Q Q Q Q Q)
      have L0:o0 13 ⟨[(109,.I q),(111,.a (cC6 e0.Act)),(116,.I C0),(118,.O e0.Again)],[],[],[],31,[(119,.a [.I q,.I e0.Act.From,.I e0.Act.To,.I e0.Act.Label,.I C0,.b e0.Again])],[],[],31⟩:=p0 _ _ (wl J Q Q Q Q Q Q)
      have M0:o0 14 ⟨[(119,.a [.I q,.I e0.Act.From,.I e0.Act.To,.I e0.Act.Label,.I C0,.b e0.Again])],[],[],[],31,[(120,.S 31)],[],[(31,.own rR2 ([(⟨q,e0.Act,C0,e0.Again⟩:T2)]:List T2) true)],32⟩:=p0 _ _ (wO Q Q Q (fun _ _ _ _ _ _ _ k=>WPr.bs (cs:=[.I q,.I e0.Act.From,.I e0.Act.To,.I e0.Act.Label,.I C0,.b e0.Again]) oO2 J ([(⟨q,e0.Act,C0,e0.Again⟩:T2)]:List T2) Q Q Q Q Q Q (by kernel_rfl) (by exact (an (an rfl (an (an rfl (an Q Q)) (an Q Q))) rfl)) rfl (k)) rfl)
      obtain ⟨O0,R0,h⟩:=ob h
      have S0:o0 15 ⟨[(107,.S 21),(120,.S 31)],[],[(21,.own rR2 X true)],[(31,.own rR2 ([(⟨q,e0.Act,C0,e0.Again⟩:T2)]:List T2) true)],32,[(121,.S 32)],[],[(21,.gone),(32,.own rR2 O0 true)],33⟩:=p0 _ _ (wO Q Q Q (fun _ _ _ _ _ _ _ k=>WPr.app J R0 (by exact (srcO rfl)) Q Q Q Q Q Q Q Q Q Q (k)) rfl)
      have T0:o0 16 ⟨[(4,.B 10 0)],[],[],[],33,[(122,.B 10 6)],[],[],33⟩:=p0 _ _ (wl J Q Q Q Q Q Q)
      have U0:o0 17 ⟨[(121,.S 32),(122,.B 10 6)],[(6,.sl rS x2.Roles),(7,.sl rR0 x2.Decls)],[(10,.box [.s x2.Name,.sl 6,.sl 7,.I q,.I x2.Start,.I x2.End,.sl 21,.sl 29] 27)],[(32,.own rR2 O0 true)],33,[],[],[(10,.box [.s x2.Name,.sl 6,.sl 7,.I q,.I x2.Start,.I x2.End,.sl 32,.sl 29] 27)],33⟩:=p0 _ _ (wl J Q Q Q Q Q Q)
      exact wD (t:=⟨[(1,.B 4 0),(2,.B 5 0),(4,.B 10 0),(5,.S 12),(6,.S 28),(8,.I C),(49,.S 20),(50,.I (G.length:Int)),(51,.I b0)],[(4,.box (cC4 0 1 2 3 g_) 27),(5,.box [.s (str []),.nil,.nil,.I 0,.I 0,.I 0,.nil,.nil] 27),(10,.box [.s x2.Name,.sl 6,.sl 7,.I q,.I x2.Start,.I x2.End,.sl 32,.sl 29] 27),(12,.own (rI .i64) j0 true),(20,.own (rI .i64) G true),(28,.own (rI .i64) k0 true),(29,.own rR8 m0 true),(32,.own rR2 O0 true)],(vV4 0 1 2 3 g_ [(6,.sl rS x2.Roles),(7,.sl rR0 x2.Decls)]),33⟩) [0,1,0,4,0,16,0,0,128,448,960,0,2048,8188,16380,32767,65535,131071] (.cons (q0 _ _ s0) (.cons (q0 _ _ t0) (.cons (q0 _ _ u0) (.cons (q0 _ _ v0) (.cons (q0 _ _ x0) (.cons (q0 _ _ y0) (.cons (q0 _ _ z0) (.cons (q0 _ _ A0) (.cons (q0 _ _ B0) (.cons (q0 _ _ G0) (.cons (q0 _ _ H0) (.cons (q0 _ _ I0) (.cons (q0 _ _ K0) (.cons (q0 _ _ L0) (.cons (q0 _ _ M0) (.cons (q0 _ _ S0) (.cons (q0 _ _ T0) (.cons (q0 _ _ U0) .nil)))))))))))))))))) (by kernel_rfl) (by kernel_rfl) (by kernel_rfl) (by kernel_rfl) (wb (wg (ws J 2 Q (wn (wu [(21,.sl 32),(22,.sl 29),(23,.sl 28)] (ih120 (O0,m0,j0,k0,(w64 (b0+1))) h) Q Q Q Q)))))
     rcases oc' h with ⟨hc,h⟩ | ⟨hc,h⟩
     ·exact wf hc Q (wi (wu [(29,.sl 22)] (j129 Y h) Q Q Q Q))
     refine wt hc Q (wN (fun V0 X0 Y0=>?_))
     have Z0:V0 0 (zz106 [(4,.B 10 0)] [(89,.B 10 7)]):=X0 _ _ (wl J Q Q Q Q Q Q)
     have a1:V0 1 (zz170 x2.Roles x2.Decls x2.Name q x2.Start x2.End [(89,.B 10 7)] [(90,.S 22)]):=X0 _ _ (wl J Q Q Q Q Q Q)
     have b1:V0 2 (zz106 [(4,.B 10 0)] [(91,.B 10 3)]):=X0 _ _ (wl J Q Q Q Q Q Q)
     have c1:V0 3 (zz170 x2.Roles x2.Decls x2.Name q x2.Start x2.End [(91,.B 10 3)] [(92,.I q)]):=X0 _ _ (wl J Q Q Q Q Q Q)
     have d1:V0 4 (zz106 [(1,.B 4 0)] [(93,.B 4 7)]):=X0 _ _ (wl J Q Q Q Q Q Q)
     have e1:V0 5 ⟨[(93,.B 4 7)],(vV4 0 1 2 3 g_ []),[],[(4,.box (cC4 0 1 2 3 g_) 27)],29,[(94,.S 3)],[],[],29⟩:=X0 _ _ (wl J Q Q Q Q Q Q)
     have f1:V0 6 (zz106 [(8,.I C)] [(95,.I C)]):=X0 _ _ (wl J Q Q Q Q Q Q)
     obtain ⟨g1,i1,h⟩:=ob h
     have k1:V0 7 ⟨[(94,.S 3),(95,.I C)],[(3,.sl rR8 g_.Timeouts)],[],[],29,[(96,.P 29 0)],[(29,.pl (cC8 g1))],[],30⟩:=X0 _ _ (wO Q Q Q (fun _ _ _ _ _ _ _ k=>wj oO8 J i1 Q Q Q Q Q Q Q Q Q (k)) rfl)
     have l1:V0 8 ⟨[(96,.P 29 0)],[(29,.pl (cC8 g1))],[],[],30,[(97,.P 29 1)],[],[],30⟩:=X0 _ _ (wl J Q Q Q Q Q Q)
     have m1:V0 9 ⟨[(97,.P 29 1)],[(29,.pl (cC8 g1))],[],[],30,[(98,.I g1.Ticks)],[],[],30⟩:=X0 _ _ (wl J Q Q Q Q Q Q)
     have o1:V0 10 (zz57 [(4,.B 10 0)] [(99,.B 10 6)]):=X0 _ _ (wl J Q Q Q Q Q Q)
     have p1:V0 11 ⟨[(99,.B 10 6)],[(6,.sl rS x2.Roles),(7,.sl rR0 x2.Decls)],[],[(10,.box [.s x2.Name,.sl 6,.sl 7,.I q,.I x2.Start,.I x2.End,.sl 21,.sl 22] 27)],30,[(100,.S 21)],[],[],30⟩:=X0 _ _ (wl J Q Q Q Q Q Q)
     have q1:V0 12 ⟨[(100,.S 21)],[],[],[(21,.own rR2 X true)],30,[(101,.I (X.length:Int))],[],[],30⟩:=X0 _ _ (wl J Q Q Q Q Q Q)
     have s1:V0 13 (zz57 [(92,.I q),(98,.I g1.Ticks),(101,.I (X.length:Int))] [(102,.a [.I q,.I g1.Ticks,.I (X.length:Int)])]):=X0 _ _ (wl J Q Q Q Q Q Q)
     have t1:V0 14 ⟨[(102,.a [.I q,.I g1.Ticks,.I (X.length:Int)])],[],[],[],30,[(103,.S 30)],[],[(30,.own rR8 ([(⟨q,g1.Ticks,(X.length:Int)⟩:T8)]:List T8) true)],31⟩:=X0 _ _ (wO Q Q Q (fun _ _ _ _ _ _ _ k=>WPr.bs (cs:=[.I q,.I g1.Ticks,.I (X.length:Int)]) oO8 J ([(⟨q,g1.Ticks,(X.length:Int)⟩:T8)]:List T8) Q Q Q Q Q Q (by kernel_rfl) (by exact (an (an rfl (an Q Q)) rfl)) rfl (k)) rfl)
     obtain ⟨u1,v1,h⟩:=ob h
     have y1:V0 15 ⟨[(90,.S 22),(103,.S 30)],[],[(22,.own rR8 Y true)],[(30,.own rR8 ([(⟨q,g1.Ticks,(X.length:Int)⟩:T8)]:List T8) true)],31,[(104,.S 31)],[],[(22,.gone),(31,.own rR8 u1 true)],32⟩:=X0 _ _ (wO Q Q Q (fun _ _ _ _ _ _ _ k=>WPr.app J v1 (by exact (srcO rfl)) Q Q Q Q Q Q Q Q Q Q (k)) rfl)
     have z1:V0 16 ⟨[(4,.B 10 0)],[],[],[],32,[(105,.B 10 7)],[],[],32⟩:=X0 _ _ (wl J Q Q Q Q Q Q)
     have A1:V0 17 ⟨[(104,.S 31),(105,.B 10 7)],[(6,.sl rS x2.Roles),(7,.sl rR0 x2.Decls)],[(10,.box [.s x2.Name,.sl 6,.sl 7,.I q,.I x2.Start,.I x2.End,.sl 21,.sl 22] 27)],[(31,.own rR8 u1 true)],32,[],[],[(10,.box [.s x2.Name,.sl 6,.sl 7,.I q,.I x2.Start,.I x2.End,.sl 21,.sl 31] 27)],32⟩:=X0 _ _ (wl J Q Q Q Q Q Q)
     exact wD (t:=⟨[(1,.B 4 0),(2,.B 5 0),(4,.B 10 0),(5,.S 12),(6,.S 28),(8,.I C),(11,.B 26 0),(49,.S 20),(50,.I (G.length:Int)),(51,.I b0)],[(4,.box (cC4 0 1 2 3 g_) 27),(5,.box [.s (str []),.nil,.nil,.I 0,.I 0,.I 0,.nil,.nil] 27),(10,.box [.s x2.Name,.sl 6,.sl 7,.I q,.I x2.Start,.I x2.End,.sl 21,.sl 31] 27),(12,.own (rI .i64) j0 true),(20,.own (rI .i64) G true),(21,.own rR2 X true),(26,.box (cC2 e0) 43),(28,.own (rI .i64) k0 true),(31,.own rR8 u1 true)],(vV4 0 1 2 3 g_ [(6,.sl rS x2.Roles),(7,.sl rR0 x2.Decls)]),32⟩) [0,1,0,4,0,16,0,112,240,496,0,1024,3072,8188,16380,32767,65535,131071] (.cons (Y0 _ _ Z0) (.cons (Y0 _ _ a1) (.cons (Y0 _ _ b1) (.cons (Y0 _ _ c1) (.cons (Y0 _ _ d1) (.cons (Y0 _ _ e1) (.cons (Y0 _ _ f1) (.cons (Y0 _ _ k1) (.cons (Y0 _ _ l1) (.cons (Y0 _ _ m1) (.cons (Y0 _ _ o1) (.cons (Y0 _ _ p1) (.cons (Y0 _ _ q1) (.cons (Y0 _ _ s1) (.cons (Y0 _ _ t1) (.cons (Y0 _ _ y1) (.cons (Y0 _ _ z1) (.cons (Y0 _ _ A1) .nil)))))))))))))))))) (by kernel_rfl) (by kernel_rfl) (by kernel_rfl) (by kernel_rfl) (wu [(29,.sl 31)] (j129 u1 h) Q Q Q Q)
    rcases oc' h with ⟨hc,h⟩ | ⟨hc,h⟩
    ·exact wy 79 hc Q (wx (zz80 g_ x2.Name q x2.Start x2.End j0 G X Y e0 k0 x2.Roles x2.Decls [(1,.B 4 0),(2,.B 5 0),(4,.B 10 0),(5,.S 12),(6,.S 28),(8,.I C),(11,.B 26 0),(49,.S 20),(50,.I (G.length:Int)),(51,.I b0),(88,.O false)]) J 9 (wn (wu [] (j128 false h) Q Q Q Q)))
    refine wy 79 hc Q (xw (rg 6 6) (zz80 g_ x2.Name q x2.Start x2.End j0 G X Y e0 k0 x2.Roles x2.Decls [(1,.B 4 0),(2,.B 5 0),(4,.B 10 0),(5,.S 12),(6,.S 28),(8,.I C),(10,.I c0),(11,.B 26 0),(49,.S 20),(50,.I (G.length:Int)),(51,.I b0),(79,.O true),(81,.S 3),(82,.I C)]) J 3 ?_)
    obtain ⟨B1,C1,h⟩:=ob h
    exact wj oO8 J C1 Q Q Q Q Q Q Q Q Q (wx ⟨[(1,.B 4 0),(2,.B 5 0),(4,.B 10 0),(5,.S 12),(6,.S 28),(8,.I C),(11,.B 26 0),(49,.S 20),(50,.I (G.length:Int)),(51,.I b0),(88,.O (B1.Else==c0))],[(4,.box (cC4 0 1 2 3 g_) 27),(5,.box [.s (str []),.nil,.nil,.I 0,.I 0,.I 0,.nil,.nil] 27),(10,.box [.s x2.Name,.sl 6,.sl 7,.I q,.I x2.Start,.I x2.End,.sl 21,.sl 22] 27),(12,.own (rI .i64) j0 true),(20,.own (rI .i64) G true),(21,.own rR2 X true),(22,.own rR8 Y true),(26,.box (cC2 e0) 43),(28,.own (rI .i64) k0 true)],(vV4 0 1 2 3 g_ [(6,.sl rS x2.Roles),(7,.sl rR0 x2.Decls)]),30⟩ J 5 (wn (wu [] (j128 (B1.Else==c0) h) Q Q Q Q)))
   rcases oc' h with ⟨hc,h⟩ | ⟨hc,h⟩
   ·exact wf hc Q (wi (wu [(28,.sl 23)] (j127 (Z,a0) h) Q Q Q Q))
   refine wt hc Q (wq (wg (xw [5,6] (zz168 g_ x2.Name q x2.Start x2.End Z G X Y a0 e0 x2.Roles x2.Decls [(1,.B 4 0),(2,.B 5 0),(4,.B 10 0),(5,.S 12),(6,.S 23),(8,.I C),(10,.I c0),(11,.B 26 0),(49,.S 20),(50,.I (G.length:Int)),(51,.I b0),(66,.S 12),(68,.I e0.To),(70,.I (a0.length:Int))]) J 5 ?_)))
   obtain ⟨D1,G1,h⟩:=ob h
   refine wX J G1 Q Q Q Q Q Q Q Q Q (WPr.sto (oI .i64) J (a0.length:Int) G1 Q Q Q Q Q Q Q Q Q Q (by exact rfl) rfl (wn (wg (xw [3,4,5] ⟨[(1,.B 4 0),(2,.B 5 0),(4,.B 10 0),(5,.S 12),(8,.I C),(10,.I c0),(11,.B 26 0),(49,.S 20),(50,.I (G.length:Int)),(51,.I b0),(72,.S 23),(74,.I e0.To)],[(4,.box (cC4 0 1 2 3 g_) 27),(5,.box [.s (str []),.nil,.nil,.I 0,.I 0,.I 0,.nil,.nil] 27),(10,.box [.s x2.Name,.sl 6,.sl 7,.I q,.I x2.Start,.I x2.End,.sl 21,.sl 22] 27),(12,.own (rI .i64) (setL' Z e0.To (a0.length:Int)) true),(20,.own (rI .i64) G true),(21,.own rR2 X true),(22,.own rR8 Y true),(23,.own (rI .i64) a0 true),(26,.box (cC2 e0) 43)],(vV4 0 1 2 3 g_ [(6,.sl rS x2.Roles),(7,.sl rR0 x2.Decls)]),29⟩ J 3 (WPr.bs (cs:=[.I e0.To]) (oI .i64) J ([e0.To]:List Int) Q Q Q Q Q Q (by kernel_rfl) (by exact (an Q Q)) rfl ?_)))))
   obtain ⟨H1,I1,h⟩:=ob h
   exact WPr.app J I1 (by exact (srcO rfl)) Q Q Q Q Q Q Q Q Q Q (wx ⟨[(1,.B 4 0),(2,.B 5 0),(4,.B 10 0),(5,.S 12),(6,.S 30),(8,.I C),(10,.I c0),(11,.B 26 0),(49,.S 20),(50,.I (G.length:Int)),(51,.I b0)],[(4,.box (cC4 0 1 2 3 g_) 27),(5,.box [.s (str []),.nil,.nil,.I 0,.I 0,.I 0,.nil,.nil] 27),(10,.box [.s x2.Name,.sl 6,.sl 7,.I q,.I x2.Start,.I x2.End,.sl 21,.sl 22] 27),(12,.own (rI .i64) (setL' Z e0.To (a0.length:Int)) true),(20,.own (rI .i64) G true),(21,.own rR2 X true),(22,.own rR8 Y true),(26,.box (cC2 e0) 43),(30,.own (rI .i64) H1 true)],(vV4 0 1 2 3 g_ [(6,.sl rS x2.Roles),(7,.sl rR0 x2.Decls)]),31⟩ J 1 (wn (wu [(28,.sl 30)] (j127 ((setL' Z e0.To (a0.length:Int)),H1) h) Q Q Q Q)))
  exact wu [(21,.sl 15),(22,.sl 16),(23,.sl 17)] (ih N (u,v,x,y,0) h) Q Q Q Q
 exact wu [(15,.sl 8),(16,.sl 9),(17,.sl 14)] (ih N (x2.States,x2.Edges,x2.Timeouts,(setL' x3 g_.Start 0),([g_.Start]:List Int)) h) Q Q Q Q
theorem z82_ct (N:Nat) (b_:(List Int)) (n_:Int) (r:(List Int)) (h:z82 N b_ n_=some r) :
 Fn Tryz.prog 82 ⟨1,[.S 0,.I n_],[],[(0,.own (rI .u8) b_ false)],2,.S 1,[],[(1,.own (rI .u8) r false),(0,.gone)]⟩:=by
 refine Fn.intro _ _ Tryz.func82 rfl (by kernel_rfl) rfl (fun E F w=>?_)
 unfold z82 at h
 refine wq (wg (ws J 1 Q (wn (wq (wg (xw (rg 2 6) (zz81 b_ [(0,.S 0),(1,.I n_),(4,.c .nil),(7,.c (.i .u64 (wk .u64 (n_))))]) J 2 ?_))))))
 obtain ⟨x1,d,h⟩:=ob h
 refine WPr.bin d Q Q Q Q Q Q Q Q (ws J 1 Q ?_)
 obtain ⟨x2,e,h⟩:=ob h
 refine WPr.bin e Q Q Q Q Q Q Q Q (xw [6,7] (zz81 b_ [(0,.S 0),(4,.c .nil),(8,.c (.i .u64 x1)),(11,.c (.i .u64 (wk .u64 (x2))))]) J 1 ?_)
 obtain ⟨x3,f,h⟩:=ob h
 refine WPr.bin f Q Q Q Q Q Q Q Q (ws J 1 Q (wn (wq ?_)))
 refine wC (σ:=(List Int) × Int) (fun st=>(zz82 st.1 [(0,.S 1),(5,.c (.i .u64 st.2))])) (fun st=>z82_k1 st.1 st.2=some r) ?_ (fun j1=>?_)
 ·rintro ⟨g,j⟩ h
  replace h:z82_k1 g j=some r:=h
  unfold z82_k1 at h
  refine wq (wg (xw [3,4,5] (zz82 g [(23,.S 1),(25,.c (.i .u8 (wk .u8 (j))))]) J 3 (WPr.bs (cs:=[.i .u8 (wk .u8 (j))]) (oI .u8) J ([(wk .u8 (j))]:List Int) Q Q Q Q Q Q (by kernel_rfl) (by exact (an Q Q)) rfl ?_)))
  obtain ⟨k,l,h⟩:=ob h
  refine WPr.app J l (by exact (srcO rfl)) Q Q Q Q Q Q Q Q Q Q (wx ⟨[(4,.S 3)],[(3,.own (rI .u8) k false)],[],4⟩ J 1 (wn ?_))
  cases h
  exact we J Tryz.func82 [(1,.sl 3)] Q Q Q Q
 refine wo ?_
 refine wI (σ:=(List Int) × Int) (fun st=>(zz82 st.1 [(0,.S 1),(5,.c (.i .u64 st.2))])) (fun n st=>z82_l2 n st.1 st.2) (r:=r) (fun _=>rfl) ?_ (fun ih=>?_)
 ·intro n2 ih3
  rintro ⟨m,o⟩ h
  replace h:z82_l2 (n2+1) m o=some r:=h
  unfold z82_l2 at h
  refine wq (wq (wg (ws J 2 Q (wn ?_))))
  rcases oc' h with ⟨hc,h⟩ | ⟨hc,h⟩
  ·exact wf hc Q (wz rfl (wu [] (j1 (m,o) h) Q Q Q Q))
  refine wt hc Q (wi (wo (wq (wg (xw [3,4,5,6] (zz82 m [(5,.c (.i .u64 o)),(15,.S 1),(17,.c (.i .u8 (wk .u8 (o))))]) J 3 ?_)))))
  obtain ⟨p,q,h⟩:=ob h
  refine WPr.bin q Q Q Q Q Q Q Q Q (WPr.bs (cs:=[.i .u8 p]) (oI .u8) J ([p]:List Int) Q Q Q Q Q Q (by kernel_rfl) (by exact (an Q Q)) rfl ?_)
  obtain ⟨s,t,h⟩:=ob h
  refine WPr.app J t (by exact (srcO rfl)) Q Q Q Q Q Q Q Q Q Q (wx ⟨[(0,.S 3),(5,.c (.i .u64 o))],[(3,.own (rI .u8) s false)],[],4⟩ J 1 (wn (wg (ws J 1 Q ?_))))
  obtain ⟨u,v,h⟩:=ob h
  exact WPr.bin v Q Q Q Q Q Q Q Q (wx ⟨[(0,.S 3),(5,.c (.i .u64 u))],[(3,.own (rI .u8) s false)],[],4⟩ J 1 (wn (wb (wu [(1,.sl 3)] (ih3 (s,u) h) Q Q Q Q))))
 exact wu [(1,.sl 0)] (ih N (b_,x3) h) Q Q Q Q
theorem z83_ct (N:Nat) (b_:(List Int)) (s_:ByteArray) (r:(List Int)) (h:z83 N b_ s_=some r) :
 Fn Tryz.prog 83 ⟨1,[.S 0,.c (.s s_)],[],[(0,.own (rI .u8) b_ false)],2,.S 1,[],[(1,.own (rI .u8) r false),(0,.gone)]⟩:=by
 refine Fn.intro _ _ Tryz.func83 rfl (by kernel_rfl) rfl (fun E F w=>?_)
 unfold z83 at h
 refine wq (wg (ws J 1 Q (wn (wq (wg (xw [3,4,5,6] (zz81 b_ [(1,.c (.s s_)),(5,.S 0),(7,.I (s_.size:Int))]) J 3 ?_))))))
 obtain ⟨x1,d,h⟩:=ob h
 refine wc (z82_ct N b_ (s_.size:Int) _ d) [(0,.sl 0)] [] Q Q Q Q Q Q Q Q (.inl rfl) rfl (xw [5,6] (zz82 x1 [(8,.S 1),(9,.c (.s s_))]) J 1 ?_)
 obtain ⟨x2,e,h⟩:=ob h
 refine WPr.app J e (by exact srcS) Q Q Q Q Q Q Q Q Q Q (wx ⟨[(4,.S 2)],[(2,.own (rI .u8) x2 false)],[],3⟩ J 1 (wn ?_))
 cases h
 exact we J Tryz.func83 [(1,.sl 2)] Q Q Q Q
theorem z85_ct (N:Nat) (b_:(List Int)) (l_:(List Int)) (r:(List Int)) (h:z85 N b_ l_=some r) :
 Fn Tryz.prog 85 ⟨2,[.S 0,.S 1],[(1,.sl (rI .i64) l_)],[(0,.own (rI .u8) b_ false)],3,.S 2,[],[(2,.own (rI .u8) r false),(0,.gone)]⟩:=by
 refine Fn.intro _ _ Tryz.func85 rfl (by kernel_rfl) rfl (fun E F w=>?_)
 unfold z85 at h
 refine wq (wg (ws J 1 Q (wn (wq (wq (wg (wx ⟨[(0,.S 0),(4,.c .nil),(7,.S 1),(8,.I (l_.length:Int)),(9,.I 0)],[(0,.own (rI .u8) b_ false)],[(1,.sl (rI .i64) l_)],2⟩ J 3 (wn ?_))))))))
 refine wC (σ:=(List Int)) (fun st=>⟨[(0,.S 2)],[(2,.own (rI .u8) st false)],[(1,.sl (rI .i64) l_)],3⟩) (fun st=>z85_k1 st=some r) ?_ (fun j1=>?_)
 ·intro d h
  replace h:z85_k1 d=some r:=h
  unfold z85_k1 at h
  refine wq (wg (ws J 2 Q (wn ?_)))
  cases h
  exact we J Tryz.func85 [(2,.sl 2)] Q Q Q Q
 refine wo ?_
 refine wI (σ:=(List Int) × Int) (fun st=>⟨[(0,.S 2),(7,.S 1),(8,.I (l_.length:Int)),(9,.I st.2)],[(2,.own (rI .u8) st.1 false)],[(1,.sl (rI .i64) l_)],3⟩) (fun n st=>z85_l2 N l_ n st.1 st.2) (r:=r) (fun _=>rfl) ?_ (fun ih=>?_)
 ·intro n2 ih3
  rintro ⟨e,f⟩ h
  replace h:z85_l2 N l_ (n2+1) e f=some r:=h
  unfold z85_l2 at h
  refine wq (wg (ws J 1 Q (wn (wq ?_))))
  rcases oc' h with ⟨hc,h⟩ | ⟨hc,h⟩
  ·exact wf hc Q (wz rfl (wu [] (j1 e h) Q Q Q Q))
  refine wt hc Q (wi (wq (wo (wq (wg ?_)))))
  obtain ⟨g,i,h⟩:=ob h
  refine wj (oI .i64) J i Q Q Q Q Q Q Q Q Q (wx ⟨[(0,.S 2),(6,.I g),(7,.S 1),(8,.I (l_.length:Int)),(9,.I f)],[(2,.own (rI .u8) e false)],[(1,.sl (rI .i64) l_)],4⟩ J 2 (wn (wg (ws J 2 Q ?_))))
  obtain ⟨j,k,h⟩:=ob h
  exact wc (z82_ct N e g _ k) [(0,.sl 2)] [] Q Q Q Q Q Q Q Q (.inl rfl) rfl (wx ⟨[(0,.S 4),(7,.S 1),(8,.I (l_.length:Int)),(9,.I f)],[(4,.own (rI .u8) j false)],[(1,.sl (rI .i64) l_)],5⟩ J 1 (wn (wb (wg (ws J 2 Q (wn (wu [(2,.sl 4)] (ih3 (j,(w64 (f+1))) h) Q Q Q Q)))))))
 exact wu [(2,.sl 0)] (ih N (b_,0) h) Q Q Q Q
theorem z84_ct (N:Nat) (b_:(List Int)) (d_:T0) (r:(List Int)) (h:z84 N b_ d_=some r) :
 Fn Tryz.prog 84 ⟨4,[.S 0,.a (cC0 1 2 3 d_)],(vV0 1 2 3 d_ []),[(0,.own (rI .u8) b_ false)],5,.S 4,[],[(4,.own (rI .u8) r false),(0,.gone)]⟩:=by
 refine Fn.intro _ _ Tryz.func84 rfl (by kernel_rfl) rfl (fun E F w=>?_)
 unfold z84 at h
 refine wq (wg (ws J 2 Q (wn (wq (wN (fun A1 d e=>?_))))))
 have f:A1 0 (zz50 [(0,.S 0)] [(11,.S 0)]):=d _ _ (wl J Q Q Q Q Q Q)
 have g:A1 1 (zz50 [(3,.B 4 0)] [(12,.B 4 0)]):=d _ _ (wl J Q Q Q Q Q Q)
 have i:A1 2 ⟨[(12,.B 4 0)],(vV0 1 2 3 d_ []),[],[(4,.box (cC0 1 2 3 d_) 94)],5,[(13,.c (.s d_.Name))],[],[],5⟩:=d _ _ (wl J Q Q Q Q Q Q)
 obtain ⟨x4,j,h⟩:=ob h
 have l:A1 3 ⟨[(11,.S 0),(13,.c (.s d_.Name))],[],[(0,.own (rI .u8) b_ false)],[],5,[(14,.S 5)],[],[(0,.gone),(5,.own (rI .u8) x4 false)],6⟩:=d _ _ (wO Q Q Q (fun _ _ _ _ _ _ _ k=>wc (z83_ct N b_ d_.Name _ j) [(0,.sl 0)] [] Q Q Q Q Q Q Q Q (.inl rfl) rfl (k)) rfl)
 have m:A1 4 (zz3 [(3,.B 4 0)] [(15,.B 4 1)]):=d _ _ (wl J Q Q Q Q Q Q)
 have o:A1 5 ⟨[(15,.B 4 1)],(vV0 1 2 3 d_ []),[],[(4,.box (cC0 1 2 3 d_) 94)],6,[(16,.S 1)],[],[],6⟩:=d _ _ (wl J Q Q Q Q Q Q)
 have p:A1 6 ⟨[(16,.S 1)],[(1,.sl rR3 d_.Fields)],[],[],6,[(17,.I (d_.Fields.length:Int))],[],[],6⟩:=d _ _ (wl J Q Q Q Q Q Q)
 obtain ⟨x9,q,h⟩:=ob h
 have u:A1 7 ⟨[(14,.S 5),(17,.I (d_.Fields.length:Int))],[],[(5,.own (rI .u8) x4 false)],[],6,[(18,.S 6)],[],[(5,.gone),(6,.own (rI .u8) x9 false)],7⟩:=d _ _ (wO Q Q Q (fun _ _ _ _ _ _ _ k=>wc (z82_ct N x4 (d_.Fields.length:Int) _ q) [(0,.sl 5)] [] Q Q Q Q Q Q Q Q (.inl rfl) rfl (k)) rfl)
 have v:A1 8 (zz4 [(18,.S 6)] [(0,.S 6)]):=d _ _ (wl J Q Q Q Q Q Q)
 refine wD (t:=⟨[(0,.S 6),(3,.B 4 0),(4,.c .nil)],[(4,.box (cC0 1 2 3 d_) 94),(6,.own (rI .u8) x9 false)],(vV0 1 2 3 d_ []),7⟩) [0,0,2,7,0,16,48,127,255] (.cons (e _ _ f) (.cons (e _ _ g) (.cons (e _ _ i) (.cons (e _ _ l) (.cons (e _ _ m) (.cons (e _ _ o) (.cons (e _ _ p) (.cons (e _ _ u) (.cons (e _ _ v) .nil))))))))) (by kernel_rfl) (by kernel_rfl) (by kernel_rfl) (by kernel_rfl) (wq (wq (wg (wx ⟨[(0,.S 6),(3,.B 4 0),(4,.c .nil),(20,.S 1),(21,.I (d_.Fields.length:Int)),(22,.I 0)],[(4,.box (cC0 1 2 3 d_) 94),(6,.own (rI .u8) x9 false)],(vV0 1 2 3 d_ []),7⟩ J 4 (wn ?_)))))
 refine wC (σ:=(List Int)) (fun st=>(zz128 d_ st [(0,.S 7),(3,.B 4 0)])) (fun st=>z84_k5 N d_ st=some r) ?_ (fun j1=>?_)
 ·intro x h
  replace h:z84_k5 N d_ x=some r:=h
  unfold z84_k5 at h
  refine wq (wg (xw [7,8,9] (zz128 d_ x [(3,.B 4 0),(42,.S 7),(44,.I d_.First),(48,.I (d_.Guard.Diffs.length:Int))]) J 7 (WPr.bs (cs:=[.I d_.First,.I (d_.Guard.Diffs.length:Int)]) (oI .i64) J ([d_.First,(d_.Guard.Diffs.length:Int)]:List Int) Q Q Q Q Q Q (by kernel_rfl) (by exact (an rfl (an Q Q))) rfl ?_)))
  obtain ⟨y,z,h⟩:=ob h
  refine wc (z85_ct N x ([d_.First,(d_.Guard.Diffs.length:Int)]:List Int) _ z) [(0,.sl 7),(1,.sl 8)] [8] Q Q Q Q Q Q Q Q (.inr ⟨rfl,⟨(rI_flat _),trivial⟩⟩) rfl (wx ⟨[(0,.S 9),(3,.B 4 0)],[(4,.box (cC0 1 2 3 d_) 94),(9,.own (rI .u8) y false)],(vV0 1 2 3 d_ []),10⟩ J 1 (wn (wq (wq (wg (wx ⟨[(0,.S 9),(3,.B 4 0),(53,.S 2),(54,.I (d_.Guard.Diffs.length:Int)),(55,.I 0)],[(4,.box (cC0 1 2 3 d_) 94),(9,.own (rI .u8) y false)],(vV0 1 2 3 d_ []),10⟩ J 5 (wn ?_)))))))
  refine wC (σ:=(List Int)) (fun st=>(zz129 d_ st [(0,.S 10),(3,.B 4 0)])) (fun st=>z84_k3 N d_ st=some r) ?_ (fun j3=>?_)
  ·intro A h
   replace h:z84_k3 N d_ A=some r:=h
   unfold z84_k3 at h
   refine wq (wg (xw [5,6] (zz129 d_ A [(3,.B 4 0),(69,.S 10),(73,.I (d_.Guard.Equals.length:Int))]) J 5 ?_))
   obtain ⟨D,G,h⟩:=ob h
   refine wc (z82_ct N A (d_.Guard.Equals.length:Int) _ G) [(0,.sl 10)] [] Q Q Q Q Q Q Q Q (.inl rfl) rfl (wx ⟨[(0,.S 11),(3,.B 4 0)],[(4,.box (cC0 1 2 3 d_) 94),(11,.own (rI .u8) D false)],(vV0 1 2 3 d_ []),12⟩ J 1 (wn (wq (wq (wg (wx ⟨[(0,.S 11),(77,.S 3),(78,.I (d_.Guard.Equals.length:Int)),(79,.I 0)],[(11,.own (rI .u8) D false)],(vV0 1 2 3 d_ []),12⟩ J 5 (wn ?_)))))))
   refine wC (σ:=(List Int)) (fun st=>⟨[(0,.S 12)],[(12,.own (rI .u8) st false)],(vV0 1 2 3 d_ []),13⟩) (fun st=>z84_k1 st=some r) ?_ (fun j5=>?_)
   ·intro H h
    replace h:z84_k1 H=some r:=h
    unfold z84_k1 at h
    refine wq (wg (ws J 2 Q (wn ?_)))
    cases h
    exact we J Tryz.func84 [(4,.sl 12)] Q Q Q Q
   refine wo ?_
   refine wI (σ:=(List Int) × Int) (fun st=>⟨[(0,.S 12),(77,.S 3),(78,.I (d_.Guard.Equals.length:Int)),(79,.I st.2)],[(12,.own (rI .u8) st.1 false)],(vV0 1 2 3 d_ []),13⟩) (fun n st=>z84_l2 N d_ n st.1 st.2) (r:=r) (fun _=>rfl) ?_ (fun ih=>?_)
   ·intro n4 ih7
    rintro ⟨K,R⟩ h
    replace h:z84_l2 N d_ (n4+1) K R=some r:=h
    unfold z84_l2 at h
    refine wq (wg (ws J 1 Q (wn (wq ?_))))
    rcases oc' h with ⟨hc,h⟩ | ⟨hc,h⟩
    ·exact wf hc Q (wz rfl (wu [] (j5 K h) Q Q Q Q))
    refine wt hc Q (wi (wq (wo (wq (wg ?_)))))
    obtain ⟨T,U,h⟩:=ob h
    refine wj (oP (oI .i64) (oI .i64)) J U Q Q Q Q Q Q Q Q Q (wx ⟨[(0,.S 12),(10,.B 14 0),(77,.S 3),(78,.I (d_.Guard.Equals.length:Int)),(79,.I R)],[(12,.own (rI .u8) K false),(14,.box [.I T.1,.I T.2] 146)],(vV0 1 2 3 d_ []),15⟩ J 3 (wn (wg (ws J 1 Q (WPr.slb (len:=2) (el:=3) (oI .i64) ([T.1,T.2]:List Int) (by exact (an rfl (an Q Q))) Q Q Q Q (by kernel_rfl) (by kernel_rfl) Q Q Q ?_)))))
    obtain ⟨Z,a0,h⟩:=ob h
    exact wc (z85_ct N K ([T.1,T.2]:List Int) _ a0) [(0,.sl 12),(1,.sl 15)] [15] Q Q Q Q Q Q Q Q (.inr ⟨rfl,⟨(rI_flat _),trivial⟩⟩) rfl (wx ⟨[(0,.S 16),(77,.S 3),(78,.I (d_.Guard.Equals.length:Int)),(79,.I R)],[(16,.own (rI .u8) Z false)],(vV0 1 2 3 d_ []),17⟩ J 1 (wn (wb (wg (ws J 2 Q (wn (wu [(12,.sl 16)] (ih7 (Z,(w64 (R+1))) h) Q Q Q Q)))))))
   exact wu [(12,.sl 11)] (ih N (D,0) h) Q Q Q Q
  refine wo ?_
  refine wI (σ:=(List Int) × Int) (fun st=>(zz129 d_ st.1 [(0,.S 10),(3,.B 4 0),(53,.S 2),(54,.I (d_.Guard.Diffs.length:Int)),(55,.I st.2)])) (fun n st=>z84_l4 N d_ n st.1 st.2) (r:=r) (fun _=>rfl) ?_ (fun ih=>?_)
  ·intro n5 ih8
   rintro ⟨b0,c0⟩ h
   replace h:z84_l4 N d_ (n5+1) b0 c0=some r:=h
   unfold z84_l4 at h
   refine wq (wg (ws J 1 Q (wn (wq ?_))))
   rcases oc' h with ⟨hc,h⟩ | ⟨hc,h⟩
   ·exact wf hc Q (wz rfl (wu [] (j3 b0 h) Q Q Q Q))
   refine wt hc Q (wi (wq (wo (wq (wg ?_)))))
   obtain ⟨d0,e0,h⟩:=ob h
   refine wj oO1 J e0 Q Q Q Q Q Q Q Q Q (wx ⟨[(0,.S 10),(3,.B 4 0),(8,.B 12 0),(53,.S 2),(54,.I (d_.Guard.Diffs.length:Int)),(55,.I c0)],[(4,.box (cC0 1 2 3 d_) 94),(10,.own (rI .u8) b0 false),(12,.box (cC1 d0) 144)],(vV0 1 2 3 d_ []),13⟩ J 3 (wn (wg (xw [7,8,9] ⟨[(3,.B 4 0),(53,.S 2),(54,.I (d_.Guard.Diffs.length:Int)),(55,.I c0),(59,.S 10),(61,.I d0.X),(63,.I d0.Y),(65,.I d0.C)],[(4,.box (cC0 1 2 3 d_) 94),(10,.own (rI .u8) b0 false)],(vV0 1 2 3 d_ []),13⟩ J 7 (WPr.bs (cs:=(cC1 d0)) (oI .i64) J ([d0.X,d0.Y,d0.C]:List Int) Q Q Q Q Q Q (by kernel_rfl) (by exact (an rfl (an rfl (an Q Q)))) rfl ?_)))))
   obtain ⟨f0,g0,h⟩:=ob h
   exact wc (z85_ct N b0 ([d0.X,d0.Y,d0.C]:List Int) _ g0) [(0,.sl 10),(1,.sl 13)] [13] Q Q Q Q Q Q Q Q (.inr ⟨rfl,⟨(rI_flat _),trivial⟩⟩) rfl (wx ⟨[(0,.S 14),(3,.B 4 0),(53,.S 2),(54,.I (d_.Guard.Diffs.length:Int)),(55,.I c0)],[(4,.box (cC0 1 2 3 d_) 94),(14,.own (rI .u8) f0 false)],(vV0 1 2 3 d_ []),15⟩ J 1 (wn (wb (wg (ws J 2 Q (wn (wu [(10,.sl 14)] (ih8 (f0,(w64 (c0+1))) h) Q Q Q Q)))))))
  exact wu [(10,.sl 9)] (ih N (y,0) h) Q Q Q Q
 refine wo ?_
 refine wI (σ:=(List Int) × Int) (fun st=>(zz128 d_ st.1 [(0,.S 7),(3,.B 4 0),(20,.S 1),(21,.I (d_.Fields.length:Int)),(22,.I st.2)])) (fun n st=>z84_l6 N d_ n st.1 st.2) (r:=r) (fun _=>rfl) ?_ (fun ih=>?_)
 ·intro n6 ih9
  rintro ⟨i0,j0⟩ h
  replace h:z84_l6 N d_ (n6+1) i0 j0=some r:=h
  unfold z84_l6 at h
  refine wq (wg (ws J 1 Q (wn (wq ?_))))
  rcases oc' h with ⟨hc,h⟩ | ⟨hc,h⟩
  ·exact wf hc Q (wz rfl (wu [] (j1 i0 h) Q Q Q Q))
  refine wt hc Q (wi (wq (wo (wq (wg ?_)))))
  obtain ⟨k0,l0,h⟩:=ob h
  refine wj oO3 J l0 Q Q Q Q Q Q Q Q Q (wx ⟨[(0,.S 7),(3,.B 4 0),(6,.B 9 0),(20,.S 1),(21,.I (d_.Fields.length:Int)),(22,.I j0)],[(4,.box (cC0 1 2 3 d_) 94),(7,.own (rI .u8) i0 false),(9,.box (cC3 k0) 141)],(vV0 1 2 3 d_ []),10⟩ J 3 (wn (wN (fun m0 o0 p0=>?_))))
  have q0:m0 0 (zz21 [(0,.S 7)] [(26,.S 7)]):=o0 _ _ (wl J Q Q Q Q Q Q)
  have s0:m0 1 (zz21 [(6,.B 9 0)] [(27,.B 9 0)]):=o0 _ _ (wl J Q Q Q Q Q Q)
  have t0:m0 2 ⟨[(27,.B 9 0)],[],[],[(9,.box (cC3 k0) 141)],10,[(28,.c (.s k0.Name))],[],[],10⟩:=o0 _ _ (wl J Q Q Q Q Q Q)
  obtain ⟨u0,v0,h⟩:=ob h
  have x0:m0 3 ⟨[(26,.S 7),(28,.c (.s k0.Name))],[],[(7,.own (rI .u8) i0 false)],[],10,[(29,.S 10)],[],[(7,.gone),(10,.own (rI .u8) u0 false)],11⟩:=o0 _ _ (wO Q Q Q (fun _ _ _ _ _ _ _ k=>wc (z83_ct N i0 k0.Name _ v0) [(0,.sl 7)] [] Q Q Q Q Q Q Q Q (.inl rfl) rfl (k)) rfl)
  have y0:m0 4 (zz30 [(6,.B 9 0)] [(30,.B 9 1)]):=o0 _ _ (wl J Q Q Q Q Q Q)
  have z0:m0 5 (zz30 [(30,.B 9 1)] [(31,.B 9 1)]):=o0 _ _ (wl J Q Q Q Q Q Q)
  have A0:m0 6 (zz130 k0 [(31,.B 9 1)] [(32,.I k0.Sort'.Kind)]):=o0 _ _ (wl J Q Q Q Q Q Q)
  have B0:m0 7 (zz30 [(6,.B 9 0)] [(33,.B 9 1)]):=o0 _ _ (wl J Q Q Q Q Q Q)
  have C0:m0 8 (zz30 [(33,.B 9 1)] [(34,.B 9 2)]):=o0 _ _ (wl J Q Q Q Q Q Q)
  have D0:m0 9 (zz130 k0 [(34,.B 9 2)] [(35,.I k0.Sort'.Lo)]):=o0 _ _ (wl J Q Q Q Q Q Q)
  have G0:m0 10 (zz30 [(6,.B 9 0)] [(36,.B 9 1)]):=o0 _ _ (wl J Q Q Q Q Q Q)
  have H0:m0 11 (zz30 [(36,.B 9 1)] [(37,.B 9 3)]):=o0 _ _ (wl J Q Q Q Q Q Q)
  have I0:m0 12 (zz130 k0 [(37,.B 9 3)] [(38,.I k0.Sort'.Hi)]):=o0 _ _ (wl J Q Q Q Q Q Q)
  have K0:m0 13 ⟨[(32,.I k0.Sort'.Kind),(35,.I k0.Sort'.Lo),(38,.I k0.Sort'.Hi)],[],[],[],11,[(39,.S 11)],[],[(11,.own (rI .i64) ([k0.Sort'.Kind,k0.Sort'.Lo,k0.Sort'.Hi]:List Int) true)],12⟩:=o0 _ _ (wO Q Q Q (fun _ _ _ _ _ _ _ k=>WPr.bs (cs:=(cC7 k0.Sort')) (oI .i64) J ([k0.Sort'.Kind,k0.Sort'.Lo,k0.Sort'.Hi]:List Int) Q Q Q Q Q Q (by kernel_rfl) (by exact (an rfl (an rfl (an Q Q)))) rfl (k)) rfl)
  obtain ⟨L0,M0,h⟩:=ob h
  have O0:m0 14 ⟨[(29,.S 10),(39,.S 11)],[],[(10,.own (rI .u8) u0 false)],[(11,.own (rI .i64) ([k0.Sort'.Kind,k0.Sort'.Lo,k0.Sort'.Hi]:List Int) true)],12,[(40,.S 12)],[],[(10,.gone),(12,.own (rI .u8) L0 false)],13⟩:=o0 _ _ (wO Q Q Q (fun _ _ _ _ _ _ _ k=>wc (z85_ct N u0 ([k0.Sort'.Kind,k0.Sort'.Lo,k0.Sort'.Hi]:List Int) _ M0) [(0,.sl 10),(1,.sl 11)] [11] Q Q Q Q Q Q Q Q (.inr ⟨rfl,⟨(rI_flat _),trivial⟩⟩) rfl (k)) rfl)
  have R0:m0 15 ⟨[(40,.S 12)],[],[],[],13,[(0,.S 12)],[],[],13⟩:=o0 _ _ (wl J Q Q Q Q Q Q)
  exact wD (t:=⟨[(0,.S 12),(3,.B 4 0),(20,.S 1),(21,.I (d_.Fields.length:Int)),(22,.I j0)],[(4,.box (cC0 1 2 3 d_) 94),(12,.own (rI .u8) L0 false)],(vV0 1 2 3 d_ []),13⟩) [0,0,2,7,0,16,48,0,128,384,0,1024,3072,8176,16383,32767] (.cons (p0 _ _ q0) (.cons (p0 _ _ s0) (.cons (p0 _ _ t0) (.cons (p0 _ _ x0) (.cons (p0 _ _ y0) (.cons (p0 _ _ z0) (.cons (p0 _ _ A0) (.cons (p0 _ _ B0) (.cons (p0 _ _ C0) (.cons (p0 _ _ D0) (.cons (p0 _ _ G0) (.cons (p0 _ _ H0) (.cons (p0 _ _ I0) (.cons (p0 _ _ K0) (.cons (p0 _ _ O0) (.cons (p0 _ _ R0) .nil)))))))))))))))) (by kernel_rfl) (by kernel_rfl) (by kernel_rfl) (by kernel_rfl) (wb (wg (ws J 2 Q (wn (wu [(7,.sl 12)] (ih9 (L0,(w64 (j0+1))) h) Q Q Q Q)))))
 exact wu [(7,.sl 6)] (ih N (x9,0) h) Q Q Q Q
theorem z86_ct (N:Nat) (b_:(List Int)) (v_:Bool) (r:(List Int)) (h:z86 N b_ v_=some r) :
 Fn Tryz.prog 86 ⟨1,[.S 0,.O v_],[],[(0,.own (rI .u8) b_ false)],2,.S 1,[],[(1,.own (rI .u8) r false),(0,.gone)]⟩:=by
 refine Fn.intro _ _ Tryz.func86 rfl (by kernel_rfl) rfl (fun E F w=>?_)
 unfold z86 at h
 refine wq (wg (ws J 1 Q (wn (wq (wq (wg (ws J 1 Q (wn ?_))))))))
 rcases oc h with ⟨hc,h⟩ | ⟨hc,h⟩
 ·refine wt hc Q (wq (wg (xw [1,2,3] (zz81 b_ [(6,.S 0)]) J 1 (WPr.bs (cs:=[.i .u8 1]) (oI .u8) J ([1]:List Int) Q Q Q Q Q Q (by kernel_rfl) (by exact (an Q Q)) rfl ?_))))
  obtain ⟨x1,c,h⟩:=ob h
  refine WPr.app J c (by exact (srcO rfl)) Q Q Q Q Q Q Q Q Q Q (wx ⟨[(4,.S 2)],[(2,.own (rI .u8) x1 false)],[],3⟩ J 1 (wn ?_))
  cases h
  exact we J Tryz.func86 [(1,.sl 2)] Q Q Q Q
 refine wf hc Q (wi (wq (wg (xw [1,2,3] (zz81 b_ [(9,.S 0)]) J 1 (WPr.bs (cs:=[.i .u8 0]) (oI .u8) J ([0]:List Int) Q Q Q Q Q Q (by kernel_rfl) (by exact (an Q Q)) rfl ?_)))))
 obtain ⟨x2,d,h⟩:=ob h
 refine WPr.app J d (by exact (srcO rfl)) Q Q Q Q Q Q Q Q Q Q (wx ⟨[(4,.S 2)],[(2,.own (rI .u8) x2 false)],[],3⟩ J 1 (wn ?_))
 cases h
 exact we J Tryz.func86 [(1,.sl 2)] Q Q Q Q
theorem z37_ct (N:Nat) (g_:T4) (r:(List Int)) (h:z37 N g_=some r) :
 Fn Tryz.prog 37 ⟨4,[.a (cC4 0 1 2 3 g_)],(vV4 0 1 2 3 g_ []),[],5,.S 4,[],[(4,.own (rI .u8) r true)]⟩:=by
 refine Fn.intro _ _ Tryz.func37 rfl (by kernel_rfl) rfl (fun E F w=>?_)
 unfold z37 at h
 refine wq (wg (ws J 2 Q (wn (wq (wq (wg (xw [1,2] (zz2 g_ [(1,.B 4 0),(2,.c .nil),(12,.a (cC4 0 1 2 3 g_))]) J 1 ?_)))))))
 obtain ⟨x1,d,h⟩:=ob h
 refine wc (z22_ct N g_ _ d) [(0,.sl 0),(1,.sl 1),(2,.sl 2),(3,.sl 3)] [] Q Q Q Q Q Q Q Q (.inl rfl) rfl (wx (zz2 g_ [(1,.B 4 0),(2,.c .nil),(14,.O (!x1))]) J 1 (wn ?_))
 rcases oc h with ⟨hc,h⟩ | ⟨hc,h⟩
 ·refine wt hc Q (wq (wg (ws J 1 Q (wn ?_))))
  cases h
  exact we J Tryz.func37 [(4,.nil)] Q Q Q Q
 refine wf hc Q (wi (wq (wN (fun A1 e f=>?_))))
 have g:A1 0 (zz50 [(1,.B 4 0)] [(15,.B 4 0)]):=e _ _ (wl J Q Q Q Q Q Q)
 have i:A1 1 ⟨[(15,.B 4 0)],(vV4 0 1 2 3 g_ []),[],[(4,.box (cC4 0 1 2 3 g_) 27)],5,[(16,.c (.s g_.Name))],[],[],5⟩:=e _ _ (wl J Q Q Q Q Q Q)
 obtain ⟨x4,j,h⟩:=ob h
 have l:A1 2 ⟨[(16,.c (.s g_.Name))],[],[],[],5,[(17,.S 5)],[],[(5,.own (rI .u8) x4 true)],6⟩:=e _ _ (wO Q Q Q (fun _ _ _ _ _ _ _ k=>wc (z83_ct N ([]:List Int) g_.Name _ j) [(0,.nil)] [] Q Q Q Q Q Q Q Q (.inl rfl) rfl (k)) rfl)
 have m:A1 3 (zz3 [(1,.B 4 0)] [(18,.B 4 1)]):=e _ _ (wl J Q Q Q Q Q Q)
 have o:A1 4 (zz104 g_ [(18,.B 4 1)] [(19,.S 0)]):=e _ _ (wl J Q Q Q Q Q Q)
 have p:A1 5 ⟨[(19,.S 0)],[(0,.sl rS g_.Roles)],[],[],6,[(20,.I (g_.Roles.length:Int))],[],[],6⟩:=e _ _ (wl J Q Q Q Q Q Q)
 obtain ⟨x9,q,h⟩:=ob h
 have u:A1 6 ⟨[(17,.S 5),(20,.I (g_.Roles.length:Int))],[],[(5,.own (rI .u8) x4 true)],[],6,[(21,.S 6)],[],[(5,.gone),(6,.own (rI .u8) x9 true)],7⟩:=e _ _ (wO Q Q Q (fun _ _ _ _ _ _ _ k=>wc (z82_ct N x4 (g_.Roles.length:Int) _ q) [(0,.sl 5)] [] Q Q Q Q Q Q Q Q (.inl rfl) rfl (k)) rfl)
 have v:A1 7 (zz4 [(21,.S 6)] [(3,.S 6)]):=e _ _ (wl J Q Q Q Q Q Q)
 refine wD (t:=(zz171 g_ x9 [(1,.B 4 0),(2,.c .nil),(3,.S 6)])) [0,1,3,0,8,24,63,127] (.cons (f _ _ g) (.cons (f _ _ i) (.cons (f _ _ l) (.cons (f _ _ m) (.cons (f _ _ o) (.cons (f _ _ p) (.cons (f _ _ u) (.cons (f _ _ v) .nil)))))))) (by kernel_rfl) (by kernel_rfl) (by kernel_rfl) (by kernel_rfl) (wq (wq (wg (wx (zz171 g_ x9 [(1,.B 4 0),(2,.c .nil),(3,.S 6),(23,.S 0),(24,.I (g_.Roles.length:Int)),(25,.I 0)]) J 4 (wn ?_)))))
 refine wC (σ:=(List Int)) (fun st=>(zz131 g_ st [(1,.B 4 0),(3,.S 7)])) (fun st=>z37_k7 N g_ st=some r) ?_ (fun j1=>?_)
 ·intro x h
  replace h:z37_k7 N g_ x=some r:=h
  unfold z37_k7 at h
  refine wq (wg (xw [4,5] (zz131 g_ x [(1,.B 4 0),(33,.S 7),(36,.I (g_.Decls.length:Int))]) J 4 ?_))
  obtain ⟨y,z,h⟩:=ob h
  refine wc (z82_ct N x (g_.Decls.length:Int) _ z) [(0,.sl 7)] [] Q Q Q Q Q Q Q Q (.inl rfl) rfl (wx (zz172 g_ y [(1,.B 4 0),(3,.S 8)]) J 1 (wn (wq (wq (wg (wx (zz172 g_ y [(1,.B 4 0),(3,.S 8),(39,.S 1),(40,.I (g_.Decls.length:Int)),(41,.I 0)]) J 4 (wn ?_)))))))
  refine wC (σ:=(List Int)) (fun st=>(zz107 g_ st [(1,.B 4 0),(3,.S 9)])) (fun st=>z37_k5 N g_ st=some r) ?_ (fun j3=>?_)
  ·intro A h
   replace h:z37_k5 N g_ A=some r:=h
   unfold z37_k5 at h
   refine wq (wg (xw [10,11,12] (zz107 g_ A [(1,.B 4 0),(49,.S 9),(51,.I g_.States),(53,.I g_.Start),(55,.I g_.End),(58,.I (g_.Edges.length:Int))]) J 10 (WPr.bs (cs:=[.I g_.States,.I g_.Start,.I g_.End,.I (g_.Edges.length:Int)]) (oI .i64) J ([g_.States,g_.Start,g_.End,(g_.Edges.length:Int)]:List Int) Q Q Q Q Q Q (by kernel_rfl) (by exact (an rfl (an rfl (an rfl (an Q Q))))) rfl ?_)))
   obtain ⟨C,D,h⟩:=ob h
   refine wc (z85_ct N A ([g_.States,g_.Start,g_.End,(g_.Edges.length:Int)]:List Int) _ D) [(0,.sl 9),(1,.sl 10)] [10] Q Q Q Q Q Q Q Q (.inr ⟨rfl,⟨(rI_flat _),trivial⟩⟩) rfl (wx (zz173 g_ C [(1,.B 4 0),(3,.S 11)]) J 1 (wn (wq (wq (wg (wx (zz173 g_ C [(1,.B 4 0),(3,.S 11),(62,.S 2),(63,.I (g_.Edges.length:Int)),(64,.I 0)]) J 4 (wn ?_)))))))
   refine wC (σ:=(List Int)) (fun st=>(zz132 g_ st [(1,.B 4 0),(3,.S 12)])) (fun st=>z37_k3 N g_ st=some r) ?_ (fun j5=>?_)
   ·intro G h
    replace h:z37_k3 N g_ G=some r:=h
    unfold z37_k3 at h
    refine wq (wg (xw [4,5] (zz132 g_ G [(1,.B 4 0),(88,.S 12),(91,.I (g_.Timeouts.length:Int))]) J 4 ?_))
    obtain ⟨H,K,h⟩:=ob h
    refine wc (z82_ct N G (g_.Timeouts.length:Int) _ K) [(0,.sl 12)] [] Q Q Q Q Q Q Q Q (.inl rfl) rfl (wx ⟨[(1,.B 4 0),(3,.S 13)],[(4,.box (cC4 0 1 2 3 g_) 27),(13,.own (rI .u8) H true)],(vV4 0 1 2 3 g_ []),14⟩ J 1 (wn (wq (wq (wg (wx ⟨[(3,.S 13),(94,.S 3),(95,.I (g_.Timeouts.length:Int)),(96,.I 0)],[(13,.own (rI .u8) H true)],(vV4 0 1 2 3 g_ []),14⟩ J 4 (wn ?_)))))))
    refine wC (σ:=(List Int)) (fun st=>⟨[(3,.S 14)],[(14,.own (rI .u8) st true)],(vV4 0 1 2 3 g_ []),15⟩) (fun st=>z37_k1 st=some r) ?_ (fun j7=>?_)
    ·intro R h
     replace h:z37_k1 R=some r:=h
     unfold z37_k1 at h
     refine wq (wg (ws J 2 Q (wn ?_)))
     cases h
     exact we J Tryz.func37 [(4,.sl 14)] Q Q Q Q
    refine wo ?_
    refine wI (σ:=(List Int) × Int) (fun st=>⟨[(3,.S 14),(94,.S 3),(95,.I (g_.Timeouts.length:Int)),(96,.I st.2)],[(14,.own (rI .u8) st.1 true)],(vV4 0 1 2 3 g_ []),15⟩) (fun n st=>z37_l2 N g_ n st.1 st.2) (r:=r) (fun _=>rfl) ?_ (fun ih=>?_)
    ·intro n5 ih9
     rintro ⟨T,U⟩ h
     replace h:z37_l2 N g_ (n5+1) T U=some r:=h
     unfold z37_l2 at h
     refine wq (wg (ws J 1 Q (wn (wq ?_))))
     rcases oc' h with ⟨hc,h⟩ | ⟨hc,h⟩
     ·exact wf hc Q (wz rfl (wu [] (j7 T h) Q Q Q Q))
     refine wt hc Q (wi (wq (wo (wq (wg ?_)))))
     obtain ⟨X,Y,h⟩:=ob h
     refine wj oO8 J Y Q Q Q Q Q Q Q Q Q (wx ⟨[(3,.S 14),(11,.B 16 0),(94,.S 3),(95,.I (g_.Timeouts.length:Int)),(96,.I U)],[(14,.own (rI .u8) T true),(16,.box (cC8 X) 79)],(vV4 0 1 2 3 g_ []),17⟩ J 3 (wn (wg (xw [7,8,9] ⟨[(94,.S 3),(95,.I (g_.Timeouts.length:Int)),(96,.I U),(100,.S 14),(102,.I X.State),(104,.I X.Ticks),(106,.I X.Else)],[(14,.own (rI .u8) T true)],(vV4 0 1 2 3 g_ []),17⟩ J 7 (WPr.bs (cs:=(cC8 X)) (oI .i64) J ([X.State,X.Ticks,X.Else]:List Int) Q Q Q Q Q Q (by kernel_rfl) (by exact (an rfl (an rfl (an Q Q)))) rfl ?_)))))
     obtain ⟨Z,a0,h⟩:=ob h
     exact wc (z85_ct N T ([X.State,X.Ticks,X.Else]:List Int) _ a0) [(0,.sl 14),(1,.sl 17)] [17] Q Q Q Q Q Q Q Q (.inr ⟨rfl,⟨(rI_flat _),trivial⟩⟩) rfl (wx ⟨[(3,.S 18),(94,.S 3),(95,.I (g_.Timeouts.length:Int)),(96,.I U)],[(18,.own (rI .u8) Z true)],(vV4 0 1 2 3 g_ []),19⟩ J 1 (wn (wb (wg (ws J 2 Q (wn (wu [(14,.sl 18)] (ih9 (Z,(w64 (U+1))) h) Q Q Q Q)))))))
    exact wu [(14,.sl 13)] (ih N (H,0) h) Q Q Q Q
   refine wo ?_
   refine wI (σ:=(List Int) × Int) (fun st=>(zz132 g_ st.1 [(1,.B 4 0),(3,.S 12),(62,.S 2),(63,.I (g_.Edges.length:Int)),(64,.I st.2)])) (fun n st=>z37_l4 N g_ n st.1 st.2) (r:=r) (fun _=>rfl) ?_ (fun ih=>?_)
   ·intro n6 ih10
    rintro ⟨b0,c0⟩ h
    replace h:z37_l4 N g_ (n6+1) b0 c0=some r:=h
    unfold z37_l4 at h
    refine wq (wg (ws J 1 Q (wn (wq ?_))))
    rcases oc' h with ⟨hc,h⟩ | ⟨hc,h⟩
    ·exact wf hc Q (wz rfl (wu [] (j5 b0 h) Q Q Q Q))
    refine wt hc Q (wi (wq (wo (wq (wg ?_)))))
    obtain ⟨d0,e0,h⟩:=ob h
    refine wj oO2 J e0 Q Q Q Q Q Q Q Q Q (wx ⟨[(1,.B 4 0),(3,.S 12),(9,.B 14 0),(62,.S 2),(63,.I (g_.Edges.length:Int)),(64,.I c0)],[(4,.box (cC4 0 1 2 3 g_) 27),(12,.own (rI .u8) b0 true),(14,.box (cC2 d0) 43)],(vV4 0 1 2 3 g_ []),15⟩ J 3 (wn (wN (fun f0 g0 i0=>?_))))
    have j0:f0 0 (zz31 [(3,.S 12)] [(68,.S 12)]):=g0 _ _ (wl J Q Q Q Q Q Q)
    have k0:f0 1 (zz31 [(9,.B 14 0)] [(69,.B 14 0)]):=g0 _ _ (wl J Q Q Q Q Q Q)
    have l0:f0 2 (zz83 d0 [(69,.B 14 0)] [(70,.I d0.From)]):=g0 _ _ (wl J Q Q Q Q Q Q)
    have m0:f0 3 (zz31 [(9,.B 14 0)] [(71,.B 14 1)]):=g0 _ _ (wl J Q Q Q Q Q Q)
    have o0:f0 4 (zz31 [(71,.B 14 1)] [(72,.B 14 1)]):=g0 _ _ (wl J Q Q Q Q Q Q)
    have p0:f0 5 (zz83 d0 [(72,.B 14 1)] [(73,.I d0.Act.From)]):=g0 _ _ (wl J Q Q Q Q Q Q)
    have q0:f0 6 (zz31 [(9,.B 14 0)] [(74,.B 14 1)]):=g0 _ _ (wl J Q Q Q Q Q Q)
    have s0:f0 7 (zz31 [(74,.B 14 1)] [(75,.B 14 2)]):=g0 _ _ (wl J Q Q Q Q Q Q)
    have t0:f0 8 (zz83 d0 [(75,.B 14 2)] [(76,.I d0.Act.To)]):=g0 _ _ (wl J Q Q Q Q Q Q)
    have u0:f0 9 (zz31 [(9,.B 14 0)] [(77,.B 14 1)]):=g0 _ _ (wl J Q Q Q Q Q Q)
    have v0:f0 10 (zz31 [(77,.B 14 1)] [(78,.B 14 3)]):=g0 _ _ (wl J Q Q Q Q Q Q)
    have x0:f0 11 (zz83 d0 [(78,.B 14 3)] [(79,.I d0.Act.Label)]):=g0 _ _ (wl J Q Q Q Q Q Q)
    have y0:f0 12 (zz31 [(9,.B 14 0)] [(80,.B 14 4)]):=g0 _ _ (wl J Q Q Q Q Q Q)
    have z0:f0 13 (zz83 d0 [(80,.B 14 4)] [(81,.I d0.To)]):=g0 _ _ (wl J Q Q Q Q Q Q)
    have A0:f0 14 ⟨[(70,.I d0.From),(73,.I d0.Act.From),(76,.I d0.Act.To),(79,.I d0.Act.Label),(81,.I d0.To)],[],[],[],15,[(82,.S 15)],[],[(15,.own (rI .i64) ([d0.From,d0.Act.From,d0.Act.To,d0.Act.Label,d0.To]:List Int) true)],16⟩:=g0 _ _ (wO Q Q Q (fun _ _ _ _ _ _ _ k=>WPr.bs (cs:=[.I d0.From,.I d0.Act.From,.I d0.Act.To,.I d0.Act.Label,.I d0.To]) (oI .i64) J ([d0.From,d0.Act.From,d0.Act.To,d0.Act.Label,d0.To]:List Int) Q Q Q Q Q Q (by kernel_rfl) (by exact (an rfl (an rfl (an rfl (an rfl (an Q Q)))))) rfl (k)) rfl)
    obtain ⟨B0,C0,h⟩:=ob h
    have D0:f0 15 ⟨[(68,.S 12),(82,.S 15)],[],[(12,.own (rI .u8) b0 true)],[(15,.own (rI .i64) ([d0.From,d0.Act.From,d0.Act.To,d0.Act.Label,d0.To]:List Int) true)],16,[(83,.S 16)],[],[(12,.gone),(16,.own (rI .u8) B0 true)],17⟩:=g0 _ _ (wO Q Q Q (fun _ _ _ _ _ _ _ k=>wc (z85_ct N b0 ([d0.From,d0.Act.From,d0.Act.To,d0.Act.Label,d0.To]:List Int) _ C0) [(0,.sl 12),(1,.sl 15)] [15] Q Q Q Q Q Q Q Q (.inr ⟨rfl,⟨(rI_flat _),trivial⟩⟩) rfl (k)) rfl)
    have G0:f0 16 (zz105 [(9,.B 14 0)] [(84,.B 14 5)]):=g0 _ _ (wl J Q Q Q Q Q Q)
    have H0:f0 17 ⟨[(84,.B 14 5)],[],[],[(14,.box (cC2 d0) 43)],17,[(85,.O d0.Again)],[],[],17⟩:=g0 _ _ (wl J Q Q Q Q Q Q)
    obtain ⟨I0,K0,h⟩:=ob h
    have L0:f0 18 ⟨[(83,.S 16),(85,.O d0.Again)],[],[(16,.own (rI .u8) B0 true)],[],17,[(86,.S 17)],[],[(16,.gone),(17,.own (rI .u8) I0 true)],18⟩:=g0 _ _ (wO Q Q Q (fun _ _ _ _ _ _ _ k=>wc (z86_ct N B0 d0.Again _ K0) [(0,.sl 16)] [] Q Q Q Q Q Q Q Q (.inl rfl) rfl (k)) rfl)
    have M0:f0 19 ⟨[(86,.S 17)],[],[],[],18,[(3,.S 17)],[],[],18⟩:=g0 _ _ (wl J Q Q Q Q Q Q)
    exact wD (t:=⟨[(1,.B 4 0),(3,.S 17),(62,.S 2),(63,.I (g_.Edges.length:Int)),(64,.I c0)],[(4,.box (cC4 0 1 2 3 g_) 27),(17,.own (rI .u8) I0 true)],(vV4 0 1 2 3 g_ []),18⟩) [0,0,2,0,8,24,0,64,192,0,512,1536,0,4096,16382,32767,0,65536,262143,524287] (.cons (i0 _ _ j0) (.cons (i0 _ _ k0) (.cons (i0 _ _ l0) (.cons (i0 _ _ m0) (.cons (i0 _ _ o0) (.cons (i0 _ _ p0) (.cons (i0 _ _ q0) (.cons (i0 _ _ s0) (.cons (i0 _ _ t0) (.cons (i0 _ _ u0) (.cons (i0 _ _ v0) (.cons (i0 _ _ x0) (.cons (i0 _ _ y0) (.cons (i0 _ _ z0) (.cons (i0 _ _ A0) (.cons (i0 _ _ D0) (.cons (i0 _ _ G0) (.cons (i0 _ _ H0) (.cons (i0 _ _ L0) (.cons (i0 _ _ M0) .nil)))))))))))))))))))) (by kernel_rfl) (by kernel_rfl) (by kernel_rfl) (by kernel_rfl) (wb (wg (ws J 2 Q (wn (wu [(12,.sl 17)] (ih10 (I0,(w64 (c0+1))) h) Q Q Q Q)))))
   exact wu [(12,.sl 11)] (ih N (C,0) h) Q Q Q Q
  refine wo ?_
  refine wI (σ:=(List Int) × Int) (fun st=>(zz107 g_ st.1 [(1,.B 4 0),(3,.S 9),(39,.S 1),(40,.I (g_.Decls.length:Int)),(41,.I st.2)])) (fun n st=>z37_l6 N g_ n st.1 st.2) (r:=r) (fun _=>rfl) ?_ (fun ih=>?_)
  ·intro n7 ih11
   rintro ⟨O0,R0⟩ h
   replace h:z37_l6 N g_ (n7+1) O0 R0=some r:=h
   unfold z37_l6 at h
   refine wq (wg (ws J 1 Q (wn (wq ?_))))
   rcases oc' h with ⟨hc,h⟩ | ⟨hc,h⟩
   ·exact wf hc Q (wz rfl (wu [] (j3 O0 h) Q Q Q Q))
   refine wt hc Q (wi (wq (wo (wq (wg ?_)))))
   obtain ⟨S0,T0,h⟩:=ob h
   refine wj oO0 J T0 Q Q Q Q Q Q Q Q Q (wx ⟨[(1,.B 4 0),(3,.S 9),(7,.B 14 0),(39,.S 1),(40,.I (g_.Decls.length:Int)),(41,.I R0)],[(4,.box (cC4 0 1 2 3 g_) 27),(9,.own (rI .u8) O0 true),(14,.box (cC0 11 12 13 S0) 94)],(vV4 0 1 2 3 g_ (vV0 11 12 13 S0 [])),15⟩ J 3 (wn (wg (ws J 2 Q ?_))))
   obtain ⟨U0,V0,h⟩:=ob h
   exact wc (z84_ct N O0 S0 _ V0) [(0,.sl 9),(1,.sl 11),(2,.sl 12),(3,.sl 13)] [] Q Q Q Q Q Q Q Q (.inl rfl) rfl (wx ⟨[(1,.B 4 0),(3,.S 15),(39,.S 1),(40,.I (g_.Decls.length:Int)),(41,.I R0)],[(4,.box (cC4 0 1 2 3 g_) 27),(15,.own (rI .u8) U0 true)],(vV4 0 1 2 3 g_ []),16⟩ J 1 (wn (wb (wg (ws J 2 Q (wn (wu [(9,.sl 15)] (ih11 (U0,(w64 (R0+1))) h) Q Q Q Q)))))))
  exact wu [(9,.sl 8)] (ih N (y,0) h) Q Q Q Q
 refine wo ?_
 refine wI (σ:=(List Int) × Int) (fun st=>(zz131 g_ st.1 [(1,.B 4 0),(3,.S 7),(23,.S 0),(24,.I (g_.Roles.length:Int)),(25,.I st.2)])) (fun n st=>z37_l8 N g_ n st.1 st.2) (r:=r) (fun _=>rfl) ?_ (fun ih=>?_)
 ·intro n8 ih12
  rintro ⟨X0,Y0⟩ h
  replace h:z37_l8 N g_ (n8+1) X0 Y0=some r:=h
  unfold z37_l8 at h
  refine wq (wg (ws J 1 Q (wn (wq ?_))))
  rcases oc' h with ⟨hc,h⟩ | ⟨hc,h⟩
  ·exact wf hc Q (wz rfl (wu [] (j1 X0 h) Q Q Q Q))
  refine wt hc Q (wi (wq (wo (wq (wg ?_)))))
  obtain ⟨Z0,a1,h⟩:=ob h
  refine wj oS J a1 Q Q Q Q Q Q Q Q Q (wx ⟨[(1,.B 4 0),(3,.S 7),(5,.c (.s Z0)),(23,.S 0),(24,.I (g_.Roles.length:Int)),(25,.I Y0)],[(4,.box (cC4 0 1 2 3 g_) 27),(7,.own (rI .u8) X0 true)],(vV4 0 1 2 3 g_ []),9⟩ J 2 (wn (wg (ws J 2 Q ?_))))
  obtain ⟨b1,c1,h⟩:=ob h
  exact wc (z83_ct N X0 Z0 _ c1) [(0,.sl 7)] [] Q Q Q Q Q Q Q Q (.inl rfl) rfl (wx (zz107 g_ b1 [(1,.B 4 0),(3,.S 9),(23,.S 0),(24,.I (g_.Roles.length:Int)),(25,.I Y0)]) J 1 (wn (wb (wg (ws J 2 Q (wn (wu [(7,.sl 9)] (ih12 (b1,(w64 (Y0+1))) h) Q Q Q Q)))))))
 exact wu [(7,.sl 6)] (ih N (x9,0) h) Q Q Q Q
theorem z127_ct (N:Nat) (seed_:Int) (b_:(List Int)) (r:Int) (h:z127 N seed_ b_=some r) :
 Fn Tryz.prog 127 ⟨1,[.c (.i .u64 seed_),.S 0],[(0,.sl (rI .u8) b_)],[],1,.c (.i .u64 r),[],[]⟩:=by
 refine Fn.intro _ _ Tryz.func127 rfl (by kernel_rfl) rfl (fun E F w=>?_)
 unfold z127 at h
 refine wq (wg (ws J 1 Q (wn (wq (wq (wg (wx (zz40 b_ [(0,.c (.i .u64 seed_)),(4,.c (.i .u64 0)),(7,.S 0),(8,.I (b_.length:Int)),(9,.I 0)]) J 3 (wn ?_))))))))
 refine wC (σ:=Int) (fun st=>(zz40 b_ [(0,.c (.i .u64 st))])) (fun st=>z127_k1 st=some r) ?_ (fun j1=>?_)
 ·intro d h
  replace h:z127_k1 d=some r:=h
  unfold z127_k1 at h
  refine wq (wg (ws J 2 Q (wn ?_)))
  cases h
  exact we J Tryz.func127 [] Q Q Q Q
 refine wo ?_
 refine wI (σ:=Int × Int) (fun st=>(zz40 b_ [(0,.c (.i .u64 st.1)),(7,.S 0),(8,.I (b_.length:Int)),(9,.I st.2)])) (fun n st=>z127_l2 b_ n st.1 st.2) (r:=r) (fun _=>rfl) ?_ (fun ih=>?_)
 ·intro n2 ih3
  rintro ⟨e,f⟩ h
  replace h:z127_l2 b_ (n2+1) e f=some r:=h
  unfold z127_l2 at h
  refine wq (wg (ws J 1 Q (wn (wq ?_))))
  rcases oc' h with ⟨hc,h⟩ | ⟨hc,h⟩
  ·exact wf hc Q (wz rfl (wu [] (j1 e h) Q Q Q Q))
  refine wt hc Q (wi (wq (wo (wq (wg ?_)))))
  obtain ⟨g,j,h⟩:=ob h
  refine wj (oI .u8) J j Q Q Q Q Q Q Q Q Q (wx ⟨[(0,.c (.i .u64 e)),(6,.c (.i .u8 g)),(7,.S 0),(8,.I (b_.length:Int)),(9,.I f)],[],[(0,.sl (rI .u8) b_)],2⟩ J 2 (wn (wg (xw [3,4,5] ⟨[(7,.S 0),(8,.I (b_.length:Int)),(9,.I f),(13,.c (.i .u64 e)),(15,.c (.i .u64 (wk .u64 (g))))],[],[(0,.sl (rI .u8) b_)],2⟩ J 3 ?_))))
  obtain ⟨k,l,h⟩:=ob h
  exact WPr.bin l Q Q Q Q Q Q Q Q (wx ⟨[(0,.c (.i .u64 (wk .u64 (k * 1099511628211)))),(7,.S 0),(8,.I (b_.length:Int)),(9,.I f)],[],[(0,.sl (rI .u8) b_)],2⟩ J 2 (wn (wb (wg (ws J 2 Q (wn (wu [] (ih3 ((wk .u64 (k * 1099511628211)),(w64 (f+1))) h) Q Q Q Q)))))))
 exact wu [] (ih N (seed_,0) h) Q Q Q Q
theorem z73_ct (N:Nat) (b_:(List Int)) (r:Int) (h:z73 N b_=some r) :
 Fn Tryz.prog 73 ⟨1,[.S 0],[(0,.sl (rI .u8) b_)],[],1,.c (.i .u64 r),[],[]⟩:=by
 refine Fn.intro _ _ Tryz.func73 rfl (by kernel_rfl) rfl (fun E F w=>?_)
 unfold z73 at h
 refine wq (wg (ws J 1 Q (wn (wq (wg (ws J 1 Q ?_))))))
 obtain ⟨x1,d,h⟩:=ob h
 refine wc (z127_ct N 14695981039346656037 b_ _ d) [(0,.sl 0)] [] Q Q Q Q Q Q Q Q (.inl rfl) rfl (wx (zz40 b_ [(2,.c (.i .u64 x1))]) J 1 (wn ?_))
 cases h
 exact we J Tryz.func73 [] Q Q Q Q
theorem z24_ct (N:Nat) (g_:T4) (r:Int) (h:z24 N g_=some r) :
 Fn Tryz.prog 24 ⟨4,[.a (cC4 0 1 2 3 g_)],(vV4 0 1 2 3 g_ []),[],4,.c (.i .u64 r),[],[]⟩:=by
 refine Fn.intro _ _ Tryz.func24 rfl (by kernel_rfl) rfl (fun E F w=>?_)
 unfold z24 at h
 refine wq (wg (ws J 2 Q (wn (wq (wg (xw (rg 1 7) (zz7 g_ [(2,.c (.i .u64 0)),(6,.a (cC4 0 1 2 3 g_))]) J 1 ?_))))))
 obtain ⟨x1,d,h⟩:=ob h
 refine wc (z21_ct N g_ _ d) [(0,.sl 0),(1,.sl 1),(2,.sl 2),(3,.sl 3)] [] Q Q Q Q Q Q Q Q (.inl rfl) rfl (wx ⟨[(2,.c (.i .u64 0)),(3,.B 9 0),(4,.I x1.2)],[(9,.box (cC4 5 6 7 8 x1.1) 27)],(vV4 0 1 2 3 g_ (vV4 5 6 7 8 x1.1 [])),10⟩ J 6 (wn (wq (wq (wg (ws J 2 Q (wn ?_)))))))
 rcases oc h with ⟨hc,h⟩ | ⟨hc,h⟩
 ·refine wt hc Q (wq (wg (wx ⟨[(2,.c (.i .u64 0))],[],(vV4 0 1 2 3 g_ []),10⟩ J 1 (wn ?_))))
  cases h
  exact we J Tryz.func24 [] Q Q Q Q
 refine wf hc Q (wi (wq (wg (xw [1,2,3] ⟨[(12,.a (cC4 5 6 7 8 x1.1))],[],(vV4 0 1 2 3 g_ (vV4 5 6 7 8 x1.1 [])),10⟩ J 1 ?_))))
 obtain ⟨x2,e,h⟩:=ob h
 refine wc (z37_ct N x1.1 _ e) [(0,.sl 5),(1,.sl 6),(2,.sl 7),(3,.sl 8)] [] Q Q Q Q Q Q Q Q (.inl rfl) rfl (xw [2,3] ⟨[(13,.S 10)],[(10,.own (rI .u8) x2 true)],(vV4 0 1 2 3 g_ []),11⟩ J 0 ?_)
 obtain ⟨x3,f,h⟩:=ob h
 refine wc (z73_ct N x2 _ f) [(0,.sl 10)] [10] Q Q Q Q Q Q Q Q (.inr ⟨rfl,trivial⟩) rfl (wx ⟨[(2,.c (.i .u64 x3))],[],(vV4 0 1 2 3 g_ []),11⟩ J 1 (wn ?_))
 cases h
 exact we J Tryz.func24 [] Q Q Q Q
theorem z12_ct (N:Nat) (r:Bool) (h:z12 N=some r) :
 Fn Tryz.prog 12 ⟨0,[],[],[],0,.O r,[],[]⟩:=by
 refine Fn.intro _ _ Tryz.func12 rfl (by kernel_rfl) rfl (fun E F w=>?_)
 unfold z12 at h
 refine wq (wg (ws J 1 Q (wn (wq (wg ?_)))))
 obtain ⟨x1,c,h⟩:=ob h
 refine wc (z43_ct N _ c) [] [] Q Q Q Q Q Q Q Q (.inl rfl) rfl (wx (zz2 x1 [(0,.O false),(1,.B 4 0)]) J 2 (wn (wq (wg (ws J 1 Q ?_)))))
 obtain ⟨x2,d,h⟩:=ob h
 refine wc (z14_ct N x1 3 _ d) [(0,.sl 0),(1,.sl 1),(2,.sl 2),(3,.sl 3)] [] Q Q Q Q Q Q Q Q (.inl rfl) rfl (wx (zz84 x1 x2.1 [(0,.O false),(1,.B 4 0),(2,.S 5),(3,.I x2.2)]) J 5 (wn (wq (wg (ws J 2 Q ?_)))))
 obtain ⟨x3,e,h⟩:=ob h
 refine wc (z17_ct N x1 0 (⟨0,1,0⟩:T6) _ e) [(0,.sl 0),(1,.sl 1),(2,.sl 2),(3,.sl 3)] [] Q Q Q Q Q Q Q Q (.inl rfl) rfl (wx (zz84 x1 x2.1 [(0,.O false),(1,.B 4 0),(2,.S 5),(3,.I x2.2),(4,.I x3.1),(5,.O x3.2)]) J 5 (wn (wq (wg (ws J 1 Q ?_)))))
 obtain ⟨x4,f,h⟩:=ob h
 refine wc (z22_ct N x1 _ f) [(0,.sl 0),(1,.sl 1),(2,.sl 2),(3,.sl 3)] [] Q Q Q Q Q Q Q Q (.inl rfl) rfl (xw (rg 3 38) (zz84 x1 x2.1 [(1,.B 4 0),(2,.S 5),(3,.I x2.2),(4,.I x3.1),(5,.O x3.2),(20,.O x4)]) J 1 ?_)
 rcases oc' h with ⟨hc,h⟩ | ⟨hc,h⟩
 ·refine wy 20 hc Q (wx ⟨[(0,.O false)],[],[],6⟩ J 38 (wn ?_))
  cases h
  exact we J Tryz.func12 [] Q Q Q Q
 refine wy 20 hc Q (xw (rg 7 34) (zz84 x1 x2.1 [(1,.B 4 0),(2,.S 5),(4,.I x3.1),(5,.O x3.2),(24,.O (x2.2==0))]) J 4 ?_)
 rcases oc' h with ⟨hc,h⟩ | ⟨hc,h⟩
 ·refine wy 24 hc Q (wx ⟨[(0,.O false)],[],[],6⟩ J 34 (wn ?_))
  cases h
  exact we J Tryz.func12 [] Q Q Q Q
 refine wy 24 hc Q (xw (rg 12 29) (zz84 x1 x2.1 [(1,.B 4 0),(2,.S 5),(4,.I x3.1),(5,.O x3.2),(29,.O ((x2.1.length:Int)==2))]) J 5 ?_)
 rcases oc' h with ⟨hc,h⟩ | ⟨hc,h⟩
 ·refine wy 29 hc Q (wx ⟨[(0,.O false)],[],[],6⟩ J 29 (wn ?_))
  cases h
  exact we J Tryz.func12 [] Q Q Q Q
 refine wy 29 hc Q (ws J 1 Q ?_)
 obtain ⟨x5,g,h⟩:=ob h
 refine wX J g Q Q Q Q Q Q Q Q Q (wL (oSl rR6) J g Q Q Q Q Q Q Q Q Q Q (xw (rg 19 22) (zz18 x1 [(1,.B 4 0),(4,.I x3.1),(5,.O x3.2),(36,.O ((x5.length:Int)==1))]) J 4 ?_))
 rcases oc' h with ⟨hc,h⟩ | ⟨hc,h⟩
 ·refine wy 36 hc Q (wx ⟨[(0,.O false)],[],[],8⟩ J 22 (wn ?_))
  cases h
  exact we J Tryz.func12 [] Q Q Q Q
 refine wy 36 hc Q (xw (rg 22 19) (zz18 x1 [(1,.B 4 0),(4,.I x3.1),(39,.O x3.2)]) J 3 ?_)
 rcases oc' h with ⟨hc,h⟩ | ⟨hc,h⟩
 ·refine wy 39 hc Q (wx ⟨[(0,.O false)],[],[],8⟩ J 19 (wn ?_))
  cases h
  exact we J Tryz.func12 [] Q Q Q Q
 refine wy 39 hc Q (xw (rg 26 15) (zz18 x1 [(1,.B 4 0),(43,.O (x3.1==1))]) J 4 ?_)
 rcases oc' h with ⟨hc,h⟩ | ⟨hc,h⟩
 ·refine wy 43 hc Q (wx ⟨[(0,.O false)],[],[],8⟩ J 15 (wn ?_))
  cases h
  exact we J Tryz.func12 [] Q Q Q Q
 refine wy 43 hc Q (ws J 2 Q ?_)
 obtain ⟨x6,i,h⟩:=ob h
 refine wc (z23_ct N x1 x1 _ i) [(0,.sl 0),(1,.sl 1),(2,.sl 2),(3,.sl 3),(4,.sl 0),(5,.sl 1),(6,.sl 2),(7,.sl 3)] [] Q Q Q Q Q Q Q Q (.inl rfl) rfl (xw (rg 31 10) (zz18 x1 [(1,.B 4 0),(48,.O x6)]) J 2 ?_)
 rcases oc' h with ⟨hc,h⟩ | ⟨hc,h⟩
 ·refine wy 48 hc Q (wx ⟨[(0,.O false)],[],[],8⟩ J 10 (wn ?_))
  cases h
  exact we J Tryz.func12 [] Q Q Q Q
 refine wy 48 hc Q (ws J 1 Q ?_)
 obtain ⟨x7,j,h⟩:=ob h
 refine wc (z31_ct N x1 (str [120]) _ j) [(0,.sl 0),(1,.sl 1),(2,.sl 2),(3,.sl 3)] [] Q Q Q Q Q Q Q Q (.inl rfl) rfl (xw [36,37,38,39,40] (zz18 x1 [(1,.B 4 0),(53,.O (x7==0))]) J 3 ?_)
 rcases oc' h with ⟨hc,h⟩ | ⟨hc,h⟩
 ·refine wy 53 hc Q (wx ⟨[(0,.O false)],[],[],8⟩ J 5 (wn ?_))
  cases h
  exact we J Tryz.func12 [] Q Q Q Q
 refine wy 53 hc Q (ws J 1 Q ?_)
 obtain ⟨x8,k,h⟩:=ob h
 refine wc (z24_ct N x1 _ k) [(0,.sl 0),(1,.sl 1),(2,.sl 2),(3,.sl 3)] [] Q Q Q Q Q Q Q Q (.inl rfl) rfl (wx ⟨[(0,.O (x8 != 0))],[],[],8⟩ J 3 (wn ?_))
 cases h
 exact we J Tryz.func12 [] Q Q Q Q
theorem z169_ct (N:Nat) (c_:Int) (r:Bool) (h:z169 N c_=some r) :
 Fn Tryz.prog 169 ⟨0,[.c (.i .u8 c_)],[],[],0,.O r,[],[]⟩:=by
 refine Fn.intro _ _ Tryz.func169 rfl (by kernel_rfl) rfl (fun E F w=>?_)
 unfold z169 at h
 refine wq (wg (ws J 1 Q (wn (wq (wg (xw (rg 3 12) (zz0 [(0,.c (.i .u8 c_)),(5,.O (decide (c_≥97)))]) J 3 ?_))))))
 rcases oc' h with ⟨hc,h⟩ | ⟨hc,h⟩
 ·refine wy 5 hc Q (xw [10,11,12,13,14] (zz0 [(0,.c (.i .u8 c_)),(9,.O false),(12,.O (decide (c_≥65)))]) J 7 ?_)
  rcases oc h with ⟨hc,h⟩ | ⟨hc,h⟩
  ·refine wy 12 hc Q (wx (zz0 [(2,.O (decide (c_≤90)))]) J 5 (wn ?_))
   cases h
   exact we J Tryz.func169 [] Q Q Q Q
  refine wy 12 hc Q (wx (zz0 [(2,.O false)]) J 5 (wn ?_))
  cases h
  exact we J Tryz.func169 [] Q Q Q Q
 refine wy 5 hc Q (xw (rg 7 8) (zz0 [(0,.c (.i .u8 c_)),(9,.O (decide (c_≤122)))]) J 4 ?_)
 rcases oc h with ⟨hc,h⟩ | ⟨hc,h⟩
 ·refine wy 9 hc Q (wx (zz0 [(2,.O true)]) J 8 (wn ?_))
  cases h
  exact we J Tryz.func169 [] Q Q Q Q
 refine wy 9 hc Q (xw [10,11,12,13,14] (zz0 [(0,.c (.i .u8 c_)),(9,.O false),(12,.O (decide (c_≥65)))]) J 3 ?_)
 rcases oc h with ⟨hc,h⟩ | ⟨hc,h⟩
 ·refine wy 12 hc Q (wx (zz0 [(2,.O (decide (c_≤90)))]) J 5 (wn ?_))
  cases h
  exact we J Tryz.func169 [] Q Q Q Q
 refine wy 12 hc Q (wx (zz0 [(2,.O false)]) J 5 (wn ?_))
 cases h
 exact we J Tryz.func169 [] Q Q Q Q
theorem z184_ct (N:Nat) (c_:Int) (r:Bool) (h:z184 N c_=some r) :
 Fn Tryz.prog 184 ⟨0,[.c (.i .u8 c_)],[],[],0,.O r,[],[]⟩:=by
 refine Fn.intro _ _ Tryz.func184 rfl (by kernel_rfl) rfl (fun E F w=>?_)
 unfold z184 at h
 refine wq (wg (ws J 1 Q (wn (wq (wg (xw [3,4,5,6] (zz0 [(0,.c (.i .u8 c_)),(5,.O (decide (c_≥48)))]) J 3 ?_))))))
 rcases oc h with ⟨hc,h⟩ | ⟨hc,h⟩
 ·refine wy 5 hc Q (wx (zz0 [(2,.O (decide (c_≤57)))]) J 4 (wn ?_))
  cases h
  exact we J Tryz.func184 [] Q Q Q Q
 refine wy 5 hc Q (wx (zz0 [(2,.O false)]) J 4 (wn ?_))
 cases h
 exact we J Tryz.func184 [] Q Q Q Q
theorem z170_ct (N:Nat) (c_:Int) (r:Bool) (h:z170 N c_=some r) :
 Fn Tryz.prog 170 ⟨0,[.c (.i .u8 c_)],[],[],0,.O r,[],[]⟩:=by
 refine Fn.intro _ _ Tryz.func170 rfl (by kernel_rfl) rfl (fun E F w=>?_)
 unfold z170 at h
 refine wq (wg (ws J 1 Q (wn (wq (wg (ws J 1 Q ?_))))))
 obtain ⟨x1,d,h⟩:=ob h
 refine wc (z169_ct N c_ _ d) [] [] Q Q Q Q Q Q Q Q (.inl rfl) rfl (xw (rg 3 8) (zz0 [(0,.c (.i .u8 c_)),(5,.O x1)]) J 1 ?_)
 rcases oc h with ⟨hc,h⟩ | ⟨hc,h⟩
 ·refine wy 5 hc Q (wx (zz0 [(2,.O true)]) J 8 (wn ?_))
  cases h
  exact we J Tryz.func170 [] Q Q Q Q
 refine wy 5 hc Q (ws J 1 Q ?_)
 obtain ⟨x2,e,h⟩:=ob h
 refine wc (z184_ct N c_ _ e) [] [] Q Q Q Q Q Q Q Q (.inl rfl) rfl (xw [7,8,9,10] (zz0 [(0,.c (.i .u8 c_)),(9,.O x2)]) J 2 ?_)
 rcases oc h with ⟨hc,h⟩ | ⟨hc,h⟩
 ·refine wy 9 hc Q (wx (zz0 [(2,.O true)]) J 4 (wn ?_))
  cases h
  exact we J Tryz.func170 [] Q Q Q Q
 refine wy 9 hc Q (wx (zz0 [(2,.O (c_==95))]) J 4 (wn ?_))
 cases h
 exact we J Tryz.func170 [] Q Q Q Q
theorem z148_ct (N:Nat) (s_:ByteArray) (r:Bool) (h:z148 N s_=some r) :
 Fn Tryz.prog 148 ⟨0,[.c (.s s_)],[],[],0,.O r,[],[]⟩:=by
 refine Fn.intro _ _ Tryz.func148 rfl (by kernel_rfl) rfl (fun E F w=>?_)
 unfold z148 at h
 refine wq (wg (ws J 1 Q (wn (wq (wq (wg (xw (rg 3 10) (zz0 [(0,.c (.s s_)),(2,.O false),(6,.O (s_.toList==(str []).toList))]) J 3 ?_)))))))
 rcases oc h with ⟨hc,h⟩ | ⟨hc,h⟩
 ·refine wy 6 hc Q (wx (zz0 [(0,.c (.s s_)),(2,.O false),(16,.O true)]) J 10 (wn (wt Q Q (wq (wg (ws J 1 Q (wn ?_)))))))
  cases h
  exact we J Tryz.func148 [] Q Q Q Q
 refine wy 6 hc Q (ws J 1 Q ?_)
 obtain ⟨x1,d,h⟩:=ob h
 refine WPr.sx J d Q Q Q Q Q Q Q Q Q ?_
 obtain ⟨x2,e,h⟩:=ob h
 refine wc (z169_ct N x1 _ e) [] [] Q Q Q Q Q Q Q Q (.inl rfl) rfl (xw [9,10,11,12] (zz0 [(0,.c (.s s_)),(2,.O false),(12,.O (!x2))]) J 3 ?_)
 rcases oc h with ⟨hc,h⟩ | ⟨hc,h⟩
 ·refine wy 12 hc Q (wx (zz0 [(0,.c (.s s_)),(2,.O false),(16,.O true)]) J 4 (wn (wt Q Q (wq (wg (ws J 1 Q (wn ?_)))))))
  cases h
  exact we J Tryz.func148 [] Q Q Q Q
 refine wy 12 hc Q (wx (zz0 [(0,.c (.s s_)),(2,.O false),(16,.O (decide ((s_.size:Int) > 16)))]) J 4 (wn ?_))
 rcases oc h with ⟨hc,h⟩ | ⟨hc,h⟩
 ·refine wt hc Q (wq (wg (ws J 1 Q (wn ?_))))
  cases h
  exact we J Tryz.func148 [] Q Q Q Q
 refine wf hc Q (wi (wq (wq (wg (ws J 1 Q (wn ?_))))))
 refine wC (σ:=Unit) (fun st=>(zz0 [])) (fun st=>z148_k1=some r) ?_ (fun j1=>?_)
 ·intro _ h
  replace h:z148_k1=some r:=h
  unfold z148_k1 at h
  refine wq (wg (ws J 1 Q (wn ?_)))
  cases h
  exact we J Tryz.func148 [] Q Q Q Q
 refine wo ?_
 refine wI (σ:=Int) (fun st=>(zz0 [(0,.c (.s s_)),(3,.I st)])) (fun n st=>z148_l2 N s_ n st) (r:=r) (fun _=>rfl) ?_ (fun ih=>?_)
 ·intro n2 ih3
  intro f h
  replace h:z148_l2 N s_ (n2+1) f=some r:=h
  unfold z148_l2 at h
  refine wq (wq (wg (wx (zz0 [(0,.c (.s s_)),(3,.I f),(20,.O (decide (f < (s_.size:Int))))]) J 4 (wn ?_))))
  rcases oc' h with ⟨hc,h⟩ | ⟨hc,h⟩
  ·exact wf hc Q (wz rfl (wu [] (j1 () h) Q Q Q Q))
  refine wt hc Q (wi (wq (wo (wq (wg (ws J 2 Q ?_))))))
  obtain ⟨g,j,h⟩:=ob h
  refine WPr.sx J j Q Q Q Q Q Q Q Q Q (xw [3,4] (zz0 [(0,.c (.s s_)),(3,.I f),(25,.c (.i .u8 g))]) J 0 ?_)
  obtain ⟨k,l,h⟩:=ob h
  refine wc (z170_ct N g _ l) [] [] Q Q Q Q Q Q Q Q (.inl rfl) rfl (wx (zz0 [(0,.c (.s s_)),(3,.I f),(27,.O (!k))]) J 1 (wn ?_))
  rcases oc h with ⟨hc,h⟩ | ⟨hc,h⟩
  ·refine wt hc Q (wq (wg (ws J 1 Q (wn ?_))))
   cases h
   exact we J Tryz.func148 [] Q Q Q Q
  exact wf hc Q (wi (wb (wg (wx (zz0 [(0,.c (.s s_)),(3,.I (w64 (f+1)))]) J 3 (wn (wu [] (ih3 (w64 (f+1)) h) Q Q Q Q))))))
 exact wu [] (ih N 0 h) Q Q Q Q
theorem z150_ct (N:Nat) (r:(List ByteArray)) (h:z150 N=some r) :
 Fn Tryz.prog 150 ⟨0,[],[],[],1,.S 0,[],[(0,.own rS r true)]⟩:=by
 refine Fn.intro _ _ Tryz.func150 rfl (by kernel_rfl) rfl (fun E F w=>?_)
 unfold z150 at h
 refine wq (wg (ws J 1 Q (wn (wq (wg (WPr.bs (cs:=[.s (str [97,103,97,105,110]),.s (str [97,110,100]),.s (str [97,115]),.s (str [97,116]),.s (str [99,97,108,108]),.s (str [99,104,111,105,99,101]),.s (str [101,108,115,101]),.s (str [102,114,111,109]),.s (str [105,102]),.s (str [105,110,116]),.s (str [108,101,110]),.s (str [108,111,111,112]),.s (str [109,101,115,115,97,103,101]),.s (str [111,102]),.s (str [111,102,102,101,114]),.s (str [111,110]),.s (str [111,114]),.s (str [112,97,114]),.s (str [112,108,97,121,115]),.s (str [112,114,111,116,111,99,111,108]),.s (str [115,101,114,118,105,99,101]),.s (str [116,101,120,116]),.s (str [116,105,109,101,115]),.s (str [116,111]),.s (str [118,97,114]),.s (str [119,104,101,114,101]),.s (str [119,104,105,108,101]),.s (str [119,105,116,104,105,110])]) oS J ([(str [97,103,97,105,110]),(str [97,110,100]),(str [97,115]),(str [97,116]),(str [99,97,108,108]),(str [99,104,111,105,99,101]),(str [101,108,115,101]),(str [102,114,111,109]),(str [105,102]),(str [105,110,116]),(str [108,101,110]),(str [108,111,111,112]),(str [109,101,115,115,97,103,101]),(str [111,102]),(str [111,102,102,101,114]),(str [111,110]),(str [111,114]),(str [112,97,114]),(str [112,108,97,121,115]),(str [112,114,111,116,111,99,111,108]),(str [115,101,114,118,105,99,101]),(str [116,101,120,116]),(str [116,105,109,101,115]),(str [116,111]),(str [118,97,114]),(str [119,104,101,114,101]),(str [119,104,105,108,101]),(str [119,105,116,104,105,110])]:List ByteArray) Q Q Q Q Q Q (by kernel_rfl) (by exact (an rfl (an rfl (an rfl (an rfl (an rfl (an rfl (an rfl (an rfl (an rfl (an rfl (an rfl (an rfl (an rfl (an rfl (an rfl (an rfl (an rfl (an rfl (an rfl (an rfl (an rfl (an rfl (an rfl (an rfl (an rfl (an rfl (an rfl (an Q Q))))))))))))))))))))))))))))) rfl (wx ⟨[(0,.S 0)],[(0,.own rS ([(str [97,103,97,105,110]),(str [97,110,100]),(str [97,115]),(str [97,116]),(str [99,97,108,108]),(str [99,104,111,105,99,101]),(str [101,108,115,101]),(str [102,114,111,109]),(str [105,102]),(str [105,110,116]),(str [108,101,110]),(str [108,111,111,112]),(str [109,101,115,115,97,103,101]),(str [111,102]),(str [111,102,102,101,114]),(str [111,110]),(str [111,114]),(str [112,97,114]),(str [112,108,97,121,115]),(str [112,114,111,116,111,99,111,108]),(str [115,101,114,118,105,99,101]),(str [116,101,120,116]),(str [116,105,109,101,115]),(str [116,111]),(str [118,97,114]),(str [119,104,101,114,101]),(str [119,104,105,108,101]),(str [119,105,116,104,105,110])]:List ByteArray) true)],[],1⟩ J 1 (wn ?_))))))))
 cases h
 exact we J Tryz.func150 [(0,.sl 0)] Q Q Q Q
theorem z149_ct (N:Nat) (l_:(List ByteArray)) (s_:ByteArray) (r:Bool) (h:z149 N l_ s_=some r) :
 Fn Tryz.prog 149 ⟨1,[.S 0,.c (.s s_)],[(0,.sl rS l_)],[],1,.O r,[],[]⟩:=by
 refine Fn.intro _ _ Tryz.func149 rfl (by kernel_rfl) rfl (fun E F w=>?_)
 unfold z149 at h
 refine wq (wg (ws J 1 Q (wn (wq (wq (wg (ws J 1 Q (wn ?_))))))))
 refine wC (σ:=Unit) (fun st=>(zz13 l_ [])) (fun st=>z149_k1=some r) ?_ (fun j1=>?_)
 ·intro _ h
  replace h:z149_k1=some r:=h
  unfold z149_k1 at h
  refine wq (wg (ws J 1 Q (wn ?_)))
  cases h
  exact we J Tryz.func149 [] Q Q Q Q
 refine wo ?_
 refine wI (σ:=Int) (fun st=>(zz13 l_ [(0,.S 0),(1,.c (.s s_)),(5,.I st)])) (fun n st=>z149_l2 l_ s_ n st) (r:=r) (fun _=>rfl) ?_ (fun ih=>?_)
 ·intro n2 ih3
  intro d h
  replace h:z149_l2 l_ s_ (n2+1) d=some r:=h
  unfold z149_l2 at h
  refine wq (wq (wg (wx (zz13 l_ [(0,.S 0),(1,.c (.s s_)),(5,.I d),(9,.O (decide (d < (l_.length:Int))))]) J 4 (wn ?_))))
  rcases oc' h with ⟨hc,h⟩ | ⟨hc,h⟩
  ·exact wf hc Q (wz rfl (wu [] (j1 () h) Q Q Q Q))
  refine wt hc Q (wi (wq (wo (wq (wg (ws J 2 Q ?_))))))
  obtain ⟨x9,e,h⟩:=ob h
  refine wj oS J e Q Q Q Q Q Q Q Q Q (wx (zz59 l_ [(0,.S 0),(1,.c (.s s_)),(5,.I d),(17,.O (x9.toList==s_.toList))]) J 3 (wn ?_))
  rcases oc h with ⟨hc,h⟩ | ⟨hc,h⟩
  ·refine wt hc Q (wq (wg (ws J 1 Q (wn ?_))))
   cases h
   exact we J Tryz.func149 [] Q Q Q Q
  exact wf hc Q (wi (wb (wg (wx (zz59 l_ [(0,.S 0),(1,.c (.s s_)),(5,.I (w64 (d+1)))]) J 3 (wn (wu [] (ih3 (w64 (d+1)) h) Q Q Q Q))))))
 exact wu [] (ih N 0 h) Q Q Q Q
theorem z112_ct (N:Nat) (s_:ByteArray) (r:Bool) (h:z112 N s_=some r) :
 Fn Tryz.prog 112 ⟨0,[.c (.s s_)],[],[],0,.O r,[],[]⟩:=by
 refine Fn.intro _ _ Tryz.func112 rfl (by kernel_rfl) rfl (fun E F w=>?_)
 unfold z112 at h
 refine wq (wg (ws J 1 Q (wn (wq (wg (ws J 1 Q ?_))))))
 obtain ⟨x1,d,h⟩:=ob h
 refine wc (z148_ct N s_ _ d) [] [] Q Q Q Q Q Q Q Q (.inl rfl) rfl (xw (rg 3 6) (zz0 [(0,.c (.s s_)),(5,.O x1)]) J 1 ?_)
 rcases oc' h with ⟨hc,h⟩ | ⟨hc,h⟩
 ·refine wy 5 hc Q (wx (zz0 [(2,.O false)]) J 6 (wn ?_))
  cases h
  exact we J Tryz.func112 [] Q Q Q Q
 refine wy 5 hc Q ?_
 obtain ⟨x2,e,h⟩:=ob h
 refine wc (z150_ct N _ e) [] [] Q Q Q Q Q Q Q Q (.inl rfl) rfl (xw [5,6,7,8] (zz16 x2 [(5,.O true),(6,.S 0),(7,.c (.s s_))]) J 1 ?_)
 obtain ⟨x3,f,h⟩:=ob h
 refine wc (z149_ct N x2 s_ _ f) [(0,.sl 0)] [0] Q Q Q Q Q Q Q Q (.inr ⟨rfl,trivial⟩) rfl (wx (zz23 [(2,.O (!x3))]) J 3 (wn ?_))
 cases h
 exact we J Tryz.func112 [] Q Q Q Q
theorem z76_ct (N:Nat) (l_:(List ByteArray)) (s_:ByteArray) (r:Int) (h:z76 N l_ s_=some r) :
 Fn Tryz.prog 76 ⟨1,[.S 0,.c (.s s_)],[(0,.sl rS l_)],[],1,.I r,[],[]⟩:=by
 refine Fn.intro _ _ Tryz.func76 rfl (by kernel_rfl) rfl (fun E F w=>?_)
 unfold z76 at h
 refine wq (wg (ws J 1 Q (wn (wq (wq (wg (ws J 1 Q (wn ?_))))))))
 refine wC (σ:=Unit) (fun st=>(zz13 l_ [])) (fun st=>z76_k1=some r) ?_ (fun j1=>?_)
 ·intro _ h
  replace h:z76_k1=some r:=h
  unfold z76_k1 at h
  refine wq (wg (ws J 1 Q (wn ?_)))
  cases h
  exact we J Tryz.func76 [] Q Q Q Q
 refine wo ?_
 refine wI (σ:=Int) (fun st=>(zz13 l_ [(0,.S 0),(1,.c (.s s_)),(5,.I st)])) (fun n st=>z76_l2 l_ s_ n st) (r:=r) (fun _=>rfl) ?_ (fun ih=>?_)
 ·intro n2 ih3
  intro d h
  replace h:z76_l2 l_ s_ (n2+1) d=some r:=h
  unfold z76_l2 at h
  refine wq (wq (wg (wx (zz13 l_ [(0,.S 0),(1,.c (.s s_)),(5,.I d),(9,.O (decide (d < (l_.length:Int))))]) J 4 (wn ?_))))
  rcases oc' h with ⟨hc,h⟩ | ⟨hc,h⟩
  ·exact wf hc Q (wz rfl (wu [] (j1 () h) Q Q Q Q))
  refine wt hc Q (wi (wq (wo (wq (wg (ws J 2 Q ?_))))))
  obtain ⟨x9,e,h⟩:=ob h
  refine wj oS J e Q Q Q Q Q Q Q Q Q (wx (zz59 l_ [(0,.S 0),(1,.c (.s s_)),(5,.I d),(17,.O (x9.toList==s_.toList))]) J 3 (wn ?_))
  rcases oc h with ⟨hc,h⟩ | ⟨hc,h⟩
  ·refine wt hc Q (wq (wg (ws J 2 Q (wn ?_))))
   cases h
   exact we J Tryz.func76 [] Q Q Q Q
  exact wf hc Q (wi (wb (wg (wx (zz59 l_ [(0,.S 0),(1,.c (.s s_)),(5,.I (w64 (d+1)))]) J 3 (wn (wu [] (ih3 (w64 (d+1)) h) Q Q Q Q))))))
 exact wu [] (ih N 0 h) Q Q Q Q
theorem z151_ct (N:Nat) (decls_:(List T0)) (r:Int) (h:z151 N decls_=some r) :
 Fn Tryz.prog 151 ⟨1,[.S 0],[(0,.sl rR0 decls_)],[],1,.I r,[],[]⟩:=by
 refine Fn.intro _ _ Tryz.func151 rfl (by kernel_rfl) rfl (fun E F w=>?_)
 unfold z151 at h
 refine wq (wg (ws J 1 Q (wn (wq (wg (ws J 1 Q (wn (wq (wq (wg (wx (zz10 decls_ [(0,.S 0),(2,.I 0),(3,.I 0),(4,.I 0)]) J 1 (wn ?_))))))))))))
 refine wC (σ:=Int) (fun st=>(zz10 decls_ [(3,.I st)])) (fun st=>z151_k1 st=some r) ?_ (fun j1=>?_)
 ·intro c h
  replace h:z151_k1 c=some r:=h
  unfold z151_k1 at h
  refine wq (wg (ws J 2 Q (wn ?_)))
  cases h
  exact we J Tryz.func151 [] Q Q Q Q
 refine wo ?_
 refine wI (σ:=Int × Int) (fun st=>(zz10 decls_ [(0,.S 0),(3,.I st.1),(4,.I st.2)])) (fun n st=>z151_l2 decls_ n st.1 st.2) (r:=r) (fun _=>rfl) ?_ (fun ih=>?_)
 ·intro n2 ih3
  rintro ⟨d,e⟩ h
  replace h:z151_l2 decls_ (n2+1) d e=some r:=h
  unfold z151_l2 at h
  refine wq (wq (wg (wx (zz10 decls_ [(0,.S 0),(3,.I d),(4,.I e),(8,.O (decide (e < (decls_.length:Int))))]) J 4 (wn ?_))))
  rcases oc' h with ⟨hc,h⟩ | ⟨hc,h⟩
  ·exact wf hc Q (wz rfl (wu [] (j1 d h) Q Q Q Q))
  refine wt hc Q (wi (wq (wo (wg (xw (rg 3 6) (zz10 decls_ [(0,.S 0),(4,.I e),(11,.I d),(12,.S 0),(13,.I e)]) J 3 ?_)))))
  obtain ⟨x9,f,h⟩:=ob h
  exact wj oO0 J f Q Q Q Q Q Q Q Q Q (wx ⟨[(0,.S 0),(3,.I (w64 (d+(x9.Fields.length:Int)))),(4,.I e)],[],[(0,.sl rR0 decls_)],5⟩ J 5 (wn (wb (wg (wx ⟨[(0,.S 0),(3,.I (w64 (d+(x9.Fields.length:Int)))),(4,.I (w64 (e+1)))],[],[(0,.sl rR0 decls_)],5⟩ J 3 (wn (wu [] (ih3 ((w64 (d+(x9.Fields.length:Int))),(w64 (e+1))) h) Q Q Q Q)))))))
 exact wu [] (ih N (0,0) h) Q Q Q Q
end Gx
end
