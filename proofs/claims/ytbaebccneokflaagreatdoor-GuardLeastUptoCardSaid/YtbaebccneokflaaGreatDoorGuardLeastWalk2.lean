/- Each function of the statement computes what its plain definition says, part 2. -/
import Derived.Test.YtbaebccneokflaaGreatDoorGuardLeastWalk1
set_option linter.all false
section
set_option maxRecDepth 10000
set_option maxHeartbeats 4000000
open Go Go.Kx Go.Proofs Tryz
namespace Gx
theorem z13_ct (N:Nat) (decls_:(List T0)) (label_:Int) (known_:(List T5)) (r:(List T5) × Bool) (h:z13 N decls_ label_ known_=some r) :
 Fn Tryz.prog 13 ⟨2,[.S 0,.I label_,.S 1],[(0,.sl rR0 decls_),(1,.sl rR5 known_)],[],3,.t [.inl (.sl 2),.inl (.b r.2)],[],[(2,.own rR5 r.1 true)]⟩:=by
 refine wF func13 Q Q (fun E F w=>?_)
 unfold z13 at h
 refine wR J 2 Q (wq (wq (wg (xw [3,4] (zz24 decls_ known_ [(0,.S 0),(1,.I label_),(2,.S 1),(6,.c .nil),(7,.O false),(24,.S 0),(25,.I label_),(26,.S 1)]) J 3 ?_))))
 obtain ⟨x1,d,h⟩:=ob h
 refine wc (z33_ct N decls_ label_ known_ _ d) [(0,.sl 0),(1,.sl 1)] [] Q Q Q Q Q Q Q Q (.inl rfl) rfl (wx (zz24 decls_ known_ [(0,.S 0),(1,.I label_),(2,.S 1),(6,.c .nil),(7,.O false),(28,.O (!x1))]) J 1 (wn ?_))
 obtain ⟨K,h⟩|⟨K,h⟩:=oc h
 ·refine wt K Q (wR J 2 Q ?_)
  cases h
  exact we J func13 [(2,.nil)] Q Q Q Q
 refine wf K Q (wi (wq (wg (ws J 2 Q ?_))))
 obtain ⟨x2,e,h⟩:=ob h
 refine wj oO0 J e Q Q Q Q Q Q Q Q Q (wx ⟨[(2,.S 1),(6,.c .nil),(7,.O false),(8,.B 6 0)],[(6,.box (cC0 3 4 5 x2) 44)],((0,.sl rR0 decls_)::(1,.sl rR5 known_)::vV0 3 4 5 x2 []),7⟩ J 3 (wn (wV ⟨[(2,.S 1),(6,.c .nil),(7,.O false),(8,.B 6 0),(9,.I (x2.Fields.length:Int))],[(6,.box (cC0 3 4 5 x2) 44)],((0,.sl rR0 decls_)::(1,.sl rR5 known_)::vV0 3 4 5 x2 []),7⟩ J 4 (wq (wg (ws J 1 Q ?_))))))
 obtain ⟨x3,f,h⟩:=ob h
 refine wc (z34_ct N (x2.Fields.length:Int) _ f) [] [] Q Q Q Q Q Q Q Q (.inl rfl) rfl (wx ⟨[(2,.S 1),(6,.c .nil),(7,.O false),(8,.B 6 0),(9,.I (x2.Fields.length:Int)),(10,.B 8 0)],[(6,.box (cC0 3 4 5 x2) 44),(8,.box [.I x3.1.N,.sl 7] 78)],((0,.sl rR0 decls_)::(1,.sl rR5 known_)::vV0 3 4 5 x2 [(7,.sl (rI .i64) x3.1.B)]),9⟩ J 6 (wn (wq (wq (wg (ws J 1 Q ?_))))))
 obtain ⟨x4,g,h⟩:=ob h
 refine wc (z35_ct N x2 _ g) [(0,.sl 3),(1,.sl 4),(2,.sl 5)] [] Q Q Q Q Q Q Q Q (.inl rfl) rfl (wx ⟨[(2,.S 1),(6,.c .nil),(7,.O false),(8,.B 6 0),(9,.I (x2.Fields.length:Int)),(10,.B 8 0),(42,.S 9),(43,.I (x4.length:Int)),(44,.I 0)],[(6,.box (cC0 3 4 5 x2) 44),(8,.box [.I x3.1.N,.sl 7] 78),(9,.own rR1 x4 true)],((0,.sl rR0 decls_)::(1,.sl rR5 known_)::vV0 3 4 5 x2 [(7,.sl (rI .i64) x3.1.B)]),10⟩ J 2 (wn ?_))
 refine wC (σ:=Int × (List Int)) (fun st=>⟨[(2,.S 1),(8,.B 6 0),(9,.I (x2.Fields.length:Int)),(10,.B 8 0)],[(6,.box (cC0 3 4 5 x2) 44),(8,.box [.I st.1,.sl 10] 78)],((0,.sl rR0 decls_)::(1,.sl rR5 known_)::vV0 3 4 5 x2 [(10,.sl (rI .i64) st.2)]),11⟩) (fun st=>z13_k3 N known_ x2 st.1 st.2=some r) ?_ (fun j1=>?_)
 ·rintro ⟨j,m⟩ h
  replace h:z13_k3 N known_ x2 j m=some r:=h
  unfold z13_k3 at h
  refine wq (wg (ws J 1 Q ?_))
  obtain ⟨o,p,h⟩:=ob h
  refine wc (z38_ct N (⟨j,m⟩:T8) _ p) [(0,.sl 10)] [] Q Q Q Q Q Q Q Q (.inl rfl) rfl (wx (zz71 x2 o.1 decls_ known_ [(2,.S 1),(8,.B 6 0),(9,.I (x2.Fields.length:Int)),(18,.S 11),(19,.O o.2)]) J 5 (wn (wq (wR J 2 Q ?_))))
  obtain ⟨K,h⟩|⟨K,h⟩:=oc h
  ·refine wt K Q (wV ⟨[(6,.c .nil),(7,.O false)],[],[(0,.sl rR0 decls_),(1,.sl rR5 known_)],12⟩ J 2 ?_)
   cases h
   exact we J func13 [(2,.nil)] Q Q Q Q
  refine wf K Q (wi (wq (wg (xw [1,2] (zz71 x2 o.1 decls_ known_ [(2,.S 1),(8,.B 6 0),(9,.I (x2.Fields.length:Int)),(18,.S 11),(126,.I (x2.Fields.length:Int))]) J 1 ?_))))
  obtain ⟨q,u,h⟩:=ob h
  refine WPr.mk oO5 J (⟨0,0,(str [])⟩:T5) u Q Q Q Q Q Q Q Q (by exact an (an rfl (an Q Q)) rfl) rfl (ws J 1 Q (wn (wq (wV (zz72 x2 o.1 q decls_ known_ [(2,.S 1),(8,.B 6 0),(9,.I (x2.Fields.length:Int)),(18,.S 11),(20,.S 12),(129,.S 3),(130,.I (x2.Fields.length:Int)),(131,.I 0)]) J 4 ?_))))
  refine wC (σ:=(List T5)) (fun st=>(zz73 x2 st decls_ known_ [(2,.S 1),(8,.B 6 0),(9,.I (x2.Fields.length:Int)),(20,.S 12)])) (fun st=>z13_k1 N known_ x2 st=some r) ?_ (fun j36=>?_)
  ·intro v h
   replace h:z13_k1 N known_ x2 v=some r:=h
   unfold z13_k1 at h
   refine wq (wg (xw [3,4] (zz73 x2 v decls_ known_ [(8,.B 6 0),(9,.I (x2.Fields.length:Int)),(20,.S 12),(161,.a (cC0 3 4 5 x2)),(162,.S 12),(163,.S 1)]) J 3 ?_))
   obtain ⟨x,y,h⟩:=ob h
   refine wc (z40_ct N x2 v known_ _ y) [(0,.sl 3),(1,.sl 4),(2,.sl 5),(3,.sl 12),(4,.sl 1)] [12] Q Q Q Q Q Q Q Q (.inr ⟨rfl,⟨(rM_flat (rP_flat (rI_flat _) (rP_flat (rI_flat _) rS_flat))),trivial⟩⟩) rfl (wx (zz62 x2 v x decls_ known_ [(8,.B 6 0),(9,.I (x2.Fields.length:Int)),(20,.S 12),(23,.S 13)]) J 1 (wn (wq (wg (ws J 2 Q ?_)))))
   obtain ⟨z,A,h⟩:=ob h
   refine wc (z41_ct N x2 x _ A) [(0,.sl 3),(1,.sl 4),(2,.sl 5),(3,.sl 13)] [] Q Q Q Q Q Q Q Q (.inl rfl) rfl (wx (zz62 x2 v z decls_ known_ [(8,.B 6 0),(9,.I (x2.Fields.length:Int)),(20,.S 12),(23,.S 13)]) J 0 (wn (wq (wg (xw [8,9] (zz62 x2 v z decls_ known_ [(8,.B 6 0),(20,.S 12),(23,.S 13),(168,.S 12),(169,.S 13),(171,.I x2.First),(175,.I (w64 (x2.First+(x2.Fields.length:Int))))]) J 8 ?_)))))
   obtain ⟨D,G,h⟩:=ob h
   refine WPr.vw J (l:=some (.i64,x2.First)) (h:=some (.i64,(w64 (x2.First+(x2.Fields.length:Int))))) G Q Q Q Q Q Q Q Q Q Q ?_
   obtain ⟨H,R,h⟩:=ob h
   refine WPr.cp J R (by exact (srcV G Q Q)) Q Q Q Q Q (Or.inr ⟨rfl,rfl,rfl⟩) Q Q Q Q (wx (zz74 x2 H.1 z decls_ known_ [(8,.B 6 0),(20,.S 12),(23,.S 13)]) J 0 (wn (wq (wq (wg (xw (rg 3 9) (zz74 x2 H.1 z decls_ known_ [(8,.B 6 0),(20,.S 12),(179,.a [.sl 4,.sl 5]),(180,.S 13)]) J 3 ?_))))))
   obtain ⟨T,U,h⟩:=ob h
   refine wc (z42_ct N x2.Guard z _ U) [(0,.sl 4),(1,.sl 5),(2,.sl 13)] [13] Q Q Q Q Q Q Q Q (.inr ⟨rfl,trivial⟩) rfl (xw (rg 6 6) ⟨[(8,.B 6 0),(20,.S 12),(183,.O (!T))],[(6,.box (cC0 3 4 5 x2) 44),(12,.own rR5 H.1 true)],((0,.sl rR0 decls_)::(1,.sl rR5 known_)::vV0 3 4 5 x2 []),15⟩ J 2 ?_)
   obtain ⟨K,h⟩|⟨K,h⟩:=oc h
   ·refine wy 183 K Q (wx (zz63 H.1 decls_ known_ [(20,.S 12),(189,.O true)]) J 6 (wn (wt Q Q (wR J 2 Q ?_))))
    cases h
    exact we J func13 [(2,.nil)] Q Q Q Q
   refine wy 183 K Q (xw [9,10,11] ⟨[(20,.S 12),(183,.O false),(185,.S 3),(186,.S 12)],[(12,.own rR5 H.1 true)],[(0,.sl rR0 decls_),(1,.sl rR5 known_),(3,.sl rR2 x2.Fields)],15⟩ J 3 ?_)
   obtain ⟨Z,a0,h⟩:=ob h
   refine wc (z43_ct N x2.Fields H.1 _ a0) [(0,.sl 3),(1,.sl 12)] [12] Q Q Q Q Q Q Q Q (.inr ⟨rfl,trivial⟩) rfl (wx (zz63 H.1 decls_ known_ [(20,.S 12),(189,.O (!Z))]) J 2 (wn ?_))
   obtain ⟨K,h⟩|⟨K,h⟩:=oc h
   ·refine wt K Q (wR J 2 Q ?_)
    cases h
    exact we J func13 [(2,.nil)] Q Q Q Q
   refine wf K Q (wi (wV (zz63 H.1 decls_ known_ [(6,.S 12),(7,.O true)]) J 3 ?_))
   cases h
   exact we J func13 [(2,.sl 12)] Q Q Q Q
  refine wo ?_
  refine wI (σ:=(List T5) × Int) (fun st=>(zz72 x2 o.1 st.1 decls_ known_ [(2,.S 1),(8,.B 6 0),(9,.I (x2.Fields.length:Int)),(18,.S 11),(20,.S 12),(129,.S 3),(130,.I (x2.Fields.length:Int)),(131,.I st.2)])) (fun n st=>z13_l2 N known_ x2 o n st.1 st.2) (r:=r) (fun _=>rfl) ?_ (fun ih=>?_)
  ·intro n9 ih38
   rintro ⟨b0,c0⟩ h
   replace h:z13_l2 N known_ x2 o (n9+1) b0 c0=some r:=h
   unfold z13_l2 at h
   refine wR J 1 Q (wq ?_)
   obtain ⟨K,h⟩|⟨K,h⟩:=oc' h
   ·exact wf K Q (wz rfl (wU (j36 b0 h)))
   refine wt K Q (wi (wq (wo (wq (wg (ws J 1 Q ?_))))))
   obtain ⟨d0,e0,h⟩:=ob h
   refine wj oO2 J e0 Q Q Q Q Q Q Q Q Q (wx ⟨[(2,.S 1),(8,.B 6 0),(9,.I (x2.Fields.length:Int)),(18,.S 11),(20,.S 12),(21,.I c0),(22,.B 14 0),(129,.S 3),(130,.I (x2.Fields.length:Int)),(131,.I c0)],[(6,.box (cC0 3 4 5 x2) 44),(11,.own (rI .i64) o.1 true),(12,.own rR5 b0 true),(14,.box (cC2 d0) 89)],((0,.sl rR0 decls_)::(1,.sl rR5 known_)::vV0 3 4 5 x2 []),15⟩ J 4 (wn (wq (wN (fun A9 f0 g0=>?_)))))
   have i0:A9 0 (zz34 [(20,.S 12)] [(136,.S 12)]):=f0 _ _ (wL J)
   have j0:A9 1 (zz34 [(21,.I c0)] [(137,.I c0)]):=f0 _ _ (wL J)
   have k0:A9 2 (zz34 [(22,.B 14 0)] [(138,.B 14 1)]):=f0 _ _ (wL J)
   have l0:A9 3 (zz34 [(138,.B 14 1)] [(139,.B 14 1)]):=f0 _ _ (wL J)
   have m0:A9 4 ⟨[(139,.B 14 1)],[],[],[(14,.box (cC2 d0) 89)],15,[(140,.I d0.Sort'.Kind)],[],[],15⟩:=f0 _ _ (wL J)
   have o0:A9 5 (zz34 [(18,.S 11)] [(141,.S 11)]):=f0 _ _ (wL J)
   have p0:A9 6 (zz34 [(21,.I c0)] [(142,.I c0)]):=f0 _ _ (wL J)
   obtain ⟨q0,s0,h⟩:=ob h
   have t0:A9 7 ⟨[(141,.S 11),(142,.I c0)],[],[],[(11,.own (rI .i64) o.1 true)],15,[(143,.P 15 0)],[(15,.el 11 ((c0).toNat * ((rI .i64)).sz))],[],16⟩:=f0 _ _ (wO Q Q Q (fun _ _ _ _ _ _ _ k=>wX J s0 Q Q Q Q Q Q Q Q Q (k)) rfl)
   have u0:A9 8 ⟨[(143,.P 15 0)],[(15,.el 11 ((c0).toNat * ((rI .i64)).sz))],[],[(11,.own (rI .i64) o.1 true)],16,[(144,.I q0)],[],[],16⟩:=f0 _ _ (wO Q Q Q (fun _ _ _ _ _ _ _ k=>wd (oI .i64) J s0 Q Q Q Q Q Q Q Q Q Q (k)) rfl)
   have v0:A9 9 ⟨[(140,.I d0.Sort'.Kind),(144,.I q0)],[],[],[],16,[(145,.a [.I d0.Sort'.Kind,.I q0,.s (str [])])],[],[],16⟩:=f0 _ _ (wL J)
   obtain ⟨x0,y0,h⟩:=ob h
   have z0:A9 10 ⟨[(136,.S 12),(137,.I c0)],[],[],[(12,.own rR5 b0 true)],16,[(146,.P 16 0)],[(16,.el 12 ((c0).toNat * (rR5).sz))],[],17⟩:=f0 _ _ (wO Q Q Q (fun _ _ _ _ _ _ _ k=>wX J y0 Q Q Q Q Q Q Q Q Q (k)) rfl)
   have A0:A9 11 ⟨[(145,.a [.I d0.Sort'.Kind,.I q0,.s (str [])]),(146,.P 16 0)],[(16,.el 12 ((c0).toNat * (rR5).sz))],[(12,.own rR5 b0 true)],[],17,[],[],[(12,.own rR5 (setL' b0 c0 (⟨d0.Sort'.Kind,q0,(str [])⟩:T5)) true)],17⟩:=f0 _ _ (wO Q Q Q (fun _ _ _ _ _ _ _ k=>WPr.sto oO5 J (⟨d0.Sort'.Kind,q0,(str [])⟩:T5) y0 Q Q Q Q Q Q Q Q Q Q (by exact (an rfl (an Q Q))) rfl (k)) rfl)
   refine wD (t:=⟨[(2,.S 1),(8,.B 6 0),(9,.I (x2.Fields.length:Int)),(18,.S 11),(20,.S 12),(21,.I c0),(22,.B 14 0),(129,.S 3),(130,.I (x2.Fields.length:Int)),(131,.I c0)],[(6,.box (cC0 3 4 5 x2) 44),(11,.own (rI .i64) o.1 true),(12,.own rR5 (setL' b0 c0 (⟨d0.Sort'.Kind,q0,(str [])⟩:T5)) true),(14,.box (cC2 d0) 89)],((0,.sl rR0 decls_)::(1,.sl rR5 known_)::vV0 3 4 5 x2 []),17⟩) [0,0,0,4,12,0,0,96,224,508,1023,2047] (.cons (g0 _ _ i0) (.cons (g0 _ _ j0) (.cons (g0 _ _ k0) (.cons (g0 _ _ l0) (.cons (g0 _ _ m0) (.cons (g0 _ _ o0) (.cons (g0 _ _ p0) (.cons (g0 _ _ t0) (.cons (g0 _ _ u0) (.cons (g0 _ _ v0) (.cons (g0 _ _ z0) (.cons (g0 _ _ A0) .nil)))))))))))) (by kernel_rfl) (by kernel_rfl) (by kernel_rfl) (by kernel_rfl) (wq (wg (wx (zz75 x2 o.1 (setL' b0 c0 (⟨d0.Sort'.Kind,q0,(str [])⟩:T5)) decls_ known_ [(2,.S 1),(8,.B 6 0),(9,.I (x2.Fields.length:Int)),(18,.S 11),(20,.S 12),(21,.I c0),(129,.S 3),(130,.I (x2.Fields.length:Int)),(131,.I c0),(150,.O (d0.Sort'.Kind==2))]) J 4 (wn ?_))))
   obtain ⟨K,h⟩|⟨K,h⟩:=oc' h
   ·exact wf K Q (wi (wb (wS J 2 Q (wU (ih38 ((setL' b0 c0 (⟨d0.Sort'.Kind,q0,(str [])⟩:T5)),(w64 (c0+1))) h)))))
   refine wt K Q (wg (xw (rg 4 6) (zz75 x2 o.1 (setL' b0 c0 (⟨d0.Sort'.Kind,q0,(str [])⟩:T5)) decls_ known_ [(2,.S 1),(8,.B 6 0),(9,.I (x2.Fields.length:Int)),(18,.S 11),(20,.S 12),(129,.S 3),(130,.I (x2.Fields.length:Int)),(131,.I c0),(151,.S 12),(152,.I c0),(153,.S 11),(154,.I c0)]) J 4 ?_))
   obtain ⟨B0,C0,h⟩:=ob h
   refine wX J C0 Q Q Q Q Q Q Q Q Q (wd (oI .i64) J C0 Q Q Q Q Q Q Q Q Q Q ?_)
   obtain ⟨D0,G0,h⟩:=ob h
   refine wc (z39_ct N (str [97]) B0 _ G0) [] [] Q Q Q Q Q Q Q Q (.inl rfl) rfl (xw [8,9] ⟨[(2,.S 1),(8,.B 6 0),(9,.I (x2.Fields.length:Int)),(18,.S 11),(20,.S 12),(129,.S 3),(130,.I (x2.Fields.length:Int)),(131,.I c0),(151,.S 12),(152,.I c0),(158,.a [.I 2,.I 0,.s D0])],[(6,.box (cC0 3 4 5 x2) 44),(11,.own (rI .i64) o.1 true),(12,.own rR5 (setL' b0 c0 (⟨d0.Sort'.Kind,q0,(str [])⟩:T5)) true)],((0,.sl rR0 decls_)::(1,.sl rR5 known_)::vV0 3 4 5 x2 []),18⟩ J 1 ?_)
   obtain ⟨H0,I0,h⟩:=ob h
   exact wX J I0 Q Q Q Q Q Q Q Q Q (WPr.sto oO5 J (⟨2,0,D0⟩:T5) I0 Q Q Q Q Q Q Q Q Q Q (by exact (an rfl (an Q Q))) rfl (wn (wb (wg (wx ⟨[(2,.S 1),(8,.B 6 0),(9,.I (x2.Fields.length:Int)),(18,.S 11),(20,.S 12),(129,.S 3),(130,.I (x2.Fields.length:Int)),(131,.I (w64 (c0+1)))],[(6,.box (cC0 3 4 5 x2) 44),(11,.own (rI .i64) o.1 true),(12,.own rR5 (setL' (setL' b0 c0 (⟨d0.Sort'.Kind,q0,(str [])⟩:T5)) c0 (⟨2,0,D0⟩:T5)) true)],((0,.sl rR0 decls_)::(1,.sl rR5 known_)::vV0 3 4 5 x2 []),19⟩ J 2 (wn (wU (ih38 ((setL' (setL' b0 c0 (⟨d0.Sort'.Kind,q0,(str [])⟩:T5)) c0 (⟨2,0,D0⟩:T5)),(w64 (c0+1))) h))))))))
  exact wU (ih N (q,0) h)
 refine wo ?_
 refine wI (σ:=Int × (List Int) × Int) (fun st=>⟨[(2,.S 1),(8,.B 6 0),(9,.I (x2.Fields.length:Int)),(10,.B 8 0),(42,.S 9),(43,.I (x4.length:Int)),(44,.I st.2.2)],[(6,.box (cC0 3 4 5 x2) 44),(8,.box [.I st.1,.sl 10] 78),(9,.own rR1 x4 true)],((0,.sl rR0 decls_)::(1,.sl rR5 known_)::vV0 3 4 5 x2 [(10,.sl (rI .i64) st.2.1)]),11⟩) (fun n st=>z13_l4 N known_ x2 x4 n st.1 st.2.1 st.2.2) (r:=r) (fun _=>rfl) ?_ (fun ih=>?_)
 ·intro n14 ih39
  rintro ⟨L0,M0,O0⟩ h
  replace h:z13_l4 N known_ x2 x4 (n14+1) L0 M0 O0=some r:=h
  unfold z13_l4 at h
  refine wR J 1 Q (wq ?_)
  obtain ⟨K,h⟩|⟨K,h⟩:=oc' h
  ·exact wf K Q (wz rfl (wU (j1 (L0,M0) h)))
  refine wt K Q (wi (wq (wo (wq (wg ?_)))))
  obtain ⟨R0,S0,h⟩:=ob h
  refine wX J S0 Q Q Q Q Q Q Q Q Q (wd oO1 J S0 Q Q Q Q Q Q Q Q Q Q (wx (zz76 x2 L0 x4 R0 decls_ known_ M0 [(2,.S 1),(8,.B 6 0),(9,.I (x2.Fields.length:Int)),(10,.B 8 0),(13,.B 12 0),(42,.S 9),(43,.I (x4.length:Int)),(44,.I O0)]) J 2 (wn (wV (zz76 x2 L0 x4 R0 decls_ known_ M0 [(2,.S 1),(8,.B 6 0),(9,.I (x2.Fields.length:Int)),(10,.B 8 0),(13,.B 12 0),(14,.I R0.C),(42,.S 9),(43,.I (x4.length:Int)),(44,.I O0)]) J 3 (wV ⟨[(2,.S 1),(8,.B 6 0),(9,.I (x2.Fields.length:Int)),(10,.B 8 0),(13,.B 12 0),(14,.I R0.C),(15,.B 13 0),(42,.S 9),(43,.I (x4.length:Int)),(44,.I O0)],[(6,.box (cC0 3 4 5 x2) 44),(8,.box [.I L0,.sl 10] 78),(9,.own rR1 x4 true),(12,.box (cC1 R0) 48),(13,.box [.I (-1),.I (-1)] 49)],((0,.sl rR0 decls_)::(1,.sl rR5 known_)::vV0 3 4 5 x2 [(10,.sl (rI .i64) M0)]),14⟩ J 3 (wq (wV ⟨[(2,.S 1),(8,.B 6 0),(9,.I (x2.Fields.length:Int)),(10,.B 8 0),(14,.I R0.C),(15,.B 13 0),(42,.S 9),(43,.I (x4.length:Int)),(44,.I O0),(55,.a [.I R0.X,.I R0.Y]),(56,.I 0)],[(6,.box (cC0 3 4 5 x2) 44),(8,.box [.I L0,.sl 10] 78),(9,.own rR1 x4 true),(13,.box [.I (-1),.I (-1)] 49)],((0,.sl rR0 decls_)::(1,.sl rR5 known_)::vV0 3 4 5 x2 [(10,.sl (rI .i64) M0)]),14⟩ J 6 ?_)))))))
  refine wC (σ:=Int × Int × Int) (fun st=>(zz12 x2 L0 x4 st.2.1 st.2.2 decls_ known_ M0 [(2,.S 1),(8,.B 6 0),(9,.I (x2.Fields.length:Int)),(10,.B 8 0),(14,.I st.1),(15,.B 13 0),(42,.S 9),(43,.I (x4.length:Int)),(44,.I O0)])) (fun st=>z13_k5 N L0 M0 O0 (z13_l4 N known_ x2 x4 n14) st.1 st.2.1 st.2.2=some r) ?_ (fun j62=>?_)
  ·rintro ⟨T0,U0,V0⟩ h
   replace h:z13_k5 N L0 M0 O0 (z13_l4 N known_ x2 x4 n14) T0 U0 V0=some r:=h
   unfold z13_k5 at h
   refine wg (ws J 1 Q (WPr.axb (len:=2) (el:=3) (es:=1) 0 Q Q Q Q Q (by kernel_rfl) (by kernel_rfl) Q Q Q Q (xw (rg 3 9) (zz12 x2 L0 x4 U0 V0 decls_ known_ M0 [(2,.S 1),(8,.B 6 0),(9,.I (x2.Fields.length:Int)),(10,.B 8 0),(14,.I T0),(15,.B 13 0),(42,.S 9),(43,.I (x4.length:Int)),(44,.I O0),(108,.a [.I L0,.sl 10]),(110,.I U0)]) J 1 (WPr.axb (len:=2) (el:=3) (es:=1) 1 Q Q Q Q Q (by kernel_rfl) (by kernel_rfl) Q Q Q Q (xw [7,8,9,10,11] ⟨[(2,.S 1),(8,.B 6 0),(9,.I (x2.Fields.length:Int)),(10,.B 8 0),(42,.S 9),(43,.I (x4.length:Int)),(44,.I O0),(108,.a [.I L0,.sl 10]),(114,.a [.I U0,.I V0,.I T0])],[(6,.box (cC0 3 4 5 x2) 44),(8,.box [.I L0,.sl 10] 78),(9,.own rR1 x4 true)],((0,.sl rR0 decls_)::(1,.sl rR5 known_)::vV0 3 4 5 x2 [(10,.sl (rI .i64) M0)]),14⟩ J 3 ?_)))))
   obtain ⟨X0,Y0,h⟩:=ob h
   exact wc (z37_ct N (⟨L0,M0⟩:T8) (⟨U0,V0,T0⟩:T1) _ Y0) [(0,.sl 10)] [] Q Q Q Q Q Q Q Q (.inl rfl) rfl (wx ⟨[(2,.S 1),(8,.B 6 0),(9,.I (x2.Fields.length:Int)),(10,.B 8 0),(42,.S 9),(43,.I (x4.length:Int)),(44,.I O0)],[(6,.box (cC0 3 4 5 x2) 44),(8,.box [.I X0.1.N,.sl 14] 78),(9,.own rR1 x4 true)],((0,.sl rR0 decls_)::(1,.sl rR5 known_)::vV0 3 4 5 x2 [(14,.sl (rI .i64) X0.1.B)]),15⟩ J 4 (wn (wb (wS J 2 Q (wu [(10,.sl 14)] (ih39 (X0.1.N,X0.1.B,(w64 (O0+1))) h) Q Q Q Q)))))
  refine wo ?_
  refine wI (σ:=Int × Int × Int × Int) (fun st=>(zz12 x2 L0 x4 st.2.1 st.2.2.1 decls_ known_ M0 [(2,.S 1),(8,.B 6 0),(9,.I (x2.Fields.length:Int)),(10,.B 8 0),(14,.I st.1),(15,.B 13 0),(42,.S 9),(43,.I (x4.length:Int)),(44,.I O0),(55,.a [.I R0.X,.I R0.Y]),(56,.I st.2.2.2)])) (fun n st=>z13_l6 N known_ x2 L0 M0 O0 (z13_l4 N known_ x2 x4 n14) R0 n st.1 st.2.1 st.2.2.1 st.2.2.2) (r:=r) (fun _=>rfl) ?_ (fun ih=>?_)
  ·intro n16 ih68
   rintro ⟨Z0,a1,b1,c1⟩ h
   replace h:z13_l6 N known_ x2 L0 M0 O0 (z13_l4 N known_ x2 x4 n14) R0 (n16+1) Z0 a1 b1 c1=some r:=h
   unfold z13_l6 at h
   refine wR J 1 Q (wq ?_)
   obtain ⟨K,h⟩|⟨K,h⟩:=oc' h
   ·exact wf K Q (wz rfl (wU (j62 (Z0,a1,b1) h)))
   refine wt K Q (wi (wq (wo (wq (wg (ws J 1 Q ?_))))))
   obtain ⟨d1,e1,h⟩:=ob h
   refine WPr.ax (len:=2) (el:=3) (SC.i .i64) ([R0.X,R0.Y]:List Int) e1 Q Q Q Q (by kernel_rfl) (by kernel_rfl) (by kernel_rfl) (by kernel_rfl) Q Q Q Q (wx (zz12 x2 L0 x4 a1 b1 decls_ known_ M0 [(2,.S 1),(8,.B 6 0),(9,.I (x2.Fields.length:Int)),(10,.B 8 0),(14,.I Z0),(15,.B 13 0),(16,.I c1),(17,.I d1),(42,.S 9),(43,.I (x4.length:Int)),(44,.I O0),(55,.a [.I R0.X,.I R0.Y]),(56,.I c1)]) J 2 (wn (wo (wV (zz12 x2 L0 x4 a1 b1 decls_ known_ M0 [(2,.S 1),(8,.B 6 0),(9,.I (x2.Fields.length:Int)),(10,.B 8 0),(14,.I Z0),(15,.B 13 0),(16,.I c1),(17,.I d1),(42,.S 9),(43,.I (x4.length:Int)),(44,.I O0),(55,.a [.I R0.X,.I R0.Y]),(56,.I c1),(67,.O (decide (d1 < 0)))]) J 3 ?_))))
   obtain ⟨K,h⟩|⟨K,h⟩:=oc h
   ·exact wt K Q (wi (wb (wb (wS J 2 Q (wU (ih68 (Z0,a1,b1,(w64 (c1+1))) h))))))
   refine wf K Q (wq (wg (xw (rg 5 8) (zz12 x2 L0 x4 a1 b1 decls_ known_ M0 [(2,.S 1),(8,.B 6 0),(9,.I (x2.Fields.length:Int)),(10,.B 8 0),(14,.I Z0),(15,.B 13 0),(16,.I c1),(17,.I d1),(42,.S 9),(43,.I (x4.length:Int)),(44,.I O0),(55,.a [.I R0.X,.I R0.Y]),(56,.I c1),(75,.O (decide (d1≥x2.First)))]) J 5 ?_)))
   refine WP.cutr (σ:=Bool) (fun st=>(zz12 x2 L0 x4 a1 b1 decls_ known_ M0 [(2,.S 1),(8,.B 6 0),(9,.I (x2.Fields.length:Int)),(10,.B 8 0),(14,.I Z0),(15,.B 13 0),(16,.I c1),(17,.I d1),(42,.S 9),(43,.I (x4.length:Int)),(44,.I O0),(55,.a [.I R0.X,.I R0.Y]),(56,.I c1),(70,.O st)])) (fun st=>z13_k7 N known_ x2 Z0 a1 b1 c1 (z13_l6 N known_ x2 L0 M0 O0 (z13_l4 N known_ x2 x4 n14) R0 n16) d1 st=some r) ?_ (fun j72=>?_)
   ·intro f1 h
    replace h:z13_k7 N known_ x2 Z0 a1 b1 c1 (z13_l6 N known_ x2 L0 M0 O0 (z13_l4 N known_ x2 x4 n14) R0 n16) d1 f1=some r:=h
    unfold z13_k7 at h
    obtain ⟨K,h⟩|⟨K,h⟩:=oc h
    ·refine wt K Q (wg (xw [5,6] (zz12 x2 L0 x4 a1 b1 decls_ known_ M0 [(2,.S 1),(8,.B 6 0),(9,.I (x2.Fields.length:Int)),(10,.B 8 0),(14,.I Z0),(15,.B 13 0),(42,.S 9),(43,.I (x4.length:Int)),(44,.I O0),(55,.a [.I R0.X,.I R0.Y]),(56,.I c1),(83,.I c1),(87,.I (w64 (d1-x2.First)))]) J 5 ?_))
     obtain ⟨K,h⟩|⟨K,h⟩:=oc h
     ·exact WPr.axb (len:=2) (el:=3) (es:=1) 0 (by exact eq_of_beq K) Q Q Q Q (by kernel_rfl) (by kernel_rfl) Q Q Q Q (ws J 1 Q (wn (wb (wb (wT (zz12 x2 L0 x4 (w64 (d1-x2.First)) b1 decls_ known_ M0 [(2,.S 1),(8,.B 6 0),(9,.I (x2.Fields.length:Int)),(10,.B 8 0),(14,.I Z0),(15,.B 13 0),(42,.S 9),(43,.I (x4.length:Int)),(44,.I O0),(55,.a [.I R0.X,.I R0.Y]),(56,.I (w64 (c1+1)))]) J 2 (wU (ih68 (Z0,(w64 (d1-x2.First)),b1,(w64 (c1+1))) h)))))))
     obtain ⟨K,h⟩|⟨K,h⟩:=oc h
     ·exact WPr.axb (len:=2) (el:=3) (es:=1) 1 (by exact eq_of_beq K) Q Q Q Q (by kernel_rfl) (by kernel_rfl) Q Q Q Q (ws J 1 Q (wn (wb (wb (wT (zz12 x2 L0 x4 a1 (w64 (d1-x2.First)) decls_ known_ M0 [(2,.S 1),(8,.B 6 0),(9,.I (x2.Fields.length:Int)),(10,.B 8 0),(14,.I Z0),(15,.B 13 0),(42,.S 9),(43,.I (x4.length:Int)),(44,.I O0),(55,.a [.I R0.X,.I R0.Y]),(56,.I (w64 (c1+1)))]) J 2 (wU (ih68 (Z0,a1,(w64 (d1-x2.First)),(w64 (c1+1))) h)))))))
     cases h
    refine wf K Q (wq (wg (ws J 2 Q ?_)))
    obtain ⟨g1,i1,h⟩:=ob h
    refine wj oO5 J i1 Q Q Q Q Q Q Q Q Q (wx (zz47 x2 L0 x4 a1 b1 decls_ known_ M0 [(2,.S 1),(8,.B 6 0),(9,.I (x2.Fields.length:Int)),(10,.B 8 0),(14,.I Z0),(15,.B 13 0),(16,.I c1),(17,.I d1),(42,.S 9),(43,.I (x4.length:Int)),(44,.I O0),(55,.a [.I R0.X,.I R0.Y]),(56,.I c1),(89,.O (g1.Kind==0))]) J 4 (wn ?_))
    obtain ⟨K,h⟩|⟨K,h⟩:=oc h
    ·refine wt K Q (wR J 2 Q ?_)
     cases h
     exact we J func13 [(2,.nil)] Q Q Q Q
    refine wf K Q (wV (zz47 x2 L0 x4 a1 b1 decls_ known_ M0 [(2,.S 1),(8,.B 6 0),(9,.I (x2.Fields.length:Int)),(10,.B 8 0),(14,.I Z0),(15,.B 13 0),(17,.I d1),(42,.S 9),(43,.I (x4.length:Int)),(44,.I O0),(55,.a [.I R0.X,.I R0.Y]),(56,.I c1),(96,.O (c1==0))]) J 3 ?_)
    obtain ⟨K,h⟩|⟨K,h⟩:=oc h
    ·refine wt K Q (wg (xw [3,4,5,6,7] (zz47 x2 L0 x4 a1 b1 decls_ known_ M0 [(2,.S 1),(8,.B 6 0),(9,.I (x2.Fields.length:Int)),(10,.B 8 0),(15,.B 13 0),(42,.S 9),(43,.I (x4.length:Int)),(44,.I O0),(55,.a [.I R0.X,.I R0.Y]),(56,.I c1),(99,.I Z0),(100,.S 1),(101,.I d1)]) J 3 ?_))
     obtain ⟨k1,l1,h⟩:=ob h
     refine wj oO5 J l1 Q Q Q Q Q Q Q Q Q (ws J 1 Q ?_)
     obtain ⟨m1,o1,h⟩:=ob h
     exact wc (z36_ct N k1 _ o1) [] [] Q Q Q Q Q Q Q Q (.inl rfl) rfl (wx (zz77 x2 L0 x4 a1 b1 decls_ known_ M0 [(2,.S 1),(8,.B 6 0),(9,.I (x2.Fields.length:Int)),(10,.B 8 0),(14,.I (w64 (Z0-m1))),(15,.B 13 0),(42,.S 9),(43,.I (x4.length:Int)),(44,.I O0),(55,.a [.I R0.X,.I R0.Y]),(56,.I c1)]) J 2 (wn (wb (wb (wS J 2 Q (wU (ih68 ((w64 (Z0-m1)),a1,b1,(w64 (c1+1))) h)))))))
    refine wf K Q (wg (xw [3,4,5,6,7] (zz47 x2 L0 x4 a1 b1 decls_ known_ M0 [(2,.S 1),(8,.B 6 0),(9,.I (x2.Fields.length:Int)),(10,.B 8 0),(15,.B 13 0),(42,.S 9),(43,.I (x4.length:Int)),(44,.I O0),(55,.a [.I R0.X,.I R0.Y]),(56,.I c1),(60,.I Z0),(61,.S 1),(62,.I d1)]) J 3 ?_))
    obtain ⟨p1,q1,h⟩:=ob h
    refine wj oO5 J q1 Q Q Q Q Q Q Q Q Q (ws J 1 Q ?_)
    obtain ⟨s1,t1,h⟩:=ob h
    exact wc (z36_ct N p1 _ t1) [] [] Q Q Q Q Q Q Q Q (.inl rfl) rfl (wx (zz77 x2 L0 x4 a1 b1 decls_ known_ M0 [(2,.S 1),(8,.B 6 0),(9,.I (x2.Fields.length:Int)),(10,.B 8 0),(14,.I (w64 (Z0+s1))),(15,.B 13 0),(42,.S 9),(43,.I (x4.length:Int)),(44,.I O0),(55,.a [.I R0.X,.I R0.Y]),(56,.I c1)]) J 2 (wn (wb (wb (wS J 2 Q (wU (ih68 ((w64 (Z0+s1)),a1,b1,(w64 (c1+1))) h)))))))
   obtain ⟨K,h⟩|⟨K,h⟩:=oc h
   ·exact wy 75 K Q (wx (zz12 x2 L0 x4 a1 b1 decls_ known_ M0 [(2,.S 1),(8,.B 6 0),(9,.I (x2.Fields.length:Int)),(10,.B 8 0),(14,.I Z0),(15,.B 13 0),(16,.I c1),(17,.I d1),(42,.S 9),(43,.I (x4.length:Int)),(44,.I O0),(55,.a [.I R0.X,.I R0.Y]),(56,.I c1),(70,.O (decide (d1 < (w64 (x2.First+(x2.Fields.length:Int))))))]) J 8 (wn (wU (j72 (decide (d1 < (w64 (x2.First+(x2.Fields.length:Int))))) h))))
   exact wy 75 K Q (wx (zz12 x2 L0 x4 a1 b1 decls_ known_ M0 [(2,.S 1),(8,.B 6 0),(9,.I (x2.Fields.length:Int)),(10,.B 8 0),(14,.I Z0),(15,.B 13 0),(16,.I c1),(17,.I d1),(42,.S 9),(43,.I (x4.length:Int)),(44,.I O0),(55,.a [.I R0.X,.I R0.Y]),(56,.I c1),(70,.O false)]) J 8 (wn (wU (j72 false h))))
  exact wU (ih N (R0.C,(-1),(-1),0) h)
 exact wu [(10,.sl 7)] (ih N (x3.1.N,x3.1.B,0) h) Q Q Q Q
theorem z49_ct (N:Nat) (v_:T5) (r:Int) (h:z49 N v_=some r) :
 Fn Tryz.prog 49 ⟨0,[.a (cC5 v_)],[],[],0,.I r,[],[]⟩:=by
 refine wF func49 Q Q (fun E F w=>?_)
 unfold z49 at h
 refine wR J 2 Q (wq (wV ⟨[(1,.B 0 0),(2,.I 0),(5,.O (v_.Kind==2))],[(0,.box (cC5 v_) 46)],[],1⟩ J 3 ?_))
 obtain ⟨K,h⟩|⟨K,h⟩:=oc h
 ·refine wt K Q (wV (zz9 [(2,.I (v_.S.size:Int))]) J 4 ?_)
  cases h
  exact we J func49 [] Q Q Q Q
 refine wf K Q (wi (wV (zz9 [(2,.I v_.N)]) J 3 ?_))
 cases h
 exact we J func49 [] Q Q Q Q
theorem z16_ct (N:Nat) (decls_:(List T0)) (label_:Int) (values_:(List T5)) (known_:(List T5)) (r:Bool) (h:z16 N decls_ label_ values_ known_=some r) :
 Fn Tryz.prog 16 ⟨3,[.S 0,.I label_,.S 1,.S 2],[(0,.sl rR0 decls_),(1,.sl rR5 values_),(2,.sl rR5 known_)],[],3,.O r,[],[]⟩:=by
 refine wF func16 Q Q (fun E F w=>?_)
 unfold z16 at h
 refine wR J 1 Q (wq (wq (wg (xw (rg 3 12) (zz16 decls_ values_ known_ [(0,.S 0),(1,.I label_),(2,.S 1),(3,.S 2),(8,.O false),(10,.S 0),(11,.I label_),(12,.S 2)]) J 3 ?_))))
 obtain ⟨x1,c,h⟩:=ob h
 refine wc (z33_ct N decls_ label_ known_ _ c) [(0,.sl 0),(1,.sl 2)] [] Q Q Q Q Q Q Q Q (.inl rfl) rfl (xw (rg 6 9) (zz16 decls_ values_ known_ [(0,.S 0),(1,.I label_),(2,.S 1),(3,.S 2),(8,.O false),(15,.O (!x1))]) J 2 ?_)
 obtain ⟨K,h⟩|⟨K,h⟩:=oc h
 ·refine wy 15 K Q (wx (zz16 decls_ values_ known_ [(0,.S 0),(1,.I label_),(2,.S 1),(3,.S 2),(8,.O false),(24,.O true)]) J 9 (wn (wt Q Q (wR J 1 Q ?_))))
  cases h
  exact we J func16 [] Q Q Q Q
 refine wy 15 K Q (ws J 2 Q ?_)
 obtain ⟨x2,d,h⟩:=ob h
 refine wj oO0 J d Q Q Q Q Q Q Q Q Q (xw [12,13,14] ⟨[(0,.S 0),(1,.I label_),(2,.S 1),(3,.S 2),(8,.O false),(15,.O false),(20,.S 4),(21,.S 1)],[],[(0,.sl rR0 decls_),(1,.sl rR5 values_),(2,.sl rR5 known_),(4,.sl rR2 x2.Fields)],7⟩ J 3 ?_)
 obtain ⟨x3,e,h⟩:=ob h
 refine wc (z43_ct N x2.Fields values_ _ e) [(0,.sl 4),(1,.sl 1)] [] Q Q Q Q Q Q Q Q (.inl rfl) rfl (wx (zz64 decls_ values_ known_ [(0,.S 0),(1,.I label_),(2,.S 1),(3,.S 2),(8,.O false),(24,.O (!x3))]) J 2 (wn ?_))
 obtain ⟨K,h⟩|⟨K,h⟩:=oc h
 ·refine wt K Q (wR J 1 Q ?_)
  cases h
  exact we J func16 [] Q Q Q Q
 refine wf K Q (wi (wq (wg (ws J 2 Q ?_))))
 obtain ⟨x4,f,h⟩:=ob h
 refine wj oO0 J f Q Q Q Q Q Q Q Q Q (wx ⟨[(2,.S 1),(3,.S 2),(8,.O false),(9,.B 11 0)],[(11,.box (cC0 8 9 10 x4) 44)],((0,.sl rR0 decls_)::(1,.sl rR5 values_)::(2,.sl rR5 known_)::vV0 8 9 10 x4 []),12⟩ J 3 (wn (wq (wN (fun A1 g i=>?_)))))
 have j:A1 0 ⟨[(9,.B 11 0)],[],[],[],12,[(29,.B 11 3)],[],[],12⟩:=g _ _ (wL J)
 have l:A1 1 ⟨[(29,.B 11 3)],(vV0 8 9 10 x4 []),[],[(11,.box (cC0 8 9 10 x4) 44)],12,[(30,.a [.sl 9,.sl 10])],[],[],12⟩:=g _ _ (wL J)
 have m:A1 2 ⟨[(9,.B 11 0)],(vV0 8 9 10 x4 []),[],[(11,.box (cC0 8 9 10 x4) 44)],12,[(31,.a (cC0 8 9 10 x4))],[],[],12⟩:=g _ _ (wL J)
 have o:A1 3 ⟨[(2,.S 1)],[(1,.sl rR5 values_)],[],[],12,[(32,.S 1)],[],[],12⟩:=g _ _ (wL J)
 have p:A1 4 ⟨[(3,.S 2)],[(2,.sl rR5 known_)],[],[],12,[(33,.S 2)],[],[],12⟩:=g _ _ (wL J)
 obtain ⟨q,s,h⟩:=ob h
 have u:A1 5 ⟨[(31,.a (cC0 8 9 10 x4)),(32,.S 1),(33,.S 2)],((1,.sl rR5 values_)::(2,.sl rR5 known_)::vV0 8 9 10 x4 []),[],[],12,[(34,.S 12)],[],[(12,.own rR5 q true)],13⟩:=g _ _ (wO Q Q Q (fun _ _ _ _ _ _ _ k=>wc (z40_ct N x4 values_ known_ _ s) [(0,.sl 8),(1,.sl 9),(2,.sl 10),(3,.sl 1),(4,.sl 2)] [] Q Q Q Q Q Q Q Q (.inl rfl) rfl (k)) rfl)
 obtain ⟨v,x,h⟩:=ob h
 have y:A1 6 ⟨[(30,.a [.sl 9,.sl 10]),(34,.S 12)],[(9,.sl rR1 x4.Guard.Diffs),(10,.sl (rP (rI .i64) (rI .i64)) x4.Guard.Equals)],[],[(12,.own rR5 q true)],13,[(35,.O v)],[],[],13⟩:=g _ _ (wO Q Q Q (fun _ _ _ _ _ _ _ k=>wc (z42_ct N x4.Guard q _ x) [(0,.sl 9),(1,.sl 10),(2,.sl 12)] [12] Q Q Q Q Q Q Q Q (.inr ⟨rfl,trivial⟩) rfl (k)) rfl)
 have z:A1 7 ⟨[(35,.O v)],[],[],[],13,[(8,.O v)],[],[],13⟩:=g _ _ (wL J)
 refine wD (t:=⟨[(8,.O v)],[],[(0,.sl rR0 decls_),(1,.sl rR5 values_),(2,.sl rR5 known_)],13⟩) [0,1,0,0,0,28,63,127] (.cons (i _ _ j) (.cons (i _ _ l) (.cons (i _ _ m) (.cons (i _ _ o) (.cons (i _ _ p) (.cons (i _ _ u) (.cons (i _ _ y) (.cons (i _ _ z) .nil)))))))) (by kernel_rfl) (by kernel_rfl) (by kernel_rfl) (by kernel_rfl) ?_
 cases h
 exact we J func16 [] Q Q Q Q
theorem z17_ct (N:Nat) (l_:(List T5)) (r:(List Int)) (h:z17 N l_=some r) :
 Fn Tryz.prog 17 ⟨1,[.S 0],[(0,.sl rR5 l_)],[],2,.S 1,[],[(1,.own (rI .i64) r true)]⟩:=by
 refine wF func17 Q Q (fun E F w=>?_)
 unfold z17 at h
 refine wR J 1 Q (wR J 1 Q (wq (wV ⟨[(0,.S 0),(2,.c .nil),(3,.c .nil),(6,.I (l_.length:Int)),(7,.I 0)],[],[(0,.sl rR5 l_)],1⟩ J 3 ?_)))
 refine wC (σ:=(List Int)) (fun st=>(zz48 st l_ [(3,.S 1)])) (fun st=>z17_k1 st=some r) ?_ (fun j1=>?_)
 ·intro d h
  replace h:z17_k1 d=some r:=h
  unfold z17_k1 at h
  refine wR J 2 Q ?_
  cases h
  exact we J func17 [(1,.sl 1)] Q Q Q Q
 refine wo ?_
 refine wI (σ:=(List Int) × Int) (fun st=>(zz48 st.1 l_ [(0,.S 0),(3,.S 1),(6,.I (l_.length:Int)),(7,.I st.2)])) (fun n st=>z17_l2 N l_ n st.1 st.2) (r:=r) (fun _=>rfl) ?_ (fun ih=>?_)
 ·intro n2 ih3
  rintro ⟨e,f⟩ h
  replace h:z17_l2 N l_ (n2+1) e f=some r:=h
  unfold z17_l2 at h
  refine wR J 1 Q (wq ?_)
  obtain ⟨K,h⟩|⟨K,h⟩:=oc' h
  ·exact wf K Q (wz rfl (wU (j1 e h)))
  refine wt K Q (wi (wq (wo (wV (zz48 e l_ [(0,.S 0),(3,.S 1),(4,.I f),(6,.I (l_.length:Int)),(7,.I f)]) J 2 (wg (xw (rg 3 6) (zz48 e l_ [(0,.S 0),(6,.I (l_.length:Int)),(7,.I f),(10,.S 1),(11,.S 0),(12,.I f)]) J 3 ?_))))))
  obtain ⟨g,i,h⟩:=ob h
  refine wj oO5 J i Q Q Q Q Q Q Q Q Q (ws J 1 Q ?_)
  obtain ⟨j,k,h⟩:=ob h
  refine wc (z49_ct N g _ k) [] [] Q Q Q Q Q Q Q Q (.inl rfl) rfl (xw [6,7,8] ⟨[(0,.S 0),(6,.I (l_.length:Int)),(7,.I f),(10,.S 1),(15,.I j)],[(1,.own (rI .i64) e true)],[(0,.sl rR5 l_)],3⟩ J 0 (WPr.bs (cs:=[.I j]) (oI .i64) J ([j]:List Int) Q Q Q Q Q Q (by kernel_rfl) (by exact (an Q Q)) rfl ?_))
  obtain ⟨l,m,h⟩:=ob h
  exact WPr.app J m (by exact (srcO rfl)) Q Q Q Q Q Q Q Q Q Q (wx ⟨[(0,.S 0),(3,.S 4),(6,.I (l_.length:Int)),(7,.I f)],[(4,.own (rI .i64) l true)],[(0,.sl rR5 l_)],5⟩ J 1 (wn (wb (wS J 2 Q (wu [(1,.sl 4)] (ih3 (l,(w64 (f+1))) h) Q Q Q Q)))))
 exact wu [(1,.nil)] (ih N (([]:List Int),0) h) Q Q Q Q
theorem law14_GuardLeast_ct (N:Nat) (d_:(List T0)) (label_:Int) (c_:T6) (r:Bool) (h:law14_GuardLeast N d_ label_ c_=some r) :
 Fn Tryz.prog 4 ⟨3,[.S 0,.I label_,.a [.sl 1,.sl 2]],[(0,.sl rR0 d_),(1,.sl rR5 c_.Values),(2,.sl rR5 c_.Known)],[],3,.O r,[],[]⟩:=by
 refine wF func4 Q Q (fun E F w=>?_)
 unfold law14_GuardLeast at h
 refine wR J 2 Q (wq (wq (wg ?_)))
 obtain ⟨x1,c,h⟩:=ob h
 refine wc (z11_ct N _ c) [] [] Q Q Q Q Q Q Q Q (.inl rfl) rfl (xw (rg 3 8) (zz40 d_ c_.Values c_.Known [(0,.S 0),(1,.I label_),(5,.B 3 0),(6,.O false),(14,.O (!x1))]) J 2 ?_)
 obtain ⟨K,h⟩|⟨K,h⟩:=oc h
 ·refine wy 14 K Q (wx (zz40 d_ c_.Values c_.Known [(0,.S 0),(1,.I label_),(5,.B 3 0),(6,.O false),(22,.O true)]) J 8 (wn (wt Q Q (wq (wg ?_)))))
  obtain ⟨x2,d,h⟩:=ob h
  refine wc (z11_ct N _ d) [] [] Q Q Q Q Q Q Q Q (.inl rfl) rfl (wx ⟨[(6,.O x2)],[],[(0,.sl rR0 d_),(1,.sl rR5 c_.Values),(2,.sl rR5 c_.Known)],4⟩ J 1 (wn ?_))
  cases h
  exact we J func4 [] Q Q Q Q
 refine wy 14 K Q (xw [8,9,10] (zz40 d_ c_.Values c_.Known [(0,.S 0),(1,.I label_),(5,.B 3 0),(6,.O false),(14,.O false),(15,.S 0),(17,.S 1),(19,.S 2)]) J 5 ?_)
 obtain ⟨x3,e,h⟩:=ob h
 refine wc (z12_ct N d_ c_.Values c_.Known _ e) [(0,.sl 0),(1,.sl 1),(2,.sl 2)] [] Q Q Q Q Q Q Q Q (.inl rfl) rfl (wx (zz40 d_ c_.Values c_.Known [(0,.S 0),(1,.I label_),(5,.B 3 0),(6,.O false),(22,.O (!x3))]) J 2 (wn ?_))
 obtain ⟨K,h⟩|⟨K,h⟩:=oc h
 ·refine wt K Q (wq (wg ?_))
  obtain ⟨x4,f,h⟩:=ob h
  refine wc (z11_ct N _ f) [] [] Q Q Q Q Q Q Q Q (.inl rfl) rfl (wx ⟨[(6,.O x4)],[],[(0,.sl rR0 d_),(1,.sl rR5 c_.Values),(2,.sl rR5 c_.Known)],4⟩ J 1 (wn ?_))
  cases h
  exact we J func4 [] Q Q Q Q
 refine wf K Q (wi (wq (wg (xw (rg 4 6) (zz40 d_ c_.Values c_.Known [(0,.S 0),(1,.I label_),(5,.B 3 0),(6,.O false),(25,.S 0),(26,.I label_),(28,.S 2)]) J 4 ?_))))
 obtain ⟨x5,g,h⟩:=ob h
 refine wc (z13_ct N d_ label_ c_.Known _ g) [(0,.sl 0),(1,.sl 2)] [] Q Q Q Q Q Q Q Q (.inl rfl) rfl (wx (zz19 x5.1 d_ c_.Values c_.Known [(0,.S 0),(1,.I label_),(5,.B 3 0),(6,.O false),(7,.S 4),(8,.O x5.2)]) J 5 (wn (wq (wq (wg (ws J 2 Q ?_))))))
 obtain ⟨K,h⟩|⟨K,h⟩:=oc' h
 ·refine wy 33 K Q (wx (zz19 x5.1 d_ c_.Values c_.Known [(0,.S 0),(1,.I label_),(5,.B 3 0),(6,.O false),(7,.S 4),(8,.O x5.2),(41,.O false)]) J 8 (wn (wf Q Q (wi (wq (wq (wg (xw [6,7] (zz19 x5.1 d_ c_.Values c_.Known [(5,.B 3 0),(6,.O false),(7,.S 4),(8,.O x5.2),(42,.S 0),(43,.I label_),(45,.S 1),(47,.S 2)]) J 6 ?_))))))))
  obtain ⟨i,j,h⟩:=ob h
  refine wc (z16_ct N d_ label_ c_.Values c_.Known _ j) [(0,.sl 0),(1,.sl 1),(2,.sl 2)] [] Q Q Q Q Q Q Q Q (.inl rfl) rfl (wx (zz19 x5.1 d_ c_.Values c_.Known [(5,.B 3 0),(6,.O false),(7,.S 4),(8,.O x5.2),(49,.O (!i))]) J 1 (wn ?_))
  obtain ⟨K,h⟩|⟨K,h⟩:=oc h
  ·refine wt K Q (wR J 1 Q ?_)
   cases h
   exact we J func4 [] Q Q Q Q
  refine wf K Q (wi (wq (wR J 2 Q ?_)))
  obtain ⟨K,h⟩|⟨K,h⟩:=oc h
  ·refine wt K Q (wV ⟨[(6,.O false)],[],[(0,.sl rR0 d_),(1,.sl rR5 c_.Values),(2,.sl rR5 c_.Known)],5⟩ J 1 ?_)
   cases h
   exact we J func4 [] Q Q Q Q
  refine wf K Q (wi (wq (wN (fun l m o=>?_))))
  have p:l 0 (zz2 [(7,.S 4)] [(52,.S 4)]):=m _ _ (wL J)
  obtain ⟨q,s,h⟩:=ob h
  have u:l 1 ⟨[(52,.S 4)],[],[],[(4,.own rR5 x5.1 true)],5,[(53,.S 5)],[],[(5,.own (rI .i64) q true)],6⟩:=m _ _ (wO Q Q Q (fun _ _ _ _ _ _ _ k=>wc (z17_ct N x5.1 _ s) [(0,.sl 4)] [4] Q Q Q Q Q Q Q Q (.inr ⟨rfl,⟨(rI_flat _),trivial⟩⟩) rfl (k)) rfl)
  have v:l 2 (zz6 [(5,.B 3 0)] [(54,.B 3 0)]):=m _ _ (wL J)
  have x:l 3 ⟨[(54,.B 3 0)],[(1,.sl rR5 c_.Values),(2,.sl rR5 c_.Known)],[],[(3,.box [.sl 1,.sl 2] 31)],6,[(55,.S 1)],[],[],6⟩:=m _ _ (wL J)
  obtain ⟨y,z,h⟩:=ob h
  have A:l 4 ⟨[(55,.S 1)],[(1,.sl rR5 c_.Values)],[],[],6,[(56,.S 6)],[],[(6,.own (rI .i64) y true)],7⟩:=m _ _ (wO Q Q Q (fun _ _ _ _ _ _ _ k=>wc (z17_ct N c_.Values _ z) [(0,.sl 1)] [] Q Q Q Q Q Q Q Q (.inl rfl) rfl (k)) rfl)
  have C:l 5 (zz1 [(53,.S 5)] [(9,.S 5)]):=m _ _ (wL J)
  have D:l 6 (zz1 [(56,.S 6)] [(10,.S 6)]):=m _ _ (wL J)
  refine wD (t:=(zz20 q y d_ c_.Values c_.Known [(6,.O false),(9,.S 5),(10,.S 6)])) [0,1,0,4,15,31,63] (.cons (o _ _ p) (.cons (o _ _ u) (.cons (o _ _ v) (.cons (o _ _ x) (.cons (o _ _ A) (.cons (o _ _ C) (.cons (o _ _ D) .nil))))))) (by kernel_rfl) (by kernel_rfl) (by kernel_rfl) (by kernel_rfl) (wq (wV (zz20 q y d_ c_.Values c_.Known [(6,.O false),(9,.S 5),(10,.S 6),(58,.I (q.length:Int)),(59,.I 0)]) J 3 ?_))
  refine wC (σ:=Unit) (fun st=>(zz64 d_ c_.Values c_.Known [])) (fun st=>law14_GuardLeast_k3=some r) ?_ (fun j4=>?_)
  ·intro _ h
   replace h:law14_GuardLeast_k3=some r:=h
   unfold law14_GuardLeast_k3 at h
   refine wR J 1 Q ?_
   cases h
   exact we J func4 [] Q Q Q Q
  refine wo ?_
  refine wI (σ:=Int) (fun st=>(zz20 q y d_ c_.Values c_.Known [(9,.S 5),(10,.S 6),(58,.I (q.length:Int)),(59,.I st)])) (fun n st=>law14_GuardLeast_l4 q y n st) (r:=r) (fun _=>rfl) ?_ (fun ih=>?_)
  ·intro n4 ih6
   intro G h
   replace h:law14_GuardLeast_l4 q y (n4+1) G=some r:=h
   unfold law14_GuardLeast_l4 at h
   refine wR J 1 Q (wq ?_)
   obtain ⟨K,h⟩|⟨K,h⟩:=oc' h
   ·exact wf K Q (wz rfl (wU (j4 () h)))
   refine wt K Q (wi (wq (wo (wV (zz20 q y d_ c_.Values c_.Known [(9,.S 5),(10,.S 6),(11,.I G),(58,.I (q.length:Int)),(59,.I G)]) J 2 (wq (wN (fun H R T=>?_)))))))
   have U:H 0 (zz1 [(9,.S 5)] [(62,.S 5)]):=R _ _ (wL J)
   have X:H 1 (zz1 [(11,.I G)] [(63,.I G)]):=R _ _ (wL J)
   obtain ⟨Y,Z,h⟩:=ob h
   have a0:H 2 ⟨[(62,.S 5),(63,.I G)],[],[],[(5,.own (rI .i64) q true)],7,[(64,.P 7 0)],[(7,.el 5 ((G).toNat * ((rI .i64)).sz))],[],8⟩:=R _ _ (wO Q Q Q (fun _ _ _ _ _ _ _ k=>wX J Z Q Q Q Q Q Q Q Q Q (k)) rfl)
   have b0:H 3 ⟨[(64,.P 7 0)],[(7,.el 5 ((G).toNat * ((rI .i64)).sz))],[],[(5,.own (rI .i64) q true)],8,[(65,.I Y)],[],[],8⟩:=R _ _ (wO Q Q Q (fun _ _ _ _ _ _ _ k=>wd (oI .i64) J Z Q Q Q Q Q Q Q Q Q Q (k)) rfl)
   have c0:H 4 (zz3 [(10,.S 6)] [(66,.S 6)]):=R _ _ (wL J)
   have d0:H 5 (zz3 [(11,.I G)] [(67,.I G)]):=R _ _ (wL J)
   obtain ⟨e0,f0,h⟩:=ob h
   have g0:H 6 ⟨[(66,.S 6),(67,.I G)],[],[],[(6,.own (rI .i64) y true)],8,[(68,.P 8 0)],[(8,.el 6 ((G).toNat * ((rI .i64)).sz))],[],9⟩:=R _ _ (wO Q Q Q (fun _ _ _ _ _ _ _ k=>wX J f0 Q Q Q Q Q Q Q Q Q (k)) rfl)
   have i0:H 7 ⟨[(68,.P 8 0)],[(8,.el 6 ((G).toNat * ((rI .i64)).sz))],[],[(6,.own (rI .i64) y true)],9,[(69,.I e0)],[],[],9⟩:=R _ _ (wO Q Q Q (fun _ _ _ _ _ _ _ k=>wd (oI .i64) J f0 Q Q Q Q Q Q Q Q Q Q (k)) rfl)
   have j0:H 8 (zz35 [(65,.I Y),(69,.I e0)] [(70,.O (Y != e0))]):=R _ _ (wL J)
   refine wD (t:=(zz78 q y d_ c_.Values c_.Known [(9,.S 5),(10,.S 6),(11,.I G),(58,.I (q.length:Int)),(59,.I G),(70,.O (Y != e0))])) [0,0,3,7,0,0,48,112,255] (.cons (T _ _ U) (.cons (T _ _ X) (.cons (T _ _ a0) (.cons (T _ _ b0) (.cons (T _ _ c0) (.cons (T _ _ d0) (.cons (T _ _ g0) (.cons (T _ _ i0) (.cons (T _ _ j0) .nil))))))))) (by kernel_rfl) (by kernel_rfl) (by kernel_rfl) (by kernel_rfl) ?_
   obtain ⟨K,h⟩|⟨K,h⟩:=oc' h
   ·exact wf K Q (wi (wb (wS J 2 Q (wU (ih6 (w64 (G+1)) h)))))
   refine wt K Q (wq (wN (fun k0 l0 m0=>?_)))
   have o0:k0 0 (zz35 [(9,.S 5)] [(71,.S 5)]):=l0 _ _ (wL J)
   have p0:k0 1 (zz35 [(11,.I G)] [(72,.I G)]):=l0 _ _ (wL J)
   obtain ⟨q0,s0,h⟩:=ob h
   have t0:k0 2 ⟨[(71,.S 5),(72,.I G)],[],[],[(5,.own (rI .i64) q true)],9,[(73,.P 9 0)],[(9,.el 5 ((G).toNat * ((rI .i64)).sz))],[],10⟩:=l0 _ _ (wO Q Q Q (fun _ _ _ _ _ _ _ k=>wX J s0 Q Q Q Q Q Q Q Q Q (k)) rfl)
   have u0:k0 3 ⟨[(73,.P 9 0)],[(9,.el 5 ((G).toNat * ((rI .i64)).sz))],[],[(5,.own (rI .i64) q true)],10,[(74,.I q0)],[],[],10⟩:=l0 _ _ (wO Q Q Q (fun _ _ _ _ _ _ _ k=>wd (oI .i64) J s0 Q Q Q Q Q Q Q Q Q Q (k)) rfl)
   have v0:k0 4 (zz33 [(10,.S 6)] [(75,.S 6)]):=l0 _ _ (wL J)
   have x0:k0 5 (zz33 [(11,.I G)] [(76,.I G)]):=l0 _ _ (wL J)
   obtain ⟨y0,z0,h⟩:=ob h
   have A0:k0 6 ⟨[(75,.S 6),(76,.I G)],[],[],[(6,.own (rI .i64) y true)],10,[(77,.P 10 0)],[(10,.el 6 ((G).toNat * ((rI .i64)).sz))],[],11⟩:=l0 _ _ (wO Q Q Q (fun _ _ _ _ _ _ _ k=>wX J z0 Q Q Q Q Q Q Q Q Q (k)) rfl)
   have B0:k0 7 ⟨[(77,.P 10 0)],[(10,.el 6 ((G).toNat * ((rI .i64)).sz))],[],[(6,.own (rI .i64) y true)],11,[(78,.I y0)],[],[],11⟩:=l0 _ _ (wO Q Q Q (fun _ _ _ _ _ _ _ k=>wd (oI .i64) J z0 Q Q Q Q Q Q Q Q Q Q (k)) rfl)
   have C0:k0 8 (zz49 [(74,.I q0),(78,.I y0)] [(79,.O (decide (q0 < y0)))]):=l0 _ _ (wL J)
   have D0:k0 9 (zz49 [(79,.O (decide (q0 < y0)))] [(6,.O (decide (q0 < y0)))]):=l0 _ _ (wL J)
   refine wD (t:=⟨[(6,.O (decide (q0 < y0)))],[],[(0,.sl rR0 d_),(1,.sl rR5 c_.Values),(2,.sl rR5 c_.Known)],11⟩) [0,0,3,7,0,0,48,112,255,511] (.cons (m0 _ _ o0) (.cons (m0 _ _ p0) (.cons (m0 _ _ t0) (.cons (m0 _ _ u0) (.cons (m0 _ _ v0) (.cons (m0 _ _ x0) (.cons (m0 _ _ A0) (.cons (m0 _ _ B0) (.cons (m0 _ _ C0) (.cons (m0 _ _ D0) .nil)))))))))) (by kernel_rfl) (by kernel_rfl) (by kernel_rfl) (by kernel_rfl) ?_
   cases h
   exact we J func4 [] Q Q Q Q
  exact wU (ih N 0 h)
 refine wy 33 K Q (xw [7,8,9] (zz19 x5.1 d_ c_.Values c_.Known [(0,.S 0),(1,.I label_),(5,.B 3 0),(6,.O false),(7,.S 4),(8,.O x5.2),(33,.O true),(34,.S 0),(35,.I label_),(36,.S 4),(38,.S 2)]) J 5 ?_)
 obtain ⟨x6,G0,h⟩:=ob h
 refine wc (z16_ct N d_ label_ x5.1 c_.Known _ G0) [(0,.sl 0),(1,.sl 4),(2,.sl 2)] [4] Q Q Q Q Q Q Q Q (.inr ⟨rfl,trivial⟩) rfl (wx (zz19 x5.1 d_ c_.Values c_.Known [(0,.S 0),(1,.I label_),(5,.B 3 0),(6,.O false),(7,.S 4),(8,.O x5.2),(41,.O (!x6))]) J 2 (wn ?_))
 obtain ⟨K,h⟩|⟨K,h⟩:=oc h
 ·refine wt K Q (wR J 1 Q ?_)
  cases h
  exact we J func4 [] Q Q Q Q
 refine wf K Q (wi (wq (wq (wg (xw [6,7] (zz19 x5.1 d_ c_.Values c_.Known [(5,.B 3 0),(6,.O false),(7,.S 4),(8,.O x5.2),(42,.S 0),(43,.I label_),(45,.S 1),(47,.S 2)]) J 6 ?_)))))
 obtain ⟨x7,H0,h⟩:=ob h
 refine wc (z16_ct N d_ label_ c_.Values c_.Known _ H0) [(0,.sl 0),(1,.sl 1),(2,.sl 2)] [] Q Q Q Q Q Q Q Q (.inl rfl) rfl (wx (zz19 x5.1 d_ c_.Values c_.Known [(5,.B 3 0),(6,.O false),(7,.S 4),(8,.O x5.2),(49,.O (!x7))]) J 1 (wn ?_))
 obtain ⟨K,h⟩|⟨K,h⟩:=oc h
 ·refine wt K Q (wR J 1 Q ?_)
  cases h
  exact we J func4 [] Q Q Q Q
 refine wf K Q (wi (wq (wR J 2 Q ?_)))
 obtain ⟨K,h⟩|⟨K,h⟩:=oc h
 ·refine wt K Q (wV ⟨[(6,.O false)],[],[(0,.sl rR0 d_),(1,.sl rR5 c_.Values),(2,.sl rR5 c_.Known)],5⟩ J 1 ?_)
  cases h
  exact we J func4 [] Q Q Q Q
 refine wf K Q (wi (wq (wN (fun A1 I0 L0=>?_))))
 have M0:A1 0 (zz2 [(7,.S 4)] [(52,.S 4)]):=I0 _ _ (wL J)
 obtain ⟨x9,O0,h⟩:=ob h
 have R0:A1 1 ⟨[(52,.S 4)],[],[],[(4,.own rR5 x5.1 true)],5,[(53,.S 5)],[],[(5,.own (rI .i64) x9 true)],6⟩:=I0 _ _ (wO Q Q Q (fun _ _ _ _ _ _ _ k=>wc (z17_ct N x5.1 _ O0) [(0,.sl 4)] [4] Q Q Q Q Q Q Q Q (.inr ⟨rfl,⟨(rI_flat _),trivial⟩⟩) rfl (k)) rfl)
 have S0:A1 2 (zz6 [(5,.B 3 0)] [(54,.B 3 0)]):=I0 _ _ (wL J)
 have T0:A1 3 ⟨[(54,.B 3 0)],[(1,.sl rR5 c_.Values),(2,.sl rR5 c_.Known)],[],[(3,.box [.sl 1,.sl 2] 31)],6,[(55,.S 1)],[],[],6⟩:=I0 _ _ (wL J)
 obtain ⟨U0,V0,h⟩:=ob h
 have X0:A1 4 ⟨[(55,.S 1)],[(1,.sl rR5 c_.Values)],[],[],6,[(56,.S 6)],[],[(6,.own (rI .i64) U0 true)],7⟩:=I0 _ _ (wO Q Q Q (fun _ _ _ _ _ _ _ k=>wc (z17_ct N c_.Values _ V0) [(0,.sl 1)] [] Q Q Q Q Q Q Q Q (.inl rfl) rfl (k)) rfl)
 have Y0:A1 5 (zz1 [(53,.S 5)] [(9,.S 5)]):=I0 _ _ (wL J)
 have Z0:A1 6 (zz1 [(56,.S 6)] [(10,.S 6)]):=I0 _ _ (wL J)
 refine wD (t:=(zz20 x9 U0 d_ c_.Values c_.Known [(6,.O false),(9,.S 5),(10,.S 6)])) [0,1,0,4,15,31,63] (.cons (L0 _ _ M0) (.cons (L0 _ _ R0) (.cons (L0 _ _ S0) (.cons (L0 _ _ T0) (.cons (L0 _ _ X0) (.cons (L0 _ _ Y0) (.cons (L0 _ _ Z0) .nil))))))) (by kernel_rfl) (by kernel_rfl) (by kernel_rfl) (by kernel_rfl) (wq (wV (zz20 x9 U0 d_ c_.Values c_.Known [(6,.O false),(9,.S 5),(10,.S 6),(58,.I (x9.length:Int)),(59,.I 0)]) J 3 ?_))
 refine wC (σ:=Unit) (fun st=>(zz64 d_ c_.Values c_.Known [])) (fun st=>law14_GuardLeast_k1=some r) ?_ (fun j1=>?_)
 ·intro _ h
  replace h:law14_GuardLeast_k1=some r:=h
  unfold law14_GuardLeast_k1 at h
  refine wR J 1 Q ?_
  cases h
  exact we J func4 [] Q Q Q Q
 refine wo ?_
 refine wI (σ:=Int) (fun st=>(zz20 x9 U0 d_ c_.Values c_.Known [(9,.S 5),(10,.S 6),(58,.I (x9.length:Int)),(59,.I st)])) (fun n st=>law14_GuardLeast_l2 x9 U0 n st) (r:=r) (fun _=>rfl) ?_ (fun ih=>?_)
 ·intro n2 ih3
  intro a1 h
  replace h:law14_GuardLeast_l2 x9 U0 (n2+1) a1=some r:=h
  unfold law14_GuardLeast_l2 at h
  refine wR J 1 Q (wq ?_)
  obtain ⟨K,h⟩|⟨K,h⟩:=oc' h
  ·exact wf K Q (wz rfl (wU (j1 () h)))
  refine wt K Q (wi (wq (wo (wV (zz20 x9 U0 d_ c_.Values c_.Known [(9,.S 5),(10,.S 6),(11,.I a1),(58,.I (x9.length:Int)),(59,.I a1)]) J 2 (wq (wN (fun b1 c1 d1=>?_)))))))
  have e1:b1 0 (zz1 [(9,.S 5)] [(62,.S 5)]):=c1 _ _ (wL J)
  have f1:b1 1 (zz1 [(11,.I a1)] [(63,.I a1)]):=c1 _ _ (wL J)
  obtain ⟨g1,i1,h⟩:=ob h
  have k1:b1 2 ⟨[(62,.S 5),(63,.I a1)],[],[],[(5,.own (rI .i64) x9 true)],7,[(64,.P 7 0)],[(7,.el 5 ((a1).toNat * ((rI .i64)).sz))],[],8⟩:=c1 _ _ (wO Q Q Q (fun _ _ _ _ _ _ _ k=>wX J i1 Q Q Q Q Q Q Q Q Q (k)) rfl)
  have l1:b1 3 ⟨[(64,.P 7 0)],[(7,.el 5 ((a1).toNat * ((rI .i64)).sz))],[],[(5,.own (rI .i64) x9 true)],8,[(65,.I g1)],[],[],8⟩:=c1 _ _ (wO Q Q Q (fun _ _ _ _ _ _ _ k=>wd (oI .i64) J i1 Q Q Q Q Q Q Q Q Q Q (k)) rfl)
  have m1:b1 4 (zz3 [(10,.S 6)] [(66,.S 6)]):=c1 _ _ (wL J)
  have o1:b1 5 (zz3 [(11,.I a1)] [(67,.I a1)]):=c1 _ _ (wL J)
  obtain ⟨p1,q1,h⟩:=ob h
  have s1:b1 6 ⟨[(66,.S 6),(67,.I a1)],[],[],[(6,.own (rI .i64) U0 true)],8,[(68,.P 8 0)],[(8,.el 6 ((a1).toNat * ((rI .i64)).sz))],[],9⟩:=c1 _ _ (wO Q Q Q (fun _ _ _ _ _ _ _ k=>wX J q1 Q Q Q Q Q Q Q Q Q (k)) rfl)
  have t1:b1 7 ⟨[(68,.P 8 0)],[(8,.el 6 ((a1).toNat * ((rI .i64)).sz))],[],[(6,.own (rI .i64) U0 true)],9,[(69,.I p1)],[],[],9⟩:=c1 _ _ (wO Q Q Q (fun _ _ _ _ _ _ _ k=>wd (oI .i64) J q1 Q Q Q Q Q Q Q Q Q Q (k)) rfl)
  have u1:b1 8 (zz35 [(65,.I g1),(69,.I p1)] [(70,.O (g1 != p1))]):=c1 _ _ (wL J)
  refine wD (t:=(zz78 x9 U0 d_ c_.Values c_.Known [(9,.S 5),(10,.S 6),(11,.I a1),(58,.I (x9.length:Int)),(59,.I a1),(70,.O (g1 != p1))])) [0,0,3,7,0,0,48,112,255] (.cons (d1 _ _ e1) (.cons (d1 _ _ f1) (.cons (d1 _ _ k1) (.cons (d1 _ _ l1) (.cons (d1 _ _ m1) (.cons (d1 _ _ o1) (.cons (d1 _ _ s1) (.cons (d1 _ _ t1) (.cons (d1 _ _ u1) .nil))))))))) (by kernel_rfl) (by kernel_rfl) (by kernel_rfl) (by kernel_rfl) ?_
  obtain ⟨K,h⟩|⟨K,h⟩:=oc' h
  ·exact wf K Q (wi (wb (wS J 2 Q (wU (ih3 (w64 (a1+1)) h)))))
  refine wt K Q (wq (wN (fun v1 y1 z1=>?_)))
  have B1:v1 0 (zz35 [(9,.S 5)] [(71,.S 5)]):=y1 _ _ (wL J)
  have C1:v1 1 (zz35 [(11,.I a1)] [(72,.I a1)]):=y1 _ _ (wL J)
  obtain ⟨D1,G1,h⟩:=ob h
  have H1:v1 2 ⟨[(71,.S 5),(72,.I a1)],[],[],[(5,.own (rI .i64) x9 true)],9,[(73,.P 9 0)],[(9,.el 5 ((a1).toNat * ((rI .i64)).sz))],[],10⟩:=y1 _ _ (wO Q Q Q (fun _ _ _ _ _ _ _ k=>wX J G1 Q Q Q Q Q Q Q Q Q (k)) rfl)
  have I1:v1 3 ⟨[(73,.P 9 0)],[(9,.el 5 ((a1).toNat * ((rI .i64)).sz))],[],[(5,.own (rI .i64) x9 true)],10,[(74,.I D1)],[],[],10⟩:=y1 _ _ (wO Q Q Q (fun _ _ _ _ _ _ _ k=>wd (oI .i64) J G1 Q Q Q Q Q Q Q Q Q Q (k)) rfl)
  have L1:v1 4 (zz33 [(10,.S 6)] [(75,.S 6)]):=y1 _ _ (wL J)
  have M1:v1 5 (zz33 [(11,.I a1)] [(76,.I a1)]):=y1 _ _ (wL J)
  obtain ⟨O1,R1,h⟩:=ob h
  have S1:v1 6 ⟨[(75,.S 6),(76,.I a1)],[],[],[(6,.own (rI .i64) U0 true)],10,[(77,.P 10 0)],[(10,.el 6 ((a1).toNat * ((rI .i64)).sz))],[],11⟩:=y1 _ _ (wO Q Q Q (fun _ _ _ _ _ _ _ k=>wX J R1 Q Q Q Q Q Q Q Q Q (k)) rfl)
  have T1:v1 7 ⟨[(77,.P 10 0)],[(10,.el 6 ((a1).toNat * ((rI .i64)).sz))],[],[(6,.own (rI .i64) U0 true)],11,[(78,.I O1)],[],[],11⟩:=y1 _ _ (wO Q Q Q (fun _ _ _ _ _ _ _ k=>wd (oI .i64) J R1 Q Q Q Q Q Q Q Q Q Q (k)) rfl)
  have U1:v1 8 (zz49 [(74,.I D1),(78,.I O1)] [(79,.O (decide (D1 < O1)))]):=y1 _ _ (wL J)
  have V1:v1 9 (zz49 [(79,.O (decide (D1 < O1)))] [(6,.O (decide (D1 < O1)))]):=y1 _ _ (wL J)
  refine wD (t:=⟨[(6,.O (decide (D1 < O1)))],[],[(0,.sl rR0 d_),(1,.sl rR5 c_.Values),(2,.sl rR5 c_.Known)],11⟩) [0,0,3,7,0,0,48,112,255,511] (.cons (z1 _ _ B1) (.cons (z1 _ _ C1) (.cons (z1 _ _ H1) (.cons (z1 _ _ I1) (.cons (z1 _ _ L1) (.cons (z1 _ _ M1) (.cons (z1 _ _ S1) (.cons (z1 _ _ T1) (.cons (z1 _ _ U1) (.cons (z1 _ _ V1) .nil)))))))))) (by kernel_rfl) (by kernel_rfl) (by kernel_rfl) (by kernel_rfl) ?_
  cases h
  exact we J func4 [] Q Q Q Q
 exact wU (ih N 0 h)
end Gx
end
