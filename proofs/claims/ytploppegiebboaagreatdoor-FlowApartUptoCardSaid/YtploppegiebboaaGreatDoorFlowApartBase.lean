/- How typed values lie in the machine, and the types of the program. -/
import Derived.Test.YtploppegiebboaaGreatDoorChecked
import Derived.Test.YtploppegiebboaaGreatDoorFlowApartPure
import Derived.Test.YtploppegiebboaaGreatDoorFlowApartLib
set_option linter.all false
open Go.Proofs.Tryz renaming prog→aB
open List renaming getElem?_eq_some_iff→aE,getElem?_map→aK,getElem?_set→bB,getElem?_eq_none→dR
open Nat renaming zero_add→aw,le_of_eq→fu
open Int renaming toNat_natCast→a8
section
open Go Go.Kx Go.Proofs
namespace Gx
abbrev rA:=rI .i64
abbrev oD:=oI .i64
abbrev rR7:k6 T7:=rM (fun x=>(x.Zt,x.Lo,x.Hi)) (rP rA (rP rA rA))
abbrev oO7:ki rR7:=oM _ (oP oD (oP oD oD))
abbrev XK:k6 T3:=rM (fun x=>(x.Zu,x.Zv)) (rP rS rR7)
abbrev Sq:ki XK:=oM _ (oP oS oO7)
abbrev HB:k6 Y5:=rM (fun x=>(x.Zt,x.Zw,x.Field,x.N)) (rP rA (rP rS (rP rS rA)))
abbrev ZbD:ki HB:=oM _ (oP oD (oP oS (oP oS oD)))
abbrev HA:k6 LH:=rM (fun x=>(x.Zx,x.Op,x.Zy)) (rP HB (rP rS HB))
abbrev Zs0:ki HA:=oM _ (oP ZbD (oP oS ZbD))
abbrev TM:k6 Vg:=rM (fun x=>(x.Zu,x.Zz,x.ZA)) (rP rS (rP (YH XK) (YH HA)))
abbrev ZfU:ki TM:=oM _ (oP oS (oP (Xj XK) (Xj HA)))
abbrev Zlx(R:k6 Xq):k6 Xq:=rM (fun x=>(x.Zt,x.ZB,x.To,x.Zu,x.As,x.ZC,x.ZD)) (rP rA (rP rS (rP (YH rS) (rP rS (rP rS (rP rA (YH (YH R))))))))
theorem Zly:Tj Zlx:=ZkM _ (TE (TF _) (TE (TF _) (TE (TF _) (TE (TF _) (TE (TF _) (TE (TF _) (Zbu (Zbu ZkN))))))))
abbrev Wk:k6 Xq:=Q9 Zlx 7 (by decide) (fun _ _=>rfl)
abbrev ZfT:ki Wk:=ki.of (Zf7 Zly) (oM _ (oP oD (oP oS (oP (Xj rS) (oP oS (oP oS (oP oD (Xj (YH Wk)))))))))
abbrev Uk:k6 Xp:=rM (fun x=>(x.Zu,x.ZE,x.ZF,x.ZG)) (rP rS (rP (YH rS) (rP (YH TM) (YH Wk))))
abbrev TI:ki Uk:=oM _ (oP oS (oP (Xj rS) (oP (Xj TM) (Xj Wk))))
abbrev Sv:k6 Xv:=rM (fun x=>(x.Zx,x.Op,x.Zy)) (rP HB (rP rS HB))
abbrev Mb:ki Sv:=oM _ (oP ZbD (oP oS ZbD))
abbrev Xa:k6 Ys:=rM (fun x=>(x.Zu,x.Zz,x.ZA)) (rP rS (rP (YH XK) (YH Sv)))
abbrev UI:ki Xa:=oM _ (oP oS (oP (Xj XK) (Xj Sv)))
abbrev Zlz(R:k6 Yj):k6 Yj:=rM (fun x=>(x.Zt,x.ZB,x.To,x.Zu,x.As,x.ZC,x.ZD)) (rP rA (rP rS (rP (YH rS) (rP rS (rP rS (rP rA (YH (YH R))))))))
theorem Ztr:Tj Zlz:=ZkM _ (TE (TF _) (TE (TF _) (TE (TF _) (TE (TF _) (TE (TF _) (TE (TF _) (Zbu (Zbu ZkN))))))))
abbrev Yz:k6 Yj:=Q9 Zlz 7 (by decide) (fun _ _=>rfl)
abbrev R7:ki Yz:=ki.of (Zf7 Ztr) (oM _ (oP oD (oP oS (oP (Xj rS) (oP oS (oP oS (oP oD (Xj (YH Yz)))))))))
abbrev YN:k6 Yl:=rM (fun x=>(x.Zu,x.ZE,x.ZF,x.ZG)) (rP rS (rP (YH rS) (rP (YH Xa) (YH Yz))))
abbrev Vw:ki YN:=oM _ (oP oS (oP (Xj rS) (oP (Xj Xa) (Xj Yz))))
abbrev Y2:k6 YO:=rM (fun x=>(x.Zt,x.ZH,x.Value,x.ZB)) (rP rA (rP rS (rP rA rA)))
abbrev Hv:ki Y2:=oM _ (oP oD (oP oS (oP oD oD)))
abbrev Ztm:k6 Y4:=rM (fun x=>(x.s',x.ZI)) (rP rS rA)
abbrev ZxC:ki Ztm:=oM _ (oP oS oD)
abbrev Zto:k6 Yw:=rM (fun x=>(x.l',x.n',x.end',x.ZI,x.ZJ)) (rP (YH Y2) (rP rA (rP rA (rP rA rA))))
abbrev ZxE:ki Zto:=oM _ (oP (Xj Y2) (oP oD (oP oD (oP oD oD))))
abbrev UK:k6 T1:=rM (fun x=>(x.X,x.Y,x.C)) (rP rA (rP rA rA))
abbrev Hu:ki UK:=oM _ (oP oD (oP oD oD))
abbrev rR5:k6 T5:=rM (fun x=>(x.ZL,x.ZM)) (rP (YH UK) (YH (rP rA rA)))
abbrev oO5:ki rR5:=oM _ (oP (Xj UK) (Xj (rP rA rA)))
abbrev rR0:k6 T0:=rM (fun x=>(x.Zu,x.Zz,x.ZN,x.ZO)) (rP rS (rP (YH XK) (rP rA rR5)))
abbrev oO0:ki rR0:=oM _ (oP oS (oP (Xj XK) (oP oD oO5)))
abbrev lG:k6 T6:=rM (fun x=>(x.ZB,x.To,x.ZP)) (rP rA (rP rA rA))
abbrev Wy:ki lG:=oM _ (oP oD (oP oD oD))
abbrev UL:k6 T2:=rM (fun x=>(x.ZB,x.Act,x.To,x.Again)) (rP rA (rP lG (rP rA rB)))
abbrev Hw:ki UL:=oM _ (oP oD (oP Wy (oP oD oB)))
abbrev UM:k6 T8:=rM (fun x=>(x.ZQ,x.ZC,x.ZR)) (rP rA (rP rA rA))
abbrev oO8:ki UM:=oM _ (oP oD (oP oD oD))
abbrev rR4:k6 T4:=rM (fun x=>(x.Zu,x.ZE,x.ZS,x.ZT,x.ZU,x.ZV,x.ZW,x.ZX)) (rP rS (rP (YH rS) (rP (YH rR0) (rP rA (rP rA (rP rA (rP (YH UL) (YH UM))))))))
abbrev oO4:ki rR4:=oM _ (oP oS (oP (Xj rS) (oP (Xj rR0) (oP oD (oP oD (oP oD (oP (Xj UL) (Xj UM))))))))
abbrev Zlu:k6 Y6:=rM (fun x=>(x.ZY,x.Zu,x.ZZ)) (rP rS (rP rS rA))
abbrev ZsZ:ki Zlu:=oM _ (oP oS (oP oS oD))
abbrev Ztn:k6 Yp:=rM (fun x=>(x.Z2,x.p',x.Z3,x.Z4)) (rP (YH YN) (rP YN (rP (YH rS) Zlu)))
abbrev ZxD:ki Ztn:=oM _ (oP (Xj YN) (oP Vw (oP (Xj rS) ZsZ)))
abbrev X9:k6 YT:=rM (fun x=>(x.Z5,x.Z6,x.Z7)) (rP rS (rP rB rB))
abbrev TH:ki X9:=oM _ (oP oS (oP oB oB))
abbrev Ztl:k6 Vs:=rM (fun x=>(x.x',x.n')) (rP rA rA)
abbrev ZxB:ki Ztl:=oM _ (oP oD oD)
abbrev Mc:k6 T9:=rM (fun x=>(x.Z8,x.to',x.again')) (rP lG (rP rA rB))
abbrev oO9:ki Mc:=oM _ (oP Wy (oP oD oB))
abbrev Hz:k6 V7:=rM (fun x=>(x.Z9,x.ticks',x.Ya)) (rP rA (rP rA rA))
abbrev Zk8:ki Hz:=oM _ (oP oD (oP oD oD))
abbrev rR12:k6 YU:=rM (fun x=>(x.Yb,x.Yc,x.Yd)) (rP (YH rA) (rP (YH Mc) (YH Hz)))
abbrev ZbC:ki rR12:=oM _ (oP (Xj rA) (oP (Xj Mc) (Xj Hz)))
abbrev Ztk:k6 X5:=rM (fun x=>(x.p',x.Ye)) (rP YN (YH rR12))
abbrev ZxA:ki Ztk:=oM _ (oP Vw (Xj rR12))
abbrev lF:k6 YM:=rM (fun x=>(x.set',x.end',x.again',x.ticks',x.other',x.acts',x.to')) (rP (YH rA) (rP rB (rP rB (rP rA (rP lG (rP (YH lG) (YH rA)))))))
abbrev DF:ki lF:=oM _ (oP (Xj rA) (oP oB (oP oB (oP oD (oP Wy (oP (Xj lG) (Xj rA)))))))
abbrev lE:k6 YX:=rM (fun x=>(x.set',x.end',x.again',x.ticks',x.other',x.acts',x.to')) (rP (YH rA) (rP rB (rP rB (rP rA (rP lG (rP (YH lG) (Q8 rA)))))))
abbrev Sp:ki lE:=oM _ (oP (Xj rA) (oP oB (oP oB (oP oD (oP Wy (oP (Xj lG) (oEo rA)))))))
theorem Zxy(x:YX)(z:List Int):kj lE (YH rA) 0 x z ⟨z,x.end',x.again',x.ticks',x.other',x.acts',x.to'⟩:=kj.m (kj.head (kj.self _ _) (fu (aw _)))
theorem ZrD(x:YX)(z:Bool):kj lE rB ((YH rA).sz+0) x z ⟨x.set',z,x.again',x.ticks',x.other',x.acts',x.to'⟩:=kj.m (kj.tail (kj.head (kj.self _ _) (fu (aw _))))
theorem ZrE(x:YX)(z:Bool):kj lE rB ((YH rA).sz+(rB.sz+0)) x z ⟨x.set',x.end',z,x.ticks',x.other',x.acts',x.to'⟩:=kj.m (kj.tail (kj.tail (kj.head (kj.self _ _) (fu (aw _)))))
theorem Zkz(x:YX)(z:Int):kj lE rA ((YH rA).sz+(rB.sz+(rB.sz+0))) x z ⟨x.set',x.end',x.again',z,x.other',x.acts',x.to'⟩:=kj.m (kj.tail (kj.tail (kj.tail (kj.head (kj.self _ _) (fu (aw _))))))
theorem ZkA(x:YX)(z:T6):kj lE lG ((YH rA).sz+(rB.sz+(rB.sz+(rA.sz+0)))) x z ⟨x.set',x.end',x.again',x.ticks',z,x.acts',x.to'⟩:=kj.m (kj.tail (kj.tail (kj.tail (kj.tail (kj.head (kj.self _ _) (fu (aw _)))))))
theorem ZrF(x:YX)(z:List T6):kj lE (YH lG) ((YH rA).sz+(rB.sz+(rB.sz+(rA.sz+(lG.sz+0))))) x z ⟨x.set',x.end',x.again',x.ticks',x.other',z,x.to'⟩:=kj.m (kj.tail (kj.tail (kj.tail (kj.tail (kj.tail (kj.head (kj.self _ _) (fu (aw _))))))))
abbrev ZlL:k6 T5:=rM (fun x=>(x.ZL,x.ZM)) (rP (rOp (List T1)) (rOp (List (Int×Int))))
abbrev Zs5:ki ZlL:=oM _ (oP (oOp (List T1)) (oOp (List (Int×Int))))
abbrev lI:k6 T0:=rM (fun x=>(x.Zu,x.Zz,x.ZN,x.ZO)) (rP rS (rP (YH XK) (rP rA ZlL)))
abbrev ZfY:ki lI:=oM _ (oP oS (oP (Xj XK) (oP oD Zs5)))
abbrev lJ:k6 T0:=rM (fun x=>(x.Zu,x.Zz,x.ZN,(x.ZO.ZL,x.ZO.ZM))) (rP rS (rP (YH XK) (rP rA (rP (rNl (List T1)) (rNl (List (Int×Int)))))))
abbrev Zs3:ki lJ:=oM _ (oP oS (oP (Xj XK) (oP oD (oP (oNl (List T1)) (oNl (List (Int×Int)))))))
abbrev GG:=be×List T3×Int×(G1×Option (List T1))×(G1×Option (List (Int×Int)))
abbrev Qa:k6 (Int×Int):=rP rA rA
abbrev lH:k6 GG:=rP rS (rP (YH XK) (rP rA (rP (rDs UK) (rDs Qa))))
abbrev DH:ki lH:=oP oS (oP (Xj XK) (oP oD (oP (oDs UK) (oDs Qa))))
abbrev Do(d:T0):GG:=(d.Zu,d.Zz,d.ZN,(Xn,some []),(Xn,some []))
abbrev Ss(x:GG):T0:=⟨x.1,x.2.1,x.2.2.1,⟨[],[]⟩⟩
abbrev XF(x:GG)(u:G1)(a:Option (List T1))(v:G1)(b:Option (List (Int×Int))):GG:=(x.1,x.2.1,x.2.2.1,(u,a),(v,b))
theorem Zqj{F:YJ}{w:World}{d:T0}{vs:List Value}(h:lJ.rep F w d vs):lH.rep F w (Do d) vs:=by have⟨u1,w1,e1,h1,u2,w2,e2,h2,u3,w3,e3,h3,u4,w4,e4,h4,h5⟩:=h;exact⟨u1,w1,e1,h1,u2,w2,e2,h2,u3,w3,e3,h3,u4,w4,e4,⟨h4,fun xs e=>by cases e;exact .inl ⟨rfl,none,0,rfl⟩⟩,⟨h5,fun xs e=>by cases e;exact .inl ⟨rfl,none,0,rfl⟩⟩⟩
theorem Zj3{F:YJ}{w:World}{x:GG}{vs:List Value}(h:lH.rep F w x vs):lI.rep F w (Ss x) vs:=by have⟨u1,w1,e1,h1,u2,w2,e2,h2,u3,w3,e3,h3,u4,w4,e4,h4,h5⟩:=h;exact⟨u1,w1,e1,h1,u2,w2,e2,h2,u3,w3,e3,h3,u4,w4,e4,⟨_,h4.1⟩,⟨_,h5.1⟩⟩
theorem Zqk{F:YJ}{w:World}{x:GG}{vs:List Value}(h:lH.rep F w x vs):lH.rep F w (XF x x.2.2.2.1.1 none x.2.2.2.2.1 none) vs:=by have⟨u1,w1,e1,h1,u2,w2,e2,h2,u3,w3,e3,h3,u4,w4,e4,h4,h5⟩:=h;exact⟨u1,w1,e1,h1,u2,w2,e2,h2,u3,w3,e3,h3,u4,w4,e4,⟨h4.1,fun xs e=>by cases e⟩,⟨h5.1,fun xs e=>by cases e⟩⟩
theorem Zqg{F:YJ}{w:World}{x:GG}{u v:G1}{b:Option (List (Int×Int))}{D:List T1}{vs:List Value}(h:lH.rep F w (XF x u none v b) vs)(hs:SlR UK F w D u.1):lH.rep F w (XF x u (some D) v b) vs:=by have⟨u1,w1,e1,h1,u2,w2,e2,h2,u3,w3,e3,h3,u4,w4,e4,h4,h5⟩:=h;exact⟨u1,w1,e1,h1,u2,w2,e2,h2,u3,w3,e3,h3,u4,w4,e4,⟨h4.1,fun xs e=>by cases e;exact hs⟩,h5⟩
theorem Zqh{F:YJ}{w:World}{x:GG}{u v:G1}{a:Option (List T1)}{D:List (Int×Int)}{vs:List Value}(h:lH.rep F w (XF x u a v none) vs)(hs:SlR Qa F w D v.1):lH.rep F w (XF x u a v (some D)) vs:=by have⟨u1,w1,e1,h1,u2,w2,e2,h2,u3,w3,e3,h3,u4,w4,e4,h4,h5⟩:=h;exact⟨u1,w1,e1,h1,u2,w2,e2,h2,u3,w3,e3,h3,u4,w4,e4,h4,⟨h5.1,fun xs e=>by cases e;exact hs⟩⟩
theorem Zqi{F:YJ}{w:World}{x:GG}{g:T5}{vs:List Value}(hd:x.2.2.2.1.2=some g.ZL)(he:x.2.2.2.2.2=some g.ZM)(h:lH.rep F w x vs):rR0.rep F w ⟨x.1,x.2.1,x.2.2.1,g⟩ vs:=by have⟨u1,w1,e1,h1,u2,w2,e2,h2,u3,w3,e3,h3,u4,w4,e4,h4,h5⟩:=h;exact⟨u1,w1,e1,h1,u2,w2,e2,h2,u3,w3,e3,h3,u4,w4,e4,⟨_,h4.1,h4.2 _ hd⟩,⟨_,h5.1,h5.2 _ he⟩⟩
/-- Behind some turns: the elements ahead have their guards, those behind have none. -/
def SL(ds:List T0)(G:List T5)(gs:List GG):Prop:=
  gs.map Ss=ds/\∀(j:Nat) (x:GG),gs[j]?=some x->(∀g,G[j]?=some g->x.2.2.2.1.2=some g.ZL/\x.2.2.2.2.2=some g.ZM)/\(G[j]?=none->x.2.2.2=((Xn,some []),(Xn,some [])))
theorem ZqH(ds:List T0):SL (ds.map WL) [] (ds.map Do):=by
  refine⟨by rw[List.map_map];rfl,fun j x hx=>⟨fun g hg=>(by cases hg),fun _=>?_⟩⟩;rw[aK]at hx;cases hd:ds[j]? with
  |none=>rw[hd]at hx;cases hx
  |some d=>rw[hd]at hx;cases hx;rfl
theorem ZqJ{ds:List T0}{G:List T5}{gs:List GG}{i:Int}{d:T0}(h:SL ds G gs)(hd:idx ds i=some d)(hi:i=(G.length:Int)):∃x,idx gs i=some x/\gs[i.toNat]?=some x/\x.2.2.2=((Xn,some []),(Xn,some [])):=by
  have⟨h0,h1,h2⟩:=VD hd;rw[<-h.1,aK]at h2;cases hx:gs[i.toNat]? with
  |none=>rw[hx]at h2;cases h2
  |some x=>
    refine⟨x,?_,rfl,(h.2 _ _ hx).2 ?_⟩
    · unfold idx;rw[lh h0];exact hx
    · rw[hi,a8];exact dR (Zq _)
theorem ZlW{α β:Type}(f:α->β)(xs:List α)(i:Nat)(y x:α)(hx:xs[i]?=some x)(h:f y=f x):(xs.set i y).map f=xs.map f:=by
  apply List.ext_getElem?;intro j;rw[aK,aK,bB];split
  · rename_i e;subst e;have:i<xs.length:=(aE.1 hx).1;rw[mD this,hx];simp[h]
  · rfl
theorem ZqK{ds:List T0}{G:List T5}{gs:List GG}{i:Int}{x:GG}{g:T5}{u v:G1}(h:SL ds G gs)(hx:gs[i.toNat]?=some x)(hi:i=(G.length:Int)):SL ds (G++[g]) (gs.set i.toNat (XF x u (some g.ZL) v (some g.ZM))):=by
  have hn:i.toNat=G.length:=by rw[hi,a8]
  refine⟨by rw[ZlW Ss gs i.toNat (XF x u (some g.ZL) v (some g.ZM)) x hx rfl];exact h.1,fun j y hy=>?_⟩;rw[bB]at hy;split at hy
  · rename_i e;subst e;rw[mD (aE.1 hx).1]at hy;cases hy;rw[hn];refine⟨fun g' hg=>?_,fun hg=>?_⟩
    · simp at hg;subst hg;exact⟨rfl,rfl⟩
    · simp at hg
  · rename_i e;have⟨a1,a2⟩:=h.2 j y hy;refine⟨fun g' hg=>?_,fun hg=>a2 ?_⟩
    · refine a1 g' ?_;rw[List.getElem?_append]at hg;split at hg
      · exact hg
      · rename_i e2;have:j-G.length≠0:=by omega
        have⟨q,hq⟩:=Nat.exists_eq_succ_of_ne_zero this;rw[hq]at hg;cases hg
    · rw[List.getElem?_eq_none_iff,List.length_append]at hg;exact dR (by simp at hg;omega)
theorem Zkl:∀(ds:List T0) (G:List T5) (j:Nat) (y:T0),(Tx ds G)[j]?=some y->∃d g,ds[j]?=some d/\G[j]?=some g/\y=⟨d.Zu,d.Zz,d.ZN,g⟩
  | [],_,j,y,h=>by simp[Tx]at h
  |_::_,[],j,y,h=>by simp[Tx]at h
  |d::ds,g::gs,0,y,h=>by cases h;exact⟨d,g,rfl,rfl,rfl⟩
  |d::ds,g::gs,j+1,y,h=>Zkl ds gs j y h
theorem Zkm:∀(ds:List T0) (G:List T5),G.length=ds.length->(Tx ds G).length=ds.length
  | [],_,_=>rfl
  |_::_,[],h=>by cases h
  |d::ds,g::gs,h=>by simp[Tx,Zkm ds gs (Nat.succ.inj h)]
theorem ZqI{ds:List T0}{G:List T5}{gs:List GG}(h:SL ds G gs)(hn:G.length=ds.length) :
    (Tx ds G).length=gs.length/\∀(i:Nat) (x:GG) (y:T0),gs[i]?=some x->(Tx ds G)[i]?=some y->∀F w vs,lH.rep F w x vs->rR0.rep F w y vs:=by refine⟨by rw[Zkm _ _ hn,<-h.1,List.length_map],fun i x y hx hy F w vs hr=>?_⟩;obtain⟨d,g,h1,h2,rfl⟩:=Zkl _ _ _ _ hy;rw[<-h.1,aK,hx]at h1;cases h1;have⟨a1,a2⟩:=(h.2 i x hx).1 g h2;exact Zqi a1 a2 hr
noncomputable def UB {α:Type} (p:Prop) (x:Option α):Option α:=@ite _ p (Classical.propDecidable p) x none
theorem Zbj{α:Type}{p:Prop}{x:Option α}{r:α}(h:UB p x=some r):p/\x=some r:=by
  unfold UB at h;split at h
  · exact⟨‹_›,h⟩
  · cases h
theorem QW{α:Type}{p:Prop}{x:Option α}{r:α}(hp:p)(h:x=some r):UB p x=some r:=by unfold UB;rw[mD hp];exact h
theorem ZqA{α:Type}(p:Prop):UB p (none:Option α)=none:=by unfold UB;split<;>rfl
theorem HJ{α:Type}{xs:List α}{i:Int}{x y:α}(h:idx xs i=some x):idx (xs.set i.toNat y) i=some y:=by have⟨h0,h1,h2⟩:=VD h;unfold idx;rw[lh h0,l9,bB,mD rfl,mD (aE.1 h2).1]
theorem Zqf{ds:List T0}:∀(i:Nat) (x:T0) (y:GG),ds[i]?=some x->(ds.map Do)[i]?=some y->∀F w vs,lJ.rep F w x vs->lH.rep F w y vs:=fun i x y hx hy F w vs hr=>by rw[aK,hx]at hy;cases hy;exact Zqj hr
theorem Zql{gs:List GG}{i:Nat}{x:GG}(hx:gs[i]?=some x)(hn:x.2.2.2=((Xn,some []),(Xn,some []))):∀(j:Nat) (a b:GG),gs[j]?=some a->(gs.set i (XF x Xn none Xn none))[j]?=some b->∀F w vs,lH.rep F w a vs->lH.rep F w b vs:=fun j a b ha hb F w vs hr=>by
  rw[bB]at hb;split at hb
  · rename_i e;subst e;rw[mD (aE.1 hx).1]at hb;cases hb;rw[hx]at ha;cases ha;have:=Zqk hr;rw[hn]at this;exact this
  · rw[ha]at hb;cases hb;exact hr
theorem Zfp{gs:List GG}{i:Nat}{x y:GG}(hx:gs[i]?=some x):(gs.set i y)[i]?=some y:=by rw[bB,mD rfl,mD (aE.1 hx).1]
theorem Zqm{gs:List GG}{i:Nat}{x y:GG}{ds:List T0}(h:gs.map Ss=ds)(hx:gs[i]?=some x)(hy:Ss y=Ss x):(gs.set i y).map Ss=ds:=by rw[ZlW Ss gs i y x hx hy];exact h
theorem Vk:V6 be aB rA 47 false (0:Int):=by refine⟨9,3,([.i .i64 (0:Int)]:List SC).map (Yn QA),by kernel_rfl,by kernel_rfl,Zhz (by kernel_rfl),fun F w=>?_⟩;exact (oD).cok (V:=fun _=>none) (x:=(0:Int)) (cs:=[.i .i64 (0:Int)]) ((oD).eqn rfl) QA F w (fun _ _ h=>by cases h)
theorem Zbv:V6 Int aB rA 178 false (0:Int):=by refine⟨3,3,([.i .i64 (0:Int)]:List SC).map (Yn QA),by kernel_rfl,by kernel_rfl,Zhz (by kernel_rfl),fun F w=>?_⟩;exact (oD).cok (V:=fun _=>none) (x:=(0:Int)) (cs:=[.i .i64 (0:Int)]) ((oD).eqn rfl) QA F w (fun _ _ h=>by cases h)
theorem ZkQ:V6 Int aB rB 222 false false:=by refine⟨3,4,([.b false]:List SC).map (Yn QA),by kernel_rfl,by kernel_rfl,Zhz (by kernel_rfl),fun F w=>?_⟩;exact (oB).cok (V:=fun _=>none) (x:=false) (cs:=[.b false]) ((oB).eqn rfl) QA F w (fun _ _ h=>by cases h)
end Gx
namespace Go.Kx
abbrev SV.I(n:Int):SV:=.c (.i .i64 n)
abbrev SC.I(n:Int):SC:=.i .i64 n
abbrev SV.O(b:Bool):SV:=.c (.b b)
abbrev SV.B(k o:Nat):SV:=.c (.bp k o)
abbrev SV.P(k o:Nat):SV:=.c (.px k o)
abbrev SV.S(k:Nat):SV:=.c (.sl k)
end Go.Kx
namespace Gx
def rg(a:Nat):Nat->List Nat
  |0=>[]
  |n+1=>a::rg (a+1) n
abbrev V8(e:T3):List SC:=[.s e.Zu,.i .i64 e.Zv.Zt,.i .i64 e.Zv.Lo,.i .i64 e.Zv.Hi]
abbrev X2(e:Y5):List SC:=[.i .i64 e.Zt,.s e.Zw,.s e.Field,.i .i64 e.N]
abbrev ZuX(k0 k1:Nat)(e:Vg)(l:List (Nat×VF)):List (Nat×VF):=(k0,.sl XK e.Zz)::(k1,.sl HA e.ZA)::l
abbrev Pe(k0 k1 k2:Nat)(e:Xp)(l:List (Nat×VF)):List (Nat×VF):=(k0,.sl rS e.ZE)::(k1,.sl TM e.ZF)::(k2,.sl Wk e.ZG)::l
abbrev XU(k0 k1:Nat)(e:Ys)(l:List (Nat×VF)):List (Nat×VF):=(k0,.sl XK e.Zz)::(k1,.sl Sv e.ZA)::l
abbrev Xg(k0 k1 k2:Nat)(e:Yl)(l:List (Nat×VF)):List (Nat×VF):=(k0,.sl rS e.ZE)::(k1,.sl Xa e.ZF)::(k2,.sl Yz e.ZG)::l
abbrev Dc(e:YO):List SC:=[.i .i64 e.Zt,.s e.ZH,.i .i64 e.Value,.i .i64 e.ZB]
abbrev VO(e:Y4):List SC:=[.s e.s',.i .i64 e.ZI]
abbrev Xt(k0:Nat)(e:Yw):List SC:=[.sl k0,.i .i64 e.n',.i .i64 e.end',.i .i64 e.ZI,.i .i64 e.ZJ]
abbrev cC1(e:T1):List SC:=[.i .i64 e.X,.i .i64 e.Y,.i .i64 e.C]
abbrev cC0(k0 k1 k2:Nat)(e:T0):List SC:=[.s e.Zu,.sl k0,.i .i64 e.ZN,.sl k1,.sl k2]
abbrev PL(e:T6):List SC:=[.i .i64 e.ZB,.i .i64 e.To,.i .i64 e.ZP]
abbrev cC2(e:T2):List SC:=[.i .i64 e.ZB,.i .i64 e.Act.ZB,.i .i64 e.Act.To,.i .i64 e.Act.ZP,.i .i64 e.To,.b e.Again]
abbrev SQ(k0 k1 k2 k3:Nat)(e:T4):List SC:=[.s e.Zu,.sl k0,.sl k1,.i .i64 e.ZT,.i .i64 e.ZU,.i .i64 e.ZV,.sl k2,.sl k3]
abbrev Mn(k0 k1 k2 k3:Nat)(e:T4)(l:List (Nat×VF)):List (Nat×VF):=(k0,.sl rS e.ZE)::(k1,.sl rR0 e.ZS)::(k2,.sl UL e.ZW)::(k3,.sl UM e.ZX)::l
abbrev ZoA(e:Y6):List SC:=[.s e.ZY,.s e.Zu,.i .i64 e.ZZ]
abbrev XP(k0 k1 k2 k3 k4:Nat)(e:Yp):List SC:=[.sl k0,.s e.p'.Zu,.sl k1,.sl k2,.sl k3,.sl k4,.s e.Z4.ZY,.s e.Z4.Zu,.i .i64 e.Z4.ZZ]
abbrev Mm(k0 k1 k2 k3 k4:Nat)(e:Yp)(l:List (Nat×VF)):List (Nat×VF):=(k0,.sl YN e.Z2)::(k1,.sl rS e.p'.ZE)::(k2,.sl Xa e.p'.ZF)::(k3,.sl Yz e.p'.ZG)::(k4,.sl rS e.Z3)::l
abbrev Zib(e:YT):List SC:=[.s e.Z5,.b e.Z6,.b e.Z7]
abbrev Db(e:Vs):List SC:=[.i .i64 e.x',.i .i64 e.n']
abbrev Vt(k0 k1 k2 k3:Nat)(e:X5):List SC:=[.s e.p'.Zu,.sl k0,.sl k1,.sl k2,.sl k3]
abbrev Td(k0 k1 k2 k3:Nat)(e:X5)(l:List (Nat×VF)):List (Nat×VF):=(k0,.sl rS e.p'.ZE)::(k1,.sl Xa e.p'.ZF)::(k2,.sl Yz e.p'.ZG)::(k3,.sl rR12 e.Ye)::l
def tt:List (Nat×TD):=[
 (1,{ sz:=1,byt:=8,ag:=false,z:=[.v .nilFunc],kd:=0 }),
 (3,{ sz:=1,byt:=8,ag:=false,z:=[.i .i64 (0:Int)],kd:=3,ik:=some .i64 }),
 (4,{ sz:=1,byt:=1,ag:=false,z:=[.b false],kd:=1 }),
 (5,{ sz:=1,byt:=1,ag:=false,z:=[.i .u8 (0:Int)],kd:=3,ik:=some .u8 }),
 (9,{ sz:=1,byt:=16,ag:=false,z:=[.s (str [])],kd:=2 }),
 (21,{ sz:=1,byt:=4,ag:=false,z:=[.i .i32 (0:Int)],kd:=3,ik:=some .i32 }),
 (22,{ sz:=1,byt:=24,ag:=false,z:=[.nil],kd:=6,es:=1,eb:=16,el:=9 }),
 (23,{ sz:=1,byt:=24,ag:=false,z:=[.nil],kd:=6,es:=3,eb:=64,el:=90 }),
 (24,{ sz:=1,byt:=24,ag:=false,z:=[.nil],kd:=6,es:=7,eb:=112,el:=93 }),
 (26,{ sz:=4,byt:=88,ag:=true,z:=[.s (str []),.nil,.nil,.nil],kd:=4,fo:=[(0,1,false),(1,1,false),(2,1,false),(3,1,false)] }),
 (29,{ sz:=1,byt:=24,ag:=false,z:=[.nil],kd:=6,es:=5,eb:=96,el:=144 }),
 (30,{ sz:=1,byt:=24,ag:=false,z:=[.nil],kd:=6,es:=6,eb:=48,el:=41 }),
 (31,{ sz:=1,byt:=24,ag:=false,z:=[.nil],kd:=6,es:=3,eb:=24,el:=45 }),
 (33,{ sz:=8,byt:=136,ag:=true,z:=[.s (str []),.nil,.nil,.i .i64 (0:Int),.i .i64 (0:Int),.i .i64 (0:Int),.nil,.nil],kd:=4,fo:=[(0,1,false),(1,1,false),(2,1,false),(3,1,false),(4,1,false),(5,1,false),(6,1,false),(7,1,false)] }),
 (34,{ sz:=1,byt:=8,ag:=false,z:=[.i .i64 (0:Int)],kd:=3,ik:=some .i64 }),
 (37,{ sz:=1,byt:=24,ag:=false,z:=[.nil],kd:=6,es:=1,eb:=1,el:=4 }),
 (39,{ sz:=3,byt:=24,ag:=true,z:=[.i .i64 (0:Int),.i .i64 (0:Int),.i .i64 (0:Int)],kd:=4,fo:=[(0,1,false),(1,1,false),(2,1,false)] }),
 (41,{ sz:=6,byt:=48,ag:=true,z:=[.i .i64 (0:Int),.i .i64 (0:Int),.i .i64 (0:Int),.i .i64 (0:Int),.i .i64 (0:Int),.b false],kd:=4,fo:=[(0,1,false),(1,3,true),(4,1,false),(5,1,false)] }),
 (42,{ sz:=1,byt:=24,ag:=false,z:=[.nil],kd:=6,es:=1,eb:=8,el:=3 }),
 (43,{ sz:=1,byt:=24,ag:=false,z:=[.nil],kd:=6,es:=1,eb:=1,el:=5 }),
 (45,{ sz:=3,byt:=24,ag:=true,z:=[.i .i64 (0:Int),.i .i64 (0:Int),.i .i64 (0:Int)],kd:=4,fo:=[(0,1,false),(1,1,false),(2,1,false)] }),
 (47,{ sz:=1,byt:=8,ag:=false,z:=[.v (.map none)],kd:=0 }),
 (49,{ sz:=1,byt:=24,ag:=false,z:=[.nil],kd:=6,es:=4,eb:=88,el:=56 }),
 (53,{ sz:=1,byt:=24,ag:=false,z:=[.nil],kd:=6,es:=3,eb:=64,el:=97 }),
 (54,{ sz:=1,byt:=24,ag:=false,z:=[.nil],kd:=6,es:=7,eb:=112,el:=132 }),
 (56,{ sz:=4,byt:=88,ag:=true,z:=[.s (str []),.nil,.nil,.nil],kd:=4,fo:=[(0,1,false),(1,1,false),(2,1,false),(3,1,false)] }),
 (58,{ sz:=1,byt:=24,ag:=false,z:=[.nil],kd:=6,es:=4,eb:=88,el:=26 }),
 (61,{ sz:=1,byt:=24,ag:=false,z:=[.nil],kd:=6,es:=4,eb:=40,el:=111 }),
 (66,{ sz:=5,byt:=56,ag:=true,z:=[.nil,.i .i64 (0:Int),.i .i64 (0:Int),.i .i64 (0:Int),.i .i64 (0:Int)],kd:=4,fo:=[(0,1,false),(1,1,false),(2,1,false),(3,1,false),(4,1,false)] }),
 (70,{ sz:=3,byt:=40,ag:=true,z:=[.s (str []),.s (str []),.i .i64 (0:Int)],kd:=4,fo:=[(0,1,false),(1,1,false),(2,1,false)] }),
 (75,{ sz:=1,byt:=8,ag:=false,z:=[.v (.pointer none)],kd:=0 }),
 (76,{ sz:=1,byt:=24,ag:=false,z:=[.nil],kd:=6,es:=3,eb:=72,el:=226 }),
 (78,{ sz:=5,byt:=112,ag:=true,z:=[.s (str []),.nil,.nil,.nil,.nil],kd:=4,fo:=[(0,4,true),(4,1,false)] }),
 (79,{ sz:=1,byt:=24,ag:=false,z:=[.nil],kd:=6,es:=9,eb:=112,el:=161 }),
 (86,{ sz:=1,byt:=8,ag:=false,z:=[.v (.pointer none)],kd:=0 }),
 (87,{ sz:=1,byt:=24,ag:=false,z:=[.nil],kd:=6,es:=4,eb:=40,el:=138 }),
 (88,{ sz:=1,byt:=24,ag:=false,z:=[.nil],kd:=6,es:=9,eb:=112,el:=101 }),
 (90,{ sz:=3,byt:=64,ag:=true,z:=[.s (str []),.nil,.nil],kd:=4,fo:=[(0,1,false),(1,1,false),(2,1,false)] }),
 (91,{ sz:=1,byt:=24,ag:=false,z:=[.nil],kd:=6,es:=1,eb:=24,el:=24 }),
 (93,{ sz:=7,byt:=112,ag:=true,z:=[.i .i64 (0:Int),.s (str []),.nil,.s (str []),.s (str []),.i .i64 (0:Int),.nil],kd:=4,fo:=[(0,1,false),(1,1,false),(2,1,false),(3,1,false),(4,1,false),(5,1,false),(6,1,false)] }),
 (95,{ sz:=1,byt:=24,ag:=false,z:=[.nil],kd:=6,es:=9,eb:=112,el:=104 }),
 (97,{ sz:=3,byt:=64,ag:=true,z:=[.s (str []),.nil,.nil],kd:=4,fo:=[(0,1,false),(1,1,false),(2,1,false)] }),
 (99,{ sz:=4,byt:=48,ag:=true,z:=[.i .i64 (0:Int),.s (str []),.s (str []),.i .i64 (0:Int)],kd:=4,fo:=[(0,1,false),(1,1,false),(2,1,false),(3,1,false)] }),
 (101,{ sz:=9,byt:=112,ag:=true,z:=[.i .i64 (0:Int),.s (str []),.s (str []),.i .i64 (0:Int),.s (str []),.i .i64 (0:Int),.s (str []),.s (str []),.i .i64 (0:Int)],kd:=4,fo:=[(0,4,true),(4,1,false),(5,4,true)] }),
 (102,{ sz:=4,byt:=48,ag:=true,z:=[.i .i64 (0:Int),.s (str []),.s (str []),.i .i64 (0:Int)],kd:=4,fo:=[(0,1,false),(1,1,false),(2,1,false),(3,1,false)] }),
 (104,{ sz:=9,byt:=112,ag:=true,z:=[.i .i64 (0:Int),.s (str []),.s (str []),.i .i64 (0:Int),.s (str []),.i .i64 (0:Int),.s (str []),.s (str []),.i .i64 (0:Int)],kd:=4,fo:=[(0,4,true),(4,1,false),(5,4,true)] }),
 (107,{ sz:=2,byt:=24,ag:=true,z:=[.s (str []),.i .i64 (0:Int)],kd:=4,fo:=[(0,1,false),(1,1,false)] }),
 (111,{ sz:=4,byt:=40,ag:=true,z:=[.i .i64 (0:Int),.s (str []),.i .i64 (0:Int),.i .i64 (0:Int)],kd:=4,fo:=[(0,1,false),(1,1,false),(2,1,false),(3,1,false)] }),
 (123,{ sz:=1,byt:=8,ag:=false,z:=[.v (.pointer none)],kd:=0 }),
 (125,{ sz:=9,byt:=176,ag:=true,z:=[.nil,.s (str []),.nil,.nil,.nil,.nil,.s (str []),.s (str []),.i .i64 (0:Int)],kd:=4,fo:=[(0,1,false),(1,4,true),(5,1,false),(6,3,true)] }),
 (130,{ sz:=1,byt:=24,ag:=false,z:=[.nil],kd:=6,es:=1,eb:=24,el:=54 }),
 (132,{ sz:=7,byt:=112,ag:=true,z:=[.i .i64 (0:Int),.s (str []),.nil,.s (str []),.s (str []),.i .i64 (0:Int),.nil],kd:=4,fo:=[(0,1,false),(1,1,false),(2,1,false),(3,1,false),(4,1,false),(5,1,false),(6,1,false)] }),
 (136,{ sz:=3,byt:=24,ag:=true,z:=[.i .i64 (0:Int),.i .i64 (0:Int),.i .i64 (0:Int)],kd:=4,fo:=[(0,1,false),(1,1,false),(2,1,false)] }),
 (138,{ sz:=4,byt:=40,ag:=true,z:=[.s (str []),.i .i64 (0:Int),.i .i64 (0:Int),.i .i64 (0:Int)],kd:=4,fo:=[(0,1,false),(1,3,true)] }),
 (139,{ sz:=1,byt:=24,ag:=false,z:=[.nil],kd:=6,es:=3,eb:=24,el:=157 }),
 (140,{ sz:=1,byt:=24,ag:=false,z:=[.nil],kd:=6,es:=2,eb:=16,el:=154 }),
 (142,{ sz:=2,byt:=48,ag:=true,z:=[.nil,.nil],kd:=4,fo:=[(0,1,false),(1,1,false)] }),
 (144,{ sz:=5,byt:=96,ag:=true,z:=[.s (str []),.nil,.i .i64 (0:Int),.nil,.nil],kd:=4,fo:=[(0,1,false),(1,1,false),(2,1,false),(3,2,true)] }),
 (146,{ sz:=2,byt:=16,ag:=true,z:=[.i .i64 (0:Int),.i .i64 (0:Int)],kd:=4,fo:=[(0,1,false),(1,1,false)] }),
 (154,{ sz:=2,byt:=16,ag:=true,z:=[.i .i64 (0:Int),.i .i64 (0:Int)],kd:=5,n:=2,es:=1,el:=3 }),
 (157,{ sz:=3,byt:=24,ag:=true,z:=[.i .i64 (0:Int),.i .i64 (0:Int),.i .i64 (0:Int)],kd:=4,fo:=[(0,1,false),(1,1,false),(2,1,false)] }),
 (159,{ sz:=1,byt:=24,ag:=false,z:=[.nil],kd:=6,es:=3,eb:=24,el:=39 }),
 (161,{ sz:=9,byt:=112,ag:=true,z:=[.nil,.b false,.b false,.i .i64 (0:Int),.i .i64 (0:Int),.i .i64 (0:Int),.i .i64 (0:Int),.nil,.nil],kd:=4,fo:=[(0,1,false),(1,1,false),(2,1,false),(3,1,false),(4,3,true),(7,1,false),(8,1,false)] }),
 (163,{ sz:=1,byt:=24,ag:=false,z:=[.nil],kd:=6,es:=1,eb:=24,el:=42 }),
 (166,{ sz:=1,byt:=8,ag:=false,z:=[.v (.pointer none)],kd:=0 }),
 (175,{ sz:=1,byt:=8,ag:=false,z:=[.v .nilFunc],kd:=0 }),
 (182,{ sz:=8,byt:=128,ag:=true,z:=[.s (str []),.s (str []),.s (str []),.s (str []),.s (str []),.s (str []),.s (str []),.s (str [])],kd:=5,n:=8,es:=1,el:=9 }),
 (190,{ sz:=28,byt:=448,ag:=true,z:=[.s (str []),.s (str []),.s (str []),.s (str []),.s (str []),.s (str []),.s (str []),.s (str []),.s (str []),.s (str []),.s (str []),.s (str []),.s (str []),.s (str []),.s (str []),.s (str []),.s (str []),.s (str []),.s (str []),.s (str []),.s (str []),.s (str []),.s (str []),.s (str []),.s (str []),.s (str []),.s (str []),.s (str [])],kd:=5,n:=28,es:=1,el:=9 }),
 (193,{ sz:=1,byt:=8,ag:=false,z:=[.v (.pointer none)],kd:=0 }),
 (195,{ sz:=2,byt:=32,ag:=true,z:=[.v (.pointer none),.nil],kd:=4,fo:=[(0,1,false),(1,1,false)] }),
 (197,{ sz:=3,byt:=40,ag:=true,z:=[.v (.pointer none),.nil,.i .i64 (0:Int)],kd:=4,fo:=[(0,2,true),(2,1,false)] }),
 (204,{ sz:=1,byt:=8,ag:=false,z:=[.v .nilFunc],kd:=0 }),
 (206,{ sz:=8,byt:=96,ag:=true,z:=[.i .i64 (0:Int),.s (str []),.s (str []),.i .i64 (0:Int),.i .i64 (0:Int),.s (str []),.s (str []),.i .i64 (0:Int)],kd:=5,n:=2,es:=4,el:=102 }),
 (208,{ sz:=1,byt:=24,ag:=false,z:=[.nil],kd:=6,es:=3,eb:=24,el:=211 }),
 (211,{ sz:=3,byt:=24,ag:=true,z:=[.s (str []),.b false,.b false],kd:=4,fo:=[(0,1,false),(1,1,false),(2,1,false)] }),
 (223,{ sz:=1,byt:=24,ag:=false,z:=[.nil],kd:=6,es:=5,eb:=40,el:=244 }),
 (224,{ sz:=1,byt:=24,ag:=false,z:=[.nil],kd:=6,es:=3,eb:=24,el:=235 }),
 (226,{ sz:=3,byt:=72,ag:=true,z:=[.nil,.nil,.nil],kd:=4,fo:=[(0,1,false),(1,1,false),(2,1,false)] }),
 (235,{ sz:=3,byt:=24,ag:=true,z:=[.i .i64 (0:Int),.i .i64 (0:Int),.i .i64 (0:Int)],kd:=4,fo:=[(0,1,false),(1,1,false),(2,1,false)] }),
 (244,{ sz:=5,byt:=40,ag:=true,z:=[.i .i64 (0:Int),.i .i64 (0:Int),.i .i64 (0:Int),.i .i64 (0:Int),.b false],kd:=4,fo:=[(0,3,true),(3,1,false),(4,1,false)] }),
 (262,{ sz:=1,byt:=8,ag:=false,z:=[.i .u64 (0:Int)],kd:=3,ik:=some .u64 }),
 (266,{ sz:=1,byt:=8,ag:=false,z:=[.v .nilFunc],kd:=0 }),
 (284,{ sz:=1,byt:=4,ag:=false,z:=[.i .u32 (0:Int)],kd:=3,ik:=some .u32 })]
theorem lO:kf aB tt:=by
  unfold tt;exact⟨by refine⟨?_,?_,?_,?_⟩<;>kernel_rfl,
    by refine⟨?_,?_,?_,?_⟩<;>kernel_rfl,
    by refine⟨?_,?_,?_,?_⟩<;>kernel_rfl,
    by refine⟨?_,?_,?_,?_⟩<;>kernel_rfl,
    by refine⟨?_,?_,?_,?_⟩<;>kernel_rfl,
    by refine⟨?_,?_,?_,?_⟩<;>kernel_rfl,
    by refine⟨?_,?_,?_,?_⟩<;>kernel_rfl,
    by refine⟨?_,?_,?_,?_⟩<;>kernel_rfl,
    by refine⟨?_,?_,?_,?_⟩<;>kernel_rfl,
    by refine⟨?_,?_,?_,?_⟩<;>kernel_rfl,
    by refine⟨?_,?_,?_,?_⟩<;>kernel_rfl,
    by refine⟨?_,?_,?_,?_⟩<;>kernel_rfl,
    by refine⟨?_,?_,?_,?_⟩<;>kernel_rfl,
    by refine⟨?_,?_,?_,?_⟩<;>kernel_rfl,
    by refine⟨?_,?_,?_,?_⟩<;>kernel_rfl,
    by refine⟨?_,?_,?_,?_⟩<;>kernel_rfl,
    by refine⟨?_,?_,?_,?_⟩<;>kernel_rfl,
    by refine⟨?_,?_,?_,?_⟩<;>kernel_rfl,
    by refine⟨?_,?_,?_,?_⟩<;>kernel_rfl,
    by refine⟨?_,?_,?_,?_⟩<;>kernel_rfl,
    by refine⟨?_,?_,?_,?_⟩<;>kernel_rfl,
    by refine⟨?_,?_,?_,?_⟩<;>kernel_rfl,
    by refine⟨?_,?_,?_,?_⟩<;>kernel_rfl,
    by refine⟨?_,?_,?_,?_⟩<;>kernel_rfl,
    by refine⟨?_,?_,?_,?_⟩<;>kernel_rfl,
    by refine⟨?_,?_,?_,?_⟩<;>kernel_rfl,
    by refine⟨?_,?_,?_,?_⟩<;>kernel_rfl,
    by refine⟨?_,?_,?_,?_⟩<;>kernel_rfl,
    by refine⟨?_,?_,?_,?_⟩<;>kernel_rfl,
    by refine⟨?_,?_,?_,?_⟩<;>kernel_rfl,
    by refine⟨?_,?_,?_,?_⟩<;>kernel_rfl,
    by refine⟨?_,?_,?_,?_⟩<;>kernel_rfl,
    by refine⟨?_,?_,?_,?_⟩<;>kernel_rfl,
    by refine⟨?_,?_,?_,?_⟩<;>kernel_rfl,
    by refine⟨?_,?_,?_,?_⟩<;>kernel_rfl,
    by refine⟨?_,?_,?_,?_⟩<;>kernel_rfl,
    by refine⟨?_,?_,?_,?_⟩<;>kernel_rfl,
    by refine⟨?_,?_,?_,?_⟩<;>kernel_rfl,
    by refine⟨?_,?_,?_,?_⟩<;>kernel_rfl,
    by refine⟨?_,?_,?_,?_⟩<;>kernel_rfl,
    by refine⟨?_,?_,?_,?_⟩<;>kernel_rfl,
    by refine⟨?_,?_,?_,?_⟩<;>kernel_rfl,
    by refine⟨?_,?_,?_,?_⟩<;>kernel_rfl,
    by refine⟨?_,?_,?_,?_⟩<;>kernel_rfl,
    by refine⟨?_,?_,?_,?_⟩<;>kernel_rfl,
    by refine⟨?_,?_,?_,?_⟩<;>kernel_rfl,
    by refine⟨?_,?_,?_,?_⟩<;>kernel_rfl,
    by refine⟨?_,?_,?_,?_⟩<;>kernel_rfl,
    by refine⟨?_,?_,?_,?_⟩<;>kernel_rfl,
    by refine⟨?_,?_,?_,?_⟩<;>kernel_rfl,
    by refine⟨?_,?_,?_,?_⟩<;>kernel_rfl,
    by refine⟨?_,?_,?_,?_⟩<;>kernel_rfl,
    by refine⟨?_,?_,?_,?_⟩<;>kernel_rfl,
    by refine⟨?_,?_,?_,?_⟩<;>kernel_rfl,
    by refine⟨?_,?_,?_,?_⟩<;>kernel_rfl,
    by refine⟨?_,?_,?_,?_⟩<;>kernel_rfl,
    by refine⟨?_,?_,?_,?_⟩<;>kernel_rfl,
    by refine⟨?_,?_,?_,?_⟩<;>kernel_rfl,
    by refine⟨?_,?_,?_,?_⟩<;>kernel_rfl,
    by refine⟨?_,?_,?_,?_⟩<;>kernel_rfl,
    by refine⟨?_,?_,?_,?_⟩<;>kernel_rfl,
    by refine⟨?_,?_,?_,?_⟩<;>kernel_rfl,
    by refine⟨?_,?_,?_,?_⟩<;>kernel_rfl,
    by refine⟨?_,?_,?_,?_⟩<;>kernel_rfl,
    by refine⟨?_,?_,?_,?_⟩<;>kernel_rfl,
    by refine⟨?_,?_,?_,?_⟩<;>kernel_rfl,
    by refine⟨?_,?_,?_,?_⟩<;>kernel_rfl,
    by refine⟨?_,?_,?_,?_⟩<;>kernel_rfl,
    by refine⟨?_,?_,?_,?_⟩<;>kernel_rfl,
    by refine⟨?_,?_,?_,?_⟩<;>kernel_rfl,
    by refine⟨?_,?_,?_,?_⟩<;>kernel_rfl,
    by refine⟨?_,?_,?_,?_⟩<;>kernel_rfl,
    by refine⟨?_,?_,?_,?_⟩<;>kernel_rfl,
    by refine⟨?_,?_,?_,?_⟩<;>kernel_rfl,
    by refine⟨?_,?_,?_,?_⟩<;>kernel_rfl,
    by refine⟨?_,?_,?_,?_⟩<;>kernel_rfl,
    by refine⟨?_,?_,?_,?_⟩<;>kernel_rfl,
    by refine⟨?_,?_,?_,?_⟩<;>kernel_rfl,
    by refine⟨?_,?_,?_,?_⟩<;>kernel_rfl,
    by refine⟨?_,?_,?_,?_⟩<;>kernel_rfl,
    by refine⟨?_,?_,?_,?_⟩<;>kernel_rfl,
    by refine⟨?_,?_,?_,?_⟩<;>kernel_rfl,
    by refine⟨?_,?_,?_,?_⟩<;>kernel_rfl,trivial⟩
def J:=@lO
theorem Q{α:Sort _}{a:α}:a=a:=rfl
section
variable [kv]
theorem wH{X:lB}{tt:List (Nat×TD)}(lO:kf X.P tt)(n:Nat){b t:Bool}(K:b=t){c:Cf}(k:Wc X (Sw t (Wn tt X.fn.ntmps n c)))(hp:(Yg (Wn tt X.fn.ntmps n c).st.L (TN (Wn tt X.fn.ntmps n c)),Ml (Wn tt X.fn.ntmps n c))=(some (.c (.b b)),Mo b (Wn tt X.fn.ntmps n c)):=by kernel_rfl):Wc X c:=wa lO n (eK K k hp)
theorem wr{P:Program}{f:FuncId}{fn:Func}{ct:Ct}{E0:lC}{F0:YJ}{w0:World}{tt:List (Nat×TD)}(lO:kf P tt)(n:Nat)(hf:P.funcs[f]?=some fn)(l:List (Nat×SC)){c:Cf}
    (hp:(DN (Wn tt fn.ntmps n c),Rh tt (Wn tt fn.ntmps n c).st fn.results.toList,ct.V1.map (fun p=>Uy (Wn tt fn.ntmps n c).st ⟨l,0,0⟩ p.1 p.2),ct.M1.map (fun p=>W0 (Wn tt fn.ntmps n c).st ⟨l,0,0⟩ p.1 p.2),
        (Ui ⟨l,0,0⟩ ct.res && XL (ct.M1.filterMap fun p=>XT ⟨l,0,0⟩ p.1 p.2) && XL (ct.M1.map (·.1)) && l.all (fun p=>Nat.ble ct.nk p.1 && p.2.kbb (Wn tt fn.ntmps n c).st.nx))) =
      (true,some (W3 ⟨l,0,0⟩ ct.res),ct.V1.map (fun p=>some p.2),ct.M1.map (fun p=>some (Vl ⟨l,0,0⟩ p.2)),true):=by kernel_rfl):Wc (ct.ctx P f fn E0 F0 w0) c:=wa (X:=ct.ctx P f fn E0 F0 w0) lO n (Xi lO hf l hp)
theorem oi{α:Type}{a b:α}(h:some a=some b):a=b:=Zm h
theorem eB{X:lB}{b:Bool}{α:Type}{x y:Option α}{r:α}(h:(bif b then x else y)=some r){c:Cf}(k1:x=some r->Wc X (Sw true c))(k2:y=some r->Wc X (Sw false c))(hp:(Yg c.st.L (TN c),Ml c)=(some (.c (.b b)),Mo b c):=by kernel_rfl):Wc X c:=by
  rcases oc h with⟨K,h⟩|⟨K,h⟩
  · exact eK K (k1 h) hp
  · exact eK K (k2 h) hp
theorem Wj{X:lB}{b:Bool}{α:Type}{x y:Option α}{r:α}(h:(bif b then x else y)=some r){c:Cf}(k1:y=some r->Wc X (Sw false c))(k2:x=some r->Wc X (Sw true c))(hp:(Yg c.st.L (TN c),Ml c)=(some (.c (.b b)),Mo b c):=by kernel_rfl):Wc X c:=eB h k2 k1 hp
theorem wB{X:lB}{tt:List (Nat×TD)}(lO:kf X.P tt)(n:Nat){b:Bool}{α:Type}{x y:Option α}{r:α}(h:(bif b then x else y)=some r){c:Cf}(k1:x=some r->Wc X (Sw true (Wn tt X.fn.ntmps n c)))(k2:y=some r->Wc X (Sw false (Wn tt X.fn.ntmps n c)))(hp:(Yg (Wn tt X.fn.ntmps n c).st.L (TN (Wn tt X.fn.ntmps n c)),Ml (Wn tt X.fn.ntmps n c))=(some (.c (.b b)),Mo b (Wn tt X.fn.ntmps n c)):=by kernel_rfl):Wc X c:=by
  rcases oc h with⟨K,h⟩|⟨K,h⟩
  · exact wH lO n K (k1 h) hp
  · exact wH lO n K (k2 h) hp
theorem Yu{X:lB}{tt:List (Nat×TD)}(lO:kf X.P tt)(n:Nat){b:Bool}{α:Type}{x y:Option α}{r:α}(h:(bif b then x else y)=some r){c:Cf}(k1:y=some r->Wc X (Sw false (Wn tt X.fn.ntmps n c)))(k2:x=some r->Wc X (Sw true (Wn tt X.fn.ntmps n c)))(hp:(Yg (Wn tt X.fn.ntmps n c).st.L (TN (Wn tt X.fn.ntmps n c)),Ml (Wn tt X.fn.ntmps n c))=(some (.c (.b b)),Mo b (Wn tt X.fn.ntmps n c)):=by kernel_rfl):Wc X c:=wB lO n h k2 k1 hp
theorem wO{X:lB}{tt:List (Nat×TD)}(lO:kf X.P tt)(n:Nat){α β:Type}{o:Option α}{f:α->Option β}{r:β}(h:o.bind f=some r){c:Cf}(k:∀x,o=some x->f x=some r->Wc X (Wn tt X.fn.ntmps n c)):Wc X c:=by have⟨x,e,h⟩:=ob h;exact wa lO n (k x e h)
end
abbrev UU:=fun L=>(⟨L,[],[],0⟩:St)
abbrev GU:=fun x0 x1 L=>(⟨L,[(0,.box [.s x0,.I x1] 107)],[],1⟩:St)
abbrev GV:=fun x0 L=>(⟨L,[],[(0,.sl rS x0)],1⟩:St)
abbrev zz3:=fun x0 x1 L=>(⟨L,[(1,.box (SQ 2 3 4 5 x0) 33)],((0,.sl (rI .i64) x1)::Mn 2 3 4 5 x0 []),6⟩:St)
abbrev zz4:=fun x0 L=>(⟨L,[(0,.box (VO x0) 107),(1,.box [.I 0,.s (str []),.I 0,.I 0] 111)],[],2⟩:St)
abbrev zz5:=fun x0 L=>(⟨L,[(0,.own rS x0 true)],[],1⟩:St)
abbrev zz6:=fun x0 x1 x2 L=>(⟨L,[(1,.box [.s x0,.sl 2,.sl 3,.sl 4] 56)],((0,.sl YN x1)::Xg 2 3 4 x2 []),5⟩:St)
abbrev zz7:=fun x0 x1 L=>(⟨L,[(1,.box (X2 x0) 102)],[(0,.sl XK x1)],2⟩:St)
abbrev zz8:=fun x0 x1 x2 x3 x4 x5 x6 x7 L=>(⟨L,[(1,.box [.I x0,.s x1,.sl 2,.s x2,.s x3,.I x4,.sl 3] 132)],[(0,.sl Xa x5),(2,.sl rS x6),(3,.sl (YH Yz) x7)],4⟩:St)
abbrev zz9:=fun x0 x1 x2 x3 x4 x5 x6 x7 L=>(⟨L,[(1,.box [.I x0,.s x1,.sl 2,.s x2,.s x3,.I x4,.sl 3] 132)],[(0,.sl X9 x5),(2,.sl rS x6),(3,.sl (YH Yz) x7)],4⟩:St)
abbrev Zeb:=fun x0 x1 x2 x3 x4 x5 x6 x7 x8 x9 x10 L=>(⟨L,[(0,.box [.sl 6,.s x0,.sl 7,.sl 8,.sl 9,.sl 10,.s x1,.s x2,.I x3] 125),(10,.own rS x4 false)],((1,.sl YN x5)::Xg 2 3 4 x6 [(6,.sl YN x7),(7,.sl rS x8),(8,.sl Xa x9),(9,.sl Yz x10)]),11⟩:St)
abbrev ZhA:=fun x0 x1 x2 x3 x4 x5 x6 x7 x8 x9 x10 x11 x12 x13 x14 x15 x16 x17 x18 x19 x20 L=>(⟨L,[(0,.box [.sl 18,.s x0,.sl 19,.sl 20,.sl 21,.sl 22,.s x1,.s x2,.I x3] 125),(16,.box [.I x4,.s x5,.sl 14,.s x6,.s x7,.I x8,.sl 15] 132),(22,.own rS x9 false),(23,.own X9 x10 true)],((1,.sl YN x11)::Xg 2 3 4 x12 [(6,.sl Yz x13),(7,.sl X9 x14),(14,.sl rS x15),(15,.sl (YH Yz) x16),(18,.sl YN x17),(19,.sl rS x18),(20,.sl Xa x19),(21,.sl Yz x20)]),24⟩:St)
abbrev Znm:=fun x0 x1 L=>(⟨L,[(0,.box (VO x0) 107),(1,.box [.I 0,.s (str []),.I 0,.I 0] 111),(2,.box [.I 2,.s (str []),.I x1,.I 0] 111)],[],3⟩:St)
abbrev Znn:=fun x0 x1 x2 L=>(⟨L,[(0,.box [.s x0,.I x1] 107),(1,.box [.I 0,.s (str []),.I 0,.I 0] 111),(2,.own (rI .u8) x2 true)],[],3⟩:St)
abbrev Zno:=fun x0 x1 x2 x3 x4 x5 x6 x7 x8 L=>(⟨L,[(0,.box [.sl 13,.I x0,.I x1,.I x2,.I x3] 66),(2,.box [.s (str []),.nil,.nil] 97),(4,.box [.s x4,.sl 8,.sl 14] 97),(8,.own XK x5 true),(14,.own Sv x6 true)],[(1,.sl Y2 x7),(13,.sl Y2 x8)],15⟩:St)
abbrev Znp:=fun x0 x1 x2 x3 x4 x5 x6 x7 L=>(⟨L,[(0,.box [.sl 10,.I x0,.I x1,.I x2,.I x3] 66),(2,.box [.s (str []),.nil,.nil] 97),(4,.box [.s x4,.sl 11,.nil] 97),(11,.own XK x5 true)],[(1,.sl Y2 x6),(10,.sl Y2 x7)],12⟩:St)
abbrev Znq:=fun x0 x1 x2 x3 x4 x5 x6 x7 x8 L=>(⟨L,[(0,.box [.sl 11,.I x0,.I x1,.I x2,.I x3] 66),(2,.box [.I 0,.s (str []),.nil,.s (str []),.s (str []),.I 0,.nil] 132),(5,.box [.I 2,.s x4,.nil,.s (str []),.s (str []),.I x5,.sl 12] 132),(12,.own (YH Yz) x6 true)],[(1,.sl Y2 x7),(11,.sl Y2 x8)],13⟩:St)
abbrev Znr:=fun x0 x1 x2 x3 x4 x5 x6 L=>(⟨L,[(0,.box [.sl 16,.I x0,.I x1,.I x2,.I x3] 66),(2,.box [.I 0,.s (str []),.nil,.s (str []),.s (str []),.I 0,.nil] 132),(10,.box [.I 5,.s (str []),.nil,.s (str []),.s (str []),.I 0,.sl 17] 132),(17,.own (YH Yz) x4 true)],[(1,.sl Y2 x5),(16,.sl Y2 x6)],18⟩:St)
abbrev Zns:=fun x0 x1 x2 x3 x4 x5 x6 x7 x8 L=>(⟨L,[(0,.box [.sl 11,.I x0,.I x1,.I x2,.I x3] 66),(2,.box [.s (str []),.nil,.nil,.nil] 56),(5,.box [.s x4,.sl 7,.sl 12,.nil] 56),(7,.own rS x5 true),(12,.own Xa x6 true)],[(1,.sl Y2 x7),(11,.sl Y2 x8)],13⟩:St)
abbrev Znt:=fun x0 x1 x2 x3 x4 x5 L=>(⟨L,[(2,.box [.bp 2 0,.sl 3,.I x0] 197),(3,.buf x1 5),(4,.abs x2),(5,.box [.s x3,.sl 0,.sl 1] 97),(6,.own rS x4 true)],(XU 0 1 x5 []),7⟩:St)
abbrev Znu:=fun x0 x1 x2 x3 x4 x5 x6 L=>(⟨L,[(2,.box [.bp 2 0,.sl 3,.I x0] 197),(3,.buf x1 5),(4,.abs x2),(5,.box [.s x3,.sl 0,.sl 1] 97),(6,.own rS x4 true),(7,.own rS x5 true)],(XU 0 1 x6 []),8⟩:St)
abbrev Znv:=fun x0 x1 x2 x3 x4 x5 L=>(⟨L,[(1,.abs x0),(2,.box [.bp 2 0,.sl 10,.I x1] 197),(7,.box [.s x2,.sl 4,.sl 5,.sl 6] 56),(10,.buf x3 5)],((0,.sl YN x4)::Xg 4 5 6 x5 []),11⟩:St)
abbrev Znw:=fun x0 x1 x2 x3 x4 x5 L=>(⟨L,[(1,.abs x0),(2,.box [.bp 2 0,.sl 22,.I x1] 197),(19,.box [.s x2,.sl 16,.sl 17,.sl 18] 56),(22,.buf x3 5)],((0,.sl YN x4)::Xg 16 17 18 x5 []),23⟩:St)
abbrev Znx:=fun x0 x1 x2 x3 x4 x5 x6 x7 x8 x9 x10 x11 x12 x13 x14 x15 x16 x17 L=>(⟨L,[(0,.box [.sl 18,.s x0,.sl 19,.sl 20,.sl 21,.sl 22,.s x1,.s x2,.I x3] 125),(8,.box [.I x4,.s x5,.sl 6,.s x6,.s x7,.I x8,.sl 7] 132),(22,.own rS x9 false)],((1,.sl YN x10)::Xg 2 3 4 x11 [(6,.sl rS x12),(7,.sl (YH Yz) x13),(18,.sl YN x14),(19,.sl rS x15),(20,.sl Xa x16),(21,.sl Yz x17)]),23⟩:St)
abbrev Zny:=fun x0 x1 x2 x3 x4 x5 x6 x7 x8 x9 x10 x11 x12 L=>(⟨L,[(0,.box [.sl 8,.s x0,.sl 9,.sl 10,.sl 11,.sl 12,.s x1,.s x2,.I x3] 125),(12,.own rS x4 false)],((1,.sl YN x5)::Xg 2 3 4 x6 [(6,.sl Yz x7),(7,.sl X9 x8),(8,.sl YN x9),(9,.sl rS x10),(10,.sl Xa x11),(11,.sl Yz x12)]),13⟩:St)
abbrev Znz:=fun x0 x1 x2 x3 x4 x5 x6 x7 x8 x9 x10 x11 x12 x13 x14 x15 x16 x17 x18 x19 x20 L=>(⟨L,[(0,.box [.sl 8,.s x0,.sl 9,.sl 10,.sl 11,.sl 12,.s x1,.s x2,.I x3] 125),(12,.own rS x4 false),(16,.box [.I x5,.s x6,.sl 14,.s x7,.s x8,.I x9,.sl 15] 132),(17,.own X9 x10 true)],((1,.sl YN x11)::Xg 2 3 4 x12 [(6,.sl Yz x13),(7,.sl X9 x14),(8,.sl YN x15),(9,.sl rS x16),(10,.sl Xa x17),(11,.sl Yz x18),(14,.sl rS x19),(15,.sl (YH Yz) x20)]),18⟩:St)
abbrev ZnA:=fun x0 x1 x2 x3 x4 x5 x6 x7 x8 x9 x10 x11 x12 x13 L=>(⟨L,[(0,.box [.sl 29,.s x0,.sl 30,.sl 31,.sl 32,.sl 33,.s x1,.s x2,.I x3] 125),(14,.box [.s x4,.sl 12,.sl 13] 97),(27,.box (V8 x5) 138),(33,.own rS x6 false)],((1,.sl YN x7)::Xg 2 3 4 x8 (XU 12 13 x9 [(29,.sl YN x10),(30,.sl rS x11),(31,.sl Xa x12),(32,.sl Yz x13)])),34⟩:St)
abbrev ZnB:=fun x0 x1 x2 x3 x4 x5 x6 x7 x8 x9 x10 x11 x12 x13 x14 x15 x16 x17 x18 x19 x20 x21 x22 x23 L=>(⟨L,[(0,.box [.sl 24,.s x0,.sl 25,.sl 26,.sl 27,.sl 28,.s x1,.s x2,.I x3] 125),(14,.box [.s x4,.sl 12,.sl 13] 97),(21,.box [.I x5,.s x6,.s x7,.I x8,.s x9,.I x10,.s x11,.s x12,.I x13] 104),(22,.box [.I x5,.s x6,.s x7,.I x8,.I x10,.s x11,.s x12,.I x13] 206),(23,.box [.I x14,.I x15] 154),(28,.own rS x16 false)],((1,.sl YN x17)::Xg 2 3 4 x18 (XU 12 13 x19 [(24,.sl YN x20),(25,.sl rS x21),(26,.sl Xa x22),(27,.sl Yz x23)])),29⟩:St)
abbrev ZnC:=fun x0 x1 x2 x3 x4 x5 x6 x7 x8 x9 x10 x11 x12 x13 x14 x15 x16 x17 x18 x19 x20 x21 x22 x23 x24 x25 x26 x27 L=>(⟨L,[(0,.box [.sl 29,.s x0,.sl 30,.sl 31,.sl 32,.sl 33,.s x1,.s x2,.I x3] 125),(14,.box [.s x4,.sl 12,.sl 13] 97),(21,.box [.I x5,.s x6,.s x7,.I x8,.s x9,.I x10,.s x11,.s x12,.I x13] 104),(23,.box [.I x14,.I x15] 154),(33,.own rS x16 false),(34,.box [.I x17,.s x18,.s x19,.I x20] 102)],((1,.sl YN x21)::Xg 2 3 4 x22 (XU 12 13 x23 [(29,.sl YN x24),(30,.sl rS x25),(31,.sl Xa x26),(32,.sl Yz x27)])),35⟩:St)
abbrev ZnD:=fun x0 x1 L=>(⟨L,[(1,.box (XP 2 3 4 5 6 x0) 125),(7,.box [.bp 1 0] 123)],((0,.sl rS x1)::Mm 2 3 4 5 6 x0 []),8⟩:St)
abbrev ZnE:=fun x0 x1 L=>(⟨L,[(0,.own rS x0 false),(1,.box (XP 2 3 4 5 6 x1) 125),(7,.box [.bp 1 0] 123)],(Mm 2 3 4 5 6 x1 []),8⟩:St)
abbrev ZnF:=fun x0 x1 x2 x3 x4 L=>(⟨L,[(0,.box (XP 1 2 3 4 5 x0) 125),(5,.own rS x1 false),(6,.box [.bp 0 0] 123),(8,.own rS x2 true)],((1,.sl YN x3)::Xg 2 3 4 x4 []),9⟩:St)
abbrev ZnG:=fun x0 x1 L=>(⟨L,[(1,.abs x0),(2,.box [.s (str []),.s (str []),.I 0] 70)],[(0,.sl YN x1)],3⟩:St)
abbrev ZnH:=fun x0 x1 x2 x3 x4 x5 x6 x7 x8 x9 x10 x11 x12 L=>(⟨L,[(1,.abs x0),(2,.box [.s (str []),.s (str []),.I 0] 70),(7,.box [.s x1,.sl 4,.sl 5,.sl 6] 56),(8,.box [.sl 15,.s x2,.sl 16,.sl 17,.sl 18,.sl 19,.s x3,.s x4,.I x5] 125),(19,.own rS x6 true)],((0,.sl YN x7)::Xg 4 5 6 x8 [(15,.sl YN x9),(16,.sl rS x10),(17,.sl Xa x11),(18,.sl Yz x12)]),20⟩:St)
abbrev ZnI:=fun x0 x1 x2 L=>(⟨L,[(1,.abs x0),(2,.box [.sl 5] 29),(5,.own lJ x1 true)],[(0,.sl Xa x2)],6⟩:St)
abbrev ZnJ:=fun x0 x1 x2 x3 x4 x5 x6 x7 x8 x9 x10 L=>(⟨L,[(4,.box [.sl 0,.b x0,.b x1,.I x2,.I x3,.I x4,.I x5,.sl 1,.sl 2] 161),(5,.box [.v (.pointer x6),.nil] 195)],[(0,.sl (rI .i64) x7),(1,.sl lG x8),(2,.sl (rI .i64) x9),(3,.sl (rI .i64) x10)],6⟩:St)
abbrev ZnK:=fun x0 x1 x2 x3 x4 x5 x6 x7 x8 x9 x10 x11 x12 x13 x14 x15 x16 x17 x18 x19 x20 x21 L=>(⟨L,[(0,.box [.s x0,.sl 1,.sl 2,.I x1,.I x2,.I x3,.sl 19,.sl 20] 33),(6,.own (rI .i64) x4 true),(7,.av x5),(18,.box [.sl 15,.b x6,.b x7,.I x8,.I x9,.I x10,.I x11,.sl 16,.sl 17] 161),(19,.own UL x12 false),(20,.own UM x13 false),(23,.box (PL x14) 39),(26,.own (rI .i64) x15 true)],[(1,.sl rS x16),(2,.sl rR0 x17),(5,.sl lF x18),(15,.sl (rI .i64) x19),(16,.sl lG x20),(17,.sl (rI .i64) x21)],27⟩:St)
end Gx
end
