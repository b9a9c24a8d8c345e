/- How typed values lie in the machine, and the types of the program. -/
import Derived.Test.YthmedickagkdoaaGreatDoorChecked
import Derived.Test.YthmedickagkdoaaGreatDoorGuardDeclsPure
import Derived.Test.YthmedickagkdoaaGreatDoorGuardDeclsLib
set_option linter.all false
section
open Go Go.Kx Go.Proofs
namespace Gx
abbrev rR4:TRep T4:=rM (fun x=>(x.Zq,x.Lo,x.Hi)) (rP (rI .i64) (rP (rI .i64) (rI .i64)))
abbrev oO4:Opn rR4:=oM _ (oP (oI .i64) (oP (oI .i64) (oI .i64)))
abbrev YU:TRep T2:=rM (fun x=>(x.Zt,x.Zu)) (rP rS rR4)
abbrev XK:Opn YU:=oM _ (oP oS oO4)
abbrev Lg:TRep Yq:=rM (fun x=>(x.Zq,x.Zv,x.Field,x.N)) (rP (rI .i64) (rP rS (rP rS (rI .i64))))
abbrev ZaK:Opn Lg:=oM _ (oP (oI .i64) (oP oS (oP oS (oI .i64))))
abbrev Q6:TRep Wu:=rM (fun x=>(x.Zw,x.Op,x.Zx)) (rP Lg (rP rS Lg))
abbrev Q2:Opn Q6:=oM _ (oP ZaK (oP oS ZaK))
abbrev Xm:TRep Yg:=rM (fun x=>(x.Zt,x.Zy,x.Zz)) (rP rS (rP (Yx YU) (Yx Q6)))
abbrev VJ:Opn Xm:=oM _ (oP oS (oP (Y8 YU) (Y8 Q6)))
abbrev ZkQ (R:TRep ZY):TRep ZY:=rM (fun x=>(x.Zq,x.ZA,x.To,x.Zt,x.As,x.ZB,x.ZC)) (rP (rI .i64) (rP rS (rP (Yx rS) (rP rS (rP rS (rP (rI .i64) (Yx (Yx R))))))))
theorem Zrs:UD ZkQ:=Zke _ (UP (UQ _) (UP (UQ _) (UP (UQ _) (UP (UQ _) (UP (UQ _) (UP (UQ _) (ZaG (ZaG Zkf))))))))
abbrev YA:TRep ZY:=RW ZkQ 7 (by decide) (fun _ _=>rfl)
abbrev Us:Opn YA:=Opn.of (ZkN Zrs) (oM _ (oP (oI .i64) (oP oS (oP (Y8 rS) (oP oS (oP oS (oP (oI .i64) (Y8 (Yx YA)))))))))
abbrev Yw:TRep Z3:=rM (fun x=>(x.Zt,x.ZD,x.ZE,x.ZF)) (rP rS (rP (Yx rS) (rP (Yx Xm) (Yx YA))))
abbrev WQ:Opn Yw:=oM _ (oP oS (oP (Y8 rS) (oP (Y8 Xm) (Y8 YA))))
abbrev Tu:TRep Y5:=rM (fun x=>(x.Zw,x.Op,x.Zx)) (rP Lg (rP rS Lg))
abbrev Q3:Opn Tu:=oM _ (oP ZaK (oP oS ZaK))
abbrev YX:TRep Z2:=rM (fun x=>(x.Zt,x.Zy,x.Zz)) (rP rS (rP (Yx YU) (Yx Tu)))
abbrev Ut:Opn YX:=oM _ (oP oS (oP (Y8 YU) (Y8 Tu)))
abbrev ZkR (R:TRep ZS):TRep ZS:=rM (fun x=>(x.Zq,x.ZA,x.To,x.Zt,x.As,x.ZB,x.ZC)) (rP (rI .i64) (rP rS (rP (Yx rS) (rP rS (rP rS (rP (rI .i64) (Yx (Yx R))))))))
theorem Zrt:UD ZkR:=Zke _ (UP (UQ _) (UP (UQ _) (UP (UQ _) (UP (UQ _) (UP (UQ _) (UP (UQ _) (ZaG (ZaG Zkf))))))))
abbrev Yi:TRep ZS:=RW ZkR 7 (by decide) (fun _ _=>rfl)
abbrev Q4:Opn Yi:=Opn.of (ZkN Zrt) (oM _ (oP (oI .i64) (oP oS (oP (Y8 rS) (oP oS (oP oS (oP (oI .i64) (Y8 (Yx Yi)))))))))
abbrev Ys:TRep ZT:=rM (fun x=>(x.Zt,x.ZD,x.ZE,x.ZF)) (rP rS (rP (Yx rS) (rP (Yx YX) (Yx Yi))))
abbrev Vp:Opn Ys:=oM _ (oP oS (oP (Y8 rS) (oP (Y8 YX) (Y8 Yi))))
abbrev YD:TRep T7:=rM (fun x=>(x.Zq,x.ZG,x.Value,x.ZA)) (rP (rI .i64) (rP rS (rP (rI .i64) (rI .i64))))
abbrev Ld:Opn YD:=oM _ (oP (oI .i64) (oP oS (oP (oI .i64) (oI .i64))))
abbrev rR8:TRep T8:=rM (fun x=>(x.s',x.at')) (rP rS (rI .i64))
abbrev oO8:Opn rR8:=oM _ (oP oS (oI .i64))
abbrev Zro:TRep Z9:=rM (fun x=>(x.l',x.n',x.end',x.at',x.err')) (rP (Yx YD) (rP (rI .i64) (rP (rI .i64) (rP (rI .i64) (rI .i64)))))
abbrev ZvJ:Opn Zro:=oM _ (oP (Y8 YD) (oP (oI .i64) (oP (oI .i64) (oP (oI .i64) (oI .i64)))))
abbrev YV:TRep T1:=rM (fun x=>(x.X,x.Y,x.C)) (rP (rI .i64) (rP (rI .i64) (rI .i64)))
abbrev WV:Opn YV:=oM _ (oP (oI .i64) (oP (oI .i64) (oI .i64)))
abbrev rR3:TRep T3:=rM (fun x=>(x.ZH,x.ZI)) (rP (Yx YV) (Yx (rP (rI .i64) (rI .i64))))
abbrev oO3:Opn rR3:=oM _ (oP (Y8 YV) (Y8 (rP (rI .i64) (rI .i64))))
abbrev rR0:TRep T0:=rM (fun x=>(x.Zt,x.Zy,x.ZJ,x.ZK)) (rP rS (rP (Yx YU) (rP (rI .i64) rR3)))
abbrev S7:Opn rR0:=oM _ (oP oS (oP (Y8 YU) (oP (oI .i64) oO3)))
abbrev rR9:TRep T9:=rM (fun x=>(x.ZL,x.Zt,x.ZM)) (rP rS (rP rS (rI .i64)))
abbrev oO9:Opn rR9:=oM _ (oP oS (oP oS (oI .i64)))
abbrev Zrm:TRep ZX:=rM (fun x=>(x.all',x.p',x.calls',x.out')) (rP (Yx Ys) (rP Ys (rP (Yx rS) rR9)))
abbrev ZvH:Opn Zrm:=oM _ (oP (Y8 Ys) (oP Vp (oP (Y8 rS) oO9)))
abbrev XL:TRep Yv:=rM (fun x=>(x.name',x.tail',x.hidden')) (rP rS (rP rB rB))
abbrev UR:Opn XL:=oM _ (oP oS (oP oB oB))
abbrev rR6:TRep T6:=rM (fun x=>(x.x',x.n')) (rP (rI .i64) (rI .i64))
abbrev oO6:Opn rR6:=oM _ (oP (oI .i64) (oI .i64))
abbrev Y9:TRep T5:=rM (fun x=>(x.Zq,x.N,x.S)) (rP (rI .i64) (rP (rI .i64) rS))
abbrev Wz:Opn Y9:=oM _ (oP (oI .i64) (oP (oI .i64) oS))
abbrev Zrp:TRep YI:=rM (fun x=>(x.N,x.B)) (rP (rI .i64) (Yx (rI .i64)))
abbrev ZvK:Opn Zrp:=oM _ (oP (oI .i64) (Y8 (rI .i64)))
abbrev Zrn:TRep Z7:=rM (fun x=>(x.l',x.p',x.calls',x.first')) (rP (Yx Yw) (rP Yw (rP (Yx rS) rR9)))
abbrev ZvI:Opn Zrn:=oM _ (oP (Y8 Yw) (oP WQ (oP (Y8 rS) oO9)))
abbrev Zk7:TRep T3:=rM (fun x=>(x.ZH,x.ZI)) (rP (rOp (List T1)) (rOp (List (Int × Int))))
abbrev Zrd:Opn Zk7:=oM _ (oP (oOp (List T1)) (oOp (List (Int × Int))))
abbrev rq_api_Decl:TRep T0:=rM (fun x=>(x.Zt,x.Zy,x.ZJ,x.ZK)) (rP rS (rP (Yx YU) (rP (rI .i64) Zk7)))
abbrev Tt:Opn rq_api_Decl:=oM _ (oP oS (oP (Y8 YU) (oP (oI .i64) Zrd)))
abbrev rn_api_Decl:TRep T0:=rM (fun x=>(x.Zt,x.Zy,x.ZJ,(x.ZK.ZH,x.ZK.ZI))) (rP rS (rP (Yx YU) (rP (rI .i64) (rP (rNl (List T1)) (rNl (List (Int × Int)))))))
abbrev ZkC:Opn rn_api_Decl:=oM _ (oP oS (oP (Y8 YU) (oP (oI .i64) (oP (oNl (List T1)) (oNl (List (Int × Int)))))))
abbrev GG:=ByteArray × List T2 × Int × (G1 × Option (List T1)) × (G1 × Option (List (Int × Int)))
abbrev UV:TRep (Int × Int):=rP (rI .i64) (rI .i64)
abbrev rg_Decl:TRep GG:=rP rS (rP (Yx YU) (rP (rI .i64) (rP (rDs YV) (rDs UV))))
abbrev RT:Opn rg_Decl:=oP oS (oP (Y8 YU) (oP (oI .i64) (oP (oDs YV) (oDs UV))))
abbrev QU (d:T0):GG:=(d.Zt,d.Zy,d.ZJ,(Wk,some []),(Wk,some []))
abbrev VK (x:GG):T0:=⟨x.1,x.2.1,x.2.2.1,⟨[],[]⟩⟩
abbrev YM (x:GG) (u:G1) (a:Option (List T1)) (v:G1) (b:Option (List (Int × Int))):GG:=(x.1,x.2.1,x.2.2.1,(u,a),(v,b))
theorem Zo5 {F:YB} {w:World} {d:T0} {vs:List Value} (h:rn_api_Decl.rep F w d vs):rg_Decl.rep F w (QU d) vs:=by
  have ⟨u1,w1,e1,h1,u2,w2,e2,h2,u3,w3,e3,h3,u4,w4,e4,h4,h5⟩:=h
  exact ⟨u1,w1,e1,h1,u2,w2,e2,h2,u3,w3,e3,h3,u4,w4,e4,⟨h4,fun xs e=>by cases e;exact .inl ⟨rfl,none,0,rfl⟩⟩,⟨h5,fun xs e=>by cases e;exact .inl ⟨rfl,none,0,rfl⟩⟩⟩
theorem Zau {F:YB} {w:World} {x:GG} {vs:List Value} (h:rg_Decl.rep F w x vs):rq_api_Decl.rep F w (VK x) vs:=by
  have ⟨u1,w1,e1,h1,u2,w2,e2,h2,u3,w3,e3,h3,u4,w4,e4,h4,h5⟩:=h
  exact ⟨u1,w1,e1,h1,u2,w2,e2,h2,u3,w3,e3,h3,u4,w4,e4,⟨_,h4.1⟩,⟨_,h5.1⟩⟩
theorem Zo6 {F:YB} {w:World} {x:GG} {vs:List Value} (h:rg_Decl.rep F w x vs):rg_Decl.rep F w (YM x x.2.2.2.1.1 none x.2.2.2.2.1 none) vs:=by
  have ⟨u1,w1,e1,h1,u2,w2,e2,h2,u3,w3,e3,h3,u4,w4,e4,h4,h5⟩:=h
  exact ⟨u1,w1,e1,h1,u2,w2,e2,h2,u3,w3,e3,h3,u4,w4,e4,⟨h4.1,fun xs e=>by cases e⟩,⟨h5.1,fun xs e=>by cases e⟩⟩
theorem Zjv {F:YB} {w:World} {x:GG} {u v:G1} {b:Option (List (Int × Int))} {D:List T1} {vs:List Value} (h:rg_Decl.rep F w (YM x u none v b) vs) (hs:SlR YV F w D u.1):rg_Decl.rep F w (YM x u (some D) v b) vs:=by
  have ⟨u1,w1,e1,h1,u2,w2,e2,h2,u3,w3,e3,h3,u4,w4,e4,h4,h5⟩:=h
  exact ⟨u1,w1,e1,h1,u2,w2,e2,h2,u3,w3,e3,h3,u4,w4,e4,⟨h4.1,fun xs e=>by cases e;exact hs⟩,h5⟩
theorem Zjw {F:YB} {w:World} {x:GG} {u v:G1} {a:Option (List T1)} {D:List (Int × Int)} {vs:List Value} (h:rg_Decl.rep F w (YM x u a v none) vs) (hs:SlR UV F w D v.1):rg_Decl.rep F w (YM x u a v (some D)) vs:=by
  have ⟨u1,w1,e1,h1,u2,w2,e2,h2,u3,w3,e3,h3,u4,w4,e4,h4,h5⟩:=h
  exact ⟨u1,w1,e1,h1,u2,w2,e2,h2,u3,w3,e3,h3,u4,w4,e4,h4,⟨h5.1,fun xs e=>by cases e;exact hs⟩⟩
theorem Zo4 {F:YB} {w:World} {x:GG} {g:T3} {vs:List Value} (hd:x.2.2.2.1.2=some g.ZH) (he:x.2.2.2.2.2=some g.ZI) (h:rg_Decl.rep F w x vs):rR0.rep F w ⟨x.1,x.2.1,x.2.2.1,g⟩ vs:=by
  have ⟨u1,w1,e1,h1,u2,w2,e2,h2,u3,w3,e3,h3,u4,w4,e4,h4,h5⟩:=h
  exact ⟨u1,w1,e1,h1,u2,w2,e2,h2,u3,w3,e3,h3,u4,w4,e4,⟨_,h4.1,h4.2 _ hd⟩,⟨_,h5.1,h5.2 _ he⟩⟩
/-- Behind some turns: the elements ahead have their guards, those behind have none. -/
def Vx (ds:List T0) (G:List T3) (gs:List GG):Prop :=
  gs.map VK=ds/\∀ (j:Nat) (x:GG),gs[j]? = some x->(∀ g,G[j]? = some g->x.2.2.2.1.2=some g.ZH/\x.2.2.2.2.2=some g.ZI)/\(G[j]? = none->x.2.2.2=((Wk,some []),(Wk,some [])))
theorem ZjI (ds:List T0):Vx (ds.map Xg) [] (ds.map QU):=by
  refine ⟨by rw [List.map_map];rfl,fun j x hx=>⟨fun g hg=>(by cases hg),fun _=>?_⟩⟩
  rw [List.getElem?_map] at hx
  cases hd:ds[j]? with
  | none=>rw [hd] at hx;cases hx
  | some d=>rw [hd] at hx;cases hx;rfl
theorem ZjK {ds:List T0} {G:List T3} {gs:List GG} {i:Int} {d:T0} (h:Vx ds G gs) (hd:ZW ds i=some d) (hi:i=(G.length:Int)):∃ x,ZW gs i=some x/\gs[i.toNat]? = some x/\x.2.2.2=((Wk,some []),(Wk,some [])):=by
  have ⟨h0,h1,h2⟩:=SX hd
  rw [<- h.1,List.getElem?_map] at h2
  cases hx:gs[i.toNat]? with
  | none=>rw [hx] at h2;cases h2
  | some x =>
    refine ⟨x,?_,rfl,(h.2 _ _ hx).2 ?_⟩
    · unfold ZW
      rw [decide_eq_true h0]
      exact hx
    · rw [hi,Int.toNat_natCast]
      exact List.getElem?_eq_none (Zo _)
theorem Zlh {α β:Type} (f:α->β) (xs:List α) (i:Nat) (y x:α) (hx:xs[i]? = some x) (h:f y=f x):(xs.set i y).map f=xs.map f:=by
  apply List.ext_getElem?
  intro j
  rw [List.getElem?_map,List.getElem?_map,List.getElem?_set]
  split
  · rename_i e
    subst e
    have:i < xs.length:=(List.getElem?_eq_some_iff.1 hx).1
    rw [if_pos this,hx]
    simp [h]
  · rfl
theorem ZjL {ds:List T0} {G:List T3} {gs:List GG} {i:Int} {x:GG} {g:T3} {u v:G1} (h:Vx ds G gs) (hx:gs[i.toNat]? = some x) (hi:i=(G.length:Int)):Vx ds (G++[g]) (gs.set i.toNat (YM x u (some g.ZH) v (some g.ZI))):=by
  have hn:i.toNat=G.length:=by rw [hi,Int.toNat_natCast]
  refine ⟨by rw [Zlh VK gs i.toNat (YM x u (some g.ZH) v (some g.ZI)) x hx rfl];exact h.1,fun j y hy=>?_⟩
  rw [List.getElem?_set] at hy
  split at hy
  · rename_i e
    subst e
    rw [if_pos (List.getElem?_eq_some_iff.1 hx).1] at hy
    cases hy
    rw [hn]
    refine ⟨fun g' hg=>?_,fun hg=>?_⟩
    · simp at hg
      subst hg
      exact ⟨rfl,rfl⟩
    · simp at hg
  · rename_i e
    have ⟨a1,a2⟩:=h.2 j y hy
    refine ⟨fun g' hg=>?_,fun hg=>a2 ?_⟩
    · refine a1 g' ?_
      rw [List.getElem?_append] at hg
      split at hg
      · exact hg
      · rename_i e2
        have:j-G.length≠0:=by omega
        have ⟨q,hq⟩:=Nat.exists_eq_succ_of_ne_zero this
        rw [hq] at hg
        cases hg
    · rw [List.getElem?_eq_none_iff,List.length_append] at hg
      exact List.getElem?_eq_none (by simp at hg;omega)
theorem ZjT:∀ (ds:List T0) (G:List T3) (j:Nat) (y:T0),(Xv ds G)[j]? = some y->∃ d g,ds[j]? = some d/\G[j]? = some g/\y=⟨d.Zt,d.Zy,d.ZJ,g⟩
  | [],_,j,y,h=>by simp [Xv] at h
  | _::_,[],j,y,h=>by simp [Xv] at h
  | d::ds,g::gs,0,y,h=>by cases h;exact ⟨d,g,rfl,rfl,rfl⟩
  | d::ds,g::gs,j+1,y,h=>ZjT ds gs j y h
theorem ZjU:∀ (ds:List T0) (G:List T3),G.length=ds.length->(Xv ds G).length=ds.length
  | [],_,_=>rfl
  | _::_,[],h=>by cases h
  | d::ds,g::gs,h=>by simp [Xv,ZjU ds gs (Nat.succ.inj h)]
theorem ZjJ {ds:List T0} {G:List T3} {gs:List GG} (h:Vx ds G gs) (hn:G.length=ds.length) :
    (Xv ds G).length=gs.length/\∀ (i:Nat) (x:GG) (y:T0),gs[i]? = some x->(Xv ds G)[i]? = some y->∀ F w vs,rg_Decl.rep F w x vs->rR0.rep F w y vs:=by
  refine ⟨by rw [ZjU _ _ hn,<- h.1,List.length_map],fun i x y hx hy F w vs hr=>?_⟩
  obtain ⟨d,g,h1,h2,rfl⟩:=ZjT _ _ _ _ hy
  rw [<- h.1,List.getElem?_map,hx] at h1
  cases h1
  have ⟨a1,a2⟩:=(h.2 i x hx).1 g h2
  exact Zo4 a1 a2 hr
noncomputable def TX {α:Type} (p:Prop) (x:Option α):Option α:=@ite _ p (Classical.propDecidable p) x none
theorem Zaw {α:Type} {p:Prop} {x:Option α} {r:α} (h:TX p x=some r):p/\x=some r:=by
  unfold TX at h
  split at h
  · exact ⟨‹_›,h⟩
  · cases h
theorem M6 {α:Type} {p:Prop} {x:Option α} {r:α} (hp:p) (h:x=some r):TX p x=some r:=by
  unfold TX
  rw [if_pos hp];exact h
theorem ZjG {α:Type} (p:Prop):TX p (none:Option α)=none:=by
  unfold TX
  split<;>rfl
theorem UY {α:Type} {xs:List α} {i:Int} {x y:α} (h:ZW xs i=some x):ZW (xs.set i.toNat y) i=some y:=by
  have ⟨h0,h1,h2⟩:=SX h
  unfold ZW
  rw [decide_eq_true h0,cond_true,List.getElem?_set,if_pos rfl,if_pos (List.getElem?_eq_some_iff.1 h2).1]
theorem Zju {ds:List T0}:∀ (i:Nat) (x:T0) (y:GG),ds[i]? = some x->(ds.map QU)[i]? = some y->∀ F w vs,rn_api_Decl.rep F w x vs->rg_Decl.rep F w y vs:=fun i x y hx hy F w vs hr=>by
  rw [List.getElem?_map,hx] at hy
  cases hy
  exact Zo5 hr
theorem Zjx {gs:List GG} {i:Nat} {x:GG} (hx:gs[i]? = some x) (hn:x.2.2.2=((Wk,some []),(Wk,some []))):∀ (j:Nat) (a b:GG),gs[j]? = some a->(gs.set i (YM x Wk none Wk none))[j]? = some b->∀ F w vs,rg_Decl.rep F w a vs->rg_Decl.rep F w b vs:=fun j a b ha hb F w vs hr=>by
  rw [List.getElem?_set] at hb
  split at hb
  · rename_i e
    subst e
    rw [if_pos (List.getElem?_eq_some_iff.1 hx).1] at hb
    cases hb
    rw [hx] at ha
    cases ha
    have:=Zo6 hr
    rw [hn] at this
    exact this
  · rw [ha] at hb
    cases hb
    exact hr
theorem M5 {gs:List GG} {i:Nat} {x y:GG} (hx:gs[i]? = some x):(gs.set i y)[i]? = some y:=by
  rw [List.getElem?_set,if_pos rfl,if_pos (List.getElem?_eq_some_iff.1 hx).1]
theorem ZeK {gs:List GG} {i:Nat} {x y:GG} {ds:List T0} (h:gs.map VK=ds) (hx:gs[i]? = some x) (hy:VK y=VK x):(gs.set i y).map VK=ds:=by
  rw [Zlh VK gs i y x hx hy];exact h
end Gx
namespace Go.Kx
abbrev SV.I (n:Int):SV:=.c (.i .i64 n)
abbrev SC.I (n:Int):SC:=.i .i64 n
abbrev SV.O (b:Bool):SV:=.c (.b b)
abbrev SV.B (k o:Nat):SV:=.c (.bp k o)
abbrev SV.P (k o:Nat):SV:=.c (.px k o)
abbrev SV.S (k:Nat):SV:=.c (.sl k)
end Go.Kx
namespace Gx
def rg (a:Nat):Nat->List Nat
  | 0=>[]
  | n+1=>a::rg (a+1) n
abbrev cC4 (e:T4):List SC:=[.i .i64 e.Zq,.i .i64 e.Lo,.i .i64 e.Hi]
abbrev XZ (e:T2):List SC:=[.s e.Zt,.i .i64 e.Zu.Zq,.i .i64 e.Zu.Lo,.i .i64 e.Zu.Hi]
abbrev Xp (e:Yq):List SC:=[.i .i64 e.Zq,.s e.Zv,.s e.Field,.i .i64 e.N]
abbrev WA (k0 k1:Nat) (e:Yg) (l:List (Nat × VF)):List (Nat × VF):=(k0,.sl YU e.Zy)::(k1,.sl Q6 e.Zz)::l
abbrev Xa (k0 k1 k2:Nat) (e:Z3) (l:List (Nat × VF)):List (Nat × VF):=(k0,.sl rS e.ZD)::(k1,.sl Xm e.ZE)::(k2,.sl YA e.ZF)::l
abbrev XC (k0 k1:Nat) (e:Z2) (l:List (Nat × VF)):List (Nat × VF):=(k0,.sl YU e.Zy)::(k1,.sl Tu e.Zz)::l
abbrev YS (k0 k1 k2:Nat) (e:ZT) (l:List (Nat × VF)):List (Nat × VF):=(k0,.sl rS e.ZD)::(k1,.sl YX e.ZE)::(k2,.sl Yi e.ZF)::l
abbrev H8 (e:T7):List SC:=[.i .i64 e.Zq,.s e.ZG,.i .i64 e.Value,.i .i64 e.ZA]
abbrev Vk (e:T8):List SC:=[.s e.s',.i .i64 e.at']
abbrev Y4 (k0:Nat) (e:Z9):List SC:=[.sl k0,.i .i64 e.n',.i .i64 e.end',.i .i64 e.at',.i .i64 e.err']
abbrev cC1 (e:T1):List SC:=[.i .i64 e.X,.i .i64 e.Y,.i .i64 e.C]
abbrev X8 (k0 k1 k2:Nat) (e:T0):List SC:=[.s e.Zt,.sl k0,.i .i64 e.ZJ,.sl k1,.sl k2]
abbrev Wi (k0 k1 k2:Nat) (e:T0) (l:List (Nat × VF)):List (Nat × VF):=(k0,.sl YU e.Zy)::(k1,.sl YV e.ZK.ZH)::(k2,.sl (rP (rI .i64) (rI .i64)) e.ZK.ZI)::l
abbrev cC9 (e:T9):List SC:=[.s e.ZL,.s e.Zt,.i .i64 e.ZM]
abbrev Xw (k0 k1 k2 k3 k4:Nat) (e:ZX):List SC:=[.sl k0,.s e.p'.Zt,.sl k1,.sl k2,.sl k3,.sl k4,.s e.out'.ZL,.s e.out'.Zt,.i .i64 e.out'.ZM]
abbrev Pc (k0 k1 k2 k3 k4:Nat) (e:ZX) (l:List (Nat × VF)):List (Nat × VF):=(k0,.sl Ys e.all')::(k1,.sl rS e.p'.ZD)::(k2,.sl YX e.p'.ZE)::(k3,.sl Yi e.p'.ZF)::(k4,.sl rS e.calls')::l
abbrev Zh5 (e:Yv):List SC:=[.s e.name',.b e.tail',.b e.hidden']
abbrev H7 (e:T6):List SC:=[.i .i64 e.x',.i .i64 e.n']
abbrev cC5 (e:T5):List SC:=[.i .i64 e.Zq,.i .i64 e.N,.s e.S]
abbrev UH (k0:Nat) (e:YI):List SC:=[.i .i64 e.N,.sl k0]
abbrev WJ (k0 k1 k2 k3 k4:Nat) (e:Z7):List SC:=[.sl k0,.s e.p'.Zt,.sl k1,.sl k2,.sl k3,.sl k4,.s e.first'.ZL,.s e.first'.Zt,.i .i64 e.first'.ZM]
def tt:List (Nat × TD):=[
 (3,{ sz:=1,byt:=8,ag:=false,z:=[.i .i64 (0:Int)],kd:=3,ik:=some .i64 }),
 (4,{ sz:=1,byt:=1,ag:=false,z:=[.b false],kd:=1 }),
 (5,{ sz:=1,byt:=1,ag:=false,z:=[.i .u8 (0:Int)],kd:=3,ik:=some .u8 }),
 (9,{ sz:=1,byt:=16,ag:=false,z:=[.s (str [])],kd:=2 }),
 (21,{ sz:=1,byt:=4,ag:=false,z:=[.i .i32 (0:Int)],kd:=3,ik:=some .i32 }),
 (22,{ sz:=1,byt:=24,ag:=false,z:=[.nil],kd:=6,es:=3,eb:=64,el:=58 }),
 (23,{ sz:=1,byt:=24,ag:=false,z:=[.nil],kd:=6,es:=1,eb:=16,el:=9 }),
 (24,{ sz:=1,byt:=24,ag:=false,z:=[.nil],kd:=6,es:=7,eb:=112,el:=128 }),
 (26,{ sz:=4,byt:=88,ag:=true,z:=[.s (str []),.nil,.nil,.nil],kd:=4,fo:=[(0,1,false),(1,1,false),(2,1,false),(3,1,false)] }),
 (27,{ sz:=1,byt:=24,ag:=false,z:=[.nil],kd:=6,es:=4,eb:=88,el:=26 }),
 (30,{ sz:=1,byt:=24,ag:=false,z:=[.nil],kd:=6,es:=5,eb:=96,el:=74 }),
 (31,{ sz:=1,byt:=8,ag:=false,z:=[.i .i64 (0:Int)],kd:=3,ik:=some .i64 }),
 (34,{ sz:=1,byt:=24,ag:=false,z:=[.nil],kd:=6,es:=3,eb:=64,el:=64 }),
 (35,{ sz:=1,byt:=24,ag:=false,z:=[.nil],kd:=6,es:=7,eb:=112,el:=140 }),
 (37,{ sz:=4,byt:=88,ag:=true,z:=[.s (str []),.nil,.nil,.nil],kd:=4,fo:=[(0,1,false),(1,1,false),(2,1,false),(3,1,false)] }),
 (38,{ sz:=1,byt:=24,ag:=false,z:=[.nil],kd:=6,es:=4,eb:=88,el:=37 }),
 (42,{ sz:=1,byt:=24,ag:=false,z:=[.nil],kd:=6,es:=3,eb:=24,el:=91 }),
 (49,{ sz:=3,byt:=32,ag:=true,z:=[.i .i64 (0:Int),.i .i64 (0:Int),.s (str [])],kd:=4,fo:=[(0,1,false),(1,1,false),(2,1,false)] }),
 (50,{ sz:=1,byt:=24,ag:=false,z:=[.nil],kd:=6,es:=3,eb:=32,el:=49 }),
 (55,{ sz:=1,byt:=24,ag:=false,z:=[.nil],kd:=6,es:=4,eb:=40,el:=69 }),
 (56,{ sz:=1,byt:=24,ag:=false,z:=[.nil],kd:=6,es:=9,eb:=112,el:=95 }),
 (58,{ sz:=3,byt:=64,ag:=true,z:=[.s (str []),.nil,.nil],kd:=4,fo:=[(0,1,false),(1,1,false),(2,1,false)] }),
 (60,{ sz:=3,byt:=40,ag:=true,z:=[.s (str []),.s (str []),.i .i64 (0:Int)],kd:=4,fo:=[(0,1,false),(1,1,false),(2,1,false)] }),
 (62,{ sz:=1,byt:=24,ag:=false,z:=[.nil],kd:=6,es:=9,eb:=112,el:=86 }),
 (64,{ sz:=3,byt:=64,ag:=true,z:=[.s (str []),.nil,.nil],kd:=4,fo:=[(0,1,false),(1,1,false),(2,1,false)] }),
 (67,{ sz:=3,byt:=24,ag:=true,z:=[.i .i64 (0:Int),.i .i64 (0:Int),.i .i64 (0:Int)],kd:=4,fo:=[(0,1,false),(1,1,false),(2,1,false)] }),
 (69,{ sz:=4,byt:=40,ag:=true,z:=[.s (str []),.i .i64 (0:Int),.i .i64 (0:Int),.i .i64 (0:Int)],kd:=4,fo:=[(0,1,false),(1,3,true)] }),
 (70,{ sz:=1,byt:=24,ag:=false,z:=[.nil],kd:=6,es:=2,eb:=16,el:=88 }),
 (72,{ sz:=2,byt:=48,ag:=true,z:=[.nil,.nil],kd:=4,fo:=[(0,1,false),(1,1,false)] }),
 (74,{ sz:=5,byt:=96,ag:=true,z:=[.s (str []),.nil,.i .i64 (0:Int),.nil,.nil],kd:=4,fo:=[(0,1,false),(1,1,false),(2,1,false),(3,2,true)] }),
 (76,{ sz:=4,byt:=48,ag:=true,z:=[.i .i64 (0:Int),.s (str []),.s (str []),.i .i64 (0:Int)],kd:=4,fo:=[(0,1,false),(1,1,false),(2,1,false),(3,1,false)] }),
 (78,{ sz:=2,byt:=16,ag:=true,z:=[.i .i64 (0:Int),.i .i64 (0:Int)],kd:=4,fo:=[(0,1,false),(1,1,false)] }),
 (86,{ sz:=9,byt:=112,ag:=true,z:=[.i .i64 (0:Int),.s (str []),.s (str []),.i .i64 (0:Int),.s (str []),.i .i64 (0:Int),.s (str []),.s (str []),.i .i64 (0:Int)],kd:=4,fo:=[(0,4,true),(4,1,false),(5,4,true)] }),
 (88,{ sz:=2,byt:=16,ag:=true,z:=[.i .i64 (0:Int),.i .i64 (0:Int)],kd:=5,n:=2,es:=1,el:=3 }),
 (91,{ sz:=3,byt:=24,ag:=true,z:=[.i .i64 (0:Int),.i .i64 (0:Int),.i .i64 (0:Int)],kd:=4,fo:=[(0,1,false),(1,1,false),(2,1,false)] }),
 (93,{ sz:=4,byt:=48,ag:=true,z:=[.i .i64 (0:Int),.s (str []),.s (str []),.i .i64 (0:Int)],kd:=4,fo:=[(0,1,false),(1,1,false),(2,1,false),(3,1,false)] }),
 (95,{ sz:=9,byt:=112,ag:=true,z:=[.i .i64 (0:Int),.s (str []),.s (str []),.i .i64 (0:Int),.s (str []),.i .i64 (0:Int),.s (str []),.s (str []),.i .i64 (0:Int)],kd:=4,fo:=[(0,4,true),(4,1,false),(5,4,true)] }),
 (96,{ sz:=3,byt:=40,ag:=true,z:=[.s (str []),.s (str []),.i .i64 (0:Int)],kd:=4,fo:=[(0,1,false),(1,1,false),(2,1,false)] }),
 (103,{ sz:=1,byt:=24,ag:=false,z:=[.nil],kd:=6,es:=4,eb:=40,el:=162 }),
 (108,{ sz:=5,byt:=56,ag:=true,z:=[.nil,.i .i64 (0:Int),.i .i64 (0:Int),.i .i64 (0:Int),.i .i64 (0:Int)],kd:=4,fo:=[(0,1,false),(1,1,false),(2,1,false),(3,1,false),(4,1,false)] }),
 (112,{ sz:=1,byt:=24,ag:=false,z:=[.nil],kd:=6,es:=1,eb:=8,el:=3 }),
 (114,{ sz:=2,byt:=32,ag:=true,z:=[.i .i64 (0:Int),.nil],kd:=4,fo:=[(0,1,false),(1,1,false)] }),
 (126,{ sz:=1,byt:=24,ag:=false,z:=[.nil],kd:=6,es:=1,eb:=24,el:=24 }),
 (128,{ sz:=7,byt:=112,ag:=true,z:=[.i .i64 (0:Int),.s (str []),.nil,.s (str []),.s (str []),.i .i64 (0:Int),.nil],kd:=4,fo:=[(0,1,false),(1,1,false),(2,1,false),(3,1,false),(4,1,false),(5,1,false),(6,1,false)] }),
 (129,{ sz:=1,byt:=8,ag:=false,z:=[.v (.pointer none)],kd:=0 }),
 (131,{ sz:=9,byt:=176,ag:=true,z:=[.nil,.s (str []),.nil,.nil,.nil,.nil,.s (str []),.s (str []),.i .i64 (0:Int)],kd:=4,fo:=[(0,1,false),(1,4,true),(5,1,false),(6,3,true)] }),
 (138,{ sz:=1,byt:=24,ag:=false,z:=[.nil],kd:=6,es:=1,eb:=24,el:=35 }),
 (140,{ sz:=7,byt:=112,ag:=true,z:=[.i .i64 (0:Int),.s (str []),.nil,.s (str []),.s (str []),.i .i64 (0:Int),.nil],kd:=4,fo:=[(0,1,false),(1,1,false),(2,1,false),(3,1,false),(4,1,false),(5,1,false),(6,1,false)] }),
 (143,{ sz:=9,byt:=176,ag:=true,z:=[.nil,.s (str []),.nil,.nil,.nil,.nil,.s (str []),.s (str []),.i .i64 (0:Int)],kd:=4,fo:=[(0,1,false),(1,4,true),(5,1,false),(6,3,true)] }),
 (158,{ sz:=2,byt:=24,ag:=true,z:=[.s (str []),.i .i64 (0:Int)],kd:=4,fo:=[(0,1,false),(1,1,false)] }),
 (162,{ sz:=4,byt:=40,ag:=true,z:=[.i .i64 (0:Int),.s (str []),.i .i64 (0:Int),.i .i64 (0:Int)],kd:=4,fo:=[(0,1,false),(1,1,false),(2,1,false),(3,1,false)] }),
 (184,{ sz:=1,byt:=8,ag:=false,z:=[.v (.pointer none)],kd:=0 }),
 (185,{ sz:=1,byt:=24,ag:=false,z:=[.nil],kd:=6,es:=1,eb:=1,el:=5 }),
 (187,{ sz:=2,byt:=32,ag:=true,z:=[.v (.pointer none),.nil],kd:=4,fo:=[(0,1,false),(1,1,false)] }),
 (195,{ sz:=1,byt:=24,ag:=false,z:=[.nil],kd:=6,es:=1,eb:=1,el:=4 }),
 (200,{ sz:=8,byt:=96,ag:=true,z:=[.i .i64 (0:Int),.s (str []),.s (str []),.i .i64 (0:Int),.i .i64 (0:Int),.s (str []),.s (str []),.i .i64 (0:Int)],kd:=5,n:=2,es:=4,el:=76 }),
 (202,{ sz:=1,byt:=24,ag:=false,z:=[.nil],kd:=6,es:=3,eb:=24,el:=205 }),
 (205,{ sz:=3,byt:=24,ag:=true,z:=[.s (str []),.b false,.b false],kd:=4,fo:=[(0,1,false),(1,1,false),(2,1,false)] }),
 (229,{ sz:=28,byt:=448,ag:=true,z:=[.s (str []),.s (str []),.s (str []),.s (str []),.s (str []),.s (str []),.s (str []),.s (str []),.s (str []),.s (str []),.s (str []),.s (str []),.s (str []),.s (str []),.s (str []),.s (str []),.s (str []),.s (str []),.s (str []),.s (str []),.s (str []),.s (str []),.s (str []),.s (str []),.s (str []),.s (str []),.s (str []),.s (str [])],kd:=5,n:=28,es:=1,el:=9 }),
 (232,{ sz:=8,byt:=128,ag:=true,z:=[.s (str []),.s (str []),.s (str []),.s (str []),.s (str []),.s (str []),.s (str []),.s (str [])],kd:=5,n:=8,es:=1,el:=9 }),
 (241,{ sz:=3,byt:=40,ag:=true,z:=[.v (.pointer none),.nil,.i .i64 (0:Int)],kd:=4,fo:=[(0,2,true),(2,1,false)] }),
 (266,{ sz:=8,byt:=96,ag:=true,z:=[.i .i64 (0:Int),.s (str []),.s (str []),.i .i64 (0:Int),.i .i64 (0:Int),.s (str []),.s (str []),.i .i64 (0:Int)],kd:=5,n:=2,es:=4,el:=93 })]
theorem htt:TTOk Tryz.prog tt:=by
  unfold tt
  exact ⟨⟨by kernel_rfl,by kernel_rfl,by kernel_rfl,by kernel_rfl⟩,
    ⟨by kernel_rfl,by kernel_rfl,by kernel_rfl,by kernel_rfl⟩,
    ⟨by kernel_rfl,by kernel_rfl,by kernel_rfl,by kernel_rfl⟩,
    ⟨by kernel_rfl,by kernel_rfl,by kernel_rfl,by kernel_rfl⟩,
    ⟨by kernel_rfl,by kernel_rfl,by kernel_rfl,by kernel_rfl⟩,
    ⟨by kernel_rfl,by kernel_rfl,by kernel_rfl,by kernel_rfl⟩,
    ⟨by kernel_rfl,by kernel_rfl,by kernel_rfl,by kernel_rfl⟩,
    ⟨by kernel_rfl,by kernel_rfl,by kernel_rfl,by kernel_rfl⟩,
    ⟨by kernel_rfl,by kernel_rfl,by kernel_rfl,by kernel_rfl⟩,
    ⟨by kernel_rfl,by kernel_rfl,by kernel_rfl,by kernel_rfl⟩,
    ⟨by kernel_rfl,by kernel_rfl,by kernel_rfl,by kernel_rfl⟩,
    ⟨by kernel_rfl,by kernel_rfl,by kernel_rfl,by kernel_rfl⟩,
    ⟨by kernel_rfl,by kernel_rfl,by kernel_rfl,by kernel_rfl⟩,
    ⟨by kernel_rfl,by kernel_rfl,by kernel_rfl,by kernel_rfl⟩,
    ⟨by kernel_rfl,by kernel_rfl,by kernel_rfl,by kernel_rfl⟩,
    ⟨by kernel_rfl,by kernel_rfl,by kernel_rfl,by kernel_rfl⟩,
    ⟨by kernel_rfl,by kernel_rfl,by kernel_rfl,by kernel_rfl⟩,
    ⟨by kernel_rfl,by kernel_rfl,by kernel_rfl,by kernel_rfl⟩,
    ⟨by kernel_rfl,by kernel_rfl,by kernel_rfl,by kernel_rfl⟩,
    ⟨by kernel_rfl,by kernel_rfl,by kernel_rfl,by kernel_rfl⟩,
    ⟨by kernel_rfl,by kernel_rfl,by kernel_rfl,by kernel_rfl⟩,
    ⟨by kernel_rfl,by kernel_rfl,by kernel_rfl,by kernel_rfl⟩,
    ⟨by kernel_rfl,by kernel_rfl,by kernel_rfl,by kernel_rfl⟩,
    ⟨by kernel_rfl,by kernel_rfl,by kernel_rfl,by kernel_rfl⟩,
    ⟨by kernel_rfl,by kernel_rfl,by kernel_rfl,by kernel_rfl⟩,
    ⟨by kernel_rfl,by kernel_rfl,by kernel_rfl,by kernel_rfl⟩,
    ⟨by kernel_rfl,by kernel_rfl,by kernel_rfl,by kernel_rfl⟩,
    ⟨by kernel_rfl,by kernel_rfl,by kernel_rfl,by kernel_rfl⟩,
    ⟨by kernel_rfl,by kernel_rfl,by kernel_rfl,by kernel_rfl⟩,
    ⟨by kernel_rfl,by kernel_rfl,by kernel_rfl,by kernel_rfl⟩,
    ⟨by kernel_rfl,by kernel_rfl,by kernel_rfl,by kernel_rfl⟩,
    ⟨by kernel_rfl,by kernel_rfl,by kernel_rfl,by kernel_rfl⟩,
    ⟨by kernel_rfl,by kernel_rfl,by kernel_rfl,by kernel_rfl⟩,
    ⟨by kernel_rfl,by kernel_rfl,by kernel_rfl,by kernel_rfl⟩,
    ⟨by kernel_rfl,by kernel_rfl,by kernel_rfl,by kernel_rfl⟩,
    ⟨by kernel_rfl,by kernel_rfl,by kernel_rfl,by kernel_rfl⟩,
    ⟨by kernel_rfl,by kernel_rfl,by kernel_rfl,by kernel_rfl⟩,
    ⟨by kernel_rfl,by kernel_rfl,by kernel_rfl,by kernel_rfl⟩,
    ⟨by kernel_rfl,by kernel_rfl,by kernel_rfl,by kernel_rfl⟩,
    ⟨by kernel_rfl,by kernel_rfl,by kernel_rfl,by kernel_rfl⟩,
    ⟨by kernel_rfl,by kernel_rfl,by kernel_rfl,by kernel_rfl⟩,
    ⟨by kernel_rfl,by kernel_rfl,by kernel_rfl,by kernel_rfl⟩,
    ⟨by kernel_rfl,by kernel_rfl,by kernel_rfl,by kernel_rfl⟩,
    ⟨by kernel_rfl,by kernel_rfl,by kernel_rfl,by kernel_rfl⟩,
    ⟨by kernel_rfl,by kernel_rfl,by kernel_rfl,by kernel_rfl⟩,
    ⟨by kernel_rfl,by kernel_rfl,by kernel_rfl,by kernel_rfl⟩,
    ⟨by kernel_rfl,by kernel_rfl,by kernel_rfl,by kernel_rfl⟩,
    ⟨by kernel_rfl,by kernel_rfl,by kernel_rfl,by kernel_rfl⟩,
    ⟨by kernel_rfl,by kernel_rfl,by kernel_rfl,by kernel_rfl⟩,
    ⟨by kernel_rfl,by kernel_rfl,by kernel_rfl,by kernel_rfl⟩,
    ⟨by kernel_rfl,by kernel_rfl,by kernel_rfl,by kernel_rfl⟩,
    ⟨by kernel_rfl,by kernel_rfl,by kernel_rfl,by kernel_rfl⟩,
    ⟨by kernel_rfl,by kernel_rfl,by kernel_rfl,by kernel_rfl⟩,
    ⟨by kernel_rfl,by kernel_rfl,by kernel_rfl,by kernel_rfl⟩,
    ⟨by kernel_rfl,by kernel_rfl,by kernel_rfl,by kernel_rfl⟩,
    ⟨by kernel_rfl,by kernel_rfl,by kernel_rfl,by kernel_rfl⟩,
    ⟨by kernel_rfl,by kernel_rfl,by kernel_rfl,by kernel_rfl⟩,
    ⟨by kernel_rfl,by kernel_rfl,by kernel_rfl,by kernel_rfl⟩,
    ⟨by kernel_rfl,by kernel_rfl,by kernel_rfl,by kernel_rfl⟩,
    ⟨by kernel_rfl,by kernel_rfl,by kernel_rfl,by kernel_rfl⟩,
    ⟨by kernel_rfl,by kernel_rfl,by kernel_rfl,by kernel_rfl⟩,
    ⟨by kernel_rfl,by kernel_rfl,by kernel_rfl,by kernel_rfl⟩,trivial⟩
def J:=@htt
theorem Q {α:Sort _} {a:α}:a=a:=rfl
section
variable [LxP]
theorem wH {X:Ctx} {tt:List (Nat × TD)} (htt:TTOk X.P tt) (n:Nat) {b t:Bool} (K:b=t) {c:Cf} (k:Wc X (Si t (X6 tt X.fn.ntmps n c))) (hp:(ZQ (X6 tt X.fn.ntmps n c).st.L (Tw (X6 tt X.fn.ntmps n c)),Lr (X6 tt X.fn.ntmps n c))=(some (.c (.b b)),Ly b (X6 tt X.fn.ntmps n c)):=by kernel_rfl):Wc X c:=wa htt n (eK K k hp)
theorem wr {P:Program} {f:FuncId} {fn:Func} {ct:Ct} {E0:Env} {F0:YB} {w0:World} {tt:List (Nat × TD)} (htt:TTOk P tt) (n:Nat) (hf:P.funcs[f]? = some fn) (l:List (Nat × SC)) {c:Cf}
    (hp:(Zfu (X6 tt fn.ntmps n c),Lk tt (X6 tt fn.ntmps n c).st fn.results.toList,ct.V1.map (fun p=>TU (X6 tt fn.ntmps n c).st ⟨l,0,0⟩ p.1 p.2),ct.M1.map (fun p=>Va (X6 tt fn.ntmps n c).st ⟨l,0,0⟩ p.1 p.2),
        (Ts ⟨l,0,0⟩ ct.res && XT (ct.M1.filterMap fun p=>XG ⟨l,0,0⟩ p.1 p.2) && XT (ct.M1.map (·.1)) && l.all (fun p=>Nat.ble ct.nk p.1 && p.2.kbb (X6 tt fn.ntmps n c).st.nx))) =
      (true,some (Vd ⟨l,0,0⟩ ct.res),ct.V1.map (fun p=>some p.2),ct.M1.map (fun p=>some (VM ⟨l,0,0⟩ p.2)),true):=by kernel_rfl):Wc (ct.ctx P f fn E0 F0 w0) c:=wa (X:=ct.ctx P f fn E0 F0 w0) htt n (Y2 htt hf l hp)
theorem oi {α:Type} {a b:α} (h:some a=some b):a=b:=Zk h
theorem eB {X:Ctx} {b:Bool} {α:Type} {x y:Option α} {r:α} (h:(bif b then x else y)=some r) {c:Cf} (k1:x=some r->Wc X (Si true c)) (k2:y=some r->Wc X (Si false c)) (hp:(ZQ c.st.L (Tw c),Lr c)=(some (.c (.b b)),Ly b c):=by kernel_rfl):Wc X c:=by
  rcases oc h with ⟨K,h⟩ | ⟨K,h⟩
  · exact eK K (k1 h) hp
  · exact eK K (k2 h) hp
theorem Xf {X:Ctx} {b:Bool} {α:Type} {x y:Option α} {r:α} (h:(bif b then x else y)=some r) {c:Cf} (k1:y=some r->Wc X (Si false c)) (k2:x=some r->Wc X (Si true c)) (hp:(ZQ c.st.L (Tw c),Lr c)=(some (.c (.b b)),Ly b c):=by kernel_rfl):Wc X c:=eB h k2 k1 hp
theorem wB {X:Ctx} {tt:List (Nat × TD)} (htt:TTOk X.P tt) (n:Nat) {b:Bool} {α:Type} {x y:Option α} {r:α} (h:(bif b then x else y)=some r) {c:Cf} (k1:x=some r->Wc X (Si true (X6 tt X.fn.ntmps n c))) (k2:y=some r->Wc X (Si false (X6 tt X.fn.ntmps n c))) (hp:(ZQ (X6 tt X.fn.ntmps n c).st.L (Tw (X6 tt X.fn.ntmps n c)),Lr (X6 tt X.fn.ntmps n c))=(some (.c (.b b)),Ly b (X6 tt X.fn.ntmps n c)):=by kernel_rfl):Wc X c:=by
  rcases oc h with ⟨K,h⟩ | ⟨K,h⟩
  · exact wH htt n K (k1 h) hp
  · exact wH htt n K (k2 h) hp
theorem ZU {X:Ctx} {tt:List (Nat × TD)} (htt:TTOk X.P tt) (n:Nat) {b:Bool} {α:Type} {x y:Option α} {r:α} (h:(bif b then x else y)=some r) {c:Cf} (k1:y=some r->Wc X (Si false (X6 tt X.fn.ntmps n c))) (k2:x=some r->Wc X (Si true (X6 tt X.fn.ntmps n c))) (hp:(ZQ (X6 tt X.fn.ntmps n c).st.L (Tw (X6 tt X.fn.ntmps n c)),Lr (X6 tt X.fn.ntmps n c))=(some (.c (.b b)),Ly b (X6 tt X.fn.ntmps n c)):=by kernel_rfl):Wc X c:=wB htt n h k2 k1 hp
theorem wO {X:Ctx} {tt:List (Nat × TD)} (htt:TTOk X.P tt) (n:Nat) {α β:Type} {o:Option α} {f:α->Option β} {r:β} (h:o.bind f=some r) {c:Cf} (k:∀ x,o=some x->f x=some r->Wc X (X6 tt X.fn.ntmps n c)):Wc X c:=by
  have ⟨x,e,h⟩:=ob h
  exact wa htt n (k x e h)
end
abbrev WZ:=fun L=>(⟨L,[],[],0⟩:St)
abbrev Ug:=fun x0 L=>(⟨L,[],[(0,.sl rS x0)],1⟩:St)
abbrev Tb:=fun x0 x1 x2 L=>(⟨L,[(2,.box [.I 0,.nil] 114),(3,.own (rI .i64) x0 true),(4,.box (UH 3 x1) 114)],[(0,.sl (rI .i64) x2)],5⟩:St)
abbrev Tc:=fun x0 L=>(⟨L,[],[(0,.sl YA x0)],1⟩:St)
abbrev Qz:=fun x0 x1 L=>(⟨L,[(2,.box [.s x0,.sl 0,.sl 1] 58)],(WA 0 1 x1 []),3⟩:St)
abbrev HS:=fun x0 L=>(⟨L,[(0,.abs x0)],[],1⟩:St)
abbrev HT:=fun x0 x1 L=>(⟨L,[(0,.box [.s x0,.I x1] 158)],[],1⟩:St)
abbrev HU:=fun x0 L=>(⟨L,[],[(0,.sl Yw x0)],1⟩:St)
abbrev HV:=fun x0 L=>(⟨L,[],[(0,.sl Yw x0)],9⟩:St)
abbrev HW:=fun x0 x1 x2 x3 x4 x5 x6 L=>(⟨L,[(2,.box [.I x0,.s x1,.sl 0,.s x2,.s x3,.I x4,.sl 1] 128)],[(0,.sl rS x5),(1,.sl (Yx YA) x6)],3⟩:St)
abbrev BL:=fun x0 x1 x2 L=>(⟨L,[(3,.own Y9 x0 false),(4,.box (X8 0 1 2 x1) 74),(5,.own rB x2 true)],(Wi 0 1 2 x1 []),6⟩:St)
abbrev ZdT:=fun x0 L=>(⟨L,[(0,.box (Vk x0) 158),(1,.box [.I 0,.s (str []),.I 0,.I 0] 162)],[],2⟩:St)
abbrev ZdU:=fun x0 L=>(⟨L,[(0,.own rS x0 true)],[],1⟩:St)
abbrev ZdV:=fun x0 x1 x2 L=>(⟨L,[(1,.box [.s x0,.sl 2,.sl 3,.sl 4] 37)],((0,.sl Ys x1)::YS 2 3 4 x2 []),5⟩:St)
abbrev ZdW:=fun x0 x1 L=>(⟨L,[(1,.box (XZ x0) 69)],[(0,.sl YU x1)],2⟩:St)
abbrev ZdX:=fun x0 x1 L=>(⟨L,[(1,.box (Xp x0) 76)],[(0,.sl YU x1)],2⟩:St)
abbrev ZdY:=fun x0 x1 x2 x3 x4 x5 x6 x7 L=>(⟨L,[(1,.box [.I x0,.s x1,.sl 2,.s x2,.s x3,.I x4,.sl 3] 140)],[(0,.sl XL x5),(2,.sl rS x6),(3,.sl (Yx Yi) x7)],4⟩:St)
abbrev ZdZ:=fun x0 x1 x2 x3 x4 x5 x6 x7 x8 x9 x10 L=>(⟨L,[(0,.box [.sl 6,.s x0,.sl 7,.sl 8,.sl 9,.sl 10,.s x1,.s x2,.I x3] 131),(10,.own rS x4 false)],((1,.sl Ys x5)::YS 2 3 4 x6 [(6,.sl Ys x7),(7,.sl rS x8),(8,.sl YX x9),(9,.sl Yi x10)]),11⟩:St)
abbrev Zd0:=fun x0 x1 L=>(⟨L,[(0,.box [.I 0,.nil] 114),(1,.own (rI .i64) x0 true),(2,.box [.I x1,.sl 1] 114)],[],3⟩:St)
abbrev Zd1:=fun x0 L=>(⟨L,[],[(0,.sl (rI .i64) x0)],2⟩:St)
abbrev Zd2:=fun x0 x1 x2 L=>(⟨L,[(3,.box [.sl 1,.sl 2] 72)],[(0,.sl rq_api_Decl x0),(1,.sl YV x1),(2,.sl (rP (rI .i64) (rI .i64)) x2)],4⟩:St)
abbrev ZhD:=fun x0 x1 x2 x3 x4 x5 x6 x7 x8 x9 x10 x11 x12 x13 x14 x15 x16 x17 x18 x19 x20 L=>(⟨L,[(0,.box [.sl 18,.s x0,.sl 19,.sl 20,.sl 21,.sl 22,.s x1,.s x2,.I x3] 131),(16,.box [.I x4,.s x5,.sl 14,.s x6,.s x7,.I x8,.sl 15] 140),(22,.own rS x9 false),(23,.own XL x10 true)],((1,.sl Ys x11)::YS 2 3 4 x12 [(6,.sl Yi x13),(7,.sl XL x14),(14,.sl rS x15),(15,.sl (Yx Yi) x16),(18,.sl Ys x17),(19,.sl rS x18),(20,.sl YX x19),(21,.sl Yi x20)]),24⟩:St)
abbrev ZhE:=fun x0 x1 L=>(⟨L,[(1,.own YU x0 true)],[(0,.sl rR0 x1)],2⟩:St)
abbrev ZhF:=fun x0 x1 x2 x3 L=>(⟨L,[(3,.box (UH 2 x0) 114),(5,.own (rI .i64) x1 true)],[(0,.sl (rI .i64) x2),(2,.sl (rI .i64) x3)],6⟩:St)
abbrev ZhG:=fun x0 x1 x2 x3 x4 x5 x6 x7 L=>(⟨L,[(6,.box (X8 3 4 5 x0) 74),(8,.box [.I x1,.sl 10] 114),(9,.own YV x2 true),(13,.box [.I x3,.I x4] 88)],((0,.sl rR0 x5)::(1,.sl Y9 x6)::Wi 3 4 5 x0 [(10,.sl (rI .i64) x7)]),14⟩:St)
abbrev ZhH:=fun x0 x1 x2 x3 x4 x5 x6 x7 x8 x9 x10 x11 x12 x13 L=>(⟨L,[(0,.box [.sl 16,.s x0,.sl 17,.sl 18,.sl 19,.sl 20,.s x1,.s x2,.I x3] 143),(8,.box [.s x4,.sl 6,.sl 7] 58),(15,.box (XZ x5) 69),(20,.own rS x6 false)],((1,.sl Yw x7)::Xa 2 3 4 x8 (WA 6 7 x9 [(16,.sl Yw x10),(17,.sl rS x11),(18,.sl Xm x12),(19,.sl YA x13)])),21⟩:St)
abbrev ZhI:=fun x0 x1 L=>(⟨L,[(1,.box (Xp x0) 93)],[(0,.sl rq_api_Decl x1)],6⟩:St)
abbrev ZhJ:=fun x0 x1 x2 x3 L=>(⟨L,[(10,.box (X8 3 4 5 x0) 74),(11,.box (X8 7 8 9 x1) 74)],((0,.sl rR0 x2)::(1,.sl rR0 x3)::Wi 3 4 5 x0 (Wi 7 8 9 x1 [])),12⟩:St)
abbrev Zmz:=fun x0 x1 L=>(⟨L,[(0,.box (Vk x0) 158),(1,.box [.I 0,.s (str []),.I 0,.I 0] 162),(2,.box [.I 2,.s (str []),.I x1,.I 0] 162)],[],3⟩:St)
abbrev ZmA:=fun x0 x1 x2 L=>(⟨L,[(0,.box [.s x0,.I x1] 158),(1,.box [.I 0,.s (str []),.I 0,.I 0] 162),(2,.own (rI .u8) x2 true)],[],3⟩:St)
abbrev ZmB:=fun x0 x1 x2 x3 x4 x5 x6 x7 x8 L=>(⟨L,[(0,.box [.sl 13,.I x0,.I x1,.I x2,.I x3] 108),(2,.box [.s (str []),.nil,.nil] 64),(4,.box [.s x4,.sl 8,.sl 14] 64),(8,.own YU x5 true),(14,.own Tu x6 true)],[(1,.sl YD x7),(13,.sl YD x8)],15⟩:St)
abbrev ZmC:=fun x0 x1 x2 x3 x4 x5 x6 x7 L=>(⟨L,[(0,.box [.sl 10,.I x0,.I x1,.I x2,.I x3] 108),(2,.box [.s (str []),.nil,.nil] 64),(4,.box [.s x4,.sl 11,.nil] 64),(11,.own YU x5 true)],[(1,.sl YD x6),(10,.sl YD x7)],12⟩:St)
abbrev ZmD:=fun x0 x1 x2 x3 x4 x5 x6 x7 x8 L=>(⟨L,[(0,.box [.sl 11,.I x0,.I x1,.I x2,.I x3] 108),(2,.box [.I 0,.s (str []),.nil,.s (str []),.s (str []),.I 0,.nil] 140),(5,.box [.I 2,.s x4,.nil,.s (str []),.s (str []),.I x5,.sl 12] 140),(12,.own (Yx Yi) x6 true)],[(1,.sl YD x7),(11,.sl YD x8)],13⟩:St)
abbrev ZmE:=fun x0 x1 x2 x3 x4 x5 x6 L=>(⟨L,[(0,.box [.sl 16,.I x0,.I x1,.I x2,.I x3] 108),(2,.box [.I 0,.s (str []),.nil,.s (str []),.s (str []),.I 0,.nil] 140),(10,.box [.I 5,.s (str []),.nil,.s (str []),.s (str []),.I 0,.sl 17] 140),(17,.own (Yx Yi) x4 true)],[(1,.sl YD x5),(16,.sl YD x6)],18⟩:St)
abbrev ZmF:=fun x0 x1 x2 x3 x4 x5 x6 x7 x8 L=>(⟨L,[(0,.box [.sl 11,.I x0,.I x1,.I x2,.I x3] 108),(2,.box [.s (str []),.nil,.nil,.nil] 37),(5,.box [.s x4,.sl 7,.sl 12,.nil] 37),(7,.own rS x5 true),(12,.own YX x6 true)],[(1,.sl YD x7),(11,.sl YD x8)],13⟩:St)
abbrev ZmG:=fun x0 x1 x2 x3 x4 x5 L=>(⟨L,[(2,.box [.bp 2 0,.sl 3,.I x0] 241),(3,.buf x1 5),(4,.abs x2),(5,.box [.s x3,.sl 0,.sl 1] 64),(6,.own rS x4 true)],(XC 0 1 x5 []),7⟩:St)
abbrev ZmH:=fun x0 x1 x2 x3 x4 x5 x6 L=>(⟨L,[(2,.box [.bp 2 0,.sl 3,.I x0] 241),(3,.buf x1 5),(4,.abs x2),(5,.box [.s x3,.sl 0,.sl 1] 64),(6,.own rS x4 true),(7,.own rS x5 true)],(XC 0 1 x6 []),8⟩:St)
abbrev ZmI:=fun x0 x1 x2 x3 x4 x5 L=>(⟨L,[(1,.abs x0),(2,.box [.bp 2 0,.sl 10,.I x1] 241),(7,.box [.s x2,.sl 4,.sl 5,.sl 6] 37),(10,.buf x3 5)],((0,.sl Ys x4)::YS 4 5 6 x5 []),11⟩:St)
abbrev ZmJ:=fun x0 x1 x2 x3 x4 x5 L=>(⟨L,[(1,.abs x0),(2,.box [.bp 2 0,.sl 22,.I x1] 241),(19,.box [.s x2,.sl 16,.sl 17,.sl 18] 37),(22,.buf x3 5)],((0,.sl Ys x4)::YS 16 17 18 x5 []),23⟩:St)
abbrev ZmK:=fun x0 x1 x2 x3 x4 x5 x6 x7 x8 x9 x10 x11 x12 x13 x14 x15 x16 x17 L=>(⟨L,[(0,.box [.sl 18,.s x0,.sl 19,.sl 20,.sl 21,.sl 22,.s x1,.s x2,.I x3] 131),(8,.box [.I x4,.s x5,.sl 6,.s x6,.s x7,.I x8,.sl 7] 140),(22,.own rS x9 false)],((1,.sl Ys x10)::YS 2 3 4 x11 [(6,.sl rS x12),(7,.sl (Yx Yi) x13),(18,.sl Ys x14),(19,.sl rS x15),(20,.sl YX x16),(21,.sl Yi x17)]),23⟩:St)
abbrev ZmL:=fun x0 x1 x2 x3 x4 x5 x6 x7 x8 x9 x10 x11 x12 L=>(⟨L,[(0,.box [.sl 8,.s x0,.sl 9,.sl 10,.sl 11,.sl 12,.s x1,.s x2,.I x3] 131),(12,.own rS x4 false)],((1,.sl Ys x5)::YS 2 3 4 x6 [(6,.sl Yi x7),(7,.sl XL x8),(8,.sl Ys x9),(9,.sl rS x10),(10,.sl YX x11),(11,.sl Yi x12)]),13⟩:St)
abbrev ZmM:=fun x0 x1 x2 x3 x4 x5 x6 x7 x8 x9 x10 x11 x12 x13 x14 x15 x16 x17 x18 x19 x20 L=>(⟨L,[(0,.box [.sl 8,.s x0,.sl 9,.sl 10,.sl 11,.sl 12,.s x1,.s x2,.I x3] 131),(12,.own rS x4 false),(16,.box [.I x5,.s x6,.sl 14,.s x7,.s x8,.I x9,.sl 15] 140),(17,.own XL x10 true)],((1,.sl Ys x11)::YS 2 3 4 x12 [(6,.sl Yi x13),(7,.sl XL x14),(8,.sl Ys x15),(9,.sl rS x16),(10,.sl YX x17),(11,.sl Yi x18),(14,.sl rS x19),(15,.sl (Yx Yi) x20)]),18⟩:St)
abbrev ZmN:=fun x0 x1 x2 x3 x4 x5 x6 x7 x8 x9 x10 x11 x12 x13 L=>(⟨L,[(0,.box [.sl 29,.s x0,.sl 30,.sl 31,.sl 32,.sl 33,.s x1,.s x2,.I x3] 131),(14,.box [.s x4,.sl 12,.sl 13] 64),(27,.box (XZ x5) 69),(33,.own rS x6 false)],((1,.sl Ys x7)::YS 2 3 4 x8 (XC 12 13 x9 [(29,.sl Ys x10),(30,.sl rS x11),(31,.sl YX x12),(32,.sl Yi x13)])),34⟩:St)
abbrev ZmO:=fun x0 x1 x2 x3 x4 x5 x6 x7 x8 x9 x10 x11 x12 x13 x14 x15 x16 x17 x18 x19 x20 x21 x22 x23 L=>(⟨L,[(0,.box [.sl 24,.s x0,.sl 25,.sl 26,.sl 27,.sl 28,.s x1,.s x2,.I x3] 131),(14,.box [.s x4,.sl 12,.sl 13] 64),(21,.box [.I x5,.s x6,.s x7,.I x8,.s x9,.I x10,.s x11,.s x12,.I x13] 86),(22,.box [.I x5,.s x6,.s x7,.I x8,.I x10,.s x11,.s x12,.I x13] 200),(23,.box [.I x14,.I x15] 88),(28,.own rS x16 false)],((1,.sl Ys x17)::YS 2 3 4 x18 (XC 12 13 x19 [(24,.sl Ys x20),(25,.sl rS x21),(26,.sl YX x22),(27,.sl Yi x23)])),29⟩:St)
abbrev ZmP:=fun x0 x1 x2 x3 x4 x5 x6 x7 x8 x9 x10 x11 x12 x13 x14 x15 x16 x17 x18 x19 x20 x21 x22 x23 x24 x25 x26 x27 L=>(⟨L,[(0,.box [.sl 29,.s x0,.sl 30,.sl 31,.sl 32,.sl 33,.s x1,.s x2,.I x3] 131),(14,.box [.s x4,.sl 12,.sl 13] 64),(21,.box [.I x5,.s x6,.s x7,.I x8,.s x9,.I x10,.s x11,.s x12,.I x13] 86),(23,.box [.I x14,.I x15] 88),(33,.own rS x16 false),(34,.box [.I x17,.s x18,.s x19,.I x20] 76)],((1,.sl Ys x21)::YS 2 3 4 x22 (XC 12 13 x23 [(29,.sl Ys x24),(30,.sl rS x25),(31,.sl YX x26),(32,.sl Yi x27)])),35⟩:St)
abbrev ZmQ:=fun x0 x1 L=>(⟨L,[(1,.box (Xw 2 3 4 5 6 x0) 131),(7,.box [.bp 1 0] 129)],((0,.sl rS x1)::Pc 2 3 4 5 6 x0 []),8⟩:St)
abbrev ZmR:=fun x0 x1 L=>(⟨L,[(0,.own rS x0 false),(1,.box (Xw 2 3 4 5 6 x1) 131),(7,.box [.bp 1 0] 129)],(Pc 2 3 4 5 6 x1 []),8⟩:St)
abbrev ZmS:=fun x0 x1 x2 x3 x4 L=>(⟨L,[(0,.box (Xw 1 2 3 4 5 x0) 131),(5,.own rS x1 false),(6,.box [.bp 0 0] 129),(8,.own rS x2 true)],((1,.sl Ys x3)::YS 2 3 4 x4 []),9⟩:St)
abbrev ZmT:=fun x0 x1 L=>(⟨L,[(1,.abs x0),(2,.box [.s (str []),.s (str []),.I 0] 60)],[(0,.sl Ys x1)],3⟩:St)
abbrev ZmU:=fun x0 x1 x2 x3 x4 x5 x6 x7 x8 x9 x10 x11 x12 L=>(⟨L,[(1,.abs x0),(2,.box [.s (str []),.s (str []),.I 0] 60),(7,.box [.s x1,.sl 4,.sl 5,.sl 6] 37),(8,.box [.sl 15,.s x2,.sl 16,.sl 17,.sl 18,.sl 19,.s x3,.s x4,.I x5] 131),(19,.own rS x6 true)],((0,.sl Ys x7)::YS 4 5 6 x8 [(15,.sl Ys x9),(16,.sl rS x10),(17,.sl YX x11),(18,.sl Yi x12)]),20⟩:St)
abbrev ZmV:=fun x0 x1 x2 L=>(⟨L,[(1,.abs x0),(2,.box [.sl 5] 30),(5,.own rn_api_Decl x1 true)],[(0,.sl YX x2)],6⟩:St)
abbrev ZmW:=fun x0 x1 x2 L=>(⟨L,[(3,.box [.sl 0,.sl 1] 72)],[(0,.sl YV x0),(1,.sl (rP (rI .i64) (rI .i64)) x1),(2,.sl YU x2)],4⟩:St)
abbrev ZmX:=fun x0 x1 x2 L=>(⟨L,[(1,.own YU x0 true),(6,.box (X8 3 4 5 x1) 74)],((0,.sl rR0 x2)::Wi 3 4 5 x1 []),8⟩:St)
abbrev ZmY:=fun x0 x1 x2 x3 x4 L=>(⟨L,[(3,.own Y9 x0 false),(4,.box (X8 0 1 2 x1) 74),(5,.own rB x2 true),(7,.box [.I x3,.I x4] 88)],(Wi 0 1 2 x1 []),8⟩:St)
abbrev ZmZ:=fun x0 x1 x2 L=>(⟨L,[(3,.box [.sl 0,.sl 1] 72)],[(0,.sl YV x0),(1,.sl (rP (rI .i64) (rI .i64)) x1),(2,.sl Y9 x2)],4⟩:St)
abbrev Zm0:=fun x0 x1 x2 x3 x4 x5 L=>(⟨L,[(3,.box [.sl 0,.sl 1] 72),(5,.box (cC1 x0) 91),(6,.box [.I x1,.I x2] 88)],[(0,.sl YV x3),(1,.sl (rP (rI .i64) (rI .i64)) x4),(2,.sl Y9 x5)],7⟩:St)
abbrev Zm1:=fun x0 x1 x2 x3 x4 x5 L=>(⟨L,[(6,.box [.s x0,.sl 9,.sl 10] 58),(7,.box (Xp x1) 93),(8,.box [.s (str []),.I 0,.I 0,.I 0] 69)],(Xa 0 1 2 x2 (WA 3 4 x3 [(9,.sl YU x4),(10,.sl Q6 x5)])),11⟩:St)
abbrev Zm2:=fun x0 x1 x2 x3 x4 x5 x6 x7 x8 x9 x10 x11 L=>(⟨L,[(0,.box [.sl 7,.s x0,.sl 8,.sl 9,.sl 10,.sl 11,.s x1,.s x2,.I x3] 143),(11,.own rS x4 false)],((1,.sl Yw x5)::Xa 2 3 4 x6 [(6,.sl rS x7),(7,.sl Yw x8),(8,.sl rS x9),(9,.sl Xm x10),(10,.sl YA x11)]),12⟩:St)
abbrev Zm3:=fun x0 x1 x2 x3 x4 x5 x6 x7 x8 x9 x10 x11 x12 L=>(⟨L,[(0,.box [.sl 8,.s x0,.sl 9,.sl 10,.sl 11,.sl 12,.s x1,.s x2,.I x3] 143),(12,.own rS x4 false)],((1,.sl Yw x5)::Xa 2 3 4 x6 [(6,.sl YA x7),(7,.sl rS x8),(8,.sl Yw x9),(9,.sl rS x10),(10,.sl Xm x11),(11,.sl YA x12)]),13⟩:St)
abbrev Zm4:=fun x0 x1 x2 x3 x4 x5 x6 x7 x8 x9 x10 L=>(⟨L,[(0,.box [.sl 11,.s x0,.sl 12,.sl 13,.sl 14,.sl 15,.s x1,.s x2,.I x3] 143),(15,.own rS x4 false)],((1,.sl Yw x5)::Xa 2 3 4 x6 [(11,.sl Yw x7),(12,.sl rS x8),(13,.sl Xm x9),(14,.sl YA x10)]),16⟩:St)
abbrev Zm5:=fun x0 x1 x2 x3 x4 x5 x6 x7 x8 x9 L=>(⟨L,[(1,.box [.s (str []),.s (str []),.I 0] 96),(6,.box [.sl 7,.s x0,.sl 8,.sl 9,.sl 10,.sl 11,.s x1,.s x2,.I x3] 143),(11,.own rS x4 true)],[(0,.sl Yw x5),(7,.sl Yw x6),(8,.sl rS x7),(9,.sl Xm x8),(10,.sl YA x9)],12⟩:St)
abbrev Zm6:=fun x0 x1 x2 x3 x4 x5 x6 x7 x8 x9 L=>(⟨L,[(1,.box [.s (str []),.s (str []),.I 0] 96),(6,.box [.sl 12,.s x0,.sl 13,.sl 14,.sl 15,.sl 16,.s x1,.s x2,.I x3] 143),(16,.own rS x4 true)],[(0,.sl Yw x5),(12,.sl Yw x6),(13,.sl rS x7),(14,.sl Xm x8),(15,.sl YA x9)],17⟩:St)
abbrev Zm7:=fun x0 L=>(⟨L,[(1,.box [.s (str []),.I 0,.I 0,.I 0] 69)],[(0,.sl rq_api_Decl x0)],2⟩:St)
abbrev Zm8:=fun x0 x1 x2 x3 x4 x5 L=>(⟨L,[(3,.own rg_Decl x0 true),(4,.own YV x1 true),(5,.own UV x2 true)],[(0,.sl Xm x3),(4,.fn x4),(5,.fn x5)],6⟩:St)
end Gx
end
