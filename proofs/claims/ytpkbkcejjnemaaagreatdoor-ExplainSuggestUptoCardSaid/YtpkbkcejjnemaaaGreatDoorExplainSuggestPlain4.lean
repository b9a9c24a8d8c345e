/- The plain law, part 4: what the functions compute answers as the statement says. -/
import Derived.Test.YtpkbkcejjnemaaaGreatDoorExplainSuggestPlain3
set_option linter.all false
namespace Gp
open Go Go.Kx Gx
section
variable {N:Nat}
structure TI (ok:Prop) (s0:List Bool) (l0 W:List T12) (nb:Nat->Int) (tx:Nat->Prop) (l:List T12) (s:List Bool):Prop where
 ll:l.length=l0.length
 ls:s.length=l0.length
 kn:∀ (y:Nat) (v0 v:T12),l0[y]? = some v0->l[y]? = some v->v.Zt=v0.Zt/\v.N=v0.N
 un:∀ y:Nat,s[y]? = some false->l[y]? = l0[y]?
 fx:∀ y:Nat,s0[y]? = some true->s[y]? = some true/\l[y]? = l0[y]?
 st:ok->∀ (y:Nat) (v w:T12),s[y]? = some true->l[y]? = some v->W[y]? = some w->v.S=w.S/\(tx y->(v.S.size:Int)=nb y)
 sz:∀ B:Nat,(∀ v∈l0,v.S.size<=B)->∀ v∈l,v.S.size<=B
structure EqOk (W:List T12) (nb:Nat->Int) (tx:Nat->Prop) (a b:Nat):Prop where
 s:∀ v w:T12,W[a]? = some v->W[b]? = some w->v.S=w.S
 n:nb a=nb b
 ta:tx a
 tb:tx b
theorem EqOk.symm {W nb tx a b} (h:EqOk W nb tx a b):EqOk W nb tx b a:=⟨fun v w c d=>(h.s w v d c).symm,h.n.symm,h.tb,h.ta⟩
theorem Zin {ok:Prop} {H:List Bool} {l0 W:List T12} {nb:Nat->Int} {tx:Nat->Prop} {l:List T12} {s:List Bool} (I:W.length=l0.length) (h:TI ok H l0 W nb tx l s) (c:Bool) (i:Int) (ag:List T12->List Bool->Bool->Int->Option (List T12)) (a b:Nat) (f:a < l0.length) (t:b < l0.length) (x:ok->EqOk W nb tx a b) :
  ∃ F r G,QE l s c i ag (a:Int) (b:Int)=ag F r G (Z1 (i+1))/\TI ok H l0 W nb tx F r/\((F=l/\r=s/\G=c/\(s[b]? = some true->s[a]? = some true))\/(G=true/\fc r < fc s)):=by
 obtain ⟨sb,L⟩:∃ q,s[b]? = some q:=⟨s[b]'(by rw [h.ls];exact t),by simp⟩
 obtain ⟨U,C⟩:∃ q,s[a]? = some q:=⟨s[a]'(by rw [h.ls];exact f),by simp⟩
 obtain ⟨p,D⟩:∃ q,l[b]? = some q:=⟨l[b]'(by rw [h.ll];exact t),by simp⟩
 obtain ⟨V,M⟩:∃ q,l[a]? = some q:=⟨l[a]'(by rw [h.ll];exact f),by simp⟩
 obtain ⟨O,P⟩:∃ q,W[b]? = some q:=⟨W[b]'(by rw [I];exact t),by simp⟩
 obtain ⟨wa,R⟩:∃ q,W[a]? = some q:=⟨W[a]'(by rw [I];exact f),by simp⟩
 unfold QE
 rw [Yb,Yb,Yb,Yb,L,C,D,M]
 simp only [bS]
 cases sb with
 | false=>exact ⟨l,s,c,rfl,h,.inl ⟨rfl,rfl,rfl,fun q=>by cases q⟩⟩
 | true =>
  cases U with
  | true=>exact ⟨l,s,c,rfl,h,.inl ⟨rfl,rfl,rfl,fun _=>rfl⟩⟩
  | false =>
   have Z:=Zdi C
   refine ⟨_,_,true,rfl,?_,.inr ⟨rfl,by rw [XE];omega⟩⟩
   rw [XE,XE]
   have X:a < l.length:=by rw [h.ll];exact f
   have Y:a < s.length:=by rw [h.ls];exact f
   refine ⟨by rw [List.length_set];exact h.ll,by rw [List.length_set];exact h.ls,fun y v0 v K q=>?_,fun y q=>?_,fun y q=>?_,fun d y v w z o A=>?_,fun B hB u T=>?_⟩
   ·rw [List.getElem?_set] at q
    split at q
    ·rename_i e
     subst e
     cases q
     exact h.kn a v0 V K M
    ·exact h.kn y v0 v K q
   ·rw [List.getElem?_set] at q
    split at q
    ·cases q
    ·rename_i e
     rw [List.getElem?_set,if_neg e]
     exact h.un y q
   ·have ⟨j,E⟩:=h.fx y q
    have k:a≠y:=fun e=>by subst e;rw [C] at j;cases j
    rw [List.getElem?_set,List.getElem?_set,if_neg k,if_neg k]
    exact ⟨j,E⟩
   ·rw [List.getElem?_set] at z o
    split at o
    ·rename_i e
     subst e
     cases o
     rw [R] at A
     cases A
     have ⟨j,E⟩:=h.st d b p O L D P
     refine ⟨?_,fun _=>?_⟩
     ·show p.S=wa.S
      rw [j];exact ((x d).s wa O R P).symm
     ·show (p.S.size:Int)=nb a
      rw [E (x d).tb,(x d).n]
    ·rename_i e
     rw [if_neg e] at z
     exact h.st d y v w z o A
   ·rcases List.mem_or_eq_of_mem_set T with q | q
    ·exact h.sz B hB u q
    ·rw [q];exact h.sz B hB p (Zb D)
theorem ZoP {ok:Prop} {v:List Bool} {l0 W:List T12} {nb:Nat->Int} {tx:Nat->Prop} {l:List T12} {s:List Bool} (w:W.length=l0.length) (h:TI ok v l0 W nb tx l s) (c:Bool) (k:Int) (ag:List T12->List Bool->Bool->Int->Option (List T12)) (e:Int × Int) (a b:Nat) (x:e.1=(a:Int)) (eb:e.2=(b:Int)) (o:a < l0.length) (p:b < l0.length) (y:ok->EqOk W nb tx a b) (n:Nat) :
  ∃ t j u,Vz k ag e (n+3) l s c 0=ag t j u (Z1 (k+1))/\TI ok v l0 W nb tx t j/\((t=l/\j=s/\u=c/\s[a]? = s[b]?)\/(u=true/\fc j < fc s)):=by
 have L:Z1 ((0:Int)+1)=1:=rfl
 have w2:Z1 ((1:Int)+1)=2:=rfl
 have M:decide ((0:Int) < 2)=true:=rfl
 have d1:decide ((1:Int) < 2)=true:=rfl
 have O:decide ((2:Int) < 2)=false:=rfl
 have i0:Z5 ([e.1,e.2]:List Int) 0=some e.1:=rfl
 have P:Z5 ([e.1,e.2]:List Int) 1=some e.2:=rfl
 have a0:(Z1 ((1:Int)-0)==0)=false:=rfl
 have a1:(Z1 ((1:Int)-0)==1)=true:=rfl
 have a2:(Z1 ((1:Int)-1)==0)=true:=rfl
 rw [Vz,M]
 simp only [cT,i0,bS,a0,cond_false,a1]
 rw [x,eb]
 have ⟨R,S,C,D,E,F⟩:=Zin w h c 0 (Vz k ag e (n+2)) a b o p y
 rw [D,L,Vz,d1]
 simp only [cT,P,bS,a2]
 rw [x,eb]
 have ⟨G,f,H,I,t2,z⟩:=Zin w E C 1 (Vz k ag e (n+1)) b a p o (fun r=>(y r).symm)
 rw [I,w2,Vz,O]
 simp only [cond_false,DT]
 refine ⟨G,f,H,rfl,t2,?_⟩
 rcases F with ⟨rfl,rfl,rfl,i⟩ | ⟨rfl,i⟩
 ·rcases z with ⟨rfl,rfl,rfl,d⟩ | ⟨rfl,d⟩
  ·left
   refine ⟨rfl,rfl,rfl,?_⟩
   obtain ⟨sb,A⟩:∃ q,f[b]? = some q:=⟨f[b]'(by rw [t2.ls];exact p),by simp⟩
   obtain ⟨K,B⟩:∃ q,f[a]? = some q:=⟨f[a]'(by rw [t2.ls];exact o),by simp⟩
   rw [A,B] at i d
   rw [A,B]
   cases K with
   | true=>rw [d rfl]
   | false =>
    cases sb with
    | true=>exact i rfl
    | false=>rfl
  ·right;exact ⟨rfl,d⟩
 ·rcases z with ⟨rfl,rfl,rfl,d⟩ | ⟨rfl,d⟩
  ·right;exact ⟨rfl,i⟩
  ·right;exact ⟨rfl,by omega⟩
theorem ZiA (hN:4194304 < N) {ok:Prop} {A:List Bool} {l0 W:List T12} {nb:Nat->Int} {tx:Nat->Prop} (H:W.length=l0.length) (x:T0) (f:WO l0.length x.ZB) (I:∀ e∈x.ZB.Zy,∀ a b:Nat,e.1=(a:Int)->e.2=(b:Int)->ok->EqOk W nb tx a b) (ag:List T12->List Bool->Bool->Option (List T12)) :
  ∀ (r:List (Int × Int)) (n k:Nat) (l:List T12) (s:List Bool) (c:Bool),x.ZB.Zy.drop k=r->r.length < n->TI ok A l0 W nb tx l s ->
  ∃ y q z,Vn N x ag n l s c (k:Int)=ag y q z/\TI ok A l0 W nb tx y q/\((y=l/\q=s/\z=c/\∀ e∈r,∀ a b:Nat,e.1=(a:Int)->e.2=(b:Int)->s[a]? = s[b]?)\/(z=true/\fc q < fc s)):=by
 intro r
 induction r with
 | nil =>
  intro n k l s c h p w
  obtain ⟨n,rfl⟩:=pS n (by simp at p;omega)
  rw [Vn,Yp (Xr h)]
  exact ⟨l,s,c,rfl,w,.inl ⟨rfl,rfl,rfl,fun e K=>by simp at K⟩⟩
 | cons e r ih =>
  intro n k l s c h p w
  obtain ⟨n,rfl⟩:=pS n (by simp at p;omega)
  have ⟨M,D,O⟩:=Xp h
  simp only [Zg] at p
  have j:=Zb D
  have o:=f.e e j
  have hel:=f.el
  have ⟨a,E⟩:=Ze o.1.1
  have ⟨b,eb⟩:=Ze o.2.1
  rw [Vn,Yo M]
  simp only [cT,Yb,D,bS]
  have ⟨P,R,S,F,T,U⟩:=ZoP H w c (k:Int) (Vn N x ag n) e a b E eb (by omega) (by omega) (I e j a b E eb) (N-3)
  rw [show N-3+3=N by omega] at F
  rw [F,Ye (by omega)]
  have ⟨V,X,Y,Z,t2,G⟩:=ih n (k+1) P R S O (by omega) T
  refine ⟨V,X,Y,Z,t2,?_⟩
  rcases U with ⟨rfl,rfl,rfl,v⟩ | ⟨rfl,v⟩
  ·rcases G with ⟨rfl,rfl,rfl,i⟩ | ⟨rfl,i⟩
   ·left
    refine ⟨rfl,rfl,rfl,fun L d B C t u=>?_⟩
    rcases List.mem_cons.1 d with rfl | d
    ·have x1:B=a:=by omega
     have x2:C=b:=by omega
     rw [x1,x2];exact v
    ·exact i L d B C t u
   ·right;exact ⟨rfl,i⟩
  ·rcases G with ⟨rfl,rfl,rfl,i⟩ | ⟨rfl,i⟩
   ·right;exact ⟨rfl,v⟩
   ·right;exact ⟨rfl,by omega⟩
theorem ZoM (p:4194304 < N) {ok:Prop} {r:List Bool} {l0 W:List T12} {nb:Nat->Int} {tx:Nat->Prop} (t:W.length=l0.length) (x:T0) (c:WO l0.length x.ZB) (u:∀ e∈x.ZB.Zy,∀ a b:Nat,e.1=(a:Int)->e.2=(b:Int)->ok->EqOk W nb tx a b) :
  ∀ (m f:Nat) (l:List T12) (s:List Bool),fc s<=m->m+2<=f->TI ok r l0 W nb tx l s->∃ v o,WN N x f l s true=some v/\TI ok r l0 W nb tx v o/\∀ e∈x.ZB.Zy,∀ a b:Nat,e.1=(a:Int)->e.2=(b:Int)->o[a]? = o[b]? := by
 intro m
 induction m with
 | zero =>
  intro f l s y z n
  obtain ⟨f,rfl⟩:∃ q,f=q+2:=⟨f-2,by omega⟩
  rw [WN]
  simp only [cT]
  have ⟨h,i,w,d,j,k⟩:=ZiA p t x c u (WN N x (f+1)) x.ZB.Zy N 0 l s false rfl (by have:=c.el;omega) n
  have d:Vn N x (WN N x (f+1)) N l s false (0:Int)=_:=d
  rw [d]
  rcases k with ⟨rfl,rfl,rfl,g⟩ | ⟨rfl,g⟩
  ·exact ⟨h,i,rfl,j,g⟩
  ·omega
 | succ m A =>
  intro f l s y z n
  obtain ⟨f,rfl⟩:∃ q,f=q+2:=⟨f-2,by omega⟩
  rw [WN]
  simp only [cT]
  have ⟨h,i,w,d,j,k⟩:=ZiA p t x c u (WN N x (f+1)) x.ZB.Zy N 0 l s false rfl (by have:=c.el;omega) n
  have d:Vn N x (WN N x (f+1)) N l s false (0:Int)=_:=d
  rw [d]
  rcases k with ⟨rfl,rfl,rfl,g⟩ | ⟨rfl,g⟩
  ·exact ⟨h,i,rfl,j,g⟩
  ·exact A (f+1) h i (by omega) (by omega) j
end
section
variable {N:Nat}
theorem ZeB (L:4194304 < N) {ok:Prop} {l0 W:List T12} {nb:Nat->Int} {tx:Nat->Prop} (M:W.length=l0.length) (x:T0) (first:Nat) (H:x.ZA=(first:Int)) (p:first<=1000) (r:x.Zz.length<=4) (Z:l0.length<=1000) (t:WO l0.length x.ZB)
  (O:∀ e∈x.ZB.Zy,∀ a b:Nat,e.1=(a:Int)->e.2=(b:Int)->ok->EqOk W nb tx a b)
  (z:ok->∀ (y:Nat) (v w:T12),Xa x (y:Int)=false->(v.Zt != 0)=true->l0[y]? = some v->W[y]? = some w->v.S=w.S/\(tx y->(v.S.size:Int)=nb y)) :
  ∃ T s c,QD N x l0=some T/\TI ok c l0 W nb tx T s/\(∀ e∈x.ZB.Zy,∀ a b:Nat,e.1=(a:Int)->e.2=(b:Int)->s[a]? = s[b]?) /\
   ∀ (y:Nat) (v:T12),l0[y]? = some v->c[y]? = some (!(Xa x (y:Int)) && (v.Zt != 0)):=by
 have d:=fun y:Int=>UL H p r y
 have X:Z1 ((first:Int)+(x.Zz.length:Int))=(first:Int)+(x.Zz.length:Int):=YE (by omega) (by omega)
 unfold QD
 rw [B8 _ (by omega)]
 simp only [bS]
 have j:=X4 (γ:=Option (List T12)) l0.length (UC N x l0) (fun s=>RF N x l0 s) (fun i s=>s.length=l0.length/\∀ (y:Nat) (v:T12),y < i->l0[y]? = some v->s[y]? = some (!(Xa x (y:Int)) && (v.Zt != 0))) (by
  intro f s i hi ⟨E,F⟩
  obtain ⟨v,l⟩:∃ v,l0[i]? = some v:=⟨l0[i],by simp [hi]⟩
  obtain ⟨b,U⟩:∃ b,s[i]? = some b:=⟨s[i]'(by omega),by simp⟩
  have k:∀ q:Bool,q=(!(Xa x (i:Int)) && (v.Zt != 0))->(s.set i q).length=l0.length/\∀ (y:Nat) (v:T12),y < i+1->l0[y]? = some v->(s.set i q)[y]? = some (!(Xa x (y:Int)) && (v.Zt != 0)):=fun q P=>by
   refine ⟨by rw [List.length_set];exact E,fun y u hy A=>?_⟩
   have G:i < s.length:=by omega
   by_cases e:i=y
   ·subst e
    rw [l] at A;cases A
    rw [List.getElem?_set_self G,P]
   ·rw [List.getElem?_set_ne e]
    exact F y u (by omega) A
  rw [UC,Yo hi,Ye (by omega)]
  simp only [cT,Yb,l,U,bS,XE,H,X]
  by_cases I:(i:Int) < (first:Int)
  ·rw [dT I]
   refine ⟨_,k _ ?_,rfl⟩
   have:Xa x (i:Int)=false:=by
    cases h:Xa x (i:Int) with
    | false=>rfl
    | true=>have:=(d _).1 h;omega
   rw [this];rfl
  ·rw [dF I]
   simp only [cond_false]
   by_cases K:(i:Int)>=(first:Int)+(x.Zz.length:Int)
   ·rw [dT K]
    refine ⟨_,k _ ?_,rfl⟩
    have:Xa x (i:Int)=false:=by
     cases h:Xa x (i:Int) with
     | false=>rfl
     | true=>have:=(d _).1 h;omega
    rw [this];rfl
   ·rw [dF K]
    refine ⟨_,k _ ?_,rfl⟩
    have:Xa x (i:Int)=true:=(d _).2 ⟨by omega,by omega⟩
    rw [this];rfl) (by
  intro f s
  rw [UC,Yp (Zp _)];rfl)
 obtain ⟨c,⟨E,F⟩,e⟩:=j l0.length N 0 (List.replicate l0.length false) (by omega) (by omega) ⟨by simp,fun y v h=>by omega⟩
 have e:UC N x l0 N (List.replicate l0.length false) (0:Int)=RF N x l0 c:=e
 rw [e]
 unfold RF
 have o:∀ (y:Nat) (v:T12),l0[y]? = some v->c[y]? = some (!(Xa x (y:Int)) && (v.Zt != 0)):=fun y v l=>F y v (List.getElem?_eq_some_iff.1 l).1 l
 have Y:TI ok c l0 W nb tx l0 c:=⟨rfl,E,fun y v0 v C n=>by rw [C] at n;cases n;exact ⟨rfl,rfl⟩,fun y _=>rfl,fun y h=>⟨h,rfl⟩,fun D y v w C n R=>by
  have:=o y v n
  rw [C] at this
  have:=(Zl this).symm
  rw [Zc,Bool.not_eq_true'] at this
  exact z D y v w this.1 this.2 n R,fun B hB=>hB⟩
 have ⟨T,s,V,t2,g⟩:=ZoM L M x t O (fc c) N l0 c (Zp _) (by have:=BB c;omega) Y
 exact ⟨T,s,c,V,t2,g,o⟩
end
section
variable {N:Nat}
theorem Zmy (x:T0) (d:XZ x):∀ (r:List (Int × Int)) (n k:Nat) (a:List T1),x.ZB.Zy.drop k=r->r.length < n->a.length+2 * r.length<=33554432->UT x n a (k:Int)=some (a++Vq r):=by
 intro r
 induction r with
 | nil =>
  intro n k a h b c
  obtain ⟨n,rfl⟩:=pS n (by simp at b;omega)
  rw [UT,Yp (Xr h)]
  simp [DR,Vq]
 | cons e r l =>
  intro n k a h b c
  obtain ⟨n,rfl⟩:=pS n (by simp at b;omega)
  have ⟨f,i,j⟩:=Xp h
  have:=d.e
  simp only [Zg] at b c
  rw [UT,Yo f,Ye (by omega)]
  simp only [cT,Yb,i,bS]
  rw [Y8 (by simp;omega)]
  simp only [bS]
  rw [l n (k+1) _ j (by omega) (by simp;omega),aA]
  rfl
theorem Zmz (y:4194304 < N) (x:T0) (b:XZ x) (first:Nat) (o:x.ZA=(first:Int)) (p:first<=1000) (q:∀ f∈x.Zz,-1000<=f.Zv.Lo/\f.Zv.Lo<=1000) :
  RC N x=some (Vs first 0 x.Zz++x.ZB.Zw++Vq x.ZB.Zy):=by
 have z:=b.f
 have A:=b.d
 have B:=b.e
 have key:∀ (r:List T4) (n k:Nat) (a:List T1),x.Zz.drop k=r->r.length < n->a.length+2 * r.length<=8388608->UU N x n a (k:Int)=some (a++Vs first k r++x.ZB.Zw++Vq x.ZB.Zy):=by
  intro r
  induction r with
  | nil =>
   intro n k a h c i
   obtain ⟨n,rfl⟩:=pS n (by simp at c;omega)
   rw [UU,Yp (Xr h)]
   simp only [cond_false,Hd]
   simp only [List.length_nil] at i
   rw [Y8 (by omega)]
   simp only [bS]
   have:=Zmy x b x.ZB.Zy N 0 (a++x.ZB.Zw) rfl (by omega) (by simp;omega)
   rw [show ((0:Nat):Int)=0 from rfl] at this
   rw [this]
   simp [Vs]
  | cons f r w =>
   intro n k a h c i
   obtain ⟨n,rfl⟩:=pS n (by simp at c;omega)
   have ⟨s,l,t⟩:=Xp h
   simp only [Zg] at c i
   have u:=q f (Zb l)
   have v:Z1 (x.ZA+(k:Int))=((first+k:Nat):Int):=by rw [o,YE (by omega) (by omega)];omega
   have j:Z1 (0-f.Zv.Lo)=-f.Zv.Lo:=by rw [YE (by omega) (by omega)];omega
   rw [UU,Yo s,Ye (by omega)]
   simp only [cT,Yb,l,bS]
   rw [Y8 (by simp;omega),v,j]
   simp only [bS]
   rw [w n (k+1) _ t (by omega) (by simp;omega)]
   simp [Vs]
 have:=key x.Zz N 0 [] rfl (by omega) (by simp;omega)
 rw [show ((0:Nat):Int)=0 from rfl] at this
 unfold RC
 rw [this]
 simp
theorem Zms (y:4194304 < N) (x:T0) (v:XZ x) (L first:Nat) (w:x.ZA=(first:Int)) (hL:first+x.Zz.length<=L) (A:L<=1000) (l:WO L x.ZB) (p:∀ f∈x.Zz,-1000<=f.Zv.Lo/\f.Zv.Lo<=1000/\-1000<=f.Zv.Hi/\f.Zv.Hi<=1000)
  (B:∀ b∈x.ZB.Zw,-20000<=b.C/\b.C<=20000):∃ z,RC N x=some z/\BdX x first L z:=by
 refine ⟨_,Zmz y x v first w (by omega) (fun f h=>⟨(p f h).1,(p f h).2.1⟩),?_⟩
 have G:=v.f
 have D:=l.dl
 have E:=l.el
 have n:∀ b∈Vs first 0 x.Zz++x.ZB.Zw++Vq x.ZB.Zy,(∃ (k:Nat) (f:T4),x.Zz[k]? = some f/\(b=⟨((first+k:Nat):Int),-1,f.Zv.Hi⟩\/b=⟨-1,((first+k:Nat):Int),-f.Zv.Lo⟩))\/b∈x.ZB.Zw\/∃ e∈x.ZB.Zy,b=⟨e.1,e.2,0⟩\/b=⟨e.2,e.1,0⟩:=fun b c=>by
  rcases List.mem_append.1 c with c | c
  ·rcases List.mem_append.1 c with c | c
   ·have ⟨k,f,j,a⟩:=HH first x.Zz 0 b c
    rw [Nat.zero_add] at a
    exact .inl ⟨k,f,j,a⟩
   ·exact .inr (.inl c)
  ·exact .inr (.inr (Bz c))
 have o:∀ (k:Nat) (f:T4),x.Zz[k]? = some f->(⟨((first+k:Nat):Int),-1,f.Zv.Hi⟩:T1)∈Vs first 0 x.Zz++x.ZB.Zw++Vq x.ZB.Zy/\(⟨-1,((first+k:Nat):Int),-f.Zv.Lo⟩:T1)∈Vs first 0 x.Zz++x.ZB.Zw++Vq x.ZB.Zy:=fun k f s=>by
  have ⟨j,a⟩:=Zdq first x.Zz 0 k f s
  rw [Nat.zero_add] at j a
  exact ⟨List.mem_append_left _ (List.mem_append_left _ j),List.mem_append_left _ (List.mem_append_left _ a)⟩
 refine ⟨⟨?_,fun b c=>?_,fun i f hi=>?_⟩,fun b c=>?_,o,fun b c=>List.mem_append_left _ (List.mem_append_right _ c),fun e r=>?_,n⟩
 ·simp only [lA,BE,Zde];omega
 ·rcases n b c with ⟨k,f,j,a⟩ | q | ⟨e,r,q⟩
  ·have s:=(List.getElem?_eq_some_iff.1 j).1
   rcases a with a | a
   ·rw [a]
    exact ⟨by show ((first+k:Nat):Int) < _;omega,by show (-1:Int) < _;omega⟩
   ·rw [a]
    exact ⟨by show (-1:Int) < _;omega,by show ((first+k:Nat):Int) < _;omega⟩
  ·exact l.d b q
  ·have:=l.e e r
   rcases q with q | q
   ·rw [q];exact ⟨this.1.2,this.2.2⟩
   ·rw [q];exact ⟨this.2.2,this.1.2⟩
 ·have s:=(List.getElem?_eq_some_iff.1 hi).1
  have t:=p f (Zb hi)
  have F:Z1 (x.ZA+(i:Int))=((first+i:Nat):Int):=by rw [w,YE (by omega) (by omega)];omega
  have u:Z1 (0-f.Zv.Lo)=-f.Zv.Lo:=by rw [YE (by omega) (by omega)];omega
  rw [F,u]
  exact (o i f hi).2
 ·rcases n b c with ⟨k,f,j,a⟩ | q | ⟨e,r,q⟩
  ·have t:=p f (Zb j)
   rcases a with a | a
   ·rw [a];show -20000<=f.Zv.Hi/\f.Zv.Hi<=20000;omega
   ·rw [a];show -20000<=-f.Zv.Lo/\-f.Zv.Lo<=20000;omega
  ·exact B b q
  ·rcases q with q | q
   ·rw [q];show -20000<=(0:Int)/\(0:Int)<=20000;omega
   ·rw [q];show -20000<=(0:Int)/\(0:Int)<=20000;omega
 ·have ⟨j,a⟩:=ZhS r
  exact ⟨List.mem_append_right _ j,List.mem_append_right _ a⟩
end
section
variable {N:Nat}
theorem Sg.small {F:List T4} {x:T0} {first:Nat} {b:List T12} (h:Sg F x first b):Small b:=fun i v c=>by
 rcases h.fits i v c with a | ⟨f,a,d⟩
 ·have:=(RK a).2.1;omega
 ·have:=Vi (h.so f (Zb a)) d;omega
def VG (first n:Nat) (T:List T12):List T12:=(T.take (first+n)).drop first
theorem ZdP {first n:Nat} {T:List T12} (h:first+n<=T.length):(VG first n T).length=n:=by
 unfold VG;rw [List.length_drop,List.length_take];omega
theorem B4 {first n k:Nat} {T:List T12} (a:k < n):(VG first n T)[k]? = T[first+k]? := by
 unfold VG;rw [List.getElem?_drop,List.getElem?_take,if_pos (by omega)]
theorem Zdz (s:900000000 < N) {F:List T4} {x:T0} {first:Nat} {a:List T12} (g:Sg F x first a)
  (v:List T12) (h:v.length=x.Zz.length) (T:List T12) (i:QD N x (YF first v a)=some T) (b:T.length=a.length) (c:∀ u∈T,u.S.size<=4194304) :
  Sb N a x v=some (bif XT x.ZB T && XK x.Zz (VG first x.Zz.length T) then (VG first x.Zz.length T,true) else ([],false)):=by
 have hf:=g.hf
 have hle:=g.hle
 have hk:=g.hk
 have hfn:=g.hfn
 unfold Sb
 rw [Bg x v a first hf (by omega) (by omega)]
 simp only [bS]
 rw [i]
 simp only [bS]
 have j:Z1 (x.ZA+(x.Zz.length:Int))=((first+x.Zz.length:Nat):Int):=by rw [hf,YE (by omega) (by omega)];omega
 have k:Wj (some x.ZA) (some (Z1 (x.ZA+(x.Zz.length:Int)))) T.length=some (first,first+x.Zz.length):=by
  unfold Wj
  rw [j,hf]
  have l:decide ((0:Int)<=(first:Int))=true:=by simp
  have o:decide ((first:Int)<=((first+x.Zz.length:Nat):Int))=true:=by simp;omega
  have p:decide (((first+x.Zz.length:Nat):Int)<=(T.length:Int))=true:=by simp;omega
  simp only [Option.getD_some,l,o,p,Bool.and_true,cT,Int.toNat_natCast]
 have d:Wj none none v.length=some (0,v.length):=by
  unfold Wj
  simp
 unfold lsl Vf
 rw [k,d]
 simp only [Option.map_some,bS]
 rw [Zdt (N:=N) (by omega) x.ZB T (by rw [b];exact g.hin)]
 simp only [bS]
 have e:=ZdP (T:=T) (first:=first) (n:=x.Zz.length) (by omega)
 have q:(T.take (first+x.Zz.length)).drop first=VG first x.Zz.length T:=rfl
 have r:v.take 0++((T.take (first+x.Zz.length)).drop first).take (min ((T.take (first+x.Zz.length)).drop first).length (v.length-0))++v.drop (0+min ((T.take (first+x.Zz.length)).drop first).length (v.length-0))=VG first x.Zz.length T:=by
  rw [q,e,h]
  rw [List.take_zero,List.nil_append,List.take_of_length_le (by omega),List.drop_of_length_le (by omega),List.append_nil]
 rw [r]
 cases XT x.ZB T with
 | false=>rfl
 | true =>
  simp only [Zh,cond_false,Bool.true_and]
  rw [Zdn (N:=N) (by omega) x.Zz _ (by omega) (fun u f=>by
   unfold VG at f
   exact c u (List.mem_of_mem_take (List.mem_of_mem_drop f)))]
  simp only [bS]
  cases XK x.Zz (VG first x.Zz.length T)<;>rfl
def VX (c:Int):ByteArray:=⟨(Te (str [97]).data.toList c.toNat).toArray⟩
theorem ZrB (c:Int) (a:0<=c) (d:c<=800000000):Mf N (str [97]) c=some (VX c):=by
 unfold Mf
 have b:(str [97]).size=1:=rfl
 rw [dT a,dT (show c<=140737488355328 by omega),b,dT (show 1 * c.toNat<=140737488355328 by omega)]
 rfl
theorem ZjG (c:Int):(VX c).size=c.toNat:=by
 show (Te (str [97]).data.toList c.toNat).toArray.size=_
 rw [List.size_toArray,Zaq]
 have:(str [97]).data.toList.length=1:=rfl
 rw [this];omega
theorem ZjH (n:Nat):∀ b∈Te (str [97]).data.toList n,b=97:=by
 induction n with
 | zero=>intro b h;cases h
 | succ n a =>
  intro b h
  rcases List.mem_append.1 h with h | h
  ·have:b∈[(97:UInt8)]:=h
   simpa using this
  ·exact a b h
theorem ZrA (c:Int):(bs (VX c)).any Xh=false:=by
 rw [List.any_eq_false]
 intro b a
 have:b=97:=ZjH c.toNat b (by simpa [bs,VX] using a)
 subst this
 decide
def Vb (f:T4) (c:Int):T12:=bif f.Zv.Zt==2 then ⟨2,0,VX c⟩ else ⟨f.Zv.Zt,c,(str [])⟩
theorem Gf {f:T4} (a:Xn f.Zv) {c:Int} (b:f.Zv.Lo<=c):Yz (Vb f c)=c/\(Vb f c).Zt=f.Zv.Zt:=by
 unfold Vb
 unfold Xn at a
 cases h:(f.Zv.Zt==2) with
 | true =>
  have h:f.Zv.Zt=2:=by simpa using h
  refine ⟨?_,h.symm⟩
  show (((VX c).size:Nat):Int)=c
  rw [ZjG];omega
 | false =>
  refine ⟨?_,rfl⟩
  show (bif f.Zv.Zt==2 then _ else c)=c
  rw [h];rfl
theorem ZeD {f:T4} {c:Int} (a:c<=1000):(Vb f c).S.size<=1000:=by
 unfold Vb
 cases (f.Zv.Zt==2) with
 | true=>show (VX c).size<=_;rw [ZjG];omega
 | false=>exact Nat.zero_le _
structure Mdl (ks:List T12) (x:T0) (z0:List T1) (m:List Int) (v0:List T12):Prop where
 ml:m.length=x.Zz.length
 fk:Y6 (x.Zz.length+1) YX (XI m)
 bk:∀ b∈z0,XI m (Y7 x b.X)-XI m (Y7 x b.Y)<=Yy (cV ks x b) (-20001)
 le:∀ u:Nat->Int,Y6 (x.Zz.length+1) YX u->(∀ b∈z0,u (Y7 x b.X)-u (Y7 x b.Y)<=Yy (cV ks x b) (-20001))->u 0=0->∀ i,i < x.Zz.length->(∀ j,j < i->u (j+1)=XI m (j+1))->XI m (i+1)<=u (i+1)
 vl:v0.length=x.Zz.length
 va:∀ (i:Nat) (f:T4) (c:Int),x.Zz[i]? = some f->m[i]? = some c->v0[i]? = some (Vb f c)/\f.Zv.Lo<=c/\c<=f.Zv.Hi
theorem Zdk (hN:900000000 < N) (d:List T0) (a:Int) {F:List T4} {x:T0} {first:Nat} {j:List T12} (g:Sg F x first j) (n:US N d a j=some true) (H:Z5 d a=some x) :
  ∃ z0,BdX x first j.length z0/\((z25 N d a j=some ([],false)/\((∃ b∈z0,(We j x b.X || We j x b.Y)=true)\/∀ u:Nat->Int,Y6 (x.Zz.length+1) YX u->¬ ∀ b∈z0,u (Y7 x b.X)-u (Y7 x b.Y)<=Yy (cV j x b) (-20001))) \/
   ∃ m v0,z25 N d a j=Sb N j x v0/\Mdl j x z0 m v0):=by
 have hf:=g.hf
 have hle:=g.hle
 have hk:=g.hk
 have hfn:=g.hfn
 have ⟨z0,b1,K⟩:=Zms (N:=N) (by omega) x g.hx j.length first hf hle (by omega) g.hin (fun f hf=>by
  have ⟨k,hk⟩:=List.mem_iff_getElem?.1 hf
  have:=g.sx hk
  unfold Xn at this
  omega) g.dc
 refine ⟨z0,K,?_⟩
 unfold z25
 rw [n,H]
 simp only [bS,Zh,cond_false]
 have ⟨B,p,r⟩:=Zp4 (N:=N) (by omega) x.Zz.length (by omega)
 rw [p]
 simp only [bS]
 rw [b1]
 simp only [bS]
 have hlen:=K.bd.len
 rcases ZnH (N:=N) (by omega) j g.small x first hf (by omega) hfn z0 K.bd K.c z0 N 0 _ YX rfl (by omega) r with ⟨h,e⟩ | ⟨hall,z,A,e,hZ,l⟩
 ·left
  exact ⟨e,.inl h⟩
 ·have e:Vm N j x z0 N (x.Zz.length:Int) B (0:Int)=SQ N j x z.N z.B:=e
  rw [e]
  unfold SQ
  rcases Zpm (N:=N) (by omega) x.Zz.length hfn A z hZ with ⟨m,e,V⟩ | ⟨m,e,ml,mk,W⟩
  ·have e:UV N ⟨z.N,z.B⟩=some (m,false):=e
   rw [e]
   left
   refine ⟨rfl,.inr fun u I R=>V u ((l u).2 ⟨I,R⟩)⟩
  ·have e:UV N ⟨z.N,z.B⟩=some (m,true):=e
   rw [e]
   simp only [bS,Zh,cond_false]
   rw [B8 _ (by omega)]
   simp only [bS]
   have ⟨T,y⟩:=(l _).1 mk
   have L:∀ k:Nat,k < x.Zz.length->Y7 x ((first+k:Nat):Int)=k+1:=fun k hk=>by
    unfold Y7
    rw [dF (show ¬ ((first+k:Nat):Int) < 0 by omega),(UL hf (by omega) hfn _).2 ⟨by omega,by omega⟩,hf]
    simp only [cond_false,cT]
    omega
   have Z:∀ k:Nat,k < x.Zz.length->XL j x ((first+k:Nat):Int)=0:=fun k hk=>by
    unfold XL
    rw [dF (show ¬ ((first+k:Nat):Int) < 0 by omega),(UL hf (by omega) hfn _).2 ⟨by omega,by omega⟩]
    rfl
   have hp0:Y7 x (-1)=0:=rfl
   have hk0:XL j x (-1)=0:=rfl
   have t:∀ (i:Nat) (f:T4) (c:Int),x.Zz[i]? = some f->m[i]? = some c->f.Zv.Lo<=c/\c<=f.Zv.Hi:=fun i f c w o=>by
    have hi:=(List.getElem?_eq_some_iff.1 w).1
    have E:=g.sx w
    unfold Xn at E
    have ⟨q1,q2⟩:=K.fld i f w
    have M:=y _ q1
    have O:=y _ q2
    unfold cV at M O
    simp only [L i hi,Z i hi,hp0,hk0,ZeJ o] at M O
    have y0:XI m 0=0:=rfl
    rw [y0] at M O
    unfold Yy at M O
    split at M<;>split at O<;>omega
   have G:=X4 (γ:=Option (List T12 × Bool)) x.Zz.length (Tq N j x (m,true)) (fun v=>Sb N j x v) (fun i v=>v.length=x.Zz.length/\∀ (k:Nat) (f:T4) (c:Int),k < i->x.Zz[k]? = some f->m[k]? = some c->v[k]? = some (Vb f c)) (by
    intro f v i hi ⟨U,D⟩
    obtain ⟨s,q⟩:∃ s,x.Zz[i]? = some s:=⟨x.Zz[i],by simp [hi]⟩
    obtain ⟨C,o⟩:∃ C,m[i]? = some C:=⟨m[i]'(by omega),by simp⟩
    obtain ⟨u,I⟩:∃ u,v[i]? = some u:=⟨v[i]'(by omega),by simp⟩
    have fin:(v.set i (Vb s C)).length=x.Zz.length/\∀ (k:Nat) (f:T4) (c:Int),k < i+1->x.Zz[k]? = some f->m[k]? = some c->(v.set i (Vb s C))[k]? = some (Vb f c):=by
     refine ⟨by rw [List.length_set];exact U,fun k f c hk p r=>?_⟩
     by_cases e:i=k
     ·subst e
      rw [q] at p;cases p
      rw [o] at r;cases r
      exact List.getElem?_set_self (by omega)
     ·rw [List.getElem?_set_ne e]
      exact D k f c (by omega) p r
    refine ⟨v.set i (Vb s C),fin,?_⟩
    rw [Tq,Yo hi,Ye (by omega)]
    simp only [cT,Yb,q,o,I,bS,XE]
    have R:=t i s C q o
    have E:=g.sx q
    unfold Xn at E
    unfold Vb
    cases P:(s.Zv.Zt==2) with
    | false=>rfl
    | true =>
     have P:s.Zv.Zt=2:=by simpa using P
     simp only [cT,ZrB (N:=N) C (by omega) (by omega),bS]
     rw [List.getElem?_set,if_pos rfl,if_pos (by omega)]
     simp only [bS,List.set_set]) (by
    intro f v
    rw [Tq,Yp (Zp _)];rfl)
   obtain ⟨v,⟨U,D⟩,e2⟩:=G x.Zz.length N 0 (List.replicate x.Zz.length ⟨0,0,(str [])⟩) (by omega) (by omega) ⟨by simp,fun k f c hk=>by omega⟩
   right
   refine ⟨m,v,e2,ml,T,y,fun u I R S i hi he=>W u ((l u).2 ⟨I,R⟩) S i hi he,U,fun i f c p r=>⟨D i f c (List.getElem?_eq_some_iff.1 p).1 p r,t i f c p r⟩⟩
end
section
variable {N:Nat}
theorem ZkD {T B:List T12} (b:∀ (y:Nat) (v:T12),T[y]? = some v->(v.Zt==0)=false->B[y]? = some v) {y:Int} (h:Vc T y=false):Vc B y=false/\Xy B y=Xy T y:=by
 unfold Vc at h ⊢
 unfold Xy
 cases d:decide (y < 0) with
 | true=>exact ⟨rfl,rfl⟩
 | false =>
  rw [d] at h
  simp only [cond_false] at h ⊢
  cases a:Z5 T y with
  | none=>rw [a] at h;cases h
  | some v =>
   rw [a] at h
   obtain ⟨k,rfl,c⟩:=UI a
   rw [Yb,b k v c h]
   exact ⟨h,rfl⟩
theorem ZoI {g:T6} {T B:List T12} (d:∀ (y:Nat) (v:T12),T[y]? = some v->(v.Zt==0)=false->B[y]? = some v) (h:XT g T=true):XT g B=true:=by
 unfold XT at h ⊢
 rw [Zc] at h ⊢
 have ⟨j,n⟩:=h
 rw [XC] at j n ⊢
 rw [XC]
 refine ⟨fun i b c=>?_,fun i e o=>?_⟩
 ·have:=j i b c
  unfold Vg at this ⊢
  simp only [Zc,Bool.not_eq_true'] at this ⊢
  have ⟨p,q,r⟩:=this
  have ⟨a1,a2⟩:=ZkD d p
  have ⟨s,t⟩:=ZkD d q
  rw [a2,t]
  exact ⟨a1,s,r⟩
 ·have:=n i e o
  unfold VV at this ⊢
  cases f:Z5 T e.1 with
  | none=>rw [f] at this;cases this
  | some a =>
   cases c:Z5 T e.2 with
   | none=>rw [f,c] at this;cases this
   | some b =>
    rw [f,c] at this
    simp only [Zc,Bool.not_eq_true'] at this
    have ⟨k,u,w⟩:=UI f
    have ⟨l,x,z⟩:=UI c
    rw [u,x,Yb,Yb,d k a w this.1,d l b z this.2.1]
    simp only [Zc,Bool.not_eq_true']
    exact this
theorem Zh2 (P:900000000 < N) (d:List T0) (i:Int) {F:List T4} {x:T0} {first:Nat} {j:List T12} (g:Sg F x first j) (k:US N d i j=some true) (q:Z5 d i=some x) {R:List T12} (h:z25 N d i j=some (R,true)) :
  XK x.Zz R=true/\XT x.ZB (YF first R j)=true/\R.length=x.Zz.length/\∀ v∈R,v.S.size<=4194304:=by
 have hf:=g.hf
 have hle:=g.hle
 have hk:=g.hk
 have hfn:=g.hfn
 obtain ⟨z0,hz,⟨e,_⟩ | ⟨m,v0,e,E⟩⟩:=Zdk P d i g k q
 ·rw [e] at h;cases h
 ·rw [e] at h
  have K:=E.vl
  have p:=Sk first v0 j (by omega)
  have ⟨T,s,U,V,t2,t3,t4⟩:=ZeB (N:=N) (by omega) (ok:=False) (l0:=YF first v0 j) (W:=j) (nb:=fun _=>0) (tx:=fun _=>False) p.symm x first hf (by omega) hfn (by omega) (by rw [p];exact g.hin) (fun e Z a b h1 h2 h=>h.elim) (fun h=>h.elim)
  have L:T.length=j.length:=by rw [t2.ll];exact p
  have w:∀ u∈T,u.S.size<=4194304:=t2.sz 4194304 (fun v D=>by
   have ⟨y,l⟩:=List.mem_iff_getElem?.1 D
   rw [Vo first v0 j (by omega)] at l
   split at l
   ·rename_i c
    obtain ⟨f,r⟩:∃ f,x.Zz[y-first]? = some f:=⟨x.Zz[y-first]'(by omega),by simp⟩
    obtain ⟨c,I⟩:∃ c,m[y-first]? = some c:=⟨m[y-first]'(by have:=E.ml;omega),by simp⟩
    have ⟨a1,a2,a3⟩:=E.va _ f c r I
    rw [l] at a1
    cases a1
    have M:=g.sx r
    unfold Xn at M
    have:=ZeD (f:=f) (c:=c) (by omega)
    omega
   ·exact g.sz v (Zb l))
  rw [Zdz P g v0 E.vl T V L w] at h
  cases C:(XT x.ZB T && XK x.Zz (VG first x.Zz.length T)) with
  | false=>rw [C] at h;simp at h
  | true =>
   rw [C] at h
   simp only [cT,Option.some.injEq,Zq,and_true] at h
   subst h
   rw [Zc] at C
   have z:=ZdP (T:=T) (first:=first) (n:=x.Zz.length) (by omega)
   refine ⟨C.2,ZoI (fun y v l o=>?_) C.1,z,fun v D=>w v (by unfold VG at D;exact List.mem_of_mem_take (List.mem_of_mem_drop D))⟩
   rw [Vo first _ j (by omega),z]
   split
   ·rename_i c
    rw [B4 (by omega),show first+(y-first)=y by omega]
    exact l
   ·rename_i c
    have X:=(List.getElem?_eq_some_iff.1 l).1
    have A:=Vo first v0 j (by omega) y
    rw [if_neg (by rw [K];exact c)] at A
    obtain ⟨G,t⟩:∃ G,j[y]? = some G:=⟨j[y]'(by omega),by simp⟩
    rw [t] at A
    have O:=(t2.kn y G v A l).1
    have H:=t4 y G A
    have B:Xa x (y:Int)=false:=by
     cases Y:Xa x (y:Int) with
     | false=>rfl
     | true=>have:=(UL hf (by omega) hfn _).1 Y;omega
    rw [B,<- O] at H
    have H:U[y]? = some true:=by rw [H];simp only [bne,o];rfl
    have:=(t2.fx y H).2
    rw [A,l] at this
    rw [t,this]
def W2 (V:List T12):Nat->Int
 | 0=>0
 | i+1=>match V[i]? with
  | some v=>Yz v
  | none=>0
theorem Zi9 {F:List T4} {x:T0} {first:Nat} {a:List T12} (g:Sg F x first a) {V:List T12} (hV:V.length=x.Zz.length) (y:Int):Xy (YF first V a) y=W2 V (Y7 x y)+XL a x y:=by
 have hf:=g.hf
 have hle:=g.hle
 have hk:=g.hk
 have hfn:=g.hfn
 unfold Xy Y7 XL
 by_cases b:y < 0
 ·rw [dT b];rfl
 ·rw [dF b]
  simp only [cond_false]
  obtain ⟨k,rfl⟩:=Ze (show 0<=y by omega)
  rw [Yb,Yb,Vo first V a (by omega),hV]
  cases d:Xa x (k:Int) with
  | true =>
   have:=(UL hf (by omega) hfn _).1 d
   rw [if_pos (by omega)]
   simp only [cT,hf]
   rw [show ((k:Int)-(first:Int)).toNat=k-first by omega,Int.add_zero]
   rfl
  | false =>
   rw [if_neg (fun c=>by
    have:=(UL hf (by omega) hfn (k:Int)).2 ⟨by omega,by omega⟩
    rw [d] at this;cases this)]
   simp only [cond_false]
   show _=(0:Int)+_
   rw [Int.zero_add]
   first | done | (cases a[k]?<;>rfl)
theorem Zh8 {F:List T4} {x:T0} {first:Nat} {b:List T12} (g:Sg F x first b) {W:List T12} (h:Fts F W):Small W:=fun i v c=>by
 rcases h i v c with a | ⟨f,a,d⟩
 ·have:=(RK a).2.1;omega
 ·have:=Vi (g.so f (Zb a)) d;omega
end
section
variable {N:Nat}
theorem ZaJ {F:List T4} {x:T0} {first:Nat} {a:List T12} (g:Sg F x first a) {V:List T12} (hV:V.length=x.Zz.length) {y:Int} (h:Vc (YF first V a) y=false):We a x y=false:=by
 have hf:=g.hf
 have hle:=g.hle
 have hk:=g.hk
 have hfn:=g.hfn
 unfold Vc at h
 unfold We
 by_cases b:y < 0
 ·rw [dT b];rfl
 ·rw [dF b] at h ⊢
  simp only [cond_false] at h ⊢
  cases d:Xa x y with
  | true=>rfl
  | false =>
   simp only [cond_false]
   obtain ⟨k,rfl⟩:=Ze (show 0<=y by omega)
   rw [Yb,Vo first V a (by omega),if_neg (fun c=>by
    have:=(UL hf (by omega) hfn (k:Int)).2 ⟨by omega,by omega⟩
    rw [d] at this;cases this)] at h
   rw [Yb]
   exact h
theorem Zs9 {F:List T4} {x:T0} {first:Nat} {d:List T12} (g:Sg F x first d) {V:List T12} (l:XK x.Zz V=true) (i:XT x.ZB (YF first V d)=true) {z0:List T1} (hz:BdX x first d.length z0) :
  ∀ b∈z0,(We d x b.X || We d x b.Y)=false/\Xy (YF first V d) b.X-Xy (YF first V d) b.Y<=b.C:=by
 have hf:=g.hf
 have hle:=g.hle
 have hk:=g.hk
 have hfn:=g.hfn
 have hV:V.length=x.Zz.length:=(HF l).symm
 have o:=Zds g l
 have y:=Zh8 g o
 have z:∀ k:Nat,k < x.Zz.length->Xa x ((first+k:Nat):Int)=true:=fun k hk=>(UL hf (by omega) hfn _).2 ⟨by omega,by omega⟩
 have Z:We d x (-1)=false:=rfl
 have mk:∀ k:Nat,k < x.Zz.length->We d x ((first+k:Nat):Int)=false:=fun k hk=>by
  unfold We
  rw [dF (show ¬ ((first+k:Nat):Int) < 0 by omega),z k hk];rfl
 have n0:Xy (YF first V d) (-1)=0:=rfl
 unfold XT at i
 rw [Zc] at i
 have ⟨K,L⟩:=i
 rw [XC] at K L
 have E:∀ b∈x.ZB.Zw,Vg (YF first V d) b=true:=fun b n=>by
  have ⟨j,D⟩:=List.mem_iff_getElem?.1 n
  exact K j b D
 have G:∀ e∈x.ZB.Zy,VV (YF first V d) e=true:=fun e r=>by
  have ⟨j,D⟩:=List.mem_iff_getElem?.1 r
  exact L j e D
 have H:∀ e∈x.ZB.Zy,We d x e.1=false/\We d x e.2=false/\Xy (YF first V d) e.1=Xy (YF first V d) e.2:=fun e r=>by
  have ⟨a,b,v,w,M,O,P,n,R,S,q3⟩:=Q3 (G e r)
  have ⟨T,t2⟩:=g.tv e r
  rw [M] at T
  rw [O] at t2
  have ⟨u1,u2⟩:=UP P
  have ⟨u3,u4⟩:=UP n
  rw [M,O]
  refine ⟨ZaJ g hV (u1.trans R),ZaJ g hV (u3.trans S),?_⟩
  rw [u2,u4]
  have kd:∀ (c:Nat) (u:T12),(YF first V d)[c]? = some u->(u.Zt==0)=false->Xz F (c:Int)=true->u.Zt=2:=fun c u hc I ht=>by
   rcases o c u hc with h | ⟨f,s,t⟩
   ·rw [(RK h).1] at I;cases I
   ·rw [(Vi (g.so f (Zb s)) t).1]
    exact Ge ht s
  unfold Yz
  rw [kd a v P R T,kd b w n S t2,q3]
  rfl
 intro b n
 rcases hz.inv b n with ⟨k,f,p,q⟩ | q | ⟨e,r,q⟩
 ·have A:=(List.getElem?_eq_some_iff.1 p).1
  obtain ⟨v,U⟩:∃ v,V[k]? = some v:=⟨V[k]'(by omega),by simp⟩
  have n:(YF first V d)[first+k]? = some v:=by
   rw [Vo first V d (by omega),if_pos (by omega),Nat.add_sub_cancel_left]
   exact U
  have B:=(UP n).2
  have hfv:=Vi (g.sx p) (RU l p U)
  rcases q with q | q
  ·rw [q]
   simp only [Z,mk k A,n0,B,Bool.or_false]
   exact ⟨trivial,by omega⟩
  ·rw [q]
   simp only [Z,mk k A,n0,B,Bool.or_false]
   exact ⟨trivial,by omega⟩
 ·have:=E b q
  unfold Vg at this
  simp only [Zc,Bool.not_eq_true'] at this
  have ⟨a1,a2,a3⟩:=this
  have s:=Zja y b.X
  have t:=Zja y b.Y
  rw [YE (by omega) (by omega),decide_eq_false_iff_not] at a3
  rw [ZaJ g hV a1,ZaJ g hV a2]
  exact ⟨rfl,by omega⟩
 ·have ⟨s,t,W⟩:=H e r
  rcases q with q | q
  ·rw [q]
   simp only [s,t,W,Bool.or_false]
   exact ⟨trivial,by omega⟩
  ·rw [q]
   simp only [s,t,W,Bool.or_false]
   exact ⟨trivial,by omega⟩
theorem Zag {F:List T4} {x:T0} {first:Nat} {a:List T12} (g:Sg F x first a) {k:Nat} (hk:k < x.Zz.length):Y7 x ((first+k:Nat):Int)=k+1/\XL a x ((first+k:Nat):Int)=0/\Xa x ((first+k:Nat):Int)=true:=by
 have hf:=g.hf
 have hle:=g.hle
 have b:=g.hk
 have hfn:=g.hfn
 have c:=(UL hf (by omega) hfn ((first+k:Nat):Int)).2 ⟨by omega,by omega⟩
 unfold Y7 XL
 rw [dF (show ¬ ((first+k:Nat):Int) < 0 by omega),c,hf]
 simp only [cond_false,cT]
 exact ⟨by omega,trivial,trivial⟩
theorem Zp8 {F:List T4} {x:T0} {first:Nat} {a:List T12} (g:Sg F x first a) {y:Nat} {v:T12} (b:Xa x (y:Int)=false) (d:a[y]? = some v):Y7 x (y:Int)=0/\XL a x (y:Int)=Yz v/\¬ (first<=y/\y < first+x.Zz.length):=by
 have hf:=g.hf
 have hle:=g.hle
 have e:=g.hk
 have hfn:=g.hfn
 unfold Y7 XL
 rw [dF (show ¬ (y:Int) < 0 by omega),b,Yb,d]
 refine ⟨rfl,rfl,fun c=>?_⟩
 have:=(UL hf (by omega) hfn (y:Int)).2 ⟨by omega,by omega⟩
 rw [b] at this;cases this
theorem ZnS (hN:900000000 < N) (d:List T0) (K:Int) {F:List T4} {x:T0} {first:Nat} {o:List T12} (g:Sg F x first o) (hproper:US N d K o=some true) (hidx:Z5 d K=some x) {V:List T12} (M:XK x.Zz V=true) (hkeep:XT x.ZB (YF first V o)=true) :
  ∃ R,z25 N d K o=some (R,true)/\(∀ i,i < x.Zz.length->(∀ j,j < i->W2 V (j+1)=W2 R (j+1))->W2 R (i+1)<=W2 V (i+1))/\∀ (k:Nat) (u r:T12),V[k]? = some u->R[k]? = some r->r.S=u.S\/∃ f,x.Zz[k]? = some f/\r=Vb f (Yz r):=by
 have hf:=g.hf
 have hle:=g.hle
 have hk:=g.hk
 have hfn:=g.hfn
 have hV:V.length=x.Zz.length:=(HF M).symm
 have hWl:(YF first V o).length=o.length:=Sk first V o (by omega)
 have hfts:=Zds g M
 have hsm:=Zh8 g hfts
 have ⟨z0,hz,hcase⟩:=Zdk hN d K g hproper hidx
 have hwb:=Zs9 g M hkeep hz
 have u0:W2 V 0=0:=rfl
 have uS:∀ k,k < x.Zz.length->-1000<=W2 V (k+1)/\W2 V (k+1)<=1000:=fun k hk=>by
  obtain ⟨v,z⟩:∃ v,V[k]? = some v:=⟨V[k]'(by omega),by simp⟩
  obtain ⟨f,hfk⟩:∃ f,x.Zz[k]? = some f:=⟨x.Zz[k]'(by omega),by simp⟩
  have:=Vi (g.sx hfk) (RU M hfk z)
  have e:W2 V (k+1)=Yz v:=by show (match V[k]? with | some v=>Yz v | none=>0)=_;rw [z]
  rw [e];omega
 have uK:Y6 (x.Zz.length+1) YX (W2 V):=fun a b ha O=>by
  have I:-1000<=W2 V a/\W2 V a<=1000:=by
   cases a with
   | zero=>rw [u0];omega
   | succ a=>exact uS a (by omega)
  have h2:-1000<=W2 V b/\W2 V b<=1000:=by
   cases b with
   | zero=>rw [u0];omega
   | succ a=>exact uS a (by omega)
  unfold YX
  split
  ·rename_i e;rw [e];omega
  ·split
   ·omega
   ·split<;>omega
 have uB:∀ b∈z0,W2 V (Y7 x b.X)-W2 V (Y7 x b.Y)<=Yy (cV o x b) (-20001):=fun b O=>by
  have I:=(hwb b O).2
  rw [Zi9 g hV,Zi9 g hV] at I
  have:=(Wl (cV o x b) (-20001)).1
  unfold cV at this ⊢
  omega
 rcases hcase with ⟨_,⟨b,O,hm⟩ | hno⟩ | ⟨m,v0,e,hm⟩
 ·rw [(hwb b O).1] at hm;cases hm
 ·exact absurd uB (hno _ uK)
 ·have hvl:=hm.vl
  have hml:=hm.ml
  have hbl:=Sk first v0 o (by omega)
  generalize hW:YF first V o=W at *
  have hWown:∀ k,k < x.Zz.length->W[first+k]? = V[k]? := fun k hk=>by
   rw [<- hW,Vo first V o (by omega),if_pos (by omega),Nat.add_sub_cancel_left]
  have hWnot:∀ y,¬ (first<=y/\y < first+x.Zz.length)->W[y]? = o[y]? := fun y hy=>by
   rw [<- hW,Vo first V o (by omega),if_neg (by omega)]
  have hlown:∀ k,k < x.Zz.length->(YF first v0 o)[first+k]? = v0[k]? := fun k hk=>by
   rw [Vo first v0 o (by omega),if_pos (by omega),Nat.add_sub_cancel_left]
  have hlnot:∀ y,¬ (first<=y/\y < first+x.Zz.length)->(YF first v0 o)[y]? = o[y]? := fun y hy=>by
   rw [Vo first v0 o (by omega),if_neg (by omega)]
  generalize hl0:YF first v0 o=l0 at *
  have k1k2:=hkeep
  unfold XT at k1k2
  rw [Zc] at k1k2
  have ⟨k1,k2⟩:=k1k2
  rw [XC] at k1 k2
  have k1':∀ b∈x.ZB.Zw,Vg W b=true:=fun b O=>by
   have ⟨j,hj⟩:=List.mem_iff_getElem?.1 O
   exact k1 j b hj
  have k2':∀ e∈x.ZB.Zy,VV W e=true:=fun e he=>by
   have ⟨j,hj⟩:=List.mem_iff_getElem?.1 he
   exact k2 j e hj
  -- the number that is meant for each variable
  have y0:XI m 0=0:=rfl
  have yS:∀ p,p < x.Zz.length+1->-10000<=XI m p/\XI m p<=10000:=fun p hp=>by
   have I:=hm.fk p 0 hp (by omega)
   have h2:=hm.fk 0 p (by omega) hp
   rw [y0] at I h2
   have f1:YX p 0<=10000:=by unfold YX;split<;>(try split)<;>(try split)<;>omega
   have f2:YX 0 p<=10000:=by unfold YX;split<;>(try split)<;>(try split)<;>omega
   omega
  let nb:Int->Int:=fun y=>XI m (Y7 x y)+XL o x y
  have nbS:∀ y,-11000<=nb y/\nb y<=11000:=fun y=>by
   have I:=yS (Y7 x y) (HV hf (by omega) hfn y)
   have h2:=g.small.kn x y
   show -11000<=XI m (Y7 x y)+XL o x y/\XI m (Y7 x y)+XL o x y<=11000
   omega
  have nbB:∀ b∈z0,nb b.X-nb b.Y<=b.C:=fun b O=>by
   have h:=hm.bk b O
   have hc:=hz.c b O
   have I:=g.small.kn x b.X
   have h2:=g.small.kn x b.Y
   have h3:=hm.fk (Y7 x b.Y) (Y7 x b.X) (HV hf (by omega) hfn b.Y) (HV hf (by omega) hfn b.X)
   have h4:=UG (Y7 x b.Y) (Y7 x b.X)
   show XI m (Y7 x b.X)+XL o x b.X-(XI m (Y7 x b.Y)+XL o x b.Y)<=b.C
   unfold cV at h
   unfold Yy at h
   split at h<;>omega
  -- each t: a field, or not
  have t:∀ y:Nat,y < o.length->(∃ k f c v,k < x.Zz.length/\y=first+k/\x.Zz[k]? = some f/\m[k]? = some c/\V[k]? = some v/\F[y]? = some f/\l0[y]? = some (Vb f c)/\W[y]? = some v/\Xa x (y:Int)=true/\nb (y:Int)=c/\f.Zv.Lo<=c/\c<=f.Zv.Hi) \/
    (∃ v,o[y]? = some v/\l0[y]? = some v/\W[y]? = some v/\Xa x (y:Int)=false/\nb (y:Int)=Yz v):=fun y hy=>by
   by_cases c1:first<=y/\y < first+x.Zz.length
   ·left
    obtain ⟨k,rfl⟩:∃ k,y=first+k:=⟨y-first,by omega⟩
    have A:k < x.Zz.length:=by omega
    obtain ⟨f,hfk⟩:∃ f,x.Zz[k]? = some f:=⟨x.Zz[k]'(by omega),by simp⟩
    obtain ⟨c,hck⟩:∃ c,m[k]? = some c:=⟨m[k]'(by omega),by simp⟩
    obtain ⟨v,hvk⟩:∃ v,V[k]? = some v:=⟨V[k]'(by omega),by simp⟩
    have ⟨a1,a2,a3⟩:=hm.va k f c hfk hck
    have ⟨B,G,U⟩:=Zag g A
    refine ⟨k,f,c,v,A,rfl,hfk,hck,hvk,(g.ff k A).trans hfk,(hlown k A).trans a1,(hWown k A).trans hvk,U,?_,a2,a3⟩
    show XI m (Y7 x ((first+k:Nat):Int))+XL o x ((first+k:Nat):Int)=c
    rw [B,G,ZeJ hck,Int.add_zero]
   ·right
    obtain ⟨v,z⟩:∃ v,o[y]? = some v:=⟨o[y]'(by omega),by simp⟩
    have ho:Xa x (y:Int)=false:=by
     cases ho:Xa x (y:Int) with
     | false=>rfl
     | true=>have:=(UL hf (by omega) hfn _).1 ho;omega
    have ⟨B,G,_⟩:=Zp8 g ho z
    refine ⟨v,z,(hlnot y c1).trans z,(hWnot y c1).trans z,ho,?_⟩
    show XI m (Y7 x (y:Int))+XL o x (y:Int)=Yz v
    rw [B,G,y0,Int.zero_add]
  have kindOf:∀ (y:Nat) (v:T12),o[y]? = some v->(v.Zt==0)=false->Xz F (y:Int)=true->v.Zt=2:=fun y v z hk0 ht=>by
   rcases g.fits y v z with h | ⟨f,I,h2⟩
   ·rw [(RK h).1] at hk0;cases hk0
   ·rw [(Vi (g.so f (Zb I)) h2).1]
    exact Ge ht I
  have ⟨T,s,s0,t1,t2,t3,t4⟩:=ZeB (N:=N) (by omega) (ok:=True) (l0:=l0) (W:=W) (nb:=fun y=>nb (y:Int)) (tx:=fun y=>Xz F (y:Int)=true) (by omega) x first hf (by omega) hfn (by omega) (by rw [hbl];exact g.hin)
   (fun e he a b ea eb _=>by
    have ⟨q1,q2⟩:=g.tv e he
    rw [ea] at q1
    rw [eb] at q2
    have ⟨a',b',v,w,e1,e2,ha,O,I,h2,h3⟩:=Q3 (k2' e he)
    have:a'=a:=by omega
    subst this
    have:b'=b:=by omega
    subst this
    have ⟨z1,z2⟩:=hz.eqs e he
    have r1:=nbB _ z1
    have r2:=nbB _ z2
    simp only [ea,eb] at r1 r2
    refine ⟨fun v' w' hv' hw'=>?_,by show nb (a':Int)=nb (b':Int);omega,q1,q2⟩
    rw [ha] at hv';cases hv'
    rw [O] at hw';cases hw'
    exact h3)
   (fun _ y v w ho hkd z hw=>by
    have E:y < o.length:=by have:=(List.getElem?_eq_some_iff.1 z).1;omega
    rcases t y E with ⟨k,f,c,v',_,_,_,_,_,_,_,_,ho',_⟩ | ⟨v',B,G,U,P,L⟩
    ·rw [ho] at ho';cases ho'
    ·rw [G] at z;cases z
     rw [U] at hw;cases hw
     refine ⟨rfl,fun ht=>?_⟩
     have hkd:(v.Zt==0)=false:=by simpa [bne] using hkd
     have h2:=kindOf y v B hkd ht
     show (v.S.size:Int)=nb (y:Int)
     rw [L]
     unfold Yz
     rw [h2];rfl)
  have hTl:T.length=o.length:=by rw [t2.ll];exact hbl
  -- what is in the end at each t
  have num:∀ (y:Nat) (v:T12),T[y]? = some v->Yz v=nb (y:Int):=fun y v z=>by
   have E:y < o.length:=by have:=(List.getElem?_eq_some_iff.1 z).1;omega
   obtain ⟨l,Z⟩:∃ l,l0[y]? = some l:=⟨l0[y]'(by omega),by simp⟩
   obtain ⟨w,hw⟩:∃ w,W[y]? = some w:=⟨W[y]'(by omega),by simp⟩
   have hnl:Yz l=nb (y:Int):=by
    rcases t y E with ⟨k,f,c,v',_,e,B,_,_,_,L,_,_,p8,p9,_⟩ | ⟨v',_,G,_,_,L⟩
    ·rw [L] at Z;cases Z
     rw [p8];exact (Gf (g.sx B) p9).1
    ·rw [G] at Z;cases Z
     exact L.symm
   have ⟨q1,q2⟩:=t2.kn y l v Z z
   obtain ⟨sy,H⟩:∃ b,s[y]? = some b:=⟨s[y]'(by have:=t2.ls;omega),by simp⟩
   cases sy with
   | false =>
    have:=t2.un y H
    rw [z,Z] at this
    cases this
    exact hnl
   | true =>
    by_cases hk2:v.Zt=2
    ·have htx:Xz F (y:Int)=true:=by
      unfold Xz
      rw [Yb]
      rcases t y E with ⟨k,f,c,v',_,e,B,_,_,P,L,_,_,_,p9,_⟩ | ⟨v',B,G,_,_,_⟩
      ·rw [L] at Z;cases Z
       rw [P]
       have:=(Gf (g.sx B) p9).2
       rw [<- q1,hk2] at this
       show (f.Zv.Zt==2)=true
       rw [<- this];rfl
      ·rw [G] at Z;cases Z
       rcases g.fits y l B with h | ⟨f,I,h2⟩
       ·have:=(RK h).1;omega
       ·rw [I]
        have:=(Vi (g.so f (Zb I)) h2).1
        show (f.Zv.Zt==2)=true
        rw [<- this,<- q1,hk2];rfl
     have:=(t2.st trivial y v w H z hw).2 htx
     unfold Yz
     rw [hk2]
     exact this
    ·rw [<- hnl]
     unfold Yz
     have e1:(v.Zt==2)=false:=by simpa using hk2
     have e2:(l.Zt==2)=false:=by rw [<- q1];exact e1
     rw [e1,e2]
     exact q2
  have unk:∀ y:Int,y < (o.length:Int)->Vc W y=false->Vc T y=false/\Xy T y=nb y:=fun y E hy=>by
   by_cases hn:y < 0
   ·have e1:Y7 x y=0:=by unfold Y7;rw [dT hn];rfl
    have e2:XL o x y=0:=by unfold XL;rw [dT hn];rfl
    refine ⟨by unfold Vc;rw [dT hn];rfl,?_⟩
    show _=XI m (Y7 x y)+XL o x y
    rw [e1,e2]
    unfold Xy;rw [dT hn];rfl
   ·obtain ⟨k,rfl⟩:=Ze (show 0<=y by omega)
    have A:k < o.length:=by omega
    obtain ⟨v,z⟩:∃ v,T[k]? = some v:=⟨T[k]'(by omega),by simp⟩
    obtain ⟨l,Z⟩:∃ l,l0[k]? = some l:=⟨l0[k]'(by omega),by simp⟩
    obtain ⟨w,hw⟩:∃ w,W[k]? = some w:=⟨W[k]'(by omega),by simp⟩
    rw [(UP z).1,(UP z).2]
    rw [(UP hw).1] at hy
    refine ⟨?_,num k v z⟩
    have q1:=(t2.kn k l v Z z).1
    rw [q1]
    rcases t k A with ⟨_,f,c,v',_,e,B,_,_,P,L,_,_,_,p9,_⟩ | ⟨v',B,G,U,_,_⟩
    ·rw [L] at Z;cases Z
     have I:=g.sx B
     rw [(Gf I p9).2]
     unfold Xn at I
     simp;omega
    ·rw [G] at Z;cases Z
     rw [U] at hw;cases hw
     exact hy
  have hkeepT:XT x.ZB T=true:=by
   unfold XT
   rw [Zc,XC,XC]
   refine ⟨fun i b O=>?_,fun i e he=>?_⟩
   ·have hbm:=Zb O
    have hd:=k1' b hbm
    unfold Vg at hd ⊢
    simp only [Zc,Bool.not_eq_true'] at hd ⊢
    have ⟨a1,a2,_⟩:=hd
    have hi:=g.hin.d b hbm
    have ⟨c1,c2⟩:=unk b.X hi.1 a1
    have ⟨c3,c4⟩:=unk b.Y hi.2 a2
    have I:=nbS b.X
    have h2:=nbS b.Y
    have h3:=nbB b (hz.dif b hbm)
    rw [c2,c4,YE (by omega) (by omega),decide_eq_false_iff_not]
    exact ⟨c1,c3,by omega⟩
   ·have hem:=Zb he
    have ⟨a,b,v,w,e1,e2,ha,O,I,h2,h3⟩:=Q3 (k2' e hem)
    have hi:=g.hin.e e hem
    obtain ⟨tva,htva⟩:∃ v,T[a]? = some v:=⟨T[a]'(by omega),by simp⟩
    obtain ⟨tvb,htvb⟩:∃ v,T[b]? = some v:=⟨T[b]'(by omega),by simp⟩
    have ua:=(unk (a:Int) (by omega) ((UP ha).1.trans I)).1
    have ub:=(unk (b:Int) (by omega) ((UP O).1.trans h2)).1
    rw [(UP htva).1] at ua
    rw [(UP htvb).1] at ub
    unfold VV
    rw [e1,e2,Yb,Yb,htva,htvb]
    simp only [ua,ub,Bool.not_false,Bool.true_and]
    have hss:=t3 e hem a b e1 e2
    suffices hS:tva.S=tvb.S by rw [hS];simp
    obtain ⟨sa,hsa⟩:∃ q,s[a]? = some q:=⟨s[a]'(by have:=t2.ls;omega),by simp⟩
    rw [hsa] at hss
    cases sa with
    | true =>
     rw [(t2.st trivial a tva v hsa htva ha).1,(t2.st trivial b tvb w hss.symm htvb O).1]
     exact h3
    | false =>
     have g1:=t2.un a hsa
     have g2:=t2.un b hss.symm
     have ⟨z1,z2⟩:=hz.eqs e hem
     have r1:=nbB _ z1
     have r2:=nbB _ z2
     simp only [e1,e2] at r1 r2
     have ⟨q1,q2⟩:=g.tv e hem
     rw [e1] at q1
     rw [e2] at q2
     have own:∀ (y:Nat) (v:T12),y < o.length->s[y]? = some false->W[y]? = some v->(v.Zt==0)=false->Xz F (y:Int)=true->l0[y]? = some ⟨2,0,VX (nb (y:Int))⟩:=fun y v E H hwy hk0 ht=>by
      rcases t y E with ⟨_,f,c,v',_,e,B,_,_,P,L,_,_,p8,p9,_⟩ | ⟨v',B,G,U,P,_⟩
      ·rw [L,p8]
       unfold Vb
       rw [Ge ht P];rfl
      ·rw [U] at hwy;cases hwy
       have:=t4 y v G
       rw [P] at this
       have hs:s0[y]? = some true:=by rw [this];simp only [bne,hk0];rfl
       have:=(t2.fx y hs).1
       rw [H] at this;cases this
     have o1:=own a v (by omega) hsa ha I q1
     have o2:=own b w (by omega) hss.symm O h2 q2
     rw [htva,o1] at g1
     rw [htvb,o2] at g2
     cases g1
     cases g2
     show VX (nb (a:Int))=VX (nb (b:Int))
     rw [show nb (a:Int)=nb (b:Int) by omega]
  have hfitT:XK x.Zz (VG first x.Zz.length T)=true:=by
   have hml:=ZdP (T:=T) (first:=first) (n:=x.Zz.length) (by omega)
   unfold XK
   rw [Zc,XC,decide_eq_true_eq]
   refine ⟨hml.symm,fun k v z=>?_⟩
   rw [Nat.zero_add]
   have A:k < x.Zz.length:=by have:=(List.getElem?_eq_some_iff.1 z).1;omega
   rw [B4 A] at z
   have E:first+k < o.length:=by omega
   have hnum:=num (first+k) v z
   rcases t (first+k) E with ⟨k',f,c,u,p0,e,B,G,U,P,L,p6,p7,p8,p9,p10⟩ | ⟨v',B,G,U,P,_⟩
   ·have:k'=k:=by omega
    subst this
    unfold Wk
    rw [B]
    show XW f.Zv v=true
    have D:=g.sx B
    have ⟨n1,n2⟩:=Gf D p9
    have ⟨q1,q2⟩:=t2.kn _ _ _ L z
    have huf:=RU M B U
    have hS:v.S=u.S\/v=Vb f c:=by
     obtain ⟨sy,H⟩:∃ b,s[first+k']? = some b:=⟨s[first+k']'(by have:=t2.ls;omega),by simp⟩
     cases sy with
     | false =>
      right
      have:=t2.un _ H
      rw [z,L] at this
      cases this;rfl
     | true=>exact .inl (t2.st trivial _ v u H z p6).1
    have hukd:=(Vi D huf).1
    have hvk:v.Zt=f.Zv.Zt:=q1.trans n2
    unfold XW at huf ⊢
    simp only [Zc,decide_eq_true_eq,beq_iff_eq] at huf ⊢
    refine ⟨hvk,by omega,by omega,?_⟩
    have h3:=huf.2.2.2
    unfold Xn at D
    rcases D with D | D
    ·rw [show (v.Zt==1)=true by rw [hvk,D.1];rfl]
     rw [show (u.Zt==1)=true by rw [hukd,D.1];rfl] at h3
     simp only [cT] at h3 ⊢
     rcases hS with h | h
     ·rw [h];exact h3
     ·rw [h]
      unfold Vb
      rw [D.1]
      show ((str []).toList==(str []).toList)=true
      simp
    ·rw [show (v.Zt==1)=false by rw [hvk,D.1];rfl]
     rw [show (u.Zt==1)=false by rw [hukd,D.1];rfl] at h3
     simp only [cond_false,Zc,Bool.not_eq_true',beq_iff_eq] at h3 ⊢
     refine ⟨?_,?_⟩
     ·rw [q2]
      unfold Vb
      rw [D.1];rfl
     ·rcases hS with h | h
      ·rw [h];exact h3.2
      ·rw [h]
       unfold Vb
       rw [D.1]
       exact ZrA c
   ·have:=(Zag g A).2.2
    rw [this] at P;cases P
  have hTs:∀ u∈T,u.S.size<=4194304:=t2.sz 4194304 (fun v z=>by
   have ⟨y,hy⟩:=List.mem_iff_getElem?.1 z
   have E:y < o.length:=by have:=(List.getElem?_eq_some_iff.1 hy).1;omega
   rcases t y E with ⟨k',f,c,u,p0,e,B,G,U,P,L,p6,p7,p8,p9,p10⟩ | ⟨v',B,G,U,P,_⟩
   ·rw [L] at hy;cases hy
    have D:=g.sx B
    unfold Xn at D
    have:=ZeD (f:=f) (c:=c) (by omega)
    omega
   ·rw [G] at hy;cases hy
    exact g.sz v (Zb B))
  refine ⟨VG first x.Zz.length T,?_,fun i hi hj=>?_,fun k u r hu hr=>?_⟩
  ·rw [e,Zdz hN g v0 hm.vl T (by rw [hl0];exact t1) hTl hTs,hkeepT,hfitT];rfl
  ·have uR:∀ k,k < x.Zz.length->W2 (VG first x.Zz.length T) (k+1)=XI m (k+1):=fun k A=>by
    obtain ⟨v,z⟩:∃ v,T[first+k]? = some v:=⟨T[first+k]'(by omega),by simp⟩
    show (match (VG first x.Zz.length T)[k]? with | some v=>Yz v | none=>0)=_
    rw [B4 A,z]
    show Yz v=_
    rw [num _ _ z]
    show XI m (Y7 x ((first+k:Nat):Int))+XL o x ((first+k:Nat):Int)=_
    have ⟨B,G,_⟩:=Zag g A
    rw [B,G,Int.add_zero]
   rw [uR i hi]
   exact hm.le (W2 V) uK uB u0 i hi (fun j hji=>by rw [hj j hji,uR j (by omega)])
  ·have A:k < x.Zz.length:=by rw [<- hV];exact (List.getElem?_eq_some_iff.1 hu).1
   rw [B4 A] at hr
   rcases t (first+k) (by omega) with ⟨k',f,c,u',p0,e',B,G,U,P,L,p6,p7,p8,p9,p10⟩ | ⟨v',B,G,U,P,_⟩
   ·have:k'=k:=by omega
    subst this
    rw [hu] at U
    cases U
    obtain ⟨sy,H⟩:∃ b,s[first+k']? = some b:=⟨s[first+k']'(by have:=t2.ls;omega),by simp⟩
    cases sy with
    | false =>
     right
     have:=t2.un _ H
     rw [hr,L] at this
     cases this
     exact ⟨f,B,by rw [(Gf (g.sx B) p9).1]⟩
    | true=>exact .inl (t2.st trivial _ r u H hr p6).1
   ·have:=(Zag g A).2.2
    rw [this] at P;cases P
end
section
variable {N:Nat}
theorem ZrC (c:Int):VX c=Ue c:=by
 have h:Te (str [97]).data.toList c.toNat=List.replicate c.toNat 97:=by
  rw [List.eq_replicate_iff]
  refine ⟨?_,ZjH c.toNat⟩
  rw [Zaq]
  show c.toNat * 1=c.toNat
  omega
 unfold VX Ue Xq
 rw [h]
theorem ZnV (A:900000000 < N) (d:List T0) (i:Int) {F:List T4} {x:T0} {first:Nat} {k:List T12} (g:Sg F x first k) (j:US N d i k=some true) (n:Z5 d i=some x) {R:List T12} (h:z25 N d i k=some (R,false)):R=[]:=by
 have hf:=g.hf
 have hle:=g.hle
 have hk:=g.hk
 have hfn:=g.hfn
 obtain ⟨z0,K,⟨e,_⟩ | ⟨m,v0,e,p⟩⟩:=Zdk A d i g j n
 ·rw [e] at h;cases h;rfl
 ·rw [e] at h
  have E:=p.vl
  have l:=Sk first v0 k (by omega)
  have ⟨T,s,L,D,t2,t3,t4⟩:=ZeB (N:=N) (by omega) (ok:=False) (l0:=YF first v0 k) (W:=k) (nb:=fun _=>0) (tx:=fun _=>False) l.symm x first hf (by omega) hfn (by omega) (by rw [l];exact g.hin) (fun e G a b H I h=>h.elim) (fun h=>h.elim)
  have t:T.length=k.length:=by rw [t2.ll];exact l
  have w:∀ u∈T,u.S.size<=4194304:=t2.sz 4194304 (fun v C=>by
   have ⟨y,q⟩:=List.mem_iff_getElem?.1 C
   rw [Vo first v0 k (by omega)] at q
   split at q
   ·rename_i c
    obtain ⟨f,o⟩:∃ f,x.Zz[y-first]? = some f:=⟨x.Zz[y-first]'(by omega),by simp⟩
    obtain ⟨c,r⟩:∃ c,m[y-first]? = some c:=⟨m[y-first]'(by have:=p.ml;omega),by simp⟩
    have ⟨a1,a2,a3⟩:=p.va _ f c o r
    rw [q] at a1
    cases a1
    have z:=g.sx o
    unfold Xn at z
    have:=ZeD (f:=f) (c:=c) (by omega)
    omega
   ·exact g.sz v (Zb q))
  rw [Zdz A g v0 p.vl T D t w] at h
  cases B:(XT x.ZB T && XK x.Zz (VG first x.Zz.length T)) with
  | false=>rw [B] at h;simp at h;exact h
  | true=>rw [B] at h;simp at h
theorem ZaG {V:List T12} {k:Nat} {v:T12} (h:V[k]? = some v):W2 V (k+1)=Yz v:=by
 show (match V[k]? with | some v=>Yz v | none=>0)=_;rw [h]
theorem Zob (B:900000000 < N) (d:List T0) (c:Int) {F:List T4} {x:T0} {first:Nat} {s:List T12} (g:Sg F x first s) (l:US N d c s=some true) (C:Tu N d c=some true) (D:z66 N d s=some true) (n:Z5 d c=some x) (E:∀ b∈x.ZB.Zw,-1<=b.X/\-1<=b.Y)
  (t:∃ o,z25 N d c s=some o):z25 N d c s=V5 N d c s:=by
 rcases ZjM (by omega) d c g C D n E with ⟨e,H⟩ | ⟨R,e,I,u⟩
 ·rw [e]
  obtain ⟨⟨R,ok⟩,G⟩:=t
  cases ok with
  | false=>rw [G,ZnV B d c g l n G]
  | true =>
   have ⟨r1,r2,_,_⟩:=Zh2 B d c g l n G
   exact absurd ⟨r1,r2⟩ (H R)
 ·have ⟨Q,O,h2,h3⟩:=ZnS B d c g l n I.fit I.keep
  have ⟨P,q2,q3,_⟩:=Zh2 B d c g l n O
  have hQ:OkV x first s Q:=⟨P,q2⟩
  have U:=u Q hQ
  have hRl:=I.len
  have A:∀ i,i < x.Zz.length->W2 R (i+1)=W2 Q (i+1):=fun i=>by
   induction i using Nat.strongRecOn with
   | _ i ih =>
    intro hi
    have hle:=h2 i hi (fun j Z=>ih j Z (by omega))
    have a:=Za (show i < Q.length by omega)
    have b:=Za (show i < R.length by omega)
    have:=(U i _ _ a b).1
    rw [ZaG a,ZaG b] at *
    omega
  have K:Q=R:=by
   refine List.ext_getElem? fun k=>?_
   by_cases W:k < x.Zz.length
   ·have a:=Za (show k < Q.length by omega)
    have b:=Za (show k < R.length by omega)
    generalize Q[k]=v at a
    generalize R[k]=r at b
    have L:=A k W
    rw [ZaG a,ZaG b] at L
    rw [a,b]
    have M:=Za W
    have q:=RU P M a
    rcases (U k v r a b).2 L.symm with h | ⟨w,T⟩
    ·rw [h]
    ·have ⟨kd,nn,p⟩:=v
     have w:kd=2:=w
     subst w
     have hn0:nn=0:=by
      unfold XW at q
      simp only [Zc] at q
      have:=q.2.2.2
      have e:((2:Int)==1)=false:=rfl
      rw [e] at this
      simp only [cond_false,Zc,beq_iff_eq] at this
      exact this.1
     subst hn0
     have hS:p=Ue (Yz r):=by
      rcases h3 k r ⟨2,0,p⟩ b a with h | ⟨f,z,h⟩
      ·have h:p=r.S:=h
       exact h.trans (congrArg T12.S T)
      ·have y:f.Zv.Zt=2:=by
        rw [M] at z
        cases z
        exact (Vi (g.sx M) q).1.symm
       unfold Vb at h
       rw [y] at h
       have h:(⟨2,0,p⟩:T12)=⟨2,0,VX (Yz ⟨2,0,p⟩)⟩:=h
       have V:p=VX (Yz ⟨2,0,p⟩):=congrArg T12.S h
       rw [V.trans (by rw [<- V]:VX (Yz ⟨2,0,p⟩)=VX (Yz ⟨2,0,p⟩)),ZrC,<- L]
     rw [T,hS]
   ·rw [List.getElem?_eq_none (by omega),List.getElem?_eq_none (by omega)]
  rw [O,e,K]
end
section
variable {N:Nat}
theorem ZnZ {fs:List T4} {vs:List T12} (c:∀ f∈fs,Xn f.Zv) (h:XK fs vs=true):∀ v∈vs,v.S.size<=1000:=fun v l=>by
 have ⟨i,hi⟩:=List.getElem?_of_mem l
 have p:=HF h
 have n:=(List.getElem?_eq_some_iff.1 hi).1
 have o:=Za (show i < fs.length by omega)
 have a:=RU h o hi
 have ⟨_,_,_,_,d,b⟩:=Vi (c _ (List.getElem_mem _)) a
 unfold XW at a
 simp only [Zc] at a
 have j:=a.2.2.2
 rcases b with b | b
 ·rw [b] at j
  have e:((1:Int)==1)=true:=rfl
  rw [e,cT] at j
  have k:=eq_of_beq j
  rw [W9,W9] at k
  rw [XH,k]
  show (bs (str [])).length<=1000
  decide
 ·unfold Yz at d
  rw [b] at d
  have e:((2:Int)==2)=true:=rfl
  simp at d
  omega
theorem ZnT (T:1000000000 < N) (d:List T0) (E:d.length<=1000) (u:∀ x∈d,XZ x) (I:∀ x∈d,TB x) (a:Int) (l:List T12) (hk:l.length<=4194304) (C:∀ v∈l,v.S.size<=4194304) :
  ∃ R ok,z25 N d a l=some (R,ok)/\V5 N d a l=some (R,ok)/\(ok=true->WJ d a R l=true)/\R.length<=4/\∀ v∈R,v.S.size<=1000:=by
 have s:4194304 < N:=by omega
 have j:=Zd8 s d E u I a l hk C
 have c:=ZhV s d E u I a
 cases r:XA d with
 | false =>
  have t:Vj d a l=false:=by unfold Vj;rw [r];simp
  rw [t] at j
  rw [r] at c
  refine ⟨[],false,?_,?_,fun h=>(by cases h),by simp,by simp⟩
  ·unfold z25;rw [j];rfl
  ·unfold V5;rw [c];rfl
 | true =>
 have n:=Zao s d E u r l hk C
 rw [r] at c
 cases B:decide (0<=a/\a < (d.length:Int)) with
 | false =>
  have t:Vj d a l=false:=by unfold Vj;rw [B];simp
  rw [t] at j
  rw [B] at c
  refine ⟨[],false,?_,?_,fun h=>(by cases h),by simp,by simp⟩
  ·unfold z25;rw [j];rfl
  ·unfold V5;rw [c];rfl
 | true =>
 rw [B] at c
 have c:Tu N d a=some true:=c
 cases q:Ud (Yh d) l with
 | false =>
  have t:Vj d a l=false:=by unfold Vj;rw [q];simp
  rw [t] at j
  rw [q] at n
  refine ⟨[],false,?_,?_,fun h=>(by cases h),by simp,by simp⟩
  ·unfold z25;rw [j];rfl
  ·unfold V5;rw [c,n];rfl
 | true =>
 have t:Vj d a l=true:=by unfold Vj;rw [q,B,r];rfl
 rw [t] at j
 rw [q] at n
 have y:=of_decide_eq_true B
 have ⟨x,w⟩:=Xx y.1 y.2
 obtain ⟨i,rfl,hi⟩:=UI w
 have p:=Zb hi
 have ⟨first,g⟩:=Zsa r hi (u x p) q C
 have hf:=g.hf
 have hfn:=g.hfn
 have P:x.ZA.toNat=first:=by omega
 have F:∀ V,WJ d (i:Int) V l=(XK x.Zz V && XT x.ZB (YF first V l)):=fun V=>by
  unfold WJ
  rw [t,w,<- P];rfl
 have ⟨o,M,O⟩:=ZnW (N:=N) (by omega) d (i:Int) l x first j w (u x p) hf hfn g.hle (by have:=g.hk;omega) g.hin (fun v r=>by have:=C v r;omega) (fun f hf K=>by
  have ⟨k,hk⟩:=List.mem_iff_getElem?.1 hf
  have:=g.sx hk
  unfold Xn at this
  omega)
 have G:YJ (Yh d) x.ZB=true:=by
  have ⟨_,_,_,_,_,K⟩:=Pv r hi
  exact HI K
 have z:∀ b∈x.ZB.Zw,-1<=b.X/\-1<=b.Y:=fun b L=>by
  have:=Zm7 G L
  unfold XD at this
  omega
 have A:=Zob (by omega) d (i:Int) g j c n w z ⟨o,M⟩
 have H:∀ f∈x.Zz,Xn f.Zv:=fun f hf=>Zav r p hf
 rcases ZjM s d (i:Int) g c n w z with ⟨e,_⟩ | ⟨R,e,D,_⟩
 ·exact ⟨[],false,A.trans e,e,fun h=>(by cases h),by simp,by simp⟩
 ·refine ⟨R,true,A.trans e,e,fun _=>?_,?_,ZnZ H D.fit⟩
  ·rw [F,D.fit,D.keep];rfl
  ·rw [D.len];exact hfn
end
section
variable {N:Nat} {g:T5} {m:T8}
theorem Zih {y:T9} {s:Int} {x:T3}:VE y s x=true↔y.ZC=s/\y.ZQ=x.ZQ/\y.ZR=x.ZR/\y.ZD=x.ZD:=by
 unfold VE
 simp only [Zc,beq_iff_eq]
theorem Zoj (f:MW m) {i k:Nat} {y z:T9} (d:m.ZU[i]? = some y) (c:m.ZU[k]? = some z) {s:Int} {x:T3} (a:VE y s x=true) (b:VE z s x=true):y=z:=by
 rw [Zih] at a b
 by_cases e:i=k
 ·subst e
  rw [d] at c
  exact Zl c
 ·have:=(f i k y z e d c (a.1.trans b.1.symm)).2
  exact absurd ⟨a.2.2.1.trans b.2.2.1.symm,a.2.2.2.trans b.2.2.2.symm⟩ this
structure Hw (g:T5) (m:T8) (s:Yt) (y:T3):Prop where
 r:y.ZS=m.ZS
 sz:V9 y
 h:∃ (i:Nat) (z:T9),m.ZU[i]? = some z/\VE z s.At y=true/\WJ g.ZJ y.ZD y.ZV s.ZW=true/\(z.ZE=true->y.ZV=s.ZX)
theorem Zex (c:ZcC N g m) (hN:1000000000 < N) {s:Yt} (f:StM g m s) (e:∀ v∈s.ZX,v.S.size<=4194304) (L:List Int) (hL:∀ a∈L,∃ (k:Nat) (x:T9),a=(k:Int)/\m.ZU[k]? = some x/\x.ZC=s.At):∀ (r:List Int) (n k:Nat) (b:List T3),L.drop k=r->r.length < n->k+r.length<=1000->b.length+r.length<=1000 ->
  ∃ v:List T3,v.length<=r.length/\(∀ y∈v,Hw g m s y)/\Sf N g m s L n b (k:Int)=some (b++v)/\Tv N g m s L n b (k:Int)=some (b++v)
 | [],n,k,b,h,hn,hk,w=>by
  obtain ⟨n,rfl⟩:=pS n (by simp at hn;omega)
  refine ⟨[],by simp,by simp,?_,?_⟩
  ·rw [Sf,Yp (Xr h)];simp [Zck]
  ·rw [Tv,Yp (Xr h)];simp [Zcr]
 | a::r,n,k,b,h,hn,hk,w=>by
  obtain ⟨n,rfl⟩:=pS n (by simp at hn;omega)
  have ⟨hi,D,E⟩:=Xp h
  simp only [Zg] at hn hk w
  have l:=c.c.hN
  obtain ⟨q,y,rfl,B,C⟩:=hL a (Zb D)
  have i:g.ZJ.length<=1000:=by have:=(Le c.c.a.v).1;omega
  have j:=Zev c.c f
  have o:=HL f.k
  have ⟨R,ok,K,M,O,Y,P⟩:=ZnT hN g.ZJ i c.c.gg.dd c.c.ss.d y.ZD s.ZW j o
  have t:D8 s.ZX s.ZW:=⟨e,o⟩
  have T:=ZcV l g.ZJ i c.c.gg.dd c.c.ss.d y.ZD s.ZX s.ZW f.p j t
  have U:=(Zig l g.ZJ i c.c.gg.dd c.c.ss.d y.ZD s.ZX s.ZW f.p j t).1
  have W:SR N s.ZX=some s.ZX:=by
   unfold SR
   rw [Y8 (by simp;have:=f.p;omega)];rfl
  rw [Sf,Tv,Yo hi,Yb,D,Ye (by omega)]
  simp only [cT,bS,Yb,B]
  rw [K,M,T,U,W]
  simp only [bS]
  unfold DY
  rw [Ye (by omega)]
  have u:∀ V,VE y s.At ⟨m.ZS,y.ZQ,y.ZR,y.ZD,V⟩=true:=fun V=>Zih.2 ⟨C,rfl,rfl,rfl⟩
  have G:∀ V:List T12,Hw g m s ⟨m.ZS,y.ZQ,y.ZR,y.ZD,V⟩->∃ v:List T3,v.length<=r.length+1/\(∀ y∈v,Hw g m s y)/\((YT b [(⟨m.ZS,y.ZQ,y.ZR,y.ZD,V⟩:T3)]).bind fun x=>Sf N g m s L n x ((k+1:Nat):Int))=some (b++v)/\((YT b [(⟨m.ZS,y.ZQ,y.ZR,y.ZD,V⟩:T3)]).bind fun x=>Tv N g m s L n x ((k+1:Nat):Int))=some (b++v):=fun V hV=>by
   have ⟨v,F,v2,v3,v4⟩:=Zex c hN f e L hL r n (k+1) (b++[⟨m.ZS,y.ZQ,y.ZR,y.ZD,V⟩]) E (by omega) (by omega) (by simp;omega)
   rw [Y8 (by simp;omega)]
   refine ⟨⟨m.ZS,y.ZQ,y.ZR,y.ZD,V⟩::v,by simp;exact F,fun z A=>?_,?_,?_⟩
   ·rcases List.mem_cons.1 A with rfl | A
    ·exact hV
    ·exact v2 z A
   ·rw [bS,v3];simp
   ·rw [bS,v4];simp
  have H:∃ v:List T3,v.length<=r.length+1/\(∀ y∈v,Hw g m s y)/\Sf N g m s L n b ((k+1:Nat):Int)=some (b++v)/\Tv N g m s L n b ((k+1:Nat):Int)=some (b++v):=by
   have ⟨v,F,v2,v3,v4⟩:=Zex c hN f e L hL r n (k+1) b E (by omega) (by omega) (by omega)
   exact ⟨v,by omega,v2,v3,v4⟩
  cases w:y.ZE with
  | true =>
   simp only [cT,Zh,cond_false]
   cases X:WJ g.ZJ y.ZD s.ZX s.ZW with
   | true=>exact G s.ZX ⟨rfl,⟨f.p,e⟩,q,y,B,u _,X,fun _=>rfl⟩
   | false=>exact H
  | false =>
   simp only [cond_false,Bool.not_false,cT]
   cases ok with
   | true=>exact G R ⟨rfl,⟨by show R.length<=_;omega,fun v I=>by have:=P v I;omega⟩,q,y,B,u _,O rfl,fun h=>by rw [w] at h;cases h⟩
   | false=>exact H
theorem Zl6 (c:V8 N g m) {s:Yt} (a:StM g m s) {x:T3} (b:V9 x):Qb N g m s x=some (Wt N g m s x):=by
 unfold Qb
 rw [Zh6 c a,(Zaz c a b).1];rfl
theorem ZsG (c:ZcC N g m) (w:Ve g) {s:Yt} (o:StM g m s) {y:T3} (h:Hw g m s y):∃ t,Qb N g m s y=some (t,0):=by
 have hN:=c.c.hN
 have ⟨_,p⟩:=Zef c.c w o h.sz
 rw [Zl6 c.c o h.sz]
 have ⟨i,z,u,k,f,A⟩:=h.h
 have D:=h.r
 have E:=Zd4 hN c.x.mv
 have e:∀ d,Z5 g.ZJ y.ZD=some d->S8 d.Zz y.ZV:=fun d b=>by
  unfold WJ at f
  rw [b,Zc,Zc] at f
  have ⟨j,_,B⟩:=UI b
  exact (ZnY c.c.a.v (Zb B) _).1 f.2.1
 generalize Wt N g m s y=q at p
 cases p with
 | role h=>exact absurd D h
 | move _ h=>rw [h i z u] at k;cases k
 | type _ _ _ b n=>exact absurd (e _ b) n
 | guard _ F G b _ h =>
  rcases h with h | ⟨_,C,l⟩
  ·rw [f] at h;cases h
  ·obtain rfl:=Zoj E F u G k
   exact absurd (A C) l
 | ok=>exact ⟨_,rfl⟩
theorem Zr2 (b:4194304 < N) (l:List T12) (c:l.length<=4194304):DU N l l=some true:=by
 unfold DU
 rw [show ((l.length:Int) != (l.length:Int))=false by simp,cond_false]
 have key:=RM (F:=Mg l l) (len:=l.length) (lo:=0) (e:=some true) (fun _=>True) (fun n k _ a=>by
  rw [Mg,Yo a,Yb,Za a,Ye (by omega)]
  simp only [cT,bS,beq_self_eq_true,Bool.and_self,Zh,cond_false]
  exact .inr ⟨trivial,trivial⟩) (fun n k a=>by
  rw [Mg,Yp a];rfl) _ N 0 (Zp _) rfl (by omega)
 rcases key with ⟨_,j,_,_,h⟩ | ⟨h,_⟩
 ·exact absurd trivial h
 ·exact h
theorem Zj5 (b:4194304 < N) (l:List T3) (f:l.length<=4194304) (c:∀ x∈l,V9 x):z8 N l l=some true:=by
 unfold z8
 rw [show ((l.length:Int) != (l.length:Int))=false by simp,cond_false]
 have key:=RM (F:=Mo N l l) (len:=l.length) (lo:=0) (e:=some true) (fun _=>True) (fun n k _ a=>by
  have d:DK N l[k] l[k]=some true:=by
   unfold DK
   simp only [beq_self_eq_true,cT]
   rw [Zr2 b _ (c _ (List.getElem_mem a)).l];rfl
  rw [Mo,Yo a,Yb,Za a,Ye (by omega)]
  simp only [cT,bS,d,Zh,cond_false]
  exact .inr ⟨trivial,trivial⟩) (fun n k a=>by
  rw [Mo,Yp a];rfl) _ N 0 (Zp _) rfl (by omega)
 rcases key with ⟨_,j,_,_,h⟩ | ⟨h,_⟩
 ·exact absurd trivial h
 ·exact h
theorem ZjW (c:V8 N g m) (f:Ve g):∀ (l:List T3) (s:Yt) (k:Nat),(∀ x∈l,V9 x)->StM g m s->(∀ v∈s.ZX,v.S.size<=4194304)->∀ v∈(Sv (Wt N g m) l s k).1.ZX,v.S.size<=4194304
 | [],s,k,_,_,hp=>hp
 | x::l,s,k,he,hS,hp=>by
  have e:=he x Zk
  have ⟨_,n,_⟩:=Zaz c hS e
  have ⟨_,i⟩:=Zef c f hS e
  rw [Sv]
  cases h:((Wt N g m s x).2 != 0) with
  | true=>exact hp
  | false =>
   have a:(Wt N g m s x).2=0:=by simpa using h
   refine ZjW c f l _ _ (fun y j=>he y (Zj _ j)) (n a) ?_
   generalize Wt N g m s x=q at i a
   cases i with
   | role _=>cases a
   | move _ _=>cases a
   | type _ _ _ _ _=>cases a
   | guard _ _ _ _ _ _=>cases a
   | ok =>
    intro v d
    cases b:x.ZQ with
    | true=>rw [b] at d;exact e.s v d
    | false=>rw [b] at d;cases d
theorem ZsH (I:1000000000 < N) (B:z4 N=some true) (w:VP g) (y:Uo g) (i:Ve g) (o:m.ZP.length<=4194304) (l:List T3) (K:l.length<=4194304) (C:∀ x∈l,V9 x) (D:∃ b,z5 N g m l=some b):Rk N g m l=some true:=by
 have d:4194304 < N:=by omega
 have ⟨b,eb⟩:=D
 unfold Rk
 rw [B,eb]
 simp only [bS,Zh,cond_false]
 cases b with
 | false=>rfl
 | true =>
 simp only [Zh,cond_false]
 have ⟨b,A,D⟩:=ZcK d g w y m o
 cases b with
 | false =>
  have ⟨_,_,_,P⟩:=ZrX d w y i o l A
  have ⟨b',H,R,_⟩:=Mw d g w y i m o
  rw [A] at H
  cases H
  have E:z7 N g m V7=some []:=by
   unfold z7 UB
   rw [A];rfl
  have G:z9 N g m V7=some []:=by
   unfold z9 Qz
   rw [R];rfl
  rw [P]
  simp only [bS]
  rw [E,G]
  simp only [bS]
  rw [Zj5 d [] (by simp) (by simp)]
  obtain ⟨M,rfl⟩:∃ z,N=z+1:=⟨N-1,by omega⟩
  rfl
 | true =>
  have c:V8 N g m:=⟨d,w,y,o,D rfl,A⟩
  have u:=ZmY c i
  have f:=(ZjX c l (Rm g m) 0 C (ZdT c)).1
  have p:=ZjW c i l (Rm g m) 0 C (ZdT c) (by simp [Rm])
  rw [Zru c i l K C]
  simp only [bS]
  generalize Sv (Wt N g m) l (Rm g m) 0=r at f p
  have ⟨s,j,e⟩:=r
  simp only [] at f p ⊢
  have ⟨L,S,T,hL,_⟩:=Zpp d o u.x.mv u.rb f.a0 f.a1
  have X:=hL.len
  have Y:=u.x.mv.n.n
  have ⟨v,v1,v2,v3,v4⟩:=Zex u I f p L (fun a B=>by have ⟨k,x,U,_,V,W⟩:=(hL.mem a).1 B;exact ⟨k,x,U,V,W⟩) L N 0 [] rfl (by omega) (by omega) (by simp;omega)
  rw [List.nil_append] at v3 v4
  have E:z7 N g m s=some v:=by
   unfold z7
   rw [Zh6 c f]
   simp only [bS,Zh,cond_false]
   rw [S,bS];exact v3
  have G:z9 N g m s=some v:=by
   unfold z9
   rw [ZjC c i f]
   simp only [bS,Zh,cond_false]
   rw [T,bS];exact v4
  rw [E,G]
  simp only [bS]
  rw [Zj5 d v (by omega) (fun x O=>(v2 x O).sz)]
  simp only [bS,Zh,cond_false]
  have key:=RM (F:=Pc N g m (s,j,e) v) (len:=v.length) (lo:=0) (e:=some true) (fun _=>True) (fun n k _ q=>by
   have ⟨t,o⟩:=ZsG u i f (v2 _ (List.getElem_mem q))
   have Z:((0:Int) != 0)=false:=rfl
   rw [Pc,Yo q,Yb,Za q,Ye (by omega)]
   simp only [cT,bS]
   show (((Qb N g m s v[k]).bind _)=_/\_)\/((Qb N g m s v[k]).bind _)=_/\_
   rw [o]
   simp only [bS,Z,cond_false]
   exact .inr ⟨trivial,trivial⟩) (fun n k q=>by
   rw [Pc,Yp q];rfl) _ N 0 (Zp _) rfl (by omega)
  rcases key with ⟨_,j,_,_,h⟩ | ⟨h,_⟩
  ·exact absurd trivial h
  ·exact h
end
end Gp
section
namespace Gx
open Go Go.Kx
def Zit (x:YV):Prop:=((Lit.int .i64 x.Zt).wf=true)/\((Lit.int .i64 x.Lo).wf=true)/\((Lit.int .i64 x.Hi).wf=true)
def ZdC (x:T4):Prop:=(x.Zu.size<=bd)/\(Zit x.Zv)
def ZdA (x:T1):Prop:=((Lit.int .i64 x.X).wf=true)/\((Lit.int .i64 x.Y).wf=true)/\((Lit.int .i64 x.C).wf=true)
def Zir (x:T6):Prop:=(x.Zw.length<=bd/\∀ y∈x.Zw,ZdA y)/\(x.Zy.length<=bd/\∀ y∈x.Zy,((Lit.int .i64 y.1).wf=true)/\((Lit.int .i64 y.2).wf=true))
def HK (x:T0):Prop:=(x.Zu.size<=bd)/\(x.Zz.length<=bd/\∀ y∈x.Zz,ZdC y)/\((Lit.int .i64 x.ZA).wf=true)/\(Zir x.ZB)
def Zis (x:T7):Prop:=((Lit.int .i64 x.ZC).wf=true)/\((Lit.int .i64 x.To).wf=true)/\((Lit.int .i64 x.ZD).wf=true)
def ZdB (x:T2):Prop:=((Lit.int .i64 x.ZC).wf=true)/\(Zis x.Act)/\((Lit.int .i64 x.To).wf=true)/\(True)
def BP (x:XB):Prop:=((Lit.int .i64 x.ZF).wf=true)/\((Lit.int .i64 x.ZG).wf=true)/\((Lit.int .i64 x.ZH).wf=true)
def Rj (x:T5):Prop:=(x.Zu.size<=bd)/\(x.ZI.length<=bd/\∀ y∈x.ZI,y.size<=bd)/\(x.ZJ.length<=bd/\∀ y∈x.ZJ,HK y)/\((Lit.int .i64 x.ZL).wf=true)/\((Lit.int .i64 x.ZM).wf=true)/\((Lit.int .i64 x.ZN).wf=true)/\(x.ZO.length<=bd/\∀ y∈x.ZO,ZdB y)/\(x.ZP.length<=bd/\∀ y∈x.ZP,BP y)
def ZdD (x:T9):Prop:=((Lit.int .i64 x.ZC).wf=true)/\(True)/\((Lit.int .i64 x.ZR).wf=true)/\((Lit.int .i64 x.ZD).wf=true)/\((Lit.int .i64 x.To).wf=true)/\(True)
def Pb (x:T8):Prop:=((Lit.int .i64 x.ZS).wf=true)/\((Lit.int .i64 x.ZL).wf=true)/\((Lit.int .i64 x.ZM).wf=true)/\(x.ZT.length<=bd/\∀ y∈x.ZT,True)/\(x.ZU.length<=bd/\∀ y∈x.ZU,ZdD y)/\(x.ZP.length<=bd/\∀ y∈x.ZP,BP y)
def ZdE (x:T12):Prop:=((Lit.int .i64 x.Zt).wf=true)/\((Lit.int .i64 x.N).wf=true)/\(x.S.size<=bd)
def RX (x:T3):Prop:=((Lit.int .i64 x.ZS).wf=true)/\(True)/\((Lit.int .i64 x.ZR).wf=true)/\((Lit.int .i64 x.ZD).wf=true)/\(x.ZV.length<=bd/\∀ y∈x.ZV,ZdE y)
end Gx
end
section
namespace Gp
open Go Go.Kx Gx
set_option maxRecDepth 100000
theorem Zml (k:Nat):z4 (k+300)=some true:=by kernel_rfl
theorem Zsd {x:T0} (h:HK x):XZ x:=by
 have ⟨_,b,_,a⟩:=h
 exact ⟨by have:=b.1;unfold bd at this;omega,by have:=a.1.1;unfold bd at this;omega,by have:=a.2.1;unfold bd at this;omega⟩
theorem Zp0 {x:T0} (h:HK x):TB x:=by
 have ⟨b,c,_,d⟩:=h
 exact ⟨by unfold bd at b;omega,fun f a=>by have:=(c.2 f a).1;unfold bd at this;omega⟩
theorem Zii {n:Int} (h:(Lit.int .i64 n).wf=true):Mu n:=by
 simp [Lit.wf,IntKind.min,IntKind.max,IntKind.signed,IntKind.bits] at h
 constructor<;>omega
theorem Zqb {x:T5} (h:Rj x):Ve x:=by
 have ⟨_,c,d,_,_,_,a,f⟩:=h
 intro e b
 have:=(a.2 e b).2.1
 exact ⟨Zii this.2.1,Zii this.2.2⟩
theorem Zka {g:T5} (h:Rj g):VP g:=by
 have ⟨f,c,a,_,_,_,d,e⟩:=h
 refine ⟨?_,?_,fun x b=>Zsd (a.2 x b),?_,?_⟩
 ·have:=c.1;unfold bd at this;omega
 ·have:=a.1;unfold bd at this;omega
 ·have:=d.1;unfold bd at this;omega
 ·have:=e.1;unfold bd at this;omega
theorem Zse {g:T5} (h:Rj g):Uo g:=by
 have ⟨c,d,e,_,_,_,f,i⟩:=h
 refine ⟨?_,fun s a=>?_,fun x b=>Zp0 (e.2 x b)⟩
 ·unfold bd at c;omega
 ·have:=d.2 s a;unfold bd at this;omega
theorem ZsP {m:T8} (h:Pb m):m.ZP.length<=4194304:=by
 have ⟨_,_,_,_,_,a⟩:=h
 have:=a.1;unfold bd at this;omega
theorem Zj9 {x:T3} (h:RX x):V9 x:=by
 have ⟨_,_,_,_,b,c⟩:=h
 exact ⟨by unfold bd at b;omega,fun v a=>by have:=(c v a).2.2;unfold bd at this;omega⟩
theorem plain:∀ (e:T5) (f:T8) (c:(List T3)),Rj e->Pb f->(c.length<=bd/\∀ y∈c,RX y)->∃ N,Rk N e f c=some true:=by
 intro g m l a h b
 exact ⟨33554432000+300,ZsH (by omega) (Zml _) (Zka a) (Zse a) (Zqb a) (ZsP h) l (by have:=b.1;unfold bd at this;omega) (fun x d=>Zj9 (b.2 x d)) (ZnQ (by omega) g (Zka a) m l (by have:=b.1;unfold bd at this;omega) (fun x d=>Zj9 (b.2 x d)))⟩
end Gp
end
