/- The plain law, part 3: what the functions compute answers as the statement says. -/
import Derived.Test.YtploppegiebboaaGreatDoorFlowFormPlain2
set_option linter.all false
open List renaming mem_singleton→aC,length_take→aL,length_map→aM,length_nil→aO,replicate→aP,mem_map→aQ,mem_append→aT,mem_iff_getElem?→aZ,getElem?_set→ae,getElem?_replicate→bG,length_singleton→bb,length_set→bh,pairwise_iff_getElem→bz,pairwise_append→fJ,mem_append_left→fK,pairwise_singleton→ff,mem_append_right→gA
open Nat renaming lt_or_ge→aw,sub_self→br,zero_le→dY
open Option renaming getD_some→bc
open Classical renaming byContradiction→bx
open Bool renaming not_false→cx
namespace Gp
open Go Go.Kx Gx
def eLt(x y:T2):Prop:=x.ZB<y.ZB\/(x.ZB=y.ZB/\Wv x.Act y.Act)
structure EdOk (l:List YR) (C:List Int) (O:List Nat) (x:T2):Prop where
 e:∃(i q k d j r:Nat) (s:YR),x.ZB=(i:Int)/\O[i]?=some q/\l[q]?=some s/\s.acts'[k]?=some x.Act/\s.to'[k]?=some (d:Int)/\x.To=(j:Int)/\O[j]?=some r/\C[d]?=C[r]? /\ x.Again=s.again'
structure TmOk (l:List YR) (O:List Nat) (E:List T2) (t:T8):Prop where
 e:∃(i q m:Nat) (s:YR) (x:T2),t.ZQ=(i:Int)/\O[i]?=some q/\l[q]?=some s/\t.ZC=s.ticks'/\0<s.ticks'/\t.ZR=(m:Int)/\E[m]?=some x/\x.ZB=(i:Int)/\x.Act=s.other'
def Tg(a b:T6):Bool:=(a.ZB==b.ZB) && ((a.To==b.To) && ((a.ZP==b.ZP) && true))
theorem GN(a b:T6):Tg a b=true↔a=b:=ZhC a b
structure NI (l:List YR) (C:List Int) (i k:Nat) (s:YR) (O:List Nat) (E:List T2) (T:List T8) (of:List (Int×Int)):Prop where
 o0:O[0]?=some 0
 ol:∀q∈O,q<l.length
 of1:∀c v,YT of c=some v->∃(j q:Nat),v=(j:Int)/\O[j]?=some q/\C[q]?=some c
 of2:∀(j q:Nat) c,O[j]?=some q->C[q]?=some c->YT of c=some (j:Int)
 ed:∀x∈E,EdOk l C O x/\x.ZB<=(i:Int)
 al:∀(i' q m:Nat) s' a,i'<i->O[i']?=some q->l[q]?=some s'->s'.acts'[m]?=some a->∃x∈E,x.ZB=(i':Int)/\x.Act=a
 ak:∀(m:Nat) a,m<k->s.acts'[m]?=some a->∃x∈E,x.ZB=(i:Int)/\x.Act=a
 cur:∀x∈E,x.ZB=(i:Int)->∃m:Nat,m<k/\s.acts'[m]?=some x.Act
 srt:E.Pairwise eLt
 rc:∀j:Nat,0<j->j<O.length->∃x∈E,x.To=(j:Int)/\x.ZB<(j:Int)
 rg:∀(m j:Nat) x,E[m]?=some x->0<j->(j:Int)<x.To->∃(m':Nat) (y:T2),m'<m/\E[m']?=some y/\y.To=(j:Int)
 tm:∀t∈T,TmOk l O E t/\t.ZQ<=(i:Int)
 tcur:∀t∈T,t.ZQ=(i:Int)->∃m:Nat,m<k/\s.acts'[m]?=some s.other'
 ts:T.Pairwise (fun a b=>a.ZQ<b.ZQ)
 ta:∀(i' q:Nat) s',i'<i->O[i']?=some q->l[q]?=some s'->0<s'.ticks'->∃t∈T,t.ZQ=(i':Int)
 tk:∀m:Nat,m<k->s.acts'[m]?=some s.other'->0<s.ticks'->∃t∈T,t.ZQ=(i:Int)
 el:E.length<=5001*i+k
 tl:T.length<=E.length
variable {C:List Int}{O O':List Nat}{x:T2}
theorem EdOk.mono{l:List YR}(h:EdOk l C O x)(a:∀(j:Nat) q,O[j]?=some q->O'[j]?=some q):EdOk l C O' x:=by have⟨i,q,k,d,j,r,s,b,c,f,g,m,n,o,p⟩:=h.e;exact⟨i,q,k,d,j,r,s,b,a i q c,f,g,m,n,a j r o,p⟩
variable {E:List T2}
theorem TmOk.mono{l:List YR}{t:T8}(h:TmOk l O E t)(b:∀(j:Nat) q,O[j]?=some q->O'[j]?=some q)(e:List T2):TmOk l O' (E++e) t:=by have⟨i,q,m,s,x,c,d,f,g,k,n,a,o⟩:=h.e;exact⟨i,q,m,s,x,c,b i q d,f,g,k,n,by rw[Zo (YC a)];exact a,o⟩
variable {T:List T8}{i j k:Nat}
theorem NI.dist{l:List YR}{s:YR}{d:List (Int×Int)}(h:NI l C i k s O E T d){a q b:Nat}(e:O[j]?=some q)(f:O[a]?=some b)(g:C[q]?=C[b]?)(m:q<C.length):j=a:=by have:=Za m;have n:=h.of2 j q _ e this;have c:=h.of2 a b _ f (g▸this);rw[n]at c;have:(j:Int)=(a:Int):=Zm c;omega
theorem NI.len{l:List YR}{n:Nat}{s:YR}{f:List (Int×Int)}(h:NI l C i k s O E T f)(c:UO l.length C n):O.length<=n:=by
 have:(O.map fun q=>(C[q]?).getD 0).length<=n:=by
  refine QS n _ ?_ fun x g=>?_
  ·rw[List.nodup_iff_pairwise_ne,List.pairwise_map,bz];intro a b m o p e;have a1:=Za m;have d:=Za o;have a2:=h.ol _ (Zb a1);have r:=h.ol _ (Zb d);have a3:=Za (show O[a]<C.length by rw[c.len];exact a2);have t:=Za (show O[b]<C.length by rw[c.len];exact r);have:C[O[a]]?=C[O[b]]?:= by rw[a3,t]at e ⊢;simp only[bc]at e;rw[e]
   have:=h.dist a1 d this (by rw[c.len];exact a2);omega
  ·obtain⟨q,j,rfl⟩:=aQ.1 g;have a3:=Za (show q<C.length by rw[c.len];exact h.ol q j);rw[a3];exact c.rng _ (Zb a3)
 rwa [aM]at this
variable {a:T6}
theorem NI.add{l:List YR}{s:YR}{of:List (Int×Int)}(h:NI l C i k s O E T of)
  {M:Nat} (U:O[i]?=some M) (hs:l[M]?=some s) (I:s.acts'[k]?=some a) {d:Nat} (hd:s.to'[k]?=some (d:Int)) (N:s.acts'.Pairwise Wv)
 {of':List (Int×Int)} {r:Nat} (K:∀(j:Nat) q,O[j]?=some q->O'[j]?=some q) (V:∀q∈O',q<l.length) (hj:O'[j]?=some r) (hr:C[d]?=C[r]?)
  (h1:∀c v,YT of' c=some v->∃(j q:Nat),v=(j:Int)/\O'[j]?=some q/\C[q]?=some c) (h2:∀(j q:Nat) c,O'[j]?=some q->C[q]?=some c->YT of' c=some (j:Int))
  (W:O'.length=O.length\/(j=O.length/\O'.length=O.length+1)) :
  NI l C i (k+1) s O' (E++[⟨(i:Int),a,(j:Int),s.again'⟩]) (bif decide (s.ticks'>0) && Tg a s.other' then T++[⟨(i:Int),s.ticks',(E.length:Int)⟩] else T) of':=by
 have hil:=YC U;have hol':O.length<=O'.length:=by rcases W with e|⟨_,e⟩<;>omega
 have hjO:j<O'.length:=YC hj;have H:(E++[⟨(i:Int),a,(j:Int),s.again'⟩])[E.length]?=some (⟨(i:Int),a,(j:Int),s.again'⟩:T2):=by rw[Zp (Zq _),br];rfl
 have B:∀ {x:T2},x∈E->x∈E++[⟨(i:Int),a,(j:Int),s.again'⟩]:=fun f=>fK _ f;have R:∀w:Nat,0<w->w<O.length->∃(m':Nat) (y:T2),m'<E.length/\E[m']?=some y/\y.To=(w:Int):=fun w u o=>by have⟨x,f,e,_⟩:=h.rc w u o;have⟨m,p⟩:=aZ.1 f;exact⟨m,x,YC p,p,e⟩
 refine⟨K 0 0 h.o0,V,h1,h2,fun x f=>?_,fun G q m s' b u o F X=>?_,fun m b u o=>?_,fun x f e=>?_,?_,fun w u o=>?_,fun m w x u o F=>?_,fun t n=>?_,fun t n e=>?_,?_,fun G q s' u o F X=>?_,fun m u o F=>?_,?_,?_⟩
 ·rcases aT.1 f with f|f
  ·exact⟨(h.ed x f).1.mono K,(h.ed x f).2⟩
  ·rw[aC.1 f];exact⟨⟨i,M,k,d,j,r,s,rfl,K i M U,hs,I,hd,rfl,hj,hr,rfl⟩,Int.le_refl _⟩
 ·have L:O[G]?=some q:=by have:=Za (show G<O.length by omega);rw[this,<-o,K G _ this]
  have⟨x,f,e⟩:=h.al G q m s' b u L F X;exact⟨x,B f,e⟩
 ·rcases aw m k with p|p
  ·have⟨x,f,e⟩:=h.ak m b p o;exact⟨x,B f,e⟩
  ·obtain rfl:m=k:=by omega
   rw[I]at o;cases o;exact⟨_,gA _ (aC.2 rfl),rfl,rfl⟩
 ·rcases aT.1 f with f|f
  ·have⟨m,p,g⟩:=h.cur x f e;exact⟨m,by omega,g⟩
  ·rw[aC.1 f];exact⟨k,by omega,I⟩
 ·rw[fJ];refine⟨h.srt,ff _ _,fun x f y Y=>?_⟩;rw[aC.1 Y];rcases Int.lt_or_le x.ZB (i:Int) with A|P
  ·exact .inl A
  ·have e:x.ZB=(i:Int):=by have:=(h.ed x f).2;omega
   have⟨m,p,g⟩:=h.cur x f e;exact .inr ⟨e,RZ N p g I⟩
 ·rcases aw w O.length with A|P
  ·have⟨x,f,e⟩:=h.rc w u A;exact⟨x,B f,e⟩
  ·have hjj:j=w:=by rcases W with e|⟨e1,e2⟩<;>omega
   subst hjj;exact⟨_,gA _ (aC.2 rfl),rfl,by show (i:Int)<(j:Int);omega⟩
 ·rcases aw m E.length with p|p
  ·rw[Zo p]at u;have⟨m',y,S,Z,g3⟩:=h.rg m w x u o F;exact⟨m',y,S,by rw[Zo (by omega)];exact Z,g3⟩
  ·have hml:=YC u;rw[lA,bb]at hml;obtain rfl:m=E.length:=by omega
   rw[H]at u;cases u;have F:(w:Int)<(j:Int):=F;have⟨m',y,S,Z,g3⟩:=R w o (by rcases W with e|⟨e1,e2⟩<;>omega);exact⟨m',y,S,by rw[Zo S];exact Z,g3⟩
 ·have D:∀t∈T,TmOk l O' (E++[⟨(i:Int),a,(j:Int),s.again'⟩]) t/\t.ZQ<=(i:Int):=fun t n=>⟨(h.tm t n).1.mono K _,(h.tm t n).2⟩
  cases z:decide (s.ticks'>0) && Tg a s.other' with
  |false=>rw[z]at n;exact D t n
  |true=>
   rw[z]at n;rcases aT.1 n with n|n
   ·exact D t n
   ·rw[aC.1 n];rw[Zc,lU,GN]at z;exact⟨⟨i,M,E.length,s,_,rfl,K i M U,hs,rfl,z.1,rfl,H,rfl,z.2⟩,Int.le_refl _⟩
 ·have D:t∈T->∃m:Nat,m<k+1/\s.acts'[m]?=some s.other':=fun n=>by have⟨m,p,g⟩:=h.tcur t n e;exact⟨m,by omega,g⟩
  cases z:decide (s.ticks'>0) && Tg a s.other' with
  |false=>rw[z]at n;exact D n
  |true=>
   rw[z]at n;rcases aT.1 n with n|n
   ·exact D n
   ·rw[Zc,lU,GN]at z;exact⟨k,by omega,by rw[<-z.2];exact I⟩
 ·cases z:decide (s.ticks'>0) && Tg a s.other' with
  |false=>exact h.ts
  |true=>
   rw[Zc,lU,GN]at z;rw[cT,fJ];refine⟨h.ts,ff _ _,fun x f y Y=>?_⟩;rw[aC.1 Y];show x.ZQ<(i:Int);rcases Int.lt_or_le x.ZQ (i:Int) with A|P
   ·exact A
   ·exfalso;have e:x.ZQ=(i:Int):=by have:=(h.tm x f).2;omega
    have⟨m,p,g⟩:=h.tcur x f e;rw[<-z.2]at g;exact SG (RZ N p g I)
 ·have L:O[G]?=some q:=by have:=Za (show G<O.length by omega);rw[this,<-o,K G _ this]
  have⟨t,n,e⟩:=h.ta G q s' u L F X;refine⟨t,?_,e⟩;cases decide (s.ticks'>0) && Tg a s.other' with
  |false=>exact n
  |true=>exact fK _ n
 ·rcases aw m k with p|p
  ·have⟨t,n,e⟩:=h.tk m p o F;refine⟨t,?_,e⟩;cases decide (s.ticks'>0) && Tg a s.other' with
   |false=>exact n
   |true=>exact fK _ n
  ·obtain rfl:m=k:=by omega
   rw[I]at o;have o:a=s.other':=Zm o;rw[show (decide (s.ticks'>0) && Tg a s.other')=true by rw[Zc,lU,GN];exact⟨F,o⟩];exact⟨_,gA _ (aC.2 rfl),rfl⟩
 ·rw[lA,bb];have:=h.el;omega
 ·have:=h.tl;rw[lA,bb];cases decide (s.ticks'>0) && Tg a s.other' with
  |false=>rw[cF];omega
  |true=>rw[cT,lA,bb];omega
variable {p:Ym}
theorem NI.next{l:List YR}(hF:Rp p l){s:YR}{w:List (Int×Int)}(h:NI l C i s.acts'.length s O E T w)
  {y:Nat} (z:O[i]?=some y) (o:l[y]?=some s) (s':YR):NI l C (i+1) 0 s' O E T w:=by
 have j:=Zb o;refine⟨h.o0,h.ol,h.of1,h.of2,fun x k=>⟨(h.ed x k).1,by have:=(h.ed x k).2;omega⟩,fun a q m r b u c d f=>?_,fun m b u=>by omega,fun x k e=>?_,h.srt,h.rc,h.rg,fun t n=>⟨(h.tm t n).1,by have:=(h.tm t n).2;omega⟩,fun t n e=>?_,h.ts,fun a q r u c d f=>?_,fun m u=>by omega,?_,h.tl⟩
 ·rcases aw a i with g|v
  ·exact h.al a q m r b g c d f
  ·obtain rfl:a=i:=by omega
   rw[z]at c;cases c;rw[o]at d;cases d;exact h.ak m b (YC f) f
 ·exfalso;have:=(h.ed x k).2;omega
 ·exfalso;have:=(h.tm t n).2;omega
 ·rcases aw a i with g|v
  ·exact h.ta a q r g c d f
  ·obtain rfl:a=i:=by omega
   rw[z]at c;cases c;rw[o]at d;cases d;have⟨m,A⟩:=aZ.1 (hF.to s j f).1;exact h.tk m (YC A) A f
 ·have:=h.el;have B:=hF.al s j;omega
theorem Zsq{N:Nat}{l:List YR}(hF:Rp p l){n:Nat}(V:UO l.length C n)(hi:i<=1000){s:YR}{W:Nat}(X:l[W]?=some s)(ag:Int->Int->List T2->List T8->List (Int×Int)->List Int->Option T4)(en:Int) :
  ∀(r:List T6) (m k:Nat) (O:List Nat) (E:List T2) (T:List T8) (g:List (Int×Int)),s.acts'.drop k=r->k<=s.acts'.length->r.length<m->O[i]?=some W->NI l C i k s O E T g ->
   ∃(O':List Nat) (L:List T2) (H:List T8) (of':List (Int×Int)),VD C (i:Int) ag s en m E T g (O.map fun q:Nat=>(q:Int)) (k:Int)=Bn (i:Int) ag en L H of' (O'.map fun q:Nat=>(q:Int))/\(∀(j:Nat) q,O[j]?=some q->O'[j]?=some q)/\NI l C i s.acts'.length s O' L H of':=by
 have x:=Zb X;have hn:=hF.n;have hnl:=Zeu V;have hal:=hF.al s x;have htl:=hF.tl s x;intro r;induction r with
 |nil=>
  intro m k O E T g h hk P R o;obtain⟨m,rfl⟩:∃y,m=y+1:=⟨m-1,by simp at P;omega⟩
  have hk2:=XP h;obtain rfl:k=s.acts'.length:=by omega
  exact⟨O,E,T,g,by simp only[VD,YZ hk2,cF],fun _ _ h=>h,o⟩
 |cons a r ih=>
  intro m k O E T g h hk P R o;obtain⟨m,rfl⟩:∃y,m=y+1:=⟨m-1,by simp at P;omega⟩
  have⟨h1,U,h3⟩:=XW h;have u:=Za (show k<s.to'.length by omega);have⟨d,ed,hd⟩:=hF.ti s x _ (Zb u);rw[ed]at u;obtain⟨b,w⟩:∃b,C[d]?=some b:=⟨_,Za (show d<C.length by rw[V.len];exact hd)⟩
  have hOl:=o.len V;have hEl:=o.el;have hTl:=o.tl
  -- how it goes on behind the discovery
  have k7:∀(O':List Nat) (of':List (Int×Int)) (j:Nat),YT of' b=some (j:Int)->(∀(H:List T8),H=(bif decide (s.ticks'>0) && Tg a s.other' then T++[⟨(i:Int),s.ticks',(E.length:Int)⟩] else T) ->
    H6 (i:Int) s E T (k:Int) (VD C (i:Int) ag s en m) a b of' (O'.map fun q:Nat=>(q:Int))=VD C (i:Int) ag s en m (E++[⟨(i:Int),a,(j:Int),s.again'⟩]) H of' (O'.map fun q:Nat=>(q:Int)) ((k+1:Nat):Int)):=by
   intro O' of' j hm' H f;have k5:∀T2:List T8,H5 (i:Int) s E (k:Int) (VD C (i:Int) ag s en m) a b of' (O'.map fun q:Nat=>(q:Int)) T2=VD C (i:Int) ag s en m (E++[⟨(i:Int),a,(j:Int),s.again'⟩]) T2 of' (O'.map fun q:Nat=>(q:Int)) ((k+1:Nat):Int):=by intro T2;unfold H5;rw[hm',bc,bS,X6 (by simp;omega),bS,Xa (by omega)]
   have hac:((a.ZB==s.other'.ZB) && ((a.To==s.other'.To) && ((a.ZP==s.other'.ZP) && true)))=Tg a s.other':=rfl;unfold H6 Bo;rw[hac];cases ht:decide (s.ticks'>0) with
   |false=>
    rw[ht,Bool.false_and,cF]at f;rw[cF,cF,k5,f]
   |true=>
    rw[ht,Bool.true_and]at f;rw[cT];cases ha:Tg a s.other' with
    |false=>rw[ha,cF]at f;rw[cF,k5,f]
    |true=>rw[ha,cT]at f;rw[cT,X6 (by simp;omega),bS,k5,f]
  cases F:YT g b with
  |some v=>
   obtain⟨j,r0,rfl,g1,g2⟩:=o.of1 _ _ F;have z:=o.add R X U u (hF.srt s x) (O':=O) (of':=g) (fun _ _ h=>h) o.ol g1 (by rw[w,g2]) o.of1 o.of2 (.inl rfl);have⟨O',L,H,of',e,e1,e2⟩:=ih m (k+1) O _ _ g h3 (by omega) (by simp at P;omega) R z;refine⟨O',L,H,of',?_,e1,e2⟩;simp only[VD,YY h1,cT,YL,U,u,w,bS,F,Option.isSome_some,Zg,cF];rw[k7 O g j F _ rfl];exact e
  |none=>
   have A:(O++[d])[O.length]?=some d:=by rw[Zp (Zq _),br];rfl
   have t:∀(j:Nat) q,O[j]?=some q->(O++[d])[j]?=some q:=fun j q h=>by rw[Zo (YC h)];exact h
   have B:∀c,YT (Xd g b (O.length:Int)) c=bif kT.eq b c then some (O.length:Int) else YT g c:=fun c=>QR g b c _;have D:YT (Xd g b (O.length:Int)) b=some (O.length:Int):=by rw[B,(kT.eq_iff b b).2 rfl];rfl
   have z:=o.add R X U u (hF.srt s x) (O':=O++[d]) (of':=Xd g b (O.length:Int)) (j:=O.length) (r:=d) t (fun q Y=>by
    rcases aT.1 Y with h|h
    ·exact o.ol q h
    ·rw[aC.1 h];exact hd) A rfl (fun c v M=>by
    rw[B]at M;cases G:kT.eq b c with
    |true=>
     rw[G]at M;cases M;exact⟨O.length,d,rfl,A,by rw[w,(kT.eq_iff _ _).1 G]⟩
    |false=>
     rw[G,cF]at M;have⟨j,q,g1,g2,g3⟩:=o.of1 c v M;exact⟨j,q,g1,t j q g2,g3⟩) (fun j q c I Z=>by
    rcases aw j O.length with hlt|hge
    ·rw[Zo hlt]at I;have h5:=o.of2 j q c I Z;rw[B];cases G:kT.eq b c with
     |true=>rw[<-(kT.eq_iff _ _).1 G,F]at h5;cases h5
     |false=>exact h5
    ·have hjl:=YC I;rw[lA,bb]at hjl;obtain rfl:j=O.length:=by omega
     rw[A]at I;cases I;rw[w]at Z;cases Z;exact D) (.inr ⟨rfl,by simp⟩)
   have⟨O',L,H,of',e,e1,e2⟩:=ih m (k+1) (O++[d]) _ _ _ h3 (by omega) (by simp at P;omega) (t i W R) z;refine⟨O',L,H,of',?_,fun j q I=>e1 j q (t j q I),e2⟩;have K:((O.map fun q:Nat=>(q:Int)).length:Int)=(O.length:Int):=by rw[aM]
   have S:Y7 (O.map fun q:Nat=>(q:Int)) [(d:Int)]=some ((O++[d]).map fun q:Nat=>(q:Int)):=by rw[X6 (by simp;omega),List.map_append];rfl
   simp only[VD,YY h1,cT,YL,U,u,w,bS,F,Option.isSome_none,cx,cT,S,K];rw[k7 (O++[d]) _ O.length D _ rfl];exact e
structure Zab (l:List YR) (C:List Int) (O:List Nat) (g:T4):Prop where
 st:g.ZT=(O.length:Int)
 o0:O[0]?=some 0
 ol:∀q∈O,q<l.length
 cd:∀(j j' q q':Nat),O[j]?=some q->O[j']?=some q'->C[q]?=C[q']? -> j=j'
 on:O.length<=1000
 ed:∀x∈g.ZW,EdOk l C O x
 al:∀(i q m:Nat) s a,O[i]?=some q->l[q]?=some s->s.acts'[m]?=some a->∃x∈g.ZW,x.ZB=(i:Int)/\x.Act=a
 srt:g.ZW.Pairwise eLt
 rc:∀j:Nat,0<j->j<O.length->∃x∈g.ZW,x.To=(j:Int)/\x.ZB<(j:Int)
 rg:∀(m j:Nat) x,g.ZW[m]?=some x->0<j->(j:Int)<x.To->∃(m':Nat) (y:T2),m'<m/\g.ZW[m']?=some y/\y.To=(j:Int)
 tm:∀t∈g.ZX,TmOk l O g.ZW t
 ts:g.ZX.Pairwise (fun a b=>a.ZQ<b.ZQ)
 ta:∀(i q:Nat) s,O[i]?=some q->l[q]?=some s->0<s.ticks'->∃t∈g.ZX,t.ZQ=(i:Int)
 en:∀(i q:Nat) s,O[i]?=some q->l[q]?=some s->s.end'=true->g.ZV=(i:Int)
variable {N:Nat}
theorem Zsr(hN:4194304<N)(hp:Pt p){l:List YR}(hF:Rp p l){g:T4}(Y:g.ZT=0)(Z:g.ZW=[])(hg2:g.ZX=[]) :
  ∃C n O z,Bm N g l=some z/\UO l.length C n/\Zah l C/\Ps l C/\Ll l C/\Zab l C O z/\z.Zu=g.Zu/\z.ZE=g.ZE/\z.ZS=g.ZS/\z.ZU=g.ZU/\z.ZW.length<=5001000:=by
 have⟨C,n,e,F,hS,hR,hB⟩:=Zov hN hp hF;have hn:=hF.n;have hnl:=Zeu F;obtain⟨G,H⟩:∃G,C[0]?=some G:=⟨_,Za (show 0<C.length by rw[F.len];exact hn.1)⟩
 unfold Bm;rw[e,bS,ZjO,H,bS,Y,Z,hg2]
 -- two z20 that are ends are in one class
 have R:∀(q K:Nat) s s',l[q]?=some s->l[K]?=some s'->s.end'=true->s'.end'=true->C[q]?=C[K]?:= fun q K s s' U V h3 h4=>by refine hR q K s s' U V ?_;have⟨a1,a2,a3,a4⟩:=hF.en s (Zb U) h3;have⟨b1,b2,b3,b4⟩:=hF.en s' (Zb V) h4;unfold WA Tl;rw[a1,a2,a3,a4,b1,b2,b3,b4,h3,h4];simp[Vh]
 have key:∀(m i:Nat) (en:Int) (O:List Nat) (E:List T2) (T:List T8) (y:List (Int×Int)) (s:YR),1001-i<m->i<=O.length->NI l C i 0 s O E T y ->
   (∀(k q:Nat) s',k<i->O[k]?=some q->l[q]?=some s'->s'.end'=true->en=(k:Int)) ->
   ∃O' z,VC N g l C m (i:Int) en E T y (O.map fun q:Nat=>(q:Int))=some z/\Zab l C O' z/\z.Zu=g.Zu/\z.ZE=g.ZE/\z.ZS=g.ZS/\z.ZU=g.ZU/\z.ZW.length<=5001000:=by
  intro m;induction m with
  |zero=>intro i en O E T y s h;omega
  |succ m ih=>
   intro i en O E T y s hm hi d P;have hOl:=d.len F;have w:((O.map fun q:Nat=>(q:Int)).length)=O.length:=aM ..;rcases aw i O.length with M|hge
   ·have A:=Za M;have hql:=d.ol _ (Zb A);have I:=Za hql;have hIs:NI l C i 0 l[O[i]] O E T y:=⟨d.o0,d.ol,d.of1,d.of2,d.ed,d.al,fun m b f=>by omega,fun x B e=>by
     have⟨m,hm,_⟩:=d.cur x B e;omega,d.srt,d.rc,d.rg,d.tm,fun t D e=>by have⟨m,hm,_⟩:=d.tcur t D e;omega,d.ts,d.ta,fun m f=>by omega,d.el,d.tl⟩
    have gO:(O.map fun q:Nat=>(q:Int))[i]?=some ((O[i]:Nat):Int):=by rw[List.getElem?_map,A];rfl
    have go:∀r,(∀(k q:Nat) s',k<i->O[k]?=some q->l[q]?=some s'->s'.end'=true->r=(k:Int))->(l[O[i]].end'=true->r=(i:Int))->∃O' z,H7 N C (i:Int) E T y (O.map fun q:Nat=>(q:Int)) (VC N g l C m) l[O[i]] r=some z/\Zab l C O' z/\z.Zu=g.Zu/\z.ZE=g.ZE/\z.ZS=g.ZS/\z.ZU=g.ZU/\z.ZW.length<=5001000:=by
     intro r U V;obtain⟨O',E',T',of',e,X,e2⟩:=Zsq (N:=N) hF F (by omega) I (VC N g l C m) r _ N 0 O E T y rfl (by omega) (by have:=hF.al _ (Zb I);rw[List.drop_zero];omega) A hIs;have e:VD C (i:Int) (VC N g l C m) l[O[i]] r N E T y (O.map fun q:Nat=>(q:Int)) (0:Int)=_:=e;unfold H7;rw[e];unfold Bn;rw[Xa (by omega)];refine ih (i+1) r O' E' T' of' l[O[i]] (by omega) (by have:=YC (X i _ A);omega) (e2.next hF (X i _ A) I _) fun k q s' f o u W=>?_;rcases aw k i with hh|hh
     ·-- the places ahead y i are as they were: each is in one class
      have S:=Za (show k<O.length by omega);rw[X k _ S]at o;exact U k q s' hh (S.trans o) u W
     ·obtain rfl:k=i:=by omega
      rw[X k _ A]at o;cases o;rw[I]at u;cases u;exact V W
    simp only[VC,w,YY M,cT,YL,gO,I,bS];cases he:l[O[i]].end' with
    |true=>
     rw[cT];refine go (i:Int) (fun k q s' f o u W=>?_) (fun _=>rfl);exfalso;have:=R q O[i] s' _ u I W he;have:=d.dist o A this (by rw[F.len];exact YC u);omega
    |false=>
     rw[cF];exact go en P (fun h=>by rw[he]at h;cases h)
   ·obtain rfl:i=O.length:=by omega
    simp only[VC,w,YZ hge,cF,ZcY];refine⟨O,_,rfl,⟨rfl,d.o0,d.ol,fun j j' q K f o u=>d.dist f o u (by rw[F.len];exact d.ol q (Zb f)),by omega,fun x B=>(d.ed x B).1,fun i q m s a f o u=>d.al i q m s a (YC f) f o u,d.srt,d.rc,d.rg,fun t D=>(d.tm t D).1,d.ts,fun i q s f o u=>d.ta i q s (YC f) f o u,fun i q s f o u=>P i q s (YC f) f o u⟩,rfl,rfl,rfl,rfl,?_⟩;have:=d.el;dsimp only;omega
 have hI0:NI l C 0 0 (l[0]'hn.1) [0] [] [] (Xd [] G (0:Int)):=by
  refine⟨rfl,fun q A=>by rw[aC.1 A];exact hn.1,fun c v L=>?_,fun j q c hj hc=>?_,fun x B=>(by cases B),fun k q m s' a f=>by omega,fun m a f=>by omega,fun x B=>(by cases B),.nil,fun j f o=>by simp at o;omega,fun m j x f=>by simp at f,fun t D=>(by cases D),fun t D=>(by cases D),.nil,fun k q s' f=>by omega,fun m f=>by omega,by simp,by simp⟩
  ·rw[QR]at L;cases hk:kT.eq G c with
   |true=>
    rw[hk]at L;cases L;exact⟨0,0,rfl,rfl,by rw[H,(kT.eq_iff _ _).1 hk]⟩
   |false=>
    rw[hk]at L;cases L
  ·have:=YC hj;simp only[Zf,aO]at this;obtain rfl:j=0:=by omega
   cases hj;rw[H]at hc;cases hc;rw[QR,(kT.eq_iff G G).2 rfl];rfl
 have⟨O,z,e2,h⟩:=key N 0 g.ZV [0] [] [] (Xd [] G (0:Int)) (l[0]'hn.1) (by omega) (by simp) hI0 (fun k q s' f=>by omega);exact⟨C,n,O,z,e2,F,hS,hR,hB,h⟩
structure BdOk (p:Ym) (z:T4) (l:List YR) (C:List Int) (O:List Nat):Prop where
 np:GH [p]
 pl:U2 p.ZG
 f:Rp p l
 r:∀j:Nat,j<l.length->RE l j
 c:C.length=l.length
 s:Zah l C
 d:Ps l C
 b:Ll l C
 n:Zab l C O z
 nm:z.Zu=p.Zu
 ro:z.ZE=p.ZE
 z0:z.ZU=0
 st:z.ZT<=200
 en:z.ZW.length<=400
def BdR(p:Ym)(r:T4×Int):Prop:=(r.2≠0->r.1.ZT=0/\r.1.ZW=[])/\(r.2=0->∃l C O,BdOk p r.1 l C O)
theorem Zen(hN:8388611<N)(P:Xp)(hR:RP P)(hd:8388611+dL (oL P.ZG)<=N/\dL (oL P.ZG)<=4194304)(hc:cL (oL P.ZG)<=4194304):∃r,HI N (oP P)=some r/\BdR (oP P) r:=by
 have d:4194304<N:=by omega
 have hz:Zs N [oP P]:=ZmX (l:=[P]) (by simp) (fun q v=>by rw[aC.1 v];exact⟨hR,hd.1,hd.2⟩) (by unfold V2;simpa using hc) hN;have⟨c,c1,c2,_⟩:=Zh0 [oP P] hz;have a:∀k:Int,k≠0->BdR (oP P) ((⟨(str []),([]:List be),([]:List T0),(0:Int),(0:Int),(0:Int),([]:List T2),([]:List T8)⟩:T4),k):=fun k hk=>⟨fun _=>⟨rfl,rfl⟩,fun h=>absurd h hk⟩
 unfold HI;rw[c1,bS];by_cases t:GH [oP P]
 ·rw[show (c.ZZ != (0:Int))=false by simpa using c2.2 t,cF];have⟨hv,I,o⟩:=t;have Y:=hv.2.1 (oP P) (aC.2 rfl);have⟨_,K,L,M,hdl,hcl,_⟩:=Y;obtain⟨_,R,_⟩:=o (oP P) (aC.2 rfl);have j:bP (oP P):=hR;have⟨b,S,g1⟩:=ZfM N (oP P).ZG (by omega) j.b j.l;have S:z18 N (oP P).ZG=some b:=S;rw[S,bS];cases b with
  |false=>rw[cx,cT];exact⟨_,rfl,a 1 (by decide)⟩
  |true=>
   rw[Zg,cF];have A:=g1 rfl;have Z:∀m∈P.ZF,m.Zz.length<=4194304:=fun m hm=>(j.ms (oM m) (aQ.2 ⟨m,hm,rfl⟩)).1;have B:P.ZF.length<=4194304:=by have:=j.m;have e:(oP P).ZF.length=P.ZF.length:=aM ..;omega
   have hzm:Zs N [sP P.ZF]:=by
    have hrp:RP ⟨str [80],[str [65]],P.ZF,[]⟩:=⟨by show (1:Nat)<=_;omega,j.m,j.ms,by show (oL []).length<=_;simp only[oL,aO];omega,by show bL (oL []);simp only[oL,bL]⟩
    have:=ZmX (N:=N) (l:=[⟨str [80],[str [65]],P.ZF,[]⟩]) (by simp) (fun q v=>by
     rw[aC.1 v];exact⟨hrp,by show 8388611+dL (oL [])<=N;simp only[oL,dL];omega,by show dL (oL [])<=_;simp only[oL,dL];omega⟩) (by unfold V2;show cL (oL [])+0<=_;simp only[oL,cL];omega) hN
    have e:[(⟨str [80],[str [65]],P.ZF,[]⟩:Xp)].map oP=[sP P.ZF]:=by unfold oP sP;simp only[List.map_cons,List.map_nil,oL]
    rw[e]at this;exact this
   have⟨ds,T⟩:=ZoK d P.ZF B Z hzm;have T:H2 N (oP P).ZF=some ds:=T;rw[T,bS];by_cases u:ds.2.2=0
   ·rw[show (ds.2.2 != (0:Int))=false by simpa using u,cF];have hmk:W8 (⟨([]:List Int),([]:List T9),([]:List VY)⟩:YU) (1:Int) (1:Int)=some [⟨[],[],[]⟩]:=by have:=Dt (⟨([]:List Int),([]:List T9),([]:List VY)⟩:YU) (n:=1) (by omega);exact this
    rw[hmk,bS];have⟨s,G,e3,hG,U⟩:=Zp2 (N:=N) (all:=[oP P]) (p:=oP P) d j.r j.m M R A (by omega) (by omega);rw[e3,bS];have⟨w,V⟩:=hG.fl;have D:=V s U;have⟨nd,W,_⟩:=id D;have⟨q,e4,v⟩:=Zui (g:=⟨oP P,G⟩) d w s ⟨nd,W⟩;rw[e4,bS];rcases v with⟨_,h6⟩|⟨h0,y⟩
    ·have E:q.2≠0:=by rcases h6 with e|e<;>rw[e]<;>decide
     rw[show (q.2 != (0:Int))=true by simpa using E,cT];exact⟨_,rfl,a _ E⟩
    ·rw[show (q.2 != (0:Int))=false by simpa using h0,cF];have hF:=y.fl w D;have⟨b2,e5,g5⟩:=Zpj d hF.n.2 (fun x H=>⟨by have:=hF.tl x H;have:=hF.al x H;omega,hF.ti x H⟩);rw[e5,bS];cases b2 with
     |false=>rw[cx,cT];exact⟨_,rfl,a 15 (by decide)⟩
     |true=>
      rw[Zg,cF];have F:Bl N (oP P).ZE=some (oP P).ZE:=by unfold Bl;rw[X6 (by have:=j.r;simp;omega),bS];rfl
      rw[F,bS];have hsm:Pt (oP P):=⟨K.2.1,L⟩
      obtain⟨C,n,O,z,e6,hC,hS,X,hB,hn,n1,n2,n3,n4,_⟩:=Zsr d hsm hF (g:=⟨(oP P).Zu,(oP P).ZE,ds.1,0,0,0,[],[]⟩) rfl rfl rfl;rw[e6,bS];by_cases f:z.ZT>200
      ·rw[dT f,cT];exact⟨_,rfl,a 6 (by decide)⟩
      ·rw[dF f,cF];by_cases i:(z.ZW.length:Int)>400
       ·rw[dT i,cT];exact⟨_,rfl,a 6 (by decide)⟩
       ·rw[dF i,cF];exact⟨_,rfl,fun h=>absurd rfl h,fun _=>⟨q.1,C,O,⟨⟨hv,I,o⟩,A,hF,g5 rfl,hC.len,hS,X,hB,hn,n1,n2,n4,by dsimp only;omega,by dsimp only;omega⟩⟩⟩
   ·rw[show (ds.2.2 != (0:Int))=true by simpa using u,cT];exact⟨_,rfl,a _ u⟩
 ·rw[show (c.ZZ != (0:Int))=true by simpa using fun h=>t (c2.1 h),cT];exact⟨_,rfl,a 1 (by decide)⟩
theorem Zq3(b:8388611<N)(P:Xp)(a:RP P)(c:8388611+dL (oL P.ZG)<=N/\dL (oL P.ZG)<=4194304)(d:cL (oL P.ZG)<=4194304):∃r,z7 N P=some r/\BdR (oP P) r:=by have⟨r,e,h⟩:=Zen b P a c d;have g:=ZsL (N:=N) (by omega) [P] (by simp) (fun q f=>by rw[aC.1 f];exact⟨a,by omega⟩);refine⟨r,?_,h⟩;unfold z7;rw[g,bS];show (idx [oP P] (0:Int)).bind _=_;rw[show idx [oP P] (0:Int)=some (oP P) from rfl,bS,e];rfl
inductive EE (E:List T2) (e:Nat):Nat->Prop
 |fin:EE E e e
 |step {i j:Nat} {x:T2} (hx:x∈E) (hf:x.ZB=(i:Int)) (ht:x.To=(j:Int)) (h:EE E e j):EE E e i
structure Pq (z:T4) (n e:Nat):Prop where
 st:z.ZT=(n:Int)
 n0:0<n/\n<=1000
 en:z.ZV=(e:Int)/\e<n
 l:z.ZW.length<=400
 rg:∀x∈z.ZW,∃i j:Nat,x.ZB=(i:Int)/\x.To=(j:Int)/\i<n/\j<n
 rc:∀j:Nat,0<j->j<n->∃x∈z.ZW,∃i:Nat,x.ZB=(i:Int)/\x.To=(j:Int)/\i<j
 ee:∀i:Nat,i<n->EE z.ZW e i
 fe:∀x∈z.ZW,x.ZB≠(e:Int)
 pw:z.ZW.Pairwise fun y x=>x.ZB=y.ZB->x.Act≠y.Act/\x.Act.ZB=y.Act.ZB/\x.Again=false/\y.Again=false
 ag:∀x∈z.ZW,x.Again=true->∀y∈z.ZW,y.To=x.ZB->y.Act.ZB=x.Act.ZB/\y.Act.ZP=x.Act.ZP
theorem ZsV{A:List T6}(d:A.Pairwise Wv)(b:A[i]?=some a)(c:A[j]?=some a):i=j:=by
 have hi:=YC b;have e:=YC c;rw[Za hi]at b;rw[Za e]at c;have b:=Zm b;have c:=Zm c;rw[bz]at d;rcases Nat.lt_trichotomy i j with h|h|h
 ·exact absurd (by have:=d i j hi e h;rwa [b,c]at this) SG
 ·exact h
 ·exact absurd (by have:=d j i e hi h;rwa [b,c]at this) SG
variable {z:T4}
theorem BdOk.sg{l:List YR}(h:BdOk p z l C O){s t:YR}(a:l[i]?=some s)(b:l[j]?=some t)(c:C[i]?=C[j]?):SgE s t C:=
 ZlH (h.f.tl s (Zb a)) (h.f.tl t (Zb b)) (h.s i j s t a b c)
theorem BdOk.edge{l:List YR}(h:BdOk p z l C O){q d:Nat}{s:YR}(c:O[i]?=some q)(b:l[q]?=some s)(g:s.acts'[k]?=some a)(w:s.to'[k]?=some (d:Int)) :
  ∃x∈z.ZW,∃(j r:Nat),x.ZB=(i:Int)/\x.Act=a/\x.To=(j:Int)/\O[j]?=some r/\C[d]?=C[r]? /\ x.Again=s.again':=by
 obtain⟨x,o,y,rfl⟩:=h.n.al i q k s a c b g;have⟨A,I,B,m,j,r,s',K,t,u,D,v,E,F,G,H⟩:=(h.n.ed x o).e;obtain rfl:A=i:=by omega
 rw[c]at t;cases t;rw[b]at u;cases u;obtain rfl:k=B:=ZsV (h.f.srt s (Zb b)) g D;rw[w]at v;have:(d:Int)=(m:Int):=Zm v;obtain rfl:d=m:=by omega
 exact⟨x,o,j,r,y,rfl,E,F,G,H⟩
theorem BdOk.path{l:List YR}(h:BdOk p z l C O){G:Nat}(H:RE l G) :
  ∀i q:Nat,O[i]?=some q->C[q]?=C[G]? -> ∃(e A:Nat) (B:YR),O[e]?=some A/\l[A]?=some B/\B.end'=true/\z.ZV=(e:Int)/\EE z.ZW e i:=by
 induction H with
 |@fin j s hj he=>
  intro i q t F;have o:=h.n.ol q (Zb t);have m:=Za o;have u:=h.sg m hj F;exact⟨i,q,_,t,m,u.en.trans he,h.n.en i q _ t m (u.en.trans he),.fin⟩
 |@step j d s hj hd H ih=>
  intro i q t F;have o:=h.n.ol q (Zb t);have m:=Za o;have u:=h.sg m hj F;have⟨k,I⟩:=aZ.1 hd;have X:=YC I;have t1:=h.f.tl s (Zb hj);have t2:=h.f.tl _ (Zb m);have v:=u.ac;have w:k<(l[q]).to'.length:=by rw[t2,v];omega
  have a:=Za w;have⟨D,E,g⟩:=h.f.ti _ (Zb m) _ (Zb a);rw[E]at a;have y:d<l.length:=by have⟨Z,e,hl⟩:=h.f.ti s (Zb hj) _ hd;omega
  have b:=u.to k _ _ a I;rw[YL,YL,Za (show D<C.length by rw[h.c];exact g),Za (show d<C.length by rw[h.c];exact y)]at b;have b:C[D]?=C[d]?:= by rw[Za (show D<C.length by rw[h.c];exact g),Za (show d<C.length by rw[h.c];exact y)];exact lj some b
  have Y:=Za (show k<(l[q]).acts'.length by rw[v];omega);have⟨x,K,L,r,M,e2,N,P,R,_⟩:=h.edge t m Y a;have⟨e,A,B,S,T,U,V,W⟩:=ih L r P (R.symm.trans b);exact⟨e,A,B,S,T,U,V,.step K M N W⟩
theorem ZpL{l:List YR}(h:BdOk p z l C O):∃n e,Pq z n e:=by
 have h0:=YC h.n.o0;obtain⟨e,qf,sf,K,T,f3,U,_⟩:=h.path (h.r 0 h.f.n.1) 0 0 h.n.o0 rfl;have hel:=YC K;have st:∀i:Nat,i<O.length->∃(q:Nat) (s:YR),O[i]?=some q/\l[q]?=some s:=fun i hi=>
  ⟨O[i],_,Za hi,Za (h.n.ol _ (List.getElem_mem hi))⟩
 have rg:∀x∈z.ZW,∃i j:Nat,x.ZB=(i:Int)/\x.To=(j:Int)/\i<O.length/\j<O.length:=fun x a=>by have⟨g,L,t,u,j,r,s',v,b,c,d,M,w,A,N,k⟩:=(h.n.ed x a).e;exact⟨g,j,v,w,YC b,YC A⟩
 have one:∀x∈z.ZW,x.Again=true->∀(i q:Nat) (s:YR),x.ZB=(i:Int)->O[i]?=some q->l[q]?=some s->s.again'=true:=fun x a ha i q s H I e3=>by
  have⟨g,L,t,u,j,r,s',v,b,c,d,M,w,A,N,k⟩:=(h.n.ed x a).e;obtain rfl:g=i:=by omega
  rw[I]at b;cases b;rw[e3]at c;cases c;rw[<-k];exact ha
 refine⟨O.length,e,h.n.st,⟨h0,h.n.on⟩,⟨U,hel⟩,h.en,rg,fun j p1 p2=>?_,fun i hi=>?_,fun x a hxe=>?_,?_,fun x a P y R hyx=>?_⟩
 ·have⟨x,a,H,I⟩:=h.n.rc j p1 p2;have⟨i,j',K,T,_⟩:=rg x a;exact⟨x,a,i,K,H,by omega⟩
 ·have⟨q,s,H,I⟩:=st i hi;obtain⟨e',_,_,_,_,_,g1,m⟩:=h.path (h.r q (YC I)) i q H rfl;obtain rfl:e'=e:=by omega
  exact m
 ·have⟨g,L,t,u,j,r,s',v,b,c,d,M,w,A,N,k⟩:=(h.n.ed x a).e;obtain rfl:e=g:=by omega
  rw[K]at b;cases b;rw[T]at c;cases c;rw[(h.f.en _ (Zb T) f3).1]at d;cases d
 ·refine h.n.srt.imp_of_mem fun {y x} R a S heq=>?_;have⟨g,L,t,u,j,r,s',v,b,c,d,M,w,A,N,k⟩:=(h.n.ed x a).e;have⟨i2,q2,V,W,j2,r2,X,g1,Y,m,o,Z,g6,g7,g8,g9⟩:=(h.n.ed y R).e;obtain rfl:g=i2:=by omega
  rw[b]at Y;cases Y;rw[c]at m;cases m;have B:x.Act≠y.Act:=by
   intro U;rcases S with h|⟨_,h⟩
   ·omega
   ·rw[U]at h;exact SG h
  have D:=Zb c;have E:s'.again'=false:=by
   cases hq:s'.again' with
   |false=>rfl
   |true=>
    exfalso;have:=h.f.ag s' D hq;have a1:=YC d;have a2:=YC o;obtain rfl:t=V:=by omega
    rw[d]at o;exact B (Zm o)
  exact⟨B,h.f.fr s' D _ (Zb d) _ (Zb o),k.trans E,g9.trans E⟩
 ·have⟨g,L,t,u,j,r,s',v,b,c,d,M,w,A,N,k⟩:=(h.n.ed x a).e;have⟨i2,q2,V,W,j2,r2,X,g1,Y,m,o,Z,g6,g7,g8,g9⟩:=(h.n.ed y R).e;obtain rfl:j2=g:=by omega
  rw[b]at g7;cases g7;have F:W<l.length:=by have⟨u,e,hl⟩:=h.f.ti X (Zb m) _ (Zb Z);omega
  have G:=Za F;have hg:=h.sg G c g8;have:=h.f.agp X (Zb m) V W y.Act _ o Z G (by rw[hg.ag,<-k];exact P) x.Act (by rw[hg.ac];exact Zb d);exact⟨this.1.symm,this.2.symm⟩
theorem GZ:∀ {a b:List Bool},a.length=b.length->(∀i:Nat,a[i]?=some true->b[i]?=some true)->Xm a<=Xm b
 | [],b,_,_=>dY _
 |x::a,[],h,_=>by simp at h
 |x::a,y::b,h,hm=>by have:=GZ (a:=a) (b:=b) (by simpa using h) (fun i hi=>by have:=hm (i+1) (by simpa using hi);simpa using this);have c:=hm 0;simp only[Xm];cases x<;>cases y<;>simp at c ⊢<;>omega
theorem Zic{a b:List Bool}(e:a.length=b.length)(f:∀i:Nat,a[i]?=some true->b[i]?=some true)(g:a[i]?=some false)(h:b[i]?=some true):Xm a<Xm b:=by
 have:=Zav g;have:=GZ (a:=a.set i true) (b:=b) (by simpa using e) (fun j d=>by
  rw[ae]at d;by_cases c:i=j
  ·rw[<-c];exact h
  ·rw[lh c]at d;exact f j d)
 omega
theorem Zoz{l:List Bool}(h:l.length<=Xm l)(hi:i<l.length):l[i]?=some true:=by
 have a:=Za hi;cases b:l[i]with
 |true=>rw[a,b]
 |false=>
  exfalso;have d:=Zav (l:=l) (i:=i) (by rw[a,b]);have c:=GY (l.set i true);rw[bh]at c;omega
theorem Zlx{a:List Bool}{b:Bool}(h:a[j]?=some true)(d:i=j->b=true):(a.set i b)[j]?=some true:=by
 rw[ae];by_cases c:i=j
 ·rw[lg c,lg (by rw[c];exact YC h),d c]
 ·rw[lh c];exact h
structure Rnd (r:List T2) (n:Nat) (R S R' S':List Bool):Prop where
 l1:R'.length=n
 l2:S'.length=n
 m1:∀i:Nat,R[i]?=some true->R'[i]?=some true
 m2:∀i:Nat,S[i]?=some true->S'[i]?=some true
 e:∀x∈r,∀i j:Nat,x.ZB=(i:Int)->x.To=(j:Int)->(R[i]?=some true->R'[j]?=some true)/\(S[j]?=some true->S'[i]?=some true)
variable {R S:List Bool}
theorem Zty(V:4194304<N){f:T4×Int}{n e:Nat}(w:Pq f.1 n e)(v:Int)(t:R.length=n)(u:S.length=n) :
  ∃R' o,(∀ag,UU f v ag N R S 0=ag R' o (Yh (v+1)))/\Rnd f.1.ZW n R S R' o:=by
 have X:=w.l;have Y:=w.n0;have key:∀(r:List T2) (m k:Nat) (R S:List Bool),f.1.ZW.drop k=r->r.length<m->R.length=n->S.length=n ->
   ∃R' o,(∀ag,UU f v ag m R S (k:Int)=ag R' o (Yh (v+1)))/\Rnd r n R S R' o:=by
  intro r;induction r with
  |nil=>
   intro m k R S h z t u;obtain⟨m,rfl⟩:∃q,m=q+1:=⟨m-1,by simp at z;omega⟩
   exact⟨R,S,fun ag=>by simp only[UU,YZ (XP h),cF,Za5],t,u,fun _ h=>h,fun _ h=>h,fun x K=>by simp at K⟩
  |cons x r U=>
   intro m k R S h z t u;obtain⟨m,rfl⟩:∃q,m=q+1:=⟨m-1,by simp at z;omega⟩
   have⟨a,c,d⟩:=XW h;have⟨i,j,O,P,hi,W⟩:=w.rg x (Zb c);have F:=Za (show i<R.length by omega);have A:=Za (show j<R.length by omega);have B:=Za (show i<S.length by omega);have G:=Za (show j<S.length by omega);generalize R[i]=H at F;generalize R[j]=C at A;generalize S[i]=D at B;generalize S[j]=I at G;have st:∀ag,UU f v ag (m+1) R S (k:Int)=UU f v ag m (R.set j (C || H)) (S.set i (D || I)) ((k+1:Nat):Int):=fun ag=>by simp only[UU,YY a,cT,YL,c,bS,O,P,w.st,ge_iff_le,YZ (dY i)];rw[show decide ((i:Int)<0)=false by simp,show decide ((j:Int)<0)=false by simp,show decide ((n:Int)<=(i:Int))=false by simp;omega,show decide ((n:Int)<=(j:Int))=false by simp;omega];simp only[cF,YL,F,A,B,G,bS,W4];rw[Xa (by omega)];cases C<;>cases D<;>simp only[cT,cF,Bool.true_or,Bool.false_or]
   have⟨R',o,T,s⟩:=U m (k+1) (R.set j (C || H)) (S.set i (D || I)) d (by simp at z;omega) (by simpa using t) (by simpa using u);have m1:∀q:Nat,R[q]?=some true->(R.set j (C || H))[q]?=some true:=fun q b=>Zlx b (fun e=>by subst e;rw[A]at b;cases b;rfl);have m2:∀q:Nat,S[q]?=some true->(S.set i (D || I))[q]?=some true:=fun q b=>Zlx b (fun e=>by subst e;rw[B]at b;cases b;rfl);refine⟨R',o,fun ag=>(st ag).trans (T ag),s.l1,s.l2,fun q b=>s.m1 q (m1 q b),fun q b=>s.m2 q (m2 q b),fun y E p q L M=>?_⟩;rcases List.mem_cons.1 E with rfl|E
   ·obtain rfl:p=i:=by omega
    obtain rfl:q=j:=by omega
    refine⟨fun g=>s.m1 q ?_,fun g=>s.m2 p ?_⟩
    ·rw[F]at g;cases g;rw[ae,lg rfl,lg (YC A),Bool.or_true]
    ·rw[G]at g;cases g;rw[ae,lg rfl,lg (YC B),Bool.or_true]
   ·have:=s.e y E p q L M;exact⟨fun g=>this.1 (m1 p g),fun g=>this.2 (m2 q g)⟩
 exact key f.1.ZW N 0 R S rfl (by omega) t u
def Zhq(E:List T2)(n k:Nat)(W:List Int):Prop:=W.length=n/\∀i:Nat,i<n->∃c:Nat,W[i]?=some (c:Int)/\c<=k/\(c=0↔∀(m:Nat) x,m<k->E[m]?=some x->x.ZB≠(i:Int))
theorem ff2(y:4194304<N){d:T4×Int}{n e:Nat}(b:Pq d.1 n e)(o:∀i:Nat,i<n->R[i]?=some true)(p:∀i:Nat,i<n->S[i]?=some true){W:List Int}(r:Zhq d.1.ZW n d.1.ZW.length W) :
  Dg N d R S W=some true:=by
 unfold Dg;have A:=b.n0;have key:∀(m k:Nat),n-k<m->k<=n->PQ d R S W m (k:Int)=some true:=by
  intro m;induction m with
  |zero=>intro k h;omega
  |succ m v=>
   intro k h z;by_cases a:k<n
   ·have⟨c,t,_,l⟩:=r.2 k a;simp only[PQ,b.st,YY a,cT,YL,o k a,p k a,t,bS,Zg,cF,b.en.1];rw[Xa (by omega),v (k+1) (by omega) (by omega)];have:((c:Int)==(0:Int))=((k:Int)==(e:Int)):=by
     rw[Bool.eq_iff_iff,l3,l3];constructor
     ·intro u;apply bx;intro j;cases b.ee k a with
      |fin=>exact j rfl
      |step g w B _=>
       have⟨q,f⟩:=aZ.1 g;exact l.1 (by omega) q _ (YC f) f w
     ·intro u;have:=l.2 (fun q x f g s=>b.fe x (Zb g) (by omega));omega
    rw[this,l7,Zg,cF]
   ·simp only[PQ,b.st,YZ (show n<=k by omega),cF,Za4]
 exact key N 0 (by omega) (by omega)
theorem ff6(w:4194304<N){g:T4×Int}{n e:Nat}(o:Pq g.1 n e)(W:List Int)(v:Int)(ag:List Int->Int->Option Bool)(p:x∈g.1.ZW)(c:Int) :
  Dh N g W v ag x c=QO W v ag x c:=by
 unfold Dh;have z:=o.l;have key:∀(r:List T2) (m k:Nat),g.1.ZW.drop k=r->r.length<m->RN g W v ag x c m (k:Int)=QO W v ag x c:=by
  intro r;induction r with
  |nil=>
   intro m k h i;obtain⟨m,rfl⟩:∃q,m=q+1:=⟨m-1,by simp at i;omega⟩
   simp only[RN,YZ (XP h),cF]
  |cons y r u=>
   intro m k h i;obtain⟨m,rfl⟩:∃q,m=q+1:=⟨m-1,by simp at i;omega⟩
   have⟨a,b,d⟩:=XW h;have hi:=u m (k+1) d (by simp at i;omega);simp only[RN,YY a,cT,YL,b,bS];rw[Xa (by omega),hi];cases j:x.Again with
   |false=>rw[cF]
   |true=>
    rw[cT];by_cases f:y.To=x.ZB
    ·have⟨s,t⟩:=o.ag x p j y (Zb b) f;rw[show (y.To==x.ZB)=true by simpa using f,cT,show (y.Act.ZB != x.Act.ZB)=false by simpa using s,show (y.Act.ZP != x.Act.ZP)=false by simpa using t,cF,cF]
    ·rw[show (y.To==x.ZB)=false by simpa using f,cF]
 exact key g.1.ZW N 0 rfl (by omega)
theorem ff8(w:4194304<N){f:T4×Int}{n e:Nat}(s:Pq f.1 n e)(W:List Int)(v:Int)(ag:List Int->Int->Option Bool)(i:f.1.ZW[k]?=some x)(c:Int) :
  RO N f W v ag x c (f.1.ZW.take k) N (0:Int)=QO W v ag x c:=by
 have F:=s.l;have j:=YC i;have key:∀(r:List T2) (m q:Nat),(f.1.ZW.take k).drop q=r->r.length<m->RO N f W v ag x c (f.1.ZW.take k) m (q:Int)=QO W v ag x c:=by
  intro r;induction r with
  |nil=>
   intro m q h o;obtain⟨m,rfl⟩:∃q,m=q+1:=⟨m-1,by simp at o;omega⟩
   simp only[RO,YZ (XP h),cF,ff6 w s W v ag (Zb i) c]
  |cons y r E=>
   intro m q h o;obtain⟨m,rfl⟩:∃q,m=q+1:=⟨m-1,by simp at o;omega⟩
   have⟨a,b,d⟩:=XW h;have hi:=E m (q+1) d (by simp at o;omega);simp only[RO,YY a,cT,YL,b,bS];have u:q<k:=by rw[aL]at a;omega
   rw[Xa (by omega),hi];by_cases g:x.ZB=y.ZB
   ·have p:f.1.ZW[q]?=some y:=by rw[List.getElem?_take_of_lt u]at b;exact b
    have:=bz.1 s.pw q k (by omega) j u;rw[Za (by omega)]at p;rw[Za j]at i;have p:=Zm p;have i:=Zm i;rw[p,i]at this;have⟨z,A,B,C⟩:=this g;have t:((x.Act.ZB==y.Act.ZB) && ((x.Act.To==y.Act.To) && ((x.Act.ZP==y.Act.ZP) && true)))=false:=by
     cases D:((x.Act.ZB==y.Act.ZB) && ((x.Act.To==y.Act.To) && ((x.Act.ZP==y.Act.ZP) && true))) with
     |false=>rfl
     |true=>exact absurd ((GN _ _).1 D) z
    rw[t,show (x.ZB==y.ZB)=true by simpa using g,show (x.Act.ZB != y.Act.ZB)=false by simpa using A,B,C];simp only[cT,cF]
   ·rw[show (x.ZB==y.ZB)=false by simpa using g,cF]
 exact key (f.1.ZW.take k) N 0 rfl (by rw[aL];omega)
theorem ff9(z:4194304<N){f:T4×Int}{n e:Nat}(g:Pq f.1 n e)(D:∀i:Nat,i<n->R[i]?=some true)(E:∀i:Nat,i<n->S[i]?=some true) :
  Di N f R S=some true:=by
 have T:=g.l;have U:=g.n0;unfold Di;rw[g.st,Dt _ (by omega),bS];have key:∀(r:List T2) (m k:Nat) (W:List Int),f.1.ZW.drop k=r->r.length<m->k<=f.1.ZW.length->Zhq f.1.ZW n k W->Sc N f R S m W (k:Int)=some true:=by
  intro r;induction r with
  |nil=>
   intro m k W h s H t;obtain⟨m,rfl⟩:∃q,m=q+1:=⟨m-1,by simp at s;omega⟩
   have:=XP h;obtain rfl:k=f.1.ZW.length:=by omega
   simp only[Sc,YZ (Zq _),cF,ff2 z g D E t]
  |cons x r I=>
   intro m k W h s H t;obtain⟨m,rfl⟩:∃q,m=q+1:=⟨m-1,by simp at s;omega⟩
   have⟨a,b,d⟩:=XW h;have⟨i,j,A,K,hi,L⟩:=g.rg x (Zb b);have⟨c,B,M,O⟩:=t.2 i hi;simp only[Sc,YY a,cT,YL,b,bS,A,B,PS (Nat.le_of_lt a),ff8 z g W (k:Int) _ b (c:Int),QO,W4];rw[Xa (by omega),Xa (by omega)];refine I m (k+1) _ d (by simp at s;omega) (by omega) ⟨by rw[bh];exact t.1,fun q F=>?_⟩;rw[ae];by_cases u:i=q
   ·subst u;rw[lg rfl,lg (YC B)];refine⟨c+1,rfl,by omega,fun o=>by omega,fun o=>?_⟩;exact absurd A (o k x (by omega) b)
   ·rw[lh u];have⟨G,d1,P,C⟩:=t.2 q F;refine⟨G,d1,by omega,fun o m' y v p=>?_,fun o=>C.2 fun m' y v p=>o m' y (by omega) p⟩;by_cases w:m'=k
    ·subst w;rw[b]at p;cases p;omega
    ·exact C.1 o m' y (by omega) p
 refine key f.1.ZW N 0 _ rfl (by omega) (by omega) ⟨by simp,fun i hi=>⟨0,?_,Zq _,fun _ m x s=>by omega,fun _=>rfl⟩⟩;rw[bG,lg hi];rfl
theorem Zpz(W:4194304<N){t:T4×Int}{n e:Nat}(f:Pq t.1 n e)(E:R.length=n)(g:S.length=n)(h0:R[0]?=some true)(u:S[e]?=some true) :
  SY N t N R S (0:Int)=some true:=by
 have hn:=f.n0;have:=SZ (F:=fun m (s:List Bool×List Bool×Int)=>SY N t m s.1 s.2.1 s.2.2) (Q:=fun b=>b=true) (fun m s=>∃k:Nat,s.2.2=(k:Int)/\k<=n/\m=n-k/\s.1.length=n/\s.2.1.length=n /\
  (∀i:Nat,i<=k->i<n->s.1[i]?=some true)/\s.2.1[e]?=some true/\(k<Xm s.2.1\/n<=Xm s.2.1)) ?_ N n (R,S,0) ?_ (by omega)
 ·obtain⟨r,l,rfl⟩:=this;exact l
 ·rintro m ⟨R,S,v⟩ ⟨k,rfl,hk,rfl,E,g,l,K,G⟩;dsimp only at E g l K G ⊢;by_cases T:k<n
  ·left;have⟨R',H,X,c⟩:=Zty W f (k:Int) E g;have e3:Yh ((k:Int)+1)=((k+1:Nat):Int):=Xa (by omega);rw[e3]at X;refine⟨n-(k+1),(R',H,((k+1:Nat):Int)),by omega,⟨k+1,rfl,by omega,rfl,c.l1,c.l2,fun i hi w=>?_,c.m2 e K,?_⟩,fun q=>?_⟩
   ·by_cases U:i<=k
    ·exact c.m1 i (l i U w)
    ·have⟨x,o,Y,y,z,Z⟩:=f.rc i (by omega) w;exact (c.e x o Y i y z).1 (l Y (by omega) (by omega))
   ·rcases G with G|G
    ·by_cases C:n<=Xm S
     ·right;have:=GZ (a:=S) (b:=H) (by rw[g,c.l2]) c.m2;dsimp only;omega
     ·left
      -- a state that is not marked, with an edge to a marked one
      have O:∃i:Nat,i<n/\S[i]?=some false:=by
       apply bx;intro M;apply C;have A:∀i:Nat,i<n->S[i]?=some true:=fun i hi=>by
        have B:=Za (show i<S.length by omega);cases D:S[i]'(by omega) with
        |true=>rw[B,D]
        |false=>exact absurd ⟨i,hi,by rw[B,D]⟩ M
       have:=GZ (a:=aP n true) (b:=S) (by simp[g]) (fun i hi=>A i (by have:=YC hi;simpa using this));have hc:∀q,Xm (aP q true)=q:=fun q=>by
        induction q with
        |zero=>rfl
        |succ q V=>rw[List.replicate_succ,Xm,V];rfl
       rw[hc]at this;exact this
      have⟨i,hi,L⟩:=O;have P:∀ {i:Nat},EE t.1.ZW e i->S[i]?=some false->∃x∈t.1.ZW,∃p q:Nat,x.ZB=(p:Int)/\x.To=(q:Int)/\S[p]?=some false/\S[q]?=some true:=fun I=>by
       induction I with
       |fin=>intro h;rw[K]at h;cases h
       |@step p q x o y z _ V=>
        intro h;have hq:q<n:=by have⟨_,j,_,g2,_,g4⟩:=f.rg x o;omega
        have B:=Za (show q<S.length by omega);cases D:S[q]'(by omega) with
        |true=>exact⟨x,o,p,q,y,z,h,by rw[B,D]⟩
        |false=>exact V (by rw[B,D])
      have⟨x,o,p,q,y,z,Z,f4⟩:=P (f.ee i hi) L;have:=Zic (a:=S) (b:=H) (by rw[g,c.l2]) c.m2 Z ((c.e x o p q y z).2 f4);dsimp only;omega
    ·right;have:=GZ (a:=S) (b:=H) (by rw[g,c.l2]) c.m2;dsimp only;omega
   ·simp only[SY,f.st,YY T,cT,X]
  ·right;intro q;have hc:=GY S;refine⟨true,?_,rfl⟩;simp only[SY,f.st,YZ (show n<=k by omega),cF];exact ff9 W f (fun i hi=>l i (by omega) hi) (fun i hi=>Zoz (by omega) (by omega))
 ·refine⟨0,rfl,by omega,by omega,E,g,fun i hi _=>?_,u,?_⟩
  ·obtain rfl:i=0:=by omega
   exact h0
  ·left;have:=Zic (a:=S.set e false) (b:=S) (by simp) (fun i hi=>by
    rw[ae]at hi;by_cases d:e=i
    ·rw[lg d,lg (by rw[d]at u;rw[d];exact YC u)]at hi;cases hi
    ·rw[lh d]at hi;exact hi) (i:=e) (by rw[ae,lg rfl,lg (YC u)]) u
   show 0<Xm S;omega
theorem ZpJ(i:8388611<N)(P:Xp)(j:z5 N=some true)(c:RP P)(k:8388611+dL (oL P.ZG)<=N/\dL (oL P.ZG)<=4194304)(m:cL (oL P.ZG)<=4194304):RM N P=some true:=by
 have⟨r,e,p,s⟩:=Zq3 i P c k m;unfold RM;rw[j,bS,Zg,cF];obtain⟨f,t⟩:∃f,z6 N P=some f:=by
  unfold z6;have⟨b,d,_⟩:=Zpy (N:=N) (by omega) [P] (by simp) (fun q o=>by rw[aC.1 o];exact⟨c,by omega⟩) (by unfold V2;simp;omega);rw[d,bS,Zez N P.ZG (by omega) (by have:(oL P.ZG).length<=4194304:=c.l;rw[Hd]at this;exact this) c.b (by omega),bS];cases b with
  |false=>exact⟨_,rfl⟩
  |true=>
   rw[cT];cases decide (((cL (oL P.ZG):Nat):Int)<=60)<;>exact⟨_,rfl⟩
 rw[t,bS];cases f with
 |false=>rw[cx,cT];rfl
 |true=>
  rw[Zg,cF,e,bS];by_cases g:r.2=0
  ·rw[show (r.2 != (0:Int))=false by simpa using g,cF];have⟨l,C,O,d⟩:=s g;have⟨n,e,a⟩:=ZpL d;have h:=a.n0;rw[a.st,Dt _ (by omega),bS,bS,d.z0,a.en.1,YL,ZjO];rw[bG,lg h.1,bG,lg a.en.2];rw[show decide ((e:Int)<0)=false by simp,show decide ((e:Int)>=(n:Int))=false by have:=a.en.2;simp;omega];rw[show (((0:Int)) != (0:Int))=false from rfl];simp only[cF,bS];rw[W4,show YA (aP n false) (0:Int) true=(aP n false).set 0 true from W4 _ 0 _];exact Zpz (by omega) a (by simp) (by simp) (by rw[ae,lg rfl,lg (by simpa using h.1)]) (by rw[ae,lg rfl,lg (by simpa using a.en.2)])
  ·rw[show (r.2 != (0:Int))=true by simpa using g,cT];have⟨u,v⟩:=p g;rw[u,v];rfl
end Gp
section
namespace Gx
open Go Go.Kx
def Zj5(x:T7):Prop:=((Lit.int .i64 x.Zt).wf=true)/\((Lit.int .i64 x.Lo).wf=true)/\((Lit.int .i64 x.Hi).wf=true)
def Zfe(x:T3):Prop:=(x.Zu.size<=bd)/\(Zj5 x.Zv)
def Zfh(x:Y5):Prop:=((Lit.int .i64 x.Zt).wf=true)/\(x.Zw.size<=bd)/\(x.Field.size<=bd)/\((Lit.int .i64 x.N).wf=true)
def Zff(x:Ls):Prop:=(Zfh x.Zx)/\(x.Op.size<=bd)/\(Zfh x.Zy)
def Zfg(x:Ve):Prop:=(x.Zu.size<=bd)/\(x.Zz.length<=bd/\∀y∈x.Zz,Zfe y)/\(x.ZA.length<=bd/\∀y∈x.ZA,Zff y)
mutual
def QM:Xq->Prop
 |⟨a0,a1,a2,a3,a4,a5,a6⟩=>((Lit.int .i64 a0).wf=true)/\(a1.size<=bd)/\(a2.length<=bd/\∀y∈a2,y.size<=bd)/\(a3.size<=bd)/\(a4.size<=bd)/\((Lit.int .i64 a5).wf=true)/\(a6.length<=bd/\PN a6)
def PO:List Xq->Prop
 | []=>True
 |x::l=>QM x/\PO l
def PN:List (List Xq)->Prop
 | []=>True
 |x::l=>(x.length<=bd/\PO x)/\PN l
end
mutual
def Qa:Xq->Nat
 |⟨_,_,_,_,_,_,a6⟩=>Q3 a6+1
def Q4:List Xq->Nat
 | []=>0
 |x::l=>Qa x+Q4 l
def Q3:List (List Xq)->Nat
 | []=>0
 |x::l=>Q4 x+Q3 l
end
theorem Zgh:∀l,Q4 l=Ue Qa l
 | []=>by simp only[Q4,Ue]
 |x::l=>by simp only[Q4,Ue];rw[Zgh l]
theorem Zfd:∀l,(∀x∈l,QM x)->PO l
 | [],_=>by simp only[PO]
 |x::l,h=>by simp only[PO];exact⟨h x (Zj ..),Zfd l fun y a=>h y (Zi _ a)⟩
theorem Zmh:∀l,Q3 l=Ue (Ue Qa) l
 | []=>by simp only[Q3,Ue]
 |x::l=>by simp only[Q3,Ue];rw[Zmh l,Zgh]
theorem Zj3:∀l,(∀x∈l,x.length<=bd/\∀y∈x,QM y)->PN l
 | [],_=>by simp only[PN]
 |x::l,h=>by simp only[PN];exact⟨⟨(h x (Zj ..)).1,Zfd x (h x (Zj ..)).2⟩,Zj3 l fun y a=>h y (Zi _ a)⟩
def QN(x:Xp):Prop:=(x.Zu.size<=bd)/\(x.ZE.length<=bd/\∀y∈x.ZE,y.size<=bd)/\(x.ZF.length<=bd/\∀y∈x.ZF,Zfg y)/\(x.ZG.length<=bd/\∀y∈x.ZG,QM y)
def Q5(x:Xp):Nat:=Ue Qa x.ZG
end Gx
end
namespace Gp
open Go Go.Kx Gx
section
set_option maxRecDepth 100000
theorem ZnM(k:Nat):z5 (k+300)=some true:=by kernel_rfl
mutual
theorem ZoJ:∀x,dI x<=cI x
 |⟨_,_,_,_,_,_,b⟩=>by simp only[dI,cI];have:=ZiR b;omega
theorem ZeD:∀l,dL l<=cL l
 | []=>by simp only[dL,cL];omega
 |x::l=>by simp only[dL,cL];have:=ZoJ x;have:=ZeD l;omega
theorem ZiR:∀l,VK l<=XA l
 | []=>by simp only[VK,XA];omega
 |x::l=>by simp only[VK,XA];have:=ZeD x;have:=ZiR l;omega
end
mutual
theorem ZoG:∀x,cI (oI x)=Qa x
 |⟨k,f,t,n,a,x,b⟩=>by simp only[oI,cI,Qa,Zii b]
theorem ZeA:∀l,cL (oL l)=Q4 l
 | []=>by simp only[oL,cL,Q4]
 |x::l=>by simp only[oL,cL,Q4,ZoG x,ZeA l]
theorem Zii:∀l,XA (WU l)=Q3 l
 | []=>by simp only[WU,XA,Q3]
 |x::l=>by simp only[WU,XA,Q3,ZeA x,Zii l]
end
mutual
theorem ZnU:∀x,QM x->bI (oI x)
 |⟨k,f,t,n,a,x,b⟩,h=>by simp only[QM]at h;simp only[oI,bI];rw[ZfA];have c:=h.2.2.1.1;have d:=h.2.2.2.2.2.2.1;unfold bd at c d;exact⟨by omega,by omega,ZhN b h.2.2.2.2.2.2.2⟩
theorem Zek:∀l,PO l->bL (oL l)
 | [],_=>by simp only[oL,bL]
 |x::l,h=>by simp only[PO]at h;simp only[oL,bL];exact⟨ZnU x h.1,Zek l h.2⟩
theorem ZhN:∀l,PN l->Qu (WU l)
 | [],_=>by simp only[WU,Qu]
 |x::l,h=>by simp only[PN]at h;simp only[WU,Qu];have a:=h.1.1;unfold bd at a;exact⟨by rw[Hd];omega,Zek x h.1.2,ZhN l h.2⟩
end
theorem Znu{p:Xp}(h:QN p):RP p:=by
 have⟨_,f,c,d⟩:=h;refine⟨?_,?_,fun x e=>?_,?_,?_⟩
 ·have:=f.1;unfold bd at this;show p.ZE.length<=_;omega
 ·have:=c.1;unfold bd at this;show (p.ZF.map oM).length<=_;rw[aM];omega
 ·obtain⟨m,g,rfl⟩:=aQ.1 e;have⟨_,a,b⟩:=c.2 m g;have a:=a.1;have b:=b.1;unfold bd at a b;exact⟨by show m.Zz.length<=_;omega,by show (m.ZA.map oA).length<=_;rw[aM];omega⟩
 ·have:=d.1;unfold bd at this;show (oL p.ZG).length<=_;rw[Hd];omega
 ·exact Zek _ (Zfd _ d.2)
theorem ZoH(p:Xp):cL (oL p.ZG)=Q5 p:=by rw[ZeA,Zgh];rfl
theorem plain:∀(a:Xp),(QN a/\Q5 a<=bd)->∃N,RM N a=some true:=by rintro P ⟨c,b⟩;have:=ZeD (oL P.ZG);rw[<-ZoH]at b;unfold bd at b;exact⟨20000000+300,ZpJ (by omega) P (ZnM _) (Znu c) ⟨by omega,by omega⟩ (by omega)⟩
end
end Gp
