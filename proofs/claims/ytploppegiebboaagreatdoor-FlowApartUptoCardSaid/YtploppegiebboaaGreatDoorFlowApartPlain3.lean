/- The plain law, part 3: what the functions compute answers as the statement says. -/
import Derived.Test.YtploppegiebboaaGreatDoorFlowApartPlain2
set_option linter.all false
open List renaming mem_singleton→aC,map_cons→aI,length_take→aL,mem_map→aM,length_map→aN,length_nil→aP,replicate→aQ,mem_append→aS,mem_cons→aV,mem_iff_getElem?→aZ,nil_append→ah,map_nil→au,cons_append→bJ,length_singleton→bf,flatten_cons→bq,getElem_mem→b9,pairwise_iff_getElem→cK,pairwise_cons→cY,mem_filter→ck,nodup_iff_pairwise_ne→eG,pairwise_append→fP,mem_append_left→fQ,pairwise_singleton→fm,mem_append_right→gK,mem_flatten→gU
open ByteArray renaming empty→ao
open Nat renaming lt_or_ge→ay,sub_self→br
open Int renaming toNat_natCast→a8,eq_ofNat_of_zero_le→dE
open Go.Utf8 renaming encode→bE
open Go.IntKind renaming i64→bG
open List.cons renaming injEq→bH
open Option renaming getD_some→bX,isSome_none→er,isSome_some→ff
open Classical renaming byContradiction→bx
open Bool renaming not_false→cy
open UInt8 renaming ofNat→gZ
namespace Gp
open Go Go.Kx Gx
def eLt(x y:T2):Prop:=x.ZB<y.ZB\/(x.ZB=y.ZB/\Wm x.Act y.Act)
structure EdOk (l:List YM) (C:List Int) (O:List Nat) (x:T2):Prop where
 e:∃(i q k d j r:Nat) (s:YM),x.ZB=(i:Int)/\O[i]?=some q/\l[q]?=some s/\s.acts'[k]?=some x.Act/\s.to'[k]?=some (d:Int)/\x.To=(j:Int)/\O[j]?=some r/\C[d]?=C[r]? /\ x.Again=s.again'
structure TmOk (l:List YM) (O:List Nat) (E:List T2) (t:T8):Prop where
 e:∃(i q m:Nat) (s:YM) (x:T2),t.ZQ=(i:Int)/\O[i]?=some q/\l[q]?=some s/\t.ZC=s.ticks'/\0<s.ticks'/\t.ZR=(m:Int)/\E[m]?=some x/\x.ZB=(i:Int)/\x.Act=s.other'
def Tn(a b:T6):Bool:=(a.ZB==b.ZB) && ((a.To==b.To) && ((a.ZP==b.ZP) && true))
theorem Zaw(a b:T6):Tn a b=true↔a=b:=ZhU a b
structure NI (l:List YM) (C:List Int) (i k:Nat) (s:YM) (O:List Nat) (E:List T2) (T:List T8) (of:List (Int×Int)):Prop where
 o0:O[0]?=some 0
 ol:∀q∈O,q<l.length
 of1:∀c v,YR of c=some v->∃(j q:Nat),v=(j:Int)/\O[j]?=some q/\C[q]?=some c
 of2:∀(j q:Nat) c,O[j]?=some q->C[q]?=some c->YR of c=some (j:Int)
 ed:∀x∈E,EdOk l C O x/\x.ZB<=(i:Int)
 al:∀(i' q m:Nat) s' a,i'<i->O[i']?=some q->l[q]?=some s'->s'.acts'[m]?=some a->∃x∈E,x.ZB=(i':Int)/\x.Act=a
 ak:∀(m:Nat) a,m<k->s.acts'[m]?=some a->∃x∈E,x.ZB=(i:Int)/\x.Act=a
 cur:∀x∈E,x.ZB=(i:Int)->∃m:Nat,m<k/\s.acts'[m]?=some x.Act
 srt:E.Pairwise eLt
 rc:∀j:Nat,0<j->j<O.length->∃x∈E,x.To=(j:Int)/\x.ZB<(j:Int)
 rg:∀(m j:Nat) x,E[m]?=some x->0<j->(j:Int)<x.To->∃(m':Nat) (y:T2),m'<m/\E[m']?=some y/\y.To=(j:Int)
 tm:∀t∈T,TmOk l O E t/\t.ZQ<=(i:Int)
 tcur:∀t∈T,t.ZQ=(i:Int)->∃m:Nat,m<k/\s.acts'[m]?=some s.other'
 ts:T.Pairwise (fun a b=>a.ZQ<b.ZQ)
 ta:∀(i' q:Nat) s',i'<i->O[i']?=some q->l[q]?=some s'->0<s'.ticks'->∃t∈T,t.ZQ=(i':Int)
 tk:∀m:Nat,m<k->s.acts'[m]?=some s.other'->0<s.ticks'->∃t∈T,t.ZQ=(i:Int)
 el:E.length<=5001*i+k
 tl:T.length<=E.length
variable {C:List Int}{O O':List Nat}
theorem EdOk.mono{l:List YM}{x:T2}(h:EdOk l C O x)(a:∀(j:Nat) q,O[j]?=some q->O'[j]?=some q):EdOk l C O' x:=by have⟨i,q,k,d,j,r,s,b,c,f,g,m,n,o,p⟩:=h.e;exact⟨i,q,k,d,j,r,s,b,a i q c,f,g,m,n,a j r o,p⟩
variable {E:List T2}
theorem TmOk.mono{l:List YM}{t:T8}(h:TmOk l O E t)(b:∀(j:Nat) q,O[j]?=some q->O'[j]?=some q)(e:List T2):TmOk l O' (E++e) t:=by have⟨i,q,m,s,x,c,d,f,g,k,n,a,o⟩:=h.e;exact⟨i,q,m,s,x,c,b i q d,f,g,k,n,by rw[Zo (YB a)];exact a,o⟩
variable {T:List T8}{i j k:Nat}
theorem NI.dist{l:List YM}{s:YM}{d:List (Int×Int)}(h:NI l C i k s O E T d){a q b:Nat}(e:O[j]?=some q)(f:O[a]?=some b)(g:C[q]?=C[b]?)(m:q<C.length):j=a:=by have:=Za m;have n:=h.of2 j q _ e this;have c:=h.of2 a b _ f (g▸this);rw[n]at c;have:(j:Int)=(a:Int):=Zm c;omega
theorem NI.len{l:List YM}{n:Nat}{s:YM}{f:List (Int×Int)}(h:NI l C i k s O E T f)(c:V5 l.length C n):O.length<=n:=by
 have:(O.map fun q=>(C[q]?).getD 0).length<=n:=by
  refine R6 n _ ?_ fun x g=>?_
  ·rw[eG,List.pairwise_map,cK];intro a b m o p e;have a1:=Za m;have d:=Za o;have a2:=h.ol _ (Zb a1);have r:=h.ol _ (Zb d);have a3:=Za (show O[a]<C.length by rw[c.len];exact a2);have t:=Za (show O[b]<C.length by rw[c.len];exact r);have:C[O[a]]?=C[O[b]]?:= by rw[a3,t]at e ⊢;simp only[bX]at e;rw[e]
   have:=h.dist a1 d this (by rw[c.len];exact a2);omega
  ·obtain⟨q,j,rfl⟩:=aM.1 g;have a3:=Za (show q<C.length by rw[c.len];exact h.ol q j);rw[a3];exact c.rng _ (Zb a3)
 rwa [aN]at this
variable {a:T6}
theorem NI.add{l:List YM}{s:YM}{of:List (Int×Int)}(h:NI l C i k s O E T of)
  {M:Nat} (U:O[i]?=some M) (hs:l[M]?=some s) (I:s.acts'[k]?=some a) {d:Nat} (hd:s.to'[k]?=some (d:Int)) (N:s.acts'.Pairwise Wm)
 {of':List (Int×Int)} {r:Nat} (K:∀(j:Nat) q,O[j]?=some q->O'[j]?=some q) (V:∀q∈O',q<l.length) (hj:O'[j]?=some r) (hr:C[d]?=C[r]?)
  (h1:∀c v,YR of' c=some v->∃(j q:Nat),v=(j:Int)/\O'[j]?=some q/\C[q]?=some c) (h2:∀(j q:Nat) c,O'[j]?=some q->C[q]?=some c->YR of' c=some (j:Int))
  (W:O'.length=O.length\/(j=O.length/\O'.length=O.length+1)) :
  NI l C i (k+1) s O' (E++[⟨(i:Int),a,(j:Int),s.again'⟩]) (bif decide (s.ticks'>0) && Tn a s.other' then T++[⟨(i:Int),s.ticks',(E.length:Int)⟩] else T) of':=by
 have hil:=YB U;have hol':O.length<=O'.length:=by rcases W with e|⟨_,e⟩<;>omega
 have hjO:j<O'.length:=YB hj;have H:(E++[⟨(i:Int),a,(j:Int),s.again'⟩])[E.length]?=some (⟨(i:Int),a,(j:Int),s.again'⟩:T2):=by rw[Zp (Zq _),br];rfl
 have B:∀ {x:T2},x∈E->x∈E++[⟨(i:Int),a,(j:Int),s.again'⟩]:=fun f=>fQ _ f;have R:∀w:Nat,0<w->w<O.length->∃(m':Nat) (y:T2),m'<E.length/\E[m']?=some y/\y.To=(w:Int):=fun w u o=>by have⟨x,f,e,_⟩:=h.rc w u o;have⟨m,p⟩:=aZ.1 f;exact⟨m,x,YB p,p,e⟩
 refine⟨K 0 0 h.o0,V,h1,h2,fun x f=>?_,fun G q m s' b u o F X=>?_,fun m b u o=>?_,fun x f e=>?_,?_,fun w u o=>?_,fun m w x u o F=>?_,fun t n=>?_,fun t n e=>?_,?_,fun G q s' u o F X=>?_,fun m u o F=>?_,?_,?_⟩
 ·rcases aS.1 f with f|f
  ·exact⟨(h.ed x f).1.mono K,(h.ed x f).2⟩
  ·rw[aC.1 f];exact⟨⟨i,M,k,d,j,r,s,rfl,K i M U,hs,I,hd,rfl,hj,hr,rfl⟩,Int.le_refl _⟩
 ·have L:O[G]?=some q:=by have:=Za (show G<O.length by omega);rw[this,<-o,K G _ this]
  have⟨x,f,e⟩:=h.al G q m s' b u L F X;exact⟨x,B f,e⟩
 ·rcases ay m k with p|p
  ·have⟨x,f,e⟩:=h.ak m b p o;exact⟨x,B f,e⟩
  ·obtain rfl:m=k:=by omega
   rw[I]at o;cases o;exact⟨_,gK _ (aC.2 rfl),rfl,rfl⟩
 ·rcases aS.1 f with f|f
  ·have⟨m,p,g⟩:=h.cur x f e;exact⟨m,by omega,g⟩
  ·rw[aC.1 f];exact⟨k,by omega,I⟩
 ·rw[fP];refine⟨h.srt,fm _ _,fun x f y Y=>?_⟩;rw[aC.1 Y];rcases Int.lt_or_le x.ZB (i:Int) with A|P
  ·exact .inl A
  ·have e:x.ZB=(i:Int):=by have:=(h.ed x f).2;omega
   have⟨m,p,g⟩:=h.cur x f e;exact .inr ⟨e,R9 N p g I⟩
 ·rcases ay w O.length with A|P
  ·have⟨x,f,e⟩:=h.rc w u A;exact⟨x,B f,e⟩
  ·have hjj:j=w:=by rcases W with e|⟨e1,e2⟩<;>omega
   subst hjj;exact⟨_,gK _ (aC.2 rfl),rfl,by show (i:Int)<(j:Int);omega⟩
 ·rcases ay m E.length with p|p
  ·rw[Zo p]at u;have⟨m',y,S,Z,g3⟩:=h.rg m w x u o F;exact⟨m',y,S,by rw[Zo (by omega)];exact Z,g3⟩
  ·have hml:=YB u;rw[lA,bf]at hml;obtain rfl:m=E.length:=by omega
   rw[H]at u;cases u;have F:(w:Int)<(j:Int):=F;have⟨m',y,S,Z,g3⟩:=R w o (by rcases W with e|⟨e1,e2⟩<;>omega);exact⟨m',y,S,by rw[Zo S];exact Z,g3⟩
 ·have D:∀t∈T,TmOk l O' (E++[⟨(i:Int),a,(j:Int),s.again'⟩]) t/\t.ZQ<=(i:Int):=fun t n=>⟨(h.tm t n).1.mono K _,(h.tm t n).2⟩
  cases z:decide (s.ticks'>0) && Tn a s.other' with
  |false=>rw[z]at n;exact D t n
  |true=>
   rw[z]at n;rcases aS.1 n with n|n
   ·exact D t n
   ·rw[aC.1 n];rw[Zc,l8,Zaw]at z;exact⟨⟨i,M,E.length,s,_,rfl,K i M U,hs,rfl,z.1,rfl,H,rfl,z.2⟩,Int.le_refl _⟩
 ·have D:t∈T->∃m:Nat,m<k+1/\s.acts'[m]?=some s.other':=fun n=>by have⟨m,p,g⟩:=h.tcur t n e;exact⟨m,by omega,g⟩
  cases z:decide (s.ticks'>0) && Tn a s.other' with
  |false=>rw[z]at n;exact D n
  |true=>
   rw[z]at n;rcases aS.1 n with n|n
   ·exact D n
   ·rw[Zc,l8,Zaw]at z;exact⟨k,by omega,by rw[<-z.2];exact I⟩
 ·cases z:decide (s.ticks'>0) && Tn a s.other' with
  |false=>exact h.ts
  |true=>
   rw[Zc,l8,Zaw]at z;rw[cT,fP];refine⟨h.ts,fm _ _,fun x f y Y=>?_⟩;rw[aC.1 Y];show x.ZQ<(i:Int);rcases Int.lt_or_le x.ZQ (i:Int) with A|P
   ·exact A
   ·exfalso;have e:x.ZQ=(i:Int):=by have:=(h.tm x f).2;omega
    have⟨m,p,g⟩:=h.tcur x f e;rw[<-z.2]at g;exact UX (R9 N p g I)
 ·have L:O[G]?=some q:=by have:=Za (show G<O.length by omega);rw[this,<-o,K G _ this]
  have⟨t,n,e⟩:=h.ta G q s' u L F X;refine⟨t,?_,e⟩;cases decide (s.ticks'>0) && Tn a s.other' with
  |false=>exact n
  |true=>exact fQ _ n
 ·rcases ay m k with p|p
  ·have⟨t,n,e⟩:=h.tk m p o F;refine⟨t,?_,e⟩;cases decide (s.ticks'>0) && Tn a s.other' with
   |false=>exact n
   |true=>exact fQ _ n
  ·obtain rfl:m=k:=by omega
   rw[I]at o;have o:a=s.other':=Zm o;rw[show (decide (s.ticks'>0) && Tn a s.other')=true by rw[Zc,l8,Zaw];exact⟨F,o⟩];exact⟨_,gK _ (aC.2 rfl),rfl⟩
 ·rw[lA,bf];have:=h.el;omega
 ·have:=h.tl;rw[lA,bf];cases decide (s.ticks'>0) && Tn a s.other' with
  |false=>rw[cF];omega
  |true=>rw[cT,lA,bf];omega
variable {p:Yl}
theorem NI.next{l:List YM}(hF:Rz p l){s:YM}{w:List (Int×Int)}(h:NI l C i s.acts'.length s O E T w)
  {y:Nat} (z:O[i]?=some y) (o:l[y]?=some s) (s':YM):NI l C (i+1) 0 s' O E T w:=by
 have j:=Zb o;refine⟨h.o0,h.ol,h.of1,h.of2,fun x k=>⟨(h.ed x k).1,by have:=(h.ed x k).2;omega⟩,fun a q m r b u c d f=>?_,fun m b u=>by omega,fun x k e=>?_,h.srt,h.rc,h.rg,fun t n=>⟨(h.tm t n).1,by have:=(h.tm t n).2;omega⟩,fun t n e=>?_,h.ts,fun a q r u c d f=>?_,fun m u=>by omega,?_,h.tl⟩
 ·rcases ay a i with g|v
  ·exact h.al a q m r b g c d f
  ·obtain rfl:a=i:=by omega
   rw[z]at c;cases c;rw[o]at d;cases d;exact h.ak m b (YB f) f
 ·exfalso;have:=(h.ed x k).2;omega
 ·exfalso;have:=(h.tm t n).2;omega
 ·rcases ay a i with g|v
  ·exact h.ta a q r g c d f
  ·obtain rfl:a=i:=by omega
   rw[z]at c;cases c;rw[o]at d;cases d;have⟨m,A⟩:=aZ.1 (hF.to s j f).1;exact h.tk m (YB A) A f
 ·have:=h.el;have B:=hF.al s j;omega
theorem ZsP{N:Nat}{l:List YM}(hF:Rz p l){n:Nat}(V:V5 l.length C n)(hi:i<=1000){s:YM}{W:Nat}(X:l[W]?=some s)(ag:Int->Int->List T2->List T8->List (Int×Int)->List Int->Option T4)(en:Int) :
  ∀(r:List T6) (m k:Nat) (O:List Nat) (E:List T2) (T:List T8) (g:List (Int×Int)),s.acts'.drop k=r->k<=s.acts'.length->r.length<m->O[i]?=some W->NI l C i k s O E T g ->
   ∃(O':List Nat) (L:List T2) (H:List T8) (of':List (Int×Int)),VK C (i:Int) ag s en m E T g (O.map fun q:Nat=>(q:Int)) (k:Int)=By (i:Int) ag en L H of' (O'.map fun q:Nat=>(q:Int))/\(∀(j:Nat) q,O[j]?=some q->O'[j]?=some q)/\NI l C i s.acts'.length s O' L H of':=by
 have x:=Zb X;have hn:=hF.n;have hnl:=ZaK V;have hal:=hF.al s x;have htl:=hF.tl s x;intro r;induction r with
 |nil=>
  intro m k O E T g h hk P R o;obtain⟨m,rfl⟩:∃y,m=y+1:=⟨m-1,by simp at P;omega⟩
  have hk2:=XS h;obtain rfl:k=s.acts'.length:=by omega
  exact⟨O,E,T,g,by simp only[VK,YZ hk2,cF],fun _ _ h=>h,o⟩
 |cons a r ih=>
  intro m k O E T g h hk P R o;obtain⟨m,rfl⟩:∃y,m=y+1:=⟨m-1,by simp at P;omega⟩
  have⟨h1,U,h3⟩:=XY h;have u:=Za (show k<s.to'.length by omega);have⟨d,ed,hd⟩:=hF.ti s x _ (Zb u);rw[ed]at u;obtain⟨b,w⟩:∃b,C[d]?=some b:=⟨_,Za (show d<C.length by rw[V.len];exact hd)⟩
  have hOl:=o.len V;have hEl:=o.el;have hTl:=o.tl
  -- how it goes on behind the discovery
  have k7:∀(O':List Nat) (of':List (Int×Int)) (j:Nat),YR of' b=some (j:Int)->(∀(H:List T8),H=(bif decide (s.ticks'>0) && Tn a s.other' then T++[⟨(i:Int),s.ticks',(E.length:Int)⟩] else T) ->
    Gl (i:Int) s E T (k:Int) (VK C (i:Int) ag s en m) a b of' (O'.map fun q:Nat=>(q:Int))=VK C (i:Int) ag s en m (E++[⟨(i:Int),a,(j:Int),s.again'⟩]) H of' (O'.map fun q:Nat=>(q:Int)) ((k+1:Nat):Int)):=by
   intro O' of' j hm' H f;have k5:∀T2:List T8,Gk (i:Int) s E (k:Int) (VK C (i:Int) ag s en m) a b of' (O'.map fun q:Nat=>(q:Int)) T2=VK C (i:Int) ag s en m (E++[⟨(i:Int),a,(j:Int),s.again'⟩]) T2 of' (O'.map fun q:Nat=>(q:Int)) ((k+1:Nat):Int):=by intro T2;unfold Gk;rw[hm',bX,bS,X6 (by simp;omega),bS,Xb (by omega)]
   have hac:((a.ZB==s.other'.ZB) && ((a.To==s.other'.To) && ((a.ZP==s.other'.ZP) && true)))=Tn a s.other':=rfl;unfold Gl Bz;rw[hac];cases ht:decide (s.ticks'>0) with
   |false=>
    rw[ht,Bool.false_and,cF]at f;rw[cF,cF,k5,f]
   |true=>
    rw[ht,Bool.true_and]at f;rw[cT];cases ha:Tn a s.other' with
    |false=>rw[ha,cF]at f;rw[cF,k5,f]
    |true=>rw[ha,cT]at f;rw[cT,X6 (by simp;omega),bS,k5,f]
  cases F:YR g b with
  |some v=>
   obtain⟨j,r0,rfl,g1,g2⟩:=o.of1 _ _ F;have z:=o.add R X U u (hF.srt s x) (O':=O) (of':=g) (fun _ _ h=>h) o.ol g1 (by rw[w,g2]) o.of1 o.of2 (.inl rfl);have⟨O',L,H,of',e,e1,e2⟩:=ih m (k+1) O _ _ g h3 (by omega) (by simp at P;omega) R z;refine⟨O',L,H,of',?_,e1,e2⟩;simp only[VK,YY h1,cT,YI,U,u,w,bS,F,ff,Zg,cF];rw[k7 O g j F _ rfl];exact e
  |none=>
   have A:(O++[d])[O.length]?=some d:=by rw[Zp (Zq _),br];rfl
   have t:∀(j:Nat) q,O[j]?=some q->(O++[d])[j]?=some q:=fun j q h=>by rw[Zo (YB h)];exact h
   have B:∀c,YR (Xf g b (O.length:Int)) c=bif ke.eq b c then some (O.length:Int) else YR g c:=fun c=>Q3 g b c _;have D:YR (Xf g b (O.length:Int)) b=some (O.length:Int):=by rw[B,(ke.eq_iff b b).2 rfl];rfl
   have z:=o.add R X U u (hF.srt s x) (O':=O++[d]) (of':=Xf g b (O.length:Int)) (j:=O.length) (r:=d) t (fun q Y=>by
    rcases aS.1 Y with h|h
    ·exact o.ol q h
    ·rw[aC.1 h];exact hd) A rfl (fun c v M=>by
    rw[B]at M;cases G:ke.eq b c with
    |true=>
     rw[G]at M;cases M;exact⟨O.length,d,rfl,A,by rw[w,(ke.eq_iff _ _).1 G]⟩
    |false=>
     rw[G,cF]at M;have⟨j,q,g1,g2,g3⟩:=o.of1 c v M;exact⟨j,q,g1,t j q g2,g3⟩) (fun j q c I Z=>by
    rcases ay j O.length with hlt|hge
    ·rw[Zo hlt]at I;have h5:=o.of2 j q c I Z;rw[B];cases G:ke.eq b c with
     |true=>rw[<-(ke.eq_iff _ _).1 G,F]at h5;cases h5
     |false=>exact h5
    ·have hjl:=YB I;rw[lA,bf]at hjl;obtain rfl:j=O.length:=by omega
     rw[A]at I;cases I;rw[w]at Z;cases Z;exact D) (.inr ⟨rfl,by simp⟩)
   have⟨O',L,H,of',e,e1,e2⟩:=ih m (k+1) (O++[d]) _ _ _ h3 (by omega) (by simp at P;omega) (t i W R) z;refine⟨O',L,H,of',?_,fun j q I=>e1 j q (t j q I),e2⟩;have K:((O.map fun q:Nat=>(q:Int)).length:Int)=(O.length:Int):=by rw[aN]
   have S:Y8 (O.map fun q:Nat=>(q:Int)) [(d:Int)]=some ((O++[d]).map fun q:Nat=>(q:Int)):=by rw[X6 (by simp;omega),List.map_append];rfl
   simp only[VK,YY h1,cT,YI,U,u,w,bS,F,er,cy,cT,S,K];rw[k7 (O++[d]) _ O.length D _ rfl];exact e
structure Zap (l:List YM) (C:List Int) (O:List Nat) (g:T4):Prop where
 st:g.ZT=(O.length:Int)
 o0:O[0]?=some 0
 ol:∀q∈O,q<l.length
 cd:∀(j j' q q':Nat),O[j]?=some q->O[j']?=some q'->C[q]?=C[q']? -> j=j'
 on:O.length<=1000
 ed:∀x∈g.ZW,EdOk l C O x
 al:∀(i q m:Nat) s a,O[i]?=some q->l[q]?=some s->s.acts'[m]?=some a->∃x∈g.ZW,x.ZB=(i:Int)/\x.Act=a
 srt:g.ZW.Pairwise eLt
 rc:∀j:Nat,0<j->j<O.length->∃x∈g.ZW,x.To=(j:Int)/\x.ZB<(j:Int)
 rg:∀(m j:Nat) x,g.ZW[m]?=some x->0<j->(j:Int)<x.To->∃(m':Nat) (y:T2),m'<m/\g.ZW[m']?=some y/\y.To=(j:Int)
 tm:∀t∈g.ZX,TmOk l O g.ZW t
 ts:g.ZX.Pairwise (fun a b=>a.ZQ<b.ZQ)
 ta:∀(i q:Nat) s,O[i]?=some q->l[q]?=some s->0<s.ticks'->∃t∈g.ZX,t.ZQ=(i:Int)
 en:∀(i q:Nat) s,O[i]?=some q->l[q]?=some s->s.end'=true->g.ZV=(i:Int)
variable {N:Nat}
theorem ZsQ(hN:4194304<N)(hp:QC p){l:List YM}(hF:Rz p l){g:T4}(Y:g.ZT=0)(Z:g.ZW=[])(hg2:g.ZX=[]) :
  ∃C n O z,Bx N g l=some z/\V5 l.length C n/\Zav l C/\PE l C/\LA l C/\Zap l C O z/\z.Zu=g.Zu/\z.ZE=g.ZE/\z.ZS=g.ZS/\z.ZU=g.ZU/\z.ZW.length<=5001000:=by
 have⟨C,n,e,F,hS,hR,hB⟩:=ZoV hN hp hF;have hn:=hF.n;have hnl:=ZaK F;obtain⟨G,H⟩:∃G,C[0]?=some G:=⟨_,Za (show 0<C.length by rw[F.len];exact hn.1)⟩
 unfold Bx;rw[e,bS,Zqw,H,bS,Y,Z,hg2]
 -- two z20 that are ends are in one class
 have R:∀(q K:Nat) s s',l[q]?=some s->l[K]?=some s'->s.end'=true->s'.end'=true->C[q]?=C[K]?:= fun q K s s' U V h3 h4=>by refine hR q K s s' U V ?_;have⟨a1,a2,a3,a4⟩:=hF.en s (Zb U) h3;have⟨b1,b2,b3,b4⟩:=hF.en s' (Zb V) h4;unfold WA Tt;rw[a1,a2,a3,a4,b1,b2,b3,b4,h3,h4];simp[Vn]
 have key:∀(m i:Nat) (en:Int) (O:List Nat) (E:List T2) (T:List T8) (y:List (Int×Int)) (s:YM),1001-i<m->i<=O.length->NI l C i 0 s O E T y ->
   (∀(k q:Nat) s',k<i->O[k]?=some q->l[q]?=some s'->s'.end'=true->en=(k:Int)) ->
   ∃O' z,VJ N g l C m (i:Int) en E T y (O.map fun q:Nat=>(q:Int))=some z/\Zap l C O' z/\z.Zu=g.Zu/\z.ZE=g.ZE/\z.ZS=g.ZS/\z.ZU=g.ZU/\z.ZW.length<=5001000:=by
  intro m;induction m with
  |zero=>intro i en O E T y s h;omega
  |succ m ih=>
   intro i en O E T y s hm hi d P;have hOl:=d.len F;have w:((O.map fun q:Nat=>(q:Int)).length)=O.length:=aN ..;rcases ay i O.length with M|hge
   ·have A:=Za M;have hql:=d.ol _ (Zb A);have I:=Za hql;have hIs:NI l C i 0 l[O[i]] O E T y:=⟨d.o0,d.ol,d.of1,d.of2,d.ed,d.al,fun m b f=>by omega,fun x B e=>by
     have⟨m,hm,_⟩:=d.cur x B e;omega,d.srt,d.rc,d.rg,d.tm,fun t D e=>by have⟨m,hm,_⟩:=d.tcur t D e;omega,d.ts,d.ta,fun m f=>by omega,d.el,d.tl⟩
    have gO:(O.map fun q:Nat=>(q:Int))[i]?=some ((O[i]:Nat):Int):=by rw[List.getElem?_map,A];rfl
    have go:∀r,(∀(k q:Nat) s',k<i->O[k]?=some q->l[q]?=some s'->s'.end'=true->r=(k:Int))->(l[O[i]].end'=true->r=(i:Int))->∃O' z,Gm N C (i:Int) E T y (O.map fun q:Nat=>(q:Int)) (VJ N g l C m) l[O[i]] r=some z/\Zap l C O' z/\z.Zu=g.Zu/\z.ZE=g.ZE/\z.ZS=g.ZS/\z.ZU=g.ZU/\z.ZW.length<=5001000:=by
     intro r U V;obtain⟨O',E',T',of',e,X,e2⟩:=ZsP (N:=N) hF F (by omega) I (VJ N g l C m) r _ N 0 O E T y rfl (by omega) (by have:=hF.al _ (Zb I);rw[List.drop_zero];omega) A hIs;have e:VK C (i:Int) (VJ N g l C m) l[O[i]] r N E T y (O.map fun q:Nat=>(q:Int)) (0:Int)=_:=e;unfold Gm;rw[e];unfold By;rw[Xb (by omega)];refine ih (i+1) r O' E' T' of' l[O[i]] (by omega) (by have:=YB (X i _ A);omega) (e2.next hF (X i _ A) I _) fun k q s' f o u W=>?_;rcases ay k i with hh|hh
     ·-- the places ahead y i are as they were: each is in one class
      have S:=Za (show k<O.length by omega);rw[X k _ S]at o;exact U k q s' hh (S.trans o) u W
     ·obtain rfl:k=i:=by omega
      rw[X k _ A]at o;cases o;rw[I]at u;cases u;exact V W
    simp only[VJ,w,YY M,cT,YI,gO,I,bS];cases he:l[O[i]].end' with
    |true=>
     rw[cT];refine go (i:Int) (fun k q s' f o u W=>?_) (fun _=>rfl);exfalso;have:=R q O[i] s' _ u I W he;have:=d.dist o A this (by rw[F.len];exact YB u);omega
    |false=>
     rw[cF];exact go en P (fun h=>by rw[he]at h;cases h)
   ·obtain rfl:i=O.length:=by omega
    simp only[VJ,w,YZ hge,cF,Zdg];refine⟨O,_,rfl,⟨rfl,d.o0,d.ol,fun j j' q K f o u=>d.dist f o u (by rw[F.len];exact d.ol q (Zb f)),by omega,fun x B=>(d.ed x B).1,fun i q m s a f o u=>d.al i q m s a (YB f) f o u,d.srt,d.rc,d.rg,fun t D=>(d.tm t D).1,d.ts,fun i q s f o u=>d.ta i q s (YB f) f o u,fun i q s f o u=>P i q s (YB f) f o u⟩,rfl,rfl,rfl,rfl,?_⟩;have:=d.el;dsimp only;omega
 have hI0:NI l C 0 0 (l[0]'hn.1) [0] [] [] (Xf [] G (0:Int)):=by
  refine⟨rfl,fun q A=>by rw[aC.1 A];exact hn.1,fun c v L=>?_,fun j q c hj hc=>?_,fun x B=>(by cases B),fun k q m s' a f=>by omega,fun m a f=>by omega,fun x B=>(by cases B),.nil,fun j f o=>by simp at o;omega,fun m j x f=>by simp at f,fun t D=>(by cases D),fun t D=>(by cases D),.nil,fun k q s' f=>by omega,fun m f=>by omega,by simp,by simp⟩
  ·rw[Q3]at L;cases hk:ke.eq G c with
   |true=>
    rw[hk]at L;cases L;exact⟨0,0,rfl,rfl,by rw[H,(ke.eq_iff _ _).1 hk]⟩
   |false=>
    rw[hk]at L;cases L
  ·have:=YB hj;simp only[Zf,aP]at this;obtain rfl:j=0:=by omega
   cases hj;rw[H]at hc;cases hc;rw[Q3,(ke.eq_iff G G).2 rfl];rfl
 have⟨O,z,e2,h⟩:=key N 0 g.ZV [0] [] [] (Xf [] G (0:Int)) (l[0]'hn.1) (by omega) (by simp) hI0 (fun k q s' f=>by omega);exact⟨C,n,O,z,e2,F,hS,hR,hB,h⟩
structure BdOk (p:Yl) (z:T4) (l:List YM) (C:List Int) (O:List Nat):Prop where
 np:GZ [p]
 pl:U8 p.ZG
 f:Rz p l
 r:∀j:Nat,j<l.length->RE l j
 c:C.length=l.length
 s:Zav l C
 d:PE l C
 b:LA l C
 n:Zap l C O z
 nm:z.Zu=p.Zu
 ro:z.ZE=p.ZE
 z0:z.ZU=0
 st:z.ZT<=200
 en:z.ZW.length<=400
def BdR(p:Yl)(r:T4×Int):Prop:=(r.2≠0->r.1.ZT=0/\r.1.ZW=[])/\(r.2=0->∃l C O,BdOk p r.1 l C O)
theorem ZeG(hN:8388611<N)(P:Xp)(hR:RP P)(hd:8388611+dL (oL P.ZG)<=N/\dL (oL P.ZG)<=4194304)(hc:cL (oL P.ZG)<=4194304):∃r,HX N (oP P)=some r/\BdR (oP P) r:=by
 have d:4194304<N:=by omega
 have hz:Zs N [oP P]:=Znl (l:=[P]) (by simp) (fun q v=>by rw[aC.1 v];exact⟨hR,hd.1,hd.2⟩) (by unfold V9;simpa using hc) hN;have⟨c,c1,c2,_⟩:=Zii [oP P] hz;have a:∀k:Int,k≠0->BdR (oP P) ((⟨(str []),([]:List be),([]:List T0),(0:Int),(0:Int),(0:Int),([]:List T2),([]:List T8)⟩:T4),k):=fun k hk=>⟨fun _=>⟨rfl,rfl⟩,fun h=>absurd h hk⟩
 unfold HX;rw[c1,bS];by_cases t:GZ [oP P]
 ·rw[show (c.ZZ != (0:Int))=false by simpa using c2.2 t,cF];have⟨hv,I,o⟩:=t;have Y:=hv.2.1 (oP P) (aC.2 rfl);have⟨_,K,L,M,hdl,hcl,_⟩:=Y;obtain⟨_,R,_⟩:=o (oP P) (aC.2 rfl);have j:bP (oP P):=hR;have⟨b,S,g1⟩:=Zf4 N (oP P).ZG (by omega) j.b j.l;have S:z18 N (oP P).ZG=some b:=S;rw[S,bS];cases b with
  |false=>rw[cy,cT];exact⟨_,rfl,a 1 (by decide)⟩
  |true=>
   rw[Zg,cF];have A:=g1 rfl;have Z:∀m∈P.ZF,m.Zz.length<=4194304:=fun m hm=>(j.ms (oM m) (aM.2 ⟨m,hm,rfl⟩)).1;have B:P.ZF.length<=4194304:=by have:=j.m;have e:(oP P).ZF.length=P.ZF.length:=aN ..;omega
   have hzm:Zs N [sP P.ZF]:=by
    have hrp:RP ⟨str [80],[str [65]],P.ZF,[]⟩:=⟨by show (1:Nat)<=_;omega,j.m,j.ms,by show (oL []).length<=_;simp only[oL,aP];omega,by show bL (oL []);simp only[oL,bL]⟩
    have:=Znl (N:=N) (l:=[⟨str [80],[str [65]],P.ZF,[]⟩]) (by simp) (fun q v=>by
     rw[aC.1 v];exact⟨hrp,by show 8388611+dL (oL [])<=N;simp only[oL,dL];omega,by show dL (oL [])<=_;simp only[oL,dL];omega⟩) (by unfold V9;show cL (oL [])+0<=_;simp only[oL,cL];omega) hN
    have e:[(⟨str [80],[str [65]],P.ZF,[]⟩:Xp)].map oP=[sP P.ZF]:=by unfold oP sP;simp only[aI,au,oL]
    rw[e]at this;exact this
   have⟨ds,T⟩:=Zo9 d P.ZF B Z hzm;have T:Gh N (oP P).ZF=some ds:=T;rw[T,bS];by_cases u:ds.2.2=0
   ·rw[show (ds.2.2 != (0:Int))=false by simpa using u,cF];have hmk:Vj (⟨([]:List Int),([]:List T9),([]:List V7)⟩:YU) (1:Int) (1:Int)=some [⟨[],[],[]⟩]:=by have:=DD (⟨([]:List Int),([]:List T9),([]:List V7)⟩:YU) (n:=1) (by omega);exact this
    rw[hmk,bS];have⟨s,G,e3,hG,U⟩:=Zqo (N:=N) (all:=[oP P]) (p:=oP P) d j.r j.m M R A (by omega) (by omega);rw[e3,bS];have⟨w,V⟩:=hG.fl;have D:=V s U;have⟨nd,W,_⟩:=id D;have⟨q,e4,v⟩:=ZuE (g:=⟨oP P,G⟩) d w s ⟨nd,W⟩;rw[e4,bS];rcases v with⟨_,h6⟩|⟨h0,y⟩
    ·have E:q.2≠0:=by rcases h6 with e|e<;>rw[e]<;>decide
     rw[show (q.2 != (0:Int))=true by simpa using E,cT];exact⟨_,rfl,a _ E⟩
    ·rw[show (q.2 != (0:Int))=false by simpa using h0,cF];have hF:=y.fl w D;have⟨b2,e5,g5⟩:=ZpH d hF.n.2 (fun x H=>⟨by have:=hF.tl x H;have:=hF.al x H;omega,hF.ti x H⟩);rw[e5,bS];cases b2 with
     |false=>rw[cy,cT];exact⟨_,rfl,a 15 (by decide)⟩
     |true=>
      rw[Zg,cF];have F:Bw N (oP P).ZE=some (oP P).ZE:=by unfold Bw;rw[X6 (by have:=j.r;simp;omega),bS];rfl
      rw[F,bS];have hsm:QC (oP P):=⟨K.2.1,L⟩
      obtain⟨C,n,O,z,e6,hC,hS,X,hB,hn,n1,n2,n3,n4,_⟩:=ZsQ d hsm hF (g:=⟨(oP P).Zu,(oP P).ZE,ds.1,0,0,0,[],[]⟩) rfl rfl rfl;rw[e6,bS];by_cases f:z.ZT>200
      ·rw[dT f,cT];exact⟨_,rfl,a 6 (by decide)⟩
      ·rw[dF f,cF];by_cases i:(z.ZW.length:Int)>400
       ·rw[dT i,cT];exact⟨_,rfl,a 6 (by decide)⟩
       ·rw[dF i,cF];exact⟨_,rfl,fun h=>absurd rfl h,fun _=>⟨q.1,C,O,⟨⟨hv,I,o⟩,A,hF,g5 rfl,hC.len,hS,X,hB,hn,n1,n2,n4,by dsimp only;omega,by dsimp only;omega⟩⟩⟩
   ·rw[show (ds.2.2 != (0:Int))=true by simpa using u,cT];exact⟨_,rfl,a _ u⟩
 ·rw[show (c.ZZ != (0:Int))=true by simpa using fun h=>t (c2.1 h),cT];exact⟨_,rfl,a 1 (by decide)⟩
theorem Zrs(b:8388611<N)(P:Xp)(a:RP P)(c:8388611+dL (oL P.ZG)<=N/\dL (oL P.ZG)<=4194304)(d:cL (oL P.ZG)<=4194304):∃r,z7 N P=some r/\BdR (oP P) r:=by have⟨r,e,h⟩:=ZeG b P a c d;have g:=Zs8 (N:=N) (by omega) [P] (by simp) (fun q f=>by rw[aC.1 f];exact⟨a,by omega⟩);refine⟨r,?_,h⟩;unfold z7;rw[g,bS];show (idx [oP P] (0:Int)).bind _=_;rw[show idx [oP P] (0:Int)=some (oP P) from rfl,bS,e];rfl
inductive EE (E:List T2) (e:Nat):Nat->Prop
 |fin:EE E e e
 |step {i j:Nat} {x:T2} (hx:x∈E) (hf:x.ZB=(i:Int)) (ht:x.To=(j:Int)) (h:EE E e j):EE E e i
structure ZnL (z:T4) (n e:Nat):Prop where
 st:z.ZT=(n:Int)
 n0:0<n/\n<=1000
 en:z.ZV=(e:Int)/\e<n
 l:z.ZW.length<=400
 rg:∀x∈z.ZW,∃i j:Nat,x.ZB=(i:Int)/\x.To=(j:Int)/\i<n/\j<n
 rc:∀j:Nat,0<j->j<n->∃x∈z.ZW,∃i:Nat,x.ZB=(i:Int)/\x.To=(j:Int)/\i<j
 ee:∀i:Nat,i<n->EE z.ZW e i
 fe:∀x∈z.ZW,x.ZB≠(e:Int)
 pw:z.ZW.Pairwise fun y x=>x.ZB=y.ZB->x.Act≠y.Act/\x.Act.ZB=y.Act.ZB/\x.Again=false/\y.Again=false
 ag:∀x∈z.ZW,x.Again=true->∀y∈z.ZW,y.To=x.ZB->y.Act.ZB=x.Act.ZB/\y.Act.ZP=x.Act.ZP
theorem Zls{A:List T6}(d:A.Pairwise Wm)(b:A[i]?=some a)(c:A[j]?=some a):i=j:=by
 have hi:=YB b;have e:=YB c;rw[Za hi]at b;rw[Za e]at c;have b:=Zm b;have c:=Zm c;rw[cK]at d;rcases Nat.lt_trichotomy i j with h|h|h
 ·exact absurd (by have:=d i j hi e h;rwa [b,c]at this) UX
 ·exact h
 ·exact absurd (by have:=d j i e hi h;rwa [b,c]at this) UX
variable {z:T4}
theorem BdOk.sg{l:List YM}(h:BdOk p z l C O){s t:YM}(a:l[i]?=some s)(b:l[j]?=some t)(c:C[i]?=C[j]?):SgE s t C:=
 Zl5 (h.f.tl s (Zb a)) (h.f.tl t (Zb b)) (h.s i j s t a b c)
theorem BdOk.edge{l:List YM}(h:BdOk p z l C O){q d:Nat}{s:YM}(c:O[i]?=some q)(b:l[q]?=some s)(g:s.acts'[k]?=some a)(w:s.to'[k]?=some (d:Int)) :
  ∃x∈z.ZW,∃(j r:Nat),x.ZB=(i:Int)/\x.Act=a/\x.To=(j:Int)/\O[j]?=some r/\C[d]?=C[r]? /\ x.Again=s.again':=by
 obtain⟨x,o,y,rfl⟩:=h.n.al i q k s a c b g;have⟨A,I,B,m,j,r,s',K,t,u,D,v,E,F,G,H⟩:=(h.n.ed x o).e;obtain rfl:A=i:=by omega
 rw[c]at t;cases t;rw[b]at u;cases u;obtain rfl:k=B:=Zls (h.f.srt s (Zb b)) g D;rw[w]at v;have:(d:Int)=(m:Int):=Zm v;obtain rfl:d=m:=by omega
 exact⟨x,o,j,r,y,rfl,E,F,G,H⟩
theorem BdOk.path{l:List YM}(h:BdOk p z l C O){G:Nat}(H:RE l G) :
  ∀i q:Nat,O[i]?=some q->C[q]?=C[G]? -> ∃(e A:Nat) (B:YM),O[e]?=some A/\l[A]?=some B/\B.end'=true/\z.ZV=(e:Int)/\EE z.ZW e i:=by
 induction H with
 |@fin j s hj he=>
  intro i q t F;have o:=h.n.ol q (Zb t);have m:=Za o;have u:=h.sg m hj F;exact⟨i,q,_,t,m,u.en.trans he,h.n.en i q _ t m (u.en.trans he),.fin⟩
 |@step j d s hj hd H ih=>
  intro i q t F;have o:=h.n.ol q (Zb t);have m:=Za o;have u:=h.sg m hj F;have⟨k,I⟩:=aZ.1 hd;have X:=YB I;have t1:=h.f.tl s (Zb hj);have t2:=h.f.tl _ (Zb m);have v:=u.ac;have w:k<(l[q]).to'.length:=by rw[t2,v];omega
  have a:=Za w;have⟨D,E,g⟩:=h.f.ti _ (Zb m) _ (Zb a);rw[E]at a;have y:d<l.length:=by have⟨Z,e,hl⟩:=h.f.ti s (Zb hj) _ hd;omega
  have b:=u.to k _ _ a I;rw[YI,YI,Za (show D<C.length by rw[h.c];exact g),Za (show d<C.length by rw[h.c];exact y)]at b;have b:C[D]?=C[d]?:= by rw[Za (show D<C.length by rw[h.c];exact g),Za (show d<C.length by rw[h.c];exact y)];exact mG some b
  have Y:=Za (show k<(l[q]).acts'.length by rw[v];omega);have⟨x,K,L,r,M,e2,N,P,R,_⟩:=h.edge t m Y a;have⟨e,A,B,S,T,U,V,W⟩:=ih L r P (R.symm.trans b);exact⟨e,A,B,S,T,U,V,.step K M N W⟩
theorem Zp7{l:List YM}(h:BdOk p z l C O):∃n e,ZnL z n e:=by
 have h0:=YB h.n.o0;obtain⟨e,qf,sf,K,T,f3,U,_⟩:=h.path (h.r 0 h.f.n.1) 0 0 h.n.o0 rfl;have hel:=YB K;have st:∀i:Nat,i<O.length->∃(q:Nat) (s:YM),O[i]?=some q/\l[q]?=some s:=fun i hi=>
  ⟨O[i],_,Za hi,Za (h.n.ol _ (b9 hi))⟩
 have rg:∀x∈z.ZW,∃i j:Nat,x.ZB=(i:Int)/\x.To=(j:Int)/\i<O.length/\j<O.length:=fun x a=>by have⟨g,L,t,u,j,r,s',v,b,c,d,M,w,A,N,k⟩:=(h.n.ed x a).e;exact⟨g,j,v,w,YB b,YB A⟩
 have one:∀x∈z.ZW,x.Again=true->∀(i q:Nat) (s:YM),x.ZB=(i:Int)->O[i]?=some q->l[q]?=some s->s.again'=true:=fun x a ha i q s H I e3=>by
  have⟨g,L,t,u,j,r,s',v,b,c,d,M,w,A,N,k⟩:=(h.n.ed x a).e;obtain rfl:g=i:=by omega
  rw[I]at b;cases b;rw[e3]at c;cases c;rw[<-k];exact ha
 refine⟨O.length,e,h.n.st,⟨h0,h.n.on⟩,⟨U,hel⟩,h.en,rg,fun j p1 p2=>?_,fun i hi=>?_,fun x a hxe=>?_,?_,fun x a P y R hyx=>?_⟩
 ·have⟨x,a,H,I⟩:=h.n.rc j p1 p2;have⟨i,j',K,T,_⟩:=rg x a;exact⟨x,a,i,K,H,by omega⟩
 ·have⟨q,s,H,I⟩:=st i hi;obtain⟨e',_,_,_,_,_,g1,m⟩:=h.path (h.r q (YB I)) i q H rfl;obtain rfl:e'=e:=by omega
  exact m
 ·have⟨g,L,t,u,j,r,s',v,b,c,d,M,w,A,N,k⟩:=(h.n.ed x a).e;obtain rfl:e=g:=by omega
  rw[K]at b;cases b;rw[T]at c;cases c;rw[(h.f.en _ (Zb T) f3).1]at d;cases d
 ·refine h.n.srt.imp_of_mem fun {y x} R a S heq=>?_;have⟨g,L,t,u,j,r,s',v,b,c,d,M,w,A,N,k⟩:=(h.n.ed x a).e;have⟨i2,q2,V,W,j2,r2,X,g1,Y,m,o,Z,g6,g7,g8,g9⟩:=(h.n.ed y R).e;obtain rfl:g=i2:=by omega
  rw[b]at Y;cases Y;rw[c]at m;cases m;have B:x.Act≠y.Act:=by
   intro U;rcases S with h|⟨_,h⟩
   ·omega
   ·rw[U]at h;exact UX h
  have D:=Zb c;have E:s'.again'=false:=by
   cases hq:s'.again' with
   |false=>rfl
   |true=>
    exfalso;have:=h.f.ag s' D hq;have a1:=YB d;have a2:=YB o;obtain rfl:t=V:=by omega
    rw[d]at o;exact B (Zm o)
  exact⟨B,h.f.fr s' D _ (Zb d) _ (Zb o),k.trans E,g9.trans E⟩
 ·have⟨g,L,t,u,j,r,s',v,b,c,d,M,w,A,N,k⟩:=(h.n.ed x a).e;have⟨i2,q2,V,W,j2,r2,X,g1,Y,m,o,Z,g6,g7,g8,g9⟩:=(h.n.ed y R).e;obtain rfl:j2=g:=by omega
  rw[b]at g7;cases g7;have F:W<l.length:=by have⟨u,e,hl⟩:=h.f.ti X (Zb m) _ (Zb Z);omega
  have G:=Za F;have hg:=h.sg G c g8;have:=h.f.agp X (Zb m) V W y.Act _ o Z G (by rw[hg.ag,<-k];exact P) x.Act (by rw[hg.ac];exact Zb d);exact⟨this.1.symm,this.2.symm⟩
end Gp
section
namespace Gp
open Go Go.Kx Gx
end Gp
end
namespace Gp
open Go Go.Kx Gx
theorem ZpD{r:Int}(e:0<=r)(h:r<55296):bE r=TC (W9 r):=by
 obtain⟨n,rfl⟩:=dE e;have f:Utf8.valid (n:Int)=true:=by unfold Utf8.valid;simp;omega
 unfold bE W9;rw[f];simp only[mA,a8];by_cases a:n<128
 ·rw[mD a,mD (show (n:Int)<=127 by omega)];rfl
 ·rw[mE a,mE (show ¬ (n:Int)<=127 by omega)];by_cases b:n<2048
  ·rw[mD b,mD (show (n:Int)<=2047 by omega)];have c:(192+(n:Int)/64).toNat=192+n/64:=by omega
   have d:(128+(n:Int)%64).toNat=128+n%64:=by omega
   unfold TC;simp only[aI,au,c,d];first|done|rfl
  ·rw[mE b,mE (show ¬ (n:Int)<=2047 by omega),mD (show n<65536 by omega)];have c:(224+(n:Int)/4096).toNat=224+n/4096:=by omega
   have d:(128+(n:Int)/64%64).toNat=128+n/64%64:=by omega
   have g:(128+(n:Int)%64).toNat=128+n%64:=by omega
   unfold TC;simp only[aI,au,c,d,g];first|done|rfl
theorem QT{a b:be}{l m:List Int}(c:Y7 a=Xd l)(d:Y7 b=Xd m)(e:l.length+m.length<=300000):∃z,Xy a b=some z/\Y7 z=Xd (l++m):=by
 haveI:kv:=⟨False⟩
 have f:=ZbM c;have g:=ZbM d;refine⟨a++b,?_,by rw[ZaE,c,d,Zfc]⟩;unfold Xy;rw[show decide (((a.size+b.size:Nat):Int)>bG.max)=false from dF (by show ¬ _>(9223372036854775807:Int);omega),cF]
theorem Zfe{r:Int}(a:0<=r)(b:r<55296):Y7 (bE (wk .i32 (Yh r)))=Xd [r]:=by
 haveI:kv:=⟨False⟩
 rw[We (by omega) (by omega),ZgD a (by omega),ZpD a b,ZeH (Zgf a b)];simp[Xd]
theorem Zow(b:be)(x:UInt8):Y7 (b.push x)=Y7 b++[(x.toNat:Int)]:=by
 unfold Y7;cases b with
 |mk d=>show ((d.push x).toList).map _=_;rw[Array.toList_push];simp
theorem ZjS:∀ {l:List Int},(∀x∈l,0<=x/\x<=127)->Y7 (Qf l)=Xd l:=by
 have key:∀(l:List Int) (b:be) (m:List Int),(∀x∈l,0<=x/\x<=127)->Y7 b=Xd m->Y7 (l.foldl (fun r n=>r.push (gZ n.toNat)) b)=Xd (m++l):=by
  intro l;induction l with
  |nil=>intro b m _ h;rw[List.append_nil];exact h
  |cons x l i=>
   intro b m a h;have⟨d,f⟩:=a x (by simp);have:=i (b.push (gZ x.toNat)) (m++[x]) (fun y c=>a y (by simp[c])) (by
    rw[Zow,h,Zfc];have e:((gZ x.toNat).toNat:Int)=x:=by obtain⟨n,rfl⟩:=dE d;rw[a8,UInt8.toNat_ofNat'];have:n%2 ^ 8=n:=Nat.mod_eq_of_lt (by omega);omega
    rw[e];have:W9 x=[x]:=by unfold W9;rw[mD f]
    simp[Xd,this])
   rw[List.foldl_cons,this,aA];rfl
 intro l g;have:=key l ao [] g rfl;rw[ah]at this;exact this
def Vz(P:List Int)(s:Int):Int:=(idx P s).getD 0
def WM(P:List Int)(x:T2):List Int:=[124,97+x.Act.ZB,97+x.Act.To,x.Act.ZP,48+Vz P x.To]++(bif x.Again then [97,103,97,105,110] else [])
def Vc(E:List T2)(t:T8):T2:=(idx E t.ZR).getD ⟨0,WG,0,false⟩
def W4(E:List T2)(t:T8):List Int:=[116,105,109,101,100,200+t.ZC,(Vc E t).Act.To,(Vc E t).Act.ZP]
def VS(P:List Int)(s:Int)(E:List T2):List Int:=((E.filter fun x=>x.ZB==s).map (WM P)).flatten
def V2(E:List T2)(s:Int)(T:List T8):List Int:=((T.filter fun t=>t.ZQ==s).map (W4 E)).flatten
def W7(z:T4)(P:List Int)(s:Int):List Int:=(bif s==z.ZV then [101,110,100] else [])++VS P s z.ZW++V2 z.ZW s z.ZX
structure PC (z:T4) (P:List Int):Prop where
 el:z.ZW.length<=400
 tl:z.ZX.length<=1000
 ac:∀x∈z.ZW,(0<=x.Act.ZB/\x.Act.ZB<6)/\(0<=x.Act.To/\x.Act.To<6)/\0<=x.Act.ZP/\x.Act.ZP<40
 to:∀x∈z.ZW,∃c,idx P x.To=some c/\0<=c/\c<1000
 tm:∀t∈z.ZX,∃(m:Nat) (x:T2),t.ZR=(m:Int)/\z.ZW[m]?=some x/\0<=t.ZC/\t.ZC<=1000
theorem D3{n:Int}(a:0<=n)(b:n<256):wk .u8 n=n:=by rw[Mp a];omega
variable {N:Nat}{P:List Int}{z:T4}
theorem ZjL(W:4194304<N)(B:PC z P)(s:Int){v:be}{L:List Int}(g:Y7 v=Xd L)(hL:L.length<=10) :
  ∃e,GM N s P z v=Lp N s z e/\Y7 e=Xd (L++VS P s z.ZW)/\(L++VS P s z.ZW).length<=10000:=by
 have hl:=B.el;unfold GM;have key:∀(r:List T2) (m k:Nat) (v:be) (L:List Int),z.ZW.drop k=r->r.length<m->Y7 v=Xd L->L.length+10*r.length<=10000 ->
   ∃e,Qv N s P z m v (k:Int)=Lp N s z e/\Y7 e=Xd (L++VS P s r)/\(L++VS P s r).length<=10000:=by
  intro r;induction r with
  |nil=>
   intro m k v L h w g hL;obtain⟨m,rfl⟩:∃q,m=q+1:=⟨m-1,by simp at w;omega⟩
   refine⟨v,?_,by simpa[VS]using g,by simpa[VS]using hL⟩;simp only[Qv,YZ (XS h),cF]
  |cons x r C=>
   intro m k v L h w g hL;obtain⟨m,rfl⟩:∃q,m=q+1:=⟨m-1,by simp at w;omega⟩
   have⟨a,c,d⟩:=XY h;have o:=Zb c;simp only[Zf]at w hL;simp only[Qv,YY a,cT,YI,c,bS];rw[Xb (by omega)];by_cases A:x.ZB=s
   ·rw[show (x.ZB==s)=true by simpa using A,cT];obtain⟨⟨X,Y⟩,⟨t0,Z⟩,G,l1⟩:=B.ac x o;have⟨u,E,c0,c1⟩:=B.to x o;rw[We (n:=97+x.Act.ZB) (by omega) (by omega),We (n:=97+x.Act.To) (by omega) (by omega),D3 (n:=97+x.Act.ZB) (by omega) (by omega),D3 (n:=97+x.Act.To) (by omega) (by omega),D3 G (by omega)];have T:Y7 (str [124])=Xd [124]:=rfl;have U:Y7 (Qf [97+x.Act.ZB,97+x.Act.To,x.Act.ZP])=Xd [97+x.Act.ZB,97+x.Act.To,x.Act.ZP]:=ZjS (fun y D=>by simp at D;rcases D with rfl|rfl|rfl<;>omega);have⟨z1,H,I⟩:=QT T U (by simp);rw[H,bS,E,bS];have⟨z2,K,M⟩:=QT I (Zfe (r:=48+u) (by omega) (by omega)) (by simp);rw[K,bS];have⟨z3,O,F⟩:=QT g M (by simp;omega);rw[O,bS];have f:Vz P x.To=u:=by unfold Vz;rw[E];rfl
    have b:VS P s (x::r)=WM P x++VS P s r:=by unfold VS;rw[List.filter_cons_of_pos (by simpa using A)];rfl
    cases t:x.Again with
    |false=>
     rw[cF];have p:WM P x=[124,97+x.Act.ZB,97+x.Act.To,x.Act.ZP,48+u]:=by unfold WM;rw[t,f];rfl
     have⟨e,i,j,l⟩:=C m (k+1) z3 (L++WM P x) d (by omega) (by rw[F,p];rfl) (by rw[p];simp;omega);exact⟨e,i,by rw[b,<-aA];exact j,by rw[b,<-aA];exact l⟩
    |true=>
     rw[cT];have V:Y7 (str [97,103,97,105,110])=Xd [97,103,97,105,110]:=rfl;have⟨z4,R,S⟩:=QT F V (by simp;omega);rw[R,bS];have p:WM P x=[124,97+x.Act.ZB,97+x.Act.To,x.Act.ZP,48+u]++[97,103,97,105,110]:=by unfold WM;rw[t,f];rfl
     have⟨e,i,j,l⟩:=C m (k+1) z4 (L++WM P x) d (by omega) (by rw[S,p];simp) (by rw[p];simp;omega);exact⟨e,i,by rw[b,<-aA];exact j,by rw[b,<-aA];exact l⟩
   ·rw[show (x.ZB==s)=false by simpa using A,cF];have⟨e,i,j,l⟩:=C m (k+1) v L d (by omega) g (by omega);have b:VS P s (x::r)=VS P s r:=by unfold VS;rw[List.filter_cons_of_neg (by simpa using A)]
    exact⟨e,i,by rw[b];exact j,by rw[b];exact l⟩
 exact key z.ZW N 0 v L rfl (by omega) g (by omega)
theorem Zmt(S:4194304<N)(l:PC z P)(s:Int){v:be}{L:List Int}(f:Y7 v=Xd L)(hL:L.length<=10000) :
  ∃e,Lp N s z v=some e/\Y7 e=Xd (L++V2 z.ZW s z.ZX)/\(L++V2 z.ZW s z.ZX).length<=18000:=by
 have hl:=l.tl;unfold Lp;have key:∀(r:List T8) (m k:Nat) (v:be) (L:List Int),z.ZX.drop k=r->r.length<m->Y7 v=Xd L->L.length+8*r.length<=18000 ->
   ∃e,Rx s z m v (k:Int)=some e/\Y7 e=Xd (L++V2 z.ZW s r)/\(L++V2 z.ZW s r).length<=18000:=by
  intro r;induction r with
  |nil=>
   intro m k v L h i f hL;obtain⟨m,rfl⟩:∃q,m=q+1:=⟨m-1,by simp at i;omega⟩
   refine⟨v,?_,by simpa[V2]using f,by simpa[V2]using hL⟩;simp only[Rx,YZ (XS h),cF,Zd0]
  |cons t r D=>
   intro m k v L h i f hL;obtain⟨m,rfl⟩:∃q,m=q+1:=⟨m-1,by simp at i;omega⟩
   have⟨a,c,d⟩:=XY h;have u:=Zb c;simp only[Zf]at i hL;simp only[Rx,YY a,cT,YI,c,bS];rw[Xb (by omega)];by_cases j:t.ZQ=s
   ·rw[show (t.ZQ==s)=true by simpa using j,cT];have⟨q,x,B,g,T,U⟩:=l.tm t u;obtain⟨⟨V,W⟩,⟨t0,X⟩,E,Y⟩:=l.ac x (Zb g);rw[B,show decide ((q:Int)>=0)=true by simp,cT,YY (YB g),cT,YI,g];have O:Y7 (str [116,105,109,101,100])=Xd [116,105,109,101,100]:=rfl;have⟨Z,F,G⟩:=QT O (Zfe (r:=200+t.ZC) (by omega) (by omega)) (by simp);rw[F,bS,bS,bS];rw[D3 t0 (by omega),D3 E (by omega)];have R:Y7 (Qf [x.Act.To,x.Act.ZP])=Xd [x.Act.To,x.Act.ZP]:=ZjS (fun y A=>by simp at A;rcases A with rfl|rfl<;>omega);have⟨z2,H,I⟩:=QT G R (by simp);rw[H,bS];have⟨z3,K,M⟩:=QT f I (by simp;omega);rw[K,bS];have w:Vc z.ZW t=x:=by unfold Vc;rw[B,YI,g];rfl
    have b:V2 z.ZW s (t::r)=W4 z.ZW t++V2 z.ZW s r:=by unfold V2;rw[List.filter_cons_of_pos (by simpa using j)];rfl
    have C:W4 z.ZW t=[116,105,109,101,100]++[200+t.ZC]++[x.Act.To,x.Act.ZP]:=by unfold W4;rw[w];rfl
    have⟨e,n,o,p⟩:=D m (k+1) z3 (L++W4 z.ZW t) d (by omega) (by rw[M,C]) (by rw[C];simp;omega);exact⟨e,n,by rw[b,<-aA];exact o,by rw[b,<-aA];exact p⟩
   ·rw[show (t.ZQ==s)=false by simpa using j,cF];have⟨e,n,o,p⟩:=D m (k+1) v L d (by omega) f (by omega);have b:V2 z.ZW s (t::r)=V2 z.ZW s r:=by unfold V2;rw[List.filter_cons_of_neg (by simpa using j)]
    exact⟨e,n,by rw[b];exact o,by rw[b];exact p⟩
 exact key z.ZX N 0 v L rfl (by omega) f (by omega)
theorem ZnX(a:4194304<N)(c:PC z P)(s:Int):∃v,Zaa N s P z=some v/\Y7 v=Xd (W7 z P s)/\(W7 z P s).length<=18000:=by
 unfold Zaa W7;cases h:s==z.ZV with
 |true=>
  rw[cT,cT];have b:Y7 (str [101,110,100])=Xd [101,110,100]:=rfl;have⟨g,d,e,f⟩:=ZjL a c s b (by simp);rw[d];exact Zmt a c s e f
 |false=>
  rw[cF,cF];have b:Y7 (str [])=Xd []:=rfl;have⟨g,d,e,f⟩:=ZjL a c s b (by simp);rw[d];exact Zmt a c s e f
theorem Zlr:∀ {A B:List T6},A.Pairwise Wm->B.Pairwise Wm->(∀a,a∈A↔a∈B)->A=B
 | [],[],_,_,_=>rfl
 | [],b::B,_,_,h=>absurd ((h b).2 (by simp)) (by simp)
 |a::A,[],_,_,h=>absurd ((h a).1 (by simp)) (by simp)
 |a::A,b::B,h1,h2,h=>by
  have f:=cY.1 h1;have i:=cY.1 h2;have e:a=b:=by
   rcases aV.1 ((h a).1 (by simp)) with e|e
   ·exact e
   ·rcases aV.1 ((h b).2 (by simp)) with d|d
    ·exact d.symm
    ·exact absurd (G7 (f.1 b d) (i.1 a e)) UX
  subst e;have:A=B:=Zlr f.2 i.2 fun x=>by
   constructor
   ·intro c;rcases aV.1 ((h x).1 (Zi _ c)) with rfl|g
    ·exact absurd (f.1 _ c) UX
    ·exact g
   ·intro c;rcases aV.1 ((h x).2 (Zi _ c)) with rfl|g
    ·exact absurd (i.1 _ c) UX
    ·exact g
  rw[this]
def gE(P:List Int)(x:T2):T6×Int×Bool:=(x.Act,Vz P x.To,x.Again)
def gT(E:List T2)(t:T8):Int×Int×Int:=(t.ZC,(Vc E t).Act.To,(Vc E t).Act.ZP)
variable {E:List T2}
theorem Zms:∀ {X Y:List T8},(X.map (W4 E)).flatten=(Y.map (W4 E)).flatten->X.map (gT E)=Y.map (gT E)
 | [],[],_=>rfl
 | [],y::Y,h=>by simp[W4]at h
 |x::X,[],h=>by simp[W4]at h
 |x::X,y::Y,h=>by
  simp only[aI,bq,W4,bJ,ah,bH,true_and]at h;have⟨d,a,b,c⟩:=h;have e:x.ZC=y.ZC:=by omega
  simp only[aI,Zms c,gT,e,a,b]
theorem ZkZ:∀ {Y:List T2} {U:List T8} {L:List Int},(97:Int)::L≠(Y.map (WM P)).flatten++(U.map (W4 E)).flatten
 | [],[],L,h=>by simp at h
 | [],u::U,L,h=>by simp[W4]at h
 |y::Y,U,L,h=>by simp[WM]at h
theorem ZjF:∀ {X Y:List T2} {T U:List T8},(X.map (WM P)).flatten++(T.map (W4 E)).flatten=(Y.map (WM P)).flatten++(U.map (W4 E)).flatten ->
  X.map (gE P)=Y.map (gE P)/\T.map (gT E)=U.map (gT E)
 | [],[],T,U,h=>⟨rfl,Zms (by simpa using h)⟩
 | [],y::Y,[],U,h=>by simp[WM]at h
 | [],y::Y,t::T,U,h=>by simp[WM,W4]at h
 |x::X,[],T,[],h=>by simp[WM]at h
 |x::X,[],T,u::U,h=>by simp[WM,W4]at h
 |x::X,y::Y,T,U,h=>by
  simp only[aI,bq,WM,aA,bJ,ah,bH,true_and]at h;have⟨k,l,e,m,a⟩:=h;have i:x.Act=y.Act:=PF (by omega) (by omega) e;have j:Vz P x.To=Vz P y.To:=by omega
  have b:x.Again=y.Again/\(X.map (WM P)).flatten++(T.map (W4 E)).flatten=(Y.map (WM P)).flatten++(U.map (W4 E)).flatten:=by
   cases d:x.Again with
   |false=>
    cases c:y.Again with
    |false=>rw[d,c]at a;exact⟨rfl,a⟩
    |true=>
     rw[d,c]at a;simp only[cF,cT,ah,bJ]at a;exact absurd a.symm ZkZ
   |true=>
    cases c:y.Again with
    |false=>
     rw[d,c]at a;simp only[cF,cT,ah,bJ]at a;exact absurd a ZkZ
    |true=>
     rw[d,c]at a;simp only[cT,bJ,ah,bH,true_and]at a;exact⟨rfl,a⟩
  have⟨f,g⟩:=ZjF b.2;exact⟨by simp only[aI,f,gE,i,j,b.1],g⟩
variable {C:List Int}
theorem geq{a b:Nat}(c:a<C.length)(d:b<C.length)(h:(idx C (a:Int)).getD 0=(idx C (b:Int)).getD 0):C[a]?=C[b]?:= by rw[YI,YI,Za c,Za d]at h;rw[Za c,Za d];exact mG some h
variable {O:List Nat}{i:Nat}{p:Yl}{q:Nat}
theorem BdOk.of{l:List YM}(h:BdOk p z l C O){x:T2}(c:x∈z.ZW){s:YM}(hi:x.ZB=(i:Int))(f:O[i]?=some q)(g:l[q]?=some s) :
  ∃(k d j r:Nat),s.acts'[k]?=some x.Act/\s.to'[k]?=some (d:Int)/\x.To=(j:Int)/\O[j]?=some r/\C[d]?=C[r]? /\ x.Again=s.again':=by
 have⟨m,D,o,t,j,r,s',E,a,b,u,v,w,y,A,B⟩:=(h.n.ed x c).e;obtain rfl:m=i:=by omega
 rw[f]at a;cases a;rw[g]at b;cases b;exact⟨o,t,j,r,u,v,w,y,A,B⟩
theorem ZpA{F:List T2}(h:E.map (gE P)=F.map (gE P)){x:T2}(a:x∈E):∃y∈F,y.Act=x.Act/\Vz P y.To=Vz P x.To/\y.Again=x.Again:=by
 have:gE P x∈F.map (gE P):=by rw[<-h];exact aM.2 ⟨x,a,rfl⟩
 have⟨y,b,e⟩:=aM.1 this;unfold gE at e;simp only[Zr]at e;exact⟨y,b,e⟩
theorem ZuS{X Y:List T8}(h:X.map (gT E)=Y.map (gT E)){t:T8}(a:t∈X):∃u∈Y,u.ZC=t.ZC/\(Vc E u).Act.To=(Vc E t).Act.To/\(Vc E u).Act.ZP=(Vc E t).Act.ZP:=by
 have:gT E t∈Y.map (gT E):=by rw[<-h];exact aM.2 ⟨t,a,rfl⟩
 have⟨y,b,e⟩:=aM.1 this;unfold gT at e;simp only[Zr]at e;exact⟨y,b,e⟩
structure Zam (z:T4) (P:List Int) (i j:Nat):Prop where
 e:∀x∈z.ZW,x.ZB=(i:Int)->∃y∈z.ZW,y.ZB=(j:Int)/\y.Act=x.Act/\Vz P y.To=Vz P x.To/\y.Again=x.Again
 t:∀t∈z.ZX,t.ZQ=(i:Int)->∃u∈z.ZX,u.ZQ=(j:Int)/\u.ZC=t.ZC/\(Vc z.ZW u).Act.To=(Vc z.ZW t).Act.To/\(Vc z.ZW u).Act.ZP=(Vc z.ZW t).Act.ZP
variable {j:Nat}
theorem ZnY(h:(z.ZW.filter fun x=>x.ZB==(i:Int)).map (gE P)=(z.ZW.filter fun x=>x.ZB==(j:Int)).map (gE P))
  (d:(z.ZX.filter fun t=>t.ZQ==(i:Int)).map (gT z.ZW)=(z.ZX.filter fun t=>t.ZQ==(j:Int)).map (gT z.ZW)):Zam z P i j:=by
 refine⟨fun x f hi=>?_,fun t g hi=>?_⟩
 ·have⟨y,a,e⟩:=ZpA h (ck.2 ⟨f,by simpa using hi⟩);have⟨b,c⟩:=ck.1 a;exact⟨y,b,by simpa using c,e⟩
 ·have⟨y,a,e⟩:=ZuS d (ck.2 ⟨g,by simpa using hi⟩);have⟨b,c⟩:=ck.1 a;exact⟨y,b,by simpa using c,e⟩
theorem ZhX{l:List YM}(h:BdOk p z l C O){r:Nat}{s t:YM}(hi:O[i]?=some q)(w:O[j]?=some r)(g:l[q]?=some s)(B:l[r]?=some t)(D:Zam z P i j) :
  (∀a∈s.acts',a∈t.acts')/\(s.acts'≠[]->s.again'=t.again'):=by
 have one:∀(k:Nat) a,s.acts'[k]?=some a->a∈t.acts'/\s.again'=t.again':=fun k a c=>by
  have o:=YB c;have b:k<s.to'.length:=by rw[h.f.tl s (Zb g)];exact o
  have⟨d,E,_⟩:=h.f.ti s (Zb g) _ (b9 b);obtain⟨x,F,_,_,G,H,_,_,_,I⟩:=h.edge hi g c (by rw[Za b,E]);have⟨y,K,L,M,S,N⟩:=D.e x F G;obtain⟨T,_,_,_,u,_,_,_,_,R⟩:=h.of K L w B;refine⟨?_,by rw[<-I,<-R,N]⟩;rw[M,H]at u;exact Zb u
 refine⟨fun a m=>?_,fun n=>?_⟩
 ·have⟨k,c⟩:=aZ.1 m;exact (one k a c).1
 ·cases v:s.acts' with
  |nil=>exact absurd v n
  |cons a A=>exact (one 0 a (by rw[v];rfl)).2
theorem ZhY{l:List YM}(h:BdOk p z l C O){r:Nat}{s t:YM}(hi:O[i]?=some q)(o:O[j]?=some r)(b:l[q]?=some s)(w:l[r]?=some t)(A:Zam z P i j)(B:0<s.ticks') :
  0<t.ticks'/\s.ticks'=t.ticks'/\s.other'.To=t.other'.To/\s.other'.ZP=t.other'.ZP:=by
 have⟨u,c,a⟩:=h.n.ta i q s hi b B;have⟨v,D,S,T,d,f⟩:=A.t u c a;have⟨E,U,m,s',x,a1,a2,a3,a4,a5,F,G,V,a9⟩:=(h.n.tm u c).e;have⟨H,W,m',X,y,Y,g,k,Z,I,K,L,b8,M⟩:=(h.n.tm v D).e;obtain rfl:E=i:=by omega
 obtain rfl:H=j:=by omega
 rw[hi]at a2;cases a2;rw[b]at a3;cases a3;rw[o]at g;cases g;rw[w]at k;cases k;have N:Vc z.ZW u=x:=by unfold Vc;rw[F,YI,G];rfl
 have R:Vc z.ZW v=y:=by unfold Vc;rw[K,YI,L];rfl
 rw[N,R,a9,M]at d f;exact⟨I,by omega,d.symm,f.symm⟩
theorem Zay{l:List YM}(h:BdOk p z l C O)(hP:P.length=O.length)
  (hs:∀i j:Nat,i<O.length->j<O.length->P[i]?=P[j]? -> W7 z P (i:Int)=W7 z P (j:Int)):∀i j:Nat,i<O.length->j<O.length->P[i]?=P[j]? -> i=j:=by
 have⟨n,e,hf⟩:=Zp7 h;obtain⟨E,qf,sf,f1,f2,f3,f4,_⟩:=h.path (h.r 0 h.f.n.1) 0 0 h.n.o0 rfl;obtain rfl:E=e:=by have:=hf.en.1;omega
 have hn:n=O.length:=by have:=hf.st;have:=h.n.st;omega
 subst hn;have st:∀(i q:Nat),O[i]?=some q->∃s,l[q]?=some s:=fun i q hi=>⟨_,Za (h.n.ol q (Zb hi))⟩
 -- the end's kind
 have endE:(z.ZW.filter fun x=>x.ZB==(E:Int))=[]:=List.filter_eq_nil_iff.2 fun x hx=>by simpa using hf.fe x hx
 have endT:(z.ZX.filter fun t=>t.ZQ==(E:Int))=[]:=List.filter_eq_nil_iff.2 fun t ht=>by
  have⟨i',q',m,s',x,a1,a2,a3,a4,a5,_⟩:=(h.n.tm t ht).e;intro hq;have hq:t.ZQ=(E:Int):=by simpa using hq
  obtain rfl:i'=E:=by omega
  rw[f1]at a2;cases a2;rw[f2]at a3;cases a3;have:=(h.f.en sf (Zb f2) f3).2.2.1;omega
 have kE:W7 z P (E:Int)=[101,110,100]:=by unfold W7 VS V2;rw[endE,endT,f4,ly];rfl
 have kO:∀i:Nat,i<O.length->i≠E->W7 z P (i:Int)=((z.ZW.filter fun x=>x.ZB==(i:Int)).map (WM P)).flatten++((z.ZX.filter fun t=>t.ZQ==(i:Int)).map (W4 z.ZW)).flatten/\W7 z P (i:Int)≠[101,110,100]:=fun i hi A=>by
  have e0:W7 z P (i:Int)=((z.ZW.filter fun x=>x.ZB==(i:Int)).map (WM P)).flatten++((z.ZX.filter fun t=>t.ZQ==(i:Int)).map (W4 z.ZW)).flatten:=by unfold W7 VS V2;rw[f4,show ((i:Int)==(E:Int))=false by simp;omega];rfl
  refine⟨e0,?_⟩;rw[e0];cases hf.ee i hi with
  |fin=>exact absurd rfl A
  |step hx G M _=>
   have hm:_∈(z.ZW.filter fun x=>x.ZB==(i:Int)):=ck.2 ⟨hx,by simpa using G⟩;cases hL:(z.ZW.filter fun x=>x.ZB==(i:Int)) with
   |nil=>rw[hL]at hm;cases hm
   |cons y Y=>simp[WM]
 have alk:∀i j:Nat,i<O.length->j<O.length->P[i]?=P[j]? -> i≠E->j≠E/\Zam z P i j:=fun i j hi o W A=>by
  have hk:=hs i j hi o W;have⟨k1,k2⟩:=kO i hi A;have hj':j≠E:=by rintro rfl;rw[kE]at hk;exact k2 hk
  have⟨k3,_⟩:=kO j o hj';rw[k1,k3]at hk;have⟨G,M⟩:=ZjF hk;exact⟨hj',ZnY G M⟩
 have hbis:Bis l (fun a b=>∃i j q r:Nat,O[i]?=some q/\O[j]?=some r/\C[a]?=C[q]? /\ C[b]?=C[r]? /\ P[i]?=P[j]?):=by
  refine⟨fun a b s t hR I X=>?_⟩;have⟨i,j,q,r,hi,o,ca,cb,W⟩:=hR;have⟨B,v⟩:=st i q hi;have⟨H,w⟩:=st j r o;have G:=h.sg I v ca;have M:=h.sg X w cb;have hil:=YB hi;have hjl:=YB o;have D:=Zb v;have F:=Zb w;have R:∀ {b:Nat} {u:YM} {k d:Nat},l[b]?=some u->u.to'[k]?=some (d:Int)->d<C.length:=fun hu hd=>by have⟨d',e,hl⟩:=h.f.ti _ (Zb hu) _ (Zb hd);rw[h.c];omega
  by_cases T:i=E
  ·have N:j=E:=by apply bx;intro A;exact (alk j i hjl hil W.symm A).1 T
   subst T;subst N;rw[hi]at o;cases o;have g:=h.sg I X (ca.trans cb.symm);refine⟨g.en,g.ag,g.tk,g.ot,g.ac,fun k a' b' K Z=>?_⟩;exfalso;rw[hi]at f1;cases f1;have e0:B=sf:=Zm (v.symm.trans f2);have:=(h.f.en B D (by rw[e0];exact f3)).1;have hl:=h.f.tl s (Zb I);have U:=YB K;rw[hl,G.ac,this]at U;exact absurd U (by simp)
  ·have⟨N,al⟩:=alk i j hil hjl W T;have⟨_,al'⟩:=alk j i hjl hil W.symm N;have A1:=ZhX h hi o v w al;have A2:=ZhX h o hi w v al';have S:B.acts'=H.acts':=Zlr (h.f.srt B D) (h.f.srt H F) fun a=>⟨A1.1 a,A2.1 a⟩
   have L:∀ {i q:Nat} {u:YM},O[i]?=some q->l[q]?=some u->i≠E->u.end'=false/\u.acts'≠[]:=fun {i q u} h1 U A=>by
    have hfe:u.end'=false:=by
     cases hq:u.end' with
     |false=>rfl
     |true=>
      exfalso;have:=h.n.en i q u h1 U hq;exact A (by omega)
    refine⟨hfe,fun hnil=>?_⟩;cases h.r q (YB U) with
    |fin o he=>rw[U]at o;cases o;rw[hfe]at he;cases he
    |step o hd _=>
     rw[U]at o;cases o;have:=h.f.tl u (Zb U);rw[hnil]at this;rw[List.eq_nil_of_length_eq_zero this]at hd;cases hd
   have⟨n1,n2⟩:=L hi v T;have⟨n3,n4⟩:=L o w N;have htk:B.ticks'=H.ticks'/\B.other'=H.other':=by
    have tk1:=h.f.tk B D;have tk2:=h.f.tk H F;by_cases h0:0<B.ticks'
    ·have⟨p1,p2,p3,p4⟩:=ZhY h hi o v w al h0;refine⟨p2,PF ?_ p3 p4⟩;have m1:=(h.f.to B D h0).1;have m2:=(h.f.to H F p1).1;rw[<-S]at m2;exact h.f.fr B D _ m1 _ m2
    ·have z1:B.ticks'=0:=by omega
     have z2:H.ticks'=0:=by apply bx;intro A;have⟨p1,_⟩:=ZhY h o hi w v al' (by omega);omega
     exact⟨by rw[z1,z2],by rw[tk1.2.2.2 z1,tk2.2.2.2 z2]⟩
   refine⟨by rw[G.en,M.en,n1,n3],by rw[G.ag,M.ag,A1.2 n2],by rw[G.tk,M.tk,htk.1],by rw[G.ot,M.ot,htk.2],by rw[G.ac,M.ac,S],fun k a' b' K Z=>?_⟩
   -- the edges of that act
   have hka:k<B.acts'.length:=by rw[<-G.ac,<-h.f.tl s (Zb I)];exact YB K
   have hkt:k<B.to'.length:=by rw[h.f.tl B D];exact hka
   have V:k<H.to'.length:=by rw[h.f.tl H F,<-S];exact hka
   have⟨d,hd,_⟩:=h.f.ti B D _ (b9 hkt);have⟨d2,hd2,_⟩:=h.f.ti H F _ (b9 V);have td:B.to'[k]?=some (d:Int):=by rw[Za hkt,hd]
   have td2:H.to'[k]?=some (d2:Int):=by rw[Za V,hd2]
   have ta:=Za hka;have⟨x,hx,j1,r1,x1,x2,x3,x4,x5,_⟩:=h.edge hi v ta td;have⟨y,hy,y1,y2,y3,_⟩:=al.e x hx x1;have⟨k',d3,j2,r2,w1,w2,w3,w4,w5,_⟩:=h.of hy y1 o w;rw[y2,x2]at w1;obtain rfl:k'=k:=Zls (h.f.srt H F) w1 (by rw[<-S];exact ta);rw[td2]at w2;have:(d2:Int)=(d3:Int):=Zm w2;obtain rfl:d2=d3:=by omega
   refine⟨j1,j2,r1,r2,x4,w4,?_,?_,?_⟩
   ·rw[<-x5];exact geq (R I K) (R v td) (G.to k' _ _ K td)
   ·rw[<-w5];exact geq (R X Z) (R w td2) (M.to k' _ _ Z td2)
   ·unfold Vz at y3;rw[x3,w3]at y3;exact (geq (by rw[hP];exact YB w4) (by rw[hP];exact YB x4) y3).symm
 intro i j hi o W;have e1:=Za hi;have e2:=Za o;have:=h.b _ hbis O[i] O[j] (h.n.ol _ (b9 hi)) (h.n.ol _ (b9 o)) ⟨i,j,_,_,e1,e2,rfl,rfl,W⟩;exact h.n.cd i j _ _ e1 e2 this
theorem Zrf(e:PC z P)(s:Int):∀x∈W7 z P s,0<=x/\x<55296:=by
 intro x b;unfold W7 at b;rcases aS.1 b with b|b
 ·rcases aS.1 b with b|b
  ·cases g:s==z.ZV with
   |true=>rw[g]at b;simp at b;omega
   |false=>rw[g]at b;simp at b
  ·unfold VS at b;have⟨r,h,a⟩:=gU.1 b;obtain⟨y,f,rfl⟩:=aM.1 h;have c:=(ck.1 f).1;obtain⟨⟨k,l⟩,⟨t0,m⟩,n,o⟩:=e.ac y c;have⟨p,u,w,A⟩:=e.to y c;have d:Vz P y.To=p:=by unfold Vz;rw[u];rfl
   unfold WM at a;rw[d]at a;cases j:y.Again<;>rw[j]at a<;>simp at a<;>omega
 ·unfold V2 at b;have⟨r,h,a⟩:=gU.1 b;obtain⟨t,v,rfl⟩:=aM.1 h;have⟨q,y,g,f,B,C⟩:=e.tm t (ck.1 v).1;obtain⟨⟨k,l⟩,⟨t0,m⟩,n,o⟩:=e.ac y (Zb f);have i:Vc z.ZW t=y:=by unfold Vc;rw[g,YI,f];rfl
  unfold W4 at a;rw[i]at a;simp at a;omega
def S6(z:T4)(P:List Int)(i:Nat):List Int:=(48+Vz P (i:Int))::W7 z P (i:Int)
theorem ZtU(K:4194304<N){d:T4×Int}{n:Nat}(S:n<=1000)(g:d.1.ZT=(n:Int))(D:PC d.1 P)(T:P.length=n)(L:∀c∈P,0<=c/\c<1000) :
  ∃q m,(∀v ag,S9 N d P v ag N (aQ n 0) [] (0:Int)=Hm v ag q)/\V5 n q m/\∀i j:Nat,i<n->j<n->(q[i]?=q[j]? ↔ S6 d.1 P i=S6 d.1 P j):=by
 have G:∀i:Nat,i<n->∃c,P[i]?=some c/\0<=c/\c<1000:=fun i hi=>by have:=Za (show i<P.length by omega);exact⟨_,this,L _ (Zb this)⟩
 have C:∀i:Nat,i<n->∀x∈S6 d.1 P i,0<=x/\x<55296:=fun i hi x s=>by
  rcases aV.1 s with rfl|s
  ·have⟨c,M,U,V⟩:=G i hi;unfold Vz;rw[YI,M];show 0<=48+c/\_;constructor
   ·omega
   ·show 48+c<55296;omega
  ·exact Zrf D _ x s
 have key:∀(m k:Nat) (lM:List (be×Int)) (nx:List Int),n-k<m->k<=n->RnG (S6 d.1 P) n k lM nx ->
   ∃(a:List (be×Int)) (f:List Int),(∀v ag,S9 N d P v ag m nx lM (k:Int)=Hm v ag f)/\RnG (S6 d.1 P) n n a f:=by
  intro m;induction m with
  |zero=>intro k lM nx h;omega
  |succ m I=>
   intro k lM nx h O hi;by_cases b:k<n
   ·have⟨c,t,W,X⟩:=G k b;have⟨Y,E,u,Z⟩:=ZnX K D (k:Int);have⟨z,F,w⟩:=QT (Zfe (r:=48+c) (by omega) (by omega)) u (by simp;omega);have H:Y7 z=Xd (S6 d.1 P k):=by rw[w];unfold S6 Vz;rw[YI,t];rfl
    have o:=Za (show k<nx.length by rw[hi.len];exact b);cases p:YR lM z with
    |some R=>
     have⟨a,f,y,A⟩:=I (k+1) lM (nx.set k R) (by omega) (by omega) (hi.old b H p);refine⟨a,f,fun v ag=>?_,A⟩;simp only[S9,g,YY b,cT,YI,t,bS,E,F,o,p];rw[ff,Zg,cF,bX,Xb (by omega),Vm];exact y v ag
    |none=>
     have⟨l,B⟩:=hi.new b H p;have⟨a,f,y,A⟩:=I (k+1) _ (nx.set k (lM.length:Int)) (by omega) (by omega) l;refine⟨a,f,fun v ag=>?_,A⟩;simp only[S9,g,YY b,cT,YI,t,bS,E,F,o,p];rw[er,cy,cT,B,bX,Xb (by omega),Vm];exact y v ag
   ·obtain rfl:k=n:=by omega
    exact⟨lM,nx,fun v ag=>by simp only[S9,g,YZ (Zq _),cF],hi⟩
 have⟨lM,f,e,hi⟩:=key N 0 [] (aQ n 0) (by omega) (by omega) (.nil _ _);have⟨u,w⟩:=hi.fin C;exact⟨f,lM.length,e,u,w⟩
def Dst(n:Nat)(P:List Int):Prop:=∀i j:Nat,i<n->j<n->P[i]?=P[j]? -> i=j
theorem fa2(t:4194304<N){n:Nat}(u:n<=1000)(v:P.length=n)(o:Dst n P):Dv N P=some true:=by
 unfold Dv;have c:∀(ag:Int->Option Bool) (k:Nat),k<n->Q0 P (k:Int) ag (P.take k) N (0:Int)=Hl (k:Int) ag:=fun ag k l=>by
  have key:∀(r:List Int) (m q:Nat),(P.take k).drop q=r->r.length<m->Q0 P (k:Int) ag (P.take k) m (q:Int)=Hl (k:Int) ag:=by
   intro r;induction r with
   |nil=>
    intro m q h g;obtain⟨m,rfl⟩:∃q,m=q+1:=⟨m-1,by simp at g;omega⟩
    simp only[Q0,YZ (XS h),cF]
   |cons x r j=>
    intro m q h g;obtain⟨m,rfl⟩:∃q,m=q+1:=⟨m-1,by simp at g;omega⟩
    have⟨a,b,d⟩:=XY h;have p:q<k:=by rw[aL]at a;omega
    have f:=Za (show k<P.length by omega);simp only[Q0,YY a,cT,YI,b,bS,f];rw[Xb (by omega),j m (q+1) d (by simp at g;omega)];have s:P[q]?=some x:=by rw[List.getElem?_take_of_lt p]at b;exact b
    have:x≠P[k]'(by omega):=fun e=>by have:=o q k (by omega) l (by rw[s,f,e]);omega
    rw[show (x==P[k]'(by omega))=false by simpa using this,cF]
  exact key (P.take k) N 0 rfl (by rw[aL];omega)
 have key:∀(m k:Nat),n-k<m->k<=n->RW N P m (k:Int)=some true:=by
  intro m;induction m with
  |zero=>intro k h;omega
  |succ m j=>
   intro k h l;by_cases i:k<n
   ·simp only[RW,YY (show k<P.length by omega),cT,P5 (show k<=P.length by omega),bS,c _ k i,Hl];rw[Xb (by omega)];exact j (k+1) (by omega) (by omega)
   ·simp only[RW,YZ (show P.length<=k by omega),cF,Zbo]
 exact key N 0 (by omega) (by omega)
theorem fa6(C:4194304<N){a:T4×Int}{n:Nat}(x:0<n/\n<=1000)(p:a.1.ZT=(n:Int))(K:∀P:List Int,P.length=n->(∀c∈P,0<=c/\c<1000)->PC a.1 P)
  (y:∀P:List Int,P.length=n->(∀i j:Nat,i<n->j<n->P[i]?=P[j]? -> W7 a.1 P (i:Int)=W7 a.1 P (j:Int))->Dst n P) :
  Ty N a N (aQ n 0) (0:Int)=some true:=by
 have:=Ra (F:=fun m (s:List Int×Int)=>Ty N a m s.1 s.2) (Q:=fun b=>b=true) (fun m s=>∃k c:Nat,s.2=(k:Int)/\k<=n/\m=n-k/\V5 n s.1 c/\(Dst n s.1\/k+1<=c)) ?_ N n (aQ n 0,0) ?_ (by omega)
 ·obtain⟨r,w,rfl⟩:=this;exact w
 ·rintro m ⟨P,v⟩ ⟨k,c,rfl,M,rfl,f,l⟩;dsimp only at f l ⊢;have U:=ZaK f;by_cases A:k<n
  ·left;have H:∀c∈P,0<=c/\c<1000:=fun L h=>by have:=f.rng L h;omega
   have⟨z,m',O,D,E⟩:=ZtU C x.2 p (K P f.len H) f.len H;have I:∀i:Nat,i<n->∃c,P[i]?=some c:=fun i hi=>⟨_,Za (show i<P.length by rw[f.len];exact hi)⟩
   have t:∀i j:Nat,i<n->j<n->S6 a.1 P i=S6 a.1 P j->P[i]?=P[j]? /\ W7 a.1 P (i:Int)=W7 a.1 P (j:Int):=fun i j hi d e=>by unfold S6 at e;simp only[bH]at e;have⟨R,w⟩:=I i hi;have⟨S,G⟩:=I j d;have o:=e.1;unfold Vz at o;rw[YI,YI,w,G]at o;have o:48+R=48+S:=o;exact⟨by rw[w,G];congr 1;omega,e.2⟩
   have g:∀i j:Nat,i<n->j<n->z[i]?=z[j]? -> P[i]?=P[j]?:= fun i j hi d e=>(t i j hi d ((E i j hi d).1 e)).1;have⟨W,T⟩:=Zk4 f D g;refine⟨n-(k+1),(z,((k+1:Nat):Int)),by omega,⟨k+1,m',rfl,by omega,rfl,D,?_⟩,fun q=>?_⟩
   ·rcases l with l|l
    ·exact .inl fun i j hi d e=>l i j hi d (g i j hi d e)
    ·by_cases B:c=m'
     ·left;have u:∀i j:Nat,i<n->j<n->P[i]?=P[j]? -> W7 a.1 P (i:Int)=W7 a.1 P (j:Int):=fun i j hi d e=>(t i j hi d ((E i j hi d).1 (T B i j hi d e))).2;have:=y P f.len u;exact fun i j hi d e=>this i j hi d (g i j hi d e)
     ·right;omega
   ·show Ty N a (q+1) P (k:Int)=_;simp only[Ty,p,YY A,cT];rw[DD _ (by omega),bS,O,Hm,Xb (by omega)]
  ·right;intro q;obtain rfl:k=n:=by omega
   refine⟨true,?_,rfl⟩;show Ty N a (q+1) P (k:Int)=_;simp only[Ty,p,YZ (Zq _),cF];refine fa2 C x.2 f.len ?_;rcases l with l|l
   ·exact l
   ·omega
 ·refine⟨0,1,rfl,by omega,by omega,⟨by simp,fun c f=>?_,fun m V=>⟨0,?_⟩⟩,.inr (by omega)⟩
  ·rw[(List.mem_replicate.1 f).2];omega
  ·obtain rfl:m=0:=by omega
   rw[List.getElem?_replicate,mD x.1];rfl
theorem ZpZ(e:8388611<N)(P:Xp)(a:RP P)(g:8388611+dL (oL P.ZG)<=N/\dL (oL P.ZG)<=4194304)(h:cL (oL P.ZG)<=4194304):∃f,z6 N P=some f:=by
 unfold z6;have⟨b,d,_⟩:=ZpY (N:=N) (by omega) [P] (by simp) (fun q c=>by rw[aC.1 c];exact⟨a,by omega⟩) (by unfold V9;simp;omega);rw[d,bS,ZeS N P.ZG (by omega) (by have:(oL P.ZG).length<=4194304:=a.l;rw[Ht]at this;exact this) a.b (by omega),bS];cases b with
 |false=>exact⟨_,rfl⟩
 |true=>
  rw[cT];cases decide (((cL (oL P.ZG):Nat):Int)<=60)<;>exact⟨_,rfl⟩
theorem BdOk.sm{l:List YM}(h:BdOk p z l C O):QC p:=by have⟨e,f,d⟩:=h.np;have c:=e.2.1 p (aC.2 rfl);have⟨_,a,b,_⟩:=c;exact⟨a.2.1,b⟩
theorem Zri{l:List YM}(h:BdOk p z l C O)(v:P.length=O.length)(w:∀c∈P,0<=c/\c<1000):PC z P:=by
 have g:=h.sm;have K:=g.r;have L:=g.m;refine⟨h.en,?_,fun x d=>?_,fun x d=>?_,fun t i=>?_⟩
 ·have:(z.ZX.map fun t=>t.ZQ).length<=O.length:=by
   refine R6 O.length _ ?_ fun x d=>?_
   ·rw[eG,List.pairwise_map];exact h.n.ts.imp fun {a b} y=>by omega
   ·obtain⟨t,i,rfl⟩:=aM.1 d;have⟨k,o,m,s',x,a1,a2,_⟩:=(h.n.tm t i).e;have:=YB a2;omega
  rw[aN]at this;have:=h.n.on;omega
 ·have⟨k,o,A,B,j,r,s',D,E,q,s,_⟩:=(h.n.ed x d).e;have⟨a1,a2,a3,a4,_,a5,u⟩:=h.f.ac s' (Zb q) x.Act (Zb s);exact⟨⟨a1,by omega⟩,⟨a3,by omega⟩,a5,by omega⟩
 ·have⟨k,o,A,B,j,r,s',D,E,q,s,I,F,G,_⟩:=(h.n.ed x d).e;have:=Za (show j<P.length by rw[v];exact YB G);exact⟨_,by rw[F,YI];exact this,w _ (Zb this)⟩
 ·have⟨k,o,m,s',x,a1,a2,a3,a4,a5,u,H,_⟩:=(h.n.tm t i).e;have:=h.f.tk s' (Zb a3);exact⟨m,x,u,H,by omega,by omega⟩
theorem Zp5(g:8388611<N)(P:Xp)(k:z5 N=some true)(h:RP P)(i:8388611+dL (oL P.ZG)<=N/\dL (oL P.ZG)<=4194304)(j:cL (oL P.ZG)<=4194304):RV N P=some true:=by
 have⟨r,e,s,p⟩:=Zrs g P h i j;unfold RV;rw[k,bS,Zg,cF];have⟨f,q⟩:=ZpZ g P h i j;rw[q,bS];cases f with
 |false=>rw[cy,cT];rfl
 |true=>
  rw[Zg,cF,e,bS];by_cases d:r.2=0
  ·rw[show (r.2 != (0:Int))=false by simpa using d,cF];have⟨l,C,O,a⟩:=p d;have c:=a.n.on;rw[a.n.st,DD _ (by omega),bS];exact fa6 (by omega) ⟨YB a.n.o0,c⟩ a.n.st (fun P b m=>Zri a b m) (fun P b o=>Zay a b o)
  ·rw[show (r.2 != (0:Int))=true by simpa using d,cT]
end Gp
section
namespace Gx
open Go Go.Kx
def Zkq(x:T7):Prop:=((Lit.int .i64 x.Zt).wf=true)/\((Lit.int .i64 x.Lo).wf=true)/\((Lit.int .i64 x.Hi).wf=true)
def Zfw(x:T3):Prop:=(x.Zu.size<=bd)/\(Zkq x.Zv)
def Zfz(x:Y5):Prop:=((Lit.int .i64 x.Zt).wf=true)/\(x.Zw.size<=bd)/\(x.Field.size<=bd)/\((Lit.int .i64 x.N).wf=true)
def Zfx(x:LH):Prop:=(Zfz x.Zx)/\(x.Op.size<=bd)/\(Zfz x.Zy)
def Zfy(x:Vg):Prop:=(x.Zu.size<=bd)/\(x.Zz.length<=bd/\∀y∈x.Zz,Zfw y)/\(x.ZA.length<=bd/\∀y∈x.ZA,Zfx y)
mutual
def QY:Xq->Prop
 |⟨a0,a1,a2,a3,a4,a5,a6⟩=>((Lit.int .i64 a0).wf=true)/\(a1.size<=bd)/\(a2.length<=bd/\∀y∈a2,y.size<=bd)/\(a3.size<=bd)/\(a4.size<=bd)/\((Lit.int .i64 a5).wf=true)/\(a6.length<=bd/\P1 a6)
def P2:List Xq->Prop
 | []=>True
 |x::l=>QY x/\P2 l
def P1:List (List Xq)->Prop
 | []=>True
 |x::l=>(x.length<=bd/\P2 x)/\P1 l
end
mutual
def Qi:Xq->Nat
 |⟨_,_,_,_,_,_,a6⟩=>Pf a6+1
def Pg:List Xq->Nat
 | []=>0
 |x::l=>Qi x+Pg l
def Pf:List (List Xq)->Nat
 | []=>0
 |x::l=>Pg x+Pf l
end
theorem ZgA:∀l,Pg l=Um Qi l
 | []=>by simp only[Pg,Um]
 |x::l=>by simp only[Pg,Um];rw[ZgA l]
theorem Zfv:∀l,(∀x∈l,QY x)->P2 l
 | [],_=>by simp only[P2]
 |x::l,h=>by simp only[P2];exact⟨h x (Zj ..),Zfv l fun y a=>h y (Zi _ a)⟩
theorem ZmG:∀l,Pf l=Um (Um Qi) l
 | []=>by simp only[Pf,Um]
 |x::l=>by simp only[Pf,Um];rw[ZmG l,ZgA]
theorem Zko:∀l,(∀x∈l,x.length<=bd/\∀y∈x,QY y)->P1 l
 | [],_=>by simp only[P1]
 |x::l,h=>by simp only[P1];exact⟨⟨(h x (Zj ..)).1,Zfv x (h x (Zj ..)).2⟩,Zko l fun y a=>h y (Zi _ a)⟩
def QZ(x:Xp):Prop:=(x.Zu.size<=bd)/\(x.ZE.length<=bd/\∀y∈x.ZE,y.size<=bd)/\(x.ZF.length<=bd/\∀y∈x.ZF,Zfy y)/\(x.ZG.length<=bd/\∀y∈x.ZG,QY y)
def Ph(x:Xp):Nat:=Um Qi x.ZG
end Gx
end
namespace Gp
open Go Go.Kx Gx
section
set_option maxRecDepth 100000
theorem Zob(k:Nat):z5 (k+300)=some true:=by kernel_rfl
mutual
theorem Zo8:∀x,dI x<=cI x
 |⟨_,_,_,_,_,_,b⟩=>by simp only[dI,cI];have:=Zi9 b;omega
theorem ZeW:∀l,dL l<=cL l
 | []=>by simp only[dL,cL];omega
 |x::l=>by simp only[dL,cL];have:=Zo8 x;have:=ZeW l;omega
theorem Zi9:∀l,VQ l<=XC l
 | []=>by simp only[VQ,XC];omega
 |x::l=>by simp only[VQ,XC];have:=ZeW x;have:=Zi9 l;omega
end
mutual
theorem Zo5:∀x,cI (oI x)=Qi x
 |⟨k,f,t,n,a,x,b⟩=>by simp only[oI,cI,Qi,ZiB b]
theorem ZeT:∀l,cL (oL l)=Pg l
 | []=>by simp only[oL,cL,Pg]
 |x::l=>by simp only[oL,cL,Pg,Zo5 x,ZeT l]
theorem ZiB:∀l,XC (WU l)=Pf l
 | []=>by simp only[WU,XC,Pf]
 |x::l=>by simp only[WU,XC,Pf,ZeT x,ZiB l]
end
mutual
theorem Zoj:∀x,QY x->bI (oI x)
 |⟨k,f,t,n,a,x,b⟩,h=>by simp only[QY]at h;simp only[oI,bI];rw[ZfS];have c:=h.2.2.1.1;have d:=h.2.2.2.2.2.2.1;unfold bd at c d;exact⟨by omega,by omega,Zh7 b h.2.2.2.2.2.2.2⟩
theorem ZeD:∀l,P2 l->bL (oL l)
 | [],_=>by simp only[oL,bL]
 |x::l,h=>by simp only[P2]at h;simp only[oL,bL];exact⟨Zoj x h.1,ZeD l h.2⟩
theorem Zh7:∀l,P1 l->QF (WU l)
 | [],_=>by simp only[WU,QF]
 |x::l,h=>by simp only[P1]at h;simp only[WU,QF];have a:=h.1.1;unfold bd at a;exact⟨by rw[Ht];omega,ZeD x h.1.2,Zh7 l h.2⟩
end
theorem ZnR{p:Xp}(h:QZ p):RP p:=by
 have⟨_,f,c,d⟩:=h;refine⟨?_,?_,fun x e=>?_,?_,?_⟩
 ·have:=f.1;unfold bd at this;show p.ZE.length<=_;omega
 ·have:=c.1;unfold bd at this;show (p.ZF.map oM).length<=_;rw[aN];omega
 ·obtain⟨m,g,rfl⟩:=aM.1 e;have⟨_,a,b⟩:=c.2 m g;have a:=a.1;have b:=b.1;unfold bd at a b;exact⟨by show m.Zz.length<=_;omega,by show (m.ZA.map oA).length<=_;rw[aN];omega⟩
 ·have:=d.1;unfold bd at this;show (oL p.ZG).length<=_;rw[Ht];omega
 ·exact ZeD _ (Zfv _ d.2)
theorem Zo6(p:Xp):cL (oL p.ZG)=Ph p:=by rw[ZeT,ZgA];rfl
theorem plain:∀(a:Xp),(QZ a/\Ph a<=bd)->∃N,RV N a=some true:=by rintro P ⟨c,b⟩;have:=ZeW (oL P.ZG);rw[<-Zo6]at b;unfold bd at b;exact⟨20000000+300,Zp5 (by omega) P (Zob _) (ZnR c) ⟨by omega,by omega⟩ (by omega)⟩
end
end Gp
