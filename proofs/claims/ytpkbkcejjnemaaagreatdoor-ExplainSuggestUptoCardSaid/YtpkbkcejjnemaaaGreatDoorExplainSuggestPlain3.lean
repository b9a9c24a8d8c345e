/- The plain law, part 3: what the functions compute answers as the statement says. -/
import Derived.Test.YtpkbkcejjnemaaaGreatDoorExplainSuggestPlain2
set_option linter.all false
namespace Gp
open Go Go.Kx Gx
section
variable {N:Nat}
theorem Pn {x:T0} {first:Nat} (c:x.ZA=(first:Int)) (d:first<=1000) (e:x.Zz.length<=4) (y:Nat):S4 N x (y:Int)=some (decide (first<=y/\y < first+x.Zz.length)):=by
 unfold S4
 rw [c,YE (by omega) (by omega)]
 by_cases a:first<=y
 ·rw [dT (show (y:Int)>=(first:Int) by omega)]
  by_cases b:y < first+x.Zz.length
  ·rw [dT (show first<=y/\y < first+x.Zz.length from ⟨a,b⟩),dT (by omega)];rfl
  ·rw [dF (show ¬ (first<=y/\y < first+x.Zz.length) from fun h=>b h.2),dF (by omega)];rfl
 ·rw [dF (show ¬ (y:Int)>=(first:Int) by omega),dF (show ¬ (first<=y/\y < first+x.Zz.length) from fun h=>a h.1)];rfl
abbrev Y4:=Nat->Option ByteArray
def Tg (σ:Y4) (i:Nat) (t:ByteArray):Y4:=fun j=>if j=i then some t else σ j
def Ww (first n:Nat) (ks:List T12) (σ:Y4) (y:Nat):Option ByteArray:=if first<=y/\y < first+n then σ (y-first) else (ks[y]?).map (·.S)
def W1 (first n:Nat) (ks:List T12) (σ:Y4) (p:Nat × Nat):Option Y4 :=
 if first<=p.1/\p.1 < first+n then
  match Ww first n ks σ p.2 with
  | none=>some σ
  | some t=>match σ (p.1-first) with
   | none=>some (Tg σ (p.1-first) t)
   | some u=>bif YY u t then some σ else none
 else some σ
def XQ (first n:Nat) (ks:List T12):List (Nat × Nat)->Y4->Option Y4
 | [],σ=>some σ
 | p::r,σ=>(W1 first n ks σ p).bind fun σ=>XQ first n ks r σ
def WZ (first n:Nat) (ks:List T12) (l:List (Nat × Nat)):Nat->Y4->Option Y4
 | 0,σ=>some σ
 | k+1,σ=>(XQ first n ks l σ).bind fun σ=>WZ first n ks l k σ
def Vu:List (Int × Int)->List (Nat × Nat)
 | []=>[]
 | e::r=>(e.1.toNat,e.2.toNat)::(e.2.toNat,e.1.toNat)::Vu r
structure Rp (n:Nat) (σ:Y4) (s:List ByteArray) (b:List Bool):Prop where
 ls:s.length=n
 lb:b.length=n
 b:∀ i,i < n->b[i]? = some (σ i).isSome
 s:∀ i t,i < n->σ i=some t->s[i]? = some t
theorem Rp.set {n:Nat} {σ:Y4} {s:List ByteArray} {b:List Bool} (h:Rp n σ s b) {i:Nat} (hi:i < n) (t:ByteArray):Rp n (Tg σ i t) (s.set i t) (b.set i true):=by
 refine ⟨by rw [List.length_set];exact h.ls,by rw [List.length_set];exact h.lb,fun j a=>?_,fun j u a d=>?_⟩
 ·rw [List.getElem?_set]
  unfold Tg
  by_cases c:j=i
  ·subst c;rw [if_pos rfl,if_pos rfl,if_pos (by rw [h.lb];exact a)];rfl
  ·rw [if_neg c,if_neg (Ne.symm c)];exact h.b j a
 ·rw [List.getElem?_set]
  unfold Tg at d
  by_cases c:j=i
  ·subst c;rw [if_pos rfl] at d;cases d;rw [if_pos rfl,if_pos (by rw [h.ls];exact a)]
  ·rw [if_neg c] at d;rw [if_neg (Ne.symm c)];exact h.s j u a d
theorem Rp.same {n:Nat} {σ:Y4} {s:List ByteArray} {b:List Bool} (h:Rp n σ s b) {i:Nat} (hi:i < n) {t:ByteArray} (e:σ i=some t):Rp n σ (s.set i t) (b.set i true):=by
 refine ⟨by rw [List.length_set];exact h.ls,by rw [List.length_set];exact h.lb,fun j a=>?_,fun j u a d=>?_⟩
 ·rw [List.getElem?_set]
  by_cases c:j=i
  ·subst c;rw [if_pos rfl,if_pos (by rw [h.lb];exact a),e];rfl
  ·rw [if_neg (Ne.symm c)];exact h.b j a
 ·rw [List.getElem?_set]
  by_cases c:j=i
  ·subst c;rw [e] at d;cases d;rw [if_pos rfl,if_pos (by rw [h.ls];exact a)]
  ·rw [if_neg (Ne.symm c)];exact h.s j u a d
def Q4:(List ByteArray) × (List Bool) × Bool:=([],[],false)
theorem ZhU {a b:ByteArray} (h:YY a b=true):a=b:=by
 unfold YY at h
 rw [W9,W9] at h
 exact HB (by simpa using h)
theorem Ziq {x:T0} {first:Nat} (l:x.ZA=(first:Int)) (f:first<=1000) (g:x.Zz.length<=4) {ks:List T12} {σ:Y4} {s:List ByteArray} {b:List Bool} (h:Rp x.Zz.length σ s b) (k:Int) (ag:List ByteArray->List Bool->Int->Option ((List ByteArray) × (List Bool) × Bool)) (p:Nat × Nat) (B:p.2 < ks.length) :
  (W1 first x.Zz.length ks σ p=none/\RH N x ks s b k ag (p.1:Int) (p.2:Int)=some Q4) \/
  ∃ σ' s' b',W1 first x.Zz.length ks σ p=some σ'/\Rp x.Zz.length σ' s' b'/\RH N x ks s b k ag (p.1:Int) (p.2:Int)=ag s' b' (Z1 (k+1)):=by
 unfold RH W1
 rw [Pn l f g,Pn l f g]
 by_cases m:first<=p.1/\p.1 < first+x.Zz.length
 ·rw [dT m,if_pos m]
  have hi:p.1-first < x.Zz.length:=by omega
  have q:Z1 ((p.1:Int)-x.ZA)=((p.1-first:Nat):Int):=by rw [l,YE (by omega) (by omega)];omega
  -- what a source gives
  have key:∀ t:ByteArray,Ww first x.Zz.length ks σ p.2=some t->(∀ u,u=t->(W1 first x.Zz.length ks σ p=W1 first x.Zz.length ks σ p)) ->
    ((match σ (p.1-first) with | none=>some (Tg σ (p.1-first) t) | some u=>bif YY u t then some σ else none)=none/\QL x s b k ag (p.1:Int) t true=some Q4) \/
    ∃ σ' s' b',(match σ (p.1-first) with | none=>some (Tg σ (p.1-first) t) | some u=>bif YY u t then some σ else none)=some σ'/\Rp x.Zz.length σ' s' b'/\QL x s b k ag (p.1:Int) t true=ag s' b' (Z1 (k+1)):=by
   intro t D _
   have C:=h.b _ hi
   unfold QL
   rw [q,Yb,C]
   have c:=Za (show p.1-first < s.length by rw [h.ls];exact hi)
   have i:=Za (show p.1-first < b.length by rw [h.lb];exact hi)
   cases d:σ (p.1-first) with
   | none =>
    right
    refine ⟨_,_,_,rfl,h.set hi t,?_⟩
    simp only [Option.isSome_none,cT,cond_false,bS]
    unfold S3
    simp only [cT,cond_false,q,Yb,c,i,bS,XE]
   | some u =>
    have v:=h.s _ _ hi d
    simp only [Option.isSome_some,cT,bS,Yb,v]
    show (_/\S3 x s b k ag (p.1:Int) t true (!(YY u t))=some Q4)\/∃ σ' s' b',_/\_/\S3 x s b k ag (p.1:Int) t true (!(YY u t))=ag s' b' (Z1 (k+1))
    unfold S3
    cases e:YY u t with
    | false=>exact .inl ⟨rfl,rfl⟩
    | true =>
     right
     have:=ZhU e
     subst this
     refine ⟨_,_,_,rfl,h.same hi d,?_⟩
     simp only [Zh,cT,cond_false,q,Yb,c,i,bS,XE]
  by_cases o:first<=p.2/\p.2 < first+x.Zz.length
  ·have w:p.2-first < x.Zz.length:=by omega
   have z:Z1 ((p.2:Int)-x.ZA)=((p.2-first:Nat):Int):=by rw [l,YE (by omega) (by omega)];omega
   have c:=Za (show p.2-first < s.length by rw [h.ls];exact w)
   have e:Ww first x.Zz.length ks σ p.2=σ (p.2-first):=by unfold Ww;rw [if_pos o]
   rw [dT o]
   simp only [bS,Zh,cond_false,cT,z,Yb,c,h.b _ w]
   cases d:σ (p.2-first) with
   | none =>
    right
    refine ⟨σ,s,b,by rw [e,d],h,?_⟩
    unfold QL S3;rfl
   | some t =>
    have j:=h.s _ _ w d
    rw [c] at j
    rw [Zl j]
    rw [e,d]
    exact key t (by rw [e,d]) fun _ _=>rfl
  ·have A:=Za B
   have e:Ww first x.Zz.length ks σ p.2=some (ks[p.2]).S:=by unfold Ww;rw [if_neg o,A];rfl
   rw [dF o]
   simp only [bS,Zh,cond_false,Yb,A]
   rw [e]
   exact key _ e fun _ _=>rfl
 ·rw [dF m,if_neg m]
  exact .inr ⟨σ,s,b,rfl,h,rfl⟩
theorem ZsT {x:T0} {first:Nat} (p:x.ZA=(first:Int)) (d:first<=1000) (f:x.Zz.length<=4) {ks:List T12} {σ:Y4} {s:List ByteArray} {b:List Bool} (h:Rp x.Zz.length σ s b) (j:Nat) (G:j<=4194304) (ag:List ByteArray->List Bool->Int->Option ((List ByteArray) × (List Bool) × Bool)) {e:Int × Int} (q:x.ZB.Zy[j]? = some e) (H:0<=e.1/\e.1 < (ks.length:Int)) (I:0<=e.2/\e.2 < (ks.length:Int)) (n:Nat) (v:3<=n) :
  (XQ first x.Zz.length ks [(e.1.toNat,e.2.toNat),(e.2.toNat,e.1.toNat)] σ=none/\VO N x ks (j:Int) ag n s b 0=some Q4) \/
  ∃ σ' s' b',XQ first x.Zz.length ks [(e.1.toNat,e.2.toNat),(e.2.toNat,e.1.toNat)] σ=some σ'/\Rp x.Zz.length σ' s' b'/\VO N x ks (j:Int) ag n s b 0=ag s' b' ((j+1:Nat):Int):=by
 obtain ⟨n,rfl⟩:∃ m,n=m+3:=⟨n-3,by omega⟩
 have t:e.1=((e.1.toNat:Nat):Int):=by omega
 have u:e.2=((e.2.toNat:Nat):Int):=by omega
 have t0:decide ((0:Int) < 2)=true:=rfl
 have B:decide ((1:Int) < 2)=true:=rfl
 have t2:decide ((2:Int) < 2)=false:=rfl
 have C:Z1 ((0:Int)+1)=1:=by rw [YE (by omega) (by omega)];rfl
 have w2:Z1 ((1:Int)+1)=2:=by rw [YE (by omega) (by omega)];rfl
 have D:Z1 ((1:Int)-0)=1:=by rw [YE (by omega) (by omega)];rfl
 have E:Z1 ((1:Int)-1)=0:=by rw [YE (by omega) (by omega)];rfl
 have g:((0:Int)==0)=true:=rfl
 have i:((1:Int)==0)=false:=rfl
 have k:((1:Int)==1)=true:=rfl
 rw [VO,t0,Yb,q,D]
 simp only [cT,cond_false,bS,g,i,k]
 have a:=Ziq (N:=N) p d f h 0 (VO N x ks (j:Int) ag (n+2)) (e.1.toNat,e.2.toNat) (by show e.2.toNat < ks.length;omega)
 simp only [<- t,<- u] at a
 rcases a with ⟨a,l⟩ | ⟨σ1,L,M,a,l,w⟩
 ·left
  rw [l]
  exact ⟨by unfold XQ;rw [a];rfl,rfl⟩
 ·rw [w,C,VO,B,Yb,q,E]
  simp only [cT,cond_false,bS,g,i,k]
  have c:=Ziq (N:=N) p d f l 1 (VO N x ks (j:Int) ag (n+1)) (e.2.toNat,e.1.toNat) (by show e.1.toNat < ks.length;omega)
  simp only [<- t,<- u] at c
  rcases c with ⟨c,o⟩ | ⟨σ2,z,v2,c,o,A⟩
  ·left
   rw [o]
   refine ⟨?_,rfl⟩
   unfold XQ;rw [a,bS];unfold XQ;rw [c];rfl
  ·right
   rw [A,w2,VO,t2]
   simp only [cond_false]
   unfold Zci
   rw [Ye (by omega)]
   refine ⟨σ2,z,v2,?_,o,rfl⟩
   unfold XQ;rw [a,bS];unfold XQ;rw [c];rfl
theorem Zjh (first n:Nat) (ks:List T12):∀ (a b:List (Nat × Nat)) (σ:Y4),XQ first n ks (a++b) σ=(XQ first n ks a σ).bind fun σ=>XQ first n ks b σ
 | [],b,σ=>rfl
 | p::a,b,σ=>by
  rw [List.cons_append,XQ,XQ]
  cases W1 first n ks σ p with
  | none=>rfl
  | some σ'=>exact Zjh first n ks a b σ'
theorem Zkz (hN:4194304 < N) {x:T0} {first:Nat} (i:x.ZA=(first:Int)) (c:first<=1000) (d:x.Zz.length<=4) {ks:List T12} (a:WO ks.length x.ZB) (k:Int) (ag:List ByteArray->List Bool->Int->Option ((List ByteArray) × (List Bool) × Bool)) :
  ∀ (r:List (Int × Int)) (n j:Nat) (σ:Y4) (s:List ByteArray) (b:List Bool),x.ZB.Zy.drop j=r->r.length < n->Rp x.Zz.length σ s b ->
  (XQ first x.Zz.length ks (Vu r) σ=none/\Ul N x ks k ag n s b (j:Int)=some Q4) \/
  ∃ σ' s' b',XQ first x.Zz.length ks (Vu r) σ=some σ'/\Rp x.Zz.length σ' s' b'/\Ul N x ks k ag n s b (j:Int)=ag s' b' (Z1 (k+1))
 | [],n,j,σ,s,b,hd,hn,h=>by
  obtain ⟨n,rfl⟩:=pS n (by omega)
  rw [Ul,Yp (Xr hd)]
  exact .inr ⟨σ,s,b,rfl,h,rfl⟩
 | e::r,n,j,σ,s,b,hd,hn,h=>by
  obtain ⟨n,rfl⟩:=pS n (by omega)
  have ⟨m,l,o⟩:=Xp hd
  have u:=a.el
  have ⟨a1,a2⟩:=a.e e (Zb l)
  rw [Ul,Yo m]
  simp only [cT]
  have v:Vu (e::r)=[(e.1.toNat,e.2.toNat),(e.2.toNat,e.1.toNat)]++Vu r:=rfl
  rw [v,Zjh]
  rcases ZsT (N:=N) i c d h j (by omega) (Ul N x ks k ag n) l a1 a2 N (by omega) with ⟨f,g⟩ | ⟨σ1,p,q,f,g,t⟩
  ·left;rw [f];exact ⟨rfl,g⟩
  ·rw [f,t]
   exact Zkz hN i c d a k ag r n (j+1) σ1 p q o (by simp at hn;omega) g
theorem ZkB (hN:4194304 < N) {x:T0} {first:Nat} (i:x.ZA=(first:Int)) (c:first<=1000) (d:x.Zz.length<=4) {ks:List T12} (a:WO ks.length x.ZB) :
  ∀ (q n k:Nat) (σ:Y4) (s:List ByteArray) (b:List Bool),k+q=x.Zz.length+1->q < n->Rp x.Zz.length σ s b ->
  (WZ first x.Zz.length ks (Vu x.ZB.Zy) q σ=none/\VA N x ks n s b (k:Int)=some Q4) \/
  ∃ σ' s' b',WZ first x.Zz.length ks (Vu x.ZB.Zy) q σ=some σ'/\Rp x.Zz.length σ' s' b'/\VA N x ks n s b (k:Int)=some (s',b',true)
 | 0,n,k,σ,s,b,hk,hn,h=>by
  obtain ⟨n,rfl⟩:=pS n (by omega)
  rw [VA,dF (by omega)]
  exact .inr ⟨σ,s,b,rfl,h,rfl⟩
 | q+1,n,k,σ,s,b,hk,hn,h=>by
  obtain ⟨n,rfl⟩:=pS n (by omega)
  have m:=a.el
  rw [VA,dT (by omega),WZ]
  simp only [cT]
  rcases Zkz hN i c d a (k:Int) (VA N x ks n) x.ZB.Zy N 0 σ s b rfl (by omega) h with ⟨e,f⟩ | ⟨σ1,j,l,e,f,g⟩
  ·left;rw [e];exact ⟨rfl,f⟩
  ·have g:Ul N x ks (k:Int) (VA N x ks n) N s b (0:Int)=VA N x ks n j l (Z1 ((k:Int)+1)):=g
   rw [e,g,Ye (by omega)]
   exact ZkB hN i c d a q n (k+1) σ1 j l (by omega) (by omega) f
theorem ZiW {α:Type} (n:Nat) (h:n<=4294967296) (v:α):Xs v (n:Int) (n:Int)=some (List.replicate n v):=by
 unfold Xs
 have a:decide ((n:Int)<=4294967296)=true:=by simp;omega
 simp
 rw [a];rfl
theorem ZrV (hN:4194304 < N) {x:T0} {first:Nat} (d:x.ZA=(first:Int)) (a:first<=1000) (b:x.Zz.length<=4) {ks:List T12} (c:WO ks.length x.ZB) :
  (WZ first x.Zz.length ks (Vu x.ZB.Zy) (x.Zz.length+1) (fun _=>none)=none/\z75 N x ks=some Q4) \/
  ∃ σ' s' b',WZ first x.Zz.length ks (Vu x.ZB.Zy) (x.Zz.length+1) (fun _=>none)=some σ'/\Rp x.Zz.length σ' s' b'/\z75 N x ks=some (s',b',true):=by
 unfold z75
 rw [ZiW _ (by omega),ZiW _ (by omega)]
 simp only [bS]
 exact ZkB hN d a b c (x.Zz.length+1) N 0 (fun _=>none) _ _ (by omega) (by omega) ⟨by simp,by simp,fun i hi=>by simp [hi],fun i t _ h=>by cases h⟩
end
section
variable {first n:Nat} {ks:List T12}
def LeT (σ σ':Y4):Prop:=∀ i t,σ i=some t->σ' i=some t
theorem LeT.trans {a b c:Y4} (h:LeT a b) (k:LeT b c):LeT a c:=fun i t e=>k i t (h i t e)
theorem ZeE {σ σ':Y4} {p:Nat × Nat} (h:W1 first n ks σ p=some σ'):σ'=σ\/∃ t,(first<=p.1/\p.1 < first+n)/\Ww first n ks σ p.2=some t/\σ (p.1-first)=none/\σ'=Tg σ (p.1-first) t:=by
 unfold W1 at h
 split at h
 ·rename_i c
  cases a:Ww first n ks σ p.2 with
  | none=>rw [a] at h;cases h;exact .inl rfl
  | some t =>
   rw [a] at h
   cases b:σ (p.1-first) with
   | none=>rw [b] at h;cases h;exact .inr ⟨t,c,rfl,rfl,rfl⟩
   | some u =>
    rw [b] at h
    have h:(bif YY u t then some σ else none)=some σ':=h
    cases e:YY u t with
    | false=>rw [e] at h;cases h
    | true=>rw [e] at h;cases h;exact .inl rfl
 ·cases h;exact .inl rfl
theorem ZkC {σ σ':Y4} {p:Nat × Nat} (h:W1 first n ks σ p=some σ'):LeT σ σ':=by
 rcases ZeE h with rfl | ⟨t,_,_,a,rfl⟩
 ·exact fun i u e=>e
 ·intro i u e
  unfold Tg
  by_cases c:i=p.1-first
  ·rw [c,a] at e;cases e
  ·rw [if_neg c];exact e
theorem ZsW {σ σ':Y4} {p:Nat × Nat} (h:W1 first n ks σ p=some σ') (b:first<=p.1/\p.1 < first+n) {t:ByteArray} (c:Ww first n ks σ p.2=some t):σ' (p.1-first)=some t:=by
 unfold W1 at h
 rw [if_pos b,c] at h
 cases a:σ (p.1-first) with
 | none =>
  rw [a] at h
  cases h
  unfold Tg;rw [if_pos rfl]
 | some u =>
  rw [a] at h
  have h:(bif YY u t then some σ else none)=some σ':=h
  cases e:YY u t with
  | false=>rw [e] at h;cases h
  | true=>rw [e] at h;cases h;rw [a,ZhU e]
theorem Zai:∀ {l:List (Nat × Nat)} {σ σ':Y4},XQ first n ks l σ=some σ'->LeT σ σ'
 | [],σ,σ',h=>by cases h;exact fun i t e=>e
 | p::r,σ,σ',h=>by
  rw [XQ] at h
  cases a:W1 first n ks σ p with
  | none=>rw [a] at h;cases h
  | some σ1=>rw [a] at h;exact (ZkC a).trans (Zai h)
def Hu (first n:Nat) (ks:List T12) (l:List (Nat × Nat)) (σ:Y4):Prop:=∀ p∈l,first<=p.1/\p.1 < first+n->∀ t,Ww first n ks σ p.2=some t->σ (p.1-first)=some t
theorem Zsu {σ σ':Y4} (a:LeT σ σ') (b:∀ i,i < n->σ i=none->σ' i=none) {y:Nat} {t:ByteArray} (h:Ww first n ks σ' y=some t):Ww first n ks σ y=some t:=by
 unfold Ww at h ⊢
 split at h
 ·rename_i c
  cases d:σ (y-first) with
  | none=>rw [b _ (by omega) d] at h;cases h
  | some u =>
   have:=a _ _ d
   rw [this] at h
   rw [if_pos c];exact h
 ·rename_i c
  rw [if_neg c];exact h
theorem Zji:∀ {l:List (Nat × Nat)} {σ σ':Y4},XQ first n ks l σ=some σ'->(∀ i,i < n->σ i=none->σ' i=none)->Hu first n ks l σ'
 | [],σ,σ',h,hng=>fun p j=>by cases j
 | p::r,σ,σ',h,hng=>by
  have a:=Zai h
  rw [XQ] at h
  cases b:W1 first n ks σ p with
  | none=>rw [b] at h;cases h
  | some σ1 =>
   rw [b] at h
   have h:XQ first n ks r σ1=some σ':=h
   have k:=ZkC b
   have m:=Zai h
   have o:=Zji h fun i hi e=>by
    cases g:σ i with
    | none=>exact hng i hi g
    | some u=>rw [k i u g] at e;cases e
   intro q c d t f
   rcases List.mem_cons.1 c with rfl | c
   ·exact m _ _ (ZsW b d (Zsu a hng f))
   ·exact o q c d t f
theorem ZgV:∀ {l:List (Nat × Nat)} {σ:Y4},Hu first n ks l σ->XQ first n ks l σ=some σ
 | [],σ,h=>rfl
 | p::r,σ,h=>by
  have e:W1 first n ks σ p=some σ:=by
   unfold W1
   split
   ·rename_i b
    cases c:Ww first n ks σ p.2 with
    | none=>rfl
    | some t =>
     have:=h p Zk b t c
     rw [this]
     show (bif YY t t then some σ else none)=some σ
     rw [Zdg];rfl
   ·rfl
  rw [XQ,e]
  exact ZgV fun q a=>h q (Zj _ a)
theorem ZgW {l:List (Nat × Nat)} {σ:Y4} (h:Hu first n ks l σ):∀ k,WZ first n ks l k σ=some σ
 | 0=>rfl
 | k+1=>by rw [WZ,ZgV h];exact ZgW h k
def U3:Nat->Y4->Nat
 | 0,_=>0
 | k+1,σ=>U3 k σ+(if (σ k).isNone then 1 else 0)
theorem Zg3 {σ σ':Y4} (h:LeT σ σ'):∀ k,U3 k σ'<=U3 k σ/\(U3 k σ'=U3 k σ->∀ i,i < k->σ i=none->σ' i=none)
 | 0=>⟨Zp _,fun _ i hi=>by omega⟩
 | k+1=>by
  have ⟨d,f⟩:=Zg3 h k
  rw [U3,U3]
  cases g:σ k with
  | none =>
   cases a:σ' k with
   | none =>
    refine ⟨by simp;exact d,fun e i hi b=>?_⟩
    by_cases c:i=k
    ·rw [c];exact a
    ·exact f (by simpa using e) i (by omega) b
   | some u =>
    simp only [Option.isNone_none,Option.isNone_some]
    exact ⟨by simp;omega,fun e=>by simp at e;omega⟩
  | some u =>
   have a:=h k u g
   rw [a]
   refine ⟨by simp;exact d,fun e i hi b=>?_⟩
   by_cases c:i=k
   ·rw [c,g] at b;cases b
   ·exact f (by simpa using e) i (by omega) b
theorem Zg4:∀ k σ,U3 k σ<=k
 | 0,_=>Zp _
 | k+1,σ=>by
  have:=Zg4 k σ
  rw [U3]
  split<;>omega
theorem ZjS {l:List (Nat × Nat)}:∀ (k:Nat) {σ σ':Y4},WZ first n ks l k σ=some σ'->U3 n σ < k->Hu first n ks l σ'
 | 0,σ,σ',h,hc=>by omega
 | k+1,σ,σ',h,hc=>by
  rw [WZ] at h
  cases b:XQ first n ks l σ with
  | none=>rw [b] at h;cases h
  | some σ1 =>
   rw [b] at h
   have h:WZ first n ks l k σ1=some σ':=h
   have ⟨d,c⟩:=Zg3 (Zai b) n
   by_cases e:U3 n σ1=U3 n σ
   ·have a:=Zji b (c e)
    rw [ZgW a k] at h
    cases h
    exact a
   ·exact ZjS k h (by omega)
theorem ZsV {P:ByteArray->Prop} (f:∀ v∈ks,P v.S) {σ σ':Y4} {p:Nat × Nat} (h:W1 first n ks σ p=some σ') (b:∀ i t,σ i=some t->P t):∀ i t,σ' i=some t->P t:=by
 rcases ZeE h with rfl | ⟨t,g,a,_,rfl⟩
 ·exact b
 ·intro i u e
  unfold Tg at e
  by_cases c:i=p.1-first
  ·rw [if_pos c] at e
   cases e
   unfold Ww at a
   split at a
   ·exact b _ _ a
   ·cases d:ks[p.2]? with
    | none=>rw [d] at a;cases a
    | some v=>rw [d] at a;cases a;exact f v (Zb d)
  ·rw [if_neg c] at e;exact b i u e
theorem Zjl {P:ByteArray->Prop} (b:∀ v∈ks,P v.S):∀ {l:List (Nat × Nat)} {σ σ':Y4},XQ first n ks l σ=some σ'->(∀ i t,σ i=some t->P t)->∀ i t,σ' i=some t->P t
 | [],σ,σ',h,hσ=>by cases h;exact hσ
 | p::r,σ,σ',h,hσ=>by
  rw [XQ] at h
  cases a:W1 first n ks σ p with
  | none=>rw [a] at h;cases h
  | some σ1=>rw [a] at h;exact Zjl b h (ZsV b a hσ)
theorem Zej {P:ByteArray->Prop} (b:∀ v∈ks,P v.S) {l:List (Nat × Nat)}:∀ (k:Nat) {σ σ':Y4},WZ first n ks l k σ=some σ'->(∀ i t,σ i=some t->P t)->∀ i t,σ' i=some t->P t
 | 0,σ,σ',h,hσ=>by cases h;exact hσ
 | k+1,σ,σ',h,hσ=>by
  rw [WZ] at h
  cases a:XQ first n ks l σ with
  | none=>rw [a] at h;cases h
  | some σ1=>rw [a] at h;exact Zej b k h (Zjl b a hσ)
structure D9 (first n:Nat) (ks:List T12) (l:List (Nat × Nat)) (W:Nat->Option ByteArray):Prop where
  k:∀ y,¬ (first<=y/\y < first+n)->W y=(ks[y]?).map (·.S)
  e:∀ p∈l,W p.1=W p.2
def QT (first n:Nat) (σ:Y4) (W:Nat->Option ByteArray):Prop:=∀ i t,i < n->σ i=some t->W (first+i)=some t
theorem ZsU {W:Nat->Option ByteArray} {l:List (Nat × Nat)} (f:D9 first n ks l W) {σ:Y4} {p:Nat × Nat} (g:p∈l) (h:QT first n σ W):∃ σ',W1 first n ks σ p=some σ'/\QT first n σ' W:=by
 unfold W1
 split
 ·rename_i o
  cases b:Ww first n ks σ p.2 with
  | none=>exact ⟨σ,rfl,h⟩
  | some t =>
   have j:W p.2=some t:=by
    unfold Ww at b
    split at b
    ·have:=h (p.2-first) t (by omega) b
     rw [show first+(p.2-first)=p.2 by omega] at this;exact this
    ·rename_i d;rw [f.k _ d];exact b
   have a:W p.1=some t:=(f.e p g).trans j
   cases m:σ (p.1-first) with
   | none =>
    refine ⟨_,rfl,fun i u hi e=>?_⟩
    unfold Tg at e
    by_cases c:i=p.1-first
    ·rw [if_pos c] at e;cases e
     rw [c,show first+(p.1-first)=p.1 by omega];exact a
    ·rw [if_neg c] at e;exact h i u hi e
   | some u =>
    have:=h (p.1-first) u (by omega) m
    rw [show first+(p.1-first)=p.1 by omega,a] at this
    cases this
    refine ⟨σ,?_,h⟩
    show (bif YY t t then some σ else none)=some σ
    rw [Zdg];rfl
 ·exact ⟨σ,rfl,h⟩
theorem Zjk {W:Nat->Option ByteArray} {l:List (Nat × Nat)} (a:D9 first n ks l W):∀ {r:List (Nat × Nat)} {σ:Y4},(∀ p∈r,p∈l)->QT first n σ W->∃ σ',XQ first n ks r σ=some σ'/\QT first n σ' W
 | [],σ,_,h=>⟨σ,rfl,h⟩
 | p::r,σ,hr,h=>by
  have ⟨σ1,c,d⟩:=ZsU a (hr p Zk) h
  rw [XQ,c]
  exact Zjk a (fun q b=>hr q (Zj _ b)) d
theorem ZjU {W:Nat->Option ByteArray} {l:List (Nat × Nat)} (a:D9 first n ks l W):∀ (k:Nat) {σ:Y4},QT first n σ W->∃ σ',WZ first n ks l k σ=some σ'/\QT first n σ' W
 | 0,σ,h=>⟨σ,rfl,h⟩
 | k+1,σ,h=>by
  have ⟨σ1,c,d⟩:=Zjk a (fun p b=>b) h
  rw [WZ,c]
  exact ZjU a k d
theorem Zjg:∀ {l:List (Int × Int)} {e:Int × Int},e∈l->(e.1.toNat,e.2.toNat)∈Vu l/\(e.2.toNat,e.1.toNat)∈Vu l
 | d::r,e,h=>by
  rcases List.mem_cons.1 h with rfl | h
  ·exact ⟨Zk,Zj _ Zk⟩
  ·have ⟨a,b⟩:=Zjg h
   exact ⟨Zj _ (Zj _ a),Zj _ (Zj _ b)⟩
theorem Zd5:∀ {l:List (Int × Int)} {p:Nat × Nat},p∈Vu l->∃ e∈l,p=(e.1.toNat,e.2.toNat)\/p=(e.2.toNat,e.1.toNat)
 | d::r,p,h=>by
  rcases List.mem_cons.1 h with rfl | h
  ·exact ⟨d,Zk,.inl rfl⟩
  rcases List.mem_cons.1 h with rfl | h
  ·exact ⟨d,Zk,.inr rfl⟩
  have ⟨e,a,b⟩:=Zd5 h
  exact ⟨e,Zj _ a,b⟩
end
end Gp
section
section
namespace Gp
open Go Go.Kx Gx
variable {N:Nat}
structure Bd (x:T0) (L:Nat) (z:List T1):Prop where
 len:z.length<=33554432
 inn:∀ b∈z,b.X < (L:Int)/\b.Y < (L:Int)
 low:∀ (i:Nat) (f:T4),x.Zz[i]? = some f->(⟨-1,Z1 (x.ZA+(i:Int)),Z1 (0-f.Zv.Lo)⟩:T1)∈z
end Gp
end
namespace Gp
open Go Go.Kx Gx
section
variable {N:Nat}
def Small (ks:List T12):Prop:=∀ (i:Nat) (v:T12),ks[i]? = some v->-1000<=Yz v/\Yz v<=1000
end
section
variable {N:Nat}
def Vs (first:Nat):Nat->List T4->List T1
 | _,[]=>[]
 | i,f::r=>⟨((first+i:Nat):Int),-1,f.Zv.Hi⟩::⟨-1,((first+i:Nat):Int),-f.Zv.Lo⟩::Vs first (i+1) r
def Vq:List (Int × Int)->List T1
 | []=>[]
 | e::r=>⟨e.1,e.2,0⟩::⟨e.2,e.1,0⟩::Vq r
theorem BE (first:Nat):∀ (l:List T4) (i:Nat),(Vs first i l).length=2 * l.length
 | [],_=>rfl
 | f::r,i=>by show (Vs first (i+1) r).length+1+1=2 * (r.length+1);rw [BE first r (i+1)];omega
theorem Zde:∀ (l:List (Int × Int)),(Vq l).length=2 * l.length
 | []=>rfl
 | e::r=>by show (Vq r).length+1+1=2 * (r.length+1);rw [Zde r];omega
theorem Zdq (first:Nat):∀ (l:List T4) (i k:Nat) (f:T4),l[k]? = some f->(⟨((first+(i+k):Nat):Int),-1,f.Zv.Hi⟩:T1)∈Vs first i l/\(⟨-1,((first+(i+k):Nat):Int),-f.Zv.Lo⟩:T1)∈Vs first i l
 | [],_,_,_,h=>by simp at h
 | g::r,i,0,f,h=>by
  have:g=f:=by simpa using h
  subst this
  exact ⟨Zk,Zj _ Zk⟩
 | g::r,i,k+1,f,h=>by
  have ⟨a,b⟩:=Zdq first r (i+1) k f (by simpa using h)
  rw [show i+1+k=i+(k+1) by omega] at a b
  exact ⟨Zj _ (Zj _ a),Zj _ (Zj _ b)⟩
theorem HH (first:Nat):∀ (l:List T4) (i:Nat) (b:T1),b∈Vs first i l->∃ k f,l[k]? = some f/\(b=⟨((first+(i+k):Nat):Int),-1,f.Zv.Hi⟩\/b=⟨-1,((first+(i+k):Nat):Int),-f.Zv.Lo⟩)
 | [],_,b,h=>by simp [Vs] at h
 | g::r,i,b,h=>by
  rcases List.mem_cons.1 h with h | h
  ·exact ⟨0,g,rfl,.inl h⟩
  ·rcases List.mem_cons.1 h with h | h
   ·exact ⟨0,g,rfl,.inr h⟩
   ·have ⟨k,f,c,a⟩:=HH first r (i+1) b h
    rw [show i+1+k=i+(k+1) by omega] at a
    exact ⟨k+1,f,by simpa using c,a⟩
theorem ZhS {l:List (Int × Int)} {e:Int × Int} (h:e∈l):(⟨e.1,e.2,0⟩:T1)∈Vq l/\(⟨e.2,e.1,0⟩:T1)∈Vq l:=by
 induction l with
 | nil=>simp at h
 | cons g r c =>
  rcases List.mem_cons.1 h with h | h
  ·subst h;exact ⟨Zk,Zj _ Zk⟩
  ·have ⟨a,b⟩:=c h
   exact ⟨Zj _ (Zj _ a),Zj _ (Zj _ b)⟩
theorem Bz {l:List (Int × Int)} {b:T1} (h:b∈Vq l):∃ e∈l,b=⟨e.1,e.2,0⟩\/b=⟨e.2,e.1,0⟩:=by
 induction l with
 | nil=>simp [Vq] at h
 | cons g r d =>
  rcases List.mem_cons.1 h with h | h
  ·exact ⟨g,Zk,.inl h⟩
  ·rcases List.mem_cons.1 h with h | h
   ·exact ⟨g,Zk,.inr h⟩
   ·have ⟨e,a,c⟩:=d h
    exact ⟨e,Zj _ a,c⟩
structure BdX (x:T0) (first L:Nat) (z:List T1):Prop where
 bd:Bd x L z
 c:∀ b∈z,-20000<=b.C/\b.C<=20000
 fld:∀ (k:Nat) (f:T4),x.Zz[k]? = some f->(⟨((first+k:Nat):Int),-1,f.Zv.Hi⟩:T1)∈z/\(⟨-1,((first+k:Nat):Int),-f.Zv.Lo⟩:T1)∈z
 dif:∀ b∈x.ZB.Zw,b∈z
 eqs:∀ e∈x.ZB.Zy,(⟨e.1,e.2,0⟩:T1)∈z/\(⟨e.2,e.1,0⟩:T1)∈z
 inv:∀ b∈z,(∃ (k:Nat) (f:T4),x.Zz[k]? = some f/\(b=⟨((first+k:Nat):Int),-1,f.Zv.Hi⟩\/b=⟨-1,((first+k:Nat):Int),-f.Zv.Lo⟩))\/b∈x.ZB.Zw\/∃ e∈x.ZB.Zy,b=⟨e.1,e.2,0⟩\/b=⟨e.2,e.1,0⟩
end
section
variable {N:Nat}
structure Sg (F:List T4) (x:T0) (first:Nat) (ks:List T12):Prop where
 hx:XZ x
 hf:x.ZA=(first:Int)
 hfn:x.Zz.length<=4
 hle:first+x.Zz.length<=ks.length
 hk:ks.length<=24
 hin:WO ks.length x.ZB
 so:∀ f∈F,Xn f.Zv
 ff:∀ k,k < x.Zz.length->F[first+k]? = x.Zz[k]?
 fl:F.length=ks.length
 fits:∀ (y:Nat) (v:T12),ks[y]? = some v->WT v=true\/∃ f,F[y]? = some f/\XW f.Zv v=true
 tv:∀ e∈x.ZB.Zy,Xz F e.1=true/\Xz F e.2=true
 dc:∀ b∈x.ZB.Zw,-20000<=b.C/\b.C<=20000
 sz:∀ v∈ks,v.S.size<=4194304
theorem Vi {s:YV} {v:T12} (a:Xn s) (h:XW s v=true):v.Zt=s.Zt/\s.Lo<=Yz v/\Yz v<=s.Hi/\-1000<=Yz v/\Yz v<=1000/\(v.Zt=1\/v.Zt=2):=by
 unfold XW at h
 simp only [Zc,decide_eq_true_eq,beq_iff_eq] at h
 unfold Xn at a
 omega
theorem RK {v:T12} (h:WT v=true):v.Zt=0/\Yz v=0/\v.N=0:=by
 unfold WT at h
 simp only [Zc,beq_iff_eq] at h
 refine ⟨h.1,?_,h.2.1⟩
 unfold Yz
 rw [h.1]
 exact h.2.1
theorem Sg.sx {F:List T4} {x:T0} {first:Nat} {ks:List T12} (h:Sg F x first ks) {f:T4} {k:Nat} (a:x.Zz[k]? = some f):Xn f.Zv:=by
 have b:=(List.getElem?_eq_some_iff.1 a).1
 exact h.so f (Zb ((h.ff k b).trans a))
theorem Zsa {d:List T0} (G:XA d=true) {i:Nat} {x:T0} (H:d[i]? = some x) (t:XZ x) {ks:List T12} (c:Ud (Yh d) ks=true) (u:∀ v∈ks,v.S.size<=4194304):∃ first,Sg (Yh d) x first ks:=by
 have ⟨first,T,V,W,X,m⟩:=Pv G H
 have o:=ZdG c
 have D:WO ks.length x.ZB:=by rw [<- o];exact Zdx (HI m)
 have E:=HI m
 have a:=m
 unfold WQ at a
 simp only [Zc,decide_eq_true_eq] at a
 have g:first=(Yh (d.take i)).length:=by have:=a.2.2.1;omega
 unfold YJ at E
 simp only [Zc,decide_eq_true_eq] at E
 have ⟨_,I,L⟩:=E
 rw [XC] at I L
 refine ⟨first,t,T,a.2.1,by omega,by omega,D,fun f q=>?_,fun k w=>?_,o,fun y v O=>?_,fun e P=>?_,fun b R=>?_,u⟩
 ·unfold Yh at q
  have ⟨l,U,z⟩:=List.mem_flatten.1 q
  obtain ⟨Y,A,rfl⟩:=List.mem_map.1 U
  have ⟨Z,B⟩:=List.mem_iff_getElem?.1 A
  have ⟨_,_,_,_,_,h⟩:=Pv G B
  unfold WQ at h
  simp only [Zc] at h
  have h:=h.2.2.2.2.1
  rw [XC] at h
  have ⟨k,w⟩:=List.mem_iff_getElem?.1 z
  have:=h k f w
  unfold U5 at this
  simp only [Zc,decide_eq_true_eq] at this
  exact this.2.1
 ·have p:Yh d=Yh (d.take i)++(x.Zz++Yh (d.drop (i+1))):=by
   have M:d=d.take i++x::d.drop (i+1):=by
    have ⟨M,s⟩:=List.getElem?_eq_some_iff.1 H
    rw [<- s,List.getElem_cons_drop,List.take_append_drop]
   conv=>lhs;rw [M]
   rw [So,Q5]
  rw [p,Zo (by omega),g,Nat.add_sub_cancel_left,Zn w]
 ·unfold Ud at c
  simp only [Zc,decide_eq_true_eq] at c
  have s:=c.2
  rw [XC] at s
  have:=s y v O
  rw [Bool.or_eq_true,Nat.zero_add] at this
  rcases this with h | h
  ·exact .inl h
  ·unfold Wk at h
   right
   split at h
   ·rename_i f q
    exact ⟨f,q,h⟩
   ·cases h
 ·have ⟨j,C⟩:=List.mem_iff_getElem?.1 P
  have:=L j e C
  rwa [Zc] at this
 ·have ⟨j,C⟩:=List.mem_iff_getElem?.1 R
  have:=I j b C
  rw [decide_eq_true_eq] at this
  unfold XD at this
  omega
end
section
variable {N:Nat}
theorem Zja {W:List T12} (h:Small W) (y:Int):-1000<=Xy W y/\Xy W y<=1000:=by
 unfold Xy
 cases decide (y < 0) with
 | true=>simp
 | false =>
  simp only [cond_false]
  split
  ·rename_i v a
   obtain ⟨i,rfl,hi⟩:=UI a
   exact h i v hi
  ·omega
def Fts (F:List T4) (W:List T12):Prop:=∀ (y:Nat) (v:T12),W[y]? = some v->WT v=true\/∃ f,F[y]? = some f/\XW f.Zv v=true
theorem RU {fs:List T4} {vs:List T12} (h:XK fs vs=true) {k:Nat} {f:T4} {v:T12} (a:fs[k]? = some f) (b:vs[k]? = some v):XW f.Zv v=true:=by
 unfold XK at h
 rw [Zc] at h
 have h:=h.2
 rw [XC] at h
 have:=h k v b
 rw [Nat.zero_add] at this
 unfold Wk at this
 rw [a] at this
 exact this
theorem Zds {F:List T4} {x:T0} {first:Nat} {ks:List T12} (g:Sg F x first ks) {V:List T12} (hV:XK x.Zz V=true):Fts F (YF first V ks):=fun y v a=>by
 have d:=fit_len' hV
 rw [Vo first V ks (by have:=g.hle;omega)] at a
 split at a
 ·rename_i c
  obtain ⟨f,b⟩:∃ f,x.Zz[y-first]? = some f:=⟨x.Zz[y-first]'(by omega),by simp⟩
  refine .inr ⟨f,?_,RU hV b a⟩
  have:=g.ff (y-first) (by omega)
  rw [show first+(y-first)=y by omega] at this
  rw [this,b]
 ·exact g.fits y v a
where
 fit_len' {fs:List T4} {vs:List T12} (h:XK fs vs=true):vs.length=fs.length:=by
  unfold XK at h
  simp only [Zc,decide_eq_true_eq] at h
  exact h.1.symm
theorem Ge {F:List T4} {y:Nat} (h:Xz F (y:Int)=true) {f:T4} (a:F[y]? = some f):f.Zv.Zt=2:=by
 unfold Xz at h
 rw [Yb,a] at h
 simpa using h
theorem ZaA {a b:ByteArray} (h:(a.toList==b.toList)=true):a=b:=by
 rw [W9,W9] at h
 exact HB (by simpa using h)
end
end Gp
section
namespace Gp
open Go Go.Kx Gx
variable {N:Nat}
theorem Q3 {l:List T12} {e:Int × Int} (h:VV l e=true):∃ a b:Nat,∃ v w:T12,e.1=(a:Int)/\e.2=(b:Int)/\l[a]? = some v/\l[b]? = some w/\(v.Zt==0)=false/\(w.Zt==0)=false/\v.S=w.S:=by
 unfold VV at h
 cases c:Z5 l e.1 with
 | none=>rw [c] at h;cases h
 | some v =>
  cases d:Z5 l e.2 with
  | none=>rw [c,d] at h;cases h
  | some w =>
   rw [c,d] at h
   simp only [Zc,Bool.not_eq_true'] at h
   have ⟨a,f,g⟩:=UI c
   have ⟨b,i,j⟩:=UI d
   exact ⟨a,b,v,w,f,i,g,j,h.1,h.2.1,ZaA h.2.2⟩
theorem UP {l:List T12} {k:Nat} {v:T12} (h:l[k]? = some v):Vc l (k:Int)=(v.Zt==0)/\Xy l (k:Int)=Yz v:=by
 unfold Vc Xy
 rw [dF (show ¬ (k:Int) < 0 by omega),Yb,h]
 exact ⟨rfl,rfl⟩
end Gp
end
end
namespace Gp
open Go Go.Kx Gx
section
variable {N:Nat}
theorem Zjv (x:T0) (b:x.ZB.Zy.length<=20):∀ (r:List (Int × Int)) (n k:Nat) (a:List T1),x.ZB.Zy.drop k=r->r.length < n->a.length+2 * r.length<=33554432->Mj x n a (k:Int)=some (a++Vq r,0)
 | [],n,k,a,h,hn,ha=>by
  obtain ⟨n,rfl⟩:=pS n (by simp at hn;omega)
  rw [Mj,Yp (Xr h)]
  simp [Zch,Vq]
 | e::r,n,k,a,h,hn,ha=>by
  obtain ⟨n,rfl⟩:=pS n (by simp at hn;omega)
  have ⟨c,d,f⟩:=Xp h
  simp only [Zg] at hn ha
  rw [Mj,Yo c,Yb,d]
  simp only [cT,bS]
  rw [Y8 (by simp;omega),bS,Ye (by omega),Zjv x b r n (k+1) _ f (by omega) (by simp;omega)]
  simp [Vq]
theorem Zjw (x:T0) {first:Nat} (d:x.ZA=(first:Int)) (b:first<=1000) (c:x.Zz.length<=4) (g:∀ f∈x.Zz,-1000<=f.Zv.Lo/\f.Zv.Lo<=1000):∀ (r:List T4) (n k:Nat) (a:List T1),x.Zz.drop k=r->r.length < n->a.length+2 * r.length<=33554432->QK N x n a (k:Int)=DV N x (a++Vs first k r)
 | [],n,k,a,h,hn,ha=>by
  obtain ⟨n,rfl⟩:=pS n (by simp at hn;omega)
  rw [QK,Yp (Xr h)]
  simp [Vs]
 | f::r,n,k,a,h,hn,ha=>by
  obtain ⟨n,rfl⟩:=pS n (by simp at hn;omega)
  have ⟨j,i,l⟩:=Xp h
  have:=g f (Zb i)
  simp only [Zg] at hn ha
  rw [QK,Yo j,Yb,i]
  simp only [cT,bS]
  rw [Y8 (by simp;omega),bS,Ye (by omega),Zjw x d b c g r n (k+1) _ l (by omega) (by simp;omega),d,YE (n:=(first:Int)+(k:Int)) (by omega) (by omega),YE (by omega) (by omega)]
  have e:(0:Int)-f.Zv.Lo=-f.Zv.Lo:=by omega
  rw [e]
  simp [Vs]
def WH (first:Nat) (x:T0):List T1:=Vs first 0 x.Zz++x.ZB.Zw++Vq x.ZB.Zy
section
variable {F:List T4} {x:T0} {first:Nat} {ks:List T12}
theorem Sg.first_le (g:Sg F x first ks):first<=1000:=by have:=g.hle;have:=g.hk;omega
theorem Sg.lohi (g:Sg F x first ks) {f:T4} (a:f∈x.Zz):-1000<=f.Zv.Lo/\f.Zv.Lo<=1000/\-1000<=f.Zv.Hi/\f.Zv.Hi<=1000:=by
 have ⟨k,b⟩:=List.mem_iff_getElem?.1 a
 have:=g.sx b
 unfold Xn at this
 omega
theorem ZqH (hN:4194304 < N) (g:Sg F x first ks):QK N x N [] 0=some (WH first x,0):=by
 have b:=g.hin.dl
 have a:=g.hin.el
 have c:=g.hfn
 have:=Zjw (N:=N) x g.hf g.first_le g.hfn (fun f hf=>by have:=g.lohi hf;omega) x.Zz N 0 [] rfl (by omega) (by simp;omega)
 rw [show ((0:Nat):Int)=0 from rfl] at this
 rw [this]
 unfold DV
 have d:=BE first x.Zz 0
 rw [List.nil_append,Y8 (by omega),bS]
 exact Zjv x a x.ZB.Zy N 0 _ rfl (by omega) (by simp;omega)
theorem Zmd (g:Sg F x first ks) {b:T1} (h:b∈WH first x):((-1<=b.X/\b.X < (ks.length:Int))/\(-1<=b.Y/\b.Y < (ks.length:Int)))\/(b∈x.ZB.Zw):=by
 have hle:=g.hle
 unfold WH at h
 rcases List.mem_append.1 h with h | h
 ·rcases List.mem_append.1 h with h | h
  ·obtain ⟨k,f,a,rfl | rfl⟩:=HH first _ _ _ h
   ·have:=(List.getElem?_eq_some_iff.1 a).1
    left;simp;omega
   ·have:=(List.getElem?_eq_some_iff.1 a).1
    left;simp;omega
  ·exact .inr h
 ·obtain ⟨e,c,rfl | rfl⟩:=Bz h
  ·have:=g.hin.e e c;left;simp;omega
  ·have:=g.hin.e e c;left;simp;omega
def Wr (first n:Nat) (ks:List T12) (y:Int):Bool:=decide (0<=y) && (!(decide (first<=y.toNat/\y.toNat < first+n)) && (match ks[y.toNat]? with | some v=>v.Zt==0 | none=>false))
theorem ZjP (g:Sg F x first ks) {y:Int} (b:y < (ks.length:Int)):Hl N x ks y=some (Wr first x.Zz.length ks y):=by
 unfold Hl Wr
 by_cases c:0<=y
 ·obtain ⟨k,rfl⟩:=Ze c
  have a:=Za (show k < ks.length by omega)
  rw [dT (show (k:Int)>=0 by omega),Pn g.hf g.first_le g.hfn,show ((k:Int)).toNat=k from rfl,a,Yb,a]
  cases decide (first<=k/\k < first+x.Zz.length)<;>rfl
 ·rw [dF (show ¬ y>=0 by omega)];rfl
theorem ZjO (g:Sg F x first ks) (z:List T1) (f:∀ b∈z,(-1<=b.X/\b.X < (ks.length:Int))/\(-1<=b.Y/\b.Y < (ks.length:Int))) (d:z.length<=1000):∀ (r:List T1) (n k:Nat),z.drop k=r->r.length < n ->
  ((∃ b∈r,(Wr first x.Zz.length ks b.X || Wr first x.Zz.length ks b.Y)=true)/\SS N ks x (z,0) n (k:Int)=some ([],false)) \/
  ((∀ b∈r,Wr first x.Zz.length ks b.X=false/\Wr first x.Zz.length ks b.Y=false)/\SS N ks x (z,0) n (k:Int)=L9 N ks x (z,0))
 | [],n,k,h,hn=>by
  obtain ⟨n,rfl⟩:=pS n (by simp at hn;omega)
  right
  refine ⟨fun b m=>absurd m List.not_mem_nil,?_⟩
  rw [SS]
  simp only []
  rw [Yp (Xr h)];rfl
 | b::r,n,k,h,hn=>by
  obtain ⟨n,rfl⟩:=pS n (by simp at hn;omega)
  have ⟨o,i,p⟩:=Xp h
  obtain ⟨⟨_,q⟩,_,s⟩:=f b (Zb i)
  rw [SS]
  simp only []
  rw [Yo o,Yb,i]
  simp only [cT,bS]
  rw [ZjP g q,ZjP g s]
  simp only [bS]
  cases j:Wr first x.Zz.length ks b.X with
  | true=>exact .inl ⟨⟨b,Zk,by rw [j];rfl⟩,rfl⟩
  | false =>
   cases l:Wr first x.Zz.length ks b.Y with
   | true=>exact .inl ⟨⟨b,Zk,by rw [l];simp⟩,rfl⟩
   | false =>
    simp only [cond_false]
    rw [Ye (by omega)]
    rcases ZjO g z f d r n (k+1) p (by simp at hn;omega) with ⟨⟨c,a,t⟩,e⟩ | ⟨u,e⟩
    ·exact .inl ⟨⟨c,Zj _ a,t⟩,e⟩
    ·refine .inr ⟨fun c a=>?_,e⟩
     rcases List.mem_cons.1 a with rfl | a
     ·exact ⟨j,l⟩
     ·exact u c a
theorem Zj3 (hN:4194304 < N) (g:Sg F x first ks) (z:List T1) (v:∀ b∈z,(-1<=b.X/\b.X < (ks.length:Int))/\(-1<=b.Y/\b.Y < (ks.length:Int))) (l:z.length<=1000) (q:(List ByteArray) × (List Bool) × Bool) :
  ∀ (r:List T1) (n k:Nat) (a:Int) (B:List Int) (A:Nat->Nat->Int),z.drop k=r->r.length < n->Zr ks.length A ⟨a,B⟩ ->
  ∃ f i,QC N ks x (z,0) q n a B (k:Int)=L8 N ks x q (ks.length:Int) f/\Zr ks.length i ⟨(ks.length:Int),f⟩ /\
   ∀ u,Y6 (ks.length+1) i u↔Y6 (ks.length+1) A u/\∀ b∈r,u (b.X+1).toNat-u (b.Y+1).toNat<=Yy b.C (-20001)
 | [],n,k,a,B,A,h,hn,hZ=>by
  obtain ⟨n,rfl⟩:=pS n (by simp at hn;omega)
  have O:a=(ks.length:Int):=hZ.m
  subst O
  refine ⟨B,A,?_,hZ,fun u=>⟨fun h=>⟨h,fun b D=>by cases D⟩,fun h=>h.1⟩⟩
  rw [QC]
  simp only []
  rw [Yp (Xr h)];rfl
 | b::r,n,k,a,B,A,h,hn,hZ=>by
  obtain ⟨n,rfl⟩:=pS n (by simp at hn;omega)
  have ⟨hk,w,E⟩:=Xp h
  obtain ⟨⟨a1,a2⟩,a3,a4⟩:=v b (Zb w)
  have t:=g.hk
  have ⟨G,H,o⟩:=Zan hN t hZ (b.X+1).toNat (b.Y+1).toNat (by omega) (by omega) (d:=b) (by omega) (by omega)
  have ⟨f,i,I,p,L⟩:=Zj3 hN g z v l q r n (k+1) (ks.length:Int) G _ E (by simp at hn;omega) o
  refine ⟨f,i,?_,p,fun u=>(L u).trans ?_⟩
  ·rw [QC]
   simp only []
   rw [Yo hk,Yb,w]
   simp only [cT,bS]
   rw [H]
   simp only [bS]
   rw [Ye (by omega)]
   exact I
  ·rw [BS (by omega) (by omega)]
   constructor
   ·rintro ⟨⟨s,j⟩,M⟩
    refine ⟨s,fun c e=>?_⟩
    rcases List.mem_cons.1 e with rfl | e
    ·exact j
    ·exact M c e
   ·rintro ⟨s,j⟩
    exact ⟨⟨s,j b Zk⟩,fun c e=>j c (Zj _ e)⟩
def Ut (first n:Nat) (ks:List T12) (σ:Y4) (y:Nat):Option Int:=if first<=y/\y < first+n then (σ (y-first)).map fun t=>(t.size:Int) else match ks[y]? with
 | some v=>if v.Zt=0 then none else some (Yz v)
 | none=>none
theorem ZoH (hN:4194304 < N) {n:Nat} (i:n<=24) {A:Nat->Nat->Int} {j:Int} {B:List Int} (h:Zr n A ⟨j,B⟩) (y:Nat) (o:y < n) (c:Int) (p:-1000000000<=c/\c<=1000000000) :
  ∃ a e b k,z77 N ⟨j,B⟩ ⟨(y:Int),-1,c⟩=some (⟨(n:Int),a⟩,e)/\z77 N ⟨(n:Int),a⟩ ⟨-1,(y:Int),Z1 (0-c)⟩=some (⟨(n:Int),b⟩,0)/\Zr n k ⟨(n:Int),b⟩ /\
   ∀ u,Y6 (n+1) k u↔Y6 (n+1) A u/\u (y+1)-u 0<=Yy c (-20001)/\u 0-u (y+1)<=Yy (-c) (-20001):=by
 have ⟨a,e,f⟩:=Zan hN i h (y+1) 0 (by omega) (by omega) (d:=⟨(y:Int),-1,c⟩) (by simp) (by simp)
 have m:Z1 (0-c)=-c:=by rw [YE (by omega) (by omega)];omega
 have ⟨b,l,g⟩:=Zan hN i f 0 (y+1) (by omega) (by omega) (d:=⟨-1,(y:Int),Z1 (0-c)⟩) (by simp) (by simp)
 refine ⟨a,0,b,_,e,l,g,fun u=>?_⟩
 rw [BS (by omega) (by omega),BS (by omega) (by omega)]
 show ((Y6 (n+1) A u/\u (y+1)-u 0<=Yy c (-20001))/\u 0-u (y+1)<=Yy (Z1 (0-c)) (-20001))↔_
 rw [m,and_assoc]
theorem Zeh (hN:4194304 < N) (g:Sg F x first ks) {σ:Y4} {s:List ByteArray} {b:List Bool} (S:Rp x.Zz.length σ s b) (H:∀ i t,σ i=some t->t.size<=1000) :
  ∀ (r n k:Nat) (o:Int) (B:List Int) (A:Nat->Nat->Int),k+r=ks.length->r < n->Zr ks.length A ⟨o,B⟩ ->
  ∃ q w,Wz N ks x (s,b,true) n o B (k:Int)=QA N ks x (s,b,true) (ks.length:Int) q/\Zr ks.length w ⟨(ks.length:Int),q⟩ /\
   ∀ u,Y6 (ks.length+1) w u↔Y6 (ks.length+1) A u/\∀ y,k<=y->y < ks.length->∀ c,Ut first x.Zz.length ks σ y=some c->u (y+1)-u 0<=Yy c (-20001)/\u 0-u (y+1)<=Yy (-c) (-20001)
 | 0,n,k,o,B,A,h,hn,hZ=>by
  obtain ⟨n,rfl⟩:=pS n (by omega)
  have hm:o=(ks.length:Int):=hZ.m
  subst hm
  refine ⟨B,A,?_,hZ,fun u=>⟨fun h=>⟨h,fun y p z=>by omega⟩,fun h=>h.1⟩⟩
  rw [Wz,Yp (by omega)];rfl
 | r+1,n,k,o,B,A,h,hn,hZ=>by
  obtain ⟨n,rfl⟩:=pS n (by omega)
  have hkl:=g.hk
  have hk:k < ks.length:=by omega
  have E:=Za hk
  generalize hvv:ks[k]=v at E
  have hsm:-1000<=Yz v/\Yz v<=1000:=by
   rcases g.fits k v E with p | ⟨f,p,z⟩
   ·have:=(RK p).2.1;omega
   ·have:=Vi (g.so f (Zb p)) z;omega
  have hm:o=(ks.length:Int):=hZ.m
  -- one step: with a number, or j
  have C:∀ c,Ut first x.Zz.length ks σ k=some c->-1000000000<=c/\c<=1000000000->(∀ P U L,z77 N ⟨o,B⟩ ⟨(k:Int),-1,c⟩=some (⟨(ks.length:Int),P⟩,U)->z77 N ⟨(ks.length:Int),P⟩ ⟨-1,(k:Int),Z1 (0-c)⟩=some (⟨(ks.length:Int),L⟩,0)->Wz N ks x (s,b,true) (n+1) o B (k:Int)=Wz N ks x (s,b,true) n (ks.length:Int) L ((k+1:Nat):Int)) ->
    ∃ q w,Wz N ks x (s,b,true) (n+1) o B (k:Int)=QA N ks x (s,b,true) (ks.length:Int) q/\Zr ks.length w ⟨(ks.length:Int),q⟩ /\
     ∀ u,Y6 (ks.length+1) w u↔Y6 (ks.length+1) A u/\∀ y,k<=y->y < ks.length->∀ c,Ut first x.Zz.length ks σ y=some c->u (y+1)-u 0<=Yy c (-20001)/\u 0-u (y+1)<=Yy (-c) (-20001):=by
   intro c V hcr l
   have ⟨P,U,L,A2,a1,a2,X,Y⟩:=ZoH hN hkl hZ k hk c hcr
   have ⟨q,w,Z,M,O⟩:=Zeh hN g S H r n (k+1) (ks.length:Int) L A2 (by omega) (by omega) X
   refine ⟨q,w,(l P U L a1 a2).trans Z,M,fun u=>(O u).trans ?_⟩
   rw [Y u]
   constructor
   ·rintro ⟨⟨p,z,h3⟩,h4⟩
    refine ⟨p,fun y T D I d=>?_⟩
    by_cases e:y=k
    ·subst e;rw [V] at d;cases d;exact ⟨z,h3⟩
    ·exact h4 y (by omega) D I d
   ·rintro ⟨p,z⟩
    have ⟨T,D⟩:=z k (Zp _) hk c V
    exact ⟨⟨p,T,D⟩,fun y T D I d=>z y (by omega) D I d⟩
  have j:Ut first x.Zz.length ks σ k=none->Wz N ks x (s,b,true) (n+1) o B (k:Int)=Wz N ks x (s,b,true) n o B ((k+1:Nat):Int) ->
    ∃ q w,Wz N ks x (s,b,true) (n+1) o B (k:Int)=QA N ks x (s,b,true) (ks.length:Int) q/\Zr ks.length w ⟨(ks.length:Int),q⟩ /\
     ∀ u,Y6 (ks.length+1) w u↔Y6 (ks.length+1) A u/\∀ y,k<=y->y < ks.length->∀ c,Ut first x.Zz.length ks σ y=some c->u (y+1)-u 0<=Yy c (-20001)/\u 0-u (y+1)<=Yy (-c) (-20001):=by
   intro V l
   have ⟨q,w,Z,M,O⟩:=Zeh hN g S H r n (k+1) o B A (by omega) (by omega) hZ
   refine ⟨q,w,l.trans Z,M,fun u=>(O u).trans ⟨fun ⟨p,z⟩=>⟨p,fun y T D I d=>?_⟩,fun ⟨p,z⟩=>⟨p,fun y T D I d=>z y (by omega) D I d⟩⟩⟩
   by_cases e:y=k
   ·subst e;rw [V] at d;cases d
   ·exact z y (by omega) D I d
  by_cases G:first<=k/\k < first+x.Zz.length
  ·have hi:k-first < x.Zz.length:=by omega
   have hw:Z1 ((k:Int)-x.ZA)=((k-first:Nat):Int):=by rw [g.hf,YE (by omega) (by omega)];omega
   cases R:σ (k-first) with
   | none =>
    refine j (by unfold Ut;rw [if_pos G,R];rfl) ?_
    rw [Wz,Yo hk,Yb,E,Pn g.hf g.first_le g.hfn,dT G,hw]
    simp only [cT,cond_false,bS,Zh,Pm,Yb,S.b _ hi,R,Option.isSome_none]
    unfold L7
    rw [Ye (by omega)];rfl
   | some t =>
    have hst:=S.s _ _ hi R
    have hts:=H _ _ R
    refine C (t.size:Int) (by unfold Ut;rw [if_pos G,R];rfl) (by omega) fun P U L a1 a2=>?_
    rw [Wz,Yo hk,Yb,E,Pn g.hf g.first_le g.hfn,dT G,hw]
    simp only [cT,cond_false,bS,Zh,Pm,Yb,S.b _ hi,R,Option.isSome_some,hst]
    unfold L7
    simp only [cT]
    rw [a1]
    simp only [bS]
    rw [a2]
    simp only [bS]
    rw [Ye (by omega)]
  ·by_cases W:v.Zt=0
   ·refine j (by unfold Ut;rw [if_neg G,E];simp [W]) ?_
    rw [Wz,Yo hk,Yb,E,Pn g.hf g.first_le g.hfn,dF G]
    have e0:(v.Zt != 0)=false:=by simp [W]
    simp only [cT,cond_false,bS,Bool.not_false,Pm,e0]
    rw [Ye (by omega)]
   ·refine C (Yz v) (by unfold Ut;rw [if_neg G,E];simp [W]) (by omega) fun P U L a1 a2=>?_
    rw [Wz,Yo hk,Yb,E,Pn g.hf g.first_le g.hfn,dF G]
    have e0:(v.Zt != 0)=true:=by simp [W]
    simp only [cT,cond_false,bS,Bool.not_false,Pm,e0]
    rw [a1]
    simp only [bS]
    rw [a2]
    simp only [bS]
    rw [Ye (by omega)]
end
end
section
variable {N:Nat}
theorem ZqI {a b:List UInt8} (h:a.length+b.length<=4611686018427387904):YK (Xq a) (Xq b)=some (Xq (a++b)):=by
 unfold YK
 have e:(Xq a).size=a.length/\(Xq b).size=b.length:=⟨by rw [XH,VS],by rw [XH,VS]⟩
 rw [e.1,e.2,dF (by simp only [IntKind.max];simp [IntKind.bits,IntKind.signed];omega)]
 simp only [cond_false]
 refine congrArg some (HB ?_)
 rw [show bs (Xq a++Xq b)=bs (Xq a)++bs (Xq b) from by unfold bs;rw [ByteArray.data_append,Array.toList_append],VS,VS,VS]
theorem ZiG (c:Int) (a:c<=1000000):∀ (r n k:Nat),k+r=c.toNat->r < n->Mm c n (Xq (List.replicate k 97)) (k:Int)=some (Xq (List.replicate c.toNat 97))
 | 0,n,k,h,hn=>by
  obtain ⟨n,rfl⟩:=pS n (by omega)
  rw [Mm,dF (show ¬ (k:Int) < c by omega),show c.toNat=k by omega];rfl
 | r+1,n,k,h,hn=>by
  obtain ⟨n,rfl⟩:=pS n (by omega)
  rw [Mm,dT (show (k:Int) < c by omega),show str [97]=Xq [97] from rfl,ZqI (by simp;omega)]
  simp only [cT,bS]
  rw [Ye (by omega),show List.replicate k (97:UInt8)++[97]=List.replicate (k+1) 97 from by rw [List.replicate_succ']]
  exact ZiG c a r n (k+1) (by omega) (by omega)
theorem ZoX (hN:4194304 < N) (c:Int) (a:c<=1000000):z81 N c=some (Xq (List.replicate c.toNat 97)) :=
 ZiG c a c.toNat N 0 (by omega) (by omega)
def Ue (c:Int):ByteArray:=Xq (List.replicate c.toNat 97)
def W3 (first:Nat) (σ:Y4) (y:Nat->Int) (k:Nat) (f:T4):T12 :=
 bif f.Zv.Zt==1 then ⟨f.Zv.Zt,y (first+k+1),str []⟩ else match σ k with
 | some t=>⟨f.Zv.Zt,0,t⟩
 | none=>⟨f.Zv.Zt,0,Ue (y (first+k+1))⟩
def WS (first:Nat) (σ:Y4) (y:Nat->Int):Nat->List T4->List T12
 | _,[]=>[]
 | k,f::r=>W3 first σ y k f::WS first σ y (k+1) r
theorem Lf (first:Nat) (σ:Y4) (y:Nat->Int):∀ (k:Nat) (l:List T4),(WS first σ y k l).length=l.length
 | _,[]=>rfl
 | k,f::r=>by rw [WS,Zg,Zg,Lf first σ y (k+1) r]
theorem ZkJ (first:Nat) (σ:Y4) (y:Nat->Int):∀ (k:Nat) (l:List T4) (i:Nat) (f:T4),l[i]? = some f->(WS first σ y k l)[i]? = some (W3 first σ y (k+i) f)
 | k,g::r,0,f,h=>by rw [List.getElem?_cons_zero] at h;cases h;rfl
 | k,g::r,i+1,f,h=>by
  rw [List.getElem?_cons_succ] at h
  rw [WS,List.getElem?_cons_succ,ZkJ first σ y (k+1) r i f h,show k+1+i=k+(i+1) by omega]
section
variable {F:List T4} {x:T0} {first:Nat} {ks:List T12}
theorem Zj2 (hN:4194304 < N) (g:Sg F x first ks) {σ:Y4} {s:List ByteArray} {b:List Bool} (e:Rp x.Zz.length σ s b) {m:List Int} {y:Nat->Int} (l:∀ i,i < ks.length->m[i]? = some (y (i+1))) (o:∀ i,i < ks.length->y (i+1)<=1000000) :
  ∀ (r:List T4) (n k:Nat) (a:List T12),x.Zz.drop k=r->r.length < n->a.length+r.length<=1000 ->
  SU N ks x (s,b,true) (m,true) n a (k:Int)=L6 N ks x (a++WS first σ y k r)
 | [],n,k,a,h,hn,ha=>by
  obtain ⟨n,rfl⟩:=pS n (by simp at hn;omega)
  rw [SU,Yp (Xr h)]
  simp [WS]
 | f::r,n,k,a,h,hn,ha=>by
  obtain ⟨n,rfl⟩:=pS n (by simp at hn;omega)
  have ⟨hk,p,q⟩:=Xp h
  have hle:=g.hle
  have u:=g.hk
  simp only [Zg] at hn ha
  have w:Z1 (x.ZA+(k:Int))=((first+k:Nat):Int):=by rw [g.hf,YE (by omega) (by omega)];omega
  have j:=l (first+k) (by omega)
  have c:=fun v:T12=>Zj2 hN g e l o r n (k+1) (a++[v]) q (by omega) (by simp;omega)
  have d:Z1 ((k:Int)+1)=((k+1:Nat):Int):=Ye (by omega)
  rw [SU,Yo hk,Yb,p,w,d]
  simp only [cT,bS,Yb,j,e.b k hk]
  rw [WS]
  unfold W3
  cases A:(f.Zv.Zt==1) with
  | true =>
   simp only [cT]
   rw [Y8 (by simp;omega),bS,c]
   simp
  | false =>
   simp only [cond_false]
   cases z:σ k with
   | some t =>
    simp only [Option.isSome_some,cT,e.s k t hk z,bS]
    rw [Y8 (by simp;omega),bS,c]
    simp
   | none =>
    simp only [Option.isSome_none,cond_false]
    rw [ZoX hN _ (o (first+k) (by omega)),bS,Y8 (by simp;omega),bS,c]
    simp [Ue]
structure ZK (x:T0) (first:Nat) (ks:List T12) (σ:Y4) (u:Nat->Int):Prop where
 f:Y6 (ks.length+1) YX u
 b:∀ b∈WH first x,u (b.X+1).toNat-u (b.Y+1).toNat<=Yy b.C (-20001)
 k:∀ y,y < ks.length->∀ c,Ut first x.Zz.length ks σ y=some c->u (y+1)-u 0<=Yy c (-20001)/\u 0-u (y+1)<=Yy (-c) (-20001)
theorem ZoG {M:Nat} {A:Nat->Nat->Int} {u:Nat->Int}:Y6 M (Yk A) u↔Y6 M A u/\Y6 M YX u:=by
 constructor
 ·intro h
  refine ⟨fun a b c d=>?_,fun a b c d=>?_⟩
  ·have:=h a b c d
   have:=XY (A a b) (YX a b)
   unfold Yk at *
   omega
  ·have:=h a b c d
   have:=XY (A a b) (YX a b)
   unfold Yk at *
   omega
 ·intro ⟨h,k⟩ a b c d
  have:=h a b c d
  have:=k a b c d
  have:=XY (A a b) (YX a b)
  unfold Yk
  omega
theorem ZrJ (hN:4194304 < N) (d:List T0) (e:Int) (g:Sg F x first ks) (B:Tu N d e=some true) (C:z66 N d ks=some true) (k:Z5 d e=some x) (D:∀ b∈x.ZB.Zw,-1<=b.X/\-1<=b.Y) (l:∀ v∈ks,v.S.size<=1000) :
  (V5 N d e ks=some ([],false)/\∃ b∈WH first x,(Wr first x.Zz.length ks b.X || Wr first x.Zz.length ks b.Y)=true) \/
  ((∀ b∈WH first x,Wr first x.Zz.length ks b.X=false/\Wr first x.Zz.length ks b.Y=false) /\
   ((V5 N d e ks=some ([],false)/\WZ first x.Zz.length ks (Vu x.ZB.Zy) (x.Zz.length+1) (fun _=>none)=none) \/
   ∃ σ,WZ first x.Zz.length ks (Vu x.ZB.Zy) (x.Zz.length+1) (fun _=>none)=some σ /\
    ((V5 N d e ks=some ([],false)/\∀ u,¬ ZK x first ks σ u) \/
    ∃ y,y 0=0/\ZK x first ks σ y/\(∀ u,ZK x first ks σ u->u 0=0->∀ a,a < ks.length+1->y a<=u a) /\
     V5 N d e ks=bif XT x.ZB (YF first (WS first σ y 0 x.Zz) ks) then some (WS first σ y 0 x.Zz,true) else some ([],false)))):=by
 have hfn:=g.hfn
 have hdl:=g.hin.dl
 have hel:=g.hin.el
 have p:=g.hk
 have hz:∀ b∈WH first x,(-1<=b.X/\b.X < (ks.length:Int))/\(-1<=b.Y/\b.Y < (ks.length:Int)):=fun b hb=>by
  rcases Zmd g hb with h | h
  ·exact h
  ·have:=D b h
   have:=g.hin.d b h
   omega
 have q:(WH first x).length<=1000:=by
  unfold WH
  rw [lA,lA,BE,Zde]
  omega
 have e0:V5 N d e ks=SS N ks x (WH first x,0) N 0:=by
  unfold V5 z73
  rw [B,C,k]
  simp only [bS,Zh,cond_false]
  rw [ZqH hN g];rfl
 rw [e0]
 rcases ZjO (N:=N) g (WH first x) hz q (WH first x) N 0 rfl (by omega) with ⟨hm,o⟩ | ⟨hm,o⟩
 ·exact .inl ⟨o,hm⟩
 ·right
  refine ⟨hm,?_⟩
  have o:SS N ks x (WH first x,0) N 0=L9 N ks x (WH first x,0):=o
  rw [o]
  unfold L9
  rcases ZrV hN g.hf g.first_le g.hfn g.hin with ⟨A,h2⟩ | ⟨σ,s,b,A,hR,h2⟩
  ·rw [h2];exact .inl ⟨rfl,A⟩
  ·right
   refine ⟨σ,A,?_⟩
   rw [h2]
   simp only [bS,Zh,cond_false]
   have ⟨B0,e2,I⟩:=ZrN hN ks.length p
   rw [e2]
   simp only [bS]
   have ⟨L,A1,M,O,R⟩:=Zj3 hN g (WH first x) hz q (s,b,true) (WH first x) N 0 (ks.length:Int) B0 YX rfl (by omega) I
   have M:QC N ks x (WH first x,0) (s,b,true) N (ks.length:Int) B0 0=L8 N ks x (s,b,true) (ks.length:Int) L:=M
   rw [M]
   unfold L8
   have ⟨B2,A2,T,U,V⟩:=Zeh hN g hR (fun i t h=>Zej (P:=fun t=>t.size<=1000) l _ A (fun i t h=>by cases h) i t h) ks.length N 0 (ks.length:Int) L A1 (by omega) (by omega) O
   have T:Wz N ks x (s,b,true) N (ks.length:Int) L 0=QA N ks x (s,b,true) (ks.length:Int) B2:=T
   rw [T]
   have j:∀ u,Y6 (ks.length+1) (Yk A2) u↔ZK x first ks σ u:=fun u=>by
    rw [ZoG,V u,R u]
    constructor
    ·rintro ⟨⟨⟨W,Z⟩,p3⟩,p4⟩
     exact ⟨p4,Z,fun y E c G=>p3 y (Nat.zero_le _) E c G⟩
    ·rintro ⟨W,Z,p3⟩
     exact ⟨⟨⟨W,Z⟩,fun y _ E c G=>p3 y E c G⟩,W⟩
   unfold QA
   rcases ZrK hN ks.length p A2 _ U with ⟨e5,hno⟩ | ⟨m,y,e5,hml,hmg,hy0,hyk,hyl⟩
   ·rw [e5]
    exact .inl ⟨rfl,fun u H=>hno u ((j u).2 H)⟩
   ·rw [e5]
    simp only [bS,Zh,cond_false]
    have w:=(j y).1 hyk
    refine .inr ⟨y,hy0,w,fun u H h0 a ha=>hyl u ((j u).2 H) h0 a ha,?_⟩
    have hyb:∀ i,i < ks.length->y (i+1)<=1000000:=fun i hi=>by
     have:=w.f (i+1) 0 (by omega) (by omega)
     have:=UG (i+1) 0
     omega
    have e6:=Zj2 hN g hR hmg hyb x.Zz N 0 [] rfl (by omega) (by simp;omega)
    have e6:SU N ks x (s,b,true) (m,true) N [] 0=L6 N ks x ([]++WS first σ y 0 x.Zz):=e6
    rw [e6,List.nil_append]
    unfold L6
    have z:=Lf first σ y 0 x.Zz
    have hle:=g.hle
    rw [ZiE hN x _ ks first g.hf (by rw [z];exact hle) (by omega)]
    simp only [bS]
    rw [Zix hN x.ZB _ (by rw [Sk _ _ _ (by rw [z];exact hle)];exact g.hin)]
    simp only [bS]
    cases XT x.ZB (YF first (WS first σ y 0 x.Zz) ks)<;>rfl
end
end
section
variable {N:Nat} {F:List T4} {x:T0} {first:Nat} {ks:List T12}
def uW (W:List T12):Nat->Int
 | 0=>0
 | a+1=>match W[a]? with | some v=>Yz v | none=>0
theorem R8 {W:List T12} {a:Nat} {v:T12} (h:W[a]? = some v):uW W (a+1)=Yz v:=by show (match W[a]? with | some v=>Yz v | none=>0)=_;rw [h]
theorem ZsX {W:List T12} {a:Nat} (h:W[a]? = none):uW W (a+1)=0:=by show (match W[a]? with | some v=>Yz v | none=>0)=_;rw [h]
theorem Zjb (W:List T12) {z:Int} (h:-1<=z):Xy W z=uW W (z+1).toNat:=by
 unfold Xy
 by_cases c:z < 0
 ·have:z=-1:=by omega
  subst this
  rfl
 ·obtain ⟨k,rfl⟩:=Ze (show 0<=z by omega)
  rw [dF c,Yb];rfl
theorem ZsY {W:List T12} (h:Fts F W) (b:∀ f∈F,Xn f.Zv) (a:Nat):-1000<=uW W a/\uW W a<=1000:=by
 cases a with
 | zero=>simp [uW]
 | succ a =>
  cases d:W[a]? with
  | none=>rw [ZsX d];simp
  | some v =>
   rw [R8 d]
   rcases h a v d with c | ⟨f,c,e⟩
   ·have:=(RK c).2.1;omega
   ·have:=Vi (b f (Zb c)) e;omega
structure OkV (x:T0) (first:Nat) (ks V:List T12):Prop where
 fit:XK x.Zz V=true
 keep:XT x.ZB (YF first V ks)=true
theorem OkV.len {V:List T12} (h:OkV x first ks V):V.length=x.Zz.length:=(HF h.fit).symm
theorem OkV.dif {V:List T12} (h:OkV x first ks V) {b:T1} (a:b∈x.ZB.Zw):Vg (YF first V ks) b=true:=by
 have:=h.keep
 unfold XT at this
 rw [Zc,XC] at this
 have ⟨i,hi⟩:=List.mem_iff_getElem?.1 a
 exact this.1 i b hi
theorem OkV.eqs {V:List T12} (h:OkV x first ks V) {e:Int × Int} (a:e∈x.ZB.Zy):VV (YF first V ks) e=true:=by
 have:=h.keep
 unfold XT at this
 rw [Zc,XC,XC] at this
 have ⟨i,hi⟩:=List.mem_iff_getElem?.1 a
 exact this.2 i e hi
theorem QZ (g:Sg F x first ks) {V:List T12} (a:V.length=x.Zz.length) {k:Nat} (b:k < x.Zz.length):(YF first V ks)[first+k]? = V[k]? := by
 rw [Vo first V ks (by rw [a];exact g.hle),if_pos (by rw [a];omega),show first+k-first=k by omega]
theorem QY (g:Sg F x first ks) {V:List T12} (a:V.length=x.Zz.length) {y:Nat} (b:¬ (first<=y/\y < first+x.Zz.length)):(YF first V ks)[y]? = ks[y]? := by
 rw [Vo first V ks (by rw [a];exact g.hle),if_neg (by rw [a];exact b)]
theorem B6 (g:Sg F x first ks) {V:List T12} (b:V.length=x.Zz.length) {z:Int} (h:Vc (YF first V ks) z=false):Wr first x.Zz.length ks z=false:=by
 unfold Wr
 by_cases c:0<=z
 ·obtain ⟨k,rfl⟩:=Ze c
  rw [show ((k:Int)).toNat=k from rfl]
  by_cases a:first<=k/\k < first+x.Zz.length
  ·rw [dT a];simp
  ·unfold Vc at h
   rw [dF (show ¬ (k:Int) < 0 by omega),Yb,QY g b a] at h
   cases d:ks[k]? with
   | none=>simp
   | some v =>
    rw [d] at h
    have h:(v.Zt==0)=false:=h
    simp [h]
 ·rw [dF c];rfl
theorem ZiU (g:Sg F x first ks) {k:Nat} (a:k < x.Zz.length):Wr first x.Zz.length ks ((first+k:Nat):Int)=false:=by
 unfold Wr
 rw [show (((first+k:Nat):Int)).toNat=first+k from rfl,dT (show first<=first+k/\first+k < first+x.Zz.length by omega)]
 simp
theorem ZiT {n:Nat}:Wr first n ks (-1)=false:=rfl
theorem Zd0 (g:Sg F x first ks) {V:List T12} (h:OkV x first ks V) {b:T1} (d:b∈WH first x):Wr first x.Zz.length ks b.X=false/\Wr first x.Zz.length ks b.Y=false:=by
 unfold WH at d
 rcases List.mem_append.1 d with d | d
 ·rcases List.mem_append.1 d with d | d
  ·obtain ⟨k,f,j,rfl | rfl⟩:=HH first _ _ _ d
   ·have i:=(List.getElem?_eq_some_iff.1 j).1
    rw [show 0+k=k by omega]
    exact ⟨ZiU g i,ZiT⟩
   ·have i:=(List.getElem?_eq_some_iff.1 j).1
    rw [show 0+k=k by omega]
    exact ⟨ZiT,ZiU g i⟩
  ·have:=h.dif d
   unfold Vg at this
   simp only [Zc,Bool.not_eq_true'] at this
   exact ⟨B6 g h.len this.1,B6 g h.len this.2.1⟩
 ·have ⟨e,o,d⟩:=Bz d
  have ⟨a,c,v,w,p,q,s,t,u,z,A⟩:=Q3 (h.eqs o)
  have l:Wr first x.Zz.length ks e.1=false:=B6 g h.len (by rw [p,(UP s).1];exact u)
  have m:Wr first x.Zz.length ks e.2=false:=B6 g h.len (by rw [q,(UP t).1];exact z)
  rcases d with rfl | rfl
  ·exact ⟨l,m⟩
  ·exact ⟨m,l⟩
def wT (W:List T12):Nat->Option ByteArray:=fun y=>(W[y]?).map (·.S)
theorem Zqi (g:Sg F x first ks) {V:List T12} (h:OkV x first ks V):D9 first x.Zz.length ks (Vu x.ZB.Zy) (wT (YF first V ks)):=by
  refine ⟨fun y k=>by unfold wT;rw [QY g h.len k],fun p b=>?_⟩
  have ⟨e,l,b⟩:=Zd5 b
  have ⟨a,c,v,w,m,o,d,f,q,s,i⟩:=Q3 (h.eqs l)
  have j:e.1.toNat=a:=by omega
  have t2:e.2.toNat=c:=by omega
  unfold wT
  rcases b with rfl | rfl
  · show ((YF first V ks)[e.1.toNat]?).map (·.S)=((YF first V ks)[e.2.toNat]?).map (·.S)
    rw [j,t2,d,f]
    exact congrArg some i
  · show ((YF first V ks)[e.2.toNat]?).map (·.S)=((YF first V ks)[e.1.toNat]?).map (·.S)
    rw [j,t2,d,f]
    exact congrArg some i.symm
theorem Zjj {P:Nat->Prop} {n:Nat}:∀ {l:List (Nat × Nat)} {σ σ':Y4},(∀ p∈l,first<=p.1->P (p.1-first))->XQ first n ks l σ=some σ'->(∀ i t,σ i=some t->P i)->∀ i t,σ' i=some t->P i
 | [],σ,σ',hl,h,hσ=>by cases h;exact hσ
 | p::r,σ,σ',hl,h,hσ=>by
  rw [XQ] at h
  cases a:W1 first n ks σ p with
  | none=>rw [a] at h;cases h
  | some σ1 =>
   rw [a] at h
   refine Zjj (fun q b=>hl q (Zj _ b)) h ?_
   rcases ZeE a with rfl | ⟨t,d,f,_,rfl⟩
   ·exact hσ
   ·intro i u e
    unfold Tg at e
    by_cases c:i=p.1-first
    ·rw [c];exact hl p Zk d.1
    ·rw [if_neg c] at e;exact hσ i u e
theorem ZjT {P:Nat->Prop} {n:Nat} {l:List (Nat × Nat)} (b:∀ p∈l,first<=p.1->P (p.1-first)):∀ (k:Nat) {σ σ':Y4},WZ first n ks l k σ=some σ'->(∀ i t,σ i=some t->P i)->∀ i t,σ' i=some t->P i
 | 0,σ,σ',h,hσ=>by cases h;exact hσ
 | k+1,σ,σ',h,hσ=>by
  rw [WZ] at h
  cases a:XQ first n ks l σ with
  | none=>rw [a] at h;cases h
  | some σ1=>rw [a] at h;exact ZjT b k h (Zjj b a hσ)
structure Rd (F:List T4) (x:T0) (first:Nat) (ks:List T12) (σ:Y4):Prop where
 e:WZ first x.Zz.length ks (Vu x.ZB.Zy) (x.Zz.length+1) (fun _=>none)=some σ
 dom:∀ i t,σ i=some t->Xz F ((first+i:Nat):Int)=true
 cl:Hu first x.Zz.length ks (Vu x.ZB.Zy) σ
theorem Zjz (g:Sg F x first ks) {σ:Y4} (e:WZ first x.Zz.length ks (Vu x.ZB.Zy) (x.Zz.length+1) (fun _=>none)=some σ):Rd F x first ks σ:=by
 refine ⟨e,ZjT (P:=fun i=>Xz F ((first+i:Nat):Int)=true) (fun p a f=>?_) _ e (fun i t h=>by cases h),ZjS _ e (by have:=Zg4 x.Zz.length (fun _=>none);omega)⟩
 have ⟨d,b,a⟩:=Zd5 a
 have ⟨c,t2⟩:=g.tv d b
 obtain ⟨⟨a1,_⟩,a2,_⟩:=g.hin.e d b
 rcases a with rfl | rfl
 ·rw [show (((first+(d.1.toNat-first):Nat)):Int)=d.1 by omega];exact c
 ·rw [show (((first+(d.2.toNat-first):Nat)):Int)=d.2 by omega];exact t2
theorem Zjf (g:Sg F x first ks) {k:Nat} {f:T4} (a:x.Zz[k]? = some f) (h:Xz F ((first+k:Nat):Int)=true):f.Zv.Zt=2 :=
 Ge h ((g.ff k (List.getElem?_eq_some_iff.1 a).1).trans a)
theorem ZdZ {V:List T12} (h:OkV x first ks V) {k:Nat} (a:k < x.Zz.length):∃ f v,x.Zz[k]? = some f/\V[k]? = some v/\XW f.Zv v=true:=by
 have b:=Za a
 have c:=Za (show k < V.length by rw [h.len];exact a)
 exact ⟨_,_,b,c,RU h.fit b c⟩
theorem ZaE {v:T12} (h:v.Zt=2):Yz v=(v.S.size:Int):=by unfold Yz;rw [h];rfl
theorem Zac (g:Sg F x first ks) (I:∀ b∈x.ZB.Zw,-1<=b.X/\-1<=b.Y) {V:List T12} (h:OkV x first ks V):∃ σ,Rd F x first ks σ/\QT first x.Zz.length σ (wT (YF first V ks))/\ZK x first ks σ (uW (YF first V ks)):=by
 have ⟨σ,e,P⟩:=ZjU (Zqi g h) (x.Zz.length+1) (σ:=fun _=>none) (fun i t _ h=>by cases h)
 have W:=Zjz g e
 have s:=Zds g h.fit
 have p:=ZsY s g.so
 refine ⟨σ,W,P,fun a b A j=>?_,fun b j=>?_,fun y hy c d=>?_⟩
 ·have:=p a
  have:=p b
  unfold YX
  by_cases e:a=b
  ·subst e;rw [if_pos rfl];omega
  ·rw [if_neg e]
   split
   ·omega
   ·split<;>omega
 ·have G:=Wl b.C (-20001)
  unfold WH at j
  rcases List.mem_append.1 j with j | j
  ·rcases List.mem_append.1 j with j | j
   ·obtain ⟨k,f,z,rfl | rfl⟩:=HH first _ _ _ j
    ·have o:=(List.getElem?_eq_some_iff.1 z).1
     have ⟨f',v,m,u,B⟩:=ZdZ h o
     rw [z] at m;cases m
     have:=Vi (g.sx z) B
     have D:uW (YF first V ks) (first+k+1)=Yz v:=R8 ((QZ g h.len o).trans u)
     have G:f.Zv.Hi<=Yy f.Zv.Hi (-20001):=(Wl _ _).1
     show uW _ ((((first+(0+k):Nat):Int)+1).toNat)-uW _ (((-1:Int)+1).toNat)<=Yy f.Zv.Hi (-20001)
     rw [show (((first+(0+k):Nat):Int)+1).toNat=first+k+1 by omega,D,show ((-1:Int)+1).toNat=0 from rfl]
     have:uW (YF first V ks) 0=0:=rfl
     omega
    ·have o:=(List.getElem?_eq_some_iff.1 z).1
     have ⟨f',v,m,u,B⟩:=ZdZ h o
     rw [z] at m;cases m
     have:=Vi (g.sx z) B
     have D:uW (YF first V ks) (first+k+1)=Yz v:=R8 ((QZ g h.len o).trans u)
     have G:-f.Zv.Lo<=Yy (-f.Zv.Lo) (-20001):=(Wl _ _).1
     show uW _ (((-1:Int)+1).toNat)-uW _ ((((first+(0+k):Nat):Int)+1).toNat)<=Yy (-f.Zv.Lo) (-20001)
     rw [show (((first+(0+k):Nat):Int)+1).toNat=first+k+1 by omega,D,show ((-1:Int)+1).toNat=0 from rfl]
     have:uW (YF first V ks) 0=0:=rfl
     omega
   ·have L:=h.dif j
    unfold Vg at L
    simp only [Zc,Bool.not_eq_true',decide_eq_false_iff_not] at L
    have ⟨b1,b2⟩:=I b j
    have Z:=L.2.2
    rw [Zjb _ b1,Zjb _ b2] at Z
    have:=p (b.X+1).toNat
    have:=p (b.Y+1).toNat
    rw [YE (by omega) (by omega)] at Z
    omega
  ·have ⟨e,R,j⟩:=Bz j
   have ⟨a,c,v,w,D,e2,l,T,E,kw,U⟩:=Q3 (h.eqs R)
   have ⟨t1,t2⟩:=g.tv e R
   have kind:∀ (y:Nat) (v:T12),(YF first V ks)[y]? = some v->(v.Zt==0)=false->Xz F (y:Int)=true->v.Zt=2:=fun y v l E ht=>by
    rcases s y v l with q | ⟨f,m,u⟩
    ·have:=(RK q).1;rw [this] at E;cases E
    ·exact (Vi (g.so f (Zb m)) u).1.trans (Ge ht m)
   have k1:=kind a v l E (by rw [<- D];exact t1)
   have k2:=kind c w T kw (by rw [<- e2];exact t2)
   have n1:uW (YF first V ks) (a+1)=(v.S.size:Int):=(R8 l).trans (ZaE k1)
   have n2:uW (YF first V ks) (c+1)=(w.S.size:Int):=(R8 T).trans (ZaE k2)
   rcases j with rfl | rfl
   ·show uW _ ((e.1+1).toNat)-uW _ ((e.2+1).toNat)<=_
    rw [show (e.1+1).toNat=a+1 by omega,show (e.2+1).toNat=c+1 by omega,n1,n2,U]
    have G:(0:Int)<=Yy 0 (-20001):=(Wl 0 (-20001)).1
    show (w.S.size:Int)-(w.S.size:Int)<=Yy 0 (-20001)
    omega
   ·show uW _ ((e.2+1).toNat)-uW _ ((e.1+1).toNat)<=_
    rw [show (e.1+1).toNat=a+1 by omega,show (e.2+1).toNat=c+1 by omega,n1,n2,U]
    have G:(0:Int)<=Yy 0 (-20001):=(Wl 0 (-20001)).1
    show (w.S.size:Int)-(w.S.size:Int)<=Yy 0 (-20001)
    omega
 ·have key:uW (YF first V ks) (y+1)=c:=by
   unfold Ut at d
   by_cases O:first<=y/\y < first+x.Zz.length
   ·rw [if_pos O] at d
    cases H:σ (y-first) with
    | none=>rw [H] at d;cases d
    | some t =>
     rw [H] at d
     cases d
     have A:=P (y-first) t (by omega) H
     rw [show first+(y-first)=y by omega] at A
     unfold wT at A
     have ⟨f,v,m,u,B⟩:=ZdZ h (show y-first < x.Zz.length by omega)
     have l:(YF first V ks)[y]? = some v:=by
      have:=QZ g h.len (show y-first < x.Zz.length by omega)
      rw [show first+(y-first)=y by omega] at this
      rw [this,u]
     rw [l] at A
     rw [R8 l]
     have hS:v.S=t:=Zl A
     have M:v.Zt=2:=by
      rw [(Vi (g.sx m) B).1]
      exact Zjf g m (W.dom _ _ H)
     rw [ZaE M,hS]
   ·rw [if_neg O] at d
    cases l:ks[y]? with
    | none=>rw [l] at d;cases d
    | some v =>
     rw [l] at d
     rw [R8 ((QY g h.len O).trans l)]
     have d:(if v.Zt=0 then none else some (Yz v))=some c:=d
     split at d
     ·cases d
     ·cases d;rfl
  have m1:=Wl c (-20001)
  have m2:=Wl (-c) (-20001)
  have:uW (YF first V ks) 0=0:=rfl
  omega
end
section
variable {N:Nat} {F:List T4} {x:T0} {first:Nat} {ks:List T12}
theorem ZoY {c:Int} (h:0<=c):((Ue c).size:Int)=c:=by
 unfold Ue
 rw [XH,VS,List.length_replicate]
 omega
theorem ZoW (c:Int):(bs (Ue c)).any Xh=false:=by
 unfold Ue
 rw [VS,List.any_eq_false]
 intro b a
 rw [List.eq_of_mem_replicate a]
 decide
theorem Ziz (g:Sg F x first ks):∀ v∈ks,(bs v.S).any Xh=false/\v.S.size<=1000:=fun v j=>by
 have ⟨i,hi⟩:=List.mem_iff_getElem?.1 j
 rcases g.fits i v hi with h | ⟨f,k,b⟩
 ·unfold WT at h
  simp only [Zc] at h
  have c:=ZaA h.2.2.1
  rw [c]
  exact ⟨rfl,by decide⟩
 ·have m:=Vi (g.so f (Zb k)) b
  unfold XW at b
  simp only [Zc] at b
  have a:=b.2.2.2
  rcases m.2.2.2.2.2 with l | d
  ·have e:(v.Zt==1)=true:=by simp [l]
   rw [e] at a
   have c:=ZaA a
   rw [c]
   exact ⟨rfl,by decide⟩
  ·have e:(v.Zt==1)=false:=by simp [d]
   rw [e] at a
   simp only [cond_false,Zc,Bool.not_eq_true'] at a
   refine ⟨a.2,?_⟩
   have:=ZaE d
   omega
section
variable {σ:Y4} {y:Nat->Int}
theorem ZvS (g:Sg F x first ks) (hZ:ZK x first ks σ y) (c:y 0=0) {k:Nat} {f:T4} (a:x.Zz[k]? = some f):f.Zv.Lo<=y (first+k+1)/\y (first+k+1)<=f.Zv.Hi:=by
 have ⟨d,e⟩:=Zdq first x.Zz 0 k f a
 have h:=g.sx a
 have a1:=hZ.b _ (List.mem_append.2 (.inl (List.mem_append.2 (.inl d))))
 have a2:=hZ.b _ (List.mem_append.2 (.inl (List.mem_append.2 (.inl e))))
 have a1:y ((((first+(0+k):Nat):Int)+1).toNat)-y (((-1:Int)+1).toNat)<=Yy f.Zv.Hi (-20001):=a1
 have a2:y (((-1:Int)+1).toNat)-y ((((first+(0+k):Nat):Int)+1).toNat)<=Yy (-f.Zv.Lo) (-20001):=a2
 rw [show (((first+(0+k):Nat):Int)+1).toNat=first+k+1 by omega,show ((-1:Int)+1).toNat=0 from rfl,c] at a1 a2
 have i:=Wl f.Zv.Hi (-20001)
 have j:=Wl (-f.Zv.Lo) (-20001)
 unfold Xn at h
 omega
theorem ZlJ (hZ:ZK x first ks σ y) (d:y 0=0) {z:Nat} (a:z < ks.length) {c:Int} (b:Ut first x.Zz.length ks σ z=some c) (e:-1000<=c/\c<=1000):y (z+1)=c:=by
 have ⟨a1,a2⟩:=hZ.k z a c b
 have f:=Wl c (-20001)
 have g:=Wl (-c) (-20001)
 omega
theorem ZeF (g:Sg F x first ks) (u:Rd F x first ks σ) (hZ:ZK x first ks σ y) (q:y 0=0) {k:Nat} {f:T4} (l:x.Zz[k]? = some f):Yz (W3 first σ y k f)=y (first+k+1)/\(W3 first σ y k f).Zt=f.Zv.Zt/\XW f.Zv (W3 first σ y k f)=true:=by
 have p:=g.sx l
 have B:=(List.getElem?_eq_some_iff.1 l).1
 have hle:=g.hle
 have ⟨m,o⟩:=ZvS g hZ q l
 have b:=fun i t h=>Zej (P:=fun t=>(bs t).any Xh=false/\t.size<=1000) (Ziz g) _ u.e (fun i t h=>by cases h) i t h
 rcases p with ⟨d,p⟩ | ⟨a,p⟩
 ·have e:W3 first σ y k f=⟨1,y (first+k+1),str []⟩:=by
   unfold W3
   have:(f.Zv.Zt==1)=true:=by simp [d]
   rw [this,d];rfl
  rw [e]
  refine ⟨rfl,d.symm,?_⟩
  unfold XW
  have n:Yz ⟨1,y (first+k+1),str []⟩=y (first+k+1):=rfl
  rw [n,d,dT m,dT o]
  simp
 ·have s:(f.Zv.Zt==1)=false:=by simp [a]
  cases j:σ k with
  | some t =>
   have e:W3 first σ y k f=⟨2,0,t⟩:=by unfold W3;rw [s,j,a];rfl
   have ⟨v,A⟩:=b k t j
   have w:=ZlJ hZ q (z:=first+k) (by omega) (c:=(t.size:Int)) (by unfold Ut;rw [if_pos (by omega),show first+k-first=k by omega,j];rfl) (by omega)
   have n:Yz ⟨2,0,t⟩=y (first+k+1):=by rw [w];rfl
   rw [e]
   refine ⟨n,a.symm,?_⟩
   unfold XW
   rw [n,a,dT m,dT o]
   simp [v]
  | none =>
   have e:W3 first σ y k f=⟨2,0,Ue (y (first+k+1))⟩:=by unfold W3;rw [s,j,a];rfl
   have n:Yz ⟨2,0,Ue (y (first+k+1))⟩=y (first+k+1):=ZoY (by omega)
   rw [e]
   refine ⟨n,a.symm,?_⟩
   unfold XW
   rw [n,a,dT m,dT o]
   have:=ZoW (y (first+k+1))
   simp [this]
theorem ZaH (g:Sg F x first ks) {k:Nat} {f:T4} (a:x.Zz[k]? = some f):(WS first σ y 0 x.Zz)[k]? = some (W3 first σ y k f):=by
 have:=ZkJ first σ y 0 x.Zz k f a
 rw [Nat.zero_add] at this;exact this
theorem Zs0 (g:Sg F x first ks) (d:Rd F x first ks σ) (hZ:ZK x first ks σ y) (e:y 0=0):XK x.Zz (WS first σ y 0 x.Zz)=true:=by
 have c:=Lf first σ y 0 x.Zz
 unfold XK
 rw [dT c.symm,Bool.true_and,XC]
 intro i v a
 have hi:i < x.Zz.length:=by rw [<- c];exact (List.getElem?_eq_some_iff.1 a).1
 have b:=Za hi
 rw [ZaH g b] at a
 cases a
 unfold Wk
 rw [Nat.zero_add,b]
 exact (ZeF g d hZ e b).2.2
theorem ZeI (g:Sg F x first ks) (q:Rd F x first ks σ) (hZ:ZK x first ks σ y) (j:y 0=0) {z:Nat} (l:z < ks.length) (a:Wr first x.Zz.length ks (z:Int)=false):∃ v,(YF first (WS first σ y 0 x.Zz) ks)[z]? = some v/\(v.Zt==0)=false/\Yz v=y (z+1):=by
 have m:=Lf first σ y 0 x.Zz
 by_cases i:first<=z/\z < first+x.Zz.length
 ·have o:z-first < x.Zz.length:=by omega
  have e:=Za o
  have ⟨n1,s,_⟩:=ZeF g q hZ j e
  have b:=QZ g m o
  rw [show first+(z-first)=z by omega,ZaH g e] at b
  rw [show first+(z-first)+1=z+1 by omega] at n1
  have p:=g.sx e
  refine ⟨_,b,?_,n1⟩
  rw [s]
  unfold Xn at p
  rcases p with ⟨k,_⟩ | ⟨k,_⟩<;>rw [k]<;>rfl
 ·have c:=Za l
  generalize ks[z]=v at c
  unfold Wr at a
  rw [show ((z:Int)).toNat=z from rfl,dF i,dT (show 0<=(z:Int) by omega),c] at a
  have a:(v.Zt==0)=false:=by simpa using a
  have h:-1000<=Yz v/\Yz v<=1000:=by
   rcases g.fits z v c with d | ⟨f,d,t⟩
   ·have:=(RK d).2.1;omega
   ·have:=Vi (g.so f (Zb d)) t;omega
  refine ⟨v,(QY g m i).trans c,a,(ZlJ hZ j l ?_ h).symm⟩
  unfold Ut
  rw [if_neg i,c]
  have:¬ v.Zt=0:=by simpa using a
  show (if v.Zt=0 then none else some (Yz v))=_
  rw [if_neg this]
theorem ZkN (g:Sg F x first ks) (b:Rd F x first ks σ) (hZ:ZK x first ks σ y) (a:y 0=0) {z:Int} (d:-1<=z) (j:z < (ks.length:Int)) (e:Wr first x.Zz.length ks z=false):Vc (YF first (WS first σ y 0 x.Zz) ks) z=false/\Xy (YF first (WS first σ y 0 x.Zz) ks) z=y (z+1).toNat:=by
 by_cases c:z < 0
 ·have:z=-1:=by omega
  subst this
  exact ⟨rfl,a.symm⟩
 ·obtain ⟨k,rfl⟩:=Ze (show 0<=z by omega)
  have ⟨v,f,h,i⟩:=ZeI g b hZ a (show k < ks.length by omega) e
  have ⟨a1,a2⟩:=UP f
  exact ⟨a1.trans h,a2.trans i⟩
theorem Ztd (g:Sg F x first ks) {k:Nat} {f:T4} (a:x.Zz[k]? = some f) (b:Xz F ((first+k:Nat):Int)=true):(W3 first σ y k f).S=match σ k with | some t=>t | none=>Ue (y (first+k+1)):=by
 have c:=Zjf g a b
 have d:(f.Zv.Zt==1)=false:=by simp [c]
 unfold W3
 rw [d]
 cases σ k<;>rfl
theorem Zs1 (g:Sg F x first ks) (U:∀ b∈x.ZB.Zw,-1<=b.X/\-1<=b.Y) (A:Rd F x first ks σ) (hZ:ZK x first ks σ y) (B:y 0=0) {V:List T12} (hV:OkV x first ks V):XT x.ZB (YF first (WS first σ y 0 x.Zz) ks)=true:=by
 have hl:=Lf first σ y 0 x.Zz
 have p:∀ a,a < ks.length+1->-10000<=y a/\y a<=10000:=fun a ha=>by
  have R:=hZ.f a 0 ha (by omega)
  have Z:=hZ.f 0 a (by omega) ha
  rw [B] at R Z
  by_cases c:a=0
  ·subst c;omega
  ·have f1:YX a 0=10000:=by unfold YX;rw [if_neg c,if_neg c,if_pos rfl]
   have f2:YX 0 a=10000:=by unfold YX;rw [if_neg (Ne.symm c),if_pos rfl]
   omega
 unfold XT
 rw [Zc,XC,XC]
 refine ⟨fun i b hi=>?_,fun i e hi=>?_⟩
 ·have T:=Zb hi
  have ⟨b1,b2⟩:=U b T
  have ⟨c1,c2⟩:=g.hin.d b T
  have q:b∈WH first x:=List.mem_append.2 (.inl (List.mem_append.2 (.inr T)))
  have ⟨E,G⟩:=Zd0 g hV q
  have ⟨u1,n1⟩:=ZkN g A hZ B b1 c1 E
  have ⟨u2,n2⟩:=ZkN g A hZ B b2 c2 G
  have hz:=hZ.b b q
  have hm:=Wl b.C (-20001)
  have hc:=g.dc b T
  have q1:=p (b.X+1).toNat (by omega)
  have q2:=p (b.Y+1).toNat (by omega)
  unfold Vg
  rw [u1,u2,n1,n2,YE (by omega) (by omega),dF (by omega)];rfl
 ·have M:=Zb hi
  obtain ⟨⟨a0,a1⟩,b0,b1⟩:=g.hin.e e M
  have ⟨t1,t2⟩:=g.tv e M
  have ⟨p1,p2⟩:=Zjg M
  have ⟨q1,q2⟩:=ZhS M
  have r1:(⟨e.1,e.2,0⟩:T1)∈WH first x:=List.mem_append.2 (.inr q1)
  have r2:(⟨e.2,e.1,0⟩:T1)∈WH first x:=List.mem_append.2 (.inr q2)
  have ⟨E,G⟩:=Zd0 g hV r1
  have E:Wr first x.Zz.length ks e.1=false:=E
  have G:Wr first x.Zz.length ks e.2=false:=G
  have z1:y ((e.1+1).toNat)-y ((e.2+1).toNat)<=Yy 0 (-20001):=hZ.b _ r1
  have z2:y ((e.2+1).toNat)-y ((e.1+1).toNat)<=Yy 0 (-20001):=hZ.b _ r2
  have ⟨a,O⟩:=Ze a0
  have ⟨c,H⟩:=Ze b0
  have ⟨v,W,v2,v3⟩:=ZeI g A hZ B (show a < ks.length by omega) (by rw [<- O];exact E)
  have ⟨w,I,w2,w3⟩:=ZeI g A hZ B (show c < ks.length by omega) (by rw [<- H];exact G)
  rw [O,H] at z1 z2 p1 p2
  have hm0:Yy 0 (-20001)=0:=rfl
  rw [hm0] at z1 z2
  rw [show (((a:Nat):Int)+1).toNat=a+1 by omega,show (((c:Nat):Int)+1).toNat=c+1 by omega] at z1 z2
  have hS:v.S=w.S:=by
   -- the text of a field, and of another variable
   have own:∀ (z:Nat) (v:T12),first<=z/\z < first+x.Zz.length->(YF first (WS first σ y 0 x.Zz) ks)[z]? = some v->Xz F (z:Int)=true->v.S=match σ (z-first) with | some t=>t | none=>Ue (y (z+1)):=fun z v D o ht=>by
    have hk:z-first < x.Zz.length:=by omega
    have hf:=Za hk
    have m:=QZ g hl hk
    rw [show first+(z-first)=z by omega,ZaH g hf,o] at m
    have m:=Zl m
    have:=Ztd (σ:=σ) (y:=y) g hf (by rw [show first+(z-first)=z by omega];exact ht)
    rw [show first+(z-first)+1=z+1 by omega] at this
    rw [m];exact this
   have k:∀ (z:Nat) (v:T12),¬ (first<=z/\z < first+x.Zz.length)->(YF first (WS first σ y 0 x.Zz) ks)[z]? = some v->ks[z]? = some v/\Ww first x.Zz.length ks σ z=some v.S:=fun z v D o=>by
    rw [QY g hl D] at o
    refine ⟨o,?_⟩
    unfold Ww;rw [if_neg D,o];rfl
   have j:∀ z:Nat,first<=z/\z < first+x.Zz.length->Ww first x.Zz.length ks σ z=σ (z-first):=fun z D=>by unfold Ww;rw [if_pos D]
   have s:=A.cl _ p1
   have u:=A.cl _ p2
   simp only [show ((a:Nat):Int).toNat=a from rfl,show ((c:Nat):Int).toNat=c from rfl] at s u
   by_cases l:first<=a/\a < first+x.Zz.length
   ·have P:=own a v l W (by rw [<- O];exact t1)
    by_cases h:first<=c/\c < first+x.Zz.length
    ·have L:=own c w h I (by rw [<- H];exact t2)
     rw [P,L]
     cases R:σ (a-first) with
     | some t =>
      rw [u h t (by rw [j a l,R])]
     | none =>
      cases Z:σ (c-first) with
      | some t =>
       have:=s l t (by rw [j c h,Z])
       rw [R] at this;cases this
      | none=>rw [show y (a+1)=y (c+1) by omega]
    ·have ⟨_,L⟩:=k c w h I
     rw [P,s l _ L]
   ·have ⟨k1,P⟩:=k a v l W
    by_cases h:first<=c/\c < first+x.Zz.length
    ·have L:=own c w h I (by rw [<- H];exact t2)
     rw [L,u h _ P]
    ·have ⟨k2,_⟩:=k c w h I
     have ⟨a',c',v',w',e1,e2,o,hw,_,_,hs⟩:=Q3 (hV.eqs M)
     have:a'=a:=by omega
     subst this
     have:c'=c:=by omega
     subst this
     rw [QY g hV.len l,k1] at o
     rw [QY g hV.len h,k2] at hw
     cases o;cases hw
     exact hs
  unfold VV
  rw [O,H,Yb,Yb,W,I]
  show (!(v.Zt==0) && (!(w.Zt==0) && (v.S.toList==w.S.toList)))=true
  rw [v2,w2,hS]
  simp
end
theorem ZjM (hN:4194304 < N) (d:List T0) (a:Int) (g:Sg F x first ks) (E:Tu N d a=some true) (G:z66 N d ks=some true) (q:Z5 d a=some x) (h:∀ b∈x.ZB.Zw,-1<=b.X/\-1<=b.Y) :
  (V5 N d a ks=some ([],false)/\∀ V,¬ OkV x first ks V) \/
  ∃ R,V5 N d a ks=some (R,true)/\OkV x first ks R/\∀ V,OkV x first ks V->∀ (k:Nat) v r,V[k]? = some v->R[k]? = some r->Yz r<=Yz v/\(Yz v=Yz r->v=r\/(v.Zt=2/\r=⟨2,0,Ue (Yz r)⟩)):=by
 rcases ZrJ hN d a g E G q h (fun v p=>(Ziz g v p).2) with ⟨e,b,L,hm⟩ | ⟨hmis,⟨e,i⟩ | ⟨σ,A,⟨e,i⟩ | ⟨y,M,hZ,j,e⟩⟩⟩
 ·refine .inl ⟨e,fun V hV=>?_⟩
  have ⟨m1,m2⟩:=Zd0 g hV L
  rw [m1,m2] at hm;cases hm
 ·refine .inl ⟨e,fun V hV=>?_⟩
  have ⟨σ,m,_⟩:=Zac g h hV
  rw [m.e] at i;cases i
 ·refine .inl ⟨e,fun V hV=>?_⟩
  have ⟨σ',m,_,z⟩:=Zac g h hV
  rw [m.e] at A
  cases A
  exact i _ z
 ·have m:=Zjz g A
  have hl:=Lf first σ y 0 x.Zz
  by_cases D:XT x.ZB (YF first (WS first σ y 0 x.Zz) ks)=true
  ·rw [D] at e
   refine .inr ⟨_,e,⟨Zs0 g m hZ M,D⟩,fun V hV k v r p W=>?_⟩
   have ⟨σ',s,Z,z⟩:=Zac g h hV
   have:=s.e
   rw [A] at this
   cases this
   have l:k < x.Zz.length:=by rw [<- hV.len];exact (List.getElem?_eq_some_iff.1 p).1
   have C:=Za l
   rw [ZaH g C] at W
   cases W
   have ⟨n1,n2,n3⟩:=ZeF g m hZ M C
   have hle:=g.hle
   have hu:uW (YF first V ks) (first+k+1)=Yz v:=R8 ((QZ g hV.len l).trans p)
   refine ⟨?_,fun w=>?_⟩
   ·rw [n1,<- hu]
    exact j _ z rfl (first+k+1) (by omega)
   ·have c:=RU hV.fit C p
    have hs:=g.sx C
    generalize hff:x.Zz[k]=f at *
    have u:=(Vi hs c).1
    unfold XW at c
    simp only [Zc] at c
    have c:=c.2.2.2
    rcases hs with ⟨O,_⟩ | ⟨B,_⟩
    ·left
     have er:W3 first σ y k f=⟨1,y (first+k+1),str []⟩:=by
      unfold W3
      have:(f.Zv.Zt==1)=true:=by simp [O]
      rw [this,O];rfl
     rw [er]
     have ⟨kd,H,I⟩:=v
     have P:kd=1:=u.trans O
     subst P
     have S:I=str []:=ZaA c
     subst S
     rw [n1] at w
     have w:H=y (first+k+1):=w
     rw [w]
    ·have e1:(f.Zv.Zt==1)=false:=by simp [B]
     have ⟨kd,H,I⟩:=v
     have T:kd=2:=u.trans B
     subst T
     have L:((2:Int)==1)=false:=rfl
     rw [L] at c
     simp only [cond_false,Zc,beq_iff_eq] at c
     have hn0:H=0:=c.1
     subst hn0
     cases o:σ k with
     | some t =>
      left
      have er:W3 first σ y k f=⟨2,0,t⟩:=by unfold W3;rw [e1,o,B];rfl
      rw [er]
      have U:=Z k t l o
      unfold wT at U
      rw [QZ g hV.len l,p] at U
      have:I=t:=Zl U
      rw [this]
     | none =>
      right
      have er:W3 first σ y k f=⟨2,0,Ue (y (first+k+1))⟩:=by unfold W3;rw [e1,o,B];rfl
      refine ⟨rfl,?_⟩
      rw [n1,er]
  ·refine .inl ⟨?_,fun V hV=>?_⟩
   ·rw [e]
    cases hc:XT x.ZB (YF first (WS first σ y 0 x.Zz) ks) with
    | false=>rfl
    | true=>exact absurd hc D
   ·have ⟨σ',s,Z,z⟩:=Zac g h hV
    exact D (Zs1 g h m hZ M hV)
end
end Gp
section
section
namespace Gp
open Go Go.Kx
end Gp
end
section
namespace Gp
open Go Go.Kx
variable {α:Type} {K:α->Int} {r:α->α->Prop}
end Gp
end
namespace Gp
open Go Go.Kx Gx
section
variable {N:Nat} (hN:4194304 < N)
end
section
variable {N:Nat} (hN:4194304 < N)
end
section

end
section
variable {N:Nat} (hN:4194304 < N)
end
section
variable {N:Nat} (hN:4194304 < N)
end
section
variable {N:Nat}
end
section
variable {N:Nat}
end
section
variable {N:Nat}
end
section
variable {N:Nat}
instance (n:Int) (d:T1):Decidable (XD n d):=by unfold XD;infer_instance
instance (s:YV):Decidable (Xn s):=by unfold Xn;infer_instance
end
end Gp
section
namespace Gp
open Go Go.Kx Gx
variable {N:Nat}
end Gp
end
end
namespace Gp
open Go Go.Kx Gx
section
variable {N:Nat}
end
section
variable {N:Nat}
end
section
variable {N:Nat}
end
section
variable {N:Nat}
end
section
variable {N:Nat}
end
section
variable {N:Nat}
theorem Zh9 (i j:Nat):∃ v,Qt N (i:Int) (j:Int)=some v/\0<=v/\v<=20000:=by
 unfold Qt
 cases ((i:Int)==(j:Int)) with
 | true=>exact ⟨0,rfl,by omega,by omega⟩
 | false =>
  cases ((i:Int)==0) with
  | true=>exact ⟨10000,rfl,by omega,by omega⟩
  | false =>
   cases ((j:Int)==0) with
   | true=>exact ⟨10000,rfl,by omega,by omega⟩
   | false=>exact ⟨20000,rfl,by omega,by omega⟩
def UX (M:Nat) (A:Nat->Nat->Int) (lo hi:Int):Prop:=∀ a b,a < M->b < M->lo<=A a b/\A a b<=hi
theorem ZiV (n:Nat) (h:n<=4294967296) (v:Int):Xs v (n:Int) (n:Int)=some (List.replicate n v):=by
 unfold Xs
 have b:decide (0<=(n:Int))=true:=by simp
 have c:decide ((n:Int)<=(n:Int))=true:=by simp
 have a:decide ((n:Int)<=4294967296)=true:=by simp;omega
 simp
 rw [a];rfl
theorem ZvT (hN:4194304 < N) (n:Nat) (s:n<=24):∃ B A,Lu N (n:Int)=some ⟨(n:Int),B⟩/\Rep (n+1) B A/\UX (n+1) A 0 20000:=by
 have hM:(n+1) * (n+1)<=25 * 25:=Nat.mul_le_mul (by omega) (by omega)
 have h:Z1 ((n:Int)+1)=((n+1:Nat):Int):=Ye (by omega)
 have q:Z1 ((Z1 ((n:Int)+1)) * (Z1 ((n:Int)+1)))=(((n+1) * (n+1):Nat):Int):=by
  rw [h,YE]
  ·rw [Int.natCast_mul]
  ·rw [<- Int.natCast_mul];omega
  ·rw [<- Int.natCast_mul];omega
 unfold Lu
 rw [q,ZiV _ (by omega)]
 simp only [bS]
 have D:Rep (n+1) (List.replicate ((n+1) * (n+1)) (0:Int)) (fun _ _=>0):=⟨by simp,fun i j hi k=>by rw [List.getElem?_replicate,if_pos (ZcU hi k)]⟩
 let P:Nat->List Int->Prop:=fun _ B=>∃ A,Rep (n+1) B A/\UX (n+1) A 0 20000
 have c:=X4 (n+1) (VM N (n:Int)) (fun B=>some ⟨(n:Int),B⟩) P (by
  intro f B i hi C
  have d:=X4 (n+1) (SE N (n:Int) (i:Int) (VM N (n:Int) f)) (fun B=>VM N (n:Int) f B ((i+1:Nat):Int)) P (by
   intro g B j k ⟨A,l,p⟩
   have ⟨v,w,z,v2⟩:=Zh9 (N:=N) i j
   refine ⟨B.set (i * (n+1)+j) v,⟨_,l.set hi k v,fun a b t u=>?_⟩,?_⟩
   ·unfold Xd;split
    ·exact ⟨z,v2⟩
    ·exact p a b t u
   ·rw [SE,h,Yo k,w,<- h,Tf s (by omega) (by omega),Ye (by omega)]
    simp only [cT,bS,Yb,l.at' i j hi k,XE]) (by
   intro g B
   rw [SE,h,Yp (Zp _)]
   simp only [cond_false,GH]
   rw [Ye (by omega)])
  have ⟨m,o,e⟩:=d (n+1) N 0 B (by omega) (by omega) C
  refine ⟨m,o,?_⟩
  rw [VM,h,Yo hi]
  exact e) (by
  intro f B
  rw [VM,h,Yp (Zp _)];rfl)
 obtain ⟨m,⟨A,l,p⟩,e⟩:=c (n+1) N 0 _ (by omega) (by omega) ⟨_,D,fun _ _ _ _=>⟨by omega,by omega⟩⟩
 exact ⟨m,A,e,l,p⟩
theorem Zpk (l:List Int) (f:l.length<=4194304):∀ (r:List Int) (n k:Nat) (v:Int),l.drop k=r->r.length < n->∃ z,SK l n v (k:Int)=some z:=by
 intro r
 induction r with
 | nil =>
  intro n k v h a
  obtain ⟨n,rfl⟩:=pS n (by simp at a;omega)
  rw [SK,Yp (Xr h)]
  exact ⟨v,rfl⟩
 | cons x r e =>
  intro n k v h a
  obtain ⟨n,rfl⟩:=pS n (by simp at a;omega)
  have ⟨b,c,d⟩:=Xp h
  simp only [Zg] at a
  rw [SK,Yo b,Ye (by omega)]
  simp only [cT,Yb,c,bS]
  exact e n (k+1) _ d (by omega)
theorem Zph (l:List Int) (f:l.length<=4194304):∀ (r:List Int) (n k:Nat) (v:Int),l.drop k=r->r.length < n->∃ z,SL l n v (k:Int)=some z:=by
 intro r
 induction r with
 | nil =>
  intro n k v h a
  obtain ⟨n,rfl⟩:=pS n (by simp at a;omega)
  rw [SL,Yp (Xr h)]
  exact ⟨v,rfl⟩
 | cons x r e =>
  intro n k v h a
  obtain ⟨n,rfl⟩:=pS n (by simp at a;omega)
  have ⟨b,c,d⟩:=Xp h
  simp only [Zg] at a
  rw [SL,Yo b,Ye (by omega)]
  simp only [cT,Yb,c,bS]
  exact e n (k+1) _ d (by omega)
theorem BU (l:List Int) (h:0 < l.length):(l.drop 1).length < l.length:=by simp;omega
theorem ZkH (hN:4194304 < N) (n:Nat) (k:n<=24) (B:List Int) (d:B.length=(n+1) * (n+1)):∃ b,Rv N ⟨(n:Int),B⟩=some b:=by
 have hM:(n+1) * (n+1)<=25 * 25:=Nat.mul_le_mul (by omega) (by omega)
 have h:1<=(n+1) * (n+1):=Nat.mul_le_mul (show 1<=n+1 by omega) (show 1<=n+1 by omega)
 have a:Z1 ((Z1 ((n:Int)+1)) * (Z1 ((n:Int)+1)))=(((n+1) * (n+1):Nat):Int):=by
  rw [Ye (by omega),YE]
  ·rw [Int.natCast_mul]
  ·rw [<- Int.natCast_mul];omega
  ·rw [<- Int.natCast_mul];omega
 obtain ⟨x,e⟩:∃ x,B[0]? = some x:=⟨B[0]'(by omega),by simp⟩
 have ⟨p,f⟩:=Zpk B (by omega) (B.drop 1) N 1 x rfl (by have:=BU B (by omega);omega)
 have ⟨q,g⟩:=Zph B (by omega) (B.drop 1) N 1 x rfl (by have:=BU B (by omega);omega)
 have c:Z5 B (0:Int)=some x:=by rw [show (0:Int)=((0:Nat):Int) from rfl,Yb];exact e
 have i:PT N B=some p:=by
  unfold PT
  rw [dF (show ¬ (B.length:Int) < 1 by omega),c]
  exact f
 have j:PU N B=some q:=by
  unfold PU
  rw [dF (show ¬ (B.length:Int) < 1 by omega),c]
  exact g
 unfold Rv
 simp only []
 rw [dT (show (n:Int)>=0 by omega),dT (show (n:Int)<=24 by omega),a,d,i]
 simp only [beq_self_eq_true,cT,bS]
 cases decide (p>=-20001) with
 | false=>exact ⟨false,rfl⟩
 | true=>simp only [cT,j,bS];exact ⟨_,rfl⟩
theorem ZkG:Rv N ⟨0,[]⟩=some false:=rfl
end
section
variable {N:Nat}
def Zs (n:Nat) (low:List (Nat × Int)) (z:Yi):Prop:=z=⟨0,[]⟩\/∃ A,z.N=(n:Int)/\Rep (n+1) z.B A/\UX (n+1) A (-20001) 20000/\∀ p∈low,A 0 (p.1+1)<=p.2
theorem Zl9 (d:T1):V6 N ⟨0,[]⟩ d=some (⟨0,[]⟩,1):=by
 unfold V6
 rw [ZkG];rfl
theorem Zma (hN:4194304 < N) (n:Nat) (L:n<=24) (c:List (Nat × Int)) (z:Yi) (h:Zs n c z) (d:T1):∃ v e,V6 N z d=some (v,e)/\Zs n c v /\
  (∀ y:Nat,d.X=-1->d.Y=(y:Int)->y < n->Zs n ((y,Yy d.C (-20001))::c) v):=by
 rcases h with rfl | ⟨A,w,l,D,R⟩
 ·exact ⟨_,_,Zl9 d,.inl rfl,fun _ _ _ _=>.inl rfl⟩
 ·have ⟨Z,B⟩:=z
  simp only at w l
  subst w
  have hM:(n+1) * (n+1)<=25 * 25:=Nat.mul_le_mul (by omega) (by omega)
  have ⟨b,u⟩:=ZkH hN n L B l.len
  unfold V6
  rw [u]
  simp only [bS]
  cases b with
  | false=>exact ⟨_,_,rfl,.inl rfl,fun _ _ _ _=>.inl rfl⟩
  | true =>
   have o:∀ x:Int,Qi N ⟨(n:Int),B⟩ x=some (decide (-1<=x/\x < (n:Int))):=fun x=>by
    unfold Qi
    by_cases s:x>=-1
    ·rw [dT s]
     by_cases t:x < (n:Int)
     ·rw [dT t,dT (show -1<=x/\x < (n:Int) from ⟨s,t⟩)];rfl
     ·rw [dF t,dF (show ¬ (-1<=x/\x < (n:Int)) from fun h=>t h.2)];rfl
    ·rw [dF s,dF (show ¬ (-1<=x/\x < (n:Int)) from fun h=>s h.1)];rfl
   rw [o,o]
   simp only [Zh,cond_false,bS]
   by_cases H:-1<=d.X/\d.X < (n:Int)
   ·rw [dT H]
    by_cases I:-1<=d.Y/\d.Y < (n:Int)
    ·rw [dT I]
     obtain ⟨i,hi⟩:∃ i:Nat,d.X=(i:Int)-1:=⟨(d.X+1).toNat,by omega⟩
     obtain ⟨j,P⟩:∃ j:Nat,d.Y=(j:Int)-1:=⟨(d.Y+1).toNat,by omega⟩
     have f:i < n+1:=by omega
     have g:j < n+1:=by omega
     have S:Z1 ((Z1 ((Z1 ((Z1 (d.X+(1:Int))) * (Z1 ((n:Int)+(1:Int)))))+d.Y))+(1:Int))=((i * (n+1)+j:Nat):Int):=by
      have E:i * (n+1)<=24 * 25:=Nat.mul_le_mul (by omega) (by omega)
      have T:Z1 (d.X+1)=(i:Int):=by rw [YE (by omega) (by omega)];omega
      rw [T,Ye (by omega)]
      have e:(i:Int) * ((n+1:Nat):Int)=((i * (n+1):Nat):Int):=by rw [Int.natCast_mul]
      rw [e,YE (n:=((i * (n+1):Nat):Int)) (by omega) (by omega),P,YE (n:=((i * (n+1):Nat):Int)+((j:Int)-1)) (by omega) (by omega),YE (by omega) (by omega)]
      omega
     simp only [Zh,cond_false]
     rw [S]
     unfold Qj
     rw [Y8 (by simp;rw [l.len];omega)]
     simp only [bS,List.nil_append,Yb,l.at' i j f g,XE]
     have G:=XY (A i j) (Yy d.C (-20001))
     have hx:=Wl d.C (-20001)
     have hA:=D i j f g
     have q:UX (n+1) (Xd A i j (YG (A i j) (Yy d.C (-20001)))) (-20001) 20000:=fun a b M u=>by
      unfold Xd;split
      ·omega
      ·exact D a b M u
     have k:∀ p∈c,Xd A i j (YG (A i j) (Yy d.C (-20001))) 0 (p.1+1)<=p.2:=fun p m=>by
      have:=R p m
      unfold Xd;split
      ·rename_i e
       have O:A i j=A 0 (p.1+1):=by rw [<- e.1,<- e.2]
       have:=G.1
       omega
      ·exact this
     refine ⟨_,_,rfl,.inr ⟨_,rfl,l.set f g _,q,k⟩,fun y V W O=>.inr ⟨_,rfl,l.set f g _,q,fun p m=>?_⟩⟩
     rcases List.mem_cons.1 m with rfl | m
     ·have E:i=0:=by omega
      have U:j=y+1:=by omega
      unfold Xd
      rw [if_pos ⟨E.symm,U.symm⟩]
      exact G.2.1
     ·exact k p m
    ·rw [dF I]
     exact ⟨_,_,rfl,.inl rfl,fun _ _ _ _=>.inl rfl⟩
   ·rw [dF H]
    exact ⟨_,_,rfl,.inl rfl,fun _ _ _ _=>.inl rfl⟩
theorem Ph.row {M k:Nat} {K:Int} {c A:Nat->Nat->Int} {i:Nat} (h:Ph M k K c A i M):Ph M k K c A (i+1) 0 :=
 ⟨h.hi,h.lo,fun a b d e f=>h.un a b d e (by omega),h.rc,h.kk,h.mono⟩
theorem Zqp (hN:4194304 < N) (n:Nat) (I:n<=24) (z:Yi) (H:z.N=(n:Int)) (k:Nat) (l:k < n+1) (K:Int) (S:20001<=K) (L:K<=1000000000) (ag:List Int->Int->Option (Yi × Bool))
  (B:List Int) (A:Nat->Nat->Int) (M:Rep (n+1) B A) (E:UX (n+1) A (-K) 20000) :
  (Wn N z (k:Int) ag N B (0:Int)=some (⟨0,[]⟩,false)) \/
  ∃ u c,Rep (n+1) u c/\UX (n+1) c (-(6 * K)) 20000/\(∀ a b,a < n+1->b < n+1->c a b<=A a b)/\Wn N z (k:Int) ag N B (0:Int)=ag u ((k+1:Nat):Int):=by
 have w:Z1 (z.N+1)=((n+1:Nat):Int):=by rw [H,Ye (by omega)]
 have d:∀ i j:Nat,i < n+1->j < n+1->Z1 ((Z1 ((i:Int) * (Z1 (z.N+1))))+(j:Int))=((i * (n+1)+j:Nat):Int):=fun i j hi q=>by rw [H];exact Tf I (by omega) (by omega)
 let P:Nat->List Int->Prop:=fun i B=>∃ c,Rep (n+1) B c/\Ph (n+1) k K A c i 0
 have C:=X4 (n+1) (Wn N z (k:Int) ag) (fun B=>Ti N z (k:Int) ag B) P (by
  intro f B i hi ⟨A1,hR1,hP1⟩
  have D:=X4 (n+1) (UQ z (k:Int) (i:Int) (Wn N z (k:Int) ag f)) (fun B=>Wn N z (k:Int) ag f B ((i+1:Nat):Int)) (fun j B=>∃ c,Rep (n+1) B c/\Ph (n+1) k K A c i j) (by
   intro g B j q ⟨A2,hR2,hP2⟩
   refine ⟨B.set (i * (n+1)+j) (YG (A2 i j) (A2 i k+A2 k j)),⟨_,hR2.set hi q _,hP2.step (by omega) l hi q⟩,?_⟩
   have T:=hP2.lo i k hi l
   have U:=hP2.lo k j l q
   have V:=hP2.hi i k hi l
   have W:=hP2.hi k j l q
   rw [UQ,w,Yo q,<- w,d i j hi q,d i k hi l,d k j l q,Ye (by omega)]
   simp only [cT,Yb,hR2.at' i j hi q,hR2.at' i k hi l,hR2.at' k j l q,bS,XE]
   rw [YE (by omega) (by omega)]) (by
   intro g B
   rw [UQ,w,Yp (Zp _)]
   simp only [cond_false,Lv]
   rw [Ye (by omega)])
  obtain ⟨u,⟨c,v,o⟩,e⟩:=D (n+1) N 0 B (by omega) (by omega) ⟨A1,hR1,hP1⟩
  refine ⟨u,⟨c,v,o.row⟩,?_⟩
  rw [Wn,w,Yo hi]
  exact e) (by
  intro f B
  rw [Wn,w,Yp (Zp _)];rfl)
 obtain ⟨u,⟨c,v,o⟩,e⟩:=C (n+1) N 0 B (by omega) (by omega) ⟨A,M,⟨fun a b s t=>(E a b s t).2,fun a b s t=>by have:=(E a b s t).1;omega,fun a b s t _=>(E a b s t).1,fun a b s t _=>by have:=(E a b s t).1;omega,by have:=(E k k l l).1;omega,fun a b _ _=>Int.le_refl _⟩⟩
 have e:Wn N z (k:Int) ag N B (0:Int)=Ti N z (k:Int) ag u:=e
 -- the Z3 at the diagonal
 have G:∀ (r g i:Nat),i+r=n+1->r < g->Tj z (k:Int) ag u g (i:Int)=some (⟨0,[]⟩,false)\/Tj z (k:Int) ag u g (i:Int)=ag u ((k+1:Nat):Int):=by
  intro r
  induction r with
  | zero =>
   intro g i hi O
   obtain ⟨g,rfl⟩:∃ m,g=m+1:=⟨g-1,by omega⟩
   have:i=n+1:=by omega
   subst this
   right
   rw [Tj,w,Yp (Zp _)]
   simp only [cond_false,GK]
   rw [Ye (by omega)]
  | succ r R =>
   intro g i hi O
   obtain ⟨g,rfl⟩:∃ m,g=m+1:=⟨g-1,by omega⟩
   have p:i < n+1:=by omega
   rw [Tj,w,Yo p,<- w,d i i p p,Ye (by omega)]
   simp only [cT,Yb,v.at' i i p p,bS]
   cases decide (c i i < 0) with
   | true=>left;rfl
   | false=>exact R g (i+1) (by omega) (by omega)
 rcases G (n+1) N 0 (by omega) (by omega) with h | h
 ·left;rw [e];exact h
 ·right
  exact ⟨u,c,v,fun a b s t=>⟨o.lo a b s t,o.hi a b s t⟩,o.mono,by rw [e];exact h⟩
end
section
variable {N:Nat}
def pw:Nat->Int
 | 0=>20001
 | k+1=>6 * pw k
theorem Zal {k:Nat} (h:k<=5):20001<=pw k/\pw k<=155527776:=by
 have:k=0\/k=1\/k=2\/k=3\/k=4\/k=5:=by omega
 rcases this with rfl | rfl | rfl | rfl | rfl | rfl<;>simp [pw]
theorem Zjm (hN:4194304 < N) (n:Nat) (M:n<=4) (z:Yi) (l:z.N=(n:Int)):∀ (r f k:Nat) (B:List Int) (A:Nat->Nat->Int),k+r=n+1->r < f->Rep (n+1) B A->UX (n+1) A (-(pw k)) 20000 ->
  Wu N z f B (k:Int)=some (⟨0,[]⟩,false)\/∃ i g,Wu N z f B (k:Int)=some (⟨(n:Int),i⟩,true)/\Rep (n+1) i g/\UX (n+1) g (-155527776) 20000/\∀ a b,a < n+1->b < n+1->g a b<=A a b:=by
 have p:Z1 (z.N+1)=((n+1:Nat):Int):=by rw [l,Ye (by omega)]
 intro r
 induction r with
 | zero =>
  intro f k B A G H o j
  obtain ⟨f,rfl⟩:∃ m,f=m+1:=⟨f-1,by omega⟩
  have:k=n+1:=by omega
  subst this
  right
  refine ⟨B,A,?_,o,fun a b c d=>⟨?_,(j a b c d).2⟩,fun _ _ _ _=>Int.le_refl _⟩
  ·rw [Wu,p,Yp (Zp _)]
   simp only [cond_false,GI,l]
  ·have:=(j a b c d).1
   have:=(Zal (k:=n+1) (by omega)).2
   omega
 | succ r L =>
  intro f k B A G H o j
  obtain ⟨f,rfl⟩:∃ m,f=m+1:=⟨f-1,by omega⟩
  have I:=Zal (k:=k) (by omega)
  rw [Wu,p,Yo (by omega)]
  simp only [cT]
  rcases Zqp hN n (by omega) z l k (by omega) (pw k) I.1 (by omega) (Wu N z f) B A o j with h | ⟨i,g,q,s,t,u⟩
  ·left;exact h
  ·rw [u]
   rcases L f (k+1) i g (by omega) (by omega) q s with h | ⟨v,w,e,C,D,E⟩
   ·left;exact h
   ·right
    exact ⟨v,w,e,C,D,fun a b c d=>Int.le_trans (E a b c d) (t a b c d)⟩
theorem ZmP:z127 N ⟨0,[]⟩=some (⟨0,[]⟩,false):=by
 unfold z127
 rw [ZkG];rfl
theorem ZmQ (hN:4194304 < N) (n:Nat) (S:n<=4) (d:List (Nat × Int)) (m:∀ p∈d,p.1 < n) (z:Yi) (h:Zs n d z):(∃ z',z127 N z=some (z',false)) \/
  ∃ B A,z127 N z=some (⟨(n:Int),B⟩,true)/\z.N=(n:Int)/\Rep (n+1) B A/\UX (n+1) A (-155527776) 20000/\∀ p∈d,A 0 (p.1+1)<=p.2:=by
 rcases h with rfl | ⟨A,O,w,U,V⟩
 ·left;exact ⟨_,ZmP⟩
 ·have ⟨zn,B⟩:=z
  simp only at O w
  subst O
  have hM:(n+1) * (n+1)<=25 * 25:=Nat.mul_le_mul (by omega) (by omega)
  have ⟨b,o⟩:=ZkH hN n (by omega) B w.len
  unfold z127
  rw [o]
  simp only [bS]
  cases b with
  | false=>left;exact ⟨_,rfl⟩
  | true =>
   simp only [Zh,cond_false]
   unfold Qj
   rw [Y8 (by simp;rw [w.len];omega)]
   simp only [bS,List.nil_append]
   have u:Z1 ((n:Int)+1)=((n+1:Nat):Int):=Ye (by omega)
   let P:Nat->List Int->Prop:=fun _ c=>∃ s,Rep (n+1) c s/\UX (n+1) s (-20001) 20000/\∀ a b,a < n+1->b < n+1->s a b<=A a b
   have k:=X4 (n+1) (Vw N ⟨(n:Int),B⟩) (fun c=>GL N ⟨(n:Int),B⟩ c) P (by
    intro f R i hi hP
    have l:=X4 (n+1) (SF N ⟨(n:Int),B⟩ (i:Int) (Vw N ⟨(n:Int),B⟩ f)) (fun c=>Vw N ⟨(n:Int),B⟩ f c ((i+1:Nat):Int)) P (by
     intro g C j t ⟨D,hR2,hA2,hm2⟩
     have ⟨v,T,v1,v2⟩:=Zh9 (N:=N) i j
     have q:=XY (D i j) v
     have q2:=hA2 i j hi t
     have q3:=hm2 i j hi t
     refine ⟨C.set (i * (n+1)+j) (YG (D i j) v),⟨_,hR2.set hi t _,fun a b E o=>?_,fun a b E o=>?_⟩,?_⟩
     ·unfold Xd;split
      ·omega
      ·exact hA2 a b E o
     ·unfold Xd;split
      ·rename_i e;rw [e.1,e.2];omega
      ·exact hm2 a b E o
     ·rw [SF]
      simp only []
      rw [u,Yo t,T,<- u,Tf (by omega) (by omega) (by omega),Ye (by omega)]
      simp only [cT,bS,Yb,hR2.at' i j hi t,XE]) (by
     intro g C
     rw [SF]
     simp only []
     rw [u,Yp (Zp _)]
     simp only [cond_false,GJ]
     rw [Ye (by omega)])
    have ⟨c,G,e⟩:=l (n+1) N 0 R (by omega) (by omega) hP
    refine ⟨c,G,?_⟩
    rw [Vw]
    simp only []
    rw [u,Yo hi]
    exact e) (by
    intro f R
    rw [Vw]
    simp only []
    rw [u,Yp (Zp _)];rfl)
   obtain ⟨c,⟨s,H,I,L⟩,e⟩:=k (n+1) N 0 B (by omega) (by omega) ⟨A,w,U,fun _ _ _ _=>Int.le_refl _⟩
   have e:Vw N ⟨(n:Int),B⟩ N B (0:Int)=Wu N ⟨(n:Int),B⟩ N c (0:Int):=e
   rw [e]
   rcases Zjm hN n S ⟨(n:Int),B⟩ rfl (n+1) N 0 c s (by omega) (by omega) H I with h | ⟨C,D,W,X,Y,Z⟩
   ·left;exact ⟨_,h⟩
   ·right
    refine ⟨C,D,W,by trivial,X,Y,fun p M=>?_⟩
    have:=m p M
    have q1:=Z 0 (p.1+1) (by omega) (by omega)
    have q2:=L 0 (p.1+1) (by omega) (by omega)
    have q3:=V p M
    omega
theorem Zpn (hN:4194304 < N) (n:Nat) (M:n<=4) (d:List (Nat × Int)) (s:∀ p∈d,p.1 < n) (z:Yi) (h:Zs n d z):(∃ m,UV N z=some (m,false)) \/
  ∃ m,UV N z=some (m,true)/\m.length=n/\∀ j x,m[j]? = some x->x<=800000000/\∀ p∈d,p.1=j->-p.2<=x:=by
 unfold UV
 rcases ZmQ hN n M d s z h with ⟨X,e⟩ | ⟨B,A,e,H,R,E,S⟩
 ·left
  rw [e];exact ⟨_,rfl⟩
 ·rw [e]
  simp only [bS,Zh,cond_false]
  right
  have t:∀ i j:Nat,i < n+1->j < n+1->Qk N ⟨(n:Int),B⟩ (i:Int) (j:Int)=some (A i j):=fun i j hi o=>by
   unfold Qk
   simp only []
   rw [Tf (by omega) (by omega) (by omega),Yb,R.at' i j hi o];rfl
  let P:Nat->List Int->Prop:=fun i m=>m.length=i/\∀ j x,m[j]? = some x->-(A 0 (j+1))<=x/\x<=155527776 * ((j:Int)+1)
  have k:=X4 n (Vy N z (⟨(n:Int),B⟩,true)) (fun m=>some (m,true)) P (by
   intro f m i hi ⟨a,w⟩
   have Y:=E 0 (i+1) (by omega) (by omega)
   have l:=X4 (γ:=Option (List Int × Bool)) i (Ts N (⟨(n:Int),B⟩,true) m (i:Int) (Vy N z (⟨(n:Int),B⟩,true) f)) (fun v=>Me m (i:Int) (Vy N z (⟨(n:Int),B⟩,true) f) v) (fun _ v=>-(A 0 (i+1))<=v/\v<=155527776 * ((i:Int)+1)) (by
    intro g v j o ⟨G,v2⟩
    obtain ⟨x,b⟩:∃ x,m[j]? = some x:=⟨m[j]'(by omega),by simp⟩
    have ⟨T,U⟩:=w j x b
    have Z:=E (j+1) (i+1) (by omega) (by omega)
    have b2:=E 0 (j+1) (by omega) (by omega)
    have q:=Wl v (Z1 (x-A (j+1) (i+1)))
    have I:Z1 (x-A (j+1) (i+1))=x-A (j+1) (i+1):=YE (by omega) (by omega)
    rw [I] at q
    refine ⟨Yy v (x-A (j+1) (i+1)),⟨by omega,by omega⟩,?_⟩
    rw [Ts,a,Yo o,Ye (by omega),Ye (n:=i) (by omega)]
    simp only [cT,Yb,b,bS]
    rw [t (j+1) (i+1) (by omega) (by omega)]
    simp only [bS,I]) (by
    intro g v
    rw [Ts,a,Yp (Zp _)];rfl)
   have u:Z1 (0-A 0 (i+1))=0-A 0 (i+1):=YE (by omega) (by omega)
   obtain ⟨v,⟨G,v2⟩,D⟩:=l i N 0 (0-A 0 (i+1)) (by omega) (by omega) ⟨by omega,by omega⟩
   refine ⟨m++[v],⟨by simp [a],fun j x b=>?_⟩,?_⟩
   ·by_cases c:j < i
    ·rw [Zn (by omega)] at b
     exact w j x b
    ·have o:=(List.getElem?_eq_some_iff.1 b).1
     have:j=i:=by simp [a] at o;omega
     subst this
     rw [Zo (by omega),a] at b
     simp at b
     subst b
     exact ⟨G,v2⟩
   ·rw [Vy,H,Yo hi,Ye (by omega)]
    simp only [cT]
    have L:=t 0 (i+1) (by omega) (by omega)
    rw [show ((0:Nat):Int)=0 from rfl] at L
    rw [L]
    simp only [bS,u]
    have D:Ts N (⟨(n:Int),B⟩,true) m (i:Int) (Vy N z (⟨(n:Int),B⟩,true) f) N (0-A 0 (i+1)) (0:Int)=_:=D
    rw [D]
    unfold Me
    rw [Y8 (by simp;omega),Ye (by omega)]
    rfl) (by
   intro f m
   rw [Vy,H,Yp (Zp _)];rfl)
  obtain ⟨m,⟨a,w⟩,e⟩:=k n N 0 [] (by omega) (by omega) ⟨rfl,fun j x b=>by simp at b⟩
  refine ⟨m,e,a,fun j x b=>?_⟩
  have ⟨V,W⟩:=w j x b
  have o:=(List.getElem?_eq_some_iff.1 b).1
  refine ⟨by omega,fun p O C=>?_⟩
  have:=S p O
  rw [C] at this
  omega
end
section
variable {N:Nat}
def fc:List Bool->Nat
 | []=>0
 | true::r=>fc r
 | false::r=>fc r+1
theorem Zdi:∀ {s:List Bool} {i:Nat},s[i]? = some false->fc (s.set i true)+1=fc s
 | [],i,h=>by simp at h
 | b::r,0,h=>by
  have:b=false:=by simpa using h
  subst this;rfl
 | b::r,i+1,h=>by
  have a:=Zdi (s:=r) (i:=i) (by simpa using h)
  cases b with
  | true=>exact a
  | false =>
   show fc (r.set i true)+1+1=fc r+1
   omega
theorem BB:∀ s:List Bool,fc s<=s.length
 | []=>Zp _
 | true::r=>by have:=BB r;show fc r<=r.length+1;omega
 | false::r=>by have:=BB r;show fc r+1<=r.length+1;omega
structure Tx (l:List T12) (s:List Bool) (c:Bool) (l':List T12) (s':List Bool) (c':Bool):Prop where
 ll:l'.length=l.length
 ls:s'.length=s.length
 le:fc s'<=fc s
 ch:c'=true->c=true\/fc s' < fc s
 sz:(∀ v∈l,v.S.size<=800000000)->∀ v∈l',v.S.size<=800000000
theorem Tx.refl (l:List T12) (s:List Bool) (c:Bool):Tx l s c l s c:=⟨rfl,rfl,Zp _,fun h=>.inl h,fun h=>h⟩
theorem Tx.trans {l s c l1 s1 c1 l2 s2 c2} (h:Tx l s c l1 s1 c1) (k:Tx l1 s1 c1 l2 s2 c2):Tx l s c l2 s2 c2 :=
 ⟨k.ll.trans h.ll,k.ls.trans h.ls,Nat.le_trans k.le h.le,fun q=>by
  rcases k.ch q with q | q
  ·rcases h.ch q with q | q
   ·exact .inl q
   ·exact .inr (Nat.lt_of_le_of_lt k.le q)
  ·exact .inr (Zi q h.le),fun q=>k.sz (h.sz q)⟩
theorem Zio (l:List T12) (s:List Bool) (c:Bool) (i:Int) (ag:List T12->List Bool->Bool->Int->Option (List T12)) (x y:Int) (a:0<=x/\x < (l.length:Int)) (b:0<=y/\y < (l.length:Int)) (C:s.length=l.length) :
  ∃ m o p,QE l s c i ag x y=ag m o p (Z1 (i+1))/\Tx l s c m o p:=by
 unfold QE
 have ⟨q,t⟩:=Xx (L:=s) (v:=y) b.1 (by omega)
 have ⟨u,f⟩:=Xx (L:=s) (v:=x) a.1 (by omega)
 have ⟨w,g⟩:=Xx (L:=l) (v:=y) b.1 b.2
 have ⟨D,z⟩:=Xx (L:=l) (v:=x) a.1 a.2
 rw [t,f,g,z]
 simp only [bS]
 cases q with
 | false=>exact ⟨l,s,c,rfl,Tx.refl _ _ _⟩
 | true =>
  cases u with
  | true=>exact ⟨l,s,c,rfl,Tx.refl _ _ _⟩
  | false =>
   refine ⟨_,_,true,rfl,?_⟩
   obtain ⟨k,rfl,A⟩:=UI f
   obtain ⟨j,rfl,B⟩:=UI g
   have E:=Zdi A
   refine ⟨by rw [XE,List.length_set],by rw [XE,List.length_set],by rw [XE];omega,fun _=>.inr (by rw [XE];omega),fun d v e=>?_⟩
   rw [XE] at e
   rcases List.mem_or_eq_of_mem_set e with h | h
   ·exact d v h
   ·rw [h];exact d w (Zb B)
theorem ZoQ (l:List T12) (s:List Bool) (c:Bool) (k:Int) (ag:List T12->List Bool->Bool->Int->Option (List T12)) (e:Int × Int) (b:0<=e.1/\e.1 < (l.length:Int)) (d:0<=e.2/\e.2 < (l.length:Int)) (f:s.length=l.length) (n:Nat) :
  ∃ g h i,Vz k ag e (n+3) l s c 0=ag g h i (Z1 (k+1))/\Tx l s c g h i:=by
 have w:Z1 ((0:Int)+1)=1:=rfl
 have w2:Z1 ((1:Int)+1)=2:=rfl
 have z:decide ((0:Int) < 2)=true:=rfl
 have d1:decide ((1:Int) < 2)=true:=rfl
 have A:decide ((2:Int) < 2)=false:=rfl
 have i0:Z5 ([e.1,e.2]:List Int) 0=some e.1:=rfl
 have B:Z5 ([e.1,e.2]:List Int) 1=some e.2:=rfl
 have a0:(Z1 ((1:Int)-0)==0)=false:=rfl
 have a1:(Z1 ((1:Int)-0)==1)=true:=rfl
 have a2:(Z1 ((1:Int)-1)==0)=true:=rfl
 rw [Vz,z]
 simp only [cT,i0,bS,a0,cond_false,a1]
 have ⟨j,m,o,p,a⟩:=Zio l s c 0 (Vz k ag e (n+2)) e.1 e.2 b d f
 rw [p,w,Vz,d1]
 simp only [cT,B,bS,a2]
 have ⟨q,t,u,v,t2⟩:=Zio j m o 1 (Vz k ag e (n+1)) e.2 e.1 (by rw [a.ll];exact d) (by rw [a.ll];exact b) (by rw [a.ls,a.ll];exact f)
 rw [v,w2,Vz,A]
 simp only [cond_false,DT]
 exact ⟨q,t,u,rfl,a.trans t2⟩
theorem ZiB (hN:4194304 < N) (x:T0) (ag:List T12->List Bool->Bool->Option (List T12)) (L:Nat) (a:WO L x.ZB):∀ (r:List (Int × Int)) (n k:Nat) (l:List T12) (s:List Bool) (c:Bool),x.ZB.Zy.drop k=r->r.length < n->l.length=L->s.length=L ->
  ∃ o p q,Vn N x ag n l s c (k:Int)=ag o p q/\Tx l s c o p q:=by
 intro r
 induction r with
 | nil =>
  intro n k l s c h d b g
  obtain ⟨n,rfl⟩:=pS n (by simp at d;omega)
  rw [Vn,Yp (Xr h)]
  exact ⟨l,s,c,rfl,Tx.refl _ _ _⟩
 | cons e r G =>
  intro n k l s c h d b g
  obtain ⟨n,rfl⟩:=pS n (by simp at d;omega)
  have ⟨t,i,u⟩:=Xp h
  simp only [Zg] at d
  have m:=a.e e (Zb i)
  have E:=a.el
  rw [Vn,Yo t]
  simp only [cT,Yb,i,bS]
  have ⟨v,w,z,j,f⟩:=ZoQ l s c (k:Int) (Vn N x ag n) e (by rw [b];exact m.1) (by rw [b];exact m.2) (by rw [g,b]) (N-3)
  rw [show N-3+3=N by omega] at j
  rw [j,Ye (by omega)]
  have ⟨A,B,C,D,t2⟩:=G n (k+1) v w z u (by omega) (by rw [f.ll,b]) (by rw [f.ls,g])
  exact ⟨A,B,C,D,f.trans t2⟩
theorem ZoN (hN:4194304 < N) (x:T0) (L:Nat) (b:WO L x.ZB):∀ (m f:Nat) (l:List T12) (s:List Bool),fc s<=m->m+2<=f->l.length=L->s.length=L->(∀ v∈l,v.S.size<=800000000) ->
  ∃ k,WN N x f l s true=some k/\k.length=L/\∀ v∈k,v.S.size<=800000000:=by
 intro m
 induction m with
 | zero =>
  intro f l s p t d g i
  obtain ⟨f,rfl⟩:∃ q,f=q+2:=⟨f-2,by omega⟩
  rw [WN]
  simp only [cT]
  have ⟨e,o,j,c,a⟩:=ZiB hN x (WN N x (f+1)) L b x.ZB.Zy N 0 l s false rfl (by have:=b.el;omega) d g
  have c:Vn N x (WN N x (f+1)) N l s false (0:Int)=_:=c
  rw [c]
  cases j with
  | false=>exact ⟨e,rfl,by rw [a.ll,d],a.sz i⟩
  | true =>
   rcases a.ch rfl with h | h
   ·cases h
   ·omega
 | succ m u =>
  intro f l s p t d g i
  obtain ⟨f,rfl⟩:∃ q,f=q+2:=⟨f-2,by omega⟩
  rw [WN]
  simp only [cT]
  have ⟨e,o,j,c,a⟩:=ZiB hN x (WN N x (f+1)) L b x.ZB.Zy N 0 l s false rfl (by have:=b.el;omega) d g
  have c:Vn N x (WN N x (f+1)) N l s false (0:Int)=_:=c
  rw [c]
  cases j with
  | false=>exact ⟨e,rfl,by rw [a.ll,d],a.sz i⟩
  | true =>
   rcases a.ch rfl with h | h
   ·cases h
   ·exact u (f+1) e o (by omega) (by omega) (by rw [a.ll,d]) (by rw [a.ls,g]) (a.sz i)
theorem B8 (n:Nat) (h:n<=4294967296) {α:Type} (v:α):Xs v (n:Int) (n:Int)=some (List.replicate n v):=by
 unfold Xs
 have a:decide ((n:Int)<=4294967296)=true:=by simp;omega
 simp
 rw [a];rfl
theorem ZsO (hN:4194304 < N) (x:T0) (l:List T12) (m:l.length<=1000) (d:WO l.length x.ZB) (h:∀ v∈l,v.S.size<=800000000):∃ g,QD N x l=some g/\g.length=l.length/\∀ v∈g,v.S.size<=800000000:=by
 unfold QD
 rw [B8 _ (by omega)]
 simp only [bS]
 have a:=X4 (γ:=Option (List T12)) l.length (UC N x l) (fun s=>RF N x l s) (fun _ s=>s.length=l.length) (by
  intro f s i hi c
  obtain ⟨v,j⟩:∃ v,l[i]? = some v:=⟨l[i],by simp [hi]⟩
  obtain ⟨b,k⟩:∃ b,s[i]? = some b:=⟨s[i]'(by omega),by simp⟩
  rw [UC,Yo hi,Ye (by omega)]
  simp only [cT,Yb,j,k,bS,XE]
  cases decide ((i:Int) < x.ZA) with
  | true=>exact ⟨_,by rw [List.length_set];exact c,rfl⟩
  | false =>
   simp only [cond_false]
   cases decide ((i:Int)>=Z1 (x.ZA+(x.Zz.length:Int))) with
   | true=>exact ⟨_,by rw [List.length_set];exact c,rfl⟩
   | false=>exact ⟨_,by rw [List.length_set];exact c,rfl⟩) (by
  intro f s
  rw [UC,Yp (Zp _)];rfl)
 have ⟨s,c,e⟩:=a l.length N 0 (List.replicate l.length false) (by omega) (by omega) (by simp)
 have e:UC N x l N (List.replicate l.length false) (0:Int)=RF N x l s:=e
 rw [e]
 unfold RF
 exact ZoN hN x l.length d (fc s) N l s (Zp _) (by have:=BB s;omega) rfl c h
end
section
variable {N:Nat}
theorem bd2 (x:T0) (m:XZ x) (L:Nat) (i:WO L x.ZB):∀ (r:List (Int × Int)) (n k:Nat) (a:List T1),x.ZB.Zy.drop k=r->r.length < n->a.length+2 * r.length<=33554432->(∀ b∈a,b.X < (L:Int)/\b.Y < (L:Int)) ->
  ∃ z,UT x n a (k:Int)=some z/\z.length<=33554432/\(∀ b∈z,b.X < (L:Int)/\b.Y < (L:Int))/\∀ b∈a,b∈z:=by
 intro r
 induction r with
 | nil =>
  intro n k a h d f j
  obtain ⟨n,rfl⟩:=pS n (by simp at d;omega)
  rw [UT,Yp (Xr h)]
  exact ⟨a,rfl,by simp at f;exact f,j,fun b h=>h⟩
 | cons e r v =>
  intro n k a h d f j
  obtain ⟨n,rfl⟩:=pS n (by simp at d;omega)
  have ⟨o,l,p⟩:=Xp h
  have:=m.e
  have g:=i.e e (Zb l)
  simp only [Zg] at d f
  rw [UT,Yo o,Ye (by omega)]
  simp only [cT,Yb,l,bS]
  rw [Y8 (by simp;omega)]
  have ⟨z,q,s,t,u⟩:=v n (k+1) (a++[⟨e.1,e.2,0⟩,⟨e.2,e.1,0⟩]) p (by omega) (by simp;omega) (fun b c=>by
   rcases List.mem_append.1 c with h | h
   ·exact j b h
   ·simp only [List.mem_cons,List.not_mem_nil,or_false] at h
    rcases h with rfl | rfl
    ·exact ⟨g.1.2,g.2.2⟩
    ·exact ⟨g.2.2,g.1.2⟩)
  exact ⟨z,q,s,t,fun b c=>u b (List.mem_append_left _ c)⟩
theorem bd4 (hN:4194304 < N) (x:T0) (m:XZ x) (L first:Nat) (C:x.ZA=(first:Int)) (hL:first+x.Zz.length<=L) (D:L<=1000) (l:WO L x.ZB):∀ (r:List T4) (n k:Nat) (a:List T1),x.Zz.drop k=r->r.length < n->a.length+2 * r.length<=8388608->(∀ b∈a,b.X < (L:Int)/\b.Y < (L:Int)) ->
  ∃ z,UU N x n a (k:Int)=some z/\z.length<=33554432/\(∀ b∈z,b.X < (L:Int)/\b.Y < (L:Int))/\(∀ b∈a,b∈z)/\∀ i f,k<=i->x.Zz[i]? = some f->(⟨-1,Z1 (x.ZA+(i:Int)),Z1 (0-f.Zv.Lo)⟩:T1)∈z:=by
 intro r
 have P:=m.f
 have R:=m.d
 have S:=m.e
 induction r with
 | nil =>
  intro n k a h p v w
  obtain ⟨n,rfl⟩:=pS n (by simp at p;omega)
  rw [UU,Yp (Xr h)]
  simp only [cond_false,Hd]
  simp only [List.length_nil] at v
  rw [Y8 (by omega)]
  have ⟨z,t,o,u,E⟩:=bd2 x m L l x.ZB.Zy N 0 (a++x.ZB.Zw) rfl (by omega) (by simp;omega) (fun b j=>by
   rcases List.mem_append.1 j with h | h
   ·exact w b h
   ·exact l.d b h)
  refine ⟨z,t,o,u,fun b j=>E b (List.mem_append_left _ j),fun i f hi q=>?_⟩
  have:=Xr h
  have:=(List.getElem?_eq_some_iff.1 q).1
  omega
 | cons f r O =>
  intro n k a h p v w
  obtain ⟨n,rfl⟩:=pS n (by simp at p;omega)
  have ⟨t,o,u⟩:=Xp h
  simp only [Zg] at p v
  have B:Z1 (x.ZA+(k:Int))=((first+k:Nat):Int):=by rw [C,YE (by omega) (by omega)];omega
  rw [UU,Yo t,Ye (by omega)]
  simp only [cT,Yb,o,bS]
  rw [Y8 (by simp;omega)]
  have ⟨z,G,H,I,A,M⟩:=O n (k+1) (a++[⟨Z1 (x.ZA+(k:Int)),-1,f.Zv.Hi⟩,⟨-1,Z1 (x.ZA+(k:Int)),Z1 (0-f.Zv.Lo)⟩]) u (by omega) (by simp;omega) (fun b j=>by
   rcases List.mem_append.1 j with h | h
   ·exact w b h
   ·simp only [List.mem_cons,List.not_mem_nil,or_false] at h
    rcases h with rfl | rfl
    ·rw [B];exact ⟨by show ((first+k:Nat):Int) < _;omega,by show (-1:Int) < _;omega⟩
    ·rw [B];exact ⟨by show (-1:Int) < _;omega,by show ((first+k:Nat):Int) < _;omega⟩)
  refine ⟨z,G,H,I,fun b j=>A b (List.mem_append_left _ j),fun i g hi s=>?_⟩
  by_cases c:i=k
  ·subst c
   rw [o] at s;cases s
   exact A _ (List.mem_append_right _ (by simp))
  ·exact M i g (by omega) s
theorem Zmr (hN:4194304 < N) (x:T0) (d:XZ x) (L first:Nat) (e:x.ZA=(first:Int)) (hL:first+x.Zz.length<=L) (a:L<=1000) (c:WO L x.ZB):∃ z,RC N x=some z/\Bd x L z:=by
 have:=d.f
 have ⟨z,j,k,l,_,m⟩:=bd4 hN x d L first e hL a c x.Zz N 0 [] rfl (by omega) (by simp;omega) (fun b g=>by simp at g)
 exact ⟨z,j,k,l,fun i f h=>m i f (by omega) h⟩
theorem ZhZ (ks:List T12) (x:T0) (c a0 a1:Int) (i:Int) (hi:i=0\/i=1) (ag:Int->Int->Int->Int->Option (List T12 × Bool)) (y:Int) (d:0<=y/\y < (ks.length:Int)) (own:Bool) :
  V4 N ks x c a0 a1 i ag y own=some ([],false)\/∃ e a b,V4 N ks x c a0 a1 i ag y own=ag e a b (Z1 (i+1))/\(own=true->e=c)/\(i=0->b=a1/\(own=true->a=Z1 (y-x.ZA))/\(own=false->a=a0))/\(i=1->a=a0/\(own=true->b=Z1 (y-x.ZA))/\(own=false->b=a1)):=by
 unfold V4
 cases own with
 | true =>
  simp only [cT]
  right
  rcases hi with rfl | rfl
  ·exact ⟨c,Z1 (y-x.ZA),a1,rfl,fun _=>rfl,fun _=>⟨rfl,fun _=>rfl,fun h=>(by cases h)⟩,fun h=>(by omega)⟩
  ·exact ⟨c,a0,Z1 (y-x.ZA),rfl,fun _=>rfl,fun h=>(by omega),fun _=>⟨rfl,fun _=>rfl,fun h=>(by cases h)⟩⟩
 | false =>
  simp only [cond_false]
  have ⟨v,f⟩:=Xx (L:=ks) (v:=y) d.1 d.2
  rw [f]
  simp only [bS,R6]
  cases v.Zt==0 with
  | true=>left;rfl
  | false =>
   right
   rcases hi with rfl | rfl
   ·exact ⟨_,a0,a1,rfl,fun h=>(by cases h),fun _=>⟨rfl,fun h=>(by cases h),fun _=>rfl⟩,fun h=>by omega⟩
   ·exact ⟨_,a0,a1,rfl,fun h=>(by cases h),fun h=>(by omega),fun _=>⟨rfl,fun h=>(by cases h),fun _=>rfl⟩⟩
def Xa (x:T0) (y:Int):Bool:=decide (y>=x.ZA) && decide (y < Z1 (x.ZA+(x.Zz.length:Int)))
theorem ZnK (ks:List T12) (x:T0) (t:0<=x.ZA) (d:Int) (f:List Int) (k:Int) (ag:Int->List Int->Int->Option (List T12 × Bool)) (b:T1) (A:b.X < (ks.length:Int)) (D:b.Y < (ks.length:Int)) (n:Nat) :
  WM N ks x d f k ag b (n+3) b.C (-1) (-1) 0=some ([],false)\/∃ c a0 a1,WM N ks x d f k ag b (n+3) b.C (-1) (-1) 0=(V6 N ⟨d,f⟩ ⟨a0,a1,c⟩).bind (fun q=>ag q.1.N q.1.B (Z1 (k+1))) /\
   (b.X=-1->0<=b.Y->Xa x b.Y=true->a0=-1/\a1=Z1 (b.Y-x.ZA)/\c=b.C):=by
 have z:Z1 ((0:Int)+1)=1:=rfl
 have w2:Z1 ((1:Int)+1)=2:=rfl
 have M:decide ((0:Int) < 2)=true:=rfl
 have d1:decide ((1:Int) < 2)=true:=rfl
 have O:decide ((2:Int) < 2)=false:=rfl
 have i0:Z5 ([b.X,b.Y]:List Int) 0=some b.X:=rfl
 have P:Z5 ([b.X,b.Y]:List Int) 1=some b.Y:=rfl
 have o:∀ c a0 a1:Int,WM N ks x d f k ag b (n+1) c a0 a1 2=(V6 N ⟨d,f⟩ ⟨a0,a1,c⟩).bind (fun q=>ag q.1.N q.1.B (Z1 (k+1))):=fun c a0 a1=>by
  rw [WM,O];rfl
 have p:∀ (own:Bool) (y c a0 a1 i:Int) (g:Int->Int->Int->Int->Option (List T12 × Bool)),(bif decide (y>=x.ZA) then V4 N ks x c a0 a1 i g y (decide (y < Z1 (x.ZA+(x.Zz.length:Int)))) else V4 N ks x c a0 a1 i g y false)=V4 N ks x c a0 a1 i g y (Xa x y):=fun own y c a0 a1 i g=>by
  unfold Xa
  cases decide (y>=x.ZA)<;>rfl
 have s:∀ c a0 a1:Int,WM N ks x d f k ag b (n+2) c a0 a1 1=some ([],false)\/∃ j l,WM N ks x d f k ag b (n+2) c a0 a1 1=(V6 N ⟨d,f⟩ ⟨a0,l,j⟩).bind (fun q=>ag q.1.N q.1.B (Z1 (k+1)))/\(0<=b.Y->Xa x b.Y=true->l=Z1 (b.Y-x.ZA)/\j=c):=fun c a0 a1=>by
  rw [WM,d1]
  simp only [cT,P,bS]
  by_cases a:b.Y < 0
  ·rw [dT a,cT,w2,o]
   exact .inr ⟨c,a1,rfl,fun h=>by omega⟩
  ·rw [dF a,cond_false,p true]
   rcases ZhZ (N:=N) ks x c a0 a1 1 (.inr rfl) (WM N ks x d f k ag b (n+1)) b.Y ⟨by omega,D⟩ (Xa x b.Y) with h | ⟨j,v,l,e,u,_,G⟩
   ·left;exact h
   ·right
    obtain ⟨rfl,E,R⟩:=G rfl
    rw [e,w2,o]
    exact ⟨j,l,rfl,fun _ m=>⟨E m,u m⟩⟩
 rw [WM,M]
 simp only [cT,i0,bS]
 by_cases a:b.X < 0
 ·rw [dT a,cT,z]
  rcases s b.C (-1) (-1) with h | ⟨j,l,e,u⟩
  ·left;exact h
  ·right
   exact ⟨j,-1,l,e,fun _ w m=>⟨rfl,(u w m).1,(u w m).2⟩⟩
 ·rw [dF a,cond_false,p true]
  rcases ZhZ (N:=N) ks x b.C (-1) (-1) 0 (.inl rfl) (WM N ks x d f k ag b (n+2)) b.X ⟨by omega,A⟩ (Xa x b.X) with h | ⟨j,v,l,e,_,_,_⟩
  ·left;exact h
  ·rw [e,z]
   rcases s j v l with h | ⟨H,I,L,_⟩
   ·left;exact h
   ·right
    exact ⟨H,v,I,L,fun h=>by omega⟩
theorem ZnI (hN:33554432 < N) (ks:List T12) (x:T0) (first:Nat) (o:x.ZA=(first:Int)) (hfl:first<=1000) (hfn:x.Zz.length<=4) (z0:List T1) (T:Bd x ks.length z0) :
  ∀ (r:List T1) (f k:Nat) (z:Yi) (a:List (Nat × Int)),z0.drop k=r->r.length < f->Zs x.Zz.length a z->(∀ p∈a,p.1 < x.Zz.length) ->
  Vm N ks x z0 f z.N z.B (k:Int)=some ([],false)\/∃ S d,Vm N ks x z0 f z.N z.B (k:Int)=SQ N ks x S.N S.B/\Zs x.Zz.length d S/\(∀ p∈d,p.1 < x.Zz.length)/\(∀ p∈a,p∈d) /\
   ∀ i c,i < x.Zz.length->(⟨-1,Z1 (x.ZA+(i:Int)),c⟩:T1)∈r->(i,Yy c (-20001))∈d:=by
 intro r
 induction r with
 | nil =>
  intro f k z a h A hZ D
  obtain ⟨f,rfl⟩:∃ m,f=m+1:=⟨f-1,by simp at A;omega⟩
  right
  refine ⟨z,a,?_,hZ,D,fun _ h=>h,fun i c _ h=>by simp at h⟩
  rw [Vm,Yp (Xr h)];rfl
 | cons b r ih =>
  intro f k z a h A hZ D
  obtain ⟨f,rfl⟩:∃ m,f=m+1:=⟨f-1,by simp at A;omega⟩
  have ⟨q1,U,V⟩:=Xp h
  simp only [Zg] at A
  have hlen:=T.len
  have hb:=T.inn b (Zb U)
  rw [Vm,Yo q1]
  simp only [cT,Yb,U,bS]
  have v:=ZnK (N:=N) ks x (by omega) z.N z.B (k:Int) (Vm N ks x z0 f) b hb.1 hb.2 (N-3)
  rw [show N-3+3=N by omega] at v
  rcases v with v | ⟨c,a0,a1,e,e1⟩
  ·left;exact v
  ·rw [e,Ye (by omega)]
   have ⟨W,e2,h1,h2,h3⟩:=Zma (N:=N) (by omega) x.Zz.length (by omega) a z hZ ⟨a0,a1,c⟩
   rw [h1]
   simp only [bS]
   by_cases ho:b.X=-1/\∃ y:Nat,y < x.Zz.length/\b.Y=Z1 (x.ZA+(y:Int))
   ·have ⟨hX,y,Z,u⟩:=ho
    have E:Z1 (x.ZA+(y:Int))=((first+y:Nat):Int):=by rw [o,YE (by omega) (by omega)];omega
    have O:Z1 (x.ZA+(x.Zz.length:Int))=((first+x.Zz.length:Nat):Int):=by rw [o,YE (by omega) (by omega)];omega
    have q:Xa x b.Y=true:=by
     unfold Xa
     rw [u,E,O,o,dT (show ((first+y:Nat):Int)>=(first:Int) by omega),dT (show ((first+y:Nat):Int) < ((first+x.Zz.length:Nat):Int) by omega)];rfl
    have ⟨r1,r2,r3⟩:=e1 hX (by rw [u,E];omega) q
    have s:Z1 (b.Y-x.ZA)=(y:Int):=by rw [u,E,o,YE (by omega) (by omega)];omega
    have P:=h3 y r1 (by rw [r2,s]) Z
    rcases ih f (k+1) W _ V (by omega) P (fun p j=>by
     rcases List.mem_cons.1 j with rfl | j
     ·exact Z
     ·exact D p j) with G | ⟨z2,l,H,I,L,w,M⟩
    ·left;exact G
    ·right
     refine ⟨z2,l,H,I,L,fun p j=>w p (Zj _ j),fun i t hi g=>?_⟩
     rcases List.mem_cons.1 g with g | g
     ·have e5:Z1 (x.ZA+(i:Int))=b.Y:=by rw [<- g]
      have e6:t=b.C:=by rw [<- g]
      have R:Z1 (x.ZA+(i:Int))=((first+i:Nat):Int):=by rw [o,YE (by omega) (by omega)];omega
      have:i=y:=by rw [R,u,E] at e5;omega
      subst this
      have:=w _ (Zk)
      rw [e6,<- r3];exact this
     ·exact M i t hi g
   ·rcases ih f (k+1) W a V (by omega) h2 D with G | ⟨z2,l,H,I,L,w,M⟩
    ·left;exact G
    ·right
     refine ⟨z2,l,H,I,L,w,fun i t hi g=>?_⟩
     rcases List.mem_cons.1 g with g | g
     ·exact absurd ⟨by rw [<- g],i,hi,by rw [<- g]⟩ ho
     ·exact M i t hi g
end
section
variable {N:Nat}
theorem Zoc (s:YV) (v:T12) (a:v.S.size < N):∃ b,Qh N s v=some b:=by
 unfold Qh
 rw [R6]
 simp only [bS]
 cases v.Zt != s.Zt with
 | true=>exact ⟨_,rfl⟩
 | false =>
  simp only [cond_false]
  cases decide (Yz v < s.Lo) with
  | true=>exact ⟨_,rfl⟩
  | false =>
   simp only [cond_false]
   cases decide (Yz v > s.Hi) with
   | true=>exact ⟨_,rfl⟩
   | false =>
    simp only [cond_false]
    cases v.Zt==1 with
    | true=>exact ⟨_,rfl⟩
    | false =>
     simp only [cond_false]
     cases v.N==0 with
     | false=>exact ⟨_,rfl⟩
     | true =>
      have ⟨z,c,_⟩:=Zj0 (N:=N) v.S (bs v.S) N 0 rfl (by rw [XH] at a;omega)
      unfold LQ Dz DI
      rw [c]
      exact ⟨_,rfl⟩
theorem Zn0 (hN:900000000 < N) (fs:List T4) (vs:List T12) (o:fs.length<=4194304) (e:∀ v∈vs,v.S.size<=800000000):∃ b,RG N fs vs=some b:=by
 unfold RG
 rw [HM]
 by_cases d:fs.length=vs.length
 ·rw [dT d]
  simp only [Zh,cond_false]
  have key:∀ (r:List T4) (n k:Nat),fs.drop k=r->r.length < n->∃ b,S2 N fs vs n (k:Int)=some b:=by
   intro r
   induction r with
   | nil =>
    intro n k h a
    obtain ⟨n,rfl⟩:=pS n (by simp at a;omega)
    rw [S2,Yp (Xr h)];exact ⟨_,rfl⟩
   | cons f r m =>
    intro n k h a
    obtain ⟨n,rfl⟩:=pS n (by simp at a;omega)
    have ⟨g,i,j⟩:=Xp h
    simp only [Zg] at a
    obtain ⟨v,c⟩:∃ v,vs[k]? = some v:=⟨vs[k]'(by omega),by simp⟩
    have ⟨b,l⟩:=Zoc (N:=N) f.Zv v (by have:=e v (Zb c);omega)
    rw [S2,Yo g,Ye (by omega)]
    simp only [cT,Yb,i,c,bS,l]
    cases b with
    | false=>exact ⟨_,rfl⟩
    | true=>exact m n (k+1) j (by omega)
  exact key fs N 0 rfl (by omega)
 ·rw [dF d];exact ⟨_,rfl⟩
theorem ZoA (hN:900000000 < N) (ks:List T12) (x:T0) (first:Nat) (i:x.ZA=(first:Int)) (q:x.Zz.length<=4) (s:first+x.Zz.length<=ks.length) (C:ks.length<=1000) (a:WO ks.length x.ZB) (c:∀ v∈ks,v.S.size<=800000000)
  (v:List T12) (D:v.length=x.Zz.length) (d:∀ u∈v,u.S.size<=800000000):∃ o,Sb N ks x v=some o/\o.1.length<=4:=by
 unfold Sb
 rw [Bg x v ks first i (by omega) (by omega)]
 simp only [bS]
 have f:=Sk first v ks (by omega)
 have ⟨T,t,t2,t3⟩:=ZsO (N:=N) (by omega) x (YF first v ks) (by omega) (by rw [f];exact a) (fun u e=>by
  unfold YF at e
  rcases List.mem_append.1 e with h | h
  ·rcases List.mem_append.1 h with h | h
   ·exact c u (List.mem_of_mem_take h)
   ·exact d u h
  ·exact c u (List.mem_of_mem_drop h))
 rw [t]
 simp only [bS]
 have w:Z1 (x.ZA+(x.Zz.length:Int))=((first+x.Zz.length:Nat):Int):=by rw [i,YE (by omega) (by omega)];omega
 have j:Wj (some x.ZA) (some (Z1 (x.ZA+(x.Zz.length:Int)))) T.length=some (first,first+x.Zz.length):=by
  unfold Wj
  rw [w,i]
  have z:decide ((0:Int)<=(first:Int))=true:=by simp
  have A:decide ((first:Int)<=((first+x.Zz.length:Nat):Int))=true:=by simp;omega
  have B:decide (((first+x.Zz.length:Nat):Int)<=(T.length:Int))=true:=by simp;omega
  simp only [Option.getD_some,z,A,B,Bool.and_true,cT,Int.toNat_natCast]
 have k:Wj none none v.length=some (0,v.length):=by
  unfold Wj
  simp
 unfold lsl Vf
 rw [j,k]
 simp only [Option.map_some,bS]
 have g:((T.take (first+x.Zz.length)).drop first).length=x.Zz.length:=by rw [List.length_drop,List.length_take];omega
 rw [Zdt (N:=N) (by omega) x.ZB T (by rw [t2,f];exact a)]
 simp only [bS]
 generalize p:v.take 0++((T.take (first+x.Zz.length)).drop first).take (min ((T.take (first+x.Zz.length)).drop first).length (v.length-0))++v.drop (0+min ((T.take (first+x.Zz.length)).drop first).length (v.length-0))=R
 have l:R.length<=4:=by
  rw [<- p,g]
  simp only [lA,List.length_take,List.length_drop,g]
  omega
 have m:∀ u∈R,u.S.size<=800000000:=fun u e=>by
  rw [<- p] at e
  rcases List.mem_append.1 e with h | h
  ·rcases List.mem_append.1 h with h | h
   ·simp at h
   ·exact t3 u (List.mem_of_mem_take (List.mem_of_mem_drop (List.mem_of_mem_take h)))
  ·exact d u (List.mem_of_mem_drop h)
 cases XT x.ZB T with
 | false=>exact ⟨_,rfl,by simp⟩
 | true =>
  simp only [Zh,cond_false]
  have ⟨b,j⟩:=Zn0 hN x.Zz R (by omega) m
  rw [j]
  simp only [bS]
  cases b with
  | false=>exact ⟨_,rfl,by simp⟩
  | true=>exact ⟨_,rfl,l⟩
theorem Zaq (l:List UInt8):∀ n:Nat,(Te l n).length=n * l.length
 | 0=>by simp [Te]
 | n+1=>by
  show (l++Te l n).length=_
  rw [lA,Zaq l n,Nat.add_mul];omega
theorem ZrG (c:Int) (a:0<=c) (d:c<=800000000):∃ r,Mf N (str [97]) c=some r/\r.size<=800000000:=by
 unfold Mf
 have b:(str [97]).size=1:=rfl
 rw [dT a,dT (show c<=140737488355328 by omega),b,dT (show 1 * c.toNat<=140737488355328 by omega)]
 refine ⟨_,rfl,?_⟩
 show (Te (str [97]).data.toList c.toNat).toArray.size<=_
 rw [List.size_toArray,Zaq]
 have:(str [97]).data.toList.length=1:=rfl
 rw [this];omega
theorem ZoB (hN:900000000 < N) (ks:List T12) (x:T0) (first:Nat) (T:x.ZA=(first:Int)) (k:x.Zz.length<=4) (D:first+x.Zz.length<=ks.length) (U:ks.length<=1000) (E:WO ks.length x.ZB) (G:∀ v∈ks,v.S.size<=800000000)
  (H:∀ f∈x.Zz,f.Zv.Zt=2->0<=f.Zv.Lo/\f.Zv.Lo<=1000) (z:Yi) (b:List (Nat × Int)) (hZ:Zs x.Zz.length b z) (V:∀ p∈b,p.1 < x.Zz.length)
  (l:∀ i f,x.Zz[i]? = some f->(i,Yy (Z1 (0-f.Zv.Lo)) (-20001))∈b):∃ o,SQ N ks x z.N z.B=some o/\o.1.length<=4:=by
 unfold SQ
 rcases Zpn (N:=N) (by omega) x.Zz.length k b V z hZ with ⟨m,e⟩ | ⟨m,e,Z,X⟩
 ·have e:UV N ⟨z.N,z.B⟩=some (m,false):=e
  rw [e];exact ⟨_,rfl,by simp⟩
 ·have e:UV N ⟨z.N,z.B⟩=some (m,true):=e
  rw [e]
  simp only [bS,Zh,cond_false]
  rw [B8 _ (by omega)]
  simp only [bS]
  have g:=X4 (γ:=Option (List T12 × Bool)) x.Zz.length (Tq N ks x (m,true)) (fun v=>Sb N ks x v) (fun _ v=>v.length=x.Zz.length/\∀ u∈v,u.S.size<=800000000) (by
   intro f v i hi ⟨C,d⟩
   obtain ⟨a,c⟩:∃ a,x.Zz[i]? = some a:=⟨x.Zz[i],by simp [hi]⟩
   obtain ⟨s,t⟩:∃ s,m[i]? = some s:=⟨m[i]'(by omega),by simp⟩
   obtain ⟨u,I⟩:∃ u,v[i]? = some u:=⟨v[i]'(by omega),by simp⟩
   have R:=X i s t
   rw [Tq,Yo hi,Ye (by omega)]
   simp only [cT,Yb,c,t,I,bS,XE]
   have A:∀ w∈v.set i (⟨a.Zv.Zt,s,(str [])⟩:T12),w.S.size<=800000000:=fun w q=>by
    rcases List.mem_or_eq_of_mem_set q with h | h
    ·exact d w h
    ·rw [h];show (str []).size<=_;exact Nat.zero_le _
   cases j:(a.Zv.Zt==2) with
   | false=>exact ⟨_,⟨by rw [List.length_set];exact C,A⟩,rfl⟩
   | true =>
    have j:a.Zv.Zt=2:=by simpa using j
    have ⟨l0,Y⟩:=H a (Zb c) j
    have O:=R.2 _ (l i a c) rfl
    have q:Z1 (0-a.Zv.Lo)=0-a.Zv.Lo:=YE (by omega) (by omega)
    have P:Yy (0-a.Zv.Lo) (-20001)=0-a.Zv.Lo:=by unfold Yy;rw [if_neg (by omega)]
    simp only [q,P] at O
    have ⟨r,W,L⟩:=ZrG (N:=N) s (by omega) R.1
    simp only [cT,W,bS]
    rw [List.getElem?_set,if_pos rfl,if_pos (by omega)]
    simp only [bS]
    refine ⟨_,⟨by rw [List.length_set,List.length_set];exact C,fun w q=>?_⟩,rfl⟩
    rcases List.mem_or_eq_of_mem_set q with h | h
    ·exact A w h
    ·rw [h];exact L) (by
   intro f v
   rw [Tq,Yp (Zp _)];rfl)
  obtain ⟨v,⟨C,d⟩,M⟩:=g x.Zz.length N 0 (List.replicate x.Zz.length ⟨0,0,(str [])⟩) (by omega) (by omega) ⟨by simp,fun u I=>by
   rw [List.eq_of_mem_replicate I];exact Nat.zero_le _⟩
  have M:Tq N ks x (m,true) N (List.replicate x.Zz.length ⟨0,0,(str [])⟩) (0:Int)=Sb N ks x v:=M
  rw [M]
  exact ZoA hN ks x first T k D U E G v C d
theorem ZnW (hN:900000000 < N) (d:List T0) (c:Int) (ks:List T12) (x:T0) (first:Nat) (g:US N d c ks=some true) (j:Z5 d c=some x) (H:XZ x) (t:x.ZA=(first:Int)) (k:x.Zz.length<=4) (l:first+x.Zz.length<=ks.length) (E:ks.length<=1000) (m:WO ks.length x.ZB) (u:∀ v∈ks,v.S.size<=800000000)
  (w:∀ f∈x.Zz,f.Zv.Zt=2->0<=f.Zv.Lo/\f.Zv.Lo<=1000):∃ o,z25 N d c ks=some o/\o.1.length<=4:=by
 unfold z25
 rw [g,j]
 simp only [bS,Zh,cond_false]
 have ⟨B,A,M,O,P⟩:=ZvT (N:=N) (by omega) x.Zz.length (by omega)
 have s:z55 N (x.Zz.length:Int)=some (⟨(x.Zz.length:Int),B⟩,0):=by
  unfold z55
  rw [dF (show ¬ (x.Zz.length:Int) < 0 by omega),dF (show ¬ (x.Zz.length:Int) > 24 by omega)]
  simp only [cond_false]
  rw [M];rfl
 rw [s]
 simp only [bS]
 have ⟨z0,R,D⟩:=Zmr (N:=N) (by omega) x H ks.length first t l E m
 rw [R]
 simp only [bS]
 have G:=D.len
 rcases ZnI (N:=N) (by omega) ks x first t (by omega) k z0 D z0 N 0 ⟨(x.Zz.length:Int),B⟩ [] rfl (by omega) (.inr ⟨A,rfl,O,fun a b I L=>by have:=P a b I L;omega,fun p C=>by simp at C⟩) (fun p C=>by simp at C) with h | ⟨z,low,e,T,U,W,V⟩
 ·exact ⟨_,h,by simp⟩
 ·have e:Vm N ks x z0 N (x.Zz.length:Int) B (0:Int)=SQ N ks x z.N z.B:=e
  rw [e]
  exact ZoB hN ks x first t k l E m u w z low T U (fun i f q=>V i _ (List.getElem?_eq_some_iff.1 q).1 (D.low i f q))
structure ZvU (x:T0) (first:Nat) (ks os:List T12):Prop where
 ix:∀ y,0<=y->Xa x y=false->Z5 ks y=Z5 os y
 bh:∀ v:List T12,v.length=x.Zz.length->RE N x v ks=RE N x v os
end
section
variable {N:Nat}
theorem Zia (i j:Nat):Qt N (i:Int) (j:Int)=some (YX i j):=by
 unfold Qt YX
 by_cases a:i=j
 ·subst a;simp
 ·have d:((i:Int)==(j:Int))=false:=by simp;omega
  rw [d,if_neg a]
  by_cases b:i=0
  ·subst b;simp
  ·have e:((i:Int)==0)=false:=by simp;omega
   rw [e,if_neg b]
   by_cases c:j=0
   ·subst c;simp
   ·have f:((j:Int)==0)=false:=by simp;omega
    rw [f,if_neg c];rfl
structure Zx (n:Nat) (A:Nat->Nat->Int) (z:Yi):Prop where
 N:z.N=(n:Int)
 rep:Rep (n+1) z.B A
 lo:∀ a b,a < n+1->b < n+1->-20001<=A a b
 hi:∀ a b,a < n+1->b < n+1->A a b<=YX a b
theorem Zpj (l:List Int) (i:l.length<=4194304) (lo:Int) (h:∀ x∈l,lo<=x):∀ (r:List Int) (n k:Nat) (v:Int),lo<=v->l.drop k=r->r.length < n->∃ z,SK l n v (k:Int)=some z/\lo<=z:=by
 intro r
 induction r with
 | nil =>
  intro n k v c h a
  obtain ⟨n,rfl⟩:=pS n (by simp at a;omega)
  rw [SK,Yp (Xr h)]
  exact ⟨v,rfl,c⟩
 | cons x r g =>
  intro n k v c f a
  obtain ⟨n,rfl⟩:=pS n (by simp at a;omega)
  have ⟨d,b,e⟩:=Xp f
  simp only [Zg] at a
  have j:=h x (Zb b)
  have:=XY v x
  rw [SK,Yo d,Ye (by omega)]
  simp only [cT,Yb,b,bS]
  exact g n (k+1) _ (by omega) e (by omega)
theorem Zpg (l:List Int) (i:l.length<=4194304) (hi:Int) (h:∀ x∈l,x<=hi):∀ (r:List Int) (n k:Nat) (v:Int),v<=hi->l.drop k=r->r.length < n->∃ z,SL l n v (k:Int)=some z/\z<=hi:=by
 intro r
 induction r with
 | nil =>
  intro n k v c h a
  obtain ⟨n,rfl⟩:=pS n (by simp at a;omega)
  rw [SL,Yp (Xr h)]
  exact ⟨v,rfl,c⟩
 | cons x r g =>
  intro n k v c f a
  obtain ⟨n,rfl⟩:=pS n (by simp at a;omega)
  have ⟨d,b,e⟩:=Xp f
  simp only [Zg] at a
  have j:=h x (Zb b)
  have:=Wl v x
  rw [SL,Yo d,Ye (by omega)]
  simp only [cT,Yb,b,bS]
  exact g n (k+1) _ (by omega) e (by omega)
theorem ZkI (hN:4194304 < N) {n:Nat} (H:n<=24) {A:Nat->Nat->Int} {z:Yi} (h:Zx n A z):Rv N z=some true:=by
 have ⟨I,B⟩:=z
 have ⟨m,g,s,t⟩:=h
 simp only at m g
 subst m
 have hM:(n+1) * (n+1)<=25 * 25:=Nat.mul_le_mul (by omega) (by omega)
 have C:1<=(n+1) * (n+1):=Nat.mul_le_mul (show 1<=n+1 by omega) (show 1<=n+1 by omega)
 have D:=g.len
 have l:Z1 ((Z1 ((n:Int)+1)) * (Z1 ((n:Int)+1)))=(((n+1) * (n+1):Nat):Int):=by
  rw [Ye (by omega),YE]
  ·rw [Int.natCast_mul]
  ·rw [<- Int.natCast_mul];omega
  ·rw [<- Int.natCast_mul];omega
 have d:∀ x∈B,-20001<=x:=fun x c=>by
  obtain ⟨a,b,i,j,rfl⟩:=g.mem c
  exact s a b i j
 have e:∀ x∈B,x<=20000:=fun x c=>by
  obtain ⟨a,b,i,j,rfl⟩:=g.mem c
  have:=t a b i j
  have:=UG a b
  omega
 obtain ⟨x,c⟩:∃ x,B[0]? = some x:=⟨B[0]'(by omega),by simp⟩
 have f:=Zb c
 have ⟨p,u,v⟩:=Zpj B (by omega) (-20001) d (B.drop 1) N 1 x (d x f) rfl (by have:=BU B (by omega);omega)
 have ⟨q,w,k⟩:=Zpg B (by omega) 20000 e (B.drop 1) N 1 x (e x f) rfl (by have:=BU B (by omega);omega)
 have o:Z5 B (0:Int)=some x:=by rw [show (0:Int)=((0:Nat):Int) from rfl,Yb];exact c
 have E:PT N B=some p:=by
  unfold PT
  rw [dF (show ¬ (B.length:Int) < 1 by omega),o]
  exact u
 have G:PU N B=some q:=by
  unfold PU
  rw [dF (show ¬ (B.length:Int) < 1 by omega),o]
  exact w
 unfold Rv
 simp only []
 rw [dT (show (n:Int)>=0 by omega),dT (show (n:Int)<=24 by omega),l,D,E]
 simp only [beq_self_eq_true,cT,bS]
 rw [dT (show p>=-20001 by omega),G]
 simp only [cT,bS]
 rw [dT k]
theorem Zp4 (hN:4194304 < N) (n:Nat) (v:n<=24):∃ B,z55 N (n:Int)=some (⟨(n:Int),B⟩,0)/\Zx n YX ⟨(n:Int),B⟩:=by
 have hM:(n+1) * (n+1)<=25 * 25:=Nat.mul_le_mul (by omega) (by omega)
 have m:Z1 ((n:Int)+1)=((n+1:Nat):Int):=Ye (by omega)
 have t:Z1 ((Z1 ((n:Int)+1)) * (Z1 ((n:Int)+1)))=(((n+1) * (n+1):Nat):Int):=by
  rw [m,YE]
  ·rw [Int.natCast_mul]
  ·rw [<- Int.natCast_mul];omega
  ·rw [<- Int.natCast_mul];omega
 -- the cells ahead of a place are filled
 let Q:Nat->Nat->List Int->Prop:=fun i j B=>∃ A,Rep (n+1) B A/\∀ a b,a < n+1->b < n+1->(a < i\/(a=i/\b < j))->A a b=YX a b
 have z:Rep (n+1) (List.replicate ((n+1) * (n+1)) (0:Int)) (fun _ _=>0):=⟨by simp,fun i j hi o=>by rw [List.getElem?_replicate,if_pos (ZcU hi o)]⟩
 have k:=X4 (n+1) (VM N (n:Int)) (fun B=>some ⟨(n:Int),B⟩) (fun i B=>Q i 0 B) (by
  intro f B i hi w
  have l:=X4 (n+1) (SE N (n:Int) (i:Int) (VM N (n:Int) f)) (fun B=>VM N (n:Int) f B ((i+1:Nat):Int)) (fun j B=>Q i j B) (by
   intro g B j o ⟨A,h,q⟩
   refine ⟨B.set (i * (n+1)+j) (YX i j),⟨_,h.set hi o _,fun a b c d p=>?_⟩,?_⟩
   ·unfold Xd;split
    ·rename_i e;rw [e.1,e.2]
    ·rename_i e;exact q a b c d (by omega)
   ·rw [SE,m,Yo o,Zia,<- m,Tf v (by omega) (by omega),Ye (by omega)]
    simp only [cT,bS,Yb,h.at' i j hi o,XE]) (by
   intro g B
   rw [SE,m,Yp (Zp _)]
   simp only [cond_false,GH]
   rw [Ye (by omega)])
  obtain ⟨s,⟨A,h,q⟩,e⟩:=l (n+1) N 0 B (by omega) (by omega) w
  refine ⟨s,⟨A,h,fun a b c d p=>q a b c d (by omega)⟩,?_⟩
  rw [VM,m,Yo hi]
  exact e) (by
  intro f B
  rw [VM,m,Yp (Zp _)];rfl)
 obtain ⟨s,⟨A,h,q⟩,e⟩:=k (n+1) N 0 _ (by omega) (by omega) ⟨_,z,fun a b _ _ p=>by omega⟩
 have u:∀ a b,a < n+1->b < n+1->A a b=YX a b:=fun a b c d=>q a b c d (by omega)
 refine ⟨s,?_,rfl,⟨h.len,fun a b c d=>by rw [h.at' a b c d,u a b c d]⟩,fun a b _ _=>by have:=UG a b;omega,fun a b _ _=>Int.le_refl _⟩
 unfold z55
 rw [dF (show ¬ (n:Int) < 0 by omega),dF (show ¬ (n:Int) > 24 by omega)]
 simp only [cond_false]
 unfold Lu
 rw [t,ZiV _ (by omega)]
 simp only [bS]
 have e:VM N (n:Int) N (List.replicate ((n+1) * (n+1)) 0) (0:Int)=some ⟨(n:Int),s⟩:=e
 rw [e];rfl
theorem Zl8 (hN:4194304 < N) {n:Nat} (v:n<=24) {A:Nat->Nat->Int} {z:Yi} (h:Zx n A z) (i j:Nat) (hi:i < n+1) (d:j < n+1) (c:Int) :
  ∃ u,V6 N z ⟨(i:Int)-1,(j:Int)-1,c⟩=some (u,0)/\Zx n (Xd A i j (YG (A i j) (Yy c (-20001)))) u:=by
 have t:=ZkI hN v h
 have ⟨D,B⟩:=z
 have ⟨p,g,q,s⟩:=h
 simp only at p g
 subst p
 have hM:(n+1) * (n+1)<=25 * 25:=Nat.mul_le_mul (by omega) (by omega)
 unfold V6
 rw [t]
 simp only [bS,Zh,cond_false]
 have f:∀ k:Nat,k < n+1->Qi N ⟨(n:Int),B⟩ ((k:Int)-1)=some true:=fun k o=>by
  unfold Qi
  rw [dT (show (k:Int)-1>=-1 by omega)]
  simp only [cT]
  rw [dT (show (k:Int)-1 < (n:Int) by omega)]
 rw [f i hi,f j d]
 simp only [bS,Zh,cond_false]
 have o:Z1 ((Z1 ((Z1 ((Z1 ((i:Int)-1+(1:Int))) * (Z1 ((n:Int)+(1:Int)))))+((j:Int)-1)))+(1:Int))=((i * (n+1)+j:Nat):Int):=by
  have E:i * (n+1)<=24 * 25:=Nat.mul_le_mul (by omega) (by omega)
  have w:Z1 ((i:Int)-1+1)=(i:Int):=by rw [YE (by omega) (by omega)];omega
  rw [w,Ye (by omega)]
  have e:(i:Int) * ((n+1:Nat):Int)=((i * (n+1):Nat):Int):=by rw [Int.natCast_mul]
  rw [e,YE (n:=((i * (n+1):Nat):Int)) (by omega) (by omega),YE (n:=((i * (n+1):Nat):Int)+((j:Int)-1)) (by omega) (by omega),YE (by omega) (by omega)]
  omega
 rw [o]
 unfold Qj
 rw [Y8 (by simp;rw [g.len];omega)]
 simp only [bS,List.nil_append,Yb,g.at' i j hi d,XE]
 have t:=XY (A i j) (Yy c (-20001))
 have G:=Wl c (-20001)
 have H:=q i j hi d
 have C:=s i j hi d
 refine ⟨_,rfl,rfl,g.set hi d _,fun a b l m=>?_,fun a b l m=>?_⟩
 ·unfold Xd;split
  ·omega
  ·exact q a b l m
 ·unfold Xd;split
  ·rename_i e;rw [e.1,e.2];omega
  ·exact s a b l m
theorem Zqq (hN:4194304 < N) (n:Nat) (O:n<=24) (z:Yi) (I:z.N=(n:Int)) (k:Nat) (u:k < n+1) (K:Int) (U:20001<=K) (R:K<=1000000000) (ag:List Int->Int->Option (Yi × Bool))
  (B:List Int) (A:Nat->Nat->Int) (L:Rep (n+1) B A) (M:UX (n+1) A (-K) 20000) (v:A k k=0) :
  ∃ o,Rep (n+1) o (ph A k)/\Wn N z (k:Int) ag N B (0:Int)=Ti N z (k:Int) ag o:=by
 have w:Z1 (z.N+1)=((n+1:Nat):Int):=by rw [I,Ye (by omega)]
 have l:∀ i j:Nat,i < n+1->j < n+1->Z1 ((Z1 ((i:Int) * (Z1 (z.N+1))))+(j:Int))=((i * (n+1)+j:Nat):Int):=fun i j hi m=>by rw [I];exact Tf O (by omega) (by omega)
 have D:∀ a,ph A k a k=A a k:=fun a=>by unfold ph YG;rw [v];split<;>omega
 have E:∀ b,ph A k k b=A k b:=fun b=>by unfold ph YG;rw [v];split<;>omega
 let S:Nat->Nat->Nat->Nat->Int:=fun i j a b=>if a < i\/(a=i/\b < j) then ph A k a b else A a b
 let P:Nat->Nat->List Int->Prop:=fun i j B=>Rep (n+1) B (S i j)
 have G:∀ i j a,S i j a k=A a k:=fun i j a=>by
  show (if _ then _ else _)=_
  split
  ·exact D a
  ·rfl
 have H:∀ i j b,S i j k b=A k b:=fun i j b=>by
  show (if _ then _ else _)=_
  split
  ·exact E b
  ·rfl
 have s:=X4 (n+1) (Wn N z (k:Int) ag) (fun B=>Ti N z (k:Int) ag B) (fun i B=>P i 0 B) (by
  intro f B i hi C
  have t:=X4 (n+1) (UQ z (k:Int) (i:Int) (Wn N z (k:Int) ag f)) (fun B=>Wn N z (k:Int) ag f B ((i+1:Nat):Int)) (fun j B=>P i j B) (by
   intro g B j m h
   have h:Rep (n+1) B (S i j):=h
   have T:S i j i j=A i j:=by show (if _ then _ else _)=_;rw [if_neg (by omega)]
   refine ⟨B.set (i * (n+1)+j) (ph A k i j),?_,?_⟩
   ·have:=h.set hi m (ph A k i j)
    refine ⟨this.len,fun a b p q=>?_⟩
    rw [this.at' a b p q]
    congr 1
    show Xd _ _ _ _ a b=if _ then _ else _
    unfold Xd
    split
    ·rename_i e;rw [if_pos (by omega),e.1,e.2]
    ·rename_i e
     show (if _ then _ else _)=_
     by_cases c:a < i\/(a=i/\b < j)
     ·rw [if_pos c,if_pos (by omega)]
     ·rw [if_neg c,if_neg (by omega)]
   ·have V:=M i k hi u
    have W:=M k j u m
    rw [UQ,w,Yo m,<- w,l i j hi m,l i k hi u,l k j u m,Ye (by omega)]
    simp only [cT,Yb,h.at' i j hi m,h.at' i k hi u,h.at' k j u m,bS,XE]
    rw [G,H,T,YE (by omega) (by omega)]
    rfl) (by
   intro g B
   rw [UQ,w,Yp (Zp _)]
   simp only [cond_false,Lv]
   rw [Ye (by omega)])
  have ⟨o,d,e⟩:=t (n+1) N 0 B (by omega) (by omega) C
  have d:Rep (n+1) o (S i (n+1)):=d
  refine ⟨o,⟨d.len,fun a b p q=>?_⟩,?_⟩
  ·rw [d.at' a b p q]
   congr 1
   show (if _ then _ else _)=if _ then _ else _
   by_cases c:a < i\/(a=i/\b < n+1)
   ·rw [if_pos c,if_pos (by omega)]
   ·rw [if_neg c,if_neg (by omega)]
  ·rw [Wn,w,Yo hi]
   exact e) (by
  intro f B
  rw [Wn,w,Yp (Zp _)];rfl)
 have ⟨o,d,e⟩:=s (n+1) N 0 B (by omega) (by omega) ⟨L.len,fun a b p q=>by
  rw [L.at' a b p q]
  congr 1
  show _=if _ then _ else _
  rw [if_neg (by omega)]⟩
 have d:Rep (n+1) o (S (n+1) 0):=d
 refine ⟨o,⟨d.len,fun a b p q=>?_⟩,e⟩
 rw [d.at' a b p q]
 congr 1
 show (if _ then _ else _)=_
 rw [if_pos (by omega)]
end
section
variable {N:Nat}
theorem ZhI (hN:4194304 < N) (n:Nat) (p:n<=24) (z:Yi) (o:z.N=(n:Int)) (k:Nat) (v:k < n+1) (ag:List Int->Int->Option (Yi × Bool)) (B:List Int) (A:Nat->Nat->Int) (q:Rep (n+1) B A) :
  (Ti N z (k:Int) ag B=some (⟨0,[]⟩,false)/\∃ a,a < n+1/\A a a < 0)\/(Ti N z (k:Int) ag B=ag B ((k+1:Nat):Int)/\∀ a,a < n+1->0<=A a a):=by
 have l:Z1 (z.N+1)=((n+1:Nat):Int):=by rw [o,Ye (by omega)]
 have d:∀ i j:Nat,i < n+1->j < n+1->Z1 ((Z1 ((i:Int) * (Z1 (z.N+1))))+(j:Int))=((i * (n+1)+j:Nat):Int):=fun i j hi w=>by rw [o];exact Tf p (by omega) (by omega)
 have f:∀ (r g i:Nat),i+r=n+1->r < g->(∀ a,a < i->0<=A a a)->(Tj z (k:Int) ag B g (i:Int)=some (⟨0,[]⟩,false)/\∃ a,a < n+1/\A a a < 0)\/(Tj z (k:Int) ag B g (i:Int)=ag B ((k+1:Nat):Int)/\∀ a,a < n+1->0<=A a a):=by
  intro r
  induction r with
  | zero =>
   intro g i hi t h
   obtain ⟨g,rfl⟩:∃ m,g=m+1:=⟨g-1,by omega⟩
   have:i=n+1:=by omega
   subst this
   right
   refine ⟨?_,h⟩
   rw [Tj,l,Yp (Zp _)]
   simp only [cond_false,GK]
   rw [Ye (by omega)]
  | succ r u =>
   intro g i hi t h
   obtain ⟨g,rfl⟩:∃ m,g=m+1:=⟨g-1,by omega⟩
   have b:i < n+1:=by omega
   rw [Tj,l,Yo b,<- l,d i i b b,Ye (by omega)]
   simp only [cT,Yb,q.at' i i b b,bS]
   by_cases c:A i i < 0
   ·rw [dT c]
    left;exact ⟨rfl,i,b,c⟩
   ·rw [dF c]
    exact u g (i+1) (by omega) (by omega) (fun a s=>by
     by_cases e:a=i
     ·subst e;omega
     ·exact h a (by omega))
 exact f (n+1) N 0 (by omega) (by omega) (fun a s=>by omega)
theorem Zqs (hN:4194304 < N) (n:Nat) (L:n<=4) (z:Yi) (l:z.N=(n:Int)) (o:Nat->Nat->Int):∀ (r f k:Nat) (B:List Int) (A:Nat->Nat->Int),k+r=n+1->r < f->Rep (n+1) B A->(∀ a b,a < n+1->b < n+1->-(pw k)<=A a b)->Cl (n+1) k o A ->
  (Wu N z f B (k:Int)=some (⟨0,[]⟩,false)/\∀ y,¬ Y6 (n+1) o y)\/∃ v s,Wu N z f B (k:Int)=some (⟨(n:Int),v⟩,true)/\Rep (n+1) v s/\(∀ a b,a < n+1->b < n+1->-155527776<=s a b)/\Cl (n+1) (n+1) o s:=by
 have u:Z1 (z.N+1)=((n+1:Nat):Int):=by rw [l,Ye (by omega)]
 intro r
 induction r with
 | zero =>
  intro f k B A E G q g h
  obtain ⟨f,rfl⟩:∃ m,f=m+1:=⟨f-1,by omega⟩
  have:k=n+1:=by omega
  subst this
  right
  refine ⟨B,A,?_,q,fun a b d e=>?_,h⟩
  ·rw [Wu,u,Yp (Zp _)]
   simp only [cond_false,GI,l]
  ·have:=g a b d e
   have:=(Zal (k:=n+1) (by omega)).2
   omega
 | succ r I =>
  intro f k B A E G q g h
  obtain ⟨f,rfl⟩:∃ m,f=m+1:=⟨f-1,by omega⟩
  have c:k < n+1:=by omega
  have H:=Zal (k:=k) (by omega)
  rw [Wu,u,Yo c]
  simp only [cT]
  have ⟨t,i,C⟩:=Zqq hN n (by omega) z l k c (pw k) H.1 (by omega) (Wu N z f) B A q (fun a b d e=>⟨g a b d e,by have:=h.hi a b d e;have:=UG a b;omega⟩) (h.diag k c)
  rw [C]
  rcases ZhI hN n (by omega) z l k c (Wu N z f) t (ph A k) i with ⟨p,a,d,j⟩ | ⟨p,D⟩
  ·left
   refine ⟨p,fun y w=>?_⟩
   exact ZdU d j y ((Ziw c).1 ((h.keep y).1 w))
  ·rw [p]
   exact I f (k+1) t (ph A k) (by omega) (by omega) i (fun a b d e=>by
    have M:=g a b d e
    have O:=g a k d c
    have P:=g k b c e
    show -(6 * pw k)<=YG (A a b) (A a k+A k b)
    have:=XY (A a b) (A a k+A k b)
    omega) (h.step (by omega) c D)
theorem Zqr (hN:4194304 < N) (n:Nat) (D:n<=24) (z:Yi) (C:z.N=(n:Int)) (k:Nat) (d:k < n+1) (K:Int) (H:20001<=K) (E:K<=1000000000) (ag:List Int->Int->Option (Yi × Bool))
  (B:List Int) (A:Nat->Nat->Int) (G:Rep (n+1) B A) (v:UX (n+1) A (-K) 20000) :
  ∃ p c,Rep (n+1) p c/\(∀ a b,a < n+1->b < n+1->c a b<=A a b)/\Wn N z (k:Int) ag N B (0:Int)=Ti N z (k:Int) ag p:=by
 have w:Z1 (z.N+1)=((n+1:Nat):Int):=by rw [C,Ye (by omega)]
 have h:∀ i j:Nat,i < n+1->j < n+1->Z1 ((Z1 ((i:Int) * (Z1 (z.N+1))))+(j:Int))=((i * (n+1)+j:Nat):Int):=fun i j hi l=>by rw [C];exact Tf D (by omega) (by omega)
 let P:Nat->List Int->Prop:=fun i B=>∃ c,Rep (n+1) B c/\Ph (n+1) k K A c i 0
 have t:=X4 (n+1) (Wn N z (k:Int) ag) (fun B=>Ti N z (k:Int) ag B) P (by
  intro f B i hi ⟨A1,hR1,hP1⟩
  have u:=X4 (n+1) (UQ z (k:Int) (i:Int) (Wn N z (k:Int) ag f)) (fun B=>Wn N z (k:Int) ag f B ((i+1:Nat):Int)) (fun j B=>∃ c,Rep (n+1) B c/\Ph (n+1) k K A c i j) (by
   intro g B j l ⟨A2,hR2,hP2⟩
   refine ⟨B.set (i * (n+1)+j) (YG (A2 i j) (A2 i k+A2 k j)),⟨_,hR2.set hi l _,hP2.step (by omega) d hi l⟩,?_⟩
   have I:=hP2.lo i k hi d
   have L:=hP2.lo k j d l
   have M:=hP2.hi i k hi d
   have O:=hP2.hi k j d l
   rw [UQ,w,Yo l,<- w,h i j hi l,h i k hi d,h k j d l,Ye (by omega)]
   simp only [cT,Yb,hR2.at' i j hi l,hR2.at' i k hi d,hR2.at' k j d l,bS,XE]
   rw [YE (by omega) (by omega)]) (by
   intro g B
   rw [UQ,w,Yp (Zp _)]
   simp only [cond_false,Lv]
   rw [Ye (by omega)])
  obtain ⟨p,⟨c,q,s⟩,e⟩:=u (n+1) N 0 B (by omega) (by omega) ⟨A1,hR1,hP1⟩
  refine ⟨p,⟨c,q,s.row⟩,?_⟩
  rw [Wn,w,Yo hi]
  exact e) (by
  intro f B
  rw [Wn,w,Yp (Zp _)];rfl)
 obtain ⟨p,⟨c,q,s⟩,e⟩:=t (n+1) N 0 B (by omega) (by omega) ⟨A,G,⟨fun a b m o=>(v a b m o).2,fun a b m o=>by have:=(v a b m o).1;omega,fun a b m o _=>(v a b m o).1,fun a b m o _=>by have:=(v a b m o).1;omega,by have:=(v k k d d).1;omega,fun a b _ _=>Int.le_refl _⟩⟩
 have e:Wn N z (k:Int) ag N B (0:Int)=Ti N z (k:Int) ag p:=e
 exact ⟨p,c,q,s.mono,e⟩
theorem ZmO (hN:4194304 < N) (n:Nat) (V:n<=4) (A:Nat->Nat->Int) (z:Yi) (h:Zx n A z):(∃ z',z127 N z=some (z',false)/\∀ y,¬ Y6 (n+1) A y) \/
  ∃ B P,z127 N z=some (⟨(n:Int),B⟩,true)/\Rep (n+1) B P/\(∀ a b,a < n+1->b < n+1->-155527776<=P a b)/\Cl (n+1) (n+1) A P:=by
 have hv:=ZkI hN (by omega) h
 have ⟨zn,B⟩:=z
 have ⟨R,u,D,E⟩:=h
 simp only at R u
 subst R
 have hM:(n+1) * (n+1)<=25 * 25:=Nat.mul_le_mul (by omega) (by omega)
 unfold z127
 rw [hv]
 simp only [bS,Zh,cond_false]
 unfold Qj
 rw [Y8 (by simp;rw [u.len];omega)]
 simp only [bS,List.nil_append]
 have t:Z1 ((n:Int)+1)=((n+1:Nat):Int):=Ye (by omega)
 -- the first pass changes nothing
 have o:=X4 (n+1) (Vw N ⟨(n:Int),B⟩) (fun c=>GL N ⟨(n:Int),B⟩ c) (fun _ c=>Rep (n+1) c A) (by
  intro f S i hi hP
  have p:=X4 (n+1) (SF N ⟨(n:Int),B⟩ (i:Int) (Vw N ⟨(n:Int),B⟩ f)) (fun c=>Vw N ⟨(n:Int),B⟩ f c ((i+1:Nat):Int)) (fun _ c=>Rep (n+1) c A) (by
   intro g s j G w
   have hij:=E i j hi G
   have hm:YG (A i j) (YX i j)=A i j:=by unfold YG;rw [if_neg (by omega)]
   refine ⟨s.set (i * (n+1)+j) (A i j),?_,?_⟩
   ·have:=w.set hi G (A i j)
    refine ⟨this.len,fun a b d q=>?_⟩
    rw [this.at' a b d q]
    unfold Xd;split
    ·rename_i e;rw [e.1,e.2]
    ·rfl
   ·rw [SF]
    simp only []
    rw [t,Yo G,Zia,<- t,Tf (by omega) (by omega) (by omega),Ye (by omega)]
    simp only [cT,bS,Yb,w.at' i j hi G,XE,hm]) (by
   intro g s
   rw [SF]
   simp only []
   rw [t,Yp (Zp _)]
   simp only [cond_false,GJ]
   rw [Ye (by omega)])
  have ⟨c,I,e⟩:=p (n+1) N 0 S (by omega) (by omega) hP
  refine ⟨c,I,?_⟩
  rw [Vw]
  simp only []
  rw [t,Yo hi]
  exact e) (by
  intro f S
  rw [Vw]
  simp only []
  rw [t,Yp (Zp _)];rfl)
 have ⟨c,v,e⟩:=o (n+1) N 0 B (by omega) (by omega) u
 have e:Vw N ⟨(n:Int),B⟩ N B (0:Int)=Wu N ⟨(n:Int),B⟩ N c (0:Int):=e
 rw [e]
 by_cases U:∀ a,a < n+1->0<=A a a
 ·have hC:Cl (n+1) 0 A A:=⟨fun a d=>by
   have q1:=U a d
   have T:=E a a d d
   unfold YX at T
   rw [if_pos rfl] at T
   omega,fun l hl=>by omega,E,fun y=>Iff.rfl⟩
  rcases Zqs hN n V ⟨(n:Int),B⟩ rfl A (n+1) N 0 c A (by omega) (by omega) v (fun a b d q=>by have:=D a b d q;show -(20001:Int)<=_;omega) hC with ⟨h,Z⟩ | ⟨s,L,M,r2,b2,c2⟩
  ·left;exact ⟨_,h,Z⟩
  ·right;exact ⟨s,L,M,r2,b2,c2⟩
 ·-- a place is below nothing from the beginning: the first Z3 finds it
  obtain ⟨a,d⟩:∃ a,¬ (a < n+1->0<=A a a):=by
   apply Classical.byContradiction
   intro H
   exact U fun a h=>Classical.byContradiction fun u=>H ⟨a,fun D=>u (D h)⟩
  have k:a < n+1:=by
   apply Classical.byContradiction;intro H;exact d fun h=>absurd h H
  have C:A a a < 0:=by
   apply Classical.byContradiction;intro H;exact d fun _=>by omega
  left
  obtain ⟨f,rfl⟩:∃ m,N=m+1:=⟨N-1,by omega⟩
  have hz:(⟨(n:Int),B⟩:Yi).N=(n:Int):=rfl
  rw [Wu]
  simp only []
  rw [t,show (0:Int)=((0:Nat):Int) from rfl,Yo (by omega)]
  simp only [cT]
  have ⟨s,L,W,X,Y⟩:=Zqr hN n (by omega) ⟨(n:Int),B⟩ rfl 0 (by omega) 20001 (by omega) (by omega) (Wu (f+1) ⟨(n:Int),B⟩ f) c A v (fun a b d q=>⟨by have:=D a b d q;omega,by have:=E a b d q;have:=UG a b;omega⟩)
  rcases ZhI hN n (by omega) ⟨(n:Int),B⟩ rfl 0 (by omega) (Wu (f+1) ⟨(n:Int),B⟩ f) s L W with ⟨M,_⟩ | ⟨_,O⟩
  ·exact ⟨_,Y.trans M,fun y=>ZdU k C y⟩
  ·have:=O a k
   have:=X a a k k
   omega
end
section
variable {N:Nat}
def XI (m:List Int):Nat->Int
 | 0=>0
 | i+1=>(m[i]?).getD 0
theorem Zte {m:List Int} {v:Int} {a:Nat} (h:a<=m.length):XI (m++[v]) a=XI m a:=by
 cases a with
 | zero=>rfl
 | succ a=>show ((m++[v])[a]?).getD 0=(m[a]?).getD 0;rw [Zn (by omega)]
theorem Ztf {m:List Int} {v:Int}:XI (m++[v]) (m.length+1)=v:=by
 show ((m++[v])[m.length]?).getD 0=v
 simp
theorem ZeJ {m:List Int} {j:Nat} {x:Int} (h:m[j]? = some x):XI m (j+1)=x:=by
 show (m[j]?).getD 0=x
 rw [h];rfl
def Lst (A:Nat->Nat->Int) (y:Nat->Int) (n:Nat):Prop:=∀ a,1<=a->a<=n->(∃ c,c < a/\y a=y c-A c a)/\∀ c,c < a->y c-A c a<=y a
theorem Zo4 {n:Nat} {i A:Nat->Nat->Int} {y:Nat->Int} (h:Lst A y n) (f:Cl (n+1) (n+1) i A):Y6 (n+1) A y:=by
 have key:∀ a b,a < n+1->b < n+1->y a-y b<=A a b:=by
  intro a
  induction a using Nat.strongRecOn with
  | _ a l =>
   intro b k g
   rcases Nat.lt_trichotomy a b with d | d | d
   ·have:=(h b (by omega) (by omega)).2 a d
    omega
   ·subst d
    have:=f.diag a k
    omega
   ·have ⟨c,j,e⟩:=(h a (by omega) (by omega)).1
    have m:=l c j b (by omega) g
    have o:=f.tri a (by omega) c b (by omega) g
    omega
 exact key
theorem Zo5 {n:Nat} {A:Nat->Nat->Int} {y u:Nat->Int} (h:Lst A y n) (a:Y6 (n+1) A u) (b:u 0=y 0) (i:Nat) (hi:i < n) (d:∀ j,j < i->u (j+1)=y (j+1)):y (i+1)<=u (i+1):=by
 have ⟨c,f,e⟩:=(h (i+1) (by omega) (by omega)).1
 have g:=a c (i+1) (by omega) (by omega)
 have:u c=y c:=by
  cases c with
  | zero=>exact b
  | succ c=>exact d c (by omega)
 omega
theorem Zpm (hN:4194304 < N) (n:Nat) (hn:n<=4) (C:Nat->Nat->Int) (z:Yi) (h:Zx n C z):(∃ m,UV N z=some (m,false)/\∀ y,¬ Y6 (n+1) C y) \/
  ∃ m,UV N z=some (m,true)/\m.length=n/\Y6 (n+1) C (XI m)/\∀ u,Y6 (n+1) C u->u 0=0->∀ i,i < n->(∀ j,j < i->u (j+1)=XI m (j+1))->XI m (i+1)<=u (i+1):=by
 unfold UV
 have Y:=h.N
 rcases ZmO hN n hn C z h with ⟨z',e,T⟩ | ⟨B,A,e,hR,X,L⟩
 ·left
  rw [e];exact ⟨_,rfl,T⟩
 ·rw [e]
  simp only [bS,Zh,cond_false]
  right
  have D:∀ a b,a < n+1->b < n+1->A a b<=20000:=fun a b H hb=>by have:=L.hi a b H hb;have:=UG a b;omega
  have E:∀ i j:Nat,i < n+1->j < n+1->Qk N ⟨(n:Int),B⟩ (i:Int) (j:Int)=some (A i j):=fun i j hi M=>by
   unfold Qk
   simp only []
   rw [Tf (by omega) (by omega) (by omega),Yb,hR.at' i j hi M];rfl
  let P:Nat->List Int->Prop:=fun i m=>m.length=i/\Lst A (XI m) i/\∀ a,a<=i->-20000<=XI m a/\XI m a<=155527776 * (a:Int)
  have s:=X4 n (Vy N z (⟨(n:Int),B⟩,true)) (fun m=>some (m,true)) P (by
   intro f m i hi ⟨k,I,p⟩
   have b0:=X 0 (i+1) (by omega) (by omega)
   have b00:=D 0 (i+1) (by omega) (by omega)
   have t:=X4 (γ:=Option (List Int × Bool)) i (Ts N (⟨(n:Int),B⟩,true) m (i:Int) (Vy N z (⟨(n:Int),B⟩,true) f)) (fun v=>Me m (i:Int) (Vy N z (⟨(n:Int),B⟩,true) f) v)
    (fun j v=>(∃ c,c < j+1/\v=XI m c-A c (i+1))/\(∀ c,c < j+1->XI m c-A c (i+1)<=v)/\-20000<=v/\v<=155527776 * ((i:Int)+1)) (by
    intro g v j M ⟨⟨c,o,v0⟩,R,v2,v3⟩
    obtain ⟨x,W⟩:∃ x,m[j]? = some x:=⟨m[j]'(by omega),by simp⟩
    have U:=ZeJ W
    have ⟨x1,x2⟩:=p (j+1) (by omega)
    rw [U] at x1 x2
    have b1:=X (j+1) (i+1) (by omega) (by omega)
    have b2:=D (j+1) (i+1) (by omega) (by omega)
    have q:=Wl v (Z1 (x-A (j+1) (i+1)))
    have Z:Z1 (x-A (j+1) (i+1))=x-A (j+1) (i+1):=YE (by omega) (by omega)
    rw [Z] at q
    refine ⟨Yy v (x-A (j+1) (i+1)),⟨?_,fun c o=>?_,by omega,by omega⟩,?_⟩
    ·rcases q.2.2 with q | q
     ·exact ⟨c,by omega,by rw [q];exact v0⟩
     ·exact ⟨j+1,by omega,by rw [q,U]⟩
    ·by_cases e:c=j+1
     ·rw [e,U];exact q.2.1
     ·have:=R c (by omega)
      omega
    ·rw [Ts,k,Yo M,Ye (by omega),Ye (n:=i) (by omega)]
     simp only [cT,Yb,W,bS]
     rw [E (j+1) (i+1) (by omega) (by omega)]
     simp only [bS,Z]) (by
    intro g v
    rw [Ts,k,Yp (Zp _)];rfl)
   have G:Z1 (0-A 0 (i+1))=0-A 0 (i+1):=YE (by omega) (by omega)
   obtain ⟨v,⟨⟨c,o,v0⟩,R,v2,v3⟩,S⟩:=t i N 0 (0-A 0 (i+1)) (by omega) (by omega) ⟨⟨0,by omega,rfl⟩,fun c o=>by
    have:c=0:=by omega
    subst this
    show (0:Int)-_<=_
    omega,by omega,by omega⟩
   have d:∀ a,a<=i->XI (m++[v]) a=XI m a:=fun a H=>Zte (by omega)
   have l:XI (m++[v]) (i+1)=v:=by rw [<- k];exact Ztf
   refine ⟨m++[v],⟨by simp [k],fun a V h2=>?_,fun a H=>?_⟩,?_⟩
   ·by_cases w:a<=i
    ·obtain ⟨⟨c,q1,q2⟩,q3⟩:=I a V w
     refine ⟨⟨c,q1,by rw [d a w,d c (by omega)];exact q2⟩,fun c o=>?_⟩
     rw [d a w,d c (by omega)]
     exact q3 c o
    ·have:a=i+1:=by omega
     subst this
     refine ⟨⟨c,o,by rw [l,d c (by omega)];exact v0⟩,fun c o=>?_⟩
     rw [l,d c (by omega)]
     exact R c o
   ·by_cases w:a<=i
    ·rw [d a w];exact p a w
    ·have:a=i+1:=by omega
     subst this
     rw [l]
     exact ⟨v2,by omega⟩
   ·rw [Vy,Y,Yo hi,Ye (by omega)]
    simp only [cT]
    have h0:=E 0 (i+1) (by omega) (by omega)
    rw [show ((0:Nat):Int)=0 from rfl] at h0
    rw [h0]
    simp only [bS,G]
    have S:Ts N (⟨(n:Int),B⟩,true) m (i:Int) (Vy N z (⟨(n:Int),B⟩,true) f) N (0-A 0 (i+1)) (0:Int)=_:=S
    rw [S]
    unfold Me
    rw [Y8 (by simp;omega),Ye (by omega)]
    rfl) (by
   intro f m
   rw [Vy,Y,Yp (Zp _)];rfl)
  obtain ⟨m,⟨k,I,p⟩,e⟩:=s n N 0 [] (by omega) (by omega) ⟨rfl,fun a V h2=>by omega,fun a H=>by
   have:a=0:=by omega
   subst this
   show -20000<=(0:Int)/\(0:Int)<=_
   omega⟩
  refine ⟨m,e,k,(L.keep _).2 (Zo4 I L),fun u hu O i hi he=>?_⟩
  exact Zo5 I ((L.keep u).1 hu) (by rw [O];rfl) i hi he
end
section
variable {N:Nat}
def Y7 (x:T0) (y:Int):Nat:=bif decide (y < 0) then 0 else bif Xa x y then (y-x.ZA).toNat+1 else 0
def XL (ks:List T12) (x:T0) (y:Int):Int:=bif decide (y < 0) then 0 else bif Xa x y then 0 else match Z5 ks y with
 | some v=>Yz v
 | none=>0
def We (ks:List T12) (x:T0) (y:Int):Bool:=bif decide (y < 0) then false else bif Xa x y then false else match Z5 ks y with
 | some v=>v.Zt==0
 | none=>true
def cV (ks:List T12) (x:T0) (b:T1):Int:=b.C-XL ks x b.X+XL ks x b.Y
theorem Small.kn {ks:List T12} (h:Small ks) (x:T0) (y:Int):-1000<=XL ks x y/\XL ks x y<=1000:=by
 unfold XL
 cases decide (y < 0) with
 | true=>simp
 | false =>
  cases Xa x y with
  | true=>simp
  | false =>
   simp only [cond_false]
   split
   ·rename_i v a
    obtain ⟨i,rfl,hi⟩:=UI a
    exact h i v hi
   ·omega
theorem UL {x:T0} {first:Nat} (a:x.ZA=(first:Int)) (b:first<=1000) (c:x.Zz.length<=4) (y:Int):Xa x y=true↔(first:Int)<=y/\y < (first:Int)+(x.Zz.length:Int):=by
 have d:Z1 (x.ZA+(x.Zz.length:Int))=(first:Int)+(x.Zz.length:Int):=by rw [a,YE (by omega) (by omega)]
 unfold Xa
 rw [d,a,Zc,decide_eq_true_eq,decide_eq_true_eq]
theorem HV {x:T0} {first:Nat} (c:x.ZA=(first:Int)) (a:first<=1000) (b:x.Zz.length<=4) (y:Int):Y7 x y < x.Zz.length+1:=by
 unfold Y7
 cases decide (y < 0) with
 | true=>exact Nat.succ_pos _
 | false =>
  simp only [cond_false]
  cases h:Xa x y with
  | false=>exact Nat.succ_pos _
  | true =>
   have:=(UL c a b y).1 h
   rw [c]
   show (y-(first:Int)).toNat+1 < _
   omega
theorem ZhY (ks:List T12) (g:Small ks) (x:T0) (c a0 a1:Int) (j:-30000<=c/\c<=30000) (i:Int) (ag:Int->Int->Int->Int->Option (List T12 × Bool)) (y:Int) (d:0<=y/\y < (ks.length:Int)) :
  (i=0->V4 N ks x c a0 a1 i ag y (Xa x y)=bif We ks x y then some ([],false) else ag (c-XL ks x y) (bif Xa x y then Z1 (y-x.ZA) else a0) a1 1) /\
  (i=1->V4 N ks x c a0 a1 i ag y (Xa x y)=bif We ks x y then some ([],false) else ag (c+XL ks x y) a0 (bif Xa x y then Z1 (y-x.ZA) else a1) 2):=by
 have a:=g.kn x y
 unfold V4
 have f:decide (y < 0)=false:=by simp;omega
 unfold We
 rw [f]
 unfold XL at a ⊢
 rw [f] at a ⊢
 cases h:Xa x y with
 | true =>
  refine ⟨fun e=>?_,fun e=>?_⟩
  ·subst e
   simp only [cT,cond_false]
   rw [Int.sub_zero];rfl
  ·subst e
   simp only [cT,cond_false]
   rw [Int.add_zero];rfl
 | false =>
  have ⟨v,b⟩:=Xx (L:=ks) (v:=y) d.1 d.2
  rw [h] at a
  simp only [cond_false,b] at a
  refine ⟨fun e=>?_,fun e=>?_⟩
  ·subst e
   simp only [cond_false,b,bS,R6]
   cases v.Zt==0 with
   | true=>rfl
   | false =>
    have:Z1 (c-Yz v)=c-Yz v:=YE (by omega) (by omega)
    simp only [cond_false,this];rfl
  ·subst e
   simp only [cond_false,b,bS,R6]
   cases v.Zt==0 with
   | true=>rfl
   | false =>
    have:Z1 (c+Yz v)=c+Yz v:=YE (by omega) (by omega)
    simp only [cond_false,this];rfl
theorem ZnJ (ks:List T12) (o:Small ks) (x:T0) (first:Nat) (w:x.ZA=(first:Int)) (p:first<=1000) (s:x.Zz.length<=4) (e:Int) (f:List Int) (k:Int) (ag:Int->List Int->Int->Option (List T12 × Bool)) (b:T1) (z:b.X < (ks.length:Int)) (A:b.Y < (ks.length:Int)) (M:-20000<=b.C/\b.C<=20000) (n:Nat) :
  WM N ks x e f k ag b (n+3) b.C (-1) (-1) 0=bif We ks x b.X || We ks x b.Y then some ([],false) else (V6 N ⟨e,f⟩ ⟨(Y7 x b.X:Int)-1,(Y7 x b.Y:Int)-1,cV ks x b⟩).bind (fun q=>ag q.1.N q.1.B (Z1 (k+1))):=by
 have G:Z1 ((0:Int)+1)=1:=rfl
 have w2:Z1 ((1:Int)+1)=2:=rfl
 have H:decide ((0:Int) < 2)=true:=rfl
 have d1:decide ((1:Int) < 2)=true:=rfl
 have I:decide ((2:Int) < 2)=false:=rfl
 have i0:Z5 ([b.X,b.Y]:List Int) 0=some b.X:=rfl
 have L:Z5 ([b.X,b.Y]:List Int) 1=some b.Y:=rfl
 have d:∀ y:Int,0<=y->(bif Xa x y then Z1 (y-x.ZA) else -1)=(Y7 x y:Int)-1:=fun y O=>by
  unfold Y7
  rw [dF (show ¬ y < 0 by omega)]
  simp only [cond_false]
  cases h:Xa x y with
  | false=>rfl
  | true =>
   have h:=(UL w p s y).1 h
   simp only [cT]
   rw [w,YE (by omega) (by omega)];omega
 have j:∀ c a0 a1:Int,WM N ks x e f k ag b (n+1) c a0 a1 2=(V6 N ⟨e,f⟩ ⟨a0,a1,c⟩).bind (fun q=>ag q.1.N q.1.B (Z1 (k+1))):=fun c a0 a1=>by
  rw [WM,I];rfl
 have l:∀ (y c a0 a1 i:Int) (g:Int->Int->Int->Int->Option (List T12 × Bool)),(bif decide (y>=x.ZA) then V4 N ks x c a0 a1 i g y (decide (y < Z1 (x.ZA+(x.Zz.length:Int)))) else V4 N ks x c a0 a1 i g y false)=V4 N ks x c a0 a1 i g y (Xa x y):=fun y c a0 a1 i g=>by
  unfold Xa
  cases decide (y>=x.ZA)<;>rfl
 have m:∀ c a0:Int,-30000<=c->c<=30000->WM N ks x e f k ag b (n+2) c a0 (-1) 1=bif We ks x b.Y then some ([],false) else (V6 N ⟨e,f⟩ ⟨a0,(Y7 x b.Y:Int)-1,c+XL ks x b.Y⟩).bind (fun q=>ag q.1.N q.1.B (Z1 (k+1))):=fun c a0 D E=>by
  rw [WM,d1]
  simp only [cT,L,bS]
  by_cases a:b.Y < 0
  ·have t:We ks x b.Y=false:=by unfold We;rw [dT a];rfl
   have u:XL ks x b.Y=0:=by unfold XL;rw [dT a];rfl
   have v:Y7 x b.Y=0:=by unfold Y7;rw [dT a];rfl
   rw [dT a,cT,w2,j,t,u,v,Int.add_zero];rfl
  ·rw [dF a,cond_false,l,(ZhY ks o x c a0 (-1) ⟨D,E⟩ 1 _ b.Y ⟨by omega,A⟩).2 rfl,d b.Y (by omega),j]
 have P:=o.kn x b.X
 rw [WM,H]
 simp only [cT,i0,bS]
 unfold cV
 by_cases a:b.X < 0
 ·have t:We ks x b.X=false:=by unfold We;rw [dT a];rfl
  have u:XL ks x b.X=0:=by unfold XL;rw [dT a];rfl
  have v:Y7 x b.X=0:=by unfold Y7;rw [dT a];rfl
  rw [dT a,cT,G,m _ _ (by omega) (by omega),t,u,v,Int.sub_zero];rfl
 ·rw [dF a,cond_false,l,(ZhY ks o x b.C (-1) (-1) ⟨by omega,by omega⟩ 0 _ b.X ⟨by omega,z⟩).1 rfl,d b.X (by omega),m _ _ (by omega) (by omega)]
  cases We ks x b.X<;>rfl
theorem ZnH (hN:33554432 < N) (ks:List T12) (U:Small ks) (x:T0) (first:Nat) (t:x.ZA=(first:Int)) (d:first<=1000) (e:x.Zz.length<=4) (z0:List T1) (L:Bd x ks.length z0) (V:∀ b∈z0,-20000<=b.C/\b.C<=20000) :
  ∀ (r:List T1) (f k:Nat) (z:Yi) (A:Nat->Nat->Int),z0.drop k=r->r.length < f->Zx x.Zz.length A z ->
  ((∃ b∈r,(We ks x b.X || We ks x b.Y)=true)/\Vm N ks x z0 f z.N z.B (k:Int)=some ([],false)) \/
  ((∀ b∈r,(We ks x b.X || We ks x b.Y)=false)/\∃ I T,Vm N ks x z0 f z.N z.B (k:Int)=SQ N ks x I.N I.B/\Zx x.Zz.length T I /\
   ∀ u,Y6 (x.Zz.length+1) T u↔Y6 (x.Zz.length+1) A u/\∀ b∈r,u (Y7 x b.X)-u (Y7 x b.Y)<=Yy (cV ks x b) (-20001)):=by
 intro r
 induction r with
 | nil =>
  intro f k z A h s hZ
  obtain ⟨f,rfl⟩:∃ m,f=m+1:=⟨f-1,by simp at s;omega⟩
  right
  refine ⟨fun b i=>by simp at i,z,A,?_,hZ,fun u=>⟨fun h=>⟨h,fun b i=>by simp at i⟩,fun h=>h.1⟩⟩
  rw [Vm,Yp (Xr h)];rfl
 | cons b r ih =>
  intro f k z A h s hZ
  obtain ⟨f,rfl⟩:∃ m,f=m+1:=⟨f-1,by simp at s;omega⟩
  have ⟨W,M,Z⟩:=Xp h
  simp only [Zg] at s
  have P:=L.len
  have l:=Zb M
  have i:=L.inn b l
  rw [Vm,Yo W]
  simp only [cT,Yb,M,bS]
  have R:=ZnJ (N:=N) ks U x first t d e z.N z.B (k:Int) (Vm N ks x z0 f) b i.1 i.2 (V b l) (N-3)
  rw [show N-3+3=N by omega] at R
  rw [R]
  cases S:(We ks x b.X || We ks x b.Y) with
  | true =>
   left
   exact ⟨⟨b,Zk,S⟩,rfl⟩
  | false =>
   simp only [cond_false]
   have o:=HV t d e b.X
   have p:=HV t d e b.Y
   have ⟨O,v,w⟩:=Zl8 (N:=N) (by omega) (by omega) hZ (Y7 x b.X) (Y7 x b.Y) o p (cV ks x b)
   have v:V6 N ⟨z.N,z.B⟩ ⟨(Y7 x b.X:Int)-1,(Y7 x b.Y:Int)-1,cV ks x b⟩=some (O,0):=v
   rw [v]
   simp only [bS]
   rw [Ye (by omega)]
   rcases ih f (k+1) O _ Z (by omega) w with ⟨⟨c,a,E⟩,G⟩ | ⟨j,z2,A2,G,H,g⟩
   ·left
    exact ⟨⟨c,Zj _ a,E⟩,G⟩
   ·right
    refine ⟨fun c a=>?_,z2,A2,G,H,fun u=>?_⟩
    ·rcases List.mem_cons.1 a with rfl | a
     ·exact S
     ·exact j c a
    ·rw [g u,BS o p]
     constructor
     ·rintro ⟨⟨D,q⟩,g3⟩
      refine ⟨D,fun c a=>?_⟩
      rcases List.mem_cons.1 a with rfl | a
      ·exact q
      ·exact g3 c a
     ·rintro ⟨D,q⟩
      exact ⟨⟨D,q b Zk⟩,fun c a=>q c (Zj _ a)⟩
end
end Gp
