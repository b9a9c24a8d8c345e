/- The plain law, part 2: what the functions compute answers as the statement says. -/
import Derived.Test.YtpkbkcejjnemaaaGreatDoorExplainSuggestPlain1
set_option linter.all false
namespace Gp
open Go Go.Kx Gx
section
variable {N:Nat}
theorem Lc {β:Type} {F:Nat->Int->Option β} {len:Nat} (a:∀ n k,k < len->(∃ b,F n ((k+1:Nat):Int)=some b)->∃ b,F (n+1) (k:Int)=some b)
  (c:∀ n k,len<=k->∃ b,F (n+1) (k:Int)=some b):∀ (d n k:Nat),len-k=d->d < n->∃ b,F n (k:Int)=some b:=by
 intro d
 induction d with
 | zero =>
  intro n k e h
  obtain ⟨n,rfl⟩:=pS n (by omega)
  exact c n k (by omega)
 | succ d i =>
  intro n k e h
  obtain ⟨n,rfl⟩:=pS n (by omega)
  exact a n k (by omega) (i n (k+1) (by omega) (by omega))
theorem ZsS {β:Type} {F:Nat->Int->Option β} {len lo:Nat} (a:∀ n k,lo<=k->k < len->(∃ b,F n ((k+1:Nat):Int)=some b)->∃ b,F (n+1) (k:Int)=some b)
  (c:∀ n k,len<=k->∃ b,F (n+1) (k:Int)=some b):∀ (d n k:Nat),len-k=d->d < n->lo<=k->∃ b,F n (k:Int)=some b:=by
 intro d
 induction d with
 | zero =>
  intro n k e h _
  obtain ⟨n,rfl⟩:=pS n (by omega)
  exact c n k (by omega)
 | succ d j =>
  intro n k e h i
  obtain ⟨n,rfl⟩:=pS n (by omega)
  exact a n k i (by omega) (j n (k+1) (by omega) (by omega) (by omega))
theorem W0 {β:Type} {b:Bool} {x y:Option β} (a:b=true->∃ r,x=some r) (c:b=false->∃ r,y=some r):∃ r,(bif b then x else y)=some r:=by
 cases b with
 | true=>exact a rfl
 | false=>exact c rfl
theorem Va {β:Type} (b:β):∃ r,some b=some r:=⟨b,rfl⟩
structure Si (t:Xw) (m:T8):Prop where
 num:Wv m
 mm:t.ZY=m
 len:t.out'.length=m.ZL.toNat
 out:∀ (s:Nat) (l:List Int),t.out'[s]? = some l->l.length<=400/\∀ a∈l,∃ k x,a=((k:Nat):Int)/\m.ZU[k]? = some x/\x.ZC=(s:Int)
theorem Zez (c:4194304 < N) (m:T8) (b:Wv m):Si ⟨m,WG N m⟩ m:=by
 refine ⟨b,rfl,Zd3 N m,fun s l h=>?_⟩
 have o:s < m.ZL.toNat:=by
  have:=(List.getElem?_eq_some_iff.1 h).1
  rwa [Zd3] at this
 have h:(WG N m)[s]? = some l:=h
 rw [Zae N m s o] at h
 cases h
 have ⟨p,_⟩:=Zaf c m b s
 refine ⟨by rw [p.length_eq];have:=BN m m.ZU.length s;have:=b.n;omega,fun a d=>?_⟩
 have ⟨k,x,e,_,i,j⟩:=BO (p.mem_iff.1 d)
 exact ⟨k,x,e,i,j⟩
variable {t:Xw} {m:T8}
theorem Zm6 (C:4194304 < N) (h:Si t m):∃ b,Lm N t=some b:=by
 have D:=h.num.s1
 have:=h.len
 refine Lc (F:=Vv N t) (len:=t.out'.length) (fun n k c hi=>?_) (fun n k c=>?_) _ N 0 rfl (by omega)
 ·rw [Vv,Yo c,Yb,Za c]
  simp only [cT,bS]
  have ⟨u,r⟩:=h.out k _ (Za c)
  generalize t.out'[k]=l at u r
  have d:∃ b,PD (k:Int) (Vv N t n)=some b:=by
   unfold PD
   rw [Ye (by omega)];exact hi
  generalize Vv N t n=ag at d
  refine ZsS (F:=SD N t (k:Int) ag l) (len:=l.length) (lo:=1) (fun n j s e hi=>?_) (fun n j e=>?_) _ N 1 rfl (by omega) (Zp _)
  ·rw [SD,Yo e,Ye (by omega)]
   have g:∀ i:Nat,i < l.length->∃ x,((Z5 l (i:Int)).bind fun q=>Z5 t.ZY.ZU q)=some x:=fun i hi=>by
    have ⟨q,x,v,z,_⟩:=r l[i] (List.getElem_mem hi)
    refine ⟨x,?_⟩
    rw [Yb,Za hi]
    simp only [bS]
    rw [v,Yb,h.mm];exact z
   have w:Z1 ((j:Int)-1)=((j-1:Nat):Int):=by rw [YE (by omega) (by omega)];omega
   simp only [cT]
   rw [w]
   have ⟨x,o⟩:=g (j-1) (by omega)
   have ⟨y,p⟩:=g j e
   have ⟨a,A,o⟩:=Option.bind_eq_some_iff.1 o
   have ⟨b,B,p⟩:=Option.bind_eq_some_iff.1 p
   simp only [A,o,B,p,bS,Ry]
   exact W0 (fun _=>Va _) fun _=>W0 (fun _=>Va _) fun _=>hi
  ·rw [SD,Yp e]
   exact d
 ·rw [Vv,Yp c]
  exact Va _
theorem Zmc (s:4194304 < N) (h:Si t m):∃ b,Ln N t=some b:=by
 have v:=h.num.s1
 have w:=h.num.n
 have i:=h.len
 have q:=h.mm
 subst q
 refine Lc (F:=VL N t) (len:=t.ZY.ZU.length) (fun n k a hi=>?_) (fun n k a=>?_) _ N 0 rfl (by omega)
 ·have r:=Za a
  obtain ⟨⟨e,u⟩,_⟩:=h.num.mv _ (List.getElem_mem a)
  rw [VL,Yo a,Yb,r,Ye (by omega)]
  generalize t.ZY.ZU[k]=x at *
  simp only [cT,bS]
  refine W0 (fun _=>hi) fun _=>W0 (fun _=>Va _) fun _=>?_
  have ⟨l,o⟩:=Xx (L:=t.out') e (by omega)
  have ⟨b,p⟩:=Xx (L:=t.ZY.ZT) e (by have:=h.num.f;omega)
  simp only [o,p,bS]
  refine W0 (fun _=>Va _) fun _=>W0 (fun _=>Va _) fun _=>W0 (fun _=>Va _) fun _=>?_
  have c:∃ b,Lp (k:Int) (VL N t n)=some b:=by
   unfold Lp
   rw [Ye (by omega)];exact hi
  generalize VL N t n=ag at c
  refine Lc (F:=TU t (k:Int) ag x) (len:=t.ZY.ZU.length) (fun n j d hi=>?_) (fun n j d=>?_) _ N 0 rfl (by omega)
  ·rw [TU,Yo d,Yb,Za d,Ye (by omega)]
   simp only [cT,bS]
   exact W0 (fun _=>W0 (fun _=>Va _) fun _=>W0 (fun _=>Va _) fun _=>hi) fun _=>hi
  ·rw [TU,Yp d]
   exact c
 ·rw [VL,Yp a]
  exact Va _
theorem ZsQ (u:4194304 < N) (h:Si t m) (v:m.ZP.length<=4194304):∃ b,Lq N t=some b:=by
 have z:=h.num.n
 have p:=h.mm
 subst p
 refine Lc (F:=XP t) (len:=t.ZY.ZP.length) (fun n k d hi=>?_) (fun n k d=>?_) _ N 0 rfl (by omega)
 ·have q:=Za d
  rw [XP,Yo d,Yb,q]
  simp only [cT,bS]
  generalize t.ZY.ZP[k]=x at *
  have i:∀ b:Bool,(b=false->0<=x.ZH/\x.ZH < (t.ZY.ZU.length:Int))->∃ r,Wy t (k:Int) (XP t n) x b=some r:=fun b j=>by
   unfold Wy
   refine W0 (fun _=>Va _) fun e=>?_
   have ⟨a1,a2⟩:=j e
   have ⟨y,o⟩:=Xx (L:=t.ZY.ZU) a1 a2
   simp only [o,bS]
   refine W0 (fun _=>Va _) fun _=>W0 (fun _=>Va _) fun _=>W0 (fun _=>Va _) fun _=>?_
   rw [Ye (by omega)];exact hi
  have a:∃ r,Wy t (k:Int) (XP t n) x true=some r:=i true (fun e=>by cases e)
  have c:∃ r,(bif decide (x.ZG < 1) then Wy t (k:Int) (XP t n) x true else bif decide (x.ZG > 1000) then Wy t (k:Int) (XP t n) x true
    else bif decide (x.ZH < 0) then Wy t (k:Int) (XP t n) x true else Wy t (k:Int) (XP t n) x (decide (x.ZH>=(t.ZY.ZU.length:Int))))=some r :=
   W0 (fun _=>a) fun _=>W0 (fun _=>a) fun _=>W0 (fun _=>a) fun e=>i _ fun l=>by
    simp only [decide_eq_false_iff_not] at e l
    exact ⟨by omega,by omega⟩
  refine W0 (fun e=>?_) fun _=>c
  have s:0 < k:=by simpa using e
  have w:Z1 ((k:Int)-1)=((k-1:Nat):Int):=by rw [YE (by omega) (by omega)];omega
  rw [w,Yb,Za (by omega:k-1 < t.ZY.ZP.length)]
  simp only [bS]
  exact W0 (fun _=>a) fun _=>c
 ·rw [XP,Yp d]
  exact Va _
end
section
variable {N:Nat}
structure InvR (S:Nat) (a:List Bool) (q:List Int):Prop where
 len:a.length=S
 qq:∀ i∈q,0<=i/\i < (S:Int)
 c:q.length+a.count false<=S
theorem InvR.add {S:Nat} {a:List Bool} {q:List Int} (h:InvR S a q) {j:Nat} (d:a[j]? = some false):InvR S (a.set j true) (q++[(j:Int)]):=by
 have ⟨k,n⟩:=List.getElem?_eq_some_iff.1 d
 refine ⟨by simpa using h.len,fun i hi=>?_,?_⟩
 ·rcases List.mem_append.1 hi with hi | hi
  ·exact h.qq i hi
  ·rw [List.mem_singleton.1 hi];have:=h.len;omega
 ·have o:0 < a.count false:=List.count_pos_iff.2 (Zb d)
  have e:=List.count_set (a:=true) (b:=false) (l:=a) k
  rw [n] at e
  have:=h.c
  simp at e
  simp
  omega
variable {t:Xw} {m:T8}
theorem Zq9 (F:4194304 < N) (h:Si t m) (S:Nat) (G:m.ZL=(S:Int)) (k:Nat) (ag:List Bool->List Int->Int->Option Bool) (i:∀ a q,InvR S a q->∃ b,ag a q (Z1 ((k:Int)+1))=some b)
  (l:List Int) (s:Nat) (v:t.out'[s]? = some l):∀ (d n j:Nat) (a:List Bool) (q:List Int),InvR S a q->l.length-j=d->d < n->∃ b,TT t (k:Int) ag l n a q (j:Int)=some b:=by
 intro d
 have ⟨H,w⟩:=h.out s l v
 have C:=h.num.s1
 induction d with
 | zero =>
  intro n j a q hi A B
  obtain ⟨n,rfl⟩:=pS n (by omega)
  rw [TT,Yp (by omega)]
  exact i a q hi
 | succ d u =>
  intro n j a q hi A B
  obtain ⟨n,rfl⟩:=pS n (by omega)
  have o:j < l.length:=by omega
  have ⟨p,x,y,r,_⟩:=w l[j] (List.getElem_mem o)
  obtain ⟨_,⟨t0,I⟩,_⟩:=h.num.mv x (Zb r)
  have ⟨c,z⟩:=Ze t0
  have e:c < a.length:=by rw [hi.len];omega
  rw [TT,Yo o,Yb,Za o,Ye (by omega)]
  simp only [cT,bS]
  rw [y,Yb,h.mm,r]
  simp only [bS]
  rw [z,Yb,Za e]
  simp only [bS]
  cases E:a[c] with
  | true=>exact u n (j+1) a q hi (by omega) (by omega)
  | false =>
   have D:=hi.c
   simp only [Bool.not_false,cT]
   rw [Y8 (by simp;omega),XE]
   simp only [bS]
   exact u n (j+1) _ _ (hi.add (by rw [Za e,E])) (by omega) (by omega)
theorem Zra (o:4194304 < N) (h:Si t m) (S:Nat) (p:m.ZL=(S:Int)):∀ (d n k:Nat) (a:List Bool) (q:List Int),InvR S a q->S-k=d->d < n->∃ b,Ui N t n a q (k:Int)=some b:=by
 intro d
 have w:=h.num.s1
 have e:∀ (n k:Nat) (a:List Bool) (q:List Int),InvR S a q->(k < q.length->∀ a q,InvR S a q->∃ b,Ui N t n a q (Z1 ((k:Int)+1))=some b)->∃ b,Ui N t (n+1) a q (k:Int)=some b:=fun n k a q hi l=>by
  rw [Ui]
  by_cases i:k < q.length
  ·rw [Yo i,Yb,Za i]
   simp only [cT,bS]
   have ⟨r,z⟩:=hi.qq _ (List.getElem_mem i)
   have ⟨c,s⟩:=Ze r
   have j:c < t.out'.length:=by rw [h.len];omega
   rw [s,Yb,Za j]
   simp only [bS]
   have x:=(h.out c _ (Za j)).1
   exact Zq9 o h S p k _ (l i) _ c (Za j) _ N 0 a q hi rfl (by omega)
  ·rw [Yp (Nat.not_lt.1 i)]
   exact Va _
 induction d with
 | zero =>
  intro n k a q hi u v
  obtain ⟨n,rfl⟩:=pS n (by omega)
  exact e n k a q hi fun i=>by have:=hi.c;omega
 | succ d y =>
  intro n k a q hi u v
  obtain ⟨n,rfl⟩:=pS n (by omega)
  refine e n k a q hi fun i a q hi=>?_
  rw [Ye (by omega)]
  exact y n (k+1) a q hi (by omega) (by omega)
theorem Zrb (k:4194304 < N) (h:Si t m):∃ b,PE N t=some b:=by
 have q:=h.num.s0
 have r:=h.num.s1
 have b0:=h.num.b0
 have b1:=h.num.b1
 have ⟨S,j⟩:=Ze (show 0<=m.ZL by omega)
 have ⟨c,n⟩:=Ze b0
 unfold PE
 rw [h.mm]
 have e:Xs false m.ZL m.ZL=some (List.replicate S false):=by
  unfold Xs
  rw [dT (by omega:0<=m.ZL),dT (by omega:m.ZL<=m.ZL),dT (by omega:m.ZL<=4294967296),j];rfl
 rw [e,n]
 simp only [bS,Yb,XE]
 have d:c < S:=by omega
 have o:(List.replicate S false)[c]? = some false:=by rw [List.getElem?_replicate,if_pos d]
 rw [o]
 simp only [bS]
 refine Zra k h S j _ N 0 _ _ ⟨by simp,fun i hi=>by rw [List.mem_singleton.1 hi];omega,?_⟩ rfl (by omega)
 have p:=List.count_set (a:=true) (b:=false) (l:=List.replicate S false) (i:=c) (by simpa using d)
 simp at p
 simp
 omega
theorem Zpe (a:4194304 < N) (m:T8) (d:m.ZP.length<=4194304):∃ b,RJ N m=some b/\(b=true->Wv m):=by
 unfold RJ z53
 rw [ZdQ a]
 simp only [bS]
 cases c:R5 m with
 | false=>exact ⟨false,rfl,fun h=>by cases h⟩
 | true =>
  have c:=(ZdX m).1 c
  rw [ZdR a m c]
  have h:=Zez a m c
  have ⟨e,i⟩:=Zm6 a h
  have ⟨j,k⟩:=Zrb a h
  have ⟨l,n⟩:=Zmc a h
  have ⟨p,o⟩:=ZsQ a h d
  simp only [Zh,cond_false,bS,i,k,n,o]
  cases e<;>cases j<;>cases l<;>exact ⟨_,rfl,fun _=>c⟩
end
section
variable {N:Nat}
theorem Zs6 (s:ByteArray):∀ (r:List UInt8) (n i:Nat),(bs s).drop i=r->r.length < n->∃ z,P7 N s true n i=some z/\decide (z>=0)=r.any Xh:=by
 intro r
 induction r with
 | nil =>
  intro n i h j
  obtain ⟨n,rfl⟩:=pS n (by simp at j;omega)
  have hi:=Xr h
  unfold P7
  have:decide (i < s.size)=false:=by rw [XH];simp;omega
  rw [this]
  exact ⟨-1,rfl,rfl⟩
 | cons b r v =>
  intro n i h j
  obtain ⟨n,rfl⟩:=pS n (by simp at j;omega)
  have ⟨w,k,o⟩:=Xp h
  simp only [Zg] at j
  unfold P7
  have:decide (i < s.size)=true:=by rw [XH];simp;omega
  rw [this,List.any_cons]
  simp only [cT,Zby]
  by_cases l:b.toNat < 128
  ·rw [ZhD s i b k l]
   by_cases q:b.toNat < 32
   ·have d:decide (((b.toNat:Nat):Int) < 32)=true:=by simp;omega
    have a:Xh b=true:=by simp [Xh,q]
    rw [d,a]
    exact ⟨(i:Int),rfl,by simp⟩
   ·have d:decide (((b.toNat:Nat):Int) < 32)=false:=by simp;omega
    rw [d]
    simp only [cond_false,bS]
    by_cases u:126 < b.toNat
    ·have e:decide (((b.toNat:Nat):Int) > 126)=true:=by simp;omega
     have a:Xh b=true:=by simp [Xh,u]
     rw [e,a]
     exact ⟨(i:Int),rfl,by simp⟩
    ·have e:decide (((b.toNat:Nat):Int) > 126)=false:=by simp;omega
     have a:Xh b=false:=by simp [Xh];omega
     rw [e,a]
     exact v n (i+1) o (by omega)
  ·have p:=ZhC s i b k l
   have a:Xh b=true:=by simp [Xh];omega
   generalize (Utf8.decode s i).1=c at p ⊢
   have d:decide ((c:Int) < 32)=false:=by simp;omega
   have e:decide ((c:Int) > 126)=true:=by simp;omega
   rw [d,a]
   simp only [cond_false,bS]
   rw [e]
   exact ⟨(i:Int),rfl,by simp⟩
theorem Zs5 (d:4194304 < N) (s:ByteArray) (a:s.size<=4194304):Dj N s=some ((bs s).any Xh):=by
 have ⟨z,b,c⟩:=Zs6 (N:=N) s (bs s) N 0 rfl (by rw [XH] at a;omega)
 unfold Dj ZbG ZbP
 rw [b]
 simp only [bS]
 rw [c]
def Rr (v:T12):Int:=bif v.Zt==1 then v.N else bif v.Zt==2 then (v.S.size:Int) else 0
def R9 (s:YV):Bool:=bif s.Zt==1 then (decide (-1000<=s.Lo) && (decide (s.Lo<=s.Hi) && decide (s.Hi<=1000))) else bif s.Zt==2 then (decide (0<=s.Lo) && (decide (s.Lo<=s.Hi) && decide (s.Hi<=40))) else false
def Rs (v:T12):Bool:=bif v.Zt==1 then (decide (v.N>=-1000) && (decide (v.N<=1000) && (v.S.toList==(str []).toList))) else bif v.Zt==2 then (v.N==0 && (decide ((v.S.size:Int)<=40) && !(bs v.S).any Xh)) else false
def VK (s:YV) (v:T12):Bool:=R9 s && (Rs v && (s.Zt==v.Zt && (decide (Rr v>=s.Lo) && decide (Rr v<=s.Hi))))
theorem Zs4 (v:T12):Lk N v=some (Rr v):=by
 unfold Lk Rr
 cases (v.Zt==1)<;>cases (v.Zt==2)<;>rfl
theorem Zs7 (s:YV):GB N s=some (R9 s):=by
 unfold GB R9 GC
 cases (s.Zt==1)
 ·cases (s.Zt==2)
  ·rfl
  ·simp only [cT,cond_false]
   cases decide (0<=s.Lo)<;>cases decide (s.Lo<=s.Hi)<;>rfl
 ·simp only [cT]
  cases decide (-1000<=s.Lo)<;>cases decide (s.Lo<=s.Hi)<;>rfl
theorem Zs8 (a:4194304 < N) (v:T12) (b:v.S.size<=4194304):Ll N v=some (Rs v):=by
 unfold Ll Rs Zbf
 rw [Zs5 a _ b]
 simp only [bS]
 cases (v.Zt==1)
 ·cases (v.Zt==2)
  ·rfl
  ·cases (v.N==0)<;>cases decide ((v.S.size:Int)<=40)<;>rfl
 ·cases decide (v.N>=-1000)<;>cases decide (v.N<=1000)<;>rfl
theorem ZkK (a:4194304 < N) (s:YV) (v:T12) (b:v.S.size<=4194304):z51 N s v=some (VK s v):=by
 unfold z51 VK
 rw [Zs4,Zs7,Zs8 a v b]
 simp only [bS]
 cases R9 s<;>cases Rs v<;>cases (s.Zt==v.Zt)<;>cases decide (Rr v>=s.Lo)<;>rfl
theorem Zs3 {s:YV} {v:T12} (h:VK s v=true):v.S.size<=40:=by
 unfold VK at h
 simp only [Zc] at h
 have h:=h.2.1
 unfold Rs at h
 cases a:(v.Zt==1)
 ·rw [a] at h
  cases b:(v.Zt==2)
  ·rw [b] at h;cases h
  ·rw [b] at h
   simp only [cT,cond_false,Zc,decide_eq_true_eq] at h
   omega
 ·rw [a] at h
  simp only [cT,Zc] at h
  have h:=beq_iff_eq.1 h.2.2
  rw [W9,W9,Bi] at h
  rw [XH,h];decide
theorem MK {A B:Type} (p:A->B->Bool) {xs:List A} {ys:List B} {F:Nat->Int->Option Bool} {n:Nat} (r:xs.length=ys.length) (d:xs.length < n)
  (j:∀ n k x y,k < xs.length->xs[k]? = some x->ys[k]? = some y->F (n+1) (k:Int)=bif p x y then F n ((k+1:Nat):Int) else some false)
  (l:∀ n k,xs.length<=k->F (n+1) (k:Int)=some true):∃ b,F n (0:Int)=some b/\(b=true↔∀ (i:Nat) x y,xs[i]? = some x->ys[i]? = some y->p x y=true):=by
 let q:A->Nat->Bool:=fun x k=>match ys[k]? with
  | some y=>p x y
  | none=>false
 have h:=Xt q (xs:=xs) (F:=F) (e:=some true) (n:=n) d (fun n k x o c=>by
  have a:=Za (show k < ys.length by omega)
  rw [j n k x _ o c a]
  show _=bif (match ys[k]? with | some y=>p x y | none=>false) then _ else _
  rw [a]) l
 refine ⟨Yw q xs 0,by rw [h];cases Yw q xs 0<;>rfl,?_⟩
 rw [XC]
 constructor
 ·intro h i x y c a
  have:=h i x c
  rw [Nat.zero_add] at this
  have e:q x i=p x y:=by show (match ys[i]? with | some y=>p x y | none=>false)=_;rw [a]
  rwa [e] at this
 ·intro h i x c
  have hi:=(List.getElem?_eq_some_iff.1 c).1
  have a:=Za (show i < ys.length by omega)
  rw [Nat.zero_add]
  have e:q x i=p x ys[i]:=by show (match ys[i]? with | some y=>p x y | none=>false)=_;rw [a]
  rw [e]
  exact h i x _ c a
theorem MR (a b:Nat):((a:Int) != (b:Int)) = !decide (a=b):=HM a b
def S8 (fs:List T4) (vs:List T12):Prop:=fs.length=vs.length/\∀ (i:Nat) (f:T4) (v:T12),fs[i]? = some f->vs[i]? = some v->VK f.Zv v=true
def RL (fs:List T4) (ks:List T12):Prop:=fs.length=ks.length/\∀ (i:Nat) (f:T4) (v:T12),fs[i]? = some f->ks[i]? = some v->(WT v || VK f.Zv v)=true
theorem Zh4 (d:4194304 < N) (fs:List T4) (vs:List T12) (o:vs.length<=4194304) (i:∀ v∈vs,v.S.size<=4194304):∃ b,Hp N fs vs=some b/\(b=true↔S8 fs vs):=by
 unfold Hp Zb8
 rw [MR]
 by_cases h:fs.length=vs.length
 ·rw [dT h]
  have ⟨b,e,l⟩:=MK (fun (f:T4) (v:T12)=>VK f.Zv v) (xs:=fs) (ys:=vs) (F:=Md N fs vs) (n:=N) h (by omega) (fun n k f v c j a=>by
   rw [Md,Yo c,Yb,j,Yb,a,Ye (by omega)]
   simp only [cT,bS,ZaV,ZkK d _ _ (i v (Zb a))]
   cases VK f.Zv v<;>rfl) (fun n k c=>by
   rw [Md,Yp c];rfl)
  simp only [Zh,cond_false,e,bS]
  exact ⟨b,rfl,l.trans ⟨fun g=>⟨h,g⟩,fun g=>g.2⟩⟩
 ·rw [dF h]
  exact ⟨false,rfl,by simp;intro g;exact h g.1⟩
theorem Ziy (d:4194304 < N) (fs:List T4) (vs:List T12) (p:vs.length<=4194304) (i:∀ v∈vs,v.S.size<=4194304):∃ b,DQ N fs vs=some b/\(b=true↔RL fs vs):=by
 unfold DQ
 rw [MR]
 by_cases h:fs.length=vs.length
 ·rw [dT h]
  have ⟨b,e,o⟩:=MK (fun (f:T4) (v:T12)=>WT v || VK f.Zv v) (xs:=fs) (ys:=vs) (F:=Mc N fs vs) (n:=N) h (by omega) (fun n k f v c j a=>by
   rw [Mc,Yo c,Yb,j,Yb,a,Ye (by omega)]
   simp only [cT,bS,z50,ZkK d _ _ (i v (Zb a))]
   show ((bif WT v then some true else some (VK f.Zv v)).bind fun l=>_)=_
   cases WT v<;>cases VK f.Zv v<;>rfl) (fun n k c=>by
   rw [Mc,Yp c];rfl)
  simp only [Zh,cond_false,e]
  exact ⟨b,rfl,o.trans ⟨fun g=>⟨h,g⟩,fun g=>g.2⟩⟩
 ·rw [dF h]
  exact ⟨false,rfl,by simp;intro g;exact h g.1⟩
end
section
variable {N:Nat}
theorem Zdl {A:Type} (p:A->Bool) {xs:List A} {F:Nat->Int->Option Int} (q:∀ n k x,k < xs.length->xs[k]? = some x->F (n+1) (k:Int)=bif p x then some (k:Int) else F n ((k+1:Nat):Int))
  (r:∀ n k,xs.length<=k->F (n+1) (k:Int)=some (-1)):∀ (d n k:Nat),xs.length-k=d->d < n->∃ z,F n (k:Int)=some z/\((z=-1/\∀ (i:Nat) x,k<=i->xs[i]? = some x->p x=false)\/∃ (i:Nat) (x:A),z=(i:Int)/\xs[i]? = some x/\p x=true):=by
 intro d
 induction d with
 | zero =>
  intro n k s u
  obtain ⟨n,rfl⟩:=pS n (by omega)
  exact ⟨-1,r n k (by omega),.inl ⟨rfl,fun i x hi j=>by have:=(List.getElem?_eq_some_iff.1 j).1;omega⟩⟩
 | succ d v =>
  intro n k s u
  obtain ⟨n,rfl⟩:=pS n (by omega)
  have l:k < xs.length:=by omega
  have j:=Za l
  rw [q n k _ l j]
  cases o:p xs[k] with
  | true=>exact ⟨_,rfl,.inr ⟨k,_,rfl,j,o⟩⟩
  | false =>
   have ⟨z,e,h⟩:=v n (k+1) (by omega) (by omega)
   refine ⟨z,e,h.imp (fun ⟨a,b⟩=>⟨a,fun i x hi c=>?_⟩) id⟩
   by_cases e:i=k
   ·subst e;rw [j] at c;cases c;exact o
   ·exact b i x (by omega) c
theorem ZiQ (o:4194304 < N) (g:T5) (d:XA g.ZJ=true):DM N g=some (Yh g.ZJ):=by
  unfold XA at d
  simp only [Zc,decide_eq_true_eq] at d
  have ⟨p,v2,_⟩:=d
  have key:∀ (r:List T0) (n k:Nat) (a:List T4),g.ZJ.drop k=r->r.length < n->a.length+(Yh r).length<=24->P9 g n a (k:Int)=some (a++Yh r):=by
    intro r
    induction r with
    | nil =>
      intro n k a b c _
      obtain ⟨n,rfl⟩:=pS n (by simp at c;omega)
      rw [P9,Yp (List.drop_eq_nil_iff.1 b)]
      simp [Zb4,Yh]
    | cons x r l =>
      intro n k a b c e
      obtain ⟨n,rfl⟩:=pS n (by simp at c;omega)
      have i:k < g.ZJ.length:=by
        refine Nat.not_le.1 fun h=>?_
        rw [List.drop_eq_nil_iff.2 h] at b;cases b
      have j:g.ZJ[k]? = some x:=by
        have:=congrArg (·[0]?) b
        simpa using this
      rw [Q5,lA] at e
      rw [P9,Yo i,Yb,j,Ye (by omega)]
      simp only [cT,bS]
      rw [Y8 (by omega)]
      simp only [bS]
      rw [l n (k+1) (a++x.Zz) (by have:=congrArg (List.drop 1) b;simpa [List.drop_drop,Nat.add_comm] using this) (by simp at c;omega) (by rw [lA];omega),Q5,aA]
  exact key g.ZJ N 0 [] rfl (by omega) (by simpa using v2)
structure Mt (g:T5) (m:T8):Prop where
 v:XA g.ZJ=true
 n:Wv m
 l:∀ x∈m.ZU,x.ZD < (g.ZJ.length:Int)
theorem ZcK (e:4194304 < N) (g:T5) (o:VP g) (p:Uo g) (m:T8) (q:m.ZP.length<=4194304):∃ b,UR N g m=some b/\(b=true->Mt g m):=by
 unfold UR
 have ⟨r,s,u⟩:=Zn8 e g o p
 have ⟨v,w,A⟩:=Zpe e m q
 rw [s,w]
 simp only [bS]
 cases r with
 | false=>exact ⟨false,rfl,fun h=>by cases h⟩
 | true =>
 cases v with
 | false=>exact ⟨false,rfl,fun h=>by cases h⟩
 | true =>
 have l:=A rfl
 have C:=l.n
 simp only [cT]
 cases decide (m.ZS < (g.ZI.length:Int)) with
 | false=>exact ⟨false,rfl,fun h=>by cases h⟩
 | true =>
 simp only [cT]
 unfold D2 DZ
 have B:∀ y,Mp N y g=some (decide (y.ZR>=(g.ZI.length:Int)) || decide (y.ZD>=(g.ZJ.length:Int))):=fun y=>by
  unfold Mp
  cases decide (y.ZR>=(g.ZI.length:Int))<;>rfl
 have ⟨z,j,d⟩:=Zdl (fun (y:T9)=>decide (y.ZR>=(g.ZI.length:Int)) || decide (y.ZD>=(g.ZJ.length:Int))) (xs:=m.ZU) (F:=S5 N m.ZU g) (fun n k x a c=>by
  rw [S5,Yo a,Yb,c,Ye (by omega)]
  simp only [cT,bS,B]) (fun n k a=>by
  rw [S5,Yp a];rfl) _ N 0 rfl (by omega)
 rw [show ((0:Nat):Int)=0 from rfl] at j
 rw [j]
 simp only [bS]
 refine ⟨_,rfl,fun h=>⟨u rfl,l,fun x c=>?_⟩⟩
 rcases d with ⟨_,d⟩ | ⟨i,y,rfl,_,_⟩
 ·have ⟨i,hi⟩:=List.getElem?_of_mem c
  have:=d i x (Nat.zero_le _) hi
  simp only [Bool.or_eq_false_iff,decide_eq_false_iff_not] at this
  omega
 ·simp at h
structure StM (g:T5) (m:T8) (s:Yt):Prop where
 a0:0<=s.At
 a1:s.At < m.ZL
 k:RL (Yh g.ZJ) s.ZW
 p:s.ZX.length<=4194304
theorem ZvR {v:T12} (h:WT v=true):v.S.size=0:=by
 unfold WT at h
 simp only [Zc] at h
 have h:=beq_iff_eq.1 h.2.2.1
 rw [W9,W9,Bi] at h
 rw [XH,h];rfl
theorem HL {fs:List T4} {a:List T12} (h:RL fs a):∀ v∈a,v.S.size<=4194304:=fun v b=>by
 have ⟨i,hi⟩:=List.getElem?_of_mem b
 have c:=(List.getElem?_eq_some_iff.1 hi).1
 have:=h.2 i _ v (Za (by rw [h.1];exact c)) hi
 rw [Bool.or_eq_true] at this
 rcases this with h | h
 ·have:=ZvR h;omega
 ·have:=Zs3 h;omega
theorem Le {l:List T0} (h:XA l=true):l.length<=40/\(Yh l).length<=24:=by
 unfold XA at h
 simp only [Zc,decide_eq_true_eq] at h
 exact ⟨h.1,h.2.1⟩
theorem Zn4 (a:4194304 < N) (g:T5) (d:VP g) (i:Uo g) (m:T8) (j:m.ZP.length<=4194304) (s:Yt) (l:s.ZW.length<=4194304) (n:∀ v∈s.ZW,v.S.size<=4194304) :
  ∃ b,UB N g m s=some b/\(b=true->Mt g m)/\(∀ _:UR N g m=some true,StM g m s->b=true):=by
 unfold UB
 have ⟨b,e,h⟩:=ZcK a g d i m j
 rw [e]
 simp only [bS]
 cases b with
 | false=>exact ⟨false,rfl,(fun h=>by cases h),(fun h=>by cases h)⟩
 | true =>
 have c:=h rfl
 rw [ZiQ a g c.v]
 have ⟨b,eb,o⟩:=Ziy a (Yh g.ZJ) s.ZW l n
 simp only [cT,bS,eb]
 cases p:decide (s.At>=0) with
 | false=>exact ⟨false,rfl,(fun h=>by cases h),fun _ h=>by have:=h.a0;simp at p;omega⟩
 | true =>
 cases q:decide (s.At < m.ZL) with
 | false=>exact ⟨false,rfl,(fun h=>by cases h),fun _ h=>by have:=h.a1;simp at q;omega⟩
 | true=>exact ⟨b,rfl,fun _=>c,fun _ h=>o.2 h.k⟩
theorem ZiF (a:ByteArray):Op.bytesLess a.toList a.toList=false:=by
 generalize a.toList=l
 induction l with
 | nil=>rfl
 | cons x l b=>unfold Op.bytesLess;simp [b]
theorem ZsF (a b:ByteArray):∃ z,PY N a b=some z/\(a=b->z=0):=by
 unfold PY z232
 have e:∀ x:ByteArray,(!(x.toList==x.toList))=false:=fun x=>by simp
 simp only [bS,e,cond_false]
 cases c:Op.bytesLess a.toList b.toList with
 | true=>exact ⟨_,rfl,fun h=>by subst h;rw [show Op.bytesLess a.toList a.toList=false from ZiF a] at c;cases c⟩
 | false =>
  cases d:(a.toList==b.toList) with
  | true=>exact ⟨_,rfl,fun _=>rfl⟩
  | false=>exact ⟨_,rfl,fun h=>by subst h;simp at d⟩
end
section
variable {N:Nat}
theorem or4 (q:4194304 < N) (a b c d:Int):∃ z,SN N [a,b,c,d]=some z/\(a=0->b=0->c=0->d=0->z=0):=by
 obtain ⟨n,rfl⟩:∃ n,N=n+5:=⟨N-5,by omega⟩
 unfold SN
 rw [VN,VN,VN,VN,VN]
 have w0:Z1 ((0:Int)+1)=1:=by decide
 have e:Z1 ((1:Int)+1)=2:=by decide
 have w2:Z1 ((2:Int)+1)=3:=by decide
 have i:Z1 ((3:Int)+1)=4:=by decide
 rw [w0,e,w2,i]
 have i0:Z5 [a,b,c,d] 0=some a:=rfl
 have j:Z5 [a,b,c,d] 1=some b:=rfl
 have i2:Z5 [a,b,c,d] 2=some c:=rfl
 have i3:Z5 [a,b,c,d] 3=some d:=rfl
 rw [i0,j,i2,i3]
 have l0:decide ((0:Int) < (([a,b,c,d]:List Int).length:Int))=true:=rfl
 have k:decide ((1:Int) < (([a,b,c,d]:List Int).length:Int))=true:=rfl
 have l:decide ((2:Int) < (([a,b,c,d]:List Int).length:Int))=true:=rfl
 have o:decide ((3:Int) < (([a,b,c,d]:List Int).length:Int))=true:=rfl
 have p:decide ((4:Int) < (([a,b,c,d]:List Int).length:Int))=false:=rfl
 rw [l0,k,l,o,p]
 simp only [cT,cond_false,bS]
 cases r:(a != 0)
 ·cases s:(b != 0)
  ·cases u:(c != 0)
   ·cases v:(d != 0)
    ·exact ⟨0,rfl,fun _ _ _ _=>rfl⟩
    ·exact ⟨d,rfl,fun _ _ _ h=>h⟩
   ·exact ⟨c,rfl,fun _ _ h _=>h⟩
  ·exact ⟨b,rfl,fun _ h _ _=>h⟩
 ·exact ⟨a,rfl,fun h _ _ _=>h⟩
theorem ZcS (x:Int):cI x x=0:=by
 rcases MB x x with ⟨h,_⟩ | ⟨h,_⟩ | ⟨_,h⟩
 ·omega
 ·omega
 ·exact h
theorem Zj4 (c:4194304 < N) (a b:T12):∃ z,UA N a b=some z/\(a=b->z=true):=by
 unfold UA LF
 have ⟨s,es,d⟩:=ZsF (N:=N) a.S b.S
 rw [RQ,RQ,RQ,es]
 simp only [bS]
 have ⟨z,e,i⟩:=or4 c (cI a.Zt b.Zt) (cI a.N b.N) (cI (a.S.size:Int) (b.S.size:Int)) s
 rw [e]
 refine ⟨_,rfl,fun h=>?_⟩
 subst h
 rw [i (ZcS _) (ZcS _) (ZcS _) (d rfl)];rfl
theorem Zr5 (o:4194304 < N) (a b:List T12) (v:a.length<=4194304):∃ z,QO N a b=some z/\(a=b->z=true):=by
 unfold QO GV
 rw [MR]
 by_cases h:a.length=b.length
 ·rw [dT h]
  let p:T12->T12->Bool:=fun x y=>(UA N x y).getD false
  have ⟨z,r,s⟩:=MK p (xs:=a) (ys:=b) (F:=SG N a b) (n:=N) h (by omega) (fun n k x y j l c=>by
   rw [SG,Yo j,Yb,l,Yb,c,Ye (by omega)]
   have ⟨q,d,_⟩:=Zj4 o x y
   have e:p x y=q:=by show (UA N x y).getD false=q;rw [d];rfl
   simp only [cT,bS,d,e]
   cases q<;>rfl) (fun n k j=>by
   rw [SG,Yp j];rfl)
  simp only [Zh,cond_false,r,bS]
  refine ⟨z,rfl,fun e=>s.2 fun i x y l c=>?_⟩
  subst e
  rw [l] at c;cases c
  have ⟨q,d,u⟩:=Zj4 o x x
  show (UA N x x).getD false=true
  rw [d,u rfl];rfl
 ·rw [dF h]
  exact ⟨false,rfl,fun e=>absurd (congrArg List.length e) h⟩
structure V9 (x:T3):Prop where
 l:x.ZV.length<=4194304
 s:∀ v∈x.ZV,v.S.size<=4194304
theorem Zn5 {d:List T0} {i:Nat} {x:T0} (a:d[i]? = some x) {j:Nat} (b:j < x.Zz.length):(Yh d)[(Yh (d.take i)).length+j]? = x.Zz[j]? := by
 have hi:=(List.getElem?_eq_some_iff.1 a).1
 have e:d=d.take i++x::d.drop (i+1):=by
  have c:d[i]=x:=(List.getElem?_eq_some_iff.1 a).2
  rw [<- c]
  exact (List.take_append_drop i d).symm.trans (by rw [List.drop_eq_getElem_cons hi])
 have h:Yh d=Yh (d.take i)++(x.Zz++Yh (d.drop (i+1))):=by
  rw [<- Q5,<- So,<- e]
 rw [h,Zo (Nat.le_add_right _ _),Nat.add_sub_cancel_left,Zn b]
theorem ZoL {d:List T0} {i first:Nat} {x:T0} {vs a:List T12} (o:d[i]? = some x) (p:x.ZA=(first:Int)) (e:WQ (Yh d) d x i=true) (b:first+vs.length<=a.length)
  (k:RL (Yh d) a) (l:S8 x.Zz vs):RL (Yh d) (YF first vs a):=by
 unfold WQ at e
 simp only [Zc,decide_eq_true_eq] at e
 have hF:first=(Yh (d.take i)).length:=by have:=e.2.2.1;omega
 refine ⟨by rw [Sk first vs a b];exact k.1,fun j f v n c=>?_⟩
 rw [Vo first vs a b] at c
 split at c
 ·rename_i q
  have h:j-first < x.Zz.length:=by rw [l.1];omega
  have:=Zn5 o h
  rw [<- hF,show first+(j-first)=j by omega,n] at this
  rw [l.2 (j-first) f v this.symm c,Bool.or_true]
 ·exact k.2 j f v n c
theorem ZsD (D:4194304 < N) (g:T5) (O:VP g) (P:Uo g) (m:T8) (E:Mt g m) (s:Yt) (H:StM g m s) (x:T3) (c:V9 x) :
  ∃ r,SX N g m s x=some r/\(r.2=0->StM g m r.1)/\r.2≠1:=by
 have ⟨v1,v2⟩:=Le E.v
 have hn:=E.n.n
 have u:s.ZW.length<=4194304:=by rw [<- H.k.1];omega
 have w:=HL H.k
 unfold SX Ho
 have ep:∀ y,Mn N y s x=some (y.ZC==s.At && (y.ZQ==x.ZQ && (y.ZR==x.ZR && y.ZD==x.ZD))):=fun y=>by
  unfold Mn
  cases (y.ZC==s.At)<;>cases (y.ZQ==x.ZQ)<;>cases (y.ZR==x.ZR)<;>rfl
 have ⟨z,R,X⟩:=Zdl (fun (y:T9)=>(y.ZC==s.At && (y.ZQ==x.ZQ && (y.ZR==x.ZR && y.ZD==x.ZD)))) (xs:=m.ZU) (F:=S6 N m.ZU s x) (fun n k y I j=>by
  rw [S6,Yo I,Yb,j,Ye (by omega)]
  simp only [cT,bS,ep]) (fun n k I=>by
  rw [S6,Yp I];rfl) _ N 0 rfl (by omega)
 rw [show ((0:Nat):Int)=0 from rfl] at R
 rw [R]
 simp only [bS]
 cases (x.ZS != m.ZS) with
 | true=>exact ⟨_,rfl,(fun h=>by cases h),by decide⟩
 | false =>
 rcases X with ⟨rfl,_⟩ | ⟨k,y,rfl,j,p⟩
 ·exact ⟨_,rfl,(fun h=>by cases h),by decide⟩
 have h0:decide ((k:Int) < 0)=false:=by simp
 rw [h0]
 simp only [Zc,beq_iff_eq] at p
 have ⟨_,_,_,o⟩:=p
 have A:=Zb j
 obtain ⟨_,⟨t0,S⟩,_,_,T,_⟩:=E.n.mv y A
 have V:=E.l y A
 rw [o] at T V
 have ⟨d,G⟩:=Xx T V
 rw [G]
 simp only [cond_false,bS]
 have ⟨Y,Z,hf⟩:=Zh4 D d.Zz x.ZV c.l c.s
 rw [Z]
 simp only [bS]
 cases Y with
 | false=>exact ⟨_,rfl,(fun h=>by cases h),by decide⟩
 | true =>
 have L:=hf.1 rfl
 have hc:=ZcV D g.ZJ (by omega) O.dd P.d x.ZD x.ZV s.ZW c.l u ⟨c.s,w⟩
 rw [hc]
 simp only [Zh,cond_false,bS]
 have e:∀ b:Bool,(b=false->WJ g.ZJ x.ZD x.ZV s.ZW=true)->∃ r,RA N g m s x (k:Int) b=some r/\(r.2=0->StM g m r.1)/\r.2≠1:=fun b W=>by
  unfold RA
  cases b with
  | true=>exact ⟨_,rfl,(fun h=>by cases h),by decide⟩
  | false =>
  have a:=W rfl
  unfold WJ at a
  rw [Zc] at a
  have ⟨p,a⟩:=a
  rw [Yb,j]
  simp only [cond_false,bS]
  rcases ZdJ D g.ZJ (by omega) O.dd P.d x.ZD x.ZV s.ZW c.l u ⟨c.s,w⟩ with ⟨h,_⟩ | ⟨_,i,d',first,q1,U,q3,q4,q5⟩
  ·rw [h] at p;cases p
  have M:d'=d:=by
   rw [q1,Yb,U] at G
   exact Zl G
  subst M
  rcases q5 with ⟨h,_⟩ | ⟨_,K,hl⟩
  ·rw [G] at a
   simp only [h,Bool.false_and] at a
   cases a
  rw [hl]
  simp only [bS]
  have B:=ZoL U q3 q4 K H.k L
  cases x.ZQ with
  | true =>
   unfold SR
   rw [Y8 (by have:=c.l;simp;omega)]
   exact ⟨_,rfl,fun _=>⟨t0,S,B,by simpa using c.l⟩,show (0:Int)≠1 by decide⟩
  | false=>exact ⟨_,rfl,fun _=>⟨t0,S,B,by simp⟩,show (0:Int)≠1 by decide⟩
 cases C:WJ g.ZJ x.ZD x.ZV s.ZW with
 | false=>exact e true (fun h=>by cases h)
 | true =>
 simp only [Zh,cond_false]
 rw [Yb,j]
 simp only [bS]
 have ⟨q,eq,_⟩:=Zr5 D x.ZV s.ZX c.l
 rw [eq]
 simp only [bS]
 cases y.ZE with
 | true=>exact e (!q) (fun _=>C)
 | false=>exact e false (fun _=>C)
end
section
variable {N:Nat}
section
variable (f:Yt->T3->Yt × Int)
def Sv:List T3->Yt->Nat->Yt × Int × Int
 | [],s,k=>(s,(k:Int),0)
 | x::l,s,k=>bif (f s x).2 != 0 then (s,(k:Int),(f s x).2) else Sv l (f s x).1 (k+1)
end
def Wt (N:Nat) (g:T5) (m:T8) (s:Yt) (x:T3):Yt × Int:=(SX N g m s x).getD (⟨0,[],[]⟩,0)
structure V8 (N:Nat) (g:T5) (m:T8):Prop where
 hN:4194304 < N
 gg:VP g
 ss:Uo g
 t:m.ZP.length<=4194304
 a:Mt g m
 e:UR N g m=some true
variable {g:T5} {m:T8}
theorem Zaz (c:V8 N g m) {s:Yt} (d:StM g m s) {x:T3} (h:V9 x):SX N g m s x=some (Wt N g m s x)/\((Wt N g m s x).2=0->StM g m (Wt N g m s x).1)/\(Wt N g m s x).2≠1:=by
 have ⟨r,b,i,j⟩:=ZsD c.hN g c.gg c.ss m c.a s d x h
 have e:Wt N g m s x=r:=by unfold Wt;rw [b];rfl
 rw [e];exact ⟨b,i,j⟩
theorem Zev (c:V8 N g m) {s:Yt} (b:StM g m s):s.ZW.length<=4194304:=by
 have:=Le c.a.v
 rw [<- b.k.1];omega
theorem Zh6 (c:V8 N g m) {s:Yt} (a:StM g m s):UB N g m s=some true:=by
 have ⟨b,e,_,h⟩:=Zn4 c.hN g c.gg c.ss m c.t s (Zev c a) (HL a.k)
 have:=h c.e a
 rw [e,this]
def Rm (g:T5) (m:T8):Yt:=⟨m.ZM,List.replicate (Yh g.ZJ).length ⟨0,0,str []⟩,[]⟩
theorem ZdT (c:V8 N g m):StM g m (Rm g m):=by
 refine ⟨c.a.n.b0,c.a.n.b1,⟨by simp [Rm],fun i f v _ h=>?_⟩,by simp [Rm]⟩
 have h:(List.replicate (Yh g.ZJ).length (⟨0,0,str []⟩:T12))[i]? = some v:=h
 rw [List.eq_of_mem_replicate (Zb h)]
 have e:WT ⟨0,0,str []⟩=true:=by kernel_rfl
 rw [e];rfl
theorem ZjX (c:V8 N g m):∀ (l:List T3) (s:Yt) (k:Nat),(∀ x∈l,V9 x)->StM g m s->StM g m (Sv (Wt N g m) l s k).1/\(Sv (Wt N g m) l s k).2.2≠1
 | [],s,k,_,hS=>⟨hS,show (0:Int)≠1 by decide⟩
 | x::l,s,k,he,hS=>by
  have ⟨_,b,d⟩:=Zaz c hS (he x (Zk ..))
  rw [Sv]
  cases h:((Wt N g m s x).2 != 0) with
  | true=>exact ⟨hS,d⟩
  | false =>
   have e:(Wt N g m s x).2=0:=by simpa using h
   exact ZjX c l _ (k+1) (fun y a=>he y (Zj _ a)) (b e)
theorem ZnN (c:4194304 < N) (l:List T12) (d:l.length<=4194304):∃ b,z43 N l=some b:=by
 refine Lc (F:=Mb l) (len:=l.length) (fun n k a hi=>?_) (fun n k a=>?_) _ N 0 rfl (by omega)
 ·rw [Mb,Yo a,Yb,Za a,Ye (by omega)]
  simp only [cT,bS]
  exact W0 (fun _=>Va _) fun _=>hi
 ·rw [Mb,Yp a]
  exact Va _
theorem ZnO (c:4194304 < N) (l:List T3) (e:l.length<=4194304) (d:∀ x∈l,V9 x):∃ b,z19 N l=some b:=by
 refine Lc (F:=PZ N l) (len:=l.length) (fun n k a hi=>?_) (fun n k a=>?_) _ N 0 rfl (by omega)
 ·rw [PZ,Yo a,Yb,Za a,Ye (by omega)]
  have ⟨b,eb⟩:=ZnN c _ (d _ (List.getElem_mem a)).l
  simp only [cT,bS,eb]
  exact W0 (fun _=>Va _) fun _=>hi
 ·rw [PZ,Yp a]
  exact Va _
theorem ZnQ (e:4194304 < N) (g:T5) (a:VP g) (m:T8) (l:List T3) (h:l.length<=4194304) (i:∀ x∈l,V9 x):∃ b,z5 N g m l=some b:=by
 unfold z5 z17 z18 z42
 have ⟨j,c,_⟩:=ZnP g.ZJ a.d g.ZJ N 0 0 rfl (by have:=a.d;omega)
 rw [show ((0:Nat):Int)=0 from rfl] at c
 have ⟨n,k⟩:=ZnO e l h i
 rw [c,k]
 simp only [bS]
 cases decide (g.ZL<=40)<;>cases decide ((g.ZO.length:Int)<=80)<;>cases decide ((g.ZP.length:Int)<=40)<;>cases decide ((g.ZI.length:Int)<=10)<;>cases j <;>
  cases decide (m.ZL<=40)<;>cases decide ((m.ZT.length:Int)<=45)<;>cases decide ((m.ZU.length:Int)<=80)<;>cases decide ((m.ZP.length:Int)<=45)<;>exact ⟨_,rfl⟩
end
section
variable {N:Nat}
theorem Zrp (l:4194304 < N) (m:T8):Gw N m=some (R5 m):=by
 unfold Gw R5 UO
 have d:∀ a:Int,decide (a>=0) = !decide (a < 0):=fun a=>by by_cases h:a < 0<;>simp [h]<;>omega
 have i:∀ a b:Int,decide (a < b) = !decide (a>=b):=fun a b=>by by_cases h:a < b<;>simp [h]<;>omega
 rw [d m.ZM,i m.ZM m.ZL]
 cases decide (m.ZS < 0)
 case true=>rfl
 cases decide (m.ZS>=6)
 case true=>rfl
 cases decide (m.ZL < 1)
 case true=>rfl
 cases decide (m.ZL > 200)
 case true=>rfl
 cases decide (m.ZM < 0)
 case true=>rfl
 cases decide (m.ZM>=m.ZL)
 case true=>rfl
 cases ((m.ZT.length:Int) != m.ZL)
 case true=>rfl
 cases h:decide ((m.ZU.length:Int) > 400)
 case true=>rfl
 simp only [decide_eq_false_iff_not] at h
 have:=Xt (fun (x:T9) _=>moveM m x) (xs:=m.ZU) (F:=Qd m) (e:=some true) (n:=N) (by omega) (by
  intro n k x c j
  rw [Qd,Yo c,Ye (by omega)]
  simp only [cT,Yb,j,bS]
  unfold moveM UO
  rw [d x.ZC,d x.To,i x.ZC m.ZL,i x.To m.ZL]
  cases decide (x.ZC < 0)
  case true=>rfl
  cases decide (x.ZC>=m.ZL)
  case true=>rfl
  cases decide (x.To < 0)
  case true=>rfl
  cases decide (x.To>=m.ZL)
  case true=>rfl
  cases decide (x.ZR < 0)
  case true=>rfl
  cases decide (x.ZR>=6)
  case true=>rfl
  cases (x.ZR==m.ZS)
  case true=>rfl
  cases decide (x.ZD < 0)
  case true=>rfl
  cases decide (x.ZD>=40)<;>rfl) (by
  intro n k c
  rw [Qd,Yp c]
  rfl)
 show Qd m N 0=_
 rw [this]
 cases Yw (fun (x:T9) _=>moveM m x) m.ZU 0<;>rfl
def TQ (m:T8) (x:XB) (k:Nat):Bool:=(decide (1<=x.ZG) && (decide (x.ZG<=1000) && (decide (0<=x.ZH) && decide (x.ZH < (m.ZU.length:Int))))) && (decide (k=0) || (match m.ZP[k-1]? with | some y=>decide (y.ZF < x.ZF) | none=>false)) &&
 (match Z5 m.ZU x.ZH with | some y=>(y.ZC==x.ZF) && (y.ZQ && !y.ZE) | none=>false)
theorem Zrx (q:4194304 < N) (m:T8) (r:m.ZP.length<=4194304):Gz N m=some (Yw (TQ m) m.ZP 0):=by
 unfold Gz
 have:=Xt (TQ m) (xs:=m.ZP) (F:=V3 m) (e:=some true) (n:=N) (by omega) (by
  intro n k x i p
  rw [V3,Yo i,Yb,p]
  simp only [cT,bS]
  have j:∀ b:Bool,(0<=x.ZH/\x.ZH < (m.ZU.length:Int))->TS m (k:Int) (V3 m n) x b=bif (!b && (match Z5 m.ZU x.ZH with | some y=>(y.ZC==x.ZF) && (y.ZQ && !y.ZE) | none=>false)) then V3 m n ((k+1:Nat):Int) else some false:=fun b ⟨l,o⟩=>by
   unfold TS
   have ⟨y,d⟩:=Xx (L:=m.ZU) l o
   rw [d,Ye (by omega)]
   simp only [bS]
   have e:(y.ZC != x.ZF) = !(y.ZC==x.ZF):=rfl
   rw [e]
   cases b<;>cases (y.ZC==x.ZF)<;>cases y.ZQ<;>cases y.ZE<;>rfl
  have c:TS m (k:Int) (V3 m n) x true=some false:=rfl
  unfold TQ
  by_cases a1:x.ZG < 1
  ·rw [dT a1,dF (by omega:¬ 1<=x.ZG),c];rfl
  by_cases a2:x.ZG > 1000
  ·rw [dF a1,dT a2,dF (by omega:¬ x.ZG<=1000),c];simp
  by_cases a3:x.ZH < 0
  ·rw [dF a1,dF a2,dT a3,dF (by omega:¬ 0<=x.ZH),c];simp
  by_cases a4:x.ZH>=(m.ZU.length:Int)
  ·rw [dF a1,dF a2,dF a3,dT a4,dF (by omega:¬ x.ZH < (m.ZU.length:Int)),c];simp
  rw [dF a1,dF a2,dF a3,dF a4,dT (by omega:1<=x.ZG),dT (by omega:x.ZG<=1000),dT (by omega:0<=x.ZH),dT (by omega:x.ZH < (m.ZU.length:Int))]
  simp only [cond_false,Bool.true_and]
  by_cases a:k=0
  ·subst a
   rw [show decide (((0:Nat):Int) > 0)=false from rfl,cond_false,j false ⟨by omega,by omega⟩]
   simp
  ·rw [dT (by omega:(k:Int) > 0)]
   have w:Z1 ((k:Int)-1)=((k-1:Nat):Int):=by rw [YE (by omega) (by omega)];omega
   have d:=Za (by omega:k-1 < m.ZP.length)
   rw [w,Yb,d]
   simp only [cT,bS]
   rw [j _ ⟨by omega,by omega⟩,dF a]
   have e:(!decide (x.ZF<=(m.ZP[k-1]).ZF))=decide ((m.ZP[k-1]).ZF < x.ZF):=by
    by_cases h:x.ZF<=(m.ZP[k-1]).ZF<;>simp [h]<;>omega
   rw [e,Bool.false_or]) (by
  intro n k i
  rw [V3,Yp i];rfl)
 rw [this]
 cases Yw (TQ m) m.ZP 0<;>rfl
end
section
variable {N:Nat} {t:Xw} {m:T8}
theorem Zky (r:4194304 < N) (j:t.ZY=m) (s:m.ZP.length<=4194304):Lq N t=some (Yw (TQ m) m.ZP 0):=by
 unfold Lq
 subst j
 have:=Xt (TQ t.ZY) (xs:=t.ZY.ZP) (F:=XP t) (e:=some true) (n:=N) (by omega) (by
  intro n k x i p
  rw [XP,Yo i,Yb,p]
  simp only [cT,bS]
  have q:(0<=x.ZH/\x.ZH < (t.ZY.ZU.length:Int))->Wy t (k:Int) (XP t n) x false=bif (match Z5 t.ZY.ZU x.ZH with | some y=>(y.ZC==x.ZF) && (y.ZQ && !y.ZE) | none=>false) then XP t n ((k+1:Nat):Int) else some false:=fun ⟨l,o⟩=>by
   unfold Wy
   have ⟨y,d⟩:=Xx (L:=t.ZY.ZU) l o
   rw [d,Ye (by omega)]
   simp only [bS]
   have e:(y.ZC != x.ZF) = !(y.ZC==x.ZF):=rfl
   rw [e]
   cases (y.ZC==x.ZF)<;>cases y.ZQ<;>cases y.ZE<;>rfl
  have b:Wy t (k:Int) (XP t n) x true=some false:=rfl
  have a:(bif decide (x.ZG < 1) then Wy t (k:Int) (XP t n) x true else bif decide (x.ZG > 1000) then Wy t (k:Int) (XP t n) x true
    else bif decide (x.ZH < 0) then Wy t (k:Int) (XP t n) x true else Wy t (k:Int) (XP t n) x (decide (x.ZH>=(t.ZY.ZU.length:Int)))) =
    bif ((decide (1<=x.ZG) && (decide (x.ZG<=1000) && (decide (0<=x.ZH) && decide (x.ZH < (t.ZY.ZU.length:Int))))) && (match Z5 t.ZY.ZU x.ZH with | some y=>(y.ZC==x.ZF) && (y.ZQ && !y.ZE) | none=>false)) then XP t n ((k+1:Nat):Int) else some false:=by
   by_cases a1:x.ZG < 1
   ·rw [dT a1,dF (by omega:¬ 1<=x.ZG),b];rfl
   by_cases a2:x.ZG > 1000
   ·rw [dF a1,dT a2,dF (by omega:¬ x.ZG<=1000),b];simp
   by_cases a3:x.ZH < 0
   ·rw [dF a1,dF a2,dT a3,dF (by omega:¬ 0<=x.ZH),b];simp
   by_cases a4:x.ZH>=(t.ZY.ZU.length:Int)
   ·rw [dF a1,dF a2,dF a3,dT a4,dF (by omega:¬ x.ZH < (t.ZY.ZU.length:Int)),b];simp
   rw [dF a1,dF a2,dF a3,dF a4,dT (by omega:1<=x.ZG),dT (by omega:x.ZG<=1000),dT (by omega:0<=x.ZH),dT (by omega:x.ZH < (t.ZY.ZU.length:Int))]
   simp only [cond_false,Bool.true_and]
   exact q ⟨by omega,by omega⟩
  unfold TQ
  by_cases c:k=0
  ·subst c
   rw [show decide (((0:Nat):Int) > 0)=false from rfl,cond_false,a,dT rfl,Bool.true_or,Bool.and_true]<;>rfl
  ·rw [dT (by omega:(k:Int) > 0)]
   have w:Z1 ((k:Int)-1)=((k-1:Nat):Int):=by rw [YE (by omega) (by omega)];omega
   have d:=Za (by omega:k-1 < t.ZY.ZP.length)
   rw [w,Yb,d,dF c]
   simp only [cT,bS,Bool.false_or]
   rw [a,b]
   by_cases h:(t.ZY.ZP[k-1]).ZF>=x.ZF
   ·rw [dT h,dF (by omega:¬ (t.ZY.ZP[k-1]).ZF < x.ZF),Bool.and_false,Bool.false_and];rfl
   ·rw [dF h,dT (by omega:(t.ZY.ZP[k-1]).ZF < x.ZF),Bool.and_true];rfl) (by
  intro n k i
  rw [XP,Yp i];rfl)
 rw [this]
 cases Yw (TQ t.ZY) t.ZY.ZP 0<;>rfl
def QV (m:T8) (x:T9):Bool := !x.ZE || (x.ZQ && (!(x.ZC==m.ZM) && (match Z5 m.ZT x.ZC with | some b => !b | none=>false)))
def Ss (x:T9) (i:Nat) (y:T9) (k:Nat):Bool := !(!decide (k=i) && (x.ZC==y.ZC && (!(x.ZQ==y.ZQ) || (x.ZR==y.ZR && x.ZD==y.ZD) || x.ZE))) && !(x.ZE && (y.To==x.ZC && (!y.ZQ || !(y.ZD==x.ZD))))
def QW (m:T8):Bool:=Yw (fun x i=>QV m x && Yw (fun y k=>Ss x i y k) m.ZU 0) m.ZU 0
theorem Zrf (G:4194304 < N) (d:Wv m):Gy N m=some (QW m):=by
 have I:=d.n
 unfold Gy QW
 have:=Xt (fun x i=>QV m x && Yw (fun y k=>Ss x i y k) m.ZU 0) (xs:=m.ZU) (F:=Vd N m) (e:=some true) (n:=N) (by omega) (by
  intro n i x hi j
  obtain ⟨⟨l,H⟩,_⟩:=d.mv x (Zb j)
  rw [Vd,Yo hi,Yb,j]
  simp only [cT,bS]
  have a:Uh m (i:Int) (Vd N m n) x N 0=bif Yw (fun y k=>Ss x i y k) m.ZU 0 then Vd N m n ((i+1:Nat):Int) else some false:=by
   have:=Xt (fun y k=>Ss x i y k) (xs:=m.ZU) (F:=Uh m (i:Int) (Vd N m n) x) (e:=Vd N m n ((i+1:Nat):Int)) (n:=N) (by omega) (by
    intro q k y c p
    rw [Uh,Yo c,Yb,p]
    simp only [cT,bS]
    unfold Ru Ss
    rw [Ye (by omega)]
    have r:((k:Int) != (i:Int)) = !decide (k=i):=by by_cases h:k=i<;>simp [h]<;>omega
    have s:(y.ZD != x.ZD) = !(y.ZD==x.ZD):=rfl
    rw [r,s]
    generalize Uh m (i:Int) (Vd N m n) x q ((k+1:Nat):Int)=Z
    generalize (y.ZD==x.ZD)=u
    generalize (y.To==x.ZC)=v
    generalize (x.ZD==y.ZD)=w
    generalize (x.ZR==y.ZR)=z
    generalize (x.ZC==y.ZC)=A
    generalize decide (k=i)=B
    generalize x.ZQ=C
    generalize y.ZQ=D
    generalize x.ZE=E
    cases B<;>cases A<;>cases E<;>cases v<;>cases D<;>cases C<;>try rfl
    all_goals (cases u<;>cases z<;>cases w<;>rfl)) (by
    intro q k c
    rw [Uh,Yp c]
    unfold ZaP
    rw [cond_false,Ye (by omega)])
   exact this
  have ⟨b,o⟩:=Xx (L:=m.ZT) l (by have:=d.f;omega)
  unfold PB QV
  rw [o,a]
  simp only [bS]
  generalize Yw (fun y k=>Ss x i y k) m.ZU 0=Y
  generalize Vd N m n ((i+1:Nat):Int)=Z
  cases x.ZE<;>cases x.ZQ<;>cases (x.ZC==m.ZM)<;>cases b<;>cases Y<;>rfl) (by
  intro n k c
  rw [Vd,Yp c];rfl)
 rw [this]
 cases Yw (fun x i=>QV m x && Yw (fun y k=>Ss x i y k) m.ZU 0) m.ZU 0<;>rfl
end
section
variable {N:Nat} {t:Xw} {m:T8}
theorem RM {F:Nat->Int->Option Bool} {len lo:Nat} {e:Option Bool} (P:Nat->Prop) (l:∀ n k,lo<=k->k < len->(F (n+1) (k:Int)=some false/\¬ P k)\/(F (n+1) (k:Int)=F n ((k+1:Nat):Int)/\P k))
  (o:∀ n k,len<=k->F (n+1) (k:Int)=e):∀ (d n k:Nat),lo<=k->len-k=d->d < n->(F n (k:Int)=some false/\∃ j,k<=j/\j < len/\¬ P j)\/(F n (k:Int)=e/\∀ j,k<=j->j < len->P j):=by
 intro d
 induction d with
 | zero =>
  intro n k p u v
  obtain ⟨n,rfl⟩:=pS n (by omega)
  exact .inr ⟨o n k (by omega),fun j l o=>by omega⟩
 | succ d w =>
  intro n k p u v
  obtain ⟨n,rfl⟩:=pS n (by omega)
  rcases l n k p (by omega) with ⟨c,i⟩ | ⟨c,i⟩
  ·exact .inl ⟨c,k,Zp _,by omega,i⟩
  ·rw [c]
   rcases w n (k+1) (by omega) (by omega) (by omega) with ⟨a,j,y,r,s⟩ | ⟨a,b⟩
   ·exact .inl ⟨a,j,by omega,r,s⟩
   ·refine .inr ⟨a,fun j x q=>?_⟩
    by_cases h:j=k
    ·subst h;exact i
    ·exact b j (by omega) q
def Ba (x y:T9):Prop:=¬ (x.ZQ=y.ZQ/\x.ZR=y.ZR/\x.ZD=y.ZD)/\x.ZQ=y.ZQ
def Hx (m:T8) (l:List Int) (j:Nat):Prop:=∀ (a b:Int) x y,l[j-1]? = some a->l[j]? = some b->Z5 m.ZU a=some x->Z5 m.ZU b=some y->Ba x y
theorem Zm4 (Y:4194304 < N) (h:Si t m):∃ b,Lm N t=some b/\(b=true↔∀ (s:Nat) l,t.out'[s]? = some l->∀ j,1<=j->j < l.length->Hx m l j):=by
 have hS:=h.num.s1
 have T:=h.len
 have key:=RM (F:=Vv N t) (len:=t.out'.length) (lo:=0) (e:=some true) (fun s=>∀ l,t.out'[s]? = some l->∀ j,1<=j->j < l.length->Hx m l j) (fun n k _ o=>?_) (fun n k o=>?_) _ N 0 (Zp _) rfl (by omega)
 ·rcases key with ⟨e,j,_,E,M⟩ | ⟨e,c⟩
  ·exact ⟨false,e,by simp only [Bool.false_eq_true,false_iff];intro c;exact M fun l p=>c j l p⟩
  ·refine ⟨true,e,by simp only [true_iff];intro s l p;exact c s (Nat.zero_le _) (List.getElem?_eq_some_iff.1 p).1 l p⟩
 ·rw [Vv,Yo o,Yb,Za o]
  simp only [cT,bS]
  have ⟨p,S⟩:=h.out k _ (Za o)
  have O:=Za o
  generalize t.out'[k]=l at p S O
  have P:PD (k:Int) (Vv N t n)=Vv N t n ((k+1:Nat):Int):=by
   unfold PD
   rw [Ye (by omega)]
  have g:∀ i:Nat,i < l.length->∃ q x,l[i]? = some q/\Z5 m.ZU q=some x:=fun i hi=>by
   have ⟨q,x,W,X,_⟩:=S l[i] (List.getElem_mem hi)
   exact ⟨l[i],x,Za hi,by rw [W,Yb];exact X⟩
  have d:=RM (F:=SD N t (k:Int) (Vv N t n) l) (len:=l.length) (lo:=1) (e:=Vv N t n ((k+1:Nat):Int)) (fun j=>Hx m l j) (fun U j C D=>by
   rw [SD,Yo D,Ye (by omega)]
   have w:Z1 ((j:Int)-1)=((j-1:Nat):Int):=by rw [YE (by omega) (by omega)];omega
   have ⟨a,x,H,I⟩:=g (j-1) (by omega)
   have ⟨b,y,K,L⟩:=g j D
   rw [w,Yb,H,h.mm]
   simp only [cT,bS,I,Yb,K,L,Ry,Bool.and_true]
   have B:Hx m l j↔Ba x y:=by
    constructor
    ·intro c;exact c a b x y H K I L
    ·intro c a' b' x' y' u v z A
     rw [H] at u;rw [K] at v
     cases u;cases v
     rw [I] at z;rw [L] at A
     cases z;cases A
     exact c
   rw [B]
   unfold Ba
   cases r:(x.ZQ==y.ZQ && (x.ZR==y.ZR && x.ZD==y.ZD)) with
   | true =>
    simp only [Zc,beq_iff_eq] at r
    exact .inl ⟨rfl,fun c=>c.1 ⟨r.1,r.2.1,r.2.2⟩⟩
   | false =>
    cases R:(x.ZQ==y.ZQ) with
    | false=>exact .inl ⟨rfl,fun c=>by rw [c.2] at R;simp at R⟩
    | true =>
     refine .inr ⟨rfl,fun c=>?_,by simpa using R⟩
     rw [c.1,c.2.1,c.2.2] at r
     simp at r) (fun U j D=>by
   rw [SD,Yp D]
   exact P) _ N 1 (Zp _) rfl (by omega)
  rcases d with ⟨e,j,C,E,M⟩ | ⟨e,c⟩
  ·exact .inl ⟨e,fun V=>M (V l rfl j C E)⟩
  ·refine .inr ⟨e,fun Z G j C E=>?_⟩
   cases G
   exact c j C E
 ·rw [Vv,Yp o];rfl
def Hy (m:T8) (out:List (List Int)) (k:Nat):Prop:=∀ x,m.ZU[k]? = some x->x.ZE=true->x.ZQ=true/\(∀ l,Z5 out x.ZC=some l->l.length=1)/\x.ZC≠m.ZM/\Z5 m.ZT x.ZC=some false /\
 ∀ (j:Nat) y,m.ZU[j]? = some y->y.To=x.ZC->y.ZQ=true/\y.ZD=x.ZD
theorem Zmb (U:4194304 < N) (h:Si t m):∃ b,Ln N t=some b/\(b=true↔∀ k,k < m.ZU.length->Hy m t.out' k):=by
 have X:=h.num.s1
 have Y:=h.num.n
 have K:=h.len
 have R:=h.mm
 subst R
 have key:=RM (F:=VL N t) (len:=t.ZY.ZU.length) (lo:=0) (e:=some true) (fun k=>Hy t.ZY t.out' k) (fun n k _ c=>?_) (fun n k c=>?_) _ N 0 (Zp _) rfl (by omega)
 ·rcases key with ⟨e,j,_,I,B⟩ | ⟨e,a⟩
  ·exact ⟨false,e,by simp only [Bool.false_eq_true,false_iff];intro a;exact B (a j I)⟩
  ·exact ⟨true,e,by simp only [true_iff];intro k c;exact a k (Nat.zero_le _) c⟩
 ·have D:=Za c
  obtain ⟨⟨w,P⟩,_⟩:=h.num.mv _ (List.getElem_mem c)
  rw [VL,Yo c,Yb,D,Ye (by omega)]
  generalize t.ZY.ZU[k]=x at D w P
  simp only [cT,bS]
  have ⟨l,z⟩:=Xx (L:=t.out') w (by omega)
  have ⟨b,A⟩:=Xx (L:=t.ZY.ZT) w (by have:=h.num.f;omega)
  have S:Hy t.ZY t.out' k↔(x.ZE=true->x.ZQ=true/\l.length=1/\x.ZC≠t.ZY.ZM/\b=false/\∀ (j:Nat) y,t.ZY.ZU[j]? = some y->y.To=x.ZC->y.ZQ=true/\y.ZD=x.ZD):=by
   unfold Hy
   rw [D]
   constructor
   ·intro a s
    have ⟨a1,a2,a3,a4,a5⟩:=a x rfl s
    rw [A] at a4
    exact ⟨a1,a2 l z,a3,Zl a4,a5⟩
   ·intro a W C s
    cases C
    have ⟨a1,a2,a3,a4,a5⟩:=a s
    exact ⟨a1,fun V o=>by rw [z] at o;cases o;exact a2,a3,by rw [A,a4],a5⟩
  rw [S]
  cases s:x.ZE with
  | false=>exact .inr ⟨rfl,fun e=>by cases e⟩
  | true =>
  cases Z:x.ZQ with
  | false=>exact .inl ⟨rfl,fun e=>by have:=(e (by trivial)).1;cases this⟩
  | true =>
  simp only [Zh,cond_false,z,A,bS]
  by_cases H:l.length=1
  ·have d:((l.length:Int) != 1)=false:=by simp [H]
   rw [d,cond_false]
   by_cases u:x.ZC=t.ZY.ZM
   ·have E:(x.ZC==t.ZY.ZM)=true:=by simp [u]
    rw [E]
    exact .inl ⟨rfl,fun e=>(e (by trivial)).2.2.1 u⟩
   ·have E:(x.ZC==t.ZY.ZM)=false:=by simp [u]
    rw [E,cond_false]
    cases b with
    | true=>exact .inl ⟨rfl,fun e=>by have:=(e (by trivial)).2.2.2.1;cases this⟩
    | false =>
    simp only [cond_false]
    have i:=RM (F:=TU t (k:Int) (VL N t n) x) (len:=t.ZY.ZU.length) (lo:=0) (e:=VL N t n ((k+1:Nat):Int))
     (fun j=>∀ y,t.ZY.ZU[j]? = some y->y.To=x.ZC->y.ZQ=true/\y.ZD=x.ZD) (fun M j _ r=>by
     have q:=Za r
     rw [TU,Yo r,Yb,q,Ye (by omega)]
     generalize t.ZY.ZU[j]=y at q
     simp only [cT,bS]
     have T:(∀ p,some y=some p->p.To=x.ZC->p.ZQ=true/\p.ZD=x.ZD)↔(y.To=x.ZC->y.ZQ=true/\y.ZD=x.ZD) :=
      ⟨fun a=>a y rfl,fun a p e=>by cases e;exact a⟩
     rw [T]
     by_cases d1:y.To=x.ZC
     ·have d:(y.To==x.ZC)=true:=by simp [d1]
      rw [d,cT]
      cases d2:y.ZQ with
      | false=>exact .inl ⟨rfl,fun a=>by have:=(a d1).1;cases this⟩
      | true =>
       by_cases v:y.ZD=x.ZD
       ·have G:(y.ZD != x.ZD)=false:=by simp [v]
        rw [G]
        exact .inr ⟨rfl,fun _=>⟨rfl,v⟩⟩
       ·have G:(y.ZD != x.ZD)=true:=by simp [v]
        rw [G]
        exact .inl ⟨rfl,fun a=>v (a d1).2⟩
     ·have d:(y.To==x.ZC)=false:=by simp [d1]
      rw [d]
      exact .inr ⟨rfl,fun a=>absurd a d1⟩) (fun M j r=>by
     rw [TU,Yp r]
     unfold Lp
     rw [cond_false,Ye (by omega)]) _ N 0 (Zp _) rfl (by omega)
    rcases i with ⟨e,j,_,I,B⟩ | ⟨e,a⟩
    ·exact .inl ⟨e,fun O=>B ((O (by trivial)).2.2.2.2 j)⟩
    ·refine .inr ⟨e,fun _=>⟨by trivial,H,u,by trivial,fun j y q=>?_⟩⟩
     exact a j (Nat.zero_le _) (List.getElem?_eq_some_iff.1 q).1 y q
  ·have d:((l.length:Int) != 1)=true:=by simp;omega
   rw [d]
   exact .inl ⟨rfl,fun e=>H (e (by trivial)).2.1⟩
 ·rw [VL,Yp c];rfl
end
section
variable {N:Nat} {m:T8}
theorem Zow (m:T8) (n s:Nat):(XF m n s).Nodup:=by
  unfold XF
  exact List.Pairwise.map (S:=(·≠·)) (fun k:Nat=>(k:Int)) (fun (a b:Nat) (h:a≠b)=>show (a:Int)≠(b:Int) by omega) (List.Pairwise.filter _ List.nodup_range)
theorem Zaj (x:T9) (i:Nat) (y:T9) (k:Nat):Ss x i y k=true↔((k≠i->x.ZC=y.ZC->x.ZQ=y.ZQ/\¬ (x.ZR=y.ZR/\x.ZD=y.ZD)/\x.ZE=false)/\(x.ZE=true->y.To=x.ZC->y.ZQ=true/\y.ZD=x.ZD)):=by
 unfold Ss
 by_cases a:k=i<;>by_cases b:x.ZC=y.ZC<;>by_cases c:x.ZR=y.ZR<;>by_cases d:x.ZD=y.ZD<;>by_cases e:y.To=x.ZC <;>
  cases x.ZQ<;>cases y.ZQ<;>cases x.ZE<;>simp [a,b,c,d,e]<;>(try omega)
theorem ZgK (x:T9):QV m x=true↔(x.ZE=true->x.ZQ=true/\x.ZC≠m.ZM/\Z5 m.ZT x.ZC=some false):=by
 unfold QV
 cases x.ZE<;>cases x.ZQ<;>by_cases h:x.ZC=m.ZM<;>cases Z5 m.ZT x.ZC with
 | none=>simp [h]
 | some b=>cases b<;>simp [h]
theorem Zmh:QW m=true↔∀ (i:Nat) x,m.ZU[i]? = some x->QV m x=true/\∀ (k:Nat) y,m.ZU[k]? = some y->Ss x i y k=true:=by
 unfold QW
 rw [XC]
 constructor
 ·intro h i x b
  have:=h i x b
  rw [Nat.zero_add,Zc,XC] at this
  exact ⟨this.1,fun k y a=>by have:=this.2 k y a;rwa [Nat.zero_add] at this⟩
 ·intro h i x b
  have ⟨c,d⟩:=h i x b
  rw [Nat.zero_add,Zc,XC]
  exact ⟨c,fun k y a=>by rw [Nat.zero_add];exact d k y a⟩
theorem ZiK {x y:T9} (h:Ba x y) (a:¬ Wq y x):Wq x y:=by
 have ⟨b,c⟩:=h
 unfold Wq at *
 revert b a
 rw [c]
 cases y.ZQ<;>simp<;>omega
theorem H6 (n:4194304 < N) (p:Wv m) (s:Nat) (q:s < m.ZL.toNat):∃ l,(WG N m)[s]? = some l/\l.Nodup/\(∀ a,a∈l↔∃ (k:Nat) (x:T9),a=(k:Int)/\m.ZU[k]? = some x/\x.ZC=(s:Int)) /\
  ∀ (i j:Nat) (a b:Nat) x y,i < j->l[i]? = some (a:Int)->l[j]? = some (b:Int)->m.ZU[a]? = some x->m.ZU[b]? = some y->¬ Wq y x:=by
 have ⟨o,z⟩:=Zaf n m p s
 refine ⟨_,Zae N m s q,o.nodup_iff.2 (Zow m _ s),fun a=>?_,fun i j a b x y d r u v w=>?_⟩
 ·rw [o.mem_iff]
  constructor
  ·intro h
   have ⟨k,x,A,_,c,e⟩:=BO h
   exact ⟨k,x,A,c,e⟩
  ·rintro ⟨k,x,rfl,c,e⟩
   exact Zox (List.getElem?_eq_some_iff.1 c).1 c e
 ·have:=z i j a b d r u
  rw [ZmM n m w v] at this
  exact fun h=>this ((ZgY y x).2 h)
def MW (m:T8):Prop:=∀ (i k:Nat) x y,i≠k->m.ZU[i]? = some x->m.ZU[k]? = some y->x.ZC=y.ZC->x.ZQ=y.ZQ/\¬ (x.ZR=y.ZR/\x.ZD=y.ZD)
theorem Zm5 (Y:4194304 < N) (S:Wv m):(∀ (s:Nat) l,(WG N m)[s]? = some l->∀ j,1<=j->j < l.length->Hx m l j)↔MW m:=by
 constructor
 ·intro hD i k x y H o r W
  obtain ⟨⟨f0,f1⟩,_⟩:=S.mv x (Zb o)
  have ⟨s,M⟩:=Ze f0
  have ⟨l,O,D,n,v⟩:=H6 Y S s (by omega)
  have w:=hD s l O
  have I:∀ (d p:Nat) (a b:Nat) x y,l[p]? = some (a:Int)->l[p+d+1]? = some (b:Int)->m.ZU[a]? = some x->m.ZU[b]? = some y->x.ZQ=y.ZQ/\Wq x y:=by
   intro d
   induction d with
   | zero =>
    intro p a b x y A u o r
    have X:=(List.getElem?_eq_some_iff.1 u).1
    have:=w (p+1) (by omega) (by omega) a b x y (by simpa using A) (by simpa using u) (by rw [Yb];exact o) (by rw [Yb];exact r)
    exact ⟨this.2,ZiK this (v p (p+1) a b x y (by omega) A (by simpa using u) o r)⟩
   | succ d ih =>
    intro p a b x y A u o r
    have X:=(List.getElem?_eq_some_iff.1 u).1
    have R:=Za (show p+d+1 < l.length by omega)
    have ⟨c,z,T,U,_⟩:=(n _).1 (List.getElem_mem (show p+d+1 < l.length by omega))
    rw [T] at R
    have ⟨s1,o1⟩:=ih p a c x z A R o U
    have K:l[p+d+1+1]? = some (b:Int):=by rw [show p+d+1+1=p+(d+1)+1 by omega];exact u
    have:=w (p+d+1+1) (by omega) (by omega) c b z y (by simpa using R) K (by rw [Yb];exact U) (by rw [Yb];exact r)
    have o2:=ZiK this (v (p+d+1) (p+d+1+1) c b z y (by omega) R K U r)
    exact ⟨s1.trans this.2,BZ o1 o2⟩
  have ⟨p,V⟩:=List.getElem?_of_mem ((n (i:Int)).2 ⟨i,x,rfl,o,M⟩)
  have ⟨q,P⟩:=List.getElem?_of_mem ((n (k:Int)).2 ⟨k,y,rfl,r,by rw [<- W];exact M⟩)
  have L:∀ {x y:T9},x.ZQ=y.ZQ->Wq x y->x.ZQ=y.ZQ/\¬ (x.ZR=y.ZR/\x.ZD=y.ZD):=fun {x y} B C=>by
   refine ⟨B,fun Z=>?_⟩
   unfold Wq at C
   rw [B,Z.1,Z.2] at C
   revert C
   cases y.ZQ<;>simp
  rcases Nat.lt_trichotomy p q with h | h | h
  ·have ⟨a1,a2⟩:=I (q-p-1) p i k x y V (by rw [show p+(q-p-1)+1=q by omega];exact P) o r
   exact L a1 a2
  ·subst h
   rw [V] at P
   have:=Zl P
   omega
  ·have ⟨a1,a2⟩:=I (p-q-1) q k i y x P (by rw [show q+(p-q-1)+1=p by omega];exact V) r o
   have ⟨b1,b2⟩:=L a1 a2
   exact ⟨b1.symm,fun h=>b2 ⟨h.1.symm,h.2.symm⟩⟩
 ·intro hP s l O j j1 j2 a b x y A u o r
  have M:s < m.ZL.toNat:=by
   have:=(List.getElem?_eq_some_iff.1 O).1
   rwa [Zd3] at this
  have ⟨l',E,D,n,_⟩:=H6 Y S s M
  rw [O] at E
  cases E
  obtain ⟨i,x',rfl,F,fx⟩:=(n a).1 (Zb A)
  obtain ⟨k,y',rfl,G,fy⟩:=(n b).1 (Zb u)
  rw [Yb,F] at o
  rw [Yb,G] at r
  cases o;cases r
  have H:i≠k:=fun e=>by
   subst e
   have B:j-1 < l.length:=by omega
   have:=(List.getElem_inj D (h₀:=B) (h₁:=j2)).1 (by
    have e1:=(List.getElem?_eq_some_iff.1 A).2
    have e2:=(List.getElem?_eq_some_iff.1 u).2
    rw [e1,e2])
   omega
  have ⟨B,C⟩:=hP i k x y H F G (by rw [fx,fy])
  exact ⟨fun h=>C h.2,B⟩
end
section
variable {N:Nat} {m:T8}
theorem ZgM (O:4194304 < N) (I:Wv m):(MW m/\∀ k,k < m.ZU.length->Hy m (WG N m) k)↔QW m=true:=by
 rw [Zmh]
 have B:∀ (i:Nat) x,m.ZU[i]? = some x->∃ (s:Nat) (l:List Int),x.ZC=(s:Int)/\Z5 (WG N m) x.ZC=some l/\l.Nodup/\(∀ a,a∈l↔∃ (k:Nat) (y:T9),a=(k:Int)/\m.ZU[k]? = some y/\y.ZC=(s:Int)):=fun i x n=>by
  obtain ⟨⟨P,X⟩,_⟩:=I.mv x (Zb n)
  have ⟨s,v⟩:=Ze P
  have ⟨l,A,o,d,_⟩:=H6 O I s (by omega)
  exact ⟨s,l,v,by rw [v,Yb];exact A,o,d⟩
 constructor
 ·rintro ⟨R,F⟩ i x n
  have hi:=(List.getElem?_eq_some_iff.1 n).1
  refine ⟨ZgK x |>.2 fun p=>?_,fun k y q=>(Zaj x i y k).2 ⟨fun w u=>?_,fun p D=>?_⟩⟩
  ·have ⟨a1,_,a3,a4,_⟩:=F i hi x n p
   exact ⟨a1,a3,a4⟩
  ·have ⟨G,H⟩:=R i k x y (Ne.symm w) n q u
   refine ⟨G,H,?_⟩
   cases p:x.ZE with
   | false=>rfl
   | true =>
    have ⟨s,l,v,A,o,d⟩:=B i x n
    have U:=(F i hi x n p).2.1 l A
    have C:=(d (i:Int)).2 ⟨i,x,rfl,n,v⟩
    have M:=(d (k:Int)).2 ⟨k,y,rfl,q,by rw [<- u];exact v⟩
    obtain ⟨c,rfl⟩:=List.length_eq_one_iff.1 U
    rw [List.mem_singleton] at C M
    have:(i:Int)=(k:Int):=C.trans M.symm
    omega
  ·exact (F i hi x n p).2.2.2.2 k y q D
 ·intro h
  refine ⟨fun i k x y w n q u=>?_,fun i hi x n p=>?_⟩
  ·have ⟨G,H,_⟩:=((Zaj x i y k).1 ((h i x n).2 k y q)).1 (Ne.symm w) u
   exact ⟨G,H⟩
  ·have ⟨S,L⟩:=h i x n
   have ⟨a1,a3,a4⟩:=(ZgK x).1 S p
   refine ⟨a1,fun K z=>?_,a3,a4,fun j y q D=>((Zaj x i y j).1 (L j y q)).2 p D⟩
   have ⟨s,l,v,A,o,d⟩:=B i x n
   rw [A] at z
   cases z
   have C:=(d (i:Int)).2 ⟨i,x,rfl,n,v⟩
   have only:∀ a∈K,a=(i:Int):=fun a E=>by
    obtain ⟨k,y,rfl,q,T⟩:=(d a).1 E
    by_cases e:k=i
    ·rw [e]
    ·have:=(((Zaj x i y k).1 (L k y q)).1 e (by rw [v,T])).2.2
     rw [p] at this;cases this
   match K,o,C,only with
   | [a],_,_,_=>rfl
   | a::b::r,o,_,only =>
    have V:=only a (Zk ..)
    have W:=only b (Zj _ (Zk ..))
    subst V
    rw [W] at o
    simp at o
theorem ZgL (a:4194304 < N) (d:Wv m):∃ b c,Lm N ⟨m,WG N m⟩=some b/\Ln N ⟨m,WG N m⟩=some c/\(b && c)=QW m:=by
 have h:=Zez a m d
 have ⟨b,e,i⟩:=Zm4 a h
 have ⟨c,j,k⟩:=Zmb a h
 refine ⟨b,c,e,j,?_⟩
 rw [Bool.eq_iff_iff,Zc,i,k]
 have:=Zm5 a d
 rw [this]
 exact ZgM a d
end
section
variable {N:Nat} {t:Xw} {m:T8}
inductive Rch (m:T8):Int->Prop
 | start:Rch m m.ZM
 | step {k:Nat} {x:T9}:m.ZU[k]? = some x->Rch m x.ZC->Rch m x.To
structure InvB (m:T8) (S:Nat) (a:List Bool) (q:List Int) (h:Nat):Prop where
 r:InvR S a q
 nd:q.Nodup
 mark:∀ c:Nat,c < S->(a[c]? = some true↔(c:Int)∈q)
 rch:∀ i∈q,Rch m i
 st:m.ZM∈q
 cl:∀ (i:Nat) v,i < h->q[i]? = some v->∀ (k:Nat) x,m.ZU[k]? = some x->x.ZC=v->x.To∈q
theorem InvB.add {S:Nat} {a:List Bool} {q:List Int} {h:Nat} (hi:InvB m S a q h) (E:h<=q.length) {j:Nat} (l:a[j]? = some false) (u:Rch m (j:Int)):InvB m S (a.set j true) (q++[(j:Int)]) h:=by
 have d:=(List.getElem?_eq_some_iff.1 l).1
 have o:j < S:=by rw [<- hi.r.len];exact d
 have p:(j:Int) ∉ q:=fun w=>by
  have:=(hi.mark j o).2 w
  rw [l] at this;cases this
 refine ⟨hi.r.add l,?_,fun c y=>?_,fun i n=>?_,List.mem_append_left _ hi.st,fun i v z s k x A B=>?_⟩
 ·rw [List.nodup_append]
  refine ⟨hi.nd,by simp,fun a C b D=>?_⟩
  rw [List.mem_singleton.1 D]
  exact fun e=>p (e ▸ C)
 ·rw [List.getElem?_set]
  by_cases e:j=c
  ·subst e
   simp [d]
  ·rw [if_neg e,hi.mark c y,List.mem_append,List.mem_singleton]
   constructor
   ·exact .inl
   ·rintro (h | h)
    ·exact h
    ·omega
 ·rcases List.mem_append.1 n with h | h
  ·exact hi.rch i h
  ·rw [List.mem_singleton.1 h];exact u
 ·rw [Zn (by omega)] at s
  exact List.mem_append_left _ (hi.cl i v z s k x A B)
theorem InvB.all {S:Nat} {a:List Bool} {q:List Int} (hi:InvB m S a q q.length):∀ i,Rch m i->i∈q:=by
 intro i h
 induction h with
 | start=>exact hi.st
 | step c _ d =>
  have ⟨p,b⟩:=List.getElem?_of_mem d
  exact hi.cl p _ (List.getElem?_eq_some_iff.1 b).1 b _ _ c rfl
end
section
variable {N:Nat} {t:Xw} {m:T8}
theorem ZqF (hN:4194304 < N) (h:Si t m) (S:Nat) (hS:m.ZL=(S:Int)) (Q:Bool->Prop) (k:Nat) (ag:List Bool->List Int->Int->Option Bool) (s:Nat) (I:∀ a q,InvB m S a q (k+1)->k < q.length->∃ b,ag a q (Z1 ((k:Int)+1))=some b/\Q b)
  (l:List Int) (X:t.out'[s]? = some l) (o:∀ (p:Nat) x,m.ZU[p]? = some x->x.ZC=(s:Int)->(p:Int)∈l):∀ (d n j:Nat) (a:List Bool) (q:List Int),InvB m S a q k->q[k]? = some (s:Int)->(∀ i,i < j->∀ (p:Nat) x,l[i]? = some (p:Int)->m.ZU[p]? = some x->x.To∈q)->l.length-j=d->d < n ->
   ∃ b,TT t (k:Int) ag l n a q (j:Int)=some b/\Q b:=by
 intro d
 have ⟨l1,Z⟩:=h.out s l X
 have hs1:=h.num.s1
 induction d with
 | zero =>
  intro n j a q hi A B hd hn
  obtain ⟨n,rfl⟩:=pS n (by omega)
  rw [TT,Yp (by omega)]
  refine I a q ⟨hi.r,hi.nd,hi.mark,hi.rch,hi.st,fun i v h1 L p x M T=>?_⟩ (List.getElem?_eq_some_iff.1 A).1
  by_cases e:i=k
  ·subst e
   rw [A] at L
   cases L
   have ⟨i',w⟩:=List.getElem?_of_mem (o p x M T)
   have:=(List.getElem?_eq_some_iff.1 w).1
   exact B i' (by omega) p x w M
  ·exact hi.cl i v (by omega) L p x M T
 | succ d W =>
  intro n j a q hi A B hd hn
  obtain ⟨n,rfl⟩:=pS n (by omega)
  have P:j < l.length:=by omega
  have E:=Za P
  have ⟨p,x,U,H,e3⟩:=Z l[j] (List.getElem_mem P)
  obtain ⟨_,⟨t0,t1⟩,_⟩:=h.num.mv x (Zb H)
  have ⟨c,O⟩:=Ze t0
  have R:c < S:=by omega
  have C:c < a.length:=by rw [hi.r.len];omega
  have F:=(List.getElem?_eq_some_iff.1 A).1
  rw [TT,Yo P,Yb,E,Ye (by omega)]
  simp only [cT,bS]
  rw [U,Yb,h.mm,H]
  simp only [bS]
  rw [O,Yb,Za C]
  simp only [bS]
  have next:∀ G:List Int,(∀ v∈q,v∈G)->(c:Int)∈G->∀ i,i < j+1->∀ (p:Nat) x,l[i]? = some (p:Int)->m.ZU[p]? = some x->x.To∈G:=fun G D u i w K Y y z=>by
   by_cases e:i=j
   ·subst e
    rw [E,U] at y
    have:(p:Int)=(K:Int):=Zl y
    have:p=K:=by omega
    subst this
    rw [H] at z
    cases z
    rw [O];exact u
   ·exact D _ (B i (by omega) K Y y z)
  cases V:a[c] with
  | true =>
   have u:(c:Int)∈q:=(hi.mark c R).1 (by rw [Za C,V])
   exact W n (j+1) a q hi A (next q (fun _ h=>h) u) (by omega) (by omega)
  | false =>
   have hcc:=hi.r.c
   simp only [Bool.not_false,cT]
   rw [Y8 (by simp;omega),XE]
   simp only [bS]
   have hr:Rch m (c:Int):=by
    rw [<- O]
    exact .step H (by rw [e3];exact hi.rch _ (Zb A))
   exact W n (j+1) _ _ (hi.add (Nat.le_of_lt F) (by rw [Za C,V]) hr) (by rw [Zn F];exact A)
    (next _ (fun _ h=>List.mem_append_left _ h) (List.mem_append_right _ (List.mem_singleton.2 rfl))) (by omega) (by omega)
end
section
variable {N:Nat} {t:Xw} {m:T8}
theorem MS:∀ (l q:List Int),l.Nodup->(∀ a∈l,a∈q)->l.length<=q.length
 | [],_,_,_=>Nat.zero_le _
 | a::l,q,hn,hs=>by
  have h:=List.nodup_cons.1 hn
  have i:=hs a (Zk ..)
  have:=MS l (q.erase a) h.2 fun b d=>by
   have c:b≠a:=fun e=>h.1 (e ▸ d)
   exact (List.mem_erase_of_ne c).2 (hs b (Zj _ d))
  rw [List.length_erase_of_mem i] at this
  have:0 < q.length:=List.length_pos_of_mem i
  simp;omega
theorem ZqE {S:Nat} {a:List Bool} {q:List Int} (hi:InvB m S a q q.length) (j:m.ZL=(S:Int)):(((q.length:Int)==m.ZL)=true↔∀ c:Nat,c < S->Rch m (c:Int)):=by
  rw [beq_iff_eq,j]
  constructor
  · intro h c e
    have o:=hi.r.c
    have l:a.count false=0:=by omega
    have d:c < a.length:=by rw [hi.r.len];exact e
    have:a[c]? = some true:=by
      rw [Za d]
      cases i:a[c] with
      | true=>rfl
      | false =>
        have:=List.count_eq_zero.1 l
        exact absurd (i ▸ List.getElem_mem d) this
    exact hi.rch _ ((hi.mark c e).1 this)
  · intro h
    have n:=MS ((List.range S).map fun k:Nat=>(k:Int)) q (List.Pairwise.map (S:=(·≠·)) (fun k:Nat=>(k:Int)) (fun (a b:Nat) (h:a≠b)=>show (a:Int)≠(b:Int) by omega) List.nodup_range) (fun b i=>by
      obtain ⟨c,e,rfl⟩:=List.mem_map.1 i
      exact hi.all _ (h c (List.mem_range.1 e)))
    have p:=hi.r.c
    simp at n
    omega
theorem ZqG (w:4194304 < N) (y:Wv m) (S:Nat) (C:m.ZL=(S:Int)):∀ (d n k:Nat) (a:List Bool) (q:List Int),InvB m S a q k->k<=q.length->S-k=d->d < n ->
  ∃ b,Ui N ⟨m,WG N m⟩ n a q (k:Int)=some b/\(b=true↔∀ c:Nat,c < S->Rch m (c:Int)):=by
 intro d
 have h:=Zez w m y
 have K:=y.s1
 have o:∀ (n k:Nat) (a:List Bool) (q:List Int),InvB m S a q k->k<=q.length->(k < q.length->∀ a q,InvB m S a q (k+1)->k < q.length->∃ b,Ui N ⟨m,WG N m⟩ n a q (Z1 ((k:Int)+1))=some b/\(b=true↔∀ c:Nat,c < S->Rch m (c:Int))) ->
   ∃ b,Ui N ⟨m,WG N m⟩ (n+1) a q (k:Int)=some b/\(b=true↔∀ c:Nat,c < S->Rch m (c:Int)):=fun n k a q hi j z=>by
  rw [Ui]
  by_cases s:k < q.length
  ·have v:=Za s
   rw [Yo s,Yb,v]
   simp only [cT,bS]
   have ⟨G,O⟩:=hi.r.qq _ (List.getElem_mem s)
   have ⟨c,D⟩:=Ze G
   have ⟨l,B,_,u,_⟩:=H6 w y c (by omega)
   rw [D,Yb,B]
   simp only [bS]
   have L:=(h.out c l B).1
   exact ZqF w h S C _ k _ c (z s) l B (fun p x E F=>(u _).2 ⟨p,x,rfl,E,F⟩) _ N 0 a q hi (by rw [v,D]) (fun i hi=>by omega) rfl (by omega)
  ·rw [Yp (Nat.not_lt.1 s)]
   have e:k=q.length:=by omega
   subst e
   exact ⟨_,rfl,ZqE hi C⟩
 induction d with
 | zero =>
  intro n k a q hi j H I
  obtain ⟨n,rfl⟩:=pS n (by omega)
  exact o n k a q hi j fun s=>by have:=hi.r.c;omega
 | succ d M =>
  intro n k a q hi j H I
  obtain ⟨n,rfl⟩:=pS n (by omega)
  refine o n k a q hi j fun s a q hi A=>?_
  rw [Ye (by omega)]
  exact M n (k+1) a q hi A (by omega) (by omega)
theorem ZjA (s:4194304 < N) (n:Wv m):∃ b,PE N ⟨m,WG N m⟩=some b/\(b=true↔∀ c:Int,0<=c->c < m.ZL->Rch m c):=by
 have C:=n.s0
 have D:=n.s1
 have b0:=n.b0
 have b1:=n.b1
 have ⟨S,r⟩:=Ze (show 0<=m.ZL by omega)
 have ⟨c,o⟩:=Ze b0
 unfold PE
 have e:Xs false m.ZL m.ZL=some (List.replicate S false):=by
  unfold Xs
  rw [dT (by omega:0<=m.ZL),dT (by omega:m.ZL<=m.ZL),dT (by omega:m.ZL<=4294967296),r];rfl
 have d:c < S:=by omega
 have x:(List.replicate S false)[c]? = some false:=by rw [List.getElem?_replicate,if_pos d]
 show ∃ b,((Xs false m.ZL m.ZL).bind fun p=>(Z5 p m.ZM).bind fun A=>Ui N ⟨m,WG N m⟩ N (YA p m.ZM true) [m.ZM] 0)=some b/\_
 rw [e]
 simp only [bS]
 rw [o,Yb,x,XE]
 simp only [bS]
 have y:=List.count_set (a:=true) (b:=false) (l:=List.replicate S false) (i:=c) (by simpa using d)
 have z:InvB m S ((List.replicate S false).set c true) [(c:Int)] 0:=by
  refine ⟨⟨by simp,fun i hi=>by rw [List.mem_singleton.1 hi];omega,?_⟩,by simp,fun k q=>?_,fun i hi=>by rw [List.mem_singleton.1 hi,<- o];exact .start,by rw [o];exact List.mem_singleton.2 rfl,fun i v h=>by omega⟩
  ·simp at y
   simp
   omega
  ·rw [List.getElem?_set,List.mem_singleton]
   by_cases e:c=k
   ·subst e;simp [d]
   ·rw [if_neg e,List.getElem?_replicate,if_pos q]
    constructor
    ·intro h;cases h
    ·intro h;omega
 have ⟨b,eb,w⟩:=ZqG s n S r S N 0 _ _ z (Nat.zero_le _) rfl (by omega)
 refine ⟨b,eb,w.trans ⟨fun h k u B=>?_,fun h k q=>h k (by omega) (by omega)⟩⟩
 obtain ⟨j,rfl⟩:=Ze u
 exact h j (by omega)
end
section
variable {N:Nat}
theorem Zog (s:4194304 < N) (l:List Int) (u:l.length<=4194304) (v:Int):∃ b,G9 N l v=some b/\(b=true↔v∈l):=by
  have key:=RM (F:=fun n k=>(TZ l v n k).map (!·)) (len:=l.length) (lo:=0) (e:=some true) (fun k=>l[k]? ≠ some v) (fun n k _ a=>?_) (fun n k a=>?_) _ N 0 (Zp _) rfl (by omega)
  · unfold G9
    rcases key with ⟨e,j,_,w,o⟩ | ⟨e,p⟩
    · have ⟨b,eb,d⟩:=Option.map_eq_some_iff.1 e
      refine ⟨b,eb,?_⟩
      have:b=true:=by cases b<;>simp at d ⊢
      rw [this]
      simp only [true_iff]
      exact Zb (Classical.not_not.1 o)
    · have ⟨b,eb,d⟩:=Option.map_eq_some_iff.1 e
      refine ⟨b,eb,?_⟩
      have:b=false:=by cases b<;>simp at d ⊢
      rw [this]
      simp only [Bool.false_eq_true,false_iff]
      intro q
      have ⟨i,hi⟩:=List.getElem?_of_mem q
      exact p i (Nat.zero_le _) (List.getElem?_eq_some_iff.1 hi).1 hi
  · have r:=Za a
    show ((TZ l v (n+1) (k:Int)).map (!·)=_/\_)\/((TZ l v (n+1) (k:Int)).map (!·)=(TZ l v n ((k+1:Nat):Int)).map (!·)/\_)
    rw [TZ,Yo a,Yb,r,Ye (by omega)]
    simp only [cT,bS]
    by_cases h:l[k]=v
    · have e:(l[k]==v)=true:=by simp [h]
      rw [e]
      exact .inl ⟨rfl,fun c=>c (by rw [h])⟩
    · have e:(l[k]==v)=false:=by simp [h]
      rw [e]
      exact .inr ⟨rfl,fun c=>h (Zl c)⟩
  · show (TZ l v (n+1) (k:Int)).map (!·)=_
    rw [TZ,Yp a];rfl
end
section
variable {N:Nat}
def V2 (v:Int):Bool->List Int->List Int
 | true,l=>l
 | false,[]=>[v]
 | false,x::r=>bif decide (x>=v) then (bif decide (x > v) then v::x::r else x::r) else x::V2 v false r
theorem ZaK (v:Int) (l:List Int):V2 v true l=l:=by cases l<;>rfl
theorem Ztb (l:List Int) (w:l.length<=4194304) (v:Int):∀ (r:List Int) (n k:Nat) (a:List Int) (p:Bool),l.drop k=r->r.length < n->a.length+r.length+(bif p then 0 else 1)<=4194306 ->
    SJ l v n a p (k:Int)=some (a++V2 v p r):=by
  intro r
  induction r with
  | nil =>
    intro n k a p d e c
    obtain ⟨n,rfl⟩:=pS n (by simp at e;omega)
    rw [SJ,Yp (List.drop_eq_nil_iff.1 d)]
    unfold Zbe
    cases p with
    | true=>simp [V2]
    | false =>
      simp only [cond_false,Bool.not_false,cT]
      rw [Y8 (xs:=a) (ys:=[v]) (by simp at c ⊢;omega)]
      rfl
  | cons x r i =>
    intro n k a p d e c
    obtain ⟨n,rfl⟩:=pS n (by simp at e;omega)
    have q:k < l.length:=by
      refine Nat.not_le.1 fun h=>?_
      rw [List.drop_eq_nil_iff.2 h] at d;cases d
    have s:l[k]? = some x:=by
      have:=congrArg (·[0]?) d
      simpa using this
    have b:l.drop (k+1)=r:=by have:=congrArg (List.drop 1) d;simpa [List.drop_drop,Nat.add_comm] using this
    simp only [Zg] at e c
    have u:a.length+r.length<=4194306:=by omega
    rw [SJ,Yo q,Yb,s,Ye (by omega)]
    simp only [cT,bS]
    cases p with
    | true =>
      rw [Y8 (xs:=a) (ys:=[x]) (by simp;omega)]
      simp only [Zh,cond_false,bS]
      rw [i n (k+1) (a++[x]) true b (by omega) (by simp at c ⊢;omega),ZaK,ZaK]
      simp
    | false =>
      simp only [Bool.not_false,cT]
      cases j:decide (x>=v) with
      | false =>
        rw [Y8 (xs:=a) (ys:=[x]) (by simp;omega)]
        simp only [cond_false,bS]
        rw [i n (k+1) (a++[x]) false b (by omega) (by simp at c ⊢;omega)]
        show _=some (a++(bif decide (x>=v) then _ else x::V2 v false r))
        rw [j];simp
      | true =>
        cases o:decide (x > v) with
        | true =>
          simp only [cT]
          rw [Y8 (xs:=a) (ys:=[v]) (by simp;omega)]
          simp only [bS]
          rw [Y8 (xs:=a++[v]) (ys:=[x]) (by simp;omega)]
          simp only [bS]
          rw [i n (k+1) (a++[v]++[x]) true b (by omega) (by simp at c ⊢;omega),ZaK]
          show _=some (a++(bif decide (x>=v) then (bif decide (x > v) then v::x::r else x::r) else _))
          rw [j,o];simp
        | false =>
          simp only [cT,cond_false]
          rw [Y8 (xs:=a) (ys:=[x]) (by simp;omega)]
          simp only [bS]
          rw [i n (k+1) (a++[x]) true b (by omega) (by simp at c ⊢;omega),ZaK]
          show _=some (a++(bif decide (x>=v) then (bif decide (x > v) then v::x::r else x::r) else _))
          rw [j,o];simp
theorem Zta (a:4194304 < N) (l:List Int) (b:l.length<=4194000) (v:Int):Da N l v=some (V2 v false l):=by
 have:=Ztb l (by omega) v l N 0 [] false rfl (by omega) (by simp;omega)
 unfold Da
 rw [show ((0:Nat):Int)=0 from rfl] at this
 rw [this];rfl
theorem Pg (v a:Int):∀ l:List Int,a∈V2 v false l↔a=v\/a∈l
 | []=>by simp [V2]
 | x::r=>by
  show a∈(bif decide (x>=v) then (bif decide (x > v) then v::x::r else x::r) else x::V2 v false r)↔_
  by_cases b:x>=v
  ·rw [dT b]
   by_cases c:x > v
   ·rw [dT c];simp
   ·rw [dF c]
    have:x=v:=by omega
    subst this;simp
  ·rw [dF b]
   show a∈x::V2 v false r↔_
   rw [List.mem_cons,Pg v a r,List.mem_cons]
   constructor
   ·rintro (h | h | h)
    ·exact .inr (.inl h)
    ·exact .inl h
    ·exact .inr (.inr h)
   ·rintro (h | h | h)
    ·exact .inr (.inl h)
    ·exact .inl h
    ·exact .inr (.inr h)
theorem Zkh (v:Int):∀ l:List Int,l.Pairwise (· < ·)->(V2 v false l).Pairwise (· < ·)
  | [],_=>by simp [V2]
  | x::r,h=>by
    have ⟨c,j⟩:=List.pairwise_cons.1 h
    show ((bif decide (x>=v) then (bif decide (x > v) then v::x::r else x::r) else x::V2 v false r)).Pairwise (· < ·)
    by_cases d:x>=v
    · rw [dT d]
      by_cases i:x > v
      · rw [dT i]
        refine List.pairwise_cons.2 ⟨fun a b=>?_,h⟩
        rcases List.mem_cons.1 b with e | e
        · omega
        · have:=c a e;omega
      · rw [dF i];exact h
    · rw [dF d]
      refine List.pairwise_cons.2 ⟨fun a b=>?_,Zkh v r j⟩
      rcases (Pg v a r).1 b with e | e
      · omega
      · exact c a e
end
section
variable {N:Nat} {m:T8}
theorem Rch.lim (a:Wv m) {i:Int} (h:Rch m i):0<=i/\i < m.ZL:=by
 cases h with
 | start=>exact ⟨a.b0,a.b1⟩
 | step b _=>exact (a.mv _ (Zb b)).2.1
theorem ZdW {l:List Int} (h:l.Pairwise (· < ·)):l.Nodup:=List.Pairwise.imp (fun {a b} (h:a < b)=>show a≠b by omega) h
def UD (q:List Int) (x:T9):List Int:=if x.ZC∈q then V2 x.To false q else q
def UM (l:List T9) (q:List Int):List Int:=l.foldl UD q
structure UpR (m:T8) (q:List Int):Prop where
  up:q.Pairwise (· < ·)
  rch:∀ i∈q,Rch m i
  st:m.ZM∈q
theorem UpR.len (b:Wv m) {S:Nat} (e:m.ZL=(S:Int)) {q:List Int} (h:UpR m q):q.length<=S:=by
 have:=MS q ((List.range S).map fun k:Nat=>(k:Int)) (ZdW h.up) (fun a d=>by
  have ⟨a0,a1⟩:=(h.rch a d).lim b
  obtain ⟨c,rfl⟩:=Ze a0
  exact List.mem_map.2 ⟨c,List.mem_range.2 (by omega),rfl⟩)
 simpa using this
theorem UpR.add {q:List Int} (h:UpR m q) {x:T9} (b:x∈m.ZU):UpR m (UD q x):=by
 unfold UD
 by_cases a:x.ZC∈q
 ·rw [if_pos a]
  refine ⟨Zkh _ _ h.up,fun i hi=>?_,(Pg _ _ _).2 (.inr h.st)⟩
  rcases (Pg _ _ _).1 hi with e | e
  ·have ⟨k,c⟩:=List.getElem?_of_mem b
   rw [e];exact .step c (h.rch _ a)
  ·exact h.rch i e
 ·rw [if_neg a];exact h
theorem ZcJ {q:List Int} {x:T9} {a:Int} (h:a∈q):a∈UD q x:=by
 unfold UD
 split
 ·exact (Pg _ _ _).2 (.inr h)
 ·exact h
theorem Zei:∀ (l:List T9) {q:List Int} {a:Int},a∈q->a∈UM l q
 | [],_,_,h=>h
 | x::l,_,_,h=>Zei l (ZcJ h)
theorem UpR.rnd:∀ (l:List T9),(∀ x∈l,x∈m.ZU)->∀ {q:List Int},UpR m q->UpR m (UM l q)
 | [],_,_,h=>h
 | x::l,hl,_,h=>UpR.rnd l (fun y a=>hl y (Zj _ a)) (h.add (hl x (Zk ..)))
theorem ZjQ:∀ (l:List T9) {q:List Int} {x:T9},x∈l->x.ZC∈q->x.To∈UM l q
 | y::l,q,x,hx,hf=>by
  rcases List.mem_cons.1 hx with e | e
  ·subst e
   refine Zei l ?_
   unfold UD
   rw [if_pos hf]
   exact (Pg _ _ _).2 (.inl rfl)
  ·exact ZjQ l e (ZcJ hf)
def ClR (m:T8) (q:List Int):Prop:=∀ x∈m.ZU,x.ZC∈q->x.To∈q
theorem ZrL (k:Wv m) {q:List Int} (h:UpR m q):ClR m q\/q.length+1<=(UM m.ZU q).length:=by
 by_cases l:(UM m.ZU q).length<=q.length
 ·refine .inl fun x b c=>?_
  have j:=ZjQ m.ZU b c
  refine Classical.byContradiction fun d=>?_
  have:=MS (x.To::q) (UM m.ZU q) (List.nodup_cons.2 ⟨d,ZdW h.up⟩) (fun a i=>by
   rcases List.mem_cons.1 i with e | e
   ·rw [e];exact j
   ·exact Zei _ e)
  simp at this;omega
 ·exact .inr (by omega)
theorem Zl7 {q:List Int} (d:ClR m q) {x:T9} (h:x∈m.ZU):∀ a,a∈UD q x->a∈q:=fun a b=>by
 unfold UD at b
 by_cases c:x.ZC∈q
 ·rw [if_pos c] at b
  rcases (Pg _ _ _).1 b with e | e
  ·rw [e];exact d x h c
  ·exact e
 ·rw [if_neg c] at b;exact b
theorem ClR.same {q r:List Int} (b:ClR m q) (c:∀ a,a∈q->a∈r) (d:∀ a,a∈r->a∈q):ClR m r:=fun x e h=>c _ (b x e (d _ h))
theorem ClR.rnd:∀ (l:List T9),(∀ x∈l,x∈m.ZU)->∀ {q:List Int},ClR m q->ClR m (UM l q)
 | [],_,_,h=>h
 | x::l,hl,q,h=>ClR.rnd l (fun y a=>hl y (Zj _ a)) (h.same (fun _ b=>ZcJ b) (Zl7 h (hl x (Zk ..))))
def UN (m:T8):Nat->List Int->List Int
 | 0,q=>q
 | n+1,q=>UN m n (UM m.ZU q)
theorem ZjR (d:Wv m):∀ (n:Nat) (q:List Int),UpR m q->UpR m (UN m n q)/\(ClR m (UN m n q)\/q.length+n<=(UN m n q).length)/\(ClR m q->ClR m (UN m n q))
 | 0,q,h=>⟨h,.inr (Zp _),id⟩
 | n+1,q,h=>by
  have j:=UpR.rnd m.ZU (fun _ h=>h) h
  have ⟨a,b,c⟩:=ZjR d n (UM m.ZU q) j
  refine ⟨a,?_,fun i=>c (i.rnd m.ZU (fun _ h=>h))⟩
  rcases ZrL d h with e | e
  ·exact .inl (c (e.rnd m.ZU (fun _ h=>h)))
  ·rcases b with b | b
   ·exact .inl b
   ·refine .inr ?_
    show q.length+(n+1)<=(UN m n (UM m.ZU q)).length
    omega
theorem ZrM (d:Wv m) {S:Nat} (q:m.ZL=(S:Int)):(((UN m S [m.ZM]).length:Int)==m.ZL)=true↔∀ c:Int,0<=c->c < m.ZL->Rch m c:=by
  have s:UpR m [m.ZM]:=⟨by simp,fun i hi=>by rw [List.mem_singleton.1 hi];exact .start,by simp⟩
  have ⟨a,b,_⟩:=ZjR d S [m.ZM] s
  have A:=a.len d q
  have u:ClR m (UN m S [m.ZM]):=by
    rcases b with b | b
    · exact b
    · simp at b;omega
  have o:∀ i,Rch m i->i∈UN m S [m.ZM]:=fun i h=>by
    induction h with
    | start=>exact a.st
    | step w _ x=>exact u _ (Zb w) x
  rw [beq_iff_eq,q]
  constructor
  · intro h c y z
    refine Classical.byContradiction fun r=>?_
    have p:c ∉ UN m S [m.ZM]:=fun j=>r (a.rch c j)
    have:=MS (c::UN m S [m.ZM]) ((List.range S).map fun k:Nat=>(k:Int)) (List.nodup_cons.2 ⟨p,ZdW a.up⟩) (fun b l=>by
      have:0<=b/\b < (S:Int):=by
        rcases List.mem_cons.1 l with e | e
        · omega
        · have:=(a.rch b e).lim d;omega
      obtain ⟨k,rfl⟩:=Ze this.1
      exact List.mem_map.2 ⟨k,List.mem_range.2 (by omega),rfl⟩)
    simp at this;omega
  · intro h
    have v:=MS ((List.range S).map fun k:Nat=>(k:Int)) (UN m S [m.ZM]) (List.Pairwise.map (S:=(·≠·)) (fun k:Nat=>(k:Int)) (fun (a b:Nat) (h:a≠b)=>show (a:Int)≠(b:Int) by omega) List.nodup_range) (fun b l=>by
      obtain ⟨c,n,rfl⟩:=List.mem_map.1 l
      exact o _ (h c (by omega) (by have:=List.mem_range.1 n;omega)))
    simp at v
    omega
theorem ZrT (p:4194304 < N) (j:Wv m) {S:Nat} (w:m.ZL=(S:Int)) (i:Int) (ag:List Int->Int->Option (List Int)):∀ (r:List T9) (n k:Nat) (q:List Int),m.ZU.drop k=r->r.length < n->UpR m q ->
  Qe N m i ag n q (k:Int)=ag (UM r q) (Z1 (i+1)):=by
 intro r
 induction r with
 | nil =>
  intro n k q l c d
  obtain ⟨n,rfl⟩:=pS n (by simp at c;omega)
  rw [Qe,Yp (List.drop_eq_nil_iff.1 l)];rfl
 | cons x r v =>
  intro n k q l c d
  obtain ⟨n,rfl⟩:=pS n (by simp at c;omega)
  have ⟨y,s,a⟩:=Xp l
  have z:=j.n
  have A:=j.s1
  have B:=d.len j w
  have ⟨b,eb,u⟩:=Zog p q (by omega) x.ZC
  have o:=Zb s
  rw [Qe,Yo y,Yb,s,Ye (by omega)]
  simp only [cT,bS]
  rw [eb]
  simp only [Zg] at c
  show _=ag (UM r (UD q x)) _
  cases b with
  | true =>
   have e:UD q x=V2 x.To false q:=by unfold UD;rw [if_pos (u.1 rfl)]
   simp only [bS,cT]
   rw [Zta p q (by omega) x.To,e]
   exact v n (k+1) (V2 x.To false q) a (by omega) (e ▸ d.add o)
  | false =>
   have e:UD q x=q:=by unfold UD;rw [if_neg (fun h=>by have:=u.2 h;cases this)]
   rw [e]
   exact v n (k+1) q a (by omega) d
theorem ZrU (i:4194304 < N) (a:Wv m) {S:Nat} (k:m.ZL=(S:Int)):∀ (d n j:Nat) (q:List Int),S-j=d->d < n->UpR m q->SA N m n q (j:Int)=some (UN m (S-j) q):=by
 intro d
 have o:=a.s1
 have p:=a.n
 induction d with
 | zero =>
  intro n j q b l c
  obtain ⟨n,rfl⟩:=pS n (by omega)
  have e:decide ((j:Int) < m.ZL)=false:=by simp;omega
  rw [SA,e,b];rfl
 | succ d r =>
  intro n j q b l c
  obtain ⟨n,rfl⟩:=pS n (by omega)
  have e:decide ((j:Int) < m.ZL)=true:=by simp;omega
  rw [SA,e,cT,b]
  have:=ZrT i a k (j:Int) (SA N m n) m.ZU N 0 q rfl (by omega) c
  rw [show ((0:Nat):Int)=0 from rfl] at this
  rw [this,Ye (by omega),r n (j+1) (UM m.ZU q) (by omega) (by omega) (UpR.rnd m.ZU (fun _ h=>h) c)]
  rw [show S-(j+1)=d by omega];rfl
theorem Zrt (d:4194304 < N) (a:Wv m):∃ q,z109 N m=some q/\(((q.length:Int)==m.ZL)=true↔∀ c:Int,0<=c->c < m.ZL->Rch m c):=by
 have h:=a.s0
 have j:=a.s1
 have ⟨S,b⟩:=Ze (show 0<=m.ZL by omega)
 have e:UpR m [m.ZM]:=⟨by simp,fun i hi=>by rw [List.mem_singleton.1 hi];exact .start,by simp⟩
 have:=ZrU d a b S N 0 [m.ZM] rfl (by omega) e
 exact ⟨_,this,ZrM a b⟩
end
section
variable {N:Nat} {m:T8}
structure QU (m:T8):Prop where
 n:Wv m
 ap:QW m=true
 tm:Yw (TQ m) m.ZP 0=true
 rc:∀ c:Int,0<=c->c < m.ZL->Rch m c
theorem ZiM (a:4194304 < N) (m:T8) (i:m.ZP.length<=4194304):∃ b,RJ N m=some b/\z46 N m=some b/\(b=true->QU m):=by
 unfold RJ z53 z46
 rw [ZdQ a,Zrp a]
 simp only [bS]
 cases c:R5 m with
 | false=>exact ⟨false,rfl,rfl,fun h=>by cases h⟩
 | true =>
  have c:=(ZdX m).1 c
  rw [ZdR a m c]
  have ⟨j,k,o,p,l⟩:=ZgL a c
  have ⟨e,r,n⟩:=ZjA a c
  have ⟨q,s,u⟩:=Zrt a c
  have v:=Zky (t:=⟨m,WG N m⟩) a rfl i
  rw [Zrf a c,Zrx a m i,s]
  have w:((q.length:Int)==m.ZL)=e:=by
   rw [Bool.eq_iff_iff];exact u.trans n.symm
  simp only [Zh,cond_false,bS,o,p,r,v]
  rw [w,<- l]
  have d:(j && k)=true->e=true->Yw (TQ m) m.ZP 0=true->QU m:=fun x y z=>⟨c,by rw [<- l];exact x,z,n.1 y⟩
  revert d
  generalize Yw (TQ m) m.ZP 0=A
  intro d
  cases j<;>cases k<;>cases e<;>cases A<;>first | exact ⟨_,rfl,rfl,fun _=>d rfl rfl rfl⟩ | exact ⟨_,rfl,rfl,fun h=>by cases h⟩
end
section
variable {N:Nat}
theorem ZgO {a b:ByteArray} (h:a.toList=b.toList):a=b:=by
 rw [W9,W9] at h
 unfold bs at h
 cases a;cases b
 rename_i x y
 have:x=y:=Array.ext' h
 rw [this]
theorem ZsE (a b:ByteArray):∃ z,PY N a b=some z/\(z=0↔a=b):=by
 unfold PY z232
 have e:∀ x:ByteArray,(!(x.toList==x.toList))=false:=fun x=>by simp
 simp only [bS,e,cond_false]
 cases c:Op.bytesLess a.toList b.toList with
 | true=>exact ⟨_,rfl,(fun h=>absurd h (by decide)),fun h=>by subst h;rw [show Op.bytesLess a.toList a.toList=false from ZiF a] at c;cases c⟩
 | false =>
  cases d:(a.toList==b.toList) with
  | true=>exact ⟨_,rfl,fun _=>ZgO (eq_of_beq d),fun _=>rfl⟩
  | false=>exact ⟨_,rfl,(fun h=>absurd h (by decide)),fun h=>by subst h;simp at d⟩
theorem Zqm (y:4194304 < N) (a b c d:Int):∃ z,SN N [a,b,c,d]=some z/\(z=0↔a=0/\b=0/\c=0/\d=0):=by
 obtain ⟨n,rfl⟩:∃ n,N=n+5:=⟨N-5,by omega⟩
 unfold SN
 rw [VN,VN,VN,VN,VN]
 have w0:Z1 ((0:Int)+1)=1:=by decide
 have p:Z1 ((1:Int)+1)=2:=by decide
 have w2:Z1 ((2:Int)+1)=3:=by decide
 have q:Z1 ((3:Int)+1)=4:=by decide
 rw [w0,p,w2,q]
 have i0:Z5 [a,b,c,d] 0=some a:=rfl
 have r:Z5 [a,b,c,d] 1=some b:=rfl
 have i2:Z5 [a,b,c,d] 2=some c:=rfl
 have i3:Z5 [a,b,c,d] 3=some d:=rfl
 rw [i0,r,i2,i3]
 have l0:decide ((0:Int) < (([a,b,c,d]:List Int).length:Int))=true:=rfl
 have s:decide ((1:Int) < (([a,b,c,d]:List Int).length:Int))=true:=rfl
 have u:decide ((2:Int) < (([a,b,c,d]:List Int).length:Int))=true:=rfl
 have v:decide ((3:Int) < (([a,b,c,d]:List Int).length:Int))=true:=rfl
 have w:decide ((4:Int) < (([a,b,c,d]:List Int).length:Int))=false:=rfl
 rw [l0,s,u,v,w]
 simp only [cT,cond_false,bS]
 have e:∀ x:Int,(x != 0)=true->x≠0:=fun x h=>by simpa using h
 have i:∀ x:Int,(x != 0)=false->x=0:=fun x h=>by simpa using h
 cases j:(a != 0)
 ·cases k:(b != 0)
  ·cases l:(c != 0)
   ·cases o:(d != 0)
    ·exact ⟨0,rfl,fun _=>⟨i _ j,i _ k,i _ l,i _ o⟩,fun _=>rfl⟩
    ·exact ⟨d,rfl,fun h=>absurd h (e _ o),fun h=>h.2.2.2⟩
   ·exact ⟨c,rfl,fun h=>absurd h (e _ l),fun h=>h.2.2.1⟩
  ·exact ⟨b,rfl,fun h=>absurd h (e _ k),fun h=>h.2.1⟩
 ·exact ⟨a,rfl,fun h=>absurd h (e _ j),fun h=>h.1⟩
theorem ZcR (x y:Int):cI x y=0↔x=y:=by
 rcases MB x y with ⟨h,e⟩ | ⟨h,e⟩ | ⟨h,e⟩<;>rw [e]<;>omega
theorem ZkE {a b:T12} (c:a.Zt=b.Zt) (d:a.N=b.N) (e:a.S=b.S):a=b:=by
 cases a;cases b;simp_all
theorem Zeo (c:4194304 < N) (a b:T12):∃ z,UA N a b=some z/\(z=true↔a=b):=by
 unfold UA LF
 have ⟨s,es,d⟩:=ZsE (N:=N) a.S b.S
 rw [RQ,RQ,RQ,es]
 simp only [bS]
 have ⟨z,e,i⟩:=Zqm c (cI a.Zt b.Zt) (cI a.N b.N) (cI (a.S.size:Int) (b.S.size:Int)) s
 rw [e]
 refine ⟨_,rfl,?_⟩
 rw [beq_iff_eq,i,ZcR,ZcR,ZcR,d]
 exact ⟨fun h=>ZkE h.1 h.2.1 h.2.2.2,fun h=>by subst h;exact ⟨rfl,rfl,rfl,rfl⟩⟩
theorem ZiH {A:Type} {a b:List A} (h:a.length=b.length):(∀ (i:Nat) x y,a[i]? = some x->b[i]? = some y->x=y)↔a=b:=by
 constructor
 ·intro k
  refine List.ext_getElem? fun i=>?_
  by_cases hi:i < a.length
  ·have d:=Za hi
   have j:=Za (show i < b.length by omega)
   rw [d,j,k i _ _ d j]
  ·rw [List.getElem?_eq_none (by omega),List.getElem?_eq_none (by omega)]
 ·intro e i x y l c
  subst e
  rw [l] at c;cases c;rfl
theorem Zr4 (l:4194304 < N) (a b:List T12) (w:a.length<=4194304):∃ z,QO N a b=some z/\(z=true↔a=b):=by
 unfold QO GV
 rw [MR]
 by_cases h:a.length=b.length
 ·rw [dT h]
  let p:T12->T12->Bool:=fun x y=>(UA N x y).getD false
  have ⟨z,u,v⟩:=MK p (xs:=a) (ys:=b) (F:=SG N a b) (n:=N) h (by omega) (fun n k x y o d j=>by
   rw [SG,Yo o,Yb,d,Yb,j,Ye (by omega)]
   have ⟨q,c,_⟩:=Zeo l x y
   have e:p x y=q:=by show (UA N x y).getD false=q;rw [c];rfl
   simp only [cT,bS,c,e]
   cases q<;>rfl) (fun n k o=>by
   rw [SG,Yp o];rfl)
  simp only [Zh,cond_false,u,bS]
  refine ⟨z,rfl,v.trans (Iff.trans ⟨fun r i x y d j=>?_,fun r i x y d j=>?_⟩ (ZiH h))⟩
  ·have ⟨q,c,s⟩:=Zeo l x y
   have:=r i x y d j
   have e:p x y=q:=by show (UA N x y).getD false=q;rw [c];rfl
   rw [e] at this
   exact s.1 this
  ·have ⟨q,c,s⟩:=Zeo l x y
   show (UA N x y).getD false=true
   rw [c,s.2 (r i x y d j)];rfl
 ·rw [dF h]
  exact ⟨false,rfl,by simp;exact fun e=>h (congrArg List.length e)⟩
theorem Zrw (s:4194304 < N) (a b:List T12) (u:a.length<=4194304):∃ z,Qp N a b=some z/\(z=true↔a=b):=by
 unfold Qp
 rw [MR]
 by_cases h:a.length=b.length
 ·rw [dT h]
  let p:T12->T12->Bool:=fun x y=>(x.Zt==y.Zt) && ((x.N==y.N) && ((x.S.toList==y.S.toList) && true))
  have o:∀ x y,p x y=true↔x=y:=fun x y=>by
   show ((x.Zt==y.Zt) && ((x.N==y.N) && ((x.S.toList==y.S.toList) && true)))=true↔_
   simp only [Zc,beq_iff_eq,and_true]
   exact ⟨fun h=>ZkE h.1 h.2.1 (ZgO h.2.2),fun h=>by subst h;exact ⟨rfl,rfl,rfl⟩⟩
  have ⟨z,q,r⟩:=MK p (xs:=a) (ys:=b) (F:=PO a b) (n:=N) h (by omega) (fun n k x y j c d=>by
   rw [PO,Yo j,Yb,c,Yb,d,Ye (by omega)]
   simp only [cT,bS]
   show (bif !(p x y) then _ else _)=_
   cases p x y<;>rfl) (fun n k j=>by
   rw [PO,Yp j];rfl)
  simp only [Zh,cond_false,q]
  exact ⟨z,rfl,r.trans (Iff.trans ⟨fun l i x y c d=>(o x y).1 (l i x y c d),fun l i x y c d=>(o x y).2 (l i x y c d)⟩ (ZiH h))⟩
 ·rw [dF h]
  exact ⟨false,rfl,by simp;exact fun e=>h (congrArg List.length e)⟩
theorem Zr3 (c:4194304 < N) (a b:List T12) (d:a.length<=4194304):∃ z,QO N a b=some z/\Qp N a b=some z/\(z=true↔a=b):=by
 have ⟨z,h,e⟩:=Zr4 c a b d
 have ⟨y,i,j⟩:=Zrw c a b d
 have:z=y:=by rw [Bool.eq_iff_iff];exact e.trans j.symm
 subst this
 exact ⟨z,h,i,e⟩
end
section
variable {N:Nat}
theorem Zqt (o:4194304 < N) (s:ByteArray) (c:s.size<=4194304):DF N s=some (!(bs s).any Xh):=by
 have key:=Xt (fun (b:UInt8) _ => !Xh b) (xs:=bs s) (F:=Qx s) (e:=some true) (n:=N) (by rw [XH] at c;omega) (by
  intro n k b a d
  rw [Qx,XH,Yo a,Pq,d,Ye (by rw [XH] at c;omega)]
  simp only [cT,Option.map_some,bS]
  have i:decide (((b.toNat:Nat):Int) < 32)=decide (b.toNat < 32):=by by_cases h:b.toNat < 32<;>simp [h]<;>omega
  have j:decide (((b.toNat:Nat):Int) > 126)=decide (126 < b.toNat):=by by_cases h:126 < b.toNat<;>simp [h]<;>omega
  rw [i,j]
  unfold Xh
  cases decide (b.toNat < 32)<;>cases decide (126 < b.toNat)<;>rfl) (by
  intro n k a
  rw [Qx,XH,Yp a];rfl)
 unfold DF
 have l:Qx s N 0=_:=key
 rw [l]
 have:Yw (fun (b:UInt8) _ => !Xh b) (bs s) 0 = !(bs s).any Xh:=Bc Xh (bs s) 0
 rw [this]
 cases (bs s).any Xh<;>rfl
theorem tri (a b c:Bool):(bif a then (bif b then some c else some false) else some false)=some (a && (b && c)):=by cases a<;>cases b<;>rfl
theorem Zsj (s:YV):Dv N s=some (R9 s):=by
 unfold Dv R9
 rw [tri,tri]
 cases (s.Zt==1)<;>cases (s.Zt==2)<;>rfl
theorem ZsZ (a:4194304 < N) (v:T12) (b:v.S.size<=4194304):Dw N v=some (Rs v):=by
 unfold Dw Rs
 rw [Zqt a _ b]
 simp only [bS]
 rw [tri,tri]
 cases (v.Zt==1)<;>cases (v.Zt==2)<;>rfl
theorem Zqa (v:T12):LY N v=some (Rr v):=by
 unfold LY Rr
 cases (v.Zt==1)<;>cases (v.Zt==2)<;>rfl
theorem Zn1 (a:4194304 < N) (s:YV) (v:T12) (b:v.S.size<=4194304):z171 N s v=some (VK s v):=by
 unfold z171 VK
 rw [Zsj,ZsZ a v b,Zqa]
 simp only [bS]
 cases R9 s<;>cases Rs v<;>cases (s.Zt==v.Zt)<;>cases decide (Rr v>=s.Lo)<;>rfl
theorem Zn2 (i:4194304 < N) (fs:List T4) (vs:List T12) (l:vs.length<=4194304) (j:∀ v∈vs,v.S.size<=4194304):∃ b,Hp N fs vs=some b/\GA N fs vs=some b/\(b=true↔S8 fs vs):=by
 have ⟨b,e,d⟩:=Zh4 i fs vs l j
 refine ⟨b,e,?_,d⟩
 unfold GA
 rw [MR]
 by_cases h:fs.length=vs.length
 ·rw [dT h]
  have ⟨q,p,r⟩:=MK (fun (f:T4) (v:T12)=>VK f.Zv v) (xs:=fs) (ys:=vs) (F:=PC N fs vs) (n:=N) h (by omega) (fun n k f v c o a=>by
   rw [PC,Yo c,Yb,o,Yb,a,Ye (by omega)]
   simp only [cT,bS,Zn1 i _ _ (j v (Zb a))]
   cases VK f.Zv v<;>rfl) (fun n k c=>by
   rw [PC,Yp c];rfl)
  simp only [Zh,cond_false]
  rw [p]
  have:q=b:=by
   rw [Bool.eq_iff_iff,d,r]
   exact ⟨fun g=>⟨h,g⟩,fun g=>g.2⟩
  rw [this]
 ·rw [dF h]
  have:b=false:=by
   cases b with
   | false=>rfl
   | true=>exact absurd (d.1 rfl).1 h
  rw [this];rfl
theorem ZaI {s:YV} (o:Xn s) (v:T12):VK s v=XW s v:=by
 unfold VK R9 Rs Rr XW Yz
 rcases o with ⟨k,h,i,j⟩ | ⟨k,h,i,j⟩
 ·rw [k]
  rw [dT h,dT i,dT j]
  by_cases c:v.Zt=1
  ·have a:(v.Zt==1)=true:=by simp [c]
   have l:(v.Zt==2)=false:=by simp [c]
   have b:((1:Int)==v.Zt)=true:=by simp [c]
   rw [a,l,b]
   simp only [cT,cond_false,Bool.true_and,beq_self_eq_true]
   by_cases n:s.Lo<=v.N
   ·by_cases d:v.N<=s.Hi
    ·rw [dT (show v.N>=-1000 by omega),dT (show v.N<=1000 by omega),dT (show v.N>=s.Lo from n),dT d]
     cases (v.S.toList==(str []).toList)<;>rfl
    ·rw [dF d];simp
   ·rw [dF n];simp
  ·have a:(v.Zt==1)=false:=by simp [c]
   have b:((1:Int)==v.Zt)=false:=by rw [beq_eq_false_iff_ne];exact fun e=>c e.symm
   rw [a,b];simp
 ·rw [k]
  have p:((2:Int)==1)=false:=rfl
  rw [p,dT h,dT i,dT j]
  by_cases c:v.Zt=2
  ·have a:(v.Zt==1)=false:=by simp [c]
   have l:(v.Zt==2)=true:=by simp [c]
   have b:((2:Int)==v.Zt)=true:=by simp [c]
   rw [a,l,b]
   simp only [cT,cond_false,Bool.true_and,beq_self_eq_true]
   by_cases d:(v.S.size:Int)<=s.Hi
   ·rw [dT (show (v.S.size:Int)<=40 by omega),dT d]
    have:decide ((v.S.size:Int)>=s.Lo)=decide (s.Lo<=(v.S.size:Int)):=rfl
    rw [this]
    cases (v.N==0)<;>cases (bs v.S).any Xh<;>cases decide (s.Lo<=(v.S.size:Int))<;>rfl
   ·rw [dF d];simp
  ·have a:(v.Zt==2)=false:=by simp [c]
   have b:((2:Int)==v.Zt)=false:=by rw [beq_eq_false_iff_ne];exact fun e=>c e.symm
   rw [a,b];simp
theorem Zav {d:List T0} (a:XA d=true) {x:T0} (b:x∈d) {f:T4} (c:f∈x.Zz):Xn f.Zv:=by
 have ⟨i,hi⟩:=List.mem_iff_getElem?.1 b
 have ⟨first,_,_,_,_,h⟩:=Pv a hi
 unfold WQ at h
 simp only [Zc] at h
 have h:=h.2.2.2.2.1
 rw [XC] at h
 have ⟨k,e⟩:=List.mem_iff_getElem?.1 c
 have:=h k f e
 unfold U5 at this
 simp only [Zc,decide_eq_true_eq] at this
 exact this.2.1
theorem Zke {d:List T0} (c:XA d=true) {f:T4} (b:f∈Yh d):Xn f.Zv:=by
 unfold Yh at b
 have ⟨l,e,a⟩:=List.mem_flatten.1 b
 obtain ⟨x,h,rfl⟩:=List.mem_map.1 e
 exact Zav c h a
theorem ZoK {d:List T0} (h:XA d=true) (j:List T12):Ud (Yh d) j=true↔RL (Yh d) j:=by
 unfold Ud RL
 rw [Zc,decide_eq_true_eq,XC]
 constructor
 ·rintro ⟨c,e⟩
  refine ⟨c,fun i f v b a=>?_⟩
  have:=e i v a
  rw [Nat.zero_add] at this
  unfold Wk at this
  rw [b] at this
  rw [ZaI (Zke h (Zb b))];exact this
 ·rintro ⟨c,e⟩
  refine ⟨c,fun i v a=>?_⟩
  have hi:=(List.getElem?_eq_some_iff.1 a).1
  have b:=Za (show i < (Yh d).length by omega)
  rw [Nat.zero_add]
  unfold Wk
  rw [b]
  have:=e i _ v b a
  rw [ZaI (Zke h (Zb b))] at this
  exact this
theorem ZnY {d:List T0} (h:XA d=true) {x:T0} (j:x∈d) (vs:List T12):XK x.Zz vs=true↔S8 x.Zz vs:=by
 unfold XK S8
 rw [Zc,decide_eq_true_eq,XC]
 constructor
 ·rintro ⟨c,e⟩
  refine ⟨c,fun i f v b a=>?_⟩
  have:=e i v a
  rw [Nat.zero_add] at this
  unfold Wk at this
  rw [b] at this
  rw [ZaI (Zav h j (Zb b))];exact this
 ·rintro ⟨c,e⟩
  refine ⟨c,fun i v a=>?_⟩
  have hi:=(List.getElem?_eq_some_iff.1 a).1
  have b:=Za (show i < x.Zz.length by omega)
  rw [Nat.zero_add]
  unfold Wk
  rw [b]
  have:=e i _ v b a
  rw [ZaI (Zav h j (Zb b))] at this
  exact this
end
section
variable {N:Nat}
theorem ZhV (e:4194304 < N) (d:List T0) (k:d.length<=1000) (i:∀ x∈d,XZ x) (j:∀ x∈d,TB x) (a:Int):Tu N d a=some (XA d && decide (0<=a/\a < (d.length:Int))):=by
 unfold Tu
 rw [ZjD e d (by omega) i j]
 simp only [bS]
 cases XA d with
 | false=>rfl
 | true =>
  by_cases b:a>=0
  ·rw [dT b]
   by_cases c:a < (d.length:Int)
   ·rw [dT c,dT (show 0<=a/\a < (d.length:Int) from ⟨b,c⟩)];rfl
   ·rw [dF c,dF (show ¬ (0<=a/\a < (d.length:Int)) from fun h=>c h.2)];rfl
  ·rw [dF b,dF (show ¬ (0<=a/\a < (d.length:Int)) from fun h=>b h.1)];rfl
theorem Zig (o:4194304 < N) (d:List T0) (A:d.length<=1000) (s:∀ x∈d,XZ x) (I:∀ x∈d,TB x) (a:Int) (vs b:List T12) (K:vs.length<=4194304) (B:b.length<=4194304) (C:D8 vs b) :
  z31 N d a vs b=some (WJ d a vs b)/\RI N d a vs b=DP N d a vs b:=by
 have e:Vj d a b=((XA d && decide (0<=a/\a < (d.length:Int))) && Ud (Yh d) b):=by
  unfold Vj
  cases XA d<;>cases decide (0<=a/\a < (d.length:Int))<;>rfl
 unfold DP z31
 rw [ZhV o d A s I]
 rcases ZdJ o d A s I a vs b K B C with ⟨r,h⟩ | ⟨r,i,x,first,w,hi,D,E,q⟩
 ·rw [h]
  have l:WJ d a vs b=false:=by unfold WJ;rw [r];rfl
  rw [l]
  rw [r] at e
  cases p:(XA d && decide (0<=a/\a < (d.length:Int))) with
  | false=>exact ⟨rfl,rfl⟩
  | true =>
   rw [p] at e
   have j:XA d=true:=by rw [Zc] at p;exact p.1
   simp only [bS,Zh,cond_false]
   rw [Zao o d A s j b B C.k]
   have:Ud (Yh d) b=false:=by simpa using e.symm
   rw [this]
   exact ⟨rfl,rfl⟩
 ·rw [r] at e
  have e:=e.symm
  rw [Zc] at e
  have ⟨p,u⟩:=e
  have j:XA d=true:=by rw [Zc] at p;exact p.1
  have n:Z5 d a=some x:=by rw [w,Yb];exact hi
  have z:x∈d:=Zb hi
  rw [p]
  simp only [bS,Zh,cond_false]
  rw [Zao o d A s j b B C.k,u,n]
  simp only [bS,Zh,cond_false]
  rw [Zrk o x (s x z) (fun f D=>Zkg j z D) vs K C.v]
  have F:x.ZA.toNat=first:=by omega
  rcases q with ⟨c,h⟩ | ⟨c,y,h⟩
  ·rw [h,c]
   have l:WJ d a vs b=false:=by unfold WJ;rw [r,n];simp only [c];rfl
   rw [l]
   exact ⟨rfl,rfl⟩
  ·rw [h,c]
   have l:WJ d a vs b=XT x.ZB (YF first vs b):=by unfold WJ;rw [r,n];simp only [c,F];rfl
   rw [l]
   simp only [bS,Zh,cond_false]
   rw [ZiE o x vs b first D y B]
   simp only [bS]
   have G:=Sk first vs b y
   have H:=ZdG u
   rw [Zix o x.ZB _ (by rw [G,<- H];exact Zdx (HI E))]
   exact ⟨rfl,trivial⟩
structure ZgA (g:T5) (m:T8):Prop where
 a:Mt g m
 mv:QU m
 gv:ZgH g
 r:m.ZS < (g.ZI.length:Int)
 p:∀ x∈m.ZU,x.ZR < (g.ZI.length:Int)
theorem Mw (o:4194304 < N) (g:T5) (r:VP g) (s:Uo g) (C:Ve g) (m:T8) (u:m.ZP.length<=4194304):∃ b,UR N g m=some b/\Qv N g m=some b/\(b=true->ZgA g m):=by
 have ⟨v,a,D⟩:=ZcK o g r s m u
 have p:=a
 unfold UR at a
 unfold Qv
 have ⟨E,G,H,I⟩:=ZcH o g r s C
 have ⟨K,L,M,O⟩:=ZiM o m u
 rw [G,L] at a
 rw [H,M]
 simp only [bS] at a ⊢
 refine ⟨v,p,?_⟩
 cases E with
 | false=>cases a;exact ⟨rfl,fun h=>by cases h⟩
 | true =>
 cases K with
 | false=>cases a;exact ⟨rfl,fun h=>by cases h⟩
 | true =>
 have A:=O rfl
 have S:=A.n.n
 simp only [cT,Zh,cond_false] at a ⊢
 by_cases c:m.ZS < (g.ZI.length:Int)
 ·rw [dT c] at a
  rw [dF (show ¬ m.ZS>=(g.ZI.length:Int) by omega)]
  simp only [cT,cond_false] at a ⊢
  unfold D2 DZ at a
  have T:∀ y,Mp N y g=some (decide (y.ZR>=(g.ZI.length:Int)) || decide (y.ZD>=(g.ZJ.length:Int))):=fun y=>by
   unfold Mp
   cases decide (y.ZR>=(g.ZI.length:Int))<;>rfl
  have ⟨z,w,l⟩:=Zdl (fun (y:T9)=>decide (y.ZR>=(g.ZI.length:Int)) || decide (y.ZD>=(g.ZJ.length:Int))) (xs:=m.ZU) (F:=S5 N m.ZU g) (fun n k x d j=>by
   rw [S5,Yo d,Yb,j,Ye (by omega)]
   simp only [cT,bS,T]) (fun n k d=>by
   rw [S5,Yp d];rfl) _ N 0 rfl (by omega)
  rw [show ((0:Nat):Int)=0 from rfl] at w
  rw [w] at a
  simp only [bS] at a
  have key:=Xt (fun (y:T9) _ => !(decide (y.ZR>=(g.ZI.length:Int)) || decide (y.ZD>=(g.ZJ.length:Int)))) (xs:=m.ZU) (F:=Qw g m) (e:=some true) (n:=N) (by omega) (fun n k x d j=>by
   rw [Qw,Yo d,Yb,j,Ye (by omega)]
   simp only [cT,bS]
   cases decide (x.ZR>=(g.ZI.length:Int))<;>cases decide (x.ZD>=(g.ZJ.length:Int))<;>rfl) (fun n k d=>by
   rw [Qw,Yp d];rfl)
  have U:Qw g m N 0=_:=key
  rw [U]
  rcases l with ⟨rfl,l⟩ | ⟨i,y,rfl,P,R⟩
  ·cases a
   have q:Yw (fun (y:T9) _ => !(decide (y.ZR>=(g.ZI.length:Int)) || decide (y.ZD>=(g.ZJ.length:Int)))) m.ZU 0=true:=by
    rw [XC]
    intro i x j
    rw [l i x (Nat.zero_le _) j];rfl
   rw [q]
   refine ⟨rfl,fun _=>⟨D rfl,A,I.1 rfl,c,fun x j=>?_⟩⟩
   have ⟨i,hi⟩:=List.getElem?_of_mem j
   have:=l i x (Nat.zero_le _) hi
   simp only [Bool.or_eq_false_iff,decide_eq_false_iff_not] at this
   omega
  ·have eb:v=false:=by
    have:=Zl a
    rw [<- this];simp
   subst eb
   have q:Yw (fun (y:T9) _ => !(decide (y.ZR>=(g.ZI.length:Int)) || decide (y.ZD>=(g.ZJ.length:Int)))) m.ZU 0=false:=by
    cases B:Yw (fun (y:T9) _ => !(decide (y.ZR>=(g.ZI.length:Int)) || decide (y.ZD>=(g.ZJ.length:Int)))) m.ZU 0 with
    | false=>rfl
    | true =>
     rw [XC] at B
     have:=B i y P
     rw [R] at this;cases this
   rw [q]
   exact ⟨rfl,fun h=>by cases h⟩
 ·rw [dF c] at a
  rw [dT (show m.ZS>=(g.ZI.length:Int) by omega)]
  cases a
  exact ⟨rfl,fun h=>by cases h⟩
structure StK (g:T5) (m:T8) (s:Yt):Prop where
 a0:0<=s.At
 a1:s.At < m.ZL
 k:RL (Yh g.ZJ) s.ZW
theorem Zn3 (d:4194304 < N) (g:T5) (o:VP g) (u:Uo g) (w:Ve g) (m:T8) (x:m.ZP.length<=4194304) (s:Yt) (p:s.ZW.length<=4194304) (r:∀ v∈s.ZW,v.S.size<=4194304) :
  ∃ b,UB N g m s=some b/\Qz N g m s=some b/\(b=true↔UR N g m=some true/\StK g m s):=by
 unfold UB Qz
 have ⟨b,e,f,h⟩:=Mw d g o u w m x
 rw [e,f]
 simp only [bS]
 cases b with
 | false=>exact ⟨false,rfl,rfl,(fun h=>by cases h),(fun h=>by cases h.1)⟩
 | true =>
 have z:=h rfl
 have c:=z.a.v
 have ⟨A,B⟩:=Le c
 rw [ZiQ d g c,Zao d g.ZJ (by omega) o.dd c s.ZW p r]
 have ⟨q,y,l⟩:=Ziy d (Yh g.ZJ) s.ZW p r
 have n:Ud (Yh g.ZJ) s.ZW=q:=by rw [Bool.eq_iff_iff,l,ZoK c]
 simp only [cT,bS,y,n]
 by_cases i:s.At>=0
 ·rw [dT i]
  by_cases j:s.At < m.ZL
  ·rw [dT j]
   exact ⟨q,rfl,rfl,fun h=>⟨trivial,i,j,l.1 h⟩,fun h=>l.2 h.2.k⟩
  ·rw [dF j]
   exact ⟨false,rfl,rfl,(fun h=>by cases h),fun h=>absurd h.2.a1 j⟩
 ·rw [dF i]
  exact ⟨false,rfl,rfl,(fun h=>by cases h),fun h=>absurd h.2.a0 i⟩
theorem Zp9 (a:4194304 < N) (g:T5) (b:VP g) (c:XA g.ZJ=true):DN N g.ZJ=some (List.replicate (Yh g.ZJ).length ⟨0,0,str []⟩):=by
 have ⟨d,h⟩:=Le c
 unfold DN
 rw [Gg a g.ZJ (by omega) b.dd]
 simp only [bS]
 have e:Xs (⟨0,0,str []⟩:T12) ((Yh g.ZJ).length:Int) ((Yh g.ZJ).length:Int)=some (List.replicate (Yh g.ZJ).length ⟨0,0,str []⟩):=by
  unfold Xs
  rw [dT (by omega:(0:Int)<=((Yh g.ZJ).length:Int)),dT (Int.le_refl _),dT (by omega:((Yh g.ZJ).length:Int)<=4294967296)];rfl
 rw [e];rfl
end
section
variable {N:Nat}
def VE (y:T9) (at':Int) (x:T3):Bool:=y.ZC==at' && (y.ZQ==x.ZQ && (y.ZR==x.ZR && y.ZD==x.ZD))
def V7:Yt:=⟨0,[],[]⟩
inductive StepR (g:T5) (m:T8) (s:Yt) (x:T3):Yt × Int->Prop
 | role:x.ZS≠m.ZS->StepR g m s x (V7,12)
 | move:x.ZS=m.ZS->(∀ (i:Nat) y,m.ZU[i]? = some y->VE y s.At x=false)->StepR g m s x (V7,23)
 | type {i:Nat} {y d}:x.ZS=m.ZS->m.ZU[i]? = some y->VE y s.At x=true->Z5 g.ZJ x.ZD=some d->¬ S8 d.Zz x.ZV->StepR g m s x (V7,11)
 | guard {i:Nat} {y d}:x.ZS=m.ZS->m.ZU[i]? = some y->VE y s.At x=true->Z5 g.ZJ x.ZD=some d->S8 d.Zz x.ZV->(WJ g.ZJ x.ZD x.ZV s.ZW=false\/(WJ g.ZJ x.ZD x.ZV s.ZW=true/\y.ZE=true/\x.ZV≠s.ZX))->StepR g m s x (V7,17)
 | ok {i:Nat} {y d} {first:Nat}:x.ZS=m.ZS->m.ZU[i]? = some y->VE y s.At x=true->Z5 g.ZJ x.ZD=some d->S8 d.Zz x.ZV->WJ g.ZJ x.ZD x.ZV s.ZW=true->(y.ZE=true->x.ZV=s.ZX) ->
   d.ZA=(first:Int)->first+x.ZV.length<=s.ZW.length->RI N g.ZJ x.ZD x.ZV s.ZW=some (YF first x.ZV s.ZW,0)->StepR g m s x (⟨y.To,YF first x.ZV s.ZW,bif x.ZQ then x.ZV else []⟩,0)
def Zkp (N:Nat) (g_:T5) (m_:T8) (s_:Yt) (x_:T3):Option (Yt × Int) :=
 (Hc N m_ s_.At x_).bind fun x2 =>
 bif (x_.ZS != m_.ZS) then (some (V7,(12:Int)))
 else bif (decide (x2 < (0:Int))) then (some (V7,(23:Int)))
 else (Z5 g_.ZJ x_.ZD).bind fun x3 =>
 (DO N x3 x_.ZV).bind fun x4 =>
 bif (!x4) then (some (V7,(11:Int)))
 else (z31 N g_.ZJ x_.ZD x_.ZV s_.ZW).bind fun x5 =>
 bif (!x5) then (SP N g_ m_ s_ x_ x2 true)
 else (Z5 m_.ZU x2).bind fun x11 =>
 bif x11.ZE then ((Qp N x_.ZV s_.ZX).bind fun x12 =>
 SP N g_ m_ s_ x_ x2 (!x12))
 else SP N g_ m_ s_ x_ x2 false
theorem ZnX {A:Type} (p:A->Bool) {xs:List A} {F G:Nat->Int->Option Int} (q:∀ n k x,k < xs.length->xs[k]? = some x->F (n+1) (k:Int)=bif p x then some (k:Int) else F n ((k+1:Nat):Int))
  (r:∀ n k,xs.length<=k->F (n+1) (k:Int)=some (-1)) (s:∀ n k x,k < xs.length->xs[k]? = some x->G (n+1) (k:Int)=bif p x then some (k:Int) else G n ((k+1:Nat):Int))
  (u:∀ n k,xs.length<=k->G (n+1) (k:Int)=some (-1)):∀ (d n k:Nat),xs.length-k=d->d < n->∃ z,F n (k:Int)=some z/\G n (k:Int)=some z/\((z=-1/\∀ (i:Nat) x,k<=i->xs[i]? = some x->p x=false)\/∃ (i:Nat) (x:A),z=(i:Int)/\xs[i]? = some x/\p x=true):=by
 intro d
 induction d with
 | zero =>
  intro n k v w
  obtain ⟨n,rfl⟩:=pS n (by omega)
  exact ⟨-1,r n k (by omega),u n k (by omega),.inl ⟨rfl,fun i x hi j=>by have:=(List.getElem?_eq_some_iff.1 j).1;omega⟩⟩
 | succ d y =>
  intro n k v w
  obtain ⟨n,rfl⟩:=pS n (by omega)
  have l:k < xs.length:=by omega
  have j:=Za l
  rw [q n k _ l j,s n k _ l j]
  cases o:p xs[k] with
  | true=>exact ⟨_,rfl,rfl,.inr ⟨k,_,rfl,j,o⟩⟩
  | false =>
   have ⟨z,e,f,h⟩:=y n (k+1) (by omega) (by omega)
   refine ⟨z,e,f,h.imp (fun ⟨a,b⟩=>⟨a,fun i x hi c=>?_⟩) id⟩
   by_cases e:i=k
   ·subst e;rw [j] at c;cases c;exact o
   ·exact b i x (by omega) c
theorem Zpo (l:4194304 < N) (m:T8) (o:m.ZU.length<=4194304) (s:Yt) (x:T3):∃ z,Ho N m.ZU s x=some z/\Hc N m s.At x=some z /\
  ((z=-1/\∀ (i:Nat) y,m.ZU[i]? = some y->VE y s.At x=false)\/∃ (i:Nat) (y:T9),z=(i:Int)/\m.ZU[i]? = some y/\VE y s.At x=true):=by
 unfold Ho Hc
 have j:∀ y,Mn N y s x=some (VE y s.At x):=fun y=>by
  unfold Mn VE
  cases (y.ZC==s.At)<;>cases (y.ZQ==x.ZQ)<;>cases (y.ZR==x.ZR)<;>rfl
 have ⟨z,e,fz,h⟩:=ZnX (fun (y:T9)=>VE y s.At x) (xs:=m.ZU) (F:=S6 N m.ZU s x) (G:=SY m s.At x) (fun n k y c d=>by
  rw [S6,Yo c,Yb,d,Ye (by omega)]
  simp only [cT,bS,j]) (fun n k c=>by
  rw [S6,Yp c];rfl) (fun n k y c d=>by
  rw [SY,Yo c,Yb,d,Ye (by omega)]
  simp only [cT,bS]
  unfold VE
  cases (y.ZC==s.At)<;>cases (y.ZQ==x.ZQ)<;>cases (y.ZR==x.ZR)<;>cases (y.ZD==x.ZD)<;>rfl) (fun n k c=>by
  rw [SY,Yp c];rfl) _ N 0 rfl (by omega)
 rw [show ((0:Nat):Int)=0 from rfl] at e fz
 exact ⟨z,e,fz,h.imp (fun ⟨a,b⟩=>⟨a,fun i y d=>b i y (Nat.zero_le _) d⟩) id⟩
theorem ZsC (B:4194304 < N) (g:T5) (M:VP g) (O:Uo g) (m:T8) (K:Mt g m) (s:Yt) (U:StK g m s) (x:T3) (b:V9 x) :
  ∃ r,SX N g m s x=some r/\Zkp N g m s x=some r/\StepR (N:=N) g m s x r:=by
 have ⟨v1,v2⟩:=Le K.v
 have hn:=K.n.n
 have p:s.ZW.length<=4194304:=by rw [<- U.k.1];omega
 have u:=HL U.k
 unfold SX Zkp
 have ⟨z,ez,fz,R⟩:=Zpo B m (by omega) s x
 rw [ez,fz]
 simp only [bS]
 by_cases j:x.ZS=m.ZS
 ·have er:(x.ZS != m.ZS)=false:=by simp [j]
  rw [er]
  rcases R with ⟨rfl,R⟩ | ⟨k,y,rfl,o,E⟩
  ·exact ⟨_,rfl,rfl,.move j R⟩
  have h0:decide ((k:Int) < 0)=false:=by simp
  rw [h0]
  have w:=E
  unfold VE at w
  simp only [Zc,beq_iff_eq] at w
  have ⟨_,_,_,C⟩:=w
  have F:=Zb o
  obtain ⟨_,⟨t0,t1⟩,_,_,V,_⟩:=K.n.mv y F
  have Z:=K.l y F
  rw [C] at V Z
  have ⟨d,e⟩:=Xx V Z
  rw [e]
  unfold DO
  simp only [cond_false,bS]
  have ⟨bf,ef,ff,W⟩:=Zn2 B d.Zz x.ZV b.l b.s
  rw [ef,ff]
  simp only [bS]
  cases bf with
  | false=>exact ⟨_,rfl,rfl,.type j o E e (fun h=>by have:=W.2 h;cases this)⟩
  | true =>
  have A:=W.1 rfl
  have ⟨gc,gl⟩:=Zig B g.ZJ (by omega) M.dd O.d x.ZD x.ZV s.ZW b.l p ⟨b.s,u⟩
  rw [ZcV B g.ZJ (by omega) M.dd O.d x.ZD x.ZV s.ZW b.l p ⟨b.s,u⟩,gc]
  simp only [Zh,cond_false,bS]
  cases c:WJ g.ZJ x.ZD x.ZV s.ZW with
  | false=>exact ⟨_,rfl,rfl,.guard j o E e A (.inl c)⟩
  | true =>
  simp only [Zh,cond_false]
  rw [Yb,o]
  simp only [bS]
  have ⟨q,eq,fq,X⟩:=Zr3 B x.ZV s.ZX b.l
  rw [eq,fq]
  simp only [bS]
  have G:(y.ZE=true->x.ZV=s.ZX)->∃ r,RA N g m s x (k:Int) false=some r/\SP N g m s x (k:Int) false=some r/\StepR (N:=N) g m s x r:=fun P=>by
   unfold RA SP
   have a:=c
   unfold WJ at a
   rw [Zc] at a
   have ⟨D,a⟩:=a
   rw [Yb,o]
   simp only [cond_false,bS]
   rw [<- gl]
   rcases ZdJ B g.ZJ (by omega) M.dd O.d x.ZD x.ZV s.ZW b.l p ⟨b.s,u⟩ with ⟨h,_⟩ | ⟨_,i,d',first,q1,q2,q3,q4,q5⟩
   ·rw [h] at D;cases D
   have T:d'=d:=by
    rw [q1,Yb,q2] at e
    exact Zl e
   subst T
   rcases q5 with ⟨h,_⟩ | ⟨_,S,Y⟩
   ·rw [e] at a
    simp only [h,Bool.false_and] at a
    cases a
   have L:=StepR.ok (N:=N) j o E e A c P q3 S Y
   rw [Y]
   simp only [bS]
   unfold SR
   rw [Y8 (by have:=b.l;simp;omega)]
   cases H:x.ZQ with
   | true=>rw [H] at L;exact ⟨_,rfl,rfl,by simpa using L⟩
   | false=>rw [H] at L;exact ⟨_,rfl,rfl,L⟩
  cases I:y.ZE with
  | false=>exact G (fun h=>by rw [I] at h;cases h)
  | true =>
   cases q with
   | true=>exact G (fun _=>X.1 rfl)
   | false=>exact ⟨_,rfl,rfl,.guard j o E e A (.inr ⟨c,I,fun h=>by have:=X.2 h;cases this⟩)⟩
 ·have er:(x.ZS != m.ZS)=true:=by simp [j]
  rw [er]
  exact ⟨_,rfl,rfl,.role j⟩
end
section
variable {N:Nat} {g:T5} {m:T8}
theorem StM.K {s:Yt} (h:StM g m s):StK g m s:=⟨h.a0,h.a1,h.k⟩
theorem ZjC (c:V8 N g m) (d:Ve g) {s:Yt} (a:StM g m s):Qz N g m s=some true:=by
 have ⟨b,_,f,h⟩:=Zn3 c.hN g c.gg c.ss d m c.t s (Zev c a) (HL a.k)
 rw [f,h.2 ⟨c.e,a.K⟩]
theorem Zef (c:V8 N g m) (d:Ve g) {s:Yt} (b:StM g m s) {x:T3} (h:V9 x):z22 N g m s x=some (Wt N g m s x)/\StepR (N:=N) g m s x (Wt N g m s x):=by
 have ⟨r,i,j,k⟩:=ZsC c.hN g c.gg c.ss m c.a s b.K x h
 have e:Wt N g m s x=r:=by unfold Wt;rw [i];rfl
 rw [e]
 refine ⟨?_,k⟩
 unfold z22
 rw [ZjC c d b]
 simp only [bS,Zh,cond_false]
 exact j
theorem Zro (c:V8 N g m) (d:Ve g):z20 N g m=some (Rm g m):=by
 have ⟨b,e,f,_⟩:=Mw c.hN g c.gg c.ss d m c.t
 rw [c.e] at e
 cases e
 unfold z20
 rw [f,Zp9 c.hN g c.gg c.a.v];rfl
theorem Zrv (c:V8 N g m) (i:Ve g) (l:List T3) (B:l.length<=4194304) (v:∀ x∈l,V9 x):∀ (r:List T3) (n k:Nat) (s:Yt),StM g m s->k<=l.length->l.drop k=r->r.length < n ->
  Mh N g m l n s.At s.ZW s.ZX (k:Int)=some (Sv (Wt N g m) r s k):=by
 intro r
 induction r with
 | nil =>
  intro n k s o d p i
  obtain ⟨n,rfl⟩:=pS n (by simp at i;omega)
  have:=List.drop_eq_nil_iff.1 p
  rw [Mh,Yp this]
  have e:k=l.length:=by omega
  subst e;rfl
 | cons x r A =>
  intro n k s o d p a
  obtain ⟨n,rfl⟩:∃ q,n=q+1:=⟨n-1,by simp at a;omega⟩
  have ⟨d,u,j⟩:=Xp p
  have b:=v x (Zb u)
  have ⟨_,w,_⟩:=Zaz c o b
  rw [Mh,Yo d,Yb,u,Ye (by omega)]
  simp only [cT,bS]
  have y:z22 N g m ⟨s.At,s.ZW,s.ZX⟩ x=some (Wt N g m s x):=(Zef c i o b).1
  rw [y,Sv]
  simp only [bS]
  cases h:((Wt N g m s x).2 != 0) with
  | true=>rfl
  | false =>
   have z:(Wt N g m s x).2=0:=by simpa using h
   exact A n (k+1) _ (w z) d j (by simp at a;omega)
theorem Zru (c:V8 N g m) (a:Ve g) (l:List T3) (d:l.length<=4194304) (h:∀ x∈l,V9 x):z6 N g m l=some (Sv (Wt N g m) l (Rm g m) 0):=by
 have hN:=c.hN
 have ⟨b,e,f,_⟩:=Mw c.hN g c.gg c.ss a m c.t
 rw [c.e] at e
 cases e
 unfold z6
 rw [Zro c a,f]
 simp only [bS,Zh,cond_false]
 exact Zrv c a l d h l N 0 _ (ZdT c) (Nat.zero_le _) rfl (by omega)
theorem ZrX (d:4194304 < N) (i:VP g) (j:Uo g) (k:Ve g) (n:m.ZP.length<=4194304) (l:List T3) (h:UR N g m=some false) :
  Ql N g m=some V7/\z20 N g m=some V7/\Hb N g m l=some (V7,0,1)/\z6 N g m l=some (V7,0,1):=by
 have ⟨b,e,f,_⟩:=Mw d g i j k m n
 rw [h] at e
 cases e
 have a:Ql N g m=some V7:=by unfold Ql;rw [h];rfl
 have c:z20 N g m=some V7:=by unfold z20;rw [f];rfl
 refine ⟨a,c,?_,?_⟩
 ·unfold Hb
  rw [a]
  simp only [bS]
  have:UB N g m V7=some false:=by unfold UB;rw [h];rfl
  rw [this];rfl
 ·unfold z6
  rw [c,f];rfl
end
section
variable {N:Nat}
end
section
variable {N:Nat}
structure Zl5 (v:T12):Prop where
 n:Mu v.N
 s:v.S.size<=4194304
end
section
variable {N:Nat}
structure ZvX (g:T5) (x:T3):Prop where
 r:∀ s∈g.ZI,s.size<=4194304
 d:g.ZJ.length<=4194304
 n:∀ y∈g.ZJ,y.Zu.size<=4194304
 l:x.ZV.length<=4194304
 v:∀ v∈x.ZV,Zl5 v
end
section
variable {N:Nat}
theorem Zm7 {a:List T4} {g:T6} (h:YJ a g=true) {d:T1} (c:d∈g.Zw):XD (a.length:Int) d:=by
 unfold YJ at h
 simp only [Zc,decide_eq_true_eq] at h
 have b:=h.2.1
 rw [XC] at b
 have ⟨i,hi⟩:=List.mem_iff_getElem?.1 c
 exact of_decide_eq_true (b i d hi)
end
section
variable {N:Nat} {g:T5} {m:T8}
theorem Zqj (a:4194304 < N) (h:m.ZP.length<=4194304) (b:QU m):z53 N m=some (some ⟨m,WG N m⟩,true):=by
 have c:=b.n
 unfold z53
 rw [ZdQ a,(ZdX m).2 c]
 simp only [bS,Zh,cond_false]
 rw [ZdR a m c]
 have ⟨p,q,i,j,d⟩:=ZgL a c
 have ⟨k,l,o⟩:=ZjA a c
 have e:=Zky (t:=⟨m,WG N m⟩) a rfl h
 rw [b.ap,Zc] at d
 obtain ⟨rfl,rfl⟩:=d
 have:k=true:=o.2 b.rc
 subst this
 rw [b.tm] at e
 simp only [bS,i,j,l,e,cT]
theorem Zd4 (b:4194304 < N) (a:QU m):MW m:=((ZgM b a.n).2 a.ap).1
theorem ZiL {x y:T9} (b:¬ Wq x y) (a:Sl x y≠0):Wq y x:=by
 rw [Ne,ZcY] at a
 unfold Wq at *
 revert b a
 cases x.ZQ<;>cases y.ZQ<;>simp<;>omega
def TN (m:T8) (a b:Int):Prop:=∃ x y,m.ZU[a.toNat]? = some x/\m.ZU[b.toNat]? = some y/\Wq x y
theorem Zo6 (a b:Int) (h:TN m a b):¬ TN m b a:=by
 have ⟨x,y,e,i,j⟩:=h
 rintro ⟨l,n,c,d,k⟩
 rw [e] at d;rw [i] at c
 cases c;cases d
 exact ZiJ _ (BZ j k)
theorem Zo7 {a b c:Int} (h:TN m a b) (k:TN m b c):TN m a c:=by
 have ⟨x,y,e,i,j⟩:=h
 have ⟨o,z,d,l,n⟩:=k
 rw [i] at d;cases d
 exact ⟨x,z,e,l,BZ j n⟩
theorem Zjq {r:Int->Int->Prop} (c:∀ a b,r a b->¬ r b a):∀ (A B:List Int),(∀ a,a∈A↔a∈B)->A.Pairwise r->B.Pairwise r->A=B
 | [],[],_,_,_=>rfl
 | [],y::B,h,_,_=>absurd ((h y).2 (by simp)) (by simp)
 | x::A,[],h,_,_=>absurd ((h x).1 (by simp)) (by simp)
 | x::A,y::B,h,ha,hb=>by
  rw [List.pairwise_cons] at ha hb
  have j:x=y:=Classical.byContradiction fun i=>by
   have d:x∈B:=by
    rcases List.mem_cons.1 ((h x).1 (by simp)) with e | e
    ·exact absurd e i
    ·exact e
   have k:y∈A:=by
    rcases List.mem_cons.1 ((h y).2 (by simp)) with e | e
    ·exact absurd e.symm i
    ·exact e
   exact c _ _ (ha.1 y k) (hb.1 x d)
  subst j
  rw [Zjq c A B (fun a=>⟨fun d=>by
   rcases List.mem_cons.1 ((h a).1 (Zj _ d)) with e | e
   ·subst e;exact absurd (ha.1 a d) (c _ _ (ha.1 a d))
   ·exact e,fun d=>by
   rcases List.mem_cons.1 ((h a).2 (Zj _ d)) with e | e
   ·subst e;exact absurd (hb.1 a d) (c _ _ (hb.1 a d))
   ·exact e⟩) ha.2 hb.2]
structure MovesAre (m:T8) (s:Int) (i:Nat) (L:List Int):Prop where
 srt:L.Pairwise (TN m)
 mem:∀ a,a∈L↔∃ (k:Nat) (x:T9),a=(k:Int)/\k < i/\m.ZU[k]? = some x/\x.ZC=s
 len:L.length<=i
theorem MovesAre.uniq {s:Int} {i:Nat} {A B:List Int} (h:MovesAre m s i A) (k:MovesAre m s i B):A=B :=
 Zjq Zo6 A B (fun a=>(h.mem a).trans (k.mem a).symm) h.srt k.srt
theorem ZrQ (r:4194304 < N) (u:QU m) (s:Nat) (z:s < m.ZL.toNat):∃ L,(WG N m)[s]? = some L/\MovesAre m (s:Int) m.ZU.length L/\L.length=(XF m m.ZU.length s).length:=by
 have ⟨l,v,F,w,G⟩:=H6 r u.n s z
 have I:=Zd4 r u
 refine ⟨l,v,⟨?_,fun a=>⟨fun h=>?_,fun h=>?_⟩,?_⟩,?_⟩
 ·rw [List.pairwise_iff_getElem]
  intro i j hi E C
  have ⟨a,x,o,d,p⟩:=(w _).1 (List.getElem_mem hi)
  have ⟨b,y,A,B,H⟩:=(w _).1 (List.getElem_mem E)
  have D:a≠b:=fun e=>by
   have:l[i]=l[j]:=by rw [o,A,e]
   have:=(List.getElem_inj F).1 this
   omega
  have K:=I b a y x (Ne.symm D) B d (H.trans p.symm)
  rw [o,A]
  refine ⟨x,y,by rw [Int.toNat_natCast];exact d,by rw [Int.toNat_natCast];exact B,?_⟩
  exact ZiL (G i j a b x y C (by rw [Za hi,o]) (by rw [Za E,A]) d B) (fun c=>by
   rw [ZcY] at c
   exact K.2 ⟨c.2.1,c.2.2⟩)
 ·have ⟨k,x,o,d,p⟩:=(w a).1 h
  exact ⟨k,x,o,(List.getElem?_eq_some_iff.1 d).1,d,p⟩
 ·have ⟨k,x,o,_,d,p⟩:=h
  exact (w a).2 ⟨k,x,o,d,p⟩
 ·have q:=v
  rw [Zae N m s z] at q
  rw [<- Zl q,(Zaf r m u.n s).1.length_eq]
  exact BN m m.ZU.length s
 ·rw [Zae N m s z] at v
  rw [<- Zl v]
  exact (Zaf r m u.n s).1.length_eq
theorem Zmt (x y:T9):∃ b,GN N x y=some b/\(b=true↔Wq x y):=by
 unfold GN Wq
 cases a:x.ZQ<;>cases d:y.ZQ
 case true.false=>exact ⟨true,rfl,by simp⟩
 case false.true=>exact ⟨false,rfl,by simp⟩
 all_goals
  by_cases c:x.ZR=y.ZR
  ·exact ⟨decide (x.ZD < y.ZD),by simp [c],by simp [c]⟩
  ·have e:(x.ZR != y.ZR)=true:=by simpa using c
   exact ⟨decide (x.ZR < y.ZR),by rw [e];rfl,by simp [c]⟩
theorem Zrq (V:4194304 < N) (H:MW m) (W:m.ZU.length<=400) {s:Int} {i:Nat} {a:List Int} (h:MovesAre m s i a) {v:T9} (l:m.ZU[i]? = some v) (I:v.ZC=s) (ag:List Int->Int->Option (List Int)) :
  ∀ (n:Nat) (A B:List Int) (j:Int),B.length < n->a=A++B->j=(A.length:Int)->(∀ y∈A,TN m y (i:Int)) ->
  ∃ A B,a=A++B/\(∀ y∈A,TN m y (i:Int))/\(∀ y∈B,TN m (i:Int) y)/\QH N m a (i:Int) ag n j=Hf a (i:Int) ag (A.length:Int):=by
 intro n
 have hi:=(List.getElem?_eq_some_iff.1 l).1
 induction n with
 | zero=>intro A B j h;omega
 | succ n U =>
  intro A B j u e p w
  cases B with
  | nil =>
   have q:decide (j < (a.length:Int))=false:=by rw [e];simp;omega
   refine ⟨A,[],e,w,by simp,?_⟩
   simp only [QH,q,cond_false]
   rw [p]
  | cons y B =>
   have T:=h.len
   have X:a.length=A.length+(B.length+1):=by rw [e];simp
   have q:decide (j < (a.length:Int))=true:=by rw [e];simp;omega
   have F:Z5 a j=some y:=BJ e p
   obtain ⟨k,x,rfl,K,o,r⟩:=(h.mem y).1 (by rw [e];simp)
   have ⟨b,D,E⟩:=Zmt (N:=N) v x
   cases b with
   | true =>
    refine ⟨A,(k:Int)::B,e,w,fun z d=>?_,?_⟩
    ·have G:TN m (i:Int) (k:Int):=⟨v,x,by rw [Int.toNat_natCast];exact l,by rw [Int.toNat_natCast];exact o,E.1 rfl⟩
     rcases List.mem_cons.1 d with rfl | d
     ·exact G
     ·have:=h.srt
      rw [e] at this
      exact Zo7 G ((List.pairwise_cons.1 (List.pairwise_append.1 this).2.1).1 z d)
    ·simp only [QH,q,cT,Yb,l,F,o,bS,D,Zh,cond_false]
     rw [p]
   | false =>
    have C:TN m (k:Int) (i:Int):=by
     refine ⟨x,v,by rw [Int.toNat_natCast];exact o,by rw [Int.toNat_natCast];exact l,?_⟩
     refine ZiL (fun c=>by have:=E.2 c;cases this) (fun c=>?_)
     rw [ZcY] at c
     exact (H i k v x (by omega) l o (I.trans r.symm)).2 ⟨c.2.1,c.2.2⟩
    have ⟨L,M,O,P,R,S⟩:=U (A++[(k:Int)]) B (Z1 (j+1)) (by simp at u;omega) (by rw [e];simp) (by rw [p,Ye (by omega)];simp)
     (by
      intro z d
      rcases List.mem_append.mp d with d | d
      ·exact w z d
      ·simp at d;subst d;exact C)
    refine ⟨L,M,O,P,R,?_⟩
    simp only [QH,q,cT,Yb,l,F,o,bS,D,Bool.not_false]
    exact S
theorem Zee (w:4194304 < N) (C:MW m) (D:m.ZU.length<=400) (s:Int):∀ (r:List T9) (n i:Nat) (b:List Int),m.ZU.drop i=r->r.length < n->i<=m.ZU.length->MovesAre m s i b ->
  ∃ L,Sc N m s n b (i:Int)=some L/\MovesAre m s m.ZU.length L
 | [],n,i,b,h,hn',hil,hM=>by
  obtain ⟨n,rfl⟩:∃ z,n=z+1:=⟨n-1,by simp at hn';omega⟩
  have F:=Xr h
  refine ⟨b,by rw [Sc,Yp F];rfl,hM.srt,fun a=>⟨fun d=>?_,fun d=>?_⟩,?_⟩
  ·have ⟨k,x,l,_,o,j⟩:=(hM.mem a).1 d
   exact ⟨k,x,l,(List.getElem?_eq_some_iff.1 o).1,o,j⟩
  ·have ⟨k,x,l,P,o,j⟩:=d
   exact (hM.mem a).2 ⟨k,x,l,by omega,o,j⟩
  ·have:=hM.len;omega
 | x::r,n,i,b,h,hn',hil,hM=>by
  obtain ⟨n,rfl⟩:∃ z,n=z+1:=⟨n-1,by simp at hn';omega⟩
  have ⟨hi,q,H⟩:=Xp h
  simp only [Zg] at hn'
  rw [Sc,Yo hi,Yb,q,Ye (by omega)]
  simp only [cT,bS]
  by_cases c:x.ZC=s
  ·rw [show (x.ZC != s)=false by simp [c],cond_false]
   have ⟨A,B,p,I,K,M⟩:=Zrq (N:=N) w C D hM q c (Sc N m s n) N [] b (0:Int) (by have:=hM.len;omega) rfl (by simp) (by simp)
   rw [M]
   unfold Hf
   have O:=hM.len
   have R:b.length=A.length+B.length:=by rw [p];simp
   rw [Pe p rfl,BX p rfl]
   simp only [bS]
   rw [Y8 (by simp;omega),bS,Y8 (by simp;omega),bS,Y8 (by simp;omega),bS,Ye (by omega)]
   refine Zee w C D s r n (i+1) _ H (by omega) (by omega) ⟨?_,fun a=>⟨fun d=>?_,fun d=>?_⟩,by simp;omega⟩
   ·have v:=hM.srt
    rw [p,List.pairwise_append] at v
    simp only [List.nil_append,aA,List.singleton_append]
    rw [List.pairwise_append,List.pairwise_cons]
    refine ⟨v.1,⟨K,v.2.1⟩,fun y G z E=>?_⟩
    rcases List.mem_cons.1 E with rfl | E
    ·exact I y G
    ·exact v.2.2 y G z E
   ·have:a=(i:Int)\/a∈b:=by
     rw [p]
     simp only [List.nil_append,List.mem_append,List.mem_singleton] at d ⊢
     rcases d with (h | h) | h
     ·exact .inr (.inl h)
     ·exact .inl h
     ·exact .inr (.inr h)
    rcases this with rfl | d
    ·exact ⟨i,x,rfl,by omega,q,c⟩
    ·have ⟨k,y,l,o,j⟩:=(hM.mem a).1 d
     exact ⟨k,y,l,by omega,j⟩
   ·obtain ⟨k,y,rfl,o,j,u⟩:=d
    have:(k:Int)=(i:Int)\/(k:Int)∈b:=by
     by_cases e:k=i
     ·exact .inl (by rw [e])
     ·exact .inr ((hM.mem _).2 ⟨k,y,rfl,by omega,j,u⟩)
    rw [p] at this
    simp only [List.nil_append,List.mem_append,List.mem_singleton] at this ⊢
    rcases this with h | h | h
    ·exact .inl (.inr h)
    ·exact .inl (.inl h)
    ·exact .inr h
  ·rw [show (x.ZC != s)=true by simp [c],cT]
   refine Zee w C D s r n (i+1) b H (by omega) (by omega) ⟨hM.srt,fun a=>⟨fun d=>?_,fun d=>?_⟩,by have:=hM.len;omega⟩
   ·have ⟨k,y,l,o,j⟩:=(hM.mem a).1 d
    exact ⟨k,y,l,by omega,j⟩
   ·have ⟨k,y,l,o,j,u⟩:=d
    refine (hM.mem a).2 ⟨k,y,l,?_,j,u⟩
    by_cases e:k=i
    ·subst e;rw [q] at j;cases j;exact absurd u c
    ·omega
theorem Zpp (b:4194304 < N) (j:m.ZP.length<=4194304) (d:QU m) (l:z46 N m=some true) {s:Int} (o:0<=s) (p:s < m.ZL) :
  ∃ L,z24 N m s=some L/\DL N m s=some L/\MovesAre m s m.ZU.length L/\L.length=(XF m m.ZU.length s.toNat).length:=by
 obtain ⟨c,rfl⟩:=Ze o
 have i:=d.n
 have ⟨L,q,e,r⟩:=ZrQ b d c (by omega)
 have ⟨R,u,v⟩:=Zee b (Zd4 b d) i.n (c:Int) m.ZU N 0 [] rfl (by have:=i.n;omega) (Nat.zero_le _) ⟨.nil,fun a=>⟨fun h=>(by cases h),fun ⟨k,x,_,h,_⟩=>(by omega)⟩,Zp _⟩
 obtain rfl:=e.uniq v
 refine ⟨L,?_,?_,e,r⟩
 ·unfold z24
  rw [Zqj b j d]
  simp only [bS,Pk,Zh,cond_false]
  rw [dF (show ¬ (c:Int) < 0 by omega),dF (show ¬ (c:Int)>=m.ZL by omega)]
  simp only [cond_false,Yb,q,bS]
 ·unfold DL z67
  rw [l]
  simp only [bS,cT]
  rw [dT (show (c:Int)>=0 by omega),cT,dT p]
  simp only [bS,Zh,cond_false]
  unfold z68
  rw [show (0:Int)=((0:Nat):Int) from rfl,u]
  rfl
end
section
variable {N:Nat}
structure ZvV (f:T4):Prop where
 n:(bs f.Zu).length<=4000000
 lo:Mu f.Zv.Lo
 hi:Mu f.Zv.Hi
end
section
variable {N:Nat} {g:T5} {m:T8}
structure ZcC (N:Nat) (g:T5) (m:T8):Prop where
 c:V8 N g m
 x:ZgA g m
 mb:RJ N m=some true
 rb:z46 N m=some true
theorem ZmY (c:V8 N g m) (a:Ve g):ZcC N g m:=by
 have ⟨b,e,f,h⟩:=Mw c.hN g c.gg c.ss a m c.t
 rw [c.e] at e
 cases e
 have ⟨i,j,k,p⟩:=ZiM c.hN m c.t
 have o:=h rfl
 refine ⟨c,o,?_,?_⟩
 ·cases i with
  | true=>exact j
  | false =>
   exfalso
   have:=c.e
   unfold UR at this
   have ⟨d,l,_,_⟩:=ZcH c.hN g c.gg c.ss a
   rw [l,j] at this
   cases d<;>simp at this
 ·cases i with
  | true=>exact k
  | false =>
   exfalso
   unfold Qv at f
   have ⟨d,_,n,_⟩:=ZcH c.hN g c.gg c.ss a
   rw [n,k] at f
   cases d<;>simp at f
def ZsB (s:ByteArray):Prop:=(∃ t,bs s=[115,101,110,100,32]++t)\/∃ t,bs s=[114,101,99,101,105,118,101,32]++t
structure ZvW (s:ByteArray):Prop where
 ge:8<=(bs s).length
 len:(bs s).length<=8100000000
 st:ZsB s
end
end Gp
section
section
namespace Gp
open Go Go.Kx Gx
variable {N:Nat}
theorem X4 {β γ:Type} (M:Nat) (F:Nat->β->Int->γ) (ag:β->γ) (P:Nat->β->Prop)
  (h:∀ n B j,j < M->P j B->∃ a,P (j+1) a/\F (n+1) B (j:Int)=F n a ((j+1:Nat):Int)) (i:∀ n B,F (n+1) B (M:Int)=ag B) :
  ∀ (r n j:Nat) (B:β),j+r=M->r < n->P j B->∃ a,P M a/\F n B (j:Int)=ag a:=by
 intro r
 induction r with
 | zero =>
  intro n j B o p d
  obtain ⟨n,rfl⟩:=pS n (by omega)
  have:j=M:=by omega
  subst this
  exact ⟨B,d,i n B⟩
 | succ r q =>
  intro n j B o p d
  obtain ⟨n,rfl⟩:=pS n (by omega)
  have ⟨a,b,e⟩:=h n B j (by omega) d
  have ⟨k,c,l⟩:=q n (j+1) a (by omega) (by omega) b
  exact ⟨k,c,e.trans l⟩
structure Rep (M:Nat) (B:List Int) (A:Nat->Nat->Int):Prop where
 len:B.length=M * M
 at':∀ i j,i < M->j < M->B[i * M+j]? = some (A i j)
def Xd (A:Nat->Nat->Int) (i j:Nat) (v:Int):Nat->Nat->Int:=fun a b=>if a=i/\b=j then v else A a b
theorem ZmK {M i j a b:Nat} (c:j < M) (d:b < M) (h:i * M+j=a * M+b):i=a/\j=b:=by
 have e:(i * M+j) / M=i:=by rw [Nat.mul_comm,Nat.mul_add_div (by omega),Nat.div_eq_of_lt c];omega
 have k:(a * M+b) / M=a:=by rw [Nat.mul_comm,Nat.mul_add_div (by omega),Nat.div_eq_of_lt d];omega
 have:i=a:=by rw [<- e,<- k,h]
 subst this
 exact ⟨rfl,by omega⟩
theorem ZcU {M i j:Nat} (hi:i < M) (a:j < M):i * M+j < M * M:=by
 have:(i+1) * M<=M * M:=Nat.mul_le_mul_right _ hi
 rw [Nat.add_mul] at this;omega
theorem Rep.set {M:Nat} {B:List Int} {A:Nat->Nat->Int} (h:Rep M B A) {i j:Nat} (hi:i < M) (c:j < M) (v:Int):Rep M (B.set (i * M+j) v) (Xd A i j v):=by
 refine ⟨by rw [List.length_set];exact h.len,fun a b k d=>?_⟩
 rw [List.getElem?_set]
 unfold Xd
 split
 ·rename_i e
  have ⟨l,n⟩:=ZmK c d e
  rw [if_pos (by rw [h.len];exact ZcU hi c),if_pos ⟨l.symm,n.symm⟩]
 ·rename_i e
  rw [if_neg (fun ⟨x,y⟩=>e (by rw [x,y])),h.at' a b k d]
theorem Tf {n i j:Nat} (a:n<=24) (hi:i<=24) (b:j<=24):Z1 ((Z1 ((i:Int) * (Z1 ((n:Int)+1))))+(j:Int))=((i * (n+1)+j:Nat):Int):=by
 have c:i * (n+1)<=24 * 25:=Nat.mul_le_mul hi (by omega)
 rw [Ye (by omega)]
 have e:(i:Int) * ((n+1:Nat):Int)=((i * (n+1):Nat):Int):=by rw [Int.natCast_mul]
 rw [e,YE (n:=((i * (n+1):Nat):Int)) (by omega) (by omega),YE (by omega) (by omega)]
 omega
end Gp
end
namespace Gp
open Go Go.Kx Gx
section
variable {N:Nat}
theorem XY (a b:Int):YG a b<=a/\YG a b<=b/\(YG a b=a\/YG a b=b):=by unfold YG;split<;>omega
theorem Wl (a b:Int):a<=Yy a b/\b<=Yy a b/\(Yy a b=a\/Yy a b=b):=by unfold Yy;split<;>omega
structure Ph (M k:Nat) (K:Int) (A0 A:Nat->Nat->Int) (i j:Nat):Prop where
 hi:∀ a b,a < M->b < M->A a b<=20000
 lo:∀ a b,a < M->b < M->-(6 * K)<=A a b
 un:∀ a b,a < M->b < M->¬ (a < i\/(a=i/\b < j))->-K<=A a b
 rc:∀ a b,a < M->b < M->(a=k\/b=k)->-(3 * K)<=A a b
 kk:-(2 * K)<=A k k
 mono:∀ a b,a < M->b < M->A a b<=A0 a b
theorem Ph.step {M k:Nat} {K:Int} {r A:Nat->Nat->Int} {i j:Nat} (h:Ph M k K r A i j) (C:0<=K) (s:k < M) (hi:i < M) (l:j < M):Ph M k K r (Xd A i j (YG (A i j) (A i k+A k j))) i (j+1):=by
 have u:=h.un i j hi l (by omega)
 have E:=XY (A i j) (A i k+A k j)
 have x:=h.rc i k hi s (.inr rfl)
 have y:=h.rc k j s l (.inl rfl)
 have kk:=h.kk
 have z:=h.hi i j hi l
 have B:=h.mono i j hi l
 have n:-(6 * K)<=YG (A i j) (A i k+A k j):=by omega
 have o:(i=k\/j=k)->-(3 * K)<=YG (A i j) (A i k+A k j):=fun e=>by
  rcases e with e | e
  ·subst e;omega
  ·subst e;omega
 have p:i=k->j=k->-(2 * K)<=YG (A i j) (A i k+A k j):=fun v w=>by subst v;subst w;omega
 refine ⟨fun a b c d=>?_,fun a b c d=>?_,fun a b c d D=>?_,fun a b c d e=>?_,?_,fun a b c d=>?_⟩
 ·unfold Xd;split
  ·omega
  ·exact h.hi a b c d
 ·unfold Xd;split
  ·exact n
  ·exact h.lo a b c d
 ·unfold Xd;split
  ·rename_i e;omega
  ·exact h.un a b c d (by omega)
 ·unfold Xd;split
  ·rename_i q;rw [q.1,q.2] at e;exact o e
  ·exact h.rc a b c d e
 ·unfold Xd;split
  ·rename_i q;exact p q.1.symm q.2.symm
  ·exact kk
 ·unfold Xd;split
  ·rename_i q;rw [q.1,q.2];omega
  ·exact h.mono a b c d
end
section
variable {N:Nat}
def YX (i j:Nat):Int:=if i=j then 0 else if i=0 then 10000 else if j=0 then 10000 else 20000
theorem UG (i j:Nat):0<=YX i j/\YX i j<=20000:=by
 unfold YX;split
 ·omega
 ·split
  ·omega
  ·split<;>omega
theorem Rep.mem {M:Nat} {B:List Int} {A:Nat->Nat->Int} (h:Rep M B A) {x:Int} (k:x∈B):∃ a b,a < M/\b < M/\x=A a b:=by
 have ⟨p,e⟩:=List.mem_iff_getElem?.1 k
 have c:=(List.getElem?_eq_some_iff.1 e).1
 rw [h.len] at c
 have hM:0 < M:=by
  rcases Nat.eq_zero_or_pos M with d | d
  ·subst d;simp at c
  ·exact d
 have i:p / M < M:=Nat.div_lt_of_lt_mul c
 have j:p % M < M:=Nat.mod_lt _ hM
 refine ⟨p / M,p % M,i,j,?_⟩
 have:=h.at' (p / M) (p % M) i j
 rw [show p / M * M+p % M=p by rw [Nat.mul_comm];exact Nat.div_add_mod p M,e] at this
 exact Zl this
def Y6 (M:Nat) (A:Nat->Nat->Int) (y:Nat->Int):Prop:=∀ a b,a < M->b < M->y a-y b<=A a b
def ph (A:Nat->Nat->Int) (k:Nat):Nat->Nat->Int:=fun a b=>YG (A a b) (A a k+A k b)
theorem Ziw {M:Nat} {A:Nat->Nat->Int} {y:Nat->Int} {k:Nat} (e:k < M):Y6 M A y↔Y6 M (ph A k) y:=by
 constructor
 ·intro h a b c d
  have i:=h a b c d
  have j:=h a k c e
  have l:=h k b e d
  unfold ph YG
  split<;>omega
 ·intro h a b c d
  have i:=h a b c d
  have:=XY (A a b) (A a k+A k b)
  unfold ph at i
  omega
end
section
variable {N:Nat}
structure Cl (M k:Nat) (A0 A:Nat->Nat->Int):Prop where
 diag:∀ a,a < M->A a a=0
 tri:∀ l,l < k->∀ a b,a < M->b < M->A a b<=A a l+A l b
 hi:∀ a b,a < M->b < M->A a b<=YX a b
 keep:∀ y,Y6 M A0 y↔Y6 M A y
theorem Cl.step {M k:Nat} {o A:Nat->Nat->Int} (h:Cl M k o A) (p:k<=M) (j:k < M) (q:∀ a,a < M->0<=ph A k a a):Cl M (k+1) o (ph A k):=by
 have r:=h.diag k j
 have e:∀ a b,ph A k a b=YG (A a b) (A a k+A k b):=fun _ _=>rfl
 refine ⟨fun a i=>?_,fun l z a b i n=>?_,fun a b i n=>?_,fun y=>(h.keep y).trans (Ziw j)⟩
 ·have s:=q a i
  have B:=XY (A a a) (A a k+A k a)
  have C:=h.diag a i
  rw [e] at s ⊢
  omega
 ·rw [e,e,e]
  have u:=XY (A a b) (A a k+A k b)
  by_cases c:l=k
  ·subst c
   have v:=XY (A a l) (A a l+A l l)
   have w:=XY (A l b) (A l l+A l b)
   omega
  ·have d:l < k:=by omega
   have x:l < M:=by omega
   have v:=XY (A a l) (A a k+A k l)
   have w:=XY (A l b) (A l k+A k b)
   have D:=h.tri l d a b i n
   have t2:=h.tri l d a k i j
   have t3:=h.tri l d k b j n
   have t4:=h.tri l d k k j j
   omega
 ·have:=h.hi a b i n
  have u:=XY (A a b) (A a k+A k b)
  rw [e];omega
theorem ZdU {M:Nat} {A:Nat->Nat->Int} {a:Nat} (b:a < M) (h:A a a < 0) (y:Nat->Int):¬ Y6 M A y:=fun c=>by
 have:=c a a b b
 omega
end
end Gp
section
namespace Gp
open Go Go.Kx Gx
variable {N:Nat}
theorem BS {M:Nat} {A:Nat->Nat->Int} {i j:Nat} (hi:i < M) (n:j < M) (c:Int) (u:Nat->Int):Y6 M (Xd A i j (YG (A i j) c)) u↔Y6 M A u/\u i-u j<=c:=by
 have p:=XY (A i j) c
 constructor
 ·intro h
  have d:=h i j hi n
  unfold Xd at d
  rw [if_pos ⟨rfl,rfl⟩] at d
  refine ⟨fun a b k l=>?_,by omega⟩
  have:=h a b k l
  unfold Xd at this
  split at this
  ·rename_i e;rw [e.1,e.2] at *;omega
  ·exact this
 ·rintro ⟨h,o⟩ a b k l
  unfold Xd
  split
  ·rename_i e
   have:=h i j hi n
   rw [e.1,e.2];omega
  ·exact h a b k l
end Gp
end
end
namespace Gp
open Go Go.Kx Gx
section
variable {N:Nat}
theorem ZjN (i j:Nat):LB N (i:Int) (j:Int)=some (YX i j):=by
 unfold LB YX
 by_cases c:i=j
 ·subst c;simp
 ·have d:((i:Int)==(j:Int))=false:=by simp;omega
  rw [d,if_neg c]
  by_cases a:i=0
  ·subst a;rfl
  ·have e:((i:Int)==0)=false:=by simp;omega
   rw [e,if_neg a]
   by_cases b:j=0
   ·subst b;rfl
   ·have h:((j:Int)==0)=false:=by simp;omega
    rw [h,if_neg b];rfl
structure Zr (n:Nat) (A:Nat->Nat->Int) (z:Yi):Prop where
 m:z.N=(n:Int)
 r:Rep (n+1) z.B A
 lo:∀ a b,a < n+1->b < n+1->-20001<=A a b
 hi:∀ a b,a < n+1->b < n+1->A a b<=20000
theorem Zj1 (y:4194304 < N) {n:Nat} (C:n<=24) {A:Nat->Nat->Int} {z:Yi} (h:Zr n A z):LC N z=some true:=by
 have s:(n+1) * (n+1)<=25 * 25:=Nat.mul_le_mul (by omega) (by omega)
 have c:=h.r.len
 have key:=Xt (fun (x:Int) _ => !(decide (x < -20001)) && !(decide (x > 20000))) (xs:=z.B) (F:=Qm z) (e:=some true) (n:=N) (by omega) (by
  intro m k x j l
  rw [Qm,Yo j,Yb,l,Ye (by omega)]
  simp only [cT,bS]
  cases decide (x < -20001)<;>cases decide (x > 20000)<;>rfl) (by
  intro m k j
  rw [Qm,Yp j];rfl)
 have u:Qm z N 0=_:=key
 have d:Yw (fun (x:Int) _ => !(decide (x < -20001)) && !(decide (x > 20000))) z.B 0=true:=by
  rw [XC]
  intro i x l
  obtain ⟨a,b,p,q,rfl⟩:=h.r.mem (Zb l)
  have:=h.lo a b p q
  have:=h.hi a b p q
  rw [dF (by omega),dF (by omega)];rfl
 unfold LC
 have v:Z1 ((Z1 (z.N+1)) * (Z1 (z.N+1)))=(((n+1) * (n+1):Nat):Int):=by
  rw [h.m,Ye (by omega),YE (by rw [<- Int.natCast_mul];omega) (by rw [<- Int.natCast_mul];omega),Int.natCast_mul]
 have o:((z.B.length:Int) != (((n+1) * (n+1):Nat):Int))=false:=by rw [c];simp
 rw [v,o]
 have w:=h.m
 rw [w]
 rw [dF (show ¬ (n:Int) < 0 by omega),dF (show ¬ (n:Int) > 24 by omega)]
 simp only [cond_false]
 rw [u,d];rfl
theorem ZrN (x:4194304 < N) (n:Nat) (y:n<=24):∃ B,z76 N (n:Int)=some (⟨(n:Int),B⟩,0)/\Zr n YX ⟨(n:Int),B⟩:=by
 let P:Nat->Nat->List Int->Prop:=fun i j B=>B.length=i * (n+1)+j/\∀ a b,(a < i\/(a=i/\b < j))->b < n+1->B[a * (n+1)+b]? = some (YX a b)
 have r:∀ i,i<=n+1->i * (n+1)<=25 * 25:=fun i hi=>Nat.mul_le_mul (by omega) (by omega)
 have d:=X4 (n+1) (Se N (n:Int)) (fun B=>Zcj (n:Int) B) (fun i B=>P i 0 B) (by
  intro f B i hi w
  have k:=X4 (n+1) (Mk N (n:Int) (i:Int) (Se N (n:Int) f)) (fun B=>DW (i:Int) (Se N (n:Int) f) B) (fun j B=>P i j B) (by
   intro g B j s ⟨l,o⟩
   have z:=r i (by omega)
   refine ⟨B++[YX i j],⟨by rw [lA,l];rfl,fun a b p q=>?_⟩,?_⟩
   ·by_cases c:a=i/\b=j
    ·rw [c.1,c.2,<- l];simp
    ·have u:=o a b (by omega) q
     rw [Zn (List.getElem?_eq_some_iff.1 u).1]
     exact u
   ·rw [Mk,dT (show (j:Int)<=(n:Int) by omega),ZjN,Ye (by omega)]
    simp only [cT,bS]
    rw [Y8 (by simp;omega)];rfl) (by
   intro g B
   rw [Mk,dF (by omega)];rfl)
  obtain ⟨v,⟨l,o⟩,e⟩:=k (n+1) N 0 B (by omega) (by omega) w
  refine ⟨v,⟨by rw [l,Nat.add_mul];omega,fun a b p q=>o a b (by omega) q⟩,?_⟩
  rw [Se,dT (show (i:Int)<=(n:Int) by omega)]
  simp only [cT]
  exact e.trans (by unfold DW;rw [Ye (by omega)])) (by
  intro f B
  rw [Se,dF (by omega)];rfl)
 obtain ⟨B,⟨l,o⟩,e⟩:=d (n+1) N 0 [] (by omega) (by omega) ⟨by simp,fun a b h _=>by omega⟩
 refine ⟨B,?_,rfl,⟨by rw [l];rfl,fun i j hi s=>o i j (.inl hi) s⟩,fun a b _ _=>by have:=UG a b;omega,fun a b _ _=>(UG a b).2⟩
 unfold z76
 rw [dF (show ¬ (n:Int) < 0 by omega),dF (show ¬ (n:Int) > 24 by omega)]
 exact e
theorem Zan (p:4194304 < N) {n:Nat} (q:n<=24) {A:Nat->Nat->Int} {z:Yi} (h:Zr n A z) (i j:Nat) (hi:i < n+1) (c:j < n+1) {d:T1} (s:d.X=(i:Int)-1) (u:d.Y=(j:Int)-1) :
  ∃ B,z77 N z d=some (⟨(n:Int),B⟩,0)/\Zr n (Xd A i j (YG (A i j) (Yy d.C (-20001)))) ⟨(n:Int),B⟩:=by
 have v:(n+1) * (n+1)<=25 * 25:=Nat.mul_le_mul (by omega) (by omega)
 have o:=h.r.len
 have w:i * (n+1)<=24 * 25:=Nat.mul_le_mul (by omega) (by omega)
 unfold z77 GR
 rw [Zj1 p q h,h.m,s,u]
 simp only [bS,Zh,cond_false]
 rw [dT (show (i:Int)-1>=-1 by omega),dT (show (j:Int)-1>=-1 by omega),dT (show (i:Int)-1 < (n:Int) by omega),dT (show (j:Int)-1 < (n:Int) by omega)]
 simp only [cT,bS,Zh,cond_false]
 rw [Y8 (by simp;omega)]
 have x:Z1 ((Z1 ((Z1 ((Z1 ((i:Int)-1+1)) * (Z1 ((n:Int)+1))))+((j:Int)-1)))+1)=((i * (n+1)+j:Nat):Int):=by
  rw [show (i:Int)-1+1=(i:Int) by omega,YE (n:=(i:Int)) (by omega) (by omega),Ye (by omega)]
  have e:(i:Int) * ((n+1:Nat):Int)=((i * (n+1):Nat):Int):=by rw [Int.natCast_mul]
  rw [e,YE (n:=((i * (n+1):Nat):Int)) (by omega) (by omega),YE (n:=((i * (n+1):Nat):Int)+((j:Int)-1)) (by omega) (by omega),YE (by omega) (by omega)]
  omega
 simp only [bS,List.nil_append,x,Yb,h.r.at' i j hi c,XE]
 have y:=XY (A i j) (Yy d.C (-20001))
 have D:=Wl d.C (-20001)
 refine ⟨_,rfl,rfl,h.r.set hi c _,fun a b k l=>?_,fun a b k l=>?_⟩
 ·unfold Xd;split
  ·have:=h.lo i j hi c;omega
  ·exact h.lo a b k l
 ·unfold Xd;split
  ·have:=h.hi i j hi c;omega
  ·exact h.hi a b k l
def Yk (A:Nat->Nat->Int):Nat->Nat->Int:=fun a b=>YG (A a b) (YX a b)
theorem Cl.congr {M k:Nat} {i A j:Nat->Nat->Int} (h:Cl M k i A) (n:k<=M) (e:∀ a b,a < M->b < M->j a b=A a b):Cl M k i j :=
 ⟨fun a c=>by rw [e a a c c];exact h.diag a c,fun l o a b c d=>by rw [e a b c d,e a l c (by omega),e l b (by omega) d];exact h.tri l o a b c d,
  fun a b c d=>by rw [e a b c d];exact h.hi a b c d,fun y=>(h.keep y).trans ⟨fun q a b c d=>by rw [e a b c d];exact q a b c d,fun q a b c d=>by rw [<- e a b c d];exact q a b c d⟩⟩
structure Pr (M k:Nat) (A A1:Nat->Nat->Int) (i j:Nat):Prop where
 le:∀ a b,a < M->b < M->A1 a b<=A a b
 lo:∀ a b,a < M->b < M->-20001<=A1 a b
 dn:∀ a b,a < M->b < M->(a < i\/(a=i/\b < j))->A1 a b<=Yy (-20001) (A a k+A k b)
 kp:∀ y,Y6 M A y->Y6 M A1 y
 ex:0<=A k k->∀ a b,a < M->b < M->A1 a b=if (a < i\/(a=i/\b < j)) then YG (A a b) (Yy (-20001) (A a k+A k b)) else A a b
theorem Pr.step {M k:Nat} {A d:Nat->Nat->Int} {i j:Nat} (h:Pr M k A d i j) (r:∀ a b,a < M->b < M->-20001<=A a b) (o:k < M) (hi:i < M) (p:j < M):Pr M k A (Xd d i j (YG (d i j) (Yy (-20001) (d i k+d k j)))) i (j+1):=by
 have C:=XY (d i j) (Yy (-20001) (d i k+d k j))
 have D:=Wl (-20001) (d i k+d k j)
 have E:=Wl (-20001) (A i k+A k j)
 have F:=h.le i j hi p
 have G:=h.le i k hi o
 have H:=h.le k j o p
 have I:=h.lo i j hi p
 refine ⟨fun a b l n=>?_,fun a b l n=>?_,fun a b l n B=>?_,fun y x a b l n=>?_,fun u a b l n=>?_⟩
 ·unfold Xd;split
  ·rename_i e;rw [e.1,e.2];omega
  ·exact h.le a b l n
 ·unfold Xd;split
  ·omega
  ·exact h.lo a b l n
 ·unfold Xd;split
  ·rename_i e;rw [e.1,e.2];omega
  ·exact h.dn a b l n (by omega)
 ·have q:=h.kp y x
  unfold Xd;split
  ·rename_i e;rw [e.1,e.2]
   have K:=q i j hi p
   have L:=q i k hi o
   have O:=q k j o p
   omega
  ·exact q a b l n
 ·have v:∀ c,c < M->d c k=A c k:=fun c s=>by
   rw [h.ex u c k s o]
   split
   ·have n1:=XY (A c k) (Yy (-20001) (A c k+A k k))
    have z:=Wl (-20001) (A c k+A k k)
    have:=r c k s o
    omega
   ·rfl
  have w:∀ c,c < M->d k c=A k c:=fun c s=>by
   rw [h.ex u k c o s]
   split
   ·have n1:=XY (A k c) (Yy (-20001) (A k k+A k c))
    have z:=Wl (-20001) (A k k+A k c)
    have:=r k c o s
    omega
   ·rfl
  unfold Xd;split
  ·rename_i e;rw [e.1,e.2,if_pos (by omega),v i hi,w j p,h.ex u i j hi p,if_neg (by omega)]
  ·rw [h.ex u a b l n]
   by_cases c:a < i\/(a=i/\b < j)
   ·rw [if_pos c,if_pos (by omega)]
   ·rw [if_neg c,if_neg (by omega)]
theorem Pr.row {M k:Nat} {A j:Nat->Nat->Int} {i:Nat} (h:Pr M k A j i M):Pr M k A j (i+1) 0 :=
 ⟨h.le,h.lo,fun a b d e n=>h.dn a b d e (by omega),h.kp,fun l a b d e=>by
  rw [h.ex l a b d e]
  by_cases c:a < i\/(a=i/\b < M)
  ·rw [if_pos c,if_pos (by omega)]
  ·rw [if_neg c,if_neg (by omega)]⟩
theorem Pr.start {M k:Nat} {A:Nat->Nat->Int} (c:∀ a b,a < M->b < M->-20001<=A a b):Pr M k A A 0 0 :=
 ⟨fun a b _ _=>Int.le_refl _,c,fun a b _ _ h=>by omega,fun y h=>h,fun _ a b _ _=>by rw [if_neg (by omega)]⟩
structure Sr (M k:Nat) (A0 A:Nat->Nat->Int):Prop where
 lo:∀ a b,a < M->b < M->-20001<=A a b
 hi:∀ a b,a < M->b < M->A a b<=YX a b
 kp:∀ y,Y6 M A0 y↔Y6 M A y
 or:Cl M k A0 A\/∃ i j,i < M/\j < M/\(i=j\/k<=j)/\A i j+A j i < 0
theorem Sr.next {M k:Nat} {w A r:Nat->Nat->Int} (h:Sr M k w A) (s:k < M) (n:Pr M k A r M 0):Sr M (k+1) w r:=by
 have E:∀ x:Int,x < 0->Yy (-20001) x < 0:=fun x R=>by have:=Wl (-20001) x;omega
 have kp:∀ y,Y6 M w y↔Y6 M r y:=fun y=>(h.kp y).trans ⟨n.kp y,fun q a b l p=>Int.le_trans (q a b l p) (n.le a b l p)⟩
 have hi:∀ a b,a < M->b < M->r a b<=YX a b:=fun a b l p=>Int.le_trans (n.le a b l p) (h.hi a b l p)
 refine ⟨n.lo,hi,kp,?_⟩
 have u:∀ i,i < M->A i k+A k i < 0->∃ i j,i < M/\j < M/\(i=j\/k+1<=j)/\r i j+r j i < 0:=fun i d o=>by
  have:=n.dn i i d d (.inl d)
  have:=E _ o
  exact ⟨i,i,d,d,.inl rfl,by omega⟩
 rcases h.or with C | ⟨i,j,d,e,D,o⟩
 ·have I:=C.diag k s
  have F:=n.ex (by omega)
  by_cases B:∃ i j,i < M/\j < M/\A i k+A k j < -20001
  ·have ⟨i,j,d,e,B⟩:=B
   right
   have K:=h.lo i k d s
   have L:=h.lo k j s e
   by_cases O:j=k
   ·subst O;omega
   have T:=n.dn i j d e (.inl d)
   have m:=Wl (-20001) (A i k+A k j)
   have U:=hi j i e d
   have V:=UG j i
   by_cases P:k+1<=j
   ·exact ⟨i,j,d,e,.inr P,by omega⟩
   ·have t:=C.tri j (by omega) k i s d
    have W:=h.hi j i e d
    exact u i d (by omega)
  ·have G:∀ i j,i < M->j < M->-20001<=A i k+A k j:=fun i j d e=>by
    by_cases c:-20001<=A i k+A k j
    ·exact c
    ·exact absurd ⟨i,j,d,e,by omega⟩ B
   have v:∀ a b,a < M->b < M->r a b=ph A k a b:=fun a b l p=>by
    rw [F a b l p,if_pos (.inl l)]
    have:=G a b l p
    have m:=Wl (-20001) (A a k+A k b)
    unfold ph
    rw [show Yy (-20001) (A a k+A k b)=A a k+A k b by omega]
   by_cases H:∀ a,a < M->0<=ph A k a a
   ·left
    exact (C.step (by omega) s H).congr (by omega) v
   ·right
    have:∃ a,a < M/\ph A k a a < 0:=by
     refine Classical.byContradiction fun z=>H fun a l=>?_
     by_cases c:0<=ph A k a a
     ·exact c
     ·exact absurd ⟨a,l,by omega⟩ z
    have ⟨a,l,o⟩:=this
    rw [<- v a a l l] at o
    exact ⟨a,a,l,l,.inl rfl,by omega⟩
 ·right
  have K:=n.le i j d e
  have L:=n.le j i e d
  rcases D with rfl | S
  ·exact ⟨i,i,d,d,.inl rfl,by omega⟩
  ·by_cases c:k+1<=j
   ·exact ⟨i,j,d,e,.inr c,by omega⟩
   ·have:j=k:=by omega
    subst this
    exact u i d (by omega)
end
section
variable {N:Nat}
theorem ZrS (D:4194304 < N) (n:Nat) (y:n<=24) (z:Yi) (x:z.N=(n:Int)) (k:Nat) (d:k < n+1) (ag:List Int->Int->Option (Yi × Bool)) (B:List Int) (A:Nat->Nat->Int) (C:Rep (n+1) B A)
  (u:∀ a b,a < n+1->b < n+1->-20001<=A a b) (v:∀ a b,a < n+1->b < n+1->A a b<=20000) :
  ∃ s c,Rep (n+1) s c/\Pr (n+1) k A c (n+1) 0/\Tl N z (k:Int) ag N B (0:Int)=ag s ((k+1:Nat):Int):=by
 have w:Z1 (z.N+1)=((n+1:Nat):Int):=by rw [x,Ye (by omega)]
 have l:∀ i j:Nat,i < n+1->j < n+1->Z1 ((Z1 ((i:Int) * (Z1 (z.N+1))))+(j:Int))=((i * (n+1)+j:Nat):Int):=fun i j hi h=>by rw [x];exact Tf y (by omega) (by omega)
 have q:=X4 (n+1) (Tl N z (k:Int) ag) (fun B=>GU (k:Int) ag B) (fun i B=>∃ c,Rep (n+1) B c/\Pr (n+1) k A c i 0) (by
  intro f B i hi ⟨A1,hR1,hP1⟩
  have r:=X4 (n+1) (PL z (k:Int) (i:Int) (Tl N z (k:Int) ag f)) (fun B=>Tl N z (k:Int) ag f B ((i+1:Nat):Int)) (fun j B=>∃ c,Rep (n+1) B c/\Pr (n+1) k A c i j) (by
   intro g B j h ⟨A2,hR2,hP2⟩
   refine ⟨B.set (i * (n+1)+j) (YG (A2 i j) (Yy (-20001) (A2 i k+A2 k j))),⟨_,hR2.set hi h _,hP2.step u d hi h⟩,?_⟩
   have E:=hP2.lo i k hi d
   have F:=hP2.lo k j d h
   have G:=hP2.le i k hi d
   have H:=hP2.le k j d h
   have I:=v i k hi d
   have K:=v k j d h
   rw [PL,w,Yo h,<- w,l i j hi h,l i k hi d,l k j d h,Ye (by omega)]
   simp only [cT,Yb,hR2.at' i j hi h,hR2.at' i k hi d,hR2.at' k j d h,bS,XE]
   rw [YE (by omega) (by omega)]) (by
   intro g B
   rw [PL,w,Yp (Zp _)]
   simp only [cond_false,ZaT]
   rw [Ye (by omega)])
  obtain ⟨s,⟨c,o,p⟩,e⟩:=r (n+1) N 0 B (by omega) (by omega) ⟨A1,hR1,hP1⟩
  refine ⟨s,⟨c,o,p.row⟩,?_⟩
  rw [Tl,w,Yo hi]
  exact e) (by
  intro f B
  rw [Tl,w,Yp (Zp _)];rfl)
 obtain ⟨s,⟨c,o,p⟩,e⟩:=q (n+1) N 0 B (by omega) (by omega) ⟨A,C,Pr.start u⟩
 exact ⟨s,c,o,p,e.trans (by unfold GU;rw [Ye (by omega)])⟩
theorem Zjx (hN:4194304 < N) (n:Nat) (V:n<=24) (A:Nat->Nat->Int) (z:Yi) (h:Zr n A z):(Qn N z=some (⟨0,[]⟩,false)/\∀ y,¬ Y6 (n+1) (Yk A) y) \/
  ∃ C O,Qn N z=some (⟨(n:Int),O⟩,true)/\Zr n C ⟨(n:Int),O⟩/\Cl (n+1) (n+1) (Yk A) C:=by
 have U:=h.m
 have x:Z1 (z.N+1)=((n+1:Nat):Int):=by rw [U,Ye (by omega)]
 have F:∀ i j:Nat,i < n+1->j < n+1->Z1 ((Z1 ((i:Int) * (Z1 (z.N+1))))+(j:Int))=((i * (n+1)+j:Nat):Int):=fun i j hi G=>by rw [U];exact Tf V (by omega) (by omega)
 have hsq:(n+1) * (n+1)<=25 * 25:=Nat.mul_le_mul (by omega) (by omega)
 have hlen:=h.r.len
 -- the widest bounds
 let Q:Nat->Nat->List Int->Prop:=fun i j B=>∃ w,Rep (n+1) B w/\∀ a b,a < n+1->b < n+1->w a b=if a < i\/(a=i/\b < j) then Yk A a b else A a b
 have D:=X4 (n+1) (TW N z) (fun B=>ZaU N z B) (fun i B=>Q i 0 B) (by
  intro f B i hi hQ
  have L:=X4 (n+1) (PK N z (i:Int) (TW N z f)) (fun B=>GS (i:Int) (TW N z f) B) (fun j B=>Q i j B) (by
   intro g B j G ⟨E,s,P⟩
   have eij:E i j=A i j:=by rw [P i j hi G,if_neg (by omega)]
   refine ⟨B.set (i * (n+1)+j) (Yk A i j),⟨_,s.set hi G _,fun a b d o=>?_⟩,?_⟩
   ·unfold Xd;split
    ·rename_i e;rw [e.1,e.2,if_pos (by omega)]
    ·rw [P a b d o]
     by_cases c:a < i\/(a=i/\b < j)
     ·rw [if_pos c,if_pos (by omega)]
     ·rw [if_neg c,if_neg (by omega)]
   ·rw [PK,x,Yo G,<- x,F i j hi G,ZjN,Ye (by omega)]
    simp only [cT,Yb,s.at' i j hi G,bS,XE,eij]
    rfl) (by
   intro g B
   rw [PK,x,Yp (Zp _)];rfl)
  obtain ⟨O,⟨C,H,I⟩,e⟩:=L (n+1) N 0 B (by omega) (by omega) hQ
  refine ⟨O,⟨C,H,fun a b d o=>?_⟩,?_⟩
  ·rw [I a b d o]
   by_cases c:a < i\/(a=i/\b < n+1)
   ·rw [if_pos c,if_pos (by omega)]
   ·rw [if_neg c,if_neg (by omega)]
  ·rw [TW,x,Yo hi]
   exact e.trans (by unfold GS;rw [Ye (by omega)])) (by
  intro f B
  rw [TW,x,Yp (Zp _)];rfl)
 obtain ⟨B1,⟨w,X,v⟩,e1⟩:=D (n+1) N 0 z.B (by omega) (by omega) ⟨A,h.r,fun a b _ _=>by rw [if_neg (by omega)]⟩
 have v:∀ a b,a < n+1->b < n+1->w a b=Yk A a b:=fun a b d o=>by rw [v a b d o,if_pos (.inl d)]
 -- the Zjm
 have s0:Sr (n+1) 0 (Yk A) w:=by
  refine ⟨fun a b d o=>?_,fun a b d o=>?_,fun y=>⟨fun q a b d o=>by rw [v a b d o];exact q a b d o,fun q a b d o=>by rw [<- v a b d o];exact q a b d o⟩,?_⟩
  ·rw [v a b d o]
   have:=h.lo a b d o
   have:=XY (A a b) (YX a b)
   have:=UG a b
   unfold Yk;omega
  ·rw [v a b d o]
   exact (XY (A a b) (YX a b)).2.1
  ·by_cases T:∀ a,a < n+1->0<=w a a
   ·left
    refine ⟨fun a d=>?_,fun l hl=>by omega,fun a b d o=>by rw [v a b d o];exact (XY (A a b) (YX a b)).2.1,fun y=>⟨fun q a b d o=>by rw [v a b d o];exact q a b d o,fun q a b d o=>by rw [<- v a b d o];exact q a b d o⟩⟩
    have:=T a d
    have e:w a a=Yk A a a:=v a a d d
    have m:=(XY (A a a) (YX a a)).2.1
    have f:YX a a=0:=by unfold YX;rw [if_pos rfl]
    unfold Yk at e;omega
   ·right
    have:∃ a,a < n+1/\w a a < 0:=by
     refine Classical.byContradiction fun W=>T fun a d=>?_
     by_cases c:0<=w a a
     ·exact c
     ·exact absurd ⟨a,d,by omega⟩ W
    have ⟨a,d,K⟩:=this
    exact ⟨a,a,d,d,.inl rfl,by omega⟩
 have closed:=X4 (n+1) (Tk N z) (fun B=>LD N z B) (fun k B=>∃ C,Rep (n+1) B C/\Sr (n+1) k (Yk A) C) (by
  intro f B k Z ⟨E,s,p⟩
  have ⟨O,C,H,I,e⟩:=ZrS hN n V z U k Z (Tk N z f) B E s p.lo (fun a b d o=>Int.le_trans (p.hi a b d o) (UG a b).2)
  refine ⟨O,⟨C,H,p.next Z I⟩,?_⟩
  rw [Tk,x,Yo Z]
  exact e) (by
  intro f B
  rw [Tk,x,Yp (Zp _)];rfl)
 obtain ⟨R,⟨E,s,p⟩,e2⟩:=closed (n+1) N 0 B1 (by omega) (by omega) ⟨w,X,s0⟩
 have M:Qn N z=LD N z R:=by
  unfold Qn
  rw [Zj1 hN V h]
  simp only [bS,Zh,cond_false]
  rw [Y8 (by simp;omega)]
  simp only [bS,List.nil_append]
  exact e1.trans e2
 -- the diagonal
 have S:∀ (r f i:Nat),i+r=n+1->r < f->(∃ a,a < n+1/\E a a < 0/\Qo z R f (i:Int)=some (⟨0,[]⟩,false))\/((∀ a,i<=a->a < n+1->0<=E a a)/\Qo z R f (i:Int)=some (⟨z.N,R⟩,true)):=by
  intro r
  induction r with
  | zero =>
   intro f i hi hf
   obtain ⟨f,rfl⟩:∃ q,f=q+1:=⟨f-1,by omega⟩
   have:i=n+1:=by omega
   subst this
   right
   refine ⟨fun a v P=>by omega,?_⟩
   rw [Qo,x,Yp (Zp _)];rfl
  | succ r ih =>
   intro f i hi hf
   obtain ⟨f,rfl⟩:∃ q,f=q+1:=⟨f-1,by omega⟩
   have u:i < n+1:=by omega
   rw [Qo,x,Yo u,<- x,F i i u u,Ye (by omega)]
   simp only [cT,Yb,s.at' i i u u,bS]
   by_cases c:E i i < 0
   ·rw [dT c]
    exact .inl ⟨i,u,c,rfl⟩
   ·rw [dF c]
    rcases ih f (i+1) (by omega) (by omega) with q | ⟨q1,q2⟩
    ·exact .inl q
    ·refine .inr ⟨fun a v P=>?_,q2⟩
     by_cases ea:a=i
     ·subst ea;omega
     ·exact q1 a (by omega) P
 rw [M]
 unfold LD
 rcases S (n+1) N 0 (by omega) (by omega) with ⟨a,d,K,e⟩ | ⟨T,e⟩
 ·exact .inl ⟨e,fun y hy=>ZdU d K y ((p.kp y).1 hy)⟩
 ·right
  refine ⟨E,R,by rw [<- U];exact e,⟨rfl,s,p.lo,fun a b d o=>Int.le_trans (p.hi a b d o) (UG a b).2⟩,?_⟩
  rcases p.or with hc | ⟨i,j,hi,G,Y,K⟩
  ·exact hc
  ·exfalso
   rcases Y with rfl | hj'
   ·have:=T i (Nat.zero_le _) hi
    omega
   ·omega
def XG (A:Nat->Nat->Int):Nat->Int:=fun a=>-(A 0 a)
theorem ZdN {M:Nat} {c A:Nat->Nat->Int} (h:Cl M M c A) (d:0 < M):Y6 M A (XG A):=fun a b e i=>by
 have:=h.tri a e 0 b d i
 unfold XG;omega
theorem ZdO {M:Nat} {A:Nat->Nat->Int} {u:Nat->Int} (b:Y6 M A u) (c:0 < M) (e:u 0=0) (a:Nat) (d:a < M):XG A a<=u a:=by
 have:=b 0 a c d
 unfold XG;omega
theorem BY {M:Nat} {a A:Nat->Nat->Int} (h:Cl M M a A) (b:0 < M):XG A 0=0:=by
 have:=h.diag 0 b
 unfold XG;omega
theorem ZrK (L:4194304 < N) (n:Nat) (M:n<=24) (A:Nat->Nat->Int) (z:Yi) (h:Zr n A z):(Hn N z=some ([],false)/\∀ y,¬ Y6 (n+1) (Yk A) y) \/
  ∃ (m:List Int) (y:Nat->Int),Hn N z=some (m,true)/\m.length=n/\(∀ i,i < n->m[i]? = some (y (i+1)))/\y 0=0/\Y6 (n+1) (Yk A) y/\∀ u,Y6 (n+1) (Yk A) u->u 0=0->∀ a,a < n+1->y a<=u a:=by
 unfold Hn
 rcases Zjx L n M A z h with ⟨e,C⟩ | ⟨G,B1,e,R,s⟩
 ·rw [e];exact .inl ⟨rfl,C⟩
 ·right
  rw [e]
  simp only [bS,Zh,cond_false]
  have key:∀ (r f x:Nat) (B:List Int) (k:Nat->Nat->Int) (O:Nat->Nat->Int) (p:List Int),x+r=n->r < f->Zr n k ⟨(n:Int),B⟩->Cl (n+1) (n+1) O k->(∀ a,a < n+1->XG k a=XG G a)->p.length=x->(∀ i,i < x->p[i]? = some (XG G (i+1))) ->
    ∃ m,Ml N z f (n:Int) B p (x:Int)=some (m,true)/\m.length=n/\∀ i,i < n->m[i]? = some (XG G (i+1)):=by
   intro r
   induction r with
   | zero =>
    intro f x B k O p hx hf hZ w T D F
    obtain ⟨f,rfl⟩:∃ q,f=q+1:=⟨f-1,by omega⟩
    have:x=n:=by omega
    subst this
    refine ⟨p,?_,D,F⟩
    rw [Ml,h.m,Yp (Zp _)];rfl
   | succ r ih =>
    intro f x B k O p hx hf hZ w T D F
    obtain ⟨f,rfl⟩:∃ q,f=q+1:=⟨f-1,by omega⟩
    have l:x+1 < n+1:=by omega
    have I:=hZ.r.at' 0 (x+1) (by omega) l
    rw [Nat.zero_mul,Nat.zero_add] at I
    have b1:=hZ.lo 0 (x+1) (by omega) l
    have b2:=hZ.hi 0 (x+1) (by omega) l
    have b3:=w.hi 0 (x+1) (by omega) l
    have hf0:YX 0 (x+1)=10000:=by unfold YX;rw [if_neg (by omega),if_pos rfl]
    have b4:=w.hi (x+1) 0 l (by omega)
    have hf1:YX (x+1) 0=10000:=by unfold YX;rw [if_neg (by omega),if_neg (by omega),if_pos rfl]
    have b5:=w.tri 0 (by omega) (x+1) (x+1) l l
    have b6:=w.diag (x+1) l
    rw [Ml,h.m,Yo (show x < n by omega),Ye (by omega)]
    simp only [cT,Yb,I,bS]
    rw [Y8 (by simp;omega)]
    simp only [bS]
    have hv:Z1 (0-k 0 (x+1))=XG k (x+1):=by rw [YE (by omega) (by omega)];unfold XG;omega
    rw [hv]
    have hvr:-10000<=XG k (x+1)/\XG k (x+1)<=10000:=by unfold XG;omega
    have ⟨B2,Z,P⟩:=Zan L M hZ (x+1) 0 l (by omega) (d:=⟨(x:Int),-1,XG k (x+1)⟩) (by simp) (by simp)
    rw [Z]
    simp only [bS]
    have K:Y6 (n+1) (Yk (Xd k (x+1) 0 (YG (k (x+1) 0) (Yy (XG k (x+1)) (-20001))))) (XG k):=fun a b o E=>by
     have U:=ZdN w (by omega) a b o E
     have k2:=w.hi a b o E
     have m1:=XY (Xd k (x+1) 0 (YG (k (x+1) 0) (Yy (XG k (x+1)) (-20001))) a b) (YX a b)
     have m2:=XY (k (x+1) 0) (Yy (XG k (x+1)) (-20001))
     have m3:=Wl (XG k (x+1)) (-20001)
     have hlz:=BY w (by omega)
     have W:XG k a-XG k b<=Xd k (x+1) 0 (YG (k (x+1) 0) (Yy (XG k (x+1)) (-20001))) a b:=by
      unfold Xd
      split
      ·rename_i q
       rw [q.1,q.2] at U ⊢
       omega
      ·exact U
     unfold Yk
     omega
    rcases Zjx L n M _ _ P with ⟨_,C⟩ | ⟨H,B3,e3,S,v⟩
    ·exact absurd K (C _)
    ·rw [e3]
     simp only [bS]
     have V:∀ a,a < n+1->XG H a=XG k a:=fun a o=>by
      have q1:=ZdO ((v.keep _).1 K) (by omega) (BY w (by omega)) a o
      have q2:Y6 (n+1) k (XG H):=fun i j hi X=>by
       have U:XG H i-XG H j<=YG (Xd k (x+1) 0 (YG (k (x+1) 0) (Yy (XG k (x+1)) (-20001))) i j) (YX i j):=(v.keep _).2 (ZdN v (by omega)) i j hi X
       have m1:=XY (Xd k (x+1) 0 (YG (k (x+1) 0) (Yy (XG k (x+1)) (-20001))) i j) (YX i j)
       have m2:=XY (k (x+1) 0) (Yy (XG k (x+1)) (-20001))
       have:Xd k (x+1) 0 (YG (k (x+1) 0) (Yy (XG k (x+1)) (-20001))) i j<=k i j:=by
        unfold Xd
        split
        ·rename_i q;rw [q.1,q.2];omega
        ·exact Int.le_refl _
       omega
      have q3:=ZdO q2 (by omega) (BY v (by omega)) a o
      omega
     refine ih f (x+1) B3 H _ _ (by omega) (by omega) S v (fun a o=>(V a o).trans (T a o)) (by rw [lA,D];rfl) fun i hi=>?_
     by_cases c:i < x
     ·rw [Zn (by omega)];exact F i c
     ·have:i=x:=by omega
      subst this
      rw [<- T (i+1) l,Zo (by omega),D]
      simp
  have ⟨m,em,hm,F⟩:=key n N 0 B1 G _ [] (by omega) (by omega) R s (fun a _=>rfl) rfl (fun i h=>by omega)
  exact ⟨m,XG G,em,hm,F,BY s (by omega),(s.keep _).2 (ZdN s (by omega)),fun u W Y a D=>ZdO ((s.keep u).1 W) (by omega) Y a D⟩
end
end Gp
