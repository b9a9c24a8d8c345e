/- The plain law, part 2: what the functions compute answers as the statement says. -/
import Derived.Test.YtaahbojckmgghaaGreatDoorMonitorActorsPlain1
set_option linter.all false
namespace Gp
open Go Go.Kx Gx
section
variable {N:Nat}
theorem UU {β:Type} {F:Nat→Int→Option β} {len:Nat} (h1:∀ n k,k < len→(∃ b,F n ((k+1:Nat):Int)=some b)→∃ b,F (n+1) (k:Int)=some b)
  (h2:∀ n k,len≤k→∃ b,F (n+1) (k:Int)=some b):∀ (d n k:Nat),len-k=d→d < n→∃ b,F n (k:Int)=some b:=by
 intro d
 induction d with
 | zero =>
  intro n k hd hn
  obtain ⟨n,rfl⟩:=pS n (by omega)
  exact h2 n k (by omega)
 | succ d ih =>
  intro n k hd hn
  obtain ⟨n,rfl⟩:=pS n (by omega)
  exact h1 n k (by omega) (ih n (k+1) (by omega) (by omega))
theorem Zq0 {β:Type} {F:Nat→Int→Option β} {len lo:Nat} (h1:∀ n k,lo≤k→k < len→(∃ b,F n ((k+1:Nat):Int)=some b)→∃ b,F (n+1) (k:Int)=some b)
  (h2:∀ n k,len≤k→∃ b,F (n+1) (k:Int)=some b):∀ (d n k:Nat),len-k=d→d < n→lo≤k→∃ b,F n (k:Int)=some b:=by
 intro d
 induction d with
 | zero =>
  intro n k hd hn _
  obtain ⟨n,rfl⟩:=pS n (by omega)
  exact h2 n k (by omega)
 | succ d ih =>
  intro n k hd hn hl
  obtain ⟨n,rfl⟩:=pS n (by omega)
  exact h1 n k hl (by omega) (ih n (k+1) (by omega) (by omega) (by omega))
theorem YC {β:Type} {b:Bool} {x y:Option β} (h1:b=true→∃ r,x=some r) (h2:b=false→∃ r,y=some r):∃ r,(bif b then x else y)=some r:=by
 cases b with
 | true=>exact h1 rfl
 | false=>exact h2 rfl
theorem Yt {β:Type} (b:β):∃ r,some b=some r:=⟨b,rfl⟩
structure Sl (t:YF) (m:T8):Prop where
 num:XL m
 mm:t.Machine=m
 len:t.out'.length=m.States.toNat
 out:∀ (s:Nat) (l:List Int),t.out'[s]? = some l→l.length≤400∧∀ a∈l,∃ k x,a=((k:Nat):Int)∧m.Moves[k]? = some x∧x.From=(s:Int)
theorem ZdD (hN:4194304 < N) (m:T8) (hm:XL m):Sl ⟨m,Wj N m⟩ m:=by
 refine ⟨hm,rfl,Zfr N m,fun s l h=>?_⟩
 have hs:s < m.States.toNat:=by
  have:=(List.getElem?_eq_some_iff.1 h).1
  rwa [Zfr] at this
 have h:(Wj N m)[s]? = some l:=h
 rw [ZjW N m s hs] at h
 cases h
 obtain ⟨p,_⟩:=Zkp hN m hm s
 refine ⟨by rw [p.length_eq];have:=ZdR m m.Moves.length s;have:=hm.n;omega,fun a ha=>?_⟩
 obtain ⟨k,x,h1,_,h2,h3⟩:=Zct (p.mem_iff.1 ha)
 exact ⟨k,x,h1,h2,h3⟩
variable {t:YF} {m:T8}
theorem Znd (hN:4194304 < N) (h:Sl t m):∃ b,LI N t=some b:=by
 have hS:=h.num.s1
 have:=h.len
 refine UU (F:=X9 N t) (len:=t.out'.length) (fun n k hk hi=>?_) (fun n k hk=>?_) _ N 0 rfl (by omega)
 ·rw [X9,ZG hk,Zs,Za hk]
  simp only [cT,bS]
  obtain ⟨hl,ho⟩:=h.out k _ (Za hk)
  generalize t.out'[k]=l at hl ho
  have hag:∃ b,Rn (k:Int) (X9 N t n)=some b:=by
   unfold Rn
   rw [ZA (by omega)];exact hi
  generalize X9 N t n=ag at hag
  refine Zq0 (F:=Tt N t (k:Int) ag l) (len:=l.length) (lo:=1) (fun n j hj1 hj hi=>?_) (fun n j hj=>?_) _ N 1 rfl (by omega) (Nat.le_refl _)
  ·rw [Tt,ZG hj,ZA (by omega)]
   have g:∀ i:Nat,i < l.length→∃ x,((Zm l (i:Int)).bind fun q=>Zm t.Machine.Moves q)=some x:=fun i hi=>by
    obtain ⟨q,x,e1,e2,_⟩:=ho l[i] (List.getElem_mem hi)
    refine ⟨x,?_⟩
    rw [Zs,Za hi]
    simp only [bS]
    rw [e1,Zs,h.mm];exact e2
   have w:Zi ((j:Int)-1)=((j-1:Nat):Int):=by rw [Ym (by omega) (by omega)];omega
   simp only [cT]
   rw [w]
   obtain ⟨x,hx⟩:=g (j-1) (by omega)
   obtain ⟨y,hy⟩:=g j hj
   obtain ⟨a,ha,hx⟩:=Option.bind_eq_some_iff.1 hx
   obtain ⟨b,hb,hy⟩:=Option.bind_eq_some_iff.1 hy
   simp only [ha,hx,hb,hy,bS,S1]
   exact YC (fun _=>Yt _) fun _=>YC (fun _=>Yt _) fun _=>hi
  ·rw [Tt,ZJ hj]
   exact hag
 ·rw [X9,ZJ hk]
  exact Yt _
theorem Znt (hN:4194304 < N) (h:Sl t m):∃ b,LA N t=some b:=by
 have hS:=h.num.s1
 have hn:=h.num.n
 have hlen:=h.len
 have hm:=h.mm
 subst hm
 refine UU (F:=Wq N t) (len:=t.Machine.Moves.length) (fun n k hk hi=>?_) (fun n k hk=>?_) _ N 0 rfl (by omega)
 ·have hx:=Za hk
  obtain ⟨⟨f0,f1⟩,_⟩:=h.num.mv _ (List.getElem_mem hk)
  rw [Wq,ZG hk,Zs,hx,ZA (by omega)]
  generalize t.Machine.Moves[k]=x at *
  simp only [cT,bS]
  refine YC (fun _=>hi) fun _=>YC (fun _=>Yt _) fun _=>?_
  obtain ⟨l,hl⟩:=Y3 (L:=t.out') f0 (by omega)
  obtain ⟨b,hb⟩:=Y3 (L:=t.Machine.Finals) f0 (by have:=h.num.f;omega)
  simp only [hl,hb,bS]
  refine YC (fun _=>Yt _) fun _=>YC (fun _=>Yt _) fun _=>YC (fun _=>Yt _) fun _=>?_
  have hag:∃ b,Px (k:Int) (Wq N t n)=some b:=by
   unfold Px
   rw [ZA (by omega)];exact hi
  generalize Wq N t n=ag at hag
  refine UU (F:=UA t (k:Int) ag x) (len:=t.Machine.Moves.length) (fun n j hj hi=>?_) (fun n j hj=>?_) _ N 0 rfl (by omega)
  ·rw [UA,ZG hj,Zs,Za hj,ZA (by omega)]
   simp only [cT,bS]
   exact YC (fun _=>YC (fun _=>Yt _) fun _=>YC (fun _=>Yt _) fun _=>hi) fun _=>hi
  ·rw [UA,ZJ hj]
   exact hag
 ·rw [Wq,ZJ hk]
  exact Yt _
theorem Zs1 (hN:4194304 < N) (h:Sl t m) (ht:m.Timeouts.length≤4194304):∃ b,Hd N t=some b:=by
 have hn:=h.num.n
 have hm:=h.mm
 subst hm
 refine UU (F:=YS t) (len:=t.Machine.Timeouts.length) (fun n k hk hi=>?_) (fun n k hk=>?_) _ N 0 rfl (by omega)
 ·have hx:=Za hk
  rw [YS,ZG hk,Zs,hx]
  simp only [cT,bS]
  generalize t.Machine.Timeouts[k]=x at *
  have h3:∀ b:Bool,(b=false→0≤x.Else∧x.Else < (t.Machine.Moves.length:Int))→∃ r,XG t (k:Int) (YS t n) x b=some r:=fun b hb=>by
   unfold XG
   refine YC (fun _=>Yt _) fun e=>?_
   obtain ⟨a1,a2⟩:=hb e
   obtain ⟨y,hy⟩:=Y3 (L:=t.Machine.Moves) a1 a2
   simp only [hy,bS]
   refine YC (fun _=>Yt _) fun _=>YC (fun _=>Yt _) fun _=>YC (fun _=>Yt _) fun _=>?_
   rw [ZA (by omega)];exact hi
  have ht':∃ r,XG t (k:Int) (YS t n) x true=some r:=h3 true (fun e=>by cases e)
  have tail:∃ r,(bif decide (x.Ticks < 1) then XG t (k:Int) (YS t n) x true else bif decide (x.Ticks > 1000) then XG t (k:Int) (YS t n) x true
    else bif decide (x.Else < 0) then XG t (k:Int) (YS t n) x true else XG t (k:Int) (YS t n) x (decide (x.Else≥(t.Machine.Moves.length:Int))))=some r :=
   YC (fun _=>ht') fun _=>YC (fun _=>ht') fun _=>YC (fun _=>ht') fun e=>h3 _ fun e2=>by
    simp only [decide_eq_false_iff_not] at e e2
    exact ⟨by omega,by omega⟩
  refine YC (fun e=>?_) fun _=>tail
  have hk0:0 < k:=by simpa using e
  have w:Zi ((k:Int)-1)=((k-1:Nat):Int):=by rw [Ym (by omega) (by omega)];omega
  rw [w,Zs,Za (by omega:k-1 < t.Machine.Timeouts.length)]
  simp only [bS]
  exact YC (fun _=>ht') fun _=>tail
 ·rw [YS,ZJ hk]
  exact Yt _
end
section
variable {N:Nat}
structure InvR (S:Nat) (a:List Bool) (q:List Int):Prop where
 len:a.length=S
 qq:∀ i∈q,0≤i∧i < (S:Int)
 c:q.length+a.count false≤S
theorem InvR.add {S:Nat} {a:List Bool} {q:List Int} (h:InvR S a q) {j:Nat} (hj:a[j]? = some false):InvR S (a.set j true) (q++[(j:Int)]):=by
 obtain ⟨hl,he⟩:=List.getElem?_eq_some_iff.1 hj
 refine ⟨by simpa using h.len,fun i hi=>?_,?_⟩
 ·rcases List.mem_append.1 hi with hi | hi
  ·exact h.qq i hi
  ·rw [List.mem_singleton.1 hi];have:=h.len;omega
 ·have h1:0 < a.count false:=List.count_pos_iff.2 (Zb hj)
  have h2:=List.count_set (a:=true) (b:=false) (l:=a) hl
  rw [he] at h2
  have:=h.c
  simp at h2
  simp
  omega
variable {t:YF} {m:T8}
theorem Zsv (hN:4194304 < N) (h:Sl t m) (S:Nat) (hS:m.States=(S:Int)) (k:Nat) (ag:List Bool→List Int→Int→Option Bool) (hag:∀ a q,InvR S a q→∃ b,ag a q (Zi ((k:Int)+1))=some b)
  (l:List Int) (s:Nat) (hl:t.out'[s]? = some l):∀ (d n j:Nat) (a:List Bool) (q:List Int),InvR S a q→l.length-j=d→d < n→∃ b,UC t (k:Int) ag l n a q (j:Int)=some b:=by
 intro d
 obtain ⟨l1,l2⟩:=h.out s l hl
 have hs1:=h.num.s1
 induction d with
 | zero =>
  intro n j a q hi hd hn
  obtain ⟨n,rfl⟩:=pS n (by omega)
  rw [UC,ZJ (by omega)]
  exact hag a q hi
 | succ d ih =>
  intro n j a q hi hd hn
  obtain ⟨n,rfl⟩:=pS n (by omega)
  have hj:j < l.length:=by omega
  obtain ⟨p,x,e1,e2,_⟩:=l2 l[j] (List.getElem_mem hj)
  obtain ⟨_,⟨t0,t1⟩,_⟩:=h.num.mv x (Zb e2)
  obtain ⟨c,hc⟩:=Ze t0
  have hcl:c < a.length:=by rw [hi.len];omega
  rw [UC,ZG hj,Zs,Za hj,ZA (by omega)]
  simp only [cT,bS]
  rw [e1,Zs,h.mm,e2]
  simp only [bS]
  rw [hc,Zs,Za hcl]
  simp only [bS]
  cases hb:a[c] with
  | true=>exact ih n (j+1) a q hi (by omega) (by omega)
  | false =>
   have hcc:=hi.c
   simp only [Bool.not_false,cT]
   rw [Yl (by simp;omega),WH]
   simp only [bS]
   exact ih n (j+1) _ _ (hi.add (by rw [Za hcl,hb])) (by omega) (by omega)
theorem ZqV (hN:4194304 < N) (h:Sl t m) (S:Nat) (hS:m.States=(S:Int)):∀ (d n k:Nat) (a:List Bool) (q:List Int),InvR S a q→S-k=d→d < n→∃ b,WS N t n a q (k:Int)=some b:=by
 intro d
 have hs1:=h.num.s1
 have step:∀ (n k:Nat) (a:List Bool) (q:List Int),InvR S a q→(k < q.length→∀ a q,InvR S a q→∃ b,WS N t n a q (Zi ((k:Int)+1))=some b)→∃ b,WS N t (n+1) a q (k:Int)=some b:=fun n k a q hi hnx=>by
  rw [WS]
  by_cases hk:k < q.length
  ·rw [ZG hk,Zs,Za hk]
   simp only [cT,bS]
   obtain ⟨q0,q1⟩:=hi.qq _ (List.getElem_mem hk)
   obtain ⟨c,hc⟩:=Ze q0
   have hcl:c < t.out'.length:=by rw [h.len];omega
   rw [hc,Zs,Za hcl]
   simp only [bS]
   have hle:=(h.out c _ (Za hcl)).1
   exact Zsv hN h S hS k _ (hnx hk) _ c (Za hcl) _ N 0 a q hi rfl (by omega)
  ·rw [ZJ (Nat.not_lt.1 hk)]
   exact Yt _
 induction d with
 | zero =>
  intro n k a q hi hd hn
  obtain ⟨n,rfl⟩:=pS n (by omega)
  exact step n k a q hi fun hk=>by have:=hi.c;omega
 | succ d ih =>
  intro n k a q hi hd hn
  obtain ⟨n,rfl⟩:=pS n (by omega)
  refine step n k a q hi fun hk a q hi=>?_
  rw [ZA (by omega)]
  exact ih n (k+1) a q hi (by omega) (by omega)
theorem ZqC (hN:4194304 < N) (h:Sl t m):∃ b,Mt N t=some b:=by
 have h0:=h.num.s0
 have h1:=h.num.s1
 have b0:=h.num.b0
 have b1:=h.num.b1
 obtain ⟨S,hS⟩:=Ze (show 0≤m.States by omega)
 obtain ⟨c,hc⟩:=Ze b0
 unfold Mt
 rw [h.mm]
 have e:YG false m.States m.States=some (List.replicate S false):=by
  unfold YG
  rw [dT (by omega:0≤m.States),dT (by omega:m.States≤m.States),dT (by omega:m.States≤4294967296),hS];rfl
 rw [e,hc]
 simp only [bS,Zs,WH]
 have hcl:c < S:=by omega
 have hg:(List.replicate S false)[c]? = some false:=by rw [List.getElem?_replicate,if_pos hcl]
 rw [hg]
 simp only [bS]
 refine ZqV hN h S hS _ N 0 _ _ ⟨by simp,fun i hi=>by rw [List.mem_singleton.1 hi];omega,?_⟩ rfl (by omega)
 have h2:=List.count_set (a:=true) (b:=false) (l:=List.replicate S false) (i:=c) (by simpa using hcl)
 simp at h2
 simp
 omega
theorem Zn7 (hN:4194304 < N) (m:T8) (ht:m.Timeouts.length≤4194304):∃ b,PN N m=some b∧(b=true→XL m):=by
 unfold PN P8
 rw [Zho hN]
 simp only [bS]
 cases hm:R6 m with
 | false=>exact ⟨false,rfl,fun h=>by cases h⟩
 | true =>
  have hm:=(ZhG m).1 hm
  rw [ZiZ hN m hm]
  have h:=ZdD hN m hm
  obtain ⟨b1,e1⟩:=Znd hN h
  obtain ⟨b2,e2⟩:=ZqC hN h
  obtain ⟨b3,e3⟩:=Znt hN h
  obtain ⟨b4,e4⟩:=Zs1 hN h ht
  simp only [Zh,cond_false,bS,e1,e2,e3,e4]
  cases b1<;>cases b2<;>cases b3<;>exact ⟨_,rfl,fun _=>hm⟩
end
section
variable {N:Nat}
theorem Zn9 (s:ByteArray):∀ (r:List UInt8) (n i:Nat),(bs s).drop i=r→r.length < n→∃ z,Rz N s true n i=some z∧decide (z≥0)=r.any Yw:=by
 intro r
 induction r with
 | nil =>
  intro n i h hn
  obtain ⟨n,rfl⟩:=pS n (by simp at hn;omega)
  have hi:=XF h
  unfold Rz
  have:decide (i < s.size)=false:=by rw [YU];simp;omega
  rw [this]
  exact ⟨-1,rfl,rfl⟩
 | cons b r ih =>
  intro n i h hn
  obtain ⟨n,rfl⟩:=pS n (by simp at hn;omega)
  obtain ⟨h1,h2,h3⟩:=Xr h
  simp only [Zg] at hn
  unfold Rz
  have:decide (i < s.size)=true:=by rw [YU];simp;omega
  rw [this,List.any_cons]
  simp only [cT,Zc9]
  by_cases hb:b.toNat < 128
  ·rw [Zj5 s i b h2 hb]
   by_cases c1:b.toNat < 32
   ·have e1:decide (((b.toNat:Nat):Int) < 32)=true:=by simp;omega
    have e2:Yw b=true:=by simp [Yw,c1]
    rw [e1,e2]
    exact ⟨(i:Int),rfl,by simp⟩
   ·have e1:decide (((b.toNat:Nat):Int) < 32)=false:=by simp;omega
    rw [e1]
    simp only [cond_false,bS]
    by_cases c2:126 < b.toNat
    ·have e3:decide (((b.toNat:Nat):Int) > 126)=true:=by simp;omega
     have e2:Yw b=true:=by simp [Yw,c2]
     rw [e3,e2]
     exact ⟨(i:Int),rfl,by simp⟩
    ·have e3:decide (((b.toNat:Nat):Int) > 126)=false:=by simp;omega
     have e2:Yw b=false:=by simp [Yw];omega
     rw [e3,e2]
     exact ih n (i+1) h3 (by omega)
  ·have hd:=ZhP s i b h2 hb
   have e2:Yw b=true:=by simp [Yw];omega
   generalize (Utf8.decode s i).1=c at hd ⊢
   have e1:decide ((c:Int) < 32)=false:=by simp;omega
   have e3:decide ((c:Int) > 126)=true:=by simp;omega
   rw [e1,e2]
   simp only [cond_false,bS]
   rw [e3]
   exact ⟨(i:Int),rfl,by simp⟩
theorem Zlt (hN:4194304 < N) (s:ByteArray) (hs:s.size≤4194304):H2 N s=some ((bs s).any Yw):=by
 obtain ⟨z,h1,h2⟩:=Zn9 (N:=N) s (bs s) N 0 rfl (by rw [YU] at hs;omega)
 unfold H2 Zaz ZbA
 rw [h1]
 simp only [bS]
 rw [h2]
def SR (v:Zk):Int:=bif v.Kind==1 then v.N else bif v.Kind==2 then (v.S.size:Int) else 0
def TB (s:Yg):Bool:=bif s.Kind==1 then (decide (-1000≤s.Lo) && (decide (s.Lo≤s.Hi) && decide (s.Hi≤1000))) else bif s.Kind==2 then (decide (0≤s.Lo) && (decide (s.Lo≤s.Hi) && decide (s.Hi≤40))) else false
def Vr (v:Zk):Bool:=bif v.Kind==1 then (decide (v.N≥-1000) && (decide (v.N≤1000) && (v.S.toList==(str []).toList))) else bif v.Kind==2 then (v.N==0 && (decide ((v.S.size:Int)≤40) && !(bs v.S).any Yw)) else false
def Wv (s:Yg) (v:Zk):Bool:=TB s && (Vr v && (s.Kind==v.Kind && (decide (SR v≥s.Lo) && decide (SR v≤s.Hi))))
theorem Zr0 (v:Zk):DX N v=some (SR v):=by
 unfold DX SR
 cases (v.Kind==1)<;>cases (v.Kind==2)<;>rfl
theorem ZoS (s:Yg):z76 N s=some (TB s):=by
 unfold z76 TB Hy
 cases (s.Kind==1)
 ·cases (s.Kind==2)
  ·rfl
  ·simp only [cT,cond_false]
   cases decide (0≤s.Lo)<;>cases decide (s.Lo≤s.Hi)<;>rfl
 ·simp only [cT]
  cases decide (-1000≤s.Lo)<;>cases decide (s.Lo≤s.Hi)<;>rfl
theorem Zo4 (hN:4194304 < N) (v:Zk) (hv:v.S.size≤4194304):z77 N v=some (Vr v):=by
 unfold z77 Vr Za1
 rw [Zlt hN _ hv]
 simp only [bS]
 cases (v.Kind==1)
 ·cases (v.Kind==2)
  ·rfl
  ·cases (v.N==0)<;>cases decide ((v.S.size:Int)≤40)<;>rfl
 ·cases decide (v.N≥-1000)<;>cases decide (v.N≤1000)<;>rfl
theorem Zhi (hN:4194304 < N) (s:Yg) (v:Zk) (hv:v.S.size≤4194304):Hv N s v=some (Wv s v):=by
 unfold Hv Wv
 rw [Zr0,ZoS,Zo4 hN v hv]
 simp only [bS]
 cases TB s<;>cases Vr v<;>cases (s.Kind==v.Kind)<;>cases decide (SR v≥s.Lo)<;>rfl
theorem ZrI {s:Yg} {v:Zk} (h:Wv s v=true):v.S.size≤40:=by
 unfold Wv at h
 simp only [Zc] at h
 have h:=h.2.1
 unfold Vr at h
 cases h1:(v.Kind==1)
 ·rw [h1] at h
  cases h2:(v.Kind==2)
  ·rw [h2] at h;cases h
  ·rw [h2] at h
   simp only [cT,cond_false,Zc,decide_eq_true_eq] at h
   omega
 ·rw [h1] at h
  simp only [cT,Zc] at h
  have h:=beq_iff_eq.1 h.2.2
  rw [XS,XS,M8] at h
  rw [YU,h];decide
theorem MU {A B:Type} (p:A→B→Bool) {xs:List A} {ys:List B} {F:Nat→Int→Option Bool} {n:Nat} (hl:xs.length=ys.length) (hn:xs.length < n)
  (h1:∀ n k x y,k < xs.length→xs[k]? = some x→ys[k]? = some y→F (n+1) (k:Int)=bif p x y then F n ((k+1:Nat):Int) else some false)
  (h2:∀ n k,xs.length≤k→F (n+1) (k:Int)=some true):∃ b,F n (0:Int)=some b∧(b=true↔∀ (i:Nat) x y,xs[i]? = some x→ys[i]? = some y→p x y=true):=by
 let q:A→Nat→Bool:=fun x k=>match ys[k]? with
  | some y=>p x y
  | none=>false
 have h:=YD q (xs:=xs) (F:=F) (e:=some true) (n:=n) hn (fun n k x hk hx=>by
  have hy:=Za (show k < ys.length by omega)
  rw [h1 n k x _ hk hx hy]
  show _=bif (match ys[k]? with | some y=>p x y | none=>false) then _ else _
  rw [hy]) h2
 refine ⟨ZN q xs 0,by rw [h];cases ZN q xs 0<;>rfl,?_⟩
 rw [Xc]
 constructor
 ·intro h i x y hx hy
  have:=h i x hx
  rw [Nat.zero_add] at this
  have e:q x i=p x y:=by show (match ys[i]? with | some y=>p x y | none=>false)=_;rw [hy]
  rwa [e] at this
 ·intro h i x hx
  have hi:=(List.getElem?_eq_some_iff.1 hx).1
  have hy:=Za (show i < ys.length by omega)
  rw [Nat.zero_add]
  have e:q x i=p x ys[i]:=by show (match ys[i]? with | some y=>p x y | none=>false)=_;rw [hy]
  rw [e]
  exact h i x _ hx hy
theorem MK (a b:Nat):((a:Int) != (b:Int)) = !decide (a=b):=Zcu a b
def S3 (fs:List T4) (vs:List Zk):Prop:=fs.length=vs.length∧∀ (i:Nat) (f:T4) (v:Zk),fs[i]? = some f→vs[i]? = some v→Wv f.Sort' v=true
def RH (fs:List T4) (ks:List Zk):Prop:=fs.length=ks.length∧∀ (i:Nat) (f:T4) (v:Zk),fs[i]? = some f→ks[i]? = some v→(X7 v || Wv f.Sort' v)=true
theorem ZkG (hN:4194304 < N) (fs:List T4) (vs:List Zk) (hl:vs.length≤4194304) (hv:∀ v∈vs,v.S.size≤4194304):∃ b,La N fs vs=some b∧(b=true↔S3 fs vs):=by
 unfold La Zbp
 rw [MK]
 by_cases h:fs.length=vs.length
 ·rw [dT h]
  obtain ⟨b,e,hb⟩:=MU (fun (f:T4) (v:Zk)=>Wv f.Sort' v) (xs:=fs) (ys:=vs) (F:=QD N fs vs) (n:=N) h (by omega) (fun n k f v hk hf hv'=>by
   rw [QD,ZG hk,Zs,hf,Zs,hv',ZA (by omega)]
   simp only [cT,bS,z85,Zhi hN _ _ (hv v (Zb hv'))]
   cases Wv f.Sort' v<;>rfl) (fun n k hk=>by
   rw [QD,ZJ hk];rfl)
  simp only [Zh,cond_false,e,bS]
  exact ⟨b,rfl,hb.trans ⟨fun g=>⟨h,g⟩,fun g=>g.2⟩⟩
 ·rw [dF h]
  exact ⟨false,rfl,by simp;intro g;exact h g.1⟩
theorem ZkU (hN:4194304 < N) (fs:List T4) (vs:List Zk) (hl:vs.length≤4194304) (hv:∀ v∈vs,v.S.size≤4194304):∃ b,Bp N fs vs=some b∧(b=true↔RH fs vs):=by
 unfold Bp
 rw [MK]
 by_cases h:fs.length=vs.length
 ·rw [dT h]
  obtain ⟨b,e,hb⟩:=MU (fun (f:T4) (v:Zk)=>X7 v || Wv f.Sort' v) (xs:=fs) (ys:=vs) (F:=RF N fs vs) (n:=N) h (by omega) (fun n k f v hk hf hv'=>by
   rw [RF,ZG hk,Zs,hf,Zs,hv',ZA (by omega)]
   simp only [cT,bS,z39,Zhi hN _ _ (hv v (Zb hv'))]
   show ((bif X7 v then some true else some (Wv f.Sort' v)).bind fun x27=>_)=_
   cases X7 v<;>cases Wv f.Sort' v<;>rfl) (fun n k hk=>by
   rw [RF,ZJ hk];rfl)
  simp only [Zh,cond_false,e]
  exact ⟨b,rfl,hb.trans ⟨fun g=>⟨h,g⟩,fun g=>g.2⟩⟩
 ·rw [dF h]
  exact ⟨false,rfl,by simp;intro g;exact h g.1⟩
end
section
variable {N:Nat}
theorem ZaC {A:Type} (p:A→Bool) {xs:List A} {F:Nat→Int→Option Int} (h1:∀ n k x,k < xs.length→xs[k]? = some x→F (n+1) (k:Int)=bif p x then some (k:Int) else F n ((k+1:Nat):Int))
  (h2:∀ n k,xs.length≤k→F (n+1) (k:Int)=some (-1)):∀ (d n k:Nat),xs.length-k=d→d < n→∃ z,F n (k:Int)=some z∧((z=-1∧∀ (i:Nat) x,k≤i→xs[i]? = some x→p x=false)∨∃ (i:Nat) (x:A),z=(i:Int)∧xs[i]? = some x∧p x=true):=by
 intro d
 induction d with
 | zero =>
  intro n k hd hn
  obtain ⟨n,rfl⟩:=pS n (by omega)
  exact ⟨-1,h2 n k (by omega),.inl ⟨rfl,fun i x hi hx=>by have:=(List.getElem?_eq_some_iff.1 hx).1;omega⟩⟩
 | succ d ih =>
  intro n k hd hn
  obtain ⟨n,rfl⟩:=pS n (by omega)
  have hk:k < xs.length:=by omega
  have hx:=Za hk
  rw [h1 n k _ hk hx]
  cases hp:p xs[k] with
  | true=>exact ⟨_,rfl,.inr ⟨k,_,rfl,hx,hp⟩⟩
  | false =>
   obtain ⟨z,e,h⟩:=ih n (k+1) (by omega) (by omega)
   refine ⟨z,e,h.imp (fun ⟨a,b⟩=>⟨a,fun i x hi hx'=>?_⟩) id⟩
   by_cases e:i=k
   ·subst e;rw [hx] at hx';cases hx';exact hp
   ·exact b i x (by omega) hx'
theorem Zej (hN:4194304 < N) (g:T5) (hv:YO g.Decls=true):Bc N g=some (Zx g.Decls):=by
  unfold YO at hv
  simp only [Zc,decide_eq_true_eq] at hv
  obtain ⟨v1,v2,_⟩:=hv
  have ZR:∀ (r:List T0) (n k:Nat) (acc:List T4),g.Decls.drop k=r→r.length < n→acc.length+(Zx r).length≤24→QQ g n acc (k:Int)=some (acc++Zx r):=by
    intro r
    induction r with
    | nil =>
      intro n k acc hr hn _
      obtain ⟨n,rfl⟩:=pS n (by simp at hn;omega)
      rw [QQ,ZJ (List.drop_eq_nil_iff.1 hr)]
      simp [DW,Zx]
    | cons x r ih =>
      intro n k acc hr hn hl
      obtain ⟨n,rfl⟩:=pS n (by simp at hn;omega)
      have hk:k < g.Decls.length:=by
        refine Nat.not_le.1 fun h=>?_
        rw [List.drop_eq_nil_iff.2 h] at hr;cases hr
      have hx:g.Decls[k]? = some x:=by
        have:=congrArg (·[0]?) hr
        simpa using this
      rw [QE,lA] at hl
      rw [QQ,ZG hk,Zs,hx,ZA (by omega)]
      simp only [cT,bS]
      rw [Yl (by omega)]
      simp only [bS]
      rw [ih n (k+1) (acc++x.Fields) (by have:=congrArg (List.drop 1) hr;simpa [List.drop_drop,Nat.add_comm] using this) (by simp at hn;omega) (by rw [lA];omega),QE,aA]
  exact ZR g.Decls N 0 [] rfl (by omega) (by simpa using v2)
structure MZ (g:T5) (m:T8):Prop where
 v:YO g.Decls=true
 n:XL m
 l:∀ x∈m.Moves,x.Label < (g.Decls.length:Int)
theorem Zjj (hN:4194304 < N) (g:T5) (hg:Ua g) (hs:VX g) (m:T8) (ht:m.Timeouts.length≤4194304):∃ b,Tz N g m=some b∧(b=true→MZ g m):=by
 unfold Tz
 obtain ⟨b1,e1,h1⟩:=ZlI hN g hg hs
 obtain ⟨b2,e2,h2⟩:=Zn7 hN m ht
 rw [e1,e2]
 simp only [bS]
 cases b1 with
 | false=>exact ⟨false,rfl,fun h=>by cases h⟩
 | true =>
 cases b2 with
 | false=>exact ⟨false,rfl,fun h=>by cases h⟩
 | true =>
 have hm:=h2 rfl
 have hn:=hm.n
 simp only [cT]
 cases decide (m.Role < (g.Roles.length:Int)) with
 | false=>exact ⟨false,rfl,fun h=>by cases h⟩
 | true =>
 simp only [cT]
 unfold Gr Gn
 have ep:∀ y,Pm N y g=some (decide (y.Peer≥(g.Roles.length:Int)) || decide (y.Label≥(g.Decls.length:Int))):=fun y=>by
  unfold Pm
  cases decide (y.Peer≥(g.Roles.length:Int))<;>rfl
 obtain ⟨z,ez,hz⟩:=ZaC (fun (y:T9)=>decide (y.Peer≥(g.Roles.length:Int)) || decide (y.Label≥(g.Decls.length:Int))) (xs:=m.Moves) (F:=TH N m.Moves g) (fun n k x hk hx=>by
  rw [TH,ZG hk,Zs,hx,ZA (by omega)]
  simp only [cT,bS,ep]) (fun n k hk=>by
  rw [TH,ZJ hk];rfl) _ N 0 rfl (by omega)
 rw [show ((0:Nat):Int)=0 from rfl] at ez
 rw [ez]
 simp only [bS]
 refine ⟨_,rfl,fun h=>⟨h1 rfl,hm,fun x hx=>?_⟩⟩
 rcases hz with ⟨_,hz⟩ | ⟨i,y,rfl,_,_⟩
 ·obtain ⟨i,hi⟩:=List.getElem?_of_mem hx
  have:=hz i x (Nat.zero_le _) hi
  simp only [Bool.or_eq_false_iff,decide_eq_false_iff_not] at this
  omega
 ·simp at h
structure StM (g:T5) (m:T8) (s:ZM):Prop where
 a0:0≤s.At
 a1:s.At < m.States
 k:RH (Zx g.Decls) s.Known
 p:s.Pending.length≤4194304
theorem Zty {v:Zk} (h:X7 v=true):v.S.size=0:=by
 unfold X7 at h
 simp only [Zc] at h
 have h:=beq_iff_eq.1 h.2.2.1
 rw [XS,XS,M8] at h
 rw [YU,h];rfl
theorem PT {fs:List T4} {ks:List Zk} (h:RH fs ks):∀ v∈ks,v.S.size≤4194304:=fun v hv=>by
 obtain ⟨i,hi⟩:=List.getElem?_of_mem hv
 have hl:=(List.getElem?_eq_some_iff.1 hi).1
 have:=h.2 i _ v (Za (by rw [h.1];exact hl)) hi
 rw [Bool.or_eq_true] at this
 rcases this with h | h
 ·have:=Zty h;omega
 ·have:=ZrI h;omega
theorem Sd {l:List T0} (h:YO l=true):l.length≤40∧(Zx l).length≤24:=by
 unfold YO at h
 simp only [Zc,decide_eq_true_eq] at h
 exact ⟨h.1,h.2.1⟩
theorem ZnG (hN:4194304 < N) (g:T5) (hg:Ua g) (hs:VX g) (m:T8) (ht:m.Timeouts.length≤4194304) (s:ZM) (hk:s.Known.length≤4194304) (hv:∀ v∈s.Known,v.S.size≤4194304) :
  ∃ b,Sb N g m s=some b∧(b=true→MZ g m)∧(∀ _:Tz N g m=some true,StM g m s→b=true):=by
 unfold Sb
 obtain ⟨b,e,h⟩:=Zjj hN g hg hs m ht
 rw [e]
 simp only [bS]
 cases b with
 | false=>exact ⟨false,rfl,(fun h=>by cases h),(fun h=>by cases h)⟩
 | true =>
 have hA:=h rfl
 rw [Zej hN g hA.v]
 obtain ⟨b,eb,hb⟩:=ZkU hN (Zx g.Decls) s.Known hk hv
 simp only [cT,bS,eb]
 cases c1:decide (s.At≥0) with
 | false=>exact ⟨false,rfl,(fun h=>by cases h),fun _ h=>by have:=h.a0;simp at c1;omega⟩
 | true =>
 cases c2:decide (s.At < m.States) with
 | false=>exact ⟨false,rfl,(fun h=>by cases h),fun _ h=>by have:=h.a1;simp at c2;omega⟩
 | true=>exact ⟨b,rfl,fun _=>hA,fun _ h=>hb.2 h.k⟩
theorem ZiU (a:ByteArray):Op.bytesLess a.toList a.toList=false:=by
 generalize a.toList=l
 induction l with
 | nil=>rfl
 | cons x l ih=>unfold Op.bytesLess;simp [ih]
theorem Zrz (a b:ByteArray):∃ z,P4 N a b=some z∧(a=b→z=0):=by
 unfold P4 M4
 have e:∀ x:ByteArray,(!(x.toList==x.toList))=false:=fun x=>by simp
 simp only [bS,e,cond_false]
 cases h1:Op.bytesLess a.toList b.toList with
 | true=>exact ⟨_,rfl,fun h=>by subst h;rw [show Op.bytesLess a.toList a.toList=false from ZiU a] at h1;cases h1⟩
 | false =>
  cases h2:(a.toList==b.toList) with
  | true=>exact ⟨_,rfl,fun _=>rfl⟩
  | false=>exact ⟨_,rfl,fun h=>by subst h;simp at h2⟩
end
section
variable {N:Nat}
theorem or4 (hN:4194304 < N) (a b c d:Int):∃ z,TQ N [a,b,c,d]=some z∧(a=0→b=0→c=0→d=0→z=0):=by
 obtain ⟨n,rfl⟩:∃ n,N=n+5:=⟨N-5,by omega⟩
 unfold TQ
 rw [WO,WO,WO,WO,WO]
 have w0:Zi ((0:Int)+1)=1:=by decide
 have w1:Zi ((1:Int)+1)=2:=by decide
 have w2:Zi ((2:Int)+1)=3:=by decide
 have w3:Zi ((3:Int)+1)=4:=by decide
 rw [w0,w1,w2,w3]
 have i0:Zm [a,b,c,d] 0=some a:=rfl
 have i1:Zm [a,b,c,d] 1=some b:=rfl
 have i2:Zm [a,b,c,d] 2=some c:=rfl
 have i3:Zm [a,b,c,d] 3=some d:=rfl
 rw [i0,i1,i2,i3]
 have l0:decide ((0:Int) < (([a,b,c,d]:List Int).length:Int))=true:=rfl
 have l1:decide ((1:Int) < (([a,b,c,d]:List Int).length:Int))=true:=rfl
 have l2:decide ((2:Int) < (([a,b,c,d]:List Int).length:Int))=true:=rfl
 have l3:decide ((3:Int) < (([a,b,c,d]:List Int).length:Int))=true:=rfl
 have l4:decide ((4:Int) < (([a,b,c,d]:List Int).length:Int))=false:=rfl
 rw [l0,l1,l2,l3,l4]
 simp only [cT,cond_false,bS]
 cases h0:(a != 0)
 ·cases h1:(b != 0)
  ·cases h2:(c != 0)
   ·cases h3:(d != 0)
    ·exact ⟨0,rfl,fun _ _ _ _=>rfl⟩
    ·exact ⟨d,rfl,fun _ _ _ h=>h⟩
   ·exact ⟨c,rfl,fun _ _ h _=>h⟩
  ·exact ⟨b,rfl,fun _ h _ _=>h⟩
 ·exact ⟨a,rfl,fun h _ _ _=>h⟩
theorem Zfy (x:Int):cI x x=0:=by
 rcases Zac x x with ⟨h,_⟩ | ⟨h,_⟩ | ⟨_,h⟩
 ·omega
 ·omega
 ·exact h
theorem ZkS (hN:4194304 < N) (a b:Zk):∃ z,VB N a b=some z∧(a=b→z=true):=by
 unfold VB Dc
 obtain ⟨s,es,hs⟩:=Zrz (N:=N) a.S b.S
 rw [Ry,Ry,Ry,es]
 simp only [bS]
 obtain ⟨z,ez,hz⟩:=or4 hN (cI a.Kind b.Kind) (cI a.N b.N) (cI (a.S.size:Int) (b.S.size:Int)) s
 rw [ez]
 refine ⟨_,rfl,fun h=>?_⟩
 subst h
 rw [hz (Zfy _) (Zfy _) (Zfy _) (hs rfl)];rfl
theorem ZlH (hN:4194304 < N) (a b:List Zk) (hl:a.length≤4194304):∃ z,Sj N a b=some z∧(a=b→z=true):=by
 unfold Sj Ge
 rw [MK]
 by_cases h:a.length=b.length
 ·rw [dT h]
  let p:Zk→Zk→Bool:=fun x y=>(VB N x y).getD false
  obtain ⟨z,ez,hz⟩:=MU p (xs:=a) (ys:=b) (F:=U3 N a b) (n:=N) h (by omega) (fun n k x y hk hx hy=>by
   rw [U3,ZG hk,Zs,hx,Zs,hy,ZA (by omega)]
   obtain ⟨q,eq,_⟩:=ZkS hN x y
   have e:p x y=q:=by show (VB N x y).getD false=q;rw [eq];rfl
   simp only [cT,bS,eq,e]
   cases q<;>rfl) (fun n k hk=>by
   rw [U3,ZJ hk];rfl)
  simp only [Zh,cond_false,ez,bS]
  refine ⟨z,rfl,fun e=>hz.2 fun i x y hx hy=>?_⟩
  subst e
  rw [hx] at hy;cases hy
  obtain ⟨q,eq,hq⟩:=ZkS hN x x
  show (VB N x x).getD false=true
  rw [eq,hq rfl];rfl
 ·rw [dF h]
  exact ⟨false,rfl,fun e=>absurd (congrArg List.length e) h⟩
structure Uq (x:T3):Prop where
 l:x.Values.length≤4194304
 s:∀ v∈x.Values,v.S.size≤4194304
theorem Zts {d:List T0} {i:Nat} {x:T0} (hx:d[i]? = some x) {j:Nat} (hj:j < x.Fields.length):(Zx d)[(Zx (d.take i)).length+j]? = x.Fields[j]? := by
 have hi:=(List.getElem?_eq_some_iff.1 hx).1
 have e:d=d.take i++x::d.drop (i+1):=by
  have h1:d[i]=x:=(List.getElem?_eq_some_iff.1 hx).2
  rw [← h1]
  exact (List.take_append_drop i d).symm.trans (by rw [List.drop_eq_getElem_cons hi])
 have e2:Zx d=Zx (d.take i)++(x.Fields++Zx (d.drop (i+1))):=by
  rw [← QE,← TJ,← e]
 rw [e2,List.getElem?_append_right (Nat.le_add_right _ _),Nat.add_sub_cancel_left,List.getElem?_append_left hj]
theorem ZnR {d:List T0} {i first:Nat} {x:T0} {vs ks:List Zk} (hx:d[i]? = some x) (hf:x.First=(first:Int)) (hd:X5 (Zx d) d x i=true) (hle:first+vs.length≤ks.length)
  (hk:RH (Zx d) ks) (hv:S3 x.Fields vs):RH (Zx d) (Yj first vs ks):=by
 unfold X5 at hd
 simp only [Zc,decide_eq_true_eq] at hd
 have hF:first=(Zx (d.take i)).length:=by have:=hd.2.2.1;omega
 refine ⟨by rw [HX first vs ks hle];exact hk.1,fun j f v h1 h2=>?_⟩
 rw [PH first vs ks hle] at h2
 split at h2
 ·rename_i hj
  have hj':j-first < x.Fields.length:=by rw [hv.1];omega
  have:=Zts hx hj'
  rw [← hF,show first+(j-first)=j by omega,h1] at this
  rw [hv.2 (j-first) f v this.symm h2,Bool.or_true]
 ·exact hk.2 j f v h1 h2
theorem ZtE (hN:4194304 < N) (g:T5) (hg:Ua g) (hs:VX g) (m:T8) (hA:MZ g m) (s:ZM) (hS:StM g m s) (x:T3) (hx:Uq x) :
  ∃ r,z25 N g m s x=some r∧(r.2=0→StM g m r.1)∧r.2≠1:=by
 obtain ⟨v1,v2⟩:=Sd hA.v
 have hn:=hA.n.n
 have hkl:s.Known.length≤4194304:=by rw [← hS.k.1];omega
 have hks:=PT hS.k
 unfold z25 LW
 have ep:∀ y,Mx N y s x=some (y.From==s.At && (y.Send==x.Send && (y.Peer==x.Peer && y.Label==x.Label))):=fun y=>by
  unfold Mx
  cases (y.From==s.At)<;>cases (y.Send==x.Send)<;>cases (y.Peer==x.Peer)<;>rfl
 obtain ⟨z,ez,hz⟩:=ZaC (fun (y:T9)=>(y.From==s.At && (y.Send==x.Send && (y.Peer==x.Peer && y.Label==x.Label)))) (xs:=m.Moves) (F:=Ti N m.Moves s x) (fun n k y hk hy=>by
  rw [Ti,ZG hk,Zs,hy,ZA (by omega)]
  simp only [cT,bS,ep]) (fun n k hk=>by
  rw [Ti,ZJ hk];rfl) _ N 0 rfl (by omega)
 rw [show ((0:Nat):Int)=0 from rfl] at ez
 rw [ez]
 simp only [bS]
 cases (x.Role != m.Role) with
 | true=>exact ⟨_,rfl,(fun h=>by cases h),by decide⟩
 | false =>
 rcases hz with ⟨rfl,_⟩ | ⟨k,y,rfl,hy,hp⟩
 ·exact ⟨_,rfl,(fun h=>by cases h),by decide⟩
 have h0:decide ((k:Int) < 0)=false:=by simp
 rw [h0]
 simp only [Zc,beq_iff_eq] at hp
 obtain ⟨_,_,_,hlab⟩:=hp
 have hym:=Zb hy
 obtain ⟨_,⟨t0,t1⟩,_,_,la,_⟩:=hA.n.mv y hym
 have lb:=hA.l y hym
 rw [hlab] at la lb
 obtain ⟨d,hd⟩:=Y3 la lb
 rw [hd]
 simp only [cond_false,bS]
 obtain ⟨bf,ef,hf⟩:=ZkG hN d.Fields x.Values hx.l hx.s
 rw [ef]
 simp only [bS]
 cases bf with
 | false=>exact ⟨_,rfl,(fun h=>by cases h),by decide⟩
 | true =>
 have hfl:=hf.1 rfl
 have hc:=Zj2 hN g.Decls (by omega) hg.dd hs.d x.Label x.Values s.Known hx.l hkl ⟨hx.s,hks⟩
 rw [hc]
 simp only [Zh,cond_false,bS]
 have fin:∀ b:Bool,(b=false→Xa g.Decls x.Label x.Values s.Known=true)→∃ r,Sh N g m s x (k:Int) b=some r∧(r.2=0→StM g m r.1)∧r.2≠1:=fun b hb=>by
  unfold Sh
  cases b with
  | true=>exact ⟨_,rfl,(fun h=>by cases h),by decide⟩
  | false =>
  have hck:=hb rfl
  unfold Xa at hck
  rw [Zc] at hck
  obtain ⟨hp,hck⟩:=hck
  rw [Zs,hy]
  simp only [cond_false,bS]
  rcases Zdv hN g.Decls (by omega) hg.dd hs.d x.Label x.Values s.Known hx.l hkl ⟨hx.s,hks⟩ with ⟨h,_⟩ | ⟨_,i,d',first,q1,q2,q3,q4,q5⟩
  ·rw [h] at hp;cases hp
  have hd':d'=d:=by
   rw [q1,Zs,q2] at hd
   exact Option.some.inj hd
  subst hd'
  rcases q5 with ⟨h,_⟩ | ⟨_,hle,hl⟩
  ·rw [hd] at hck
   simp only [h,Bool.false_and] at hck
   cases hck
  rw [hl]
  simp only [bS]
  have hkn:=ZnR q2 q3 q4 hle hS.k hfl
  cases x.Send with
  | true =>
   unfold Mu
   rw [Yl (by have:=hx.l;simp;omega)]
   exact ⟨_,rfl,fun _=>⟨t0,t1,hkn,by simpa using hx.l⟩,show (0:Int)≠1 by decide⟩
  | false=>exact ⟨_,rfl,fun _=>⟨t0,t1,hkn,by simp⟩,show (0:Int)≠1 by decide⟩
 cases hcv:Xa g.Decls x.Label x.Values s.Known with
 | false=>exact fin true (fun h=>by cases h)
 | true =>
 simp only [Zh,cond_false]
 rw [Zs,hy]
 simp only [bS]
 obtain ⟨q,eq,_⟩:=ZlH hN x.Values s.Pending hx.l
 rw [eq]
 simp only [bS]
 cases y.Again with
 | true=>exact fin (!q) (fun _=>hcv)
 | false=>exact fin false (fun _=>hcv)
end
section
variable {N:Nat}
section
variable (f:ZM→T3→ZM × Int)
def Ud:List T3→ZM→Nat→ZM × Int × Int
 | [],s,k=>(s,(k:Int),0)
 | x::l,s,k=>bif (f s x).2 != 0 then (s,(k:Int),(f s x).2) else Ud l (f s x).1 (k+1)
end
def XB (N:Nat) (g:T5) (m:T8) (s:ZM) (x:T3):ZM × Int:=(z25 N g m s x).getD (⟨0,[],[]⟩,0)
structure TM (N:Nat) (g:T5) (m:T8):Prop where
 hN:4194304 < N
 gg:Ua g
 ss:VX g
 t:m.Timeouts.length≤4194304
 a:MZ g m
 e:Tz N g m=some true
variable {g:T5} {m:T8}
theorem Zh3 (c:TM N g m) {s:ZM} (hS:StM g m s) {x:T3} (hx:Uq x):z25 N g m s x=some (XB N g m s x)∧((XB N g m s x).2=0→StM g m (XB N g m s x).1)∧(XB N g m s x).2≠1:=by
 obtain ⟨r,h1,h2,h3⟩:=ZtE c.hN g c.gg c.ss m c.a s hS x hx
 have e:XB N g m s x=r:=by unfold XB;rw [h1];rfl
 rw [e];exact ⟨h1,h2,h3⟩
theorem Lz (c:TM N g m) {s:ZM} (hS:StM g m s):s.Known.length≤4194304:=by
 have:=Sd c.a.v
 rw [← hS.k.1];omega
theorem Zg5 (c:TM N g m) {s:ZM} (hS:StM g m s):Sb N g m s=some true:=by
 obtain ⟨b,e,_,h⟩:=ZnG c.hN g c.gg c.ss m c.t s (Lz c hS) (PT hS.k)
 have:=h c.e hS
 rw [e,this]
def TY (g:T5) (m:T8):ZM:=⟨m.Start,List.replicate (Zx g.Decls).length ⟨0,0,str []⟩,[]⟩
theorem ZoZ (c:TM N g m):LH N g m=some (TY g m):=by
 unfold LH
 rw [c.e,Zej c.hN g c.a.v]
 have hl:=(Sd c.a.v).2
 have e:YG (⟨0,0,str []⟩:Zk) ((Zx g.Decls).length:Int) ((Zx g.Decls).length:Int)=some (List.replicate (Zx g.Decls).length ⟨0,0,str []⟩):=by
  unfold YG
  rw [dT (by omega:(0:Int)≤((Zx g.Decls).length:Int)),dT (Int.le_refl _),dT (by omega:((Zx g.Decls).length:Int)≤4294967296)];rfl
 simp only [bS,Zh,cond_false,e]
 rfl
theorem Zek (c:TM N g m):StM g m (TY g m):=by
 refine ⟨c.a.n.b0,c.a.n.b1,⟨by simp [TY],fun i f v _ h=>?_⟩,by simp [TY]⟩
 have h:(List.replicate (Zx g.Decls).length (⟨0,0,str []⟩:Zk))[i]? = some v:=h
 rw [List.eq_of_mem_replicate (Zb h)]
 have e:X7 ⟨0,0,str []⟩=true:=by kernel_rfl
 rw [e];rfl
theorem Zsh (c:TM N g m) (l:List T3) (hl:l.length≤4194304) (he:∀ x∈l,Uq x):∀ (r:List T3) (n k:Nat) (s:ZM),StM g m s→k≤l.length→l.drop k=r→r.length < n →
    Qr N g m l n s.At s.Known s.Pending (k:Int)=some (Ud (XB N g m) r s k):=by
  intro r
  induction r with
  | nil =>
    intro n k s hS hk hr hn
    obtain ⟨n,rfl⟩:=pS n (by simp at hn;omega)
    have:=List.drop_eq_nil_iff.1 hr
    rw [Qr,ZJ this]
    have e:k=l.length:=by omega
    subst e;rfl
  | cons x r ih =>
    intro n k s hS hk hr hn
    obtain ⟨n,rfl⟩:=pS n (by simp at hn;omega)
    have hk:k < l.length:=by
      refine Nat.not_le.1 fun h=>?_
      rw [List.drop_eq_nil_iff.2 h] at hr;cases hr
    have hx:l[k]? = some x:=by
      have:=congrArg (·[0]?) hr
      simpa using this
    obtain ⟨e1,e2,_⟩:=Zh3 c hS (he x (Zb hx))
    rw [Qr,ZG hk,Zs,hx,ZA (by omega)]
    simp only [cT,bS]
    have e1:z25 N g m ⟨s.At,s.Known,s.Pending⟩ x=some (XB N g m s x):=e1
    rw [e1,Ud]
    simp only [bS]
    cases h:((XB N g m s x).2 != 0) with
    | true=>rfl
    | false =>
      have h0:(XB N g m s x).2=0:=by simpa using h
      exact ih n (k+1) _ (e2 h0) hk (by have:=congrArg (List.drop 1) hr;simpa [List.drop_drop,Nat.add_comm] using this) (by simp at hn;omega)
theorem ZqB (c:TM N g m) (l:List T3) (hl:l.length≤4194304) (he:∀ x∈l,Uq x):z7 N g m l=some (Ud (XB N g m) l (TY g m) 0):=by
 have hN:=c.hN
 unfold z7
 rw [ZoZ c]
 simp only [bS]
 rw [Zg5 c (Zek c)]
 exact Zsh c l hl he l N 0 _ (Zek c) (Nat.zero_le _) rfl (by omega)
theorem Zqp (hN:4194304 < N) (l:List Zk) (hl:l.length≤4194304):∃ b,z12 N l=some b:=by
 refine UU (F:=Qs l) (len:=l.length) (fun n k hk hi=>?_) (fun n k hk=>?_) _ N 0 rfl (by omega)
 ·rw [Qs,ZG hk,Zs,Za hk,ZA (by omega)]
  simp only [cT,bS]
  exact YC (fun _=>Yt _) fun _=>hi
 ·rw [Qs,ZJ hk]
  exact Yt _
end
section
variable {N:Nat}
theorem ZsK (hN:4194304 < N) (m:T8):GH N m=some (R6 m):=by
 unfold GH R6 V7
 have ge:∀ a:Int,decide (a≥0) = !decide (a < 0):=fun a=>by by_cases h:a < 0<;>simp [h]<;>omega
 have lt:∀ a b:Int,decide (a < b) = !decide (a≥b):=fun a b=>by by_cases h:a < b<;>simp [h]<;>omega
 rw [ge m.Start,lt m.Start m.States]
 cases decide (m.Role < 0)
 case true=>rfl
 cases decide (m.Role≥6)
 case true=>rfl
 cases decide (m.States < 1)
 case true=>rfl
 cases decide (m.States > 200)
 case true=>rfl
 cases decide (m.Start < 0)
 case true=>rfl
 cases decide (m.Start≥m.States)
 case true=>rfl
 cases ((m.Finals.length:Int) != m.States)
 case true=>rfl
 cases h:decide ((m.Moves.length:Int) > 400)
 case true=>rfl
 simp only [decide_eq_false_iff_not] at h
 have:=YD (fun (x:T9) _=>moveM m x) (xs:=m.Moves) (F:=SU m) (e:=some true) (n:=N) (by omega) (by
  intro n k x hk hx
  rw [SU,ZG hk,ZA (by omega)]
  simp only [cT,Zs,hx,bS]
  unfold moveM V7
  rw [ge x.From,ge x.To,lt x.From m.States,lt x.To m.States]
  cases decide (x.From < 0)
  case true=>rfl
  cases decide (x.From≥m.States)
  case true=>rfl
  cases decide (x.To < 0)
  case true=>rfl
  cases decide (x.To≥m.States)
  case true=>rfl
  cases decide (x.Peer < 0)
  case true=>rfl
  cases decide (x.Peer≥6)
  case true=>rfl
  cases (x.Peer==m.Role)
  case true=>rfl
  cases decide (x.Label < 0)
  case true=>rfl
  cases decide (x.Label≥40)<;>rfl) (by
  intro n k hk
  rw [SU,ZJ hk]
  rfl)
 show SU m N 0=_
 rw [this]
 cases ZN (fun (x:T9) _=>moveM m x) m.Moves 0<;>rfl
def Tn (m:T8) (x:W5) (k:Nat):Bool:=(decide (1≤x.Ticks) && (decide (x.Ticks≤1000) && (decide (0≤x.Else) && decide (x.Else < (m.Moves.length:Int))))) && (decide (k=0) || (match m.Timeouts[k-1]? with | some y=>decide (y.State < x.State) | none=>false)) &&
 (match Zm m.Moves x.Else with | some y=>(y.From==x.State) && (y.Send && !y.Again) | none=>false)
theorem Zp7 (hN:4194304 < N) (m:T8) (ht:m.Timeouts.length≤4194304):GF N m=some (ZN (Tn m) m.Timeouts 0):=by
 unfold GF
 have:=YD (Tn m) (xs:=m.Timeouts) (F:=WN m) (e:=some true) (n:=N) (by omega) (by
  intro n k x hk hx
  rw [WN,ZG hk,Zs,hx]
  simp only [cT,bS]
  have k3:∀ b:Bool,(0≤x.Else∧x.Else < (m.Moves.length:Int))→UO m (k:Int) (WN m n) x b=bif (!b && (match Zm m.Moves x.Else with | some y=>(y.From==x.State) && (y.Send && !y.Again) | none=>false)) then WN m n ((k+1:Nat):Int) else some false:=fun b ⟨h1,h2⟩=>by
   unfold UO
   obtain ⟨y,hy⟩:=Y3 (L:=m.Moves) h1 h2
   rw [hy,ZA (by omega)]
   simp only [bS]
   have e:(y.From != x.State) = !(y.From==x.State):=rfl
   rw [e]
   cases b<;>cases (y.From==x.State)<;>cases y.Send<;>cases y.Again<;>rfl
  have kt:UO m (k:Int) (WN m n) x true=some false:=rfl
  unfold Tn
  by_cases a1:x.Ticks < 1
  ·rw [dT a1,dF (by omega:¬ 1≤x.Ticks),kt];rfl
  by_cases a2:x.Ticks > 1000
  ·rw [dF a1,dT a2,dF (by omega:¬ x.Ticks≤1000),kt];simp
  by_cases a3:x.Else < 0
  ·rw [dF a1,dF a2,dT a3,dF (by omega:¬ 0≤x.Else),kt];simp
  by_cases a4:x.Else≥(m.Moves.length:Int)
  ·rw [dF a1,dF a2,dF a3,dT a4,dF (by omega:¬ x.Else < (m.Moves.length:Int)),kt];simp
  rw [dF a1,dF a2,dF a3,dF a4,dT (by omega:1≤x.Ticks),dT (by omega:x.Ticks≤1000),dT (by omega:0≤x.Else),dT (by omega:x.Else < (m.Moves.length:Int))]
  simp only [cond_false,Bool.true_and]
  by_cases hk0:k=0
  ·subst hk0
   rw [show decide (((0:Nat):Int) > 0)=false from rfl,cond_false,k3 false ⟨by omega,by omega⟩]
   simp
  ·rw [dT (by omega:(k:Int) > 0)]
   have w:Zi ((k:Int)-1)=((k-1:Nat):Int):=by rw [Ym (by omega) (by omega)];omega
   have hy:=Za (by omega:k-1 < m.Timeouts.length)
   rw [w,Zs,hy]
   simp only [cT,bS]
   rw [k3 _ ⟨by omega,by omega⟩,dF hk0]
   have e:(!decide (x.State≤(m.Timeouts[k-1]).State))=decide ((m.Timeouts[k-1]).State < x.State):=by
    by_cases h:x.State≤(m.Timeouts[k-1]).State<;>simp [h]<;>omega
   rw [e,Bool.false_or]) (by
  intro n k hk
  rw [WN,ZJ hk];rfl)
 rw [this]
 cases ZN (Tn m) m.Timeouts 0<;>rfl
end
section
variable {N:Nat} {t:YF} {m:T8}
theorem Znx (hN:4194304 < N) (hm:t.Machine=m) (ht:m.Timeouts.length≤4194304):Hd N t=some (ZN (Tn m) m.Timeouts 0):=by
 unfold Hd
 subst hm
 have:=YD (Tn t.Machine) (xs:=t.Machine.Timeouts) (F:=YS t) (e:=some true) (n:=N) (by omega) (by
  intro n k x hk hx
  rw [YS,ZG hk,Zs,hx]
  simp only [cT,bS]
  have k3:(0≤x.Else∧x.Else < (t.Machine.Moves.length:Int))→XG t (k:Int) (YS t n) x false=bif (match Zm t.Machine.Moves x.Else with | some y=>(y.From==x.State) && (y.Send && !y.Again) | none=>false) then YS t n ((k+1:Nat):Int) else some false:=fun ⟨h1,h2⟩=>by
   unfold XG
   obtain ⟨y,hy⟩:=Y3 (L:=t.Machine.Moves) h1 h2
   rw [hy,ZA (by omega)]
   simp only [bS]
   have e:(y.From != x.State) = !(y.From==x.State):=rfl
   rw [e]
   cases (y.From==x.State)<;>cases y.Send<;>cases y.Again<;>rfl
  have kt:XG t (k:Int) (YS t n) x true=some false:=rfl
  have tail:(bif decide (x.Ticks < 1) then XG t (k:Int) (YS t n) x true else bif decide (x.Ticks > 1000) then XG t (k:Int) (YS t n) x true
    else bif decide (x.Else < 0) then XG t (k:Int) (YS t n) x true else XG t (k:Int) (YS t n) x (decide (x.Else≥(t.Machine.Moves.length:Int)))) =
    bif ((decide (1≤x.Ticks) && (decide (x.Ticks≤1000) && (decide (0≤x.Else) && decide (x.Else < (t.Machine.Moves.length:Int))))) && (match Zm t.Machine.Moves x.Else with | some y=>(y.From==x.State) && (y.Send && !y.Again) | none=>false)) then YS t n ((k+1:Nat):Int) else some false:=by
   by_cases a1:x.Ticks < 1
   ·rw [dT a1,dF (by omega:¬ 1≤x.Ticks),kt];rfl
   by_cases a2:x.Ticks > 1000
   ·rw [dF a1,dT a2,dF (by omega:¬ x.Ticks≤1000),kt];simp
   by_cases a3:x.Else < 0
   ·rw [dF a1,dF a2,dT a3,dF (by omega:¬ 0≤x.Else),kt];simp
   by_cases a4:x.Else≥(t.Machine.Moves.length:Int)
   ·rw [dF a1,dF a2,dF a3,dT a4,dF (by omega:¬ x.Else < (t.Machine.Moves.length:Int)),kt];simp
   rw [dF a1,dF a2,dF a3,dF a4,dT (by omega:1≤x.Ticks),dT (by omega:x.Ticks≤1000),dT (by omega:0≤x.Else),dT (by omega:x.Else < (t.Machine.Moves.length:Int))]
   simp only [cond_false,Bool.true_and]
   exact k3 ⟨by omega,by omega⟩
  unfold Tn
  by_cases hk0:k=0
  ·subst hk0
   rw [show decide (((0:Nat):Int) > 0)=false from rfl,cond_false,tail,dT rfl,Bool.true_or,Bool.and_true]<;>rfl
  ·rw [dT (by omega:(k:Int) > 0)]
   have w:Zi ((k:Int)-1)=((k-1:Nat):Int):=by rw [Ym (by omega) (by omega)];omega
   have hy:=Za (by omega:k-1 < t.Machine.Timeouts.length)
   rw [w,Zs,hy,dF hk0]
   simp only [cT,bS,Bool.false_or]
   rw [tail,kt]
   by_cases h:(t.Machine.Timeouts[k-1]).State≥x.State
   ·rw [dT h,dF (by omega:¬ (t.Machine.Timeouts[k-1]).State < x.State),Bool.and_false,Bool.false_and];rfl
   ·rw [dF h,dT (by omega:(t.Machine.Timeouts[k-1]).State < x.State),Bool.and_true];rfl) (by
  intro n k hk
  rw [YS,ZJ hk];rfl)
 rw [this]
 cases ZN (Tn t.Machine) t.Machine.Timeouts 0<;>rfl
def QX (m:T8) (x:T9):Bool := !x.Again || (x.Send && (!(x.From==m.Start) && (match Zm m.Finals x.From with | some b => !b | none=>false)))
def TI (x:T9) (i:Nat) (y:T9) (k:Nat):Bool := !(!decide (k=i) && (x.From==y.From && (!(x.Send==y.Send) || (x.Peer==y.Peer && x.Label==y.Label) || x.Again))) && !(x.Again && (y.To==x.From && (!y.Send || !(y.Label==x.Label))))
def RN (m:T8):Bool:=ZN (fun x i=>QX m x && ZN (fun y k=>TI x i y k) m.Moves 0) m.Moves 0
theorem Zqe (hN:4194304 < N) (hm:XL m):Ba N m=some (RN m):=by
 have hn:=hm.n
 unfold Ba RN
 have:=YD (fun x i=>QX m x && ZN (fun y k=>TI x i y k) m.Moves 0) (xs:=m.Moves) (F:=XJ N m) (e:=some true) (n:=N) (by omega) (by
  intro n i x hi hx
  obtain ⟨⟨f0,f1⟩,_⟩:=hm.mv x (Zb hx)
  rw [XJ,ZG hi,Zs,hx]
  simp only [cT,bS]
  have inner:WV m (i:Int) (XJ N m n) x N 0=bif ZN (fun y k=>TI x i y k) m.Moves 0 then XJ N m n ((i+1:Nat):Int) else some false:=by
   have:=YD (fun y k=>TI x i y k) (xs:=m.Moves) (F:=WV m (i:Int) (XJ N m n) x) (e:=XJ N m n ((i+1:Nat):Int)) (n:=N) (by omega) (by
    intro q k y hk hy
    rw [WV,ZG hk,Zs,hy]
    simp only [cT,bS]
    unfold TT TI
    rw [ZA (by omega)]
    have e1:((k:Int) != (i:Int)) = !decide (k=i):=by by_cases h:k=i<;>simp [h]<;>omega
    have e2:(y.Label != x.Label) = !(y.Label==x.Label):=rfl
    rw [e1,e2]
    generalize WV m (i:Int) (XJ N m n) x q ((k+1:Nat):Int)=Z
    generalize (y.Label==x.Label)=b1
    generalize (y.To==x.From)=b2
    generalize (x.Label==y.Label)=b3
    generalize (x.Peer==y.Peer)=b4
    generalize (x.From==y.From)=b5
    generalize decide (k=i)=b6
    generalize x.Send=b7
    generalize y.Send=b8
    generalize x.Again=b9
    cases b6<;>cases b5<;>cases b9<;>cases b2<;>cases b8<;>cases b7<;>try rfl
    all_goals (cases b1<;>cases b4<;>cases b3<;>rfl)) (by
    intro q k hk
    rw [WV,ZJ hk]
    unfold BY
    rw [cond_false,ZA (by omega)])
   exact this
  obtain ⟨b,hb⟩:=Y3 (L:=m.Finals) f0 (by have:=hm.f;omega)
  unfold RP QX
  rw [hb,inner]
  simp only [bS]
  generalize ZN (fun y k=>TI x i y k) m.Moves 0=Y
  generalize XJ N m n ((i+1:Nat):Int)=Z
  cases x.Again<;>cases x.Send<;>cases (x.From==m.Start)<;>cases b<;>cases Y<;>rfl) (by
  intro n k hk
  rw [XJ,ZJ hk];rfl)
 rw [this]
 cases ZN (fun x i=>QX m x && ZN (fun y k=>TI x i y k) m.Moves 0) m.Moves 0<;>rfl
end
section
variable {N:Nat} {t:YF} {m:T8}
theorem DS {F:Nat→Int→Option Bool} {len lo:Nat} {e:Option Bool} (P:Nat→Prop) (h1:∀ n k,lo≤k→k < len→(F (n+1) (k:Int)=some false∧¬ P k)∨(F (n+1) (k:Int)=F n ((k+1:Nat):Int)∧P k))
  (h2:∀ n k,len≤k→F (n+1) (k:Int)=e):∀ (d n k:Nat),lo≤k→len-k=d→d < n→(F n (k:Int)=some false∧∃ j,k≤j∧j < len∧¬ P j)∨(F n (k:Int)=e∧∀ j,k≤j→j < len→P j):=by
 intro d
 induction d with
 | zero =>
  intro n k hl hd hn
  obtain ⟨n,rfl⟩:=pS n (by omega)
  exact .inr ⟨h2 n k (by omega),fun j h1 h2=>by omega⟩
 | succ d ih =>
  intro n k hl hd hn
  obtain ⟨n,rfl⟩:=pS n (by omega)
  rcases h1 n k hl (by omega) with ⟨e1,e2⟩ | ⟨e1,e2⟩
  ·exact .inl ⟨e1,k,Nat.le_refl _,by omega,e2⟩
  ·rw [e1]
   rcases ih n (k+1) (by omega) (by omega) (by omega) with ⟨a,j,b1,b2,b3⟩ | ⟨a,b⟩
   ·exact .inl ⟨a,j,by omega,b2,b3⟩
   ·refine .inr ⟨a,fun j c1 c2=>?_⟩
    by_cases h:j=k
    ·subst h;exact e2
    ·exact b j (by omega) c2
def Zbb (x y:T9):Prop:=¬ (x.Send=y.Send∧x.Peer=y.Peer∧x.Label=y.Label)∧x.Send=y.Send
def BP (m:T8) (l:List Int) (j:Nat):Prop:=∀ (a b:Int) x y,l[j-1]? = some a→l[j]? = some b→Zm m.Moves a=some x→Zm m.Moves b=some y→Zbb x y
theorem Zni (hN:4194304 < N) (h:Sl t m):∃ b,LI N t=some b∧(b=true↔∀ (s:Nat) l,t.out'[s]? = some l→∀ j,1≤j→j < l.length→BP m l j):=by
 have hS:=h.num.s1
 have hlen:=h.len
 have ZR:=DS (F:=X9 N t) (len:=t.out'.length) (lo:=0) (e:=some true) (fun s=>∀ l,t.out'[s]? = some l→∀ j,1≤j→j < l.length→BP m l j) (fun n k _ hk=>?_) (fun n k hk=>?_) _ N 0 (Nat.le_refl _) rfl (by omega)
 ·rcases ZR with ⟨e,j,_,j2,j3⟩ | ⟨e,hh⟩
  ·exact ⟨false,e,by simp only [Bool.false_eq_true,false_iff];intro hh;exact j3 fun l hl=>hh j l hl⟩
  ·refine ⟨true,e,by simp only [true_iff];intro s l hl;exact hh s (Nat.zero_le _) (List.getElem?_eq_some_iff.1 hl).1 l hl⟩
 ·rw [X9,ZG hk,Zs,Za hk]
  simp only [cT,bS]
  obtain ⟨hl,ho⟩:=h.out k _ (Za hk)
  have hgk:=Za hk
  generalize t.out'[k]=l at hl ho hgk
  have hag:Rn (k:Int) (X9 N t n)=X9 N t n ((k+1:Nat):Int):=by
   unfold Rn
   rw [ZA (by omega)]
  have g:∀ i:Nat,i < l.length→∃ q x,l[i]? = some q∧Zm m.Moves q=some x:=fun i hi=>by
   obtain ⟨q,x,e1,e2,_⟩:=ho l[i] (List.getElem_mem hi)
   exact ⟨l[i],x,Za hi,by rw [e1,Zs];exact e2⟩
  have inner:=DS (F:=Tt N t (k:Int) (X9 N t n) l) (len:=l.length) (lo:=1) (e:=X9 N t n ((k+1:Nat):Int)) (fun j=>BP m l j) (fun n' j j1 hj=>by
   rw [Tt,ZG hj,ZA (by omega)]
   have w:Zi ((j:Int)-1)=((j-1:Nat):Int):=by rw [Ym (by omega) (by omega)];omega
   obtain ⟨a,x,ha,hx⟩:=g (j-1) (by omega)
   obtain ⟨b,y,hb,hy⟩:=g j hj
   rw [w,Zs,ha,h.mm]
   simp only [cT,bS,hx,Zs,hb,hy,S1,Bool.and_true]
   have hadj:BP m l j↔Zbb x y:=by
    constructor
    ·intro hh;exact hh a b x y ha hb hx hy
    ·intro hh a' b' x' y' ha' hb' hx' hy'
     rw [ha] at ha';rw [hb] at hb'
     cases ha';cases hb'
     rw [hx] at hx';rw [hy] at hy'
     cases hx';cases hy'
     exact hh
   rw [hadj]
   unfold Zbb
   cases c1:(x.Send==y.Send && (x.Peer==y.Peer && x.Label==y.Label)) with
   | true =>
    simp only [Zc,beq_iff_eq] at c1
    exact .inl ⟨rfl,fun hh=>hh.1 ⟨c1.1,c1.2.1,c1.2.2⟩⟩
   | false =>
    cases c2:(x.Send==y.Send) with
    | false=>exact .inl ⟨rfl,fun hh=>by rw [hh.2] at c2;simp at c2⟩
    | true =>
     refine .inr ⟨rfl,fun hh=>?_,by simpa using c2⟩
     rw [hh.1,hh.2.1,hh.2.2] at c1
     simp at c1) (fun n' j hj=>by
   rw [Tt,ZJ hj]
   exact hag) _ N 1 (Nat.le_refl _) rfl (by omega)
  rcases inner with ⟨e,j,j1,j2,j3⟩ | ⟨e,hh⟩
  ·exact .inl ⟨e,fun hc=>j3 (hc l rfl j j1 j2)⟩
  ·refine .inr ⟨e,fun l' hl' j j1 j2=>?_⟩
   cases hl'
   exact hh j j1 j2
 ·rw [X9,ZJ hk];rfl
def Bz (m:T8) (out:List (List Int)) (k:Nat):Prop:=∀ x,m.Moves[k]? = some x→x.Again=true→x.Send=true∧(∀ l,Zm out x.From=some l→l.length=1)∧x.From≠m.Start∧Zm m.Finals x.From=some false ∧
 ∀ (j:Nat) y,m.Moves[j]? = some y→y.To=x.From→y.Send=true∧y.Label=x.Label
theorem Zse (hN:4194304 < N) (h:Sl t m):∃ b,LA N t=some b∧(b=true↔∀ k,k < m.Moves.length→Bz m t.out' k):=by
 have hS:=h.num.s1
 have hn:=h.num.n
 have hlen:=h.len
 have hm:=h.mm
 subst hm
 have ZR:=DS (F:=Wq N t) (len:=t.Machine.Moves.length) (lo:=0) (e:=some true) (fun k=>Bz t.Machine t.out' k) (fun n k _ hk=>?_) (fun n k hk=>?_) _ N 0 (Nat.le_refl _) rfl (by omega)
 ·rcases ZR with ⟨e,j,_,j2,j3⟩ | ⟨e,hh⟩
  ·exact ⟨false,e,by simp only [Bool.false_eq_true,false_iff];intro hh;exact j3 (hh j j2)⟩
  ·exact ⟨true,e,by simp only [true_iff];intro k hk;exact hh k (Nat.zero_le _) hk⟩
 ·have hx:=Za hk
  obtain ⟨⟨f0,f1⟩,_⟩:=h.num.mv _ (List.getElem_mem hk)
  rw [Wq,ZG hk,Zs,hx,ZA (by omega)]
  generalize t.Machine.Moves[k]=x at hx f0 f1
  simp only [cT,bS]
  obtain ⟨l,hl⟩:=Y3 (L:=t.out') f0 (by omega)
  obtain ⟨b,hb⟩:=Y3 (L:=t.Machine.Finals) f0 (by have:=h.num.f;omega)
  have hP:Bz t.Machine t.out' k↔(x.Again=true→x.Send=true∧l.length=1∧x.From≠t.Machine.Start∧b=false∧∀ (j:Nat) y,t.Machine.Moves[j]? = some y→y.To=x.From→y.Send=true∧y.Label=x.Label):=by
   unfold Bz
   rw [hx]
   constructor
   ·intro hh ha
    obtain ⟨a1,a2,a3,a4,a5⟩:=hh x rfl ha
    rw [hb] at a4
    exact ⟨a1,a2 l hl,a3,Option.some.inj a4,a5⟩
   ·intro hh x' hx' ha
    cases hx'
    obtain ⟨a1,a2,a3,a4,a5⟩:=hh ha
    exact ⟨a1,fun l' hl'=>by rw [hl] at hl';cases hl';exact a2,a3,by rw [hb,a4],a5⟩
  rw [hP]
  cases ha:x.Again with
  | false=>exact .inr ⟨rfl,fun e=>by cases e⟩
  | true =>
  cases hs:x.Send with
  | false=>exact .inl ⟨rfl,fun e=>by have:=(e (by trivial)).1;cases this⟩
  | true =>
  simp only [Zh,cond_false,hl,hb,bS]
  by_cases c1:l.length=1
  ·have e1:((l.length:Int) != 1)=false:=by simp [c1]
   rw [e1,cond_false]
   by_cases c2:x.From=t.Machine.Start
   ·have e2:(x.From==t.Machine.Start)=true:=by simp [c2]
    rw [e2]
    exact .inl ⟨rfl,fun e=>(e (by trivial)).2.2.1 c2⟩
   ·have e2:(x.From==t.Machine.Start)=false:=by simp [c2]
    rw [e2,cond_false]
    cases b with
    | true=>exact .inl ⟨rfl,fun e=>by have:=(e (by trivial)).2.2.2.1;cases this⟩
    | false =>
    simp only [cond_false]
    have inner:=DS (F:=UA t (k:Int) (Wq N t n) x) (len:=t.Machine.Moves.length) (lo:=0) (e:=Wq N t n ((k+1:Nat):Int))
     (fun j=>∀ y,t.Machine.Moves[j]? = some y→y.To=x.From→y.Send=true∧y.Label=x.Label) (fun n' j _ hj=>by
     have hy:=Za hj
     rw [UA,ZG hj,Zs,hy,ZA (by omega)]
     generalize t.Machine.Moves[j]=y at hy
     simp only [cT,bS]
     have hQ:(∀ y',some y=some y'→y'.To=x.From→y'.Send=true∧y'.Label=x.Label)↔(y.To=x.From→y.Send=true∧y.Label=x.Label) :=
      ⟨fun hh=>hh y rfl,fun hh y' e=>by cases e;exact hh⟩
     rw [hQ]
     by_cases d1:y.To=x.From
     ·have e1:(y.To==x.From)=true:=by simp [d1]
      rw [e1,cT]
      cases d2:y.Send with
      | false=>exact .inl ⟨rfl,fun hh=>by have:=(hh d1).1;cases this⟩
      | true =>
       by_cases d3:y.Label=x.Label
       ·have e3:(y.Label != x.Label)=false:=by simp [d3]
        rw [e3]
        exact .inr ⟨rfl,fun _=>⟨rfl,d3⟩⟩
       ·have e3:(y.Label != x.Label)=true:=by simp [d3]
        rw [e3]
        exact .inl ⟨rfl,fun hh=>d3 (hh d1).2⟩
     ·have e1:(y.To==x.From)=false:=by simp [d1]
      rw [e1]
      exact .inr ⟨rfl,fun hh=>absurd hh d1⟩) (fun n' j hj=>by
     rw [UA,ZJ hj]
     unfold Px
     rw [cond_false,ZA (by omega)]) _ N 0 (Nat.le_refl _) rfl (by omega)
    rcases inner with ⟨e,j,_,j2,j3⟩ | ⟨e,hh⟩
    ·exact .inl ⟨e,fun hc=>j3 ((hc (by trivial)).2.2.2.2 j)⟩
    ·refine .inr ⟨e,fun _=>⟨by trivial,c1,c2,by trivial,fun j y hy=>?_⟩⟩
     exact hh j (Nat.zero_le _) (List.getElem?_eq_some_iff.1 hy).1 y hy
  ·have e1:((l.length:Int) != 1)=true:=by simp;omega
   rw [e1]
   exact .inl ⟨rfl,fun e=>c1 (e (by trivial)).2.1⟩
 ·rw [Wq,ZJ hk];rfl
end
section
variable {N:Nat} {m:T8}
theorem ZlP (m:T8) (n s:Nat):(YY m n s).Nodup:=by
  unfold YY
  exact List.Pairwise.map (S:=(·≠·)) (fun k:Nat=>(k:Int)) (fun (a b:Nat) (h:a≠b)=>show (a:Int)≠(b:Int) by omega) (List.Pairwise.filter _ List.nodup_range)
theorem Zaj (x:T9) (i:Nat) (y:T9) (k:Nat):TI x i y k=true↔((k≠i→x.From=y.From→x.Send=y.Send∧¬ (x.Peer=y.Peer∧x.Label=y.Label)∧x.Again=false)∧(x.Again=true→y.To=x.From→y.Send=true∧y.Label=x.Label)):=by
 unfold TI
 by_cases h1:k=i<;>by_cases h2:x.From=y.From<;>by_cases h4:x.Peer=y.Peer<;>by_cases h5:x.Label=y.Label<;>by_cases h6:y.To=x.From <;>
  cases x.Send<;>cases y.Send<;>cases x.Again<;>simp [h1,h2,h4,h5,h6]<;>(try omega)
theorem ZhU (x:T9):QX m x=true↔(x.Again=true→x.Send=true∧x.From≠m.Start∧Zm m.Finals x.From=some false):=by
 unfold QX
 cases x.Again<;>cases x.Send<;>by_cases h:x.From=m.Start<;>cases Zm m.Finals x.From with
 | none=>simp [h]
 | some b=>cases b<;>simp [h]
theorem ZnA:RN m=true↔∀ (i:Nat) x,m.Moves[i]? = some x→QX m x=true∧∀ (k:Nat) y,m.Moves[k]? = some y→TI x i y k=true:=by
 unfold RN
 rw [Xc]
 constructor
 ·intro h i x hx
  have:=h i x hx
  rw [Nat.zero_add,Zc,Xc] at this
  exact ⟨this.1,fun k y hy=>by have:=this.2 k y hy;rwa [Nat.zero_add] at this⟩
 ·intro h i x hx
  obtain ⟨h1,h2⟩:=h i x hx
  rw [Nat.zero_add,Zc,Xc]
  exact ⟨h1,fun k y hy=>by rw [Nat.zero_add];exact h2 k y hy⟩
theorem Zhh {x y:T9} (h:Zbb x y) (hn:¬ Wt y x):Wt x y:=by
 obtain ⟨h1,h2⟩:=h
 unfold Wt at *
 revert h1 hn
 rw [h2]
 cases y.Send<;>simp<;>omega
theorem Zak (hN:4194304 < N) (hm:XL m) (s:Nat) (hs:s < m.States.toNat):∃ l,(Wj N m)[s]? = some l∧l.Nodup∧(∀ a,a∈l↔∃ (k:Nat) (x:T9),a=(k:Int)∧m.Moves[k]? = some x∧x.From=(s:Int)) ∧
  ∀ (i j:Nat) (a b:Nat) x y,i < j→l[i]? = some (a:Int)→l[j]? = some (b:Int)→m.Moves[a]? = some x→m.Moves[b]? = some y→¬ Wt y x:=by
 obtain ⟨p1,p2⟩:=Zkp hN m hm s
 refine ⟨_,ZjW N m s hs,p1.nodup_iff.2 (ZlP m _ s),fun a=>?_,fun i j a b x y hij ha hb hx hy=>?_⟩
 ·rw [p1.mem_iff]
  constructor
  ·intro h
   obtain ⟨k,x,h1,_,h2,h3⟩:=Zct h
   exact ⟨k,x,h1,h2,h3⟩
  ·rintro ⟨k,x,rfl,h2,h3⟩
   exact Zrx (List.getElem?_eq_some_iff.1 h2).1 h2 h3
 ·have:=p2 i j a b hij ha hb
  rw [ZpG hN m hy hx] at this
  exact fun h=>this ((ZkT y x).2 h)
def Zai (m:T8):Prop:=∀ (i k:Nat) x y,i≠k→m.Moves[i]? = some x→m.Moves[k]? = some y→x.From=y.From→x.Send=y.Send∧¬ (x.Peer=y.Peer∧x.Label=y.Label)
theorem Zml (hN:4194304 < N) (hm:XL m):(∀ (s:Nat) l,(Wj N m)[s]? = some l→∀ j,1≤j→j < l.length→BP m l j)↔Zai m:=by
 constructor
 ·intro hD i k x y hne hx hy hxy
  obtain ⟨⟨f0,f1⟩,_⟩:=hm.mv x (Zb hx)
  obtain ⟨s,hs⟩:=Ze f0
  obtain ⟨l,hl,hnd,hmem,hord⟩:=Zak hN hm s (by omega)
  have hadj:=hD s l hl
  have hgo:∀ (d p:Nat) (a b:Nat) x y,l[p]? = some (a:Int)→l[p+d+1]? = some (b:Int)→m.Moves[a]? = some x→m.Moves[b]? = some y→x.Send=y.Send∧Wt x y:=by
   intro d
   induction d with
   | zero =>
    intro p a b x y ha hb hx hy
    have hlt:=(List.getElem?_eq_some_iff.1 hb).1
    have:=hadj (p+1) (by omega) (by omega) a b x y (by simpa using ha) (by simpa using hb) (by rw [Zs];exact hx) (by rw [Zs];exact hy)
    exact ⟨this.2,Zhh this (hord p (p+1) a b x y (by omega) ha (by simpa using hb) hx hy)⟩
   | succ d ih =>
    intro p a b x y ha hb hx hy
    have hlt:=(List.getElem?_eq_some_iff.1 hb).1
    have hc:=Za (show p+d+1 < l.length by omega)
    obtain ⟨c,z,hcz,hz,_⟩:=(hmem _).1 (List.getElem_mem (show p+d+1 < l.length by omega))
    rw [hcz] at hc
    obtain ⟨s1,o1⟩:=ih p a c x z ha hc hx hz
    have hb':l[p+d+1+1]? = some (b:Int):=by rw [show p+d+1+1=p+(d+1)+1 by omega];exact hb
    have:=hadj (p+d+1+1) (by omega) (by omega) c b z y (by simpa using hc) hb' (by rw [Zs];exact hz) (by rw [Zs];exact hy)
    have o2:=Zhh this (hord (p+d+1) (p+d+1+1) c b z y (by omega) hc hb' hz hy)
    exact ⟨s1.trans this.2,ZjX o1 o2⟩
  obtain ⟨p,hp⟩:=List.getElem?_of_mem ((hmem (i:Int)).2 ⟨i,x,rfl,hx,hs⟩)
  obtain ⟨q,hq⟩:=List.getElem?_of_mem ((hmem (k:Int)).2 ⟨k,y,rfl,hy,by rw [← hxy];exact hs⟩)
  have fin:∀ {x y:T9},x.Send=y.Send→Wt x y→x.Send=y.Send∧¬ (x.Peer=y.Peer∧x.Label=y.Label):=fun {x y} h1 h2=>by
   refine ⟨h1,fun h3=>?_⟩
   unfold Wt at h2
   rw [h1,h3.1,h3.2] at h2
   revert h2
   cases y.Send<;>simp
  rcases Nat.lt_trichotomy p q with h | h | h
  ·obtain ⟨a1,a2⟩:=hgo (q-p-1) p i k x y hp (by rw [show p+(q-p-1)+1=q by omega];exact hq) hx hy
   exact fin a1 a2
  ·subst h
   rw [hp] at hq
   have:=Option.some.inj hq
   omega
  ·obtain ⟨a1,a2⟩:=hgo (p-q-1) q k i y x hq (by rw [show q+(p-q-1)+1=p by omega];exact hp) hy hx
   obtain ⟨b1,b2⟩:=fin a1 a2
   exact ⟨b1.symm,fun h=>b2 ⟨h.1.symm,h.2.symm⟩⟩
 ·intro hP s l hl j j1 j2 a b x y ha hb hx hy
  have hs:s < m.States.toNat:=by
   have:=(List.getElem?_eq_some_iff.1 hl).1
   rwa [Zfr] at this
  obtain ⟨l',hl',hnd,hmem,_⟩:=Zak hN hm s hs
  rw [hl] at hl'
  cases hl'
  obtain ⟨i,x',rfl,hx',fx⟩:=(hmem a).1 (Zb ha)
  obtain ⟨k,y',rfl,hy',fy⟩:=(hmem b).1 (Zb hb)
  rw [Zs,hx'] at hx
  rw [Zs,hy'] at hy
  cases hx;cases hy
  have hne:i≠k:=fun e=>by
   subst e
   have h1:j-1 < l.length:=by omega
   have:=(List.getElem_inj hnd (h₀:=h1) (h₁:=j2)).1 (by
    have e1:=(List.getElem?_eq_some_iff.1 ha).2
    have e2:=(List.getElem?_eq_some_iff.1 hb).2
    rw [e1,e2])
   omega
  obtain ⟨h1,h2⟩:=hP i k x y hne hx' hy' (by rw [fx,fy])
  exact ⟨fun h=>h2 h.2,h1⟩
end
section
variable {N:Nat} {m:T8}
theorem Zks (hN:4194304 < N) (hm:XL m):(Zai m∧∀ k,k < m.Moves.length→Bz m (Wj N m) k)↔RN m=true:=by
 rw [ZnA]
 have row:∀ (i:Nat) x,m.Moves[i]? = some x→∃ (s:Nat) (l:List Int),x.From=(s:Int)∧Zm (Wj N m) x.From=some l∧l.Nodup∧(∀ a,a∈l↔∃ (k:Nat) (y:T9),a=(k:Int)∧m.Moves[k]? = some y∧y.From=(s:Int)):=fun i x hx=>by
  obtain ⟨⟨f0,f1⟩,_⟩:=hm.mv x (Zb hx)
  obtain ⟨s,hs⟩:=Ze f0
  obtain ⟨l,hl,hnd,hmem,_⟩:=Zak hN hm s (by omega)
  exact ⟨s,l,hs,by rw [hs,Zs];exact hl,hnd,hmem⟩
 constructor
 ·rintro ⟨hP,hA⟩ i x hx
  have hi:=(List.getElem?_eq_some_iff.1 hx).1
  refine ⟨ZhU x |>.2 fun ha=>?_,fun k y hy=>(Zaj x i y k).2 ⟨fun hne hxy=>?_,fun ha ht=>?_⟩⟩
  ·obtain ⟨a1,_,a3,a4,_⟩:=hA i hi x hx ha
   exact ⟨a1,a3,a4⟩
  ·obtain ⟨b1,b2⟩:=hP i k x y (Ne.symm hne) hx hy hxy
   refine ⟨b1,b2,?_⟩
   cases ha:x.Again with
   | false=>rfl
   | true =>
    obtain ⟨s,l,hs,hl,hnd,hmem⟩:=row i x hx
    have h1:=(hA i hi x hx ha).2.1 l hl
    have m1:=(hmem (i:Int)).2 ⟨i,x,rfl,hx,hs⟩
    have m2:=(hmem (k:Int)).2 ⟨k,y,rfl,hy,by rw [← hxy];exact hs⟩
    obtain ⟨c,rfl⟩:=List.length_eq_one_iff.1 h1
    rw [List.mem_singleton] at m1 m2
    have:(i:Int)=(k:Int):=m1.trans m2.symm
    omega
  ·exact (hA i hi x hx ha).2.2.2.2 k y hy ht
 ·intro h
  refine ⟨fun i k x y hne hx hy hxy=>?_,fun i hi x hx ha=>?_⟩
  ·obtain ⟨b1,b2,_⟩:=((Zaj x i y k).1 ((h i x hx).2 k y hy)).1 (Ne.symm hne) hxy
   exact ⟨b1,b2⟩
  ·obtain ⟨g1,g2⟩:=h i x hx
   obtain ⟨a1,a3,a4⟩:=(ZhU x).1 g1 ha
   refine ⟨a1,fun l' hl'=>?_,a3,a4,fun j y hy ht=>((Zaj x i y j).1 (g2 j y hy)).2 ha ht⟩
   obtain ⟨s,l,hs,hl,hnd,hmem⟩:=row i x hx
   rw [hl] at hl'
   cases hl'
   have m1:=(hmem (i:Int)).2 ⟨i,x,rfl,hx,hs⟩
   have only:∀ a∈l',a=(i:Int):=fun a haa=>by
    obtain ⟨k,y,rfl,hy,hf⟩:=(hmem a).1 haa
    by_cases e:k=i
    ·rw [e]
    ·have:=(((Zaj x i y k).1 (g2 k y hy)).1 e (by rw [hs,hf])).2.2
     rw [ha] at this;cases this
   match l',hnd,m1,only with
   | [a],_,_,_=>rfl
   | a::b::r,hnd,_,only =>
    have e1:=only a (List.mem_cons_self ..)
    have e2:=only b (List.mem_cons_of_mem _ (List.mem_cons_self ..))
    subst e1
    rw [e2] at hnd
    simp at hnd
theorem ZpX (hN:4194304 < N) (hm:XL m):∃ b1 b2,LI N ⟨m,Wj N m⟩=some b1∧LA N ⟨m,Wj N m⟩=some b2∧(b1 && b2)=RN m:=by
 have h:=ZdD hN m hm
 obtain ⟨b1,e1,h1⟩:=Zni hN h
 obtain ⟨b2,e2,h2⟩:=Zse hN h
 refine ⟨b1,b2,e1,e2,?_⟩
 rw [Bool.eq_iff_iff,Zc,h1,h2]
 have:=Zml hN hm
 rw [this]
 exact Zks hN hm
end
section
variable {N:Nat} {t:YF} {m:T8}
inductive Rch (m:T8):Int→Prop
 | start:Rch m m.Start
 | step {k:Nat} {x:T9}:m.Moves[k]? = some x→Rch m x.From→Rch m x.To
structure InvB (m:T8) (S:Nat) (a:List Bool) (q:List Int) (h:Nat):Prop where
 r:InvR S a q
 nd:q.Nodup
 mark:∀ c:Nat,c < S→(a[c]? = some true↔(c:Int)∈q)
 rch:∀ i∈q,Rch m i
 st:m.Start∈q
 cl:∀ (i:Nat) v,i < h→q[i]? = some v→∀ (k:Nat) x,m.Moves[k]? = some x→x.From=v→x.To∈q
theorem InvB.add {S:Nat} {a:List Bool} {q:List Int} {h:Nat} (hi:InvB m S a q h) (hh:h≤q.length) {j:Nat} (hj:a[j]? = some false) (hr:Rch m (j:Int)):InvB m S (a.set j true) (q++[(j:Int)]) h:=by
 have hjl:=(List.getElem?_eq_some_iff.1 hj).1
 have hjS:j < S:=by rw [← hi.r.len];exact hjl
 have hnm:(j:Int) ∉ q:=fun hm=>by
  have:=(hi.mark j hjS).2 hm
  rw [hj] at this;cases this
 refine ⟨hi.r.add hj,?_,fun c hc=>?_,fun i hi'=>?_,List.mem_append_left _ hi.st,fun i v h1 h2 k x hx hf=>?_⟩
 ·rw [List.nodup_append]
  refine ⟨hi.nd,by simp,fun a ha b hb=>?_⟩
  rw [List.mem_singleton.1 hb]
  exact fun e=>hnm (e ▸ ha)
 ·rw [List.getElem?_set]
  by_cases e:j=c
  ·subst e
   simp [hjl]
  ·rw [if_neg e,hi.mark c hc,List.mem_append,List.mem_singleton]
   constructor
   ·exact .inl
   ·rintro (h | h)
    ·exact h
    ·omega
 ·rcases List.mem_append.1 hi' with h | h
  ·exact hi.rch i h
  ·rw [List.mem_singleton.1 h];exact hr
 ·rw [List.getElem?_append_left (by omega)] at h2
  exact List.mem_append_left _ (hi.cl i v h1 h2 k x hx hf)
theorem InvB.all {S:Nat} {a:List Bool} {q:List Int} (hi:InvB m S a q q.length):∀ i,Rch m i→i∈q:=by
 intro i h
 induction h with
 | start=>exact hi.st
 | step hx _ ih =>
  obtain ⟨p,hp⟩:=List.getElem?_of_mem ih
  exact hi.cl p _ (List.getElem?_eq_some_iff.1 hp).1 hp _ _ hx rfl
end
section
variable {N:Nat} {t:YF} {m:T8}
theorem Zot (hN:4194304 < N) (h:Sl t m) (S:Nat) (hS:m.States=(S:Int)) (Q:Bool→Prop) (k:Nat) (ag:List Bool→List Int→Int→Option Bool) (s:Nat) (hag:∀ a q,InvB m S a q (k+1)→k < q.length→∃ b,ag a q (Zi ((k:Int)+1))=some b∧Q b)
  (l:List Int) (hl:t.out'[s]? = some l) (hcomp:∀ (p:Nat) x,m.Moves[p]? = some x→x.From=(s:Int)→(p:Int)∈l):∀ (d n j:Nat) (a:List Bool) (q:List Int),InvB m S a q k→q[k]? = some (s:Int)→(∀ i,i < j→∀ (p:Nat) x,l[i]? = some (p:Int)→m.Moves[p]? = some x→x.To∈q)→l.length-j=d→d < n →
   ∃ b,UC t (k:Int) ag l n a q (j:Int)=some b∧Q b:=by
 intro d
 obtain ⟨l1,l2⟩:=h.out s l hl
 have hs1:=h.num.s1
 induction d with
 | zero =>
  intro n j a q hi hq hd0 hd hn
  obtain ⟨n,rfl⟩:=pS n (by omega)
  rw [UC,ZJ (by omega)]
  refine hag a q ⟨hi.r,hi.nd,hi.mark,hi.rch,hi.st,fun i v h1 h2 p x hx hf=>?_⟩ (List.getElem?_eq_some_iff.1 hq).1
  by_cases e:i=k
  ·subst e
   rw [hq] at h2
   cases h2
   obtain ⟨i',hi'⟩:=List.getElem?_of_mem (hcomp p x hx hf)
   have:=(List.getElem?_eq_some_iff.1 hi').1
   exact hd0 i' (by omega) p x hi' hx
  ·exact hi.cl i v (by omega) h2 p x hx hf
 | succ d ih =>
  intro n j a q hi hq hd0 hd hn
  obtain ⟨n,rfl⟩:=pS n (by omega)
  have hj:j < l.length:=by omega
  have hlj:=Za hj
  obtain ⟨p,x,e1,e2,e3⟩:=l2 l[j] (List.getElem_mem hj)
  obtain ⟨_,⟨t0,t1⟩,_⟩:=h.num.mv x (Zb e2)
  obtain ⟨c,hc⟩:=Ze t0
  have hcS:c < S:=by omega
  have hcl:c < a.length:=by rw [hi.r.len];omega
  have hkq:=(List.getElem?_eq_some_iff.1 hq).1
  rw [UC,ZG hj,Zs,hlj,ZA (by omega)]
  simp only [cT,bS]
  rw [e1,Zs,h.mm,e2]
  simp only [bS]
  rw [hc,Zs,Za hcl]
  simp only [bS]
  have next:∀ q':List Int,(∀ v∈q,v∈q')→(c:Int)∈q'→∀ i,i < j+1→∀ (p:Nat) x,l[i]? = some (p:Int)→m.Moves[p]? = some x→x.To∈q':=fun q' hsub hcm i hi' p' x' hp' hx'=>by
   by_cases e:i=j
   ·subst e
    rw [hlj,e1] at hp'
    have:(p:Int)=(p':Int):=Option.some.inj hp'
    have:p=p':=by omega
    subst this
    rw [e2] at hx'
    cases hx'
    rw [hc];exact hcm
   ·exact hsub _ (hd0 i (by omega) p' x' hp' hx')
  cases hb:a[c] with
  | true =>
   have hcm:(c:Int)∈q:=(hi.mark c hcS).1 (by rw [Za hcl,hb])
   exact ih n (j+1) a q hi hq (next q (fun _ h=>h) hcm) (by omega) (by omega)
  | false =>
   have hcc:=hi.r.c
   simp only [Bool.not_false,cT]
   rw [Yl (by simp;omega),WH]
   simp only [bS]
   have hr:Rch m (c:Int):=by
    rw [← hc]
    exact .step e2 (by rw [e3];exact hi.rch _ (Zb hq))
   exact ih n (j+1) _ _ (hi.add (Nat.le_of_lt hkq) (by rw [Za hcl,hb]) hr) (by rw [List.getElem?_append_left hkq];exact hq)
    (next _ (fun _ h=>List.mem_append_left _ h) (List.mem_append_right _ (List.mem_singleton.2 rfl))) (by omega) (by omega)
end
section
variable {N:Nat} {t:YF} {m:T8}
theorem Hn:∀ (l q:List Int),l.Nodup→(∀ a∈l,a∈q)→l.length≤q.length
 | [],_,_,_=>Nat.zero_le _
 | a::l,q,hn,hs=>by
  have h1:=List.nodup_cons.1 hn
  have ha:=hs a (List.mem_cons_self ..)
  have:=Hn l (q.erase a) h1.2 fun b hb=>by
   have hne:b≠a:=fun e=>h1.1 (e ▸ hb)
   exact (List.mem_erase_of_ne hne).2 (hs b (List.mem_cons_of_mem _ hb))
  rw [List.length_erase_of_mem ha] at this
  have:0 < q.length:=List.length_pos_of_mem ha
  simp;omega
theorem Zrq {S:Nat} {a:List Bool} {q:List Int} (hi:InvB m S a q q.length) (hS:m.States=(S:Int)):(((q.length:Int)==m.States)=true↔∀ c:Nat,c < S→Rch m (c:Int)):=by
  rw [beq_iff_eq,hS]
  constructor
  · intro h c hc
    have h0:=hi.r.c
    have hz:a.count false=0:=by omega
    have hcl:c < a.length:=by rw [hi.r.len];exact hc
    have:a[c]? = some true:=by
      rw [Za hcl]
      cases hb:a[c] with
      | true=>rfl
      | false =>
        have:=List.count_eq_zero.1 hz
        exact absurd (hb ▸ List.getElem_mem hcl) this
    exact hi.rch _ ((hi.mark c hc).1 this)
  · intro h
    have h1:=Hn ((List.range S).map fun k:Nat=>(k:Int)) q (List.Pairwise.map (S:=(·≠·)) (fun k:Nat=>(k:Int)) (fun (a b:Nat) (h:a≠b)=>show (a:Int)≠(b:Int) by omega) List.nodup_range) (fun b hb=>by
      obtain ⟨c,hc,rfl⟩:=List.mem_map.1 hb
      exact hi.all _ (h c (List.mem_range.1 hc)))
    have h2:=hi.r.c
    simp at h1
    omega
theorem ZqR (hN:4194304 < N) (hm:XL m) (S:Nat) (hS:m.States=(S:Int)):∀ (d n k:Nat) (a:List Bool) (q:List Int),InvB m S a q k→k≤q.length→S-k=d→d < n →
  ∃ b,WS N ⟨m,Wj N m⟩ n a q (k:Int)=some b∧(b=true↔∀ c:Nat,c < S→Rch m (c:Int)):=by
 intro d
 have h:=ZdD hN m hm
 have hs1:=hm.s1
 have step:∀ (n k:Nat) (a:List Bool) (q:List Int),InvB m S a q k→k≤q.length→(k < q.length→∀ a q,InvB m S a q (k+1)→k < q.length→∃ b,WS N ⟨m,Wj N m⟩ n a q (Zi ((k:Int)+1))=some b∧(b=true↔∀ c:Nat,c < S→Rch m (c:Int))) →
   ∃ b,WS N ⟨m,Wj N m⟩ (n+1) a q (k:Int)=some b∧(b=true↔∀ c:Nat,c < S→Rch m (c:Int)):=fun n k a q hi hkq hnx=>by
  rw [WS]
  by_cases hk:k < q.length
  ·have hqk:=Za hk
   rw [ZG hk,Zs,hqk]
   simp only [cT,bS]
   obtain ⟨q0,q1⟩:=hi.r.qq _ (List.getElem_mem hk)
   obtain ⟨c,hc⟩:=Ze q0
   obtain ⟨l,hl,_,hmem,_⟩:=Zak hN hm c (by omega)
   rw [hc,Zs,hl]
   simp only [bS]
   have hle:=(h.out c l hl).1
   exact Zot hN h S hS _ k _ c (hnx hk) l hl (fun p x hx hf=>(hmem _).2 ⟨p,x,rfl,hx,hf⟩) _ N 0 a q hi (by rw [hqk,hc]) (fun i hi=>by omega) rfl (by omega)
  ·rw [ZJ (Nat.not_lt.1 hk)]
   have e:k=q.length:=by omega
   subst e
   exact ⟨_,rfl,Zrq hi hS⟩
 induction d with
 | zero =>
  intro n k a q hi hkq hd hn
  obtain ⟨n,rfl⟩:=pS n (by omega)
  exact step n k a q hi hkq fun hk=>by have:=hi.r.c;omega
 | succ d ih =>
  intro n k a q hi hkq hd hn
  obtain ⟨n,rfl⟩:=pS n (by omega)
  refine step n k a q hi hkq fun hk a q hi hk'=>?_
  rw [ZA (by omega)]
  exact ih n (k+1) a q hi hk' (by omega) (by omega)
theorem ZqJ (hN:4194304 < N) (hm:XL m):∃ b,Mt N ⟨m,Wj N m⟩=some b∧(b=true↔∀ c:Int,0≤c→c < m.States→Rch m c):=by
 have h0:=hm.s0
 have h1:=hm.s1
 have b0:=hm.b0
 have b1:=hm.b1
 obtain ⟨S,hS⟩:=Ze (show 0≤m.States by omega)
 obtain ⟨c,hc⟩:=Ze b0
 unfold Mt
 have e:YG false m.States m.States=some (List.replicate S false):=by
  unfold YG
  rw [dT (by omega:0≤m.States),dT (by omega:m.States≤m.States),dT (by omega:m.States≤4294967296),hS];rfl
 have hcl:c < S:=by omega
 have hg:(List.replicate S false)[c]? = some false:=by rw [List.getElem?_replicate,if_pos hcl]
 show ∃ b,((YG false m.States m.States).bind fun x1=>(Zm x1 m.Start).bind fun x2=>WS N ⟨m,Wj N m⟩ N (ZW x1 m.Start true) [m.Start] 0)=some b∧_
 rw [e]
 simp only [bS]
 rw [hc,Zs,hg,WH]
 simp only [bS]
 have h2:=List.count_set (a:=true) (b:=false) (l:=List.replicate S false) (i:=c) (by simpa using hcl)
 have hI:InvB m S ((List.replicate S false).set c true) [(c:Int)] 0:=by
  refine ⟨⟨by simp,fun i hi=>by rw [List.mem_singleton.1 hi];omega,?_⟩,by simp,fun k hk=>?_,fun i hi=>by rw [List.mem_singleton.1 hi,← hc];exact .start,by rw [hc];exact List.mem_singleton.2 rfl,fun i v h=>by omega⟩
  ·simp at h2
   simp
   omega
  ·rw [List.getElem?_set,List.mem_singleton]
   by_cases e:c=k
   ·subst e;simp [hcl]
   ·rw [if_neg e,List.getElem?_replicate,if_pos hk]
    constructor
    ·intro h;cases h
    ·intro h;omega
 obtain ⟨b,eb,hb⟩:=ZqR hN hm S hS S N 0 _ _ hI (Nat.zero_le _) rfl (by omega)
 refine ⟨b,eb,hb.trans ⟨fun h k k0 k1=>?_,fun h k hk=>h k (by omega) (by omega)⟩⟩
 obtain ⟨j,rfl⟩:=Ze k0
 exact h j (by omega)
end
section
variable {N:Nat}
theorem ZqH (hN:4194304 < N) (l:List Int) (hl:l.length≤4194304) (v:Int):∃ b,GJ N l v=some b∧(b=true↔v∈l):=by
  have ZR:=DS (F:=fun n k=>(Ul l v n k).map (!·)) (len:=l.length) (lo:=0) (e:=some true) (fun k=>l[k]? ≠ some v) (fun n k _ hk=>?_) (fun n k hk=>?_) _ N 0 (Nat.le_refl _) rfl (by omega)
  · unfold GJ
    rcases ZR with ⟨e,j,_,j2,j3⟩ | ⟨e,hh⟩
    · obtain ⟨b,eb,hb⟩:=Option.map_eq_some_iff.1 e
      refine ⟨b,eb,?_⟩
      have:b=true:=by cases b<;>simp at hb ⊢
      rw [this]
      simp only [true_iff]
      exact Zb (Classical.not_not.1 j3)
    · obtain ⟨b,eb,hb⟩:=Option.map_eq_some_iff.1 e
      refine ⟨b,eb,?_⟩
      have:b=false:=by cases b<;>simp at hb ⊢
      rw [this]
      simp only [Bool.false_eq_true,false_iff]
      intro hm
      obtain ⟨i,hi⟩:=List.getElem?_of_mem hm
      exact hh i (Nat.zero_le _) (List.getElem?_eq_some_iff.1 hi).1 hi
  · have hx:=Za hk
    show ((Ul l v (n+1) (k:Int)).map (!·)=_∧_)∨((Ul l v (n+1) (k:Int)).map (!·)=(Ul l v n ((k+1:Nat):Int)).map (!·)∧_)
    rw [Ul,ZG hk,Zs,hx,ZA (by omega)]
    simp only [cT,bS]
    by_cases h:l[k]=v
    · have e:(l[k]==v)=true:=by simp [h]
      rw [e]
      exact .inl ⟨rfl,fun hc=>hc (by rw [h])⟩
    · have e:(l[k]==v)=false:=by simp [h]
      rw [e]
      exact .inr ⟨rfl,fun hc=>h (Option.some.inj hc)⟩
  · show (Ul l v (n+1) (k:Int)).map (!·)=_
    rw [Ul,ZJ hk];rfl
end
section
variable {N:Nat}
def Ve (v:Int):Bool→List Int→List Int
 | true,l=>l
 | false,[]=>[v]
 | false,x::r=>bif decide (x≥v) then (bif decide (x > v) then v::x::r else x::r) else x::Ve v false r
theorem Zcq (v:Int) (l:List Int):Ve v true l=l:=by cases l<;>rfl
theorem Zri (l:List Int) (hl:l.length≤4194304) (v:Int):∀ (r:List Int) (n k:Nat) (acc:List Int) (p:Bool),l.drop k=r→r.length < n→acc.length+r.length+(bif p then 0 else 1)≤4194306 →
    Ta l v n acc p (k:Int)=some (acc++Ve v p r):=by
  intro r
  induction r with
  | nil =>
    intro n k acc p hr hn hb
    obtain ⟨n,rfl⟩:=pS n (by simp at hn;omega)
    rw [Ta,ZJ (List.drop_eq_nil_iff.1 hr)]
    unfold BR
    cases p with
    | true=>simp [Ve]
    | false =>
      simp only [cond_false,Bool.not_false,cT]
      rw [Yl (xs:=acc) (ys:=[v]) (by simp at hb ⊢;omega)]
      rfl
  | cons x r ih =>
    intro n k acc p hr hn hb
    obtain ⟨n,rfl⟩:=pS n (by simp at hn;omega)
    have hk:k < l.length:=by
      refine Nat.not_le.1 fun h=>?_
      rw [List.drop_eq_nil_iff.2 h] at hr;cases hr
    have hx:l[k]? = some x:=by
      have:=congrArg (·[0]?) hr
      simpa using this
    have hr':l.drop (k+1)=r:=by have:=congrArg (List.drop 1) hr;simpa [List.drop_drop,Nat.add_comm] using this
    simp only [Zg] at hn hb
    have hb0:acc.length+r.length≤4194306:=by omega
    rw [Ta,ZG hk,Zs,hx,ZA (by omega)]
    simp only [cT,bS]
    cases p with
    | true =>
      rw [Yl (xs:=acc) (ys:=[x]) (by simp;omega)]
      simp only [Zh,cond_false,bS]
      rw [ih n (k+1) (acc++[x]) true hr' (by omega) (by simp at hb ⊢;omega),Zcq,Zcq]
      simp
    | false =>
      simp only [Bool.not_false,cT]
      cases h1:decide (x≥v) with
      | false =>
        rw [Yl (xs:=acc) (ys:=[x]) (by simp;omega)]
        simp only [cond_false,bS]
        rw [ih n (k+1) (acc++[x]) false hr' (by omega) (by simp at hb ⊢;omega)]
        show _=some (acc++(bif decide (x≥v) then _ else x::Ve v false r))
        rw [h1];simp
      | true =>
        cases h2:decide (x > v) with
        | true =>
          simp only [cT]
          rw [Yl (xs:=acc) (ys:=[v]) (by simp;omega)]
          simp only [bS]
          rw [Yl (xs:=acc++[v]) (ys:=[x]) (by simp;omega)]
          simp only [bS]
          rw [ih n (k+1) (acc++[v]++[x]) true hr' (by omega) (by simp at hb ⊢;omega),Zcq]
          show _=some (acc++(bif decide (x≥v) then (bif decide (x > v) then v::x::r else x::r) else _))
          rw [h1,h2];simp
        | false =>
          simp only [cT,cond_false]
          rw [Yl (xs:=acc) (ys:=[x]) (by simp;omega)]
          simp only [bS]
          rw [ih n (k+1) (acc++[x]) true hr' (by omega) (by simp at hb ⊢;omega),Zcq]
          show _=some (acc++(bif decide (x≥v) then (bif decide (x > v) then v::x::r else x::r) else _))
          rw [h1,h2];simp
theorem Zq6 (hN:4194304 < N) (l:List Int) (hl:l.length≤4194000) (v:Int):DT N l v=some (Ve v false l):=by
 have:=Zri l (by omega) v l N 0 [] false rfl (by omega) (by simp;omega)
 unfold DT
 rw [show ((0:Nat):Int)=0 from rfl] at this
 rw [this];rfl
theorem Ma (v a:Int):∀ l:List Int,a∈Ve v false l↔a=v∨a∈l
 | []=>by simp [Ve]
 | x::r=>by
  show a∈(bif decide (x≥v) then (bif decide (x > v) then v::x::r else x::r) else x::Ve v false r)↔_
  by_cases h1:x≥v
  ·rw [dT h1]
   by_cases h2:x > v
   ·rw [dT h2];simp
   ·rw [dF h2]
    have:x=v:=by omega
    subst this;simp
  ·rw [dF h1]
   show a∈x::Ve v false r↔_
   rw [List.mem_cons,Ma v a r,List.mem_cons]
   constructor
   ·rintro (h | h | h)
    ·exact .inr (.inl h)
    ·exact .inl h
    ·exact .inr (.inr h)
   ·rintro (h | h | h)
    ·exact .inr (.inl h)
    ·exact .inl h
    ·exact .inr (.inr h)
theorem Zgp (v:Int):∀ l:List Int,l.Pairwise (· < ·)→(Ve v false l).Pairwise (· < ·)
  | [],_=>by simp [Ve]
  | x::r,h=>by
    obtain ⟨h1,h2⟩:=List.pairwise_cons.1 h
    show ((bif decide (x≥v) then (bif decide (x > v) then v::x::r else x::r) else x::Ve v false r)).Pairwise (· < ·)
    by_cases c1:x≥v
    · rw [dT c1]
      by_cases c2:x > v
      · rw [dT c2]
        refine List.pairwise_cons.2 ⟨fun a ha=>?_,h⟩
        rcases List.mem_cons.1 ha with e | e
        · omega
        · have:=h1 a e;omega
      · rw [dF c2];exact h
    · rw [dF c1]
      refine List.pairwise_cons.2 ⟨fun a ha=>?_,Zgp v r h2⟩
      rcases (Ma v a r).1 ha with e | e
      · omega
      · exact h1 a e
end
section
variable {N:Nat} {m:T8}
theorem Rch.lim (hm:XL m) {i:Int} (h:Rch m i):0≤i∧i < m.States:=by
 cases h with
 | start=>exact ⟨hm.b0,hm.b1⟩
 | step hx _=>exact (hm.mv _ (Zb hx)).2.1
theorem Zei {l:List Int} (h:l.Pairwise (· < ·)):l.Nodup:=List.Pairwise.imp (fun {a b} (h:a < b)=>show a≠b by omega) h
def VS (q:List Int) (x:T9):List Int:=if x.From∈q then Ve x.To false q else q
def VY (l:List T9) (q:List Int):List Int:=l.foldl VS q
structure UpR (m:T8) (q:List Int):Prop where
  up:q.Pairwise (· < ·)
  rch:∀ i∈q,Rch m i
  st:m.Start∈q
theorem UpR.len (hm:XL m) {S:Nat} (hS:m.States=(S:Int)) {q:List Int} (h:UpR m q):q.length≤S:=by
 have:=Hn q ((List.range S).map fun k:Nat=>(k:Int)) (Zei h.up) (fun a ha=>by
  obtain ⟨a0,a1⟩:=(h.rch a ha).lim hm
  obtain ⟨c,rfl⟩:=Ze a0
  exact List.mem_map.2 ⟨c,List.mem_range.2 (by omega),rfl⟩)
 simpa using this
theorem UpR.add {q:List Int} (h:UpR m q) {x:T9} (hx:x∈m.Moves):UpR m (VS q x):=by
 unfold VS
 by_cases hf:x.From∈q
 ·rw [if_pos hf]
  refine ⟨Zgp _ _ h.up,fun i hi=>?_,(Ma _ _ _).2 (.inr h.st)⟩
  rcases (Ma _ _ _).1 hi with e | e
  ·obtain ⟨k,hk⟩:=List.getElem?_of_mem hx
   rw [e];exact .step hk (h.rch _ hf)
  ·exact h.rch i e
 ·rw [if_neg hf];exact h
theorem ZfK {q:List Int} {x:T9} {a:Int} (h:a∈q):a∈VS q x:=by
 unfold VS
 split
 ·exact (Ma _ _ _).2 (.inr h)
 ·exact h
theorem Ze4:∀ (l:List T9) {q:List Int} {a:Int},a∈q→a∈VY l q
 | [],_,_,h=>h
 | x::l,_,_,h=>Ze4 l (ZfK h)
theorem UpR.rnd:∀ (l:List T9),(∀ x∈l,x∈m.Moves)→∀ {q:List Int},UpR m q→UpR m (VY l q)
 | [],_,_,h=>h
 | x::l,hl,_,h=>UpR.rnd l (fun y hy=>hl y (List.mem_cons_of_mem _ hy)) (h.add (hl x (List.mem_cons_self ..)))
theorem ZgI:∀ (l:List T9) {q:List Int} {x:T9},x∈l→x.From∈q→x.To∈VY l q
 | y::l,q,x,hx,hf=>by
  rcases List.mem_cons.1 hx with e | e
  ·subst e
   refine Ze4 l ?_
   unfold VS
   rw [if_pos hf]
   exact (Ma _ _ _).2 (.inl rfl)
  ·exact ZgI l e (ZfK hf)
def ClR (m:T8) (q:List Int):Prop:=∀ x∈m.Moves,x.From∈q→x.To∈q
theorem Zr3 (hm:XL m) {q:List Int} (h:UpR m q):ClR m q∨q.length+1≤(VY m.Moves q).length:=by
 by_cases hl:(VY m.Moves q).length≤q.length
 ·refine .inl fun x hx hf=>?_
  have h1:=ZgI m.Moves hx hf
  refine Classical.byContradiction fun hn=>?_
  have:=Hn (x.To::q) (VY m.Moves q) (List.nodup_cons.2 ⟨hn,Zei h.up⟩) (fun a ha=>by
   rcases List.mem_cons.1 ha with e | e
   ·rw [e];exact h1
   ·exact Ze4 _ e)
  simp at this;omega
 ·exact .inr (by omega)
theorem Zt6 {q:List Int} (hc:ClR m q) {x:T9} (hx:x∈m.Moves):∀ a,a∈VS q x→a∈q:=fun a ha=>by
 unfold VS at ha
 by_cases hf:x.From∈q
 ·rw [if_pos hf] at ha
  rcases (Ma _ _ _).1 ha with e | e
  ·rw [e];exact hc x hx hf
  ·exact e
 ·rw [if_neg hf] at ha;exact ha
theorem ClR.same {q r:List Int} (hc:ClR m q) (h1:∀ a,a∈q→a∈r) (h2:∀ a,a∈r→a∈q):ClR m r:=fun x hx hf=>h1 _ (hc x hx (h2 _ hf))
theorem ClR.rnd:∀ (l:List T9),(∀ x∈l,x∈m.Moves)→∀ {q:List Int},ClR m q→ClR m (VY l q)
 | [],_,_,h=>h
 | x::l,hl,q,h=>ClR.rnd l (fun y hy=>hl y (List.mem_cons_of_mem _ hy)) (h.same (fun _ ha=>ZfK ha) (Zt6 h (hl x (List.mem_cons_self ..))))
def V9 (m:T8):Nat→List Int→List Int
 | 0,q=>q
 | n+1,q=>V9 m n (VY m.Moves q)
theorem ZiM (hm:XL m):∀ (n:Nat) (q:List Int),UpR m q→UpR m (V9 m n q)∧(ClR m (V9 m n q)∨q.length+n≤(V9 m n q).length)∧(ClR m q→ClR m (V9 m n q))
 | 0,q,h=>⟨h,.inr (Nat.le_refl _),id⟩
 | n+1,q,h=>by
  have hr:=UpR.rnd m.Moves (fun _ h=>h) h
  obtain ⟨a,b,c⟩:=ZiM hm n (VY m.Moves q) hr
  refine ⟨a,?_,fun hc=>c (hc.rnd m.Moves (fun _ h=>h))⟩
  rcases Zr3 hm h with e | e
  ·exact .inl (c (e.rnd m.Moves (fun _ h=>h)))
  ·rcases b with b | b
   ·exact .inl b
   ·refine .inr ?_
    show q.length+(n+1)≤(V9 m n (VY m.Moves q)).length
    omega
theorem Zq2 (hm:XL m) {S:Nat} (hS:m.States=(S:Int)):(((V9 m S [m.Start]).length:Int)==m.States)=true↔∀ c:Int,0≤c→c < m.States→Rch m c:=by
  have h0:UpR m [m.Start]:=⟨by simp,fun i hi=>by rw [List.mem_singleton.1 hi];exact .start,by simp⟩
  obtain ⟨a,b,_⟩:=ZiM hm S [m.Start] h0
  have hl:=a.len hm hS
  have hc:ClR m (V9 m S [m.Start]):=by
    rcases b with b | b
    · exact b
    · simp at b;omega
  have all:∀ i,Rch m i→i∈V9 m S [m.Start]:=fun i h=>by
    induction h with
    | start=>exact a.st
    | step hx _ ih=>exact hc _ (Zb hx) ih
  rw [beq_iff_eq,hS]
  constructor
  · intro h c c0 c1
    refine Classical.byContradiction fun hn=>?_
    have hnm:c ∉ V9 m S [m.Start]:=fun hm'=>hn (a.rch c hm')
    have:=Hn (c::V9 m S [m.Start]) ((List.range S).map fun k:Nat=>(k:Int)) (List.nodup_cons.2 ⟨hnm,Zei a.up⟩) (fun b hb=>by
      have:0≤b∧b < (S:Int):=by
        rcases List.mem_cons.1 hb with e | e
        · omega
        · have:=(a.rch b e).lim hm;omega
      obtain ⟨k,rfl⟩:=Ze this.1
      exact List.mem_map.2 ⟨k,List.mem_range.2 (by omega),rfl⟩)
    simp at this;omega
  · intro h
    have h1:=Hn ((List.range S).map fun k:Nat=>(k:Int)) (V9 m S [m.Start]) (List.Pairwise.map (S:=(·≠·)) (fun k:Nat=>(k:Int)) (fun (a b:Nat) (h:a≠b)=>show (a:Int)≠(b:Int) by omega) List.nodup_range) (fun b hb=>by
      obtain ⟨c,hc',rfl⟩:=List.mem_map.1 hb
      exact all _ (h c (by omega) (by have:=List.mem_range.1 hc';omega)))
    simp at h1
    omega
theorem ZrF (hN:4194304 < N) (hm:XL m) {S:Nat} (hS:m.States=(S:Int)) (i:Int) (ag:List Int→Int→Option (List Int)):∀ (r:List T9) (n k:Nat) (q:List Int),m.Moves.drop k=r→r.length < n→UpR m q →
  Ra N m i ag n q (k:Int)=ag (VY r q) (Zi (i+1)):=by
 intro r
 induction r with
 | nil =>
  intro n k q hr hn hq
  obtain ⟨n,rfl⟩:=pS n (by simp at hn;omega)
  rw [Ra,ZJ (List.drop_eq_nil_iff.1 hr)];rfl
 | cons x r ih =>
  intro n k q hr hn hq
  obtain ⟨n,rfl⟩:=pS n (by simp at hn;omega)
  obtain ⟨hk,hx,hr'⟩:=Xr hr
  have hnm:=hm.n
  have hs1:=hm.s1
  have hl:=hq.len hm hS
  obtain ⟨b,eb,hb⟩:=ZqH hN q (by omega) x.From
  have hxm:=Zb hx
  rw [Ra,ZG hk,Zs,hx,ZA (by omega)]
  simp only [cT,bS]
  rw [eb]
  simp only [Zg] at hn
  show _=ag (VY r (VS q x)) _
  cases b with
  | true =>
   have e:VS q x=Ve x.To false q:=by unfold VS;rw [if_pos (hb.1 rfl)]
   simp only [bS,cT]
   rw [Zq6 hN q (by omega) x.To,e]
   exact ih n (k+1) (Ve x.To false q) hr' (by omega) (e ▸ hq.add hxm)
  | false =>
   have e:VS q x=q:=by unfold VS;rw [if_neg (fun h=>by have:=hb.2 h;cases this)]
   rw [e]
   exact ih n (k+1) q hr' (by omega) hq
theorem Zqu (hN:4194304 < N) (hm:XL m) {S:Nat} (hS:m.States=(S:Int)):∀ (d n j:Nat) (q:List Int),S-j=d→d < n→UpR m q→Ug N m n q (j:Int)=some (V9 m (S-j) q):=by
 intro d
 have hs1:=hm.s1
 have hnm:=hm.n
 induction d with
 | zero =>
  intro n j q hd hn hq
  obtain ⟨n,rfl⟩:=pS n (by omega)
  have e:decide ((j:Int) < m.States)=false:=by simp;omega
  rw [Ug,e,hd];rfl
 | succ d ih =>
  intro n j q hd hn hq
  obtain ⟨n,rfl⟩:=pS n (by omega)
  have e:decide ((j:Int) < m.States)=true:=by simp;omega
  rw [Ug,e,cT,hd]
  have:=ZrF hN hm hS (j:Int) (Ug N m n) m.Moves N 0 q rfl (by omega) hq
  rw [show ((0:Nat):Int)=0 from rfl] at this
  rw [this,ZA (by omega),ih n (j+1) (VY m.Moves q) (by omega) (by omega) (UpR.rnd m.Moves (fun _ h=>h) hq)]
  rw [show S-(j+1)=d by omega];rfl
theorem ZmI (hN:4194304 < N) (hm:XL m):∃ q,z66 N m=some q∧(((q.length:Int)==m.States)=true↔∀ c:Int,0≤c→c < m.States→Rch m c):=by
 have h0:=hm.s0
 have h1:=hm.s1
 obtain ⟨S,hS⟩:=Ze (show 0≤m.States by omega)
 have hu:UpR m [m.Start]:=⟨by simp,fun i hi=>by rw [List.mem_singleton.1 hi];exact .start,by simp⟩
 have:=Zqu hN hm hS S N 0 [m.Start] rfl (by omega) hu
 exact ⟨_,this,Zq2 hm hS⟩
end
section
variable {N:Nat} {m:T8}
structure GO (m:T8):Prop where
 n:XL m
 ap:RN m=true
 tm:ZN (Tn m) m.Timeouts 0=true
 rc:∀ c:Int,0≤c→c < m.States→Rch m c
theorem Zj7 (hN:4194304 < N) (m:T8) (ht:m.Timeouts.length≤4194304):∃ b,PN N m=some b∧L7 N m=some b∧(b=true→GO m):=by
 unfold PN P8 L7
 rw [Zho hN,ZsK hN]
 simp only [bS]
 cases hm:R6 m with
 | false=>exact ⟨false,rfl,rfl,fun h=>by cases h⟩
 | true =>
  have hm:=(ZhG m).1 hm
  rw [ZiZ hN m hm]
  obtain ⟨b1,b2,e1,e2,e3⟩:=ZpX hN hm
  obtain ⟨b3,e4,h4⟩:=ZqJ hN hm
  obtain ⟨q,e5,h5⟩:=ZmI hN hm
  have e6:=Znx (t:=⟨m,Wj N m⟩) hN rfl ht
  rw [Zqe hN hm,Zp7 hN m ht,e5]
  have hq:((q.length:Int)==m.States)=b3:=by
   rw [Bool.eq_iff_iff];exact h5.trans h4.symm
  simp only [Zh,cond_false,bS,e1,e2,e4,e6]
  rw [hq,← e3]
  have fin:(b1 && b2)=true→b3=true→ZN (Tn m) m.Timeouts 0=true→GO m:=fun x y z=>⟨hm,by rw [← e3];exact x,z,h4.1 y⟩
  revert fin
  generalize ZN (Tn m) m.Timeouts 0=b4
  intro fin
  cases b1<;>cases b2<;>cases b3<;>cases b4<;>first | exact ⟨_,rfl,rfl,fun _=>fin rfl rfl rfl⟩ | exact ⟨_,rfl,rfl,fun h=>by cases h⟩
end
section
variable {N:Nat}
theorem Zju {a b:ByteArray} (h:a.toList=b.toList):a=b:=by
 rw [XS,XS] at h
 unfold bs at h
 cases a;cases b
 rename_i x y
 have:x=y:=Array.ext' h
 rw [this]
theorem ZlR (a b:ByteArray):∃ z,P4 N a b=some z∧(z=0↔a=b):=by
 unfold P4 M4
 have e:∀ x:ByteArray,(!(x.toList==x.toList))=false:=fun x=>by simp
 simp only [bS,e,cond_false]
 cases h1:Op.bytesLess a.toList b.toList with
 | true=>exact ⟨_,rfl,(fun h=>absurd h (by decide)),fun h=>by subst h;rw [show Op.bytesLess a.toList a.toList=false from ZiU a] at h1;cases h1⟩
 | false =>
  cases h2:(a.toList==b.toList) with
  | true=>exact ⟨_,rfl,fun _=>Zju (eq_of_beq h2),fun _=>rfl⟩
  | false=>exact ⟨_,rfl,(fun h=>absurd h (by decide)),fun h=>by subst h;simp at h2⟩
theorem ZoP (hN:4194304 < N) (a b c d:Int):∃ z,TQ N [a,b,c,d]=some z∧(z=0↔a=0∧b=0∧c=0∧d=0):=by
 obtain ⟨n,rfl⟩:∃ n,N=n+5:=⟨N-5,by omega⟩
 unfold TQ
 rw [WO,WO,WO,WO,WO]
 have w0:Zi ((0:Int)+1)=1:=by decide
 have w1:Zi ((1:Int)+1)=2:=by decide
 have w2:Zi ((2:Int)+1)=3:=by decide
 have w3:Zi ((3:Int)+1)=4:=by decide
 rw [w0,w1,w2,w3]
 have i0:Zm [a,b,c,d] 0=some a:=rfl
 have i1:Zm [a,b,c,d] 1=some b:=rfl
 have i2:Zm [a,b,c,d] 2=some c:=rfl
 have i3:Zm [a,b,c,d] 3=some d:=rfl
 rw [i0,i1,i2,i3]
 have l0:decide ((0:Int) < (([a,b,c,d]:List Int).length:Int))=true:=rfl
 have l1:decide ((1:Int) < (([a,b,c,d]:List Int).length:Int))=true:=rfl
 have l2:decide ((2:Int) < (([a,b,c,d]:List Int).length:Int))=true:=rfl
 have l3:decide ((3:Int) < (([a,b,c,d]:List Int).length:Int))=true:=rfl
 have l4:decide ((4:Int) < (([a,b,c,d]:List Int).length:Int))=false:=rfl
 rw [l0,l1,l2,l3,l4]
 simp only [cT,cond_false,bS]
 have nz:∀ x:Int,(x != 0)=true→x≠0:=fun x h=>by simpa using h
 have zz:∀ x:Int,(x != 0)=false→x=0:=fun x h=>by simpa using h
 cases h0:(a != 0)
 ·cases h1:(b != 0)
  ·cases h2:(c != 0)
   ·cases h3:(d != 0)
    ·exact ⟨0,rfl,fun _=>⟨zz _ h0,zz _ h1,zz _ h2,zz _ h3⟩,fun _=>rfl⟩
    ·exact ⟨d,rfl,fun h=>absurd h (nz _ h3),fun h=>h.2.2.2⟩
   ·exact ⟨c,rfl,fun h=>absurd h (nz _ h2),fun h=>h.2.2.1⟩
  ·exact ⟨b,rfl,fun h=>absurd h (nz _ h1),fun h=>h.2.1⟩
 ·exact ⟨a,rfl,fun h=>absurd h (nz _ h0),fun h=>h.1⟩
theorem Ze0 (x y:Int):cI x y=0↔x=y:=by
 rcases Zac x y with ⟨h,e⟩ | ⟨h,e⟩ | ⟨h,e⟩<;>rw [e]<;>omega
theorem Zg7 {a b:Zk} (h1:a.Kind=b.Kind) (h2:a.N=b.N) (h3:a.S=b.S):a=b:=by
 cases a;cases b;simp_all
theorem ZfA (hN:4194304 < N) (a b:Zk):∃ z,VB N a b=some z∧(z=true↔a=b):=by
 unfold VB Dc
 obtain ⟨s,es,hs⟩:=ZlR (N:=N) a.S b.S
 rw [Ry,Ry,Ry,es]
 simp only [bS]
 obtain ⟨z,ez,hz⟩:=ZoP hN (cI a.Kind b.Kind) (cI a.N b.N) (cI (a.S.size:Int) (b.S.size:Int)) s
 rw [ez]
 refine ⟨_,rfl,?_⟩
 rw [beq_iff_eq,hz,Ze0,Ze0,Ze0,hs]
 exact ⟨fun h=>Zg7 h.1 h.2.1 h.2.2.2,fun h=>by subst h;exact ⟨rfl,rfl,rfl,rfl⟩⟩
theorem ZkH {A:Type} {a b:List A} (h:a.length=b.length):(∀ (i:Nat) x y,a[i]? = some x→b[i]? = some y→x=y)↔a=b:=by
 constructor
 ·intro hh
  refine List.ext_getElem? fun i=>?_
  by_cases hi:i < a.length
  ·have e1:=Za hi
   have e2:=Za (show i < b.length by omega)
   rw [e1,e2,hh i _ _ e1 e2]
  ·rw [List.getElem?_eq_none (by omega),List.getElem?_eq_none (by omega)]
 ·intro e i x y hx hy
  subst e
  rw [hx] at hy;cases hy;rfl
theorem Zrv (hN:4194304 < N) (a b:List Zk) (hl:a.length≤4194304):∃ z,Sj N a b=some z∧(z=true↔a=b):=by
 unfold Sj Ge
 rw [MK]
 by_cases h:a.length=b.length
 ·rw [dT h]
  let p:Zk→Zk→Bool:=fun x y=>(VB N x y).getD false
  obtain ⟨z,ez,hz⟩:=MU p (xs:=a) (ys:=b) (F:=U3 N a b) (n:=N) h (by omega) (fun n k x y hk hx hy=>by
   rw [U3,ZG hk,Zs,hx,Zs,hy,ZA (by omega)]
   obtain ⟨q,eq,_⟩:=ZfA hN x y
   have e:p x y=q:=by show (VB N x y).getD false=q;rw [eq];rfl
   simp only [cT,bS,eq,e]
   cases q<;>rfl) (fun n k hk=>by
   rw [U3,ZJ hk];rfl)
  simp only [Zh,cond_false,ez,bS]
  refine ⟨z,rfl,hz.trans (Iff.trans ⟨fun hh i x y hx hy=>?_,fun hh i x y hx hy=>?_⟩ (ZkH h))⟩
  ·obtain ⟨q,eq,hq⟩:=ZfA hN x y
   have:=hh i x y hx hy
   have e:p x y=q:=by show (VB N x y).getD false=q;rw [eq];rfl
   rw [e] at this
   exact hq.1 this
  ·obtain ⟨q,eq,hq⟩:=ZfA hN x y
   show (VB N x y).getD false=true
   rw [eq,hq.2 (hh i x y hx hy)];rfl
 ·rw [dF h]
  exact ⟨false,rfl,by simp;exact fun e=>h (congrArg List.length e)⟩
theorem Znz (hN:4194304 < N) (a b:List Zk) (hl:a.length≤4194304):∃ z,TO N a b=some z∧(z=true↔a=b):=by
 unfold TO
 rw [MK]
 by_cases h:a.length=b.length
 ·rw [dT h]
  let p:Zk→Zk→Bool:=fun x y=>(x.Kind==y.Kind) && ((x.N==y.N) && ((x.S.toList==y.S.toList) && true))
  have hp:∀ x y,p x y=true↔x=y:=fun x y=>by
   show ((x.Kind==y.Kind) && ((x.N==y.N) && ((x.S.toList==y.S.toList) && true)))=true↔_
   simp only [Zc,beq_iff_eq,and_true]
   exact ⟨fun h=>Zg7 h.1 h.2.1 (Zju h.2.2),fun h=>by subst h;exact ⟨rfl,rfl,rfl⟩⟩
  obtain ⟨z,ez,hz⟩:=MU p (xs:=a) (ys:=b) (F:=VP a b) (n:=N) h (by omega) (fun n k x y hk hx hy=>by
   rw [VP,ZG hk,Zs,hx,Zs,hy,ZA (by omega)]
   simp only [cT,bS]
   show (bif !(p x y) then _ else _)=_
   cases p x y<;>rfl) (fun n k hk=>by
   rw [VP,ZJ hk];rfl)
  simp only [Zh,cond_false,ez]
  exact ⟨z,rfl,hz.trans (Iff.trans ⟨fun hh i x y hx hy=>(hp x y).1 (hh i x y hx hy),fun hh i x y hx hy=>(hp x y).2 (hh i x y hx hy)⟩ (ZkH h))⟩
 ·rw [dF h]
  exact ⟨false,rfl,by simp;exact fun e=>h (congrArg List.length e)⟩
theorem Zp9 (hN:4194304 < N) (a b:List Zk) (hl:a.length≤4194304):∃ z,Sj N a b=some z∧TO N a b=some z∧(z=true↔a=b):=by
 obtain ⟨z,e1,h1⟩:=Zrv hN a b hl
 obtain ⟨y,e2,h2⟩:=Znz hN a b hl
 have:z=y:=by rw [Bool.eq_iff_iff];exact h1.trans h2.symm
 subst this
 exact ⟨z,e1,e2,h1⟩
end
section
variable {N:Nat}
theorem ZqX (hN:4194304 < N) (s:ByteArray) (hs:s.size≤4194304):BW N s=some (!(bs s).any Yw):=by
 have ZR:=YD (fun (b:UInt8) _ => !Yw b) (xs:=bs s) (F:=Rj s) (e:=some true) (n:=N) (by rw [YU] at hs;omega) (by
  intro n k b hk hb
  rw [Rj,YU,ZG hk,PC,hb,ZA (by rw [YU] at hs;omega)]
  simp only [cT,Option.map_some,bS]
  have e1:decide (((b.toNat:Nat):Int) < 32)=decide (b.toNat < 32):=by by_cases h:b.toNat < 32<;>simp [h]<;>omega
  have e2:decide (((b.toNat:Nat):Int) > 126)=decide (126 < b.toNat):=by by_cases h:126 < b.toNat<;>simp [h]<;>omega
  rw [e1,e2]
  unfold Yw
  cases decide (b.toNat < 32)<;>cases decide (126 < b.toNat)<;>rfl) (by
  intro n k hk
  rw [Rj,YU,ZJ hk];rfl)
 unfold BW
 have e0:Rj s N 0=_:=ZR
 rw [e0]
 have:ZN (fun (b:UInt8) _ => !Yw b) (bs s) 0 = !(bs s).any Yw:=ZbP Yw (bs s) 0
 rw [this]
 cases (bs s).any Yw<;>rfl
theorem tri (a b c:Bool):(bif a then (bif b then some c else some false) else some false)=some (a && (b && c)):=by cases a<;>cases b<;>rfl
theorem Zjb (s:Yg):Hz N s=some (TB s):=by
 unfold Hz TB
 rw [tri,tri]
 cases (s.Kind==1)<;>cases (s.Kind==2)<;>rfl
theorem Zbl (hN:4194304 < N) (v:Zk) (hv:v.S.size≤4194304):Rh N v=some (Vr v):=by
 unfold Rh Vr
 rw [ZqX hN _ hv]
 simp only [bS]
 rw [tri,tri]
 cases (v.Kind==1)<;>cases (v.Kind==2)<;>rfl
theorem Zla (v:Zk):L8 N v=some (SR v):=by
 unfold L8 SR
 cases (v.Kind==1)<;>cases (v.Kind==2)<;>rfl
theorem Zeu (hN:4194304 < N) (s:Yg) (v:Zk) (hv:v.S.size≤4194304):Pz N s v=some (Wv s v):=by
 unfold Pz Wv
 rw [Zjb,Zbl hN v hv,Zla]
 simp only [bS]
 cases TB s<;>cases Vr v<;>cases (s.Kind==v.Kind)<;>cases decide (SR v≥s.Lo)<;>rfl
theorem ZpY (hN:4194304 < N) (fs:List T4) (vs:List Zk) (hl:vs.length≤4194304) (hv:∀ v∈vs,v.S.size≤4194304):∃ b,La N fs vs=some b∧ZdT N fs vs=some b∧(b=true↔S3 fs vs):=by
 obtain ⟨b,e,hb⟩:=ZkG hN fs vs hl hv
 refine ⟨b,e,?_,hb⟩
 unfold ZdT
 rw [MK]
 by_cases h:fs.length=vs.length
 ·rw [dT h]
  obtain ⟨q,eq,hq⟩:=MU (fun (f:T4) (v:Zk)=>Wv f.Sort' v) (xs:=fs) (ys:=vs) (F:=GU N fs vs) (n:=N) h (by omega) (fun n k f v hk hf hv'=>by
   rw [GU,ZG hk,Zs,hf,Zs,hv',ZA (by omega)]
   simp only [cT,bS,Zeu hN _ _ (hv v (Zb hv'))]
   cases Wv f.Sort' v<;>rfl) (fun n k hk=>by
   rw [GU,ZJ hk];rfl)
  simp only [Zh,cond_false]
  rw [eq]
  have:q=b:=by
   rw [Bool.eq_iff_iff,hb,hq]
   exact ⟨fun g=>⟨h,g⟩,fun g=>g.2⟩
  rw [this]
 ·rw [dF h]
  have:b=false:=by
   cases b with
   | false=>rfl
   | true=>exact absurd (hb.1 rfl).1 h
  rw [this];rfl
theorem Zab {s:Yg} (hs:Xm s) (v:Zk):Wv s v=Xv s v:=by
 unfold Wv TB Vr SR Xv Ye
 rcases hs with ⟨k,h1,h2,h3⟩ | ⟨k,h1,h2,h3⟩
 ·rw [k]
  rw [dT h1,dT h2,dT h3]
  by_cases c:v.Kind=1
  ·have e1:(v.Kind==1)=true:=by simp [c]
   have e2:(v.Kind==2)=false:=by simp [c]
   have e3:((1:Int)==v.Kind)=true:=by simp [c]
   rw [e1,e2,e3]
   simp only [cT,cond_false,Bool.true_and,beq_self_eq_true]
   by_cases q1:s.Lo≤v.N
   ·by_cases q2:v.N≤s.Hi
    ·rw [dT (show v.N≥-1000 by omega),dT (show v.N≤1000 by omega),dT (show v.N≥s.Lo from q1),dT q2]
     cases (v.S.toList==(str []).toList)<;>rfl
    ·rw [dF q2];simp
   ·rw [dF q1];simp
  ·have e1:(v.Kind==1)=false:=by simp [c]
   have e3:((1:Int)==v.Kind)=false:=by rw [beq_eq_false_iff_ne];exact fun e=>c e.symm
   rw [e1,e3];simp
 ·rw [k]
  have k1:((2:Int)==1)=false:=rfl
  rw [k1,dT h1,dT h2,dT h3]
  by_cases c:v.Kind=2
  ·have e1:(v.Kind==1)=false:=by simp [c]
   have e2:(v.Kind==2)=true:=by simp [c]
   have e3:((2:Int)==v.Kind)=true:=by simp [c]
   rw [e1,e2,e3]
   simp only [cT,cond_false,Bool.true_and,beq_self_eq_true]
   by_cases q2:(v.S.size:Int)≤s.Hi
   ·rw [dT (show (v.S.size:Int)≤40 by omega),dT q2]
    have:decide ((v.S.size:Int)≥s.Lo)=decide (s.Lo≤(v.S.size:Int)):=rfl
    rw [this]
    cases (v.N==0)<;>cases (bs v.S).any Yw<;>cases decide (s.Lo≤(v.S.size:Int))<;>rfl
   ·rw [dF q2];simp
  ·have e1:(v.Kind==2)=false:=by simp [c]
   have e3:((2:Int)==v.Kind)=false:=by rw [beq_eq_false_iff_ne];exact fun e=>c e.symm
   rw [e1,e3];simp
theorem Zat {d:List T0} (hv:YO d=true) {x:T0} (hx:x∈d) {f:T4} (hf:f∈x.Fields):Xm f.Sort':=by
 obtain ⟨i,hi⟩:=List.mem_iff_getElem?.1 hx
 obtain ⟨first,_,_,_,_,h⟩:=Pn hv hi
 unfold X5 at h
 simp only [Zc] at h
 have h:=h.2.2.2.2.1
 rw [Xc] at h
 obtain ⟨k,hk⟩:=List.mem_iff_getElem?.1 hf
 have:=h k f hk
 unfold UK at this
 simp only [Zc,decide_eq_true_eq] at this
 exact this.2.1
theorem Zkb {d:List T0} (hv:YO d=true) {f:T4} (hf:f∈Zx d):Xm f.Sort':=by
 unfold Zx at hf
 obtain ⟨l,hl,hfl⟩:=List.mem_flatten.1 hf
 obtain ⟨x,hx,rfl⟩:=List.mem_map.1 hl
 exact Zat hv hx hfl
theorem Zjf {d:List T0} (hv:YO d=true) (ks:List Zk):Vp (Zx d) ks=true↔RH (Zx d) ks:=by
 unfold Vp RH
 rw [Zc,decide_eq_true_eq,Xc]
 constructor
 ·rintro ⟨h1,h2⟩
  refine ⟨h1,fun i f v hf hv'=>?_⟩
  have:=h2 i v hv'
  rw [Nat.zero_add] at this
  unfold XD at this
  rw [hf] at this
  rw [Zab (Zkb hv (Zb hf))];exact this
 ·rintro ⟨h1,h2⟩
  refine ⟨h1,fun i v hv'=>?_⟩
  have hi:=(List.getElem?_eq_some_iff.1 hv').1
  have hf:=Za (show i < (Zx d).length by omega)
  rw [Nat.zero_add]
  unfold XD
  rw [hf]
  have:=h2 i _ v hf hv'
  rw [Zab (Zkb hv (Zb hf))] at this
  exact this
theorem Ztx {d:List T0} (hv:YO d=true) {x:T0} (hx:x∈d) (vs:List Zk):XP x.Fields vs=true↔S3 x.Fields vs:=by
 unfold XP S3
 rw [Zc,decide_eq_true_eq,Xc]
 constructor
 ·rintro ⟨h1,h2⟩
  refine ⟨h1,fun i f v hf hv'=>?_⟩
  have:=h2 i v hv'
  rw [Nat.zero_add] at this
  unfold XD at this
  rw [hf] at this
  rw [Zab (Zat hv hx (Zb hf))];exact this
 ·rintro ⟨h1,h2⟩
  refine ⟨h1,fun i v hv'=>?_⟩
  have hi:=(List.getElem?_eq_some_iff.1 hv').1
  have hf:=Za (show i < x.Fields.length by omega)
  rw [Nat.zero_add]
  unfold XD
  rw [hf]
  have:=h2 i _ v hf hv'
  rw [Zab (Zat hv hx (Zb hf))] at this
  exact this
end
section
variable {N:Nat}
theorem Zh6 (hN:4194304 < N) (d:List T0) (hl:d.length≤1000) (hd:∀ x∈d,Wk x) (hn:∀ x∈d,TN x) (label:Int):Tu N d label=some (YO d && decide (0≤label∧label < (d.length:Int))):=by
 unfold Tu
 rw [ZjA hN d (by omega) hd hn]
 simp only [bS]
 cases YO d with
 | false=>rfl
 | true =>
  by_cases c1:label≥0
  ·rw [dT c1]
   by_cases c2:label < (d.length:Int)
   ·rw [dT c2,dT (show 0≤label∧label < (d.length:Int) from ⟨c1,c2⟩)];rfl
   ·rw [dF c2,dF (show ¬ (0≤label∧label < (d.length:Int)) from fun h=>c2 h.2)];rfl
  ·rw [dF c1,dF (show ¬ (0≤label∧label < (d.length:Int)) from fun h=>c1 h.1)];rfl
theorem ZdU (hN:4194304 < N) (d:List T0) (hl:d.length≤1000) (hd:∀ x∈d,Wk x) (hn:∀ x∈d,TN x) (label:Int) (vs ks:List Zk) (hv:vs.length≤4194304) (hk:ks.length≤4194304) (hs:Ze6 vs ks) :
  TG N d label vs ks=some (Xa d label vs ks)∧z50 N d label vs ks=QP N d label vs ks:=by
 have hpp:Uj d label ks=((YO d && decide (0≤label∧label < (d.length:Int))) && Vp (Zx d) ks):=by
  unfold Uj
  cases YO d<;>cases decide (0≤label∧label < (d.length:Int))<;>rfl
 unfold QP TG
 rw [Zh6 hN d hl hd hn]
 rcases Zdv hN d hl hd hn label vs ks hv hk hs with ⟨hp,h⟩ | ⟨hp,i,x,first,hlab,hi,hf,hdv,hrest⟩
 ·rw [h]
  have hcv:Xa d label vs ks=false:=by unfold Xa;rw [hp];rfl
  rw [hcv]
  rw [hp] at hpp
  cases he:(YO d && decide (0≤label∧label < (d.length:Int))) with
  | false=>exact ⟨rfl,rfl⟩
  | true =>
   rw [he] at hpp
   have hval:YO d=true:=by rw [Zc] at he;exact he.1
   simp only [bS,Zh,cond_false]
   rw [B6 hN d hl hd hval ks hk hs.k]
   have:Vp (Zx d) ks=false:=by simpa using hpp.symm
   rw [this]
   exact ⟨rfl,rfl⟩
 ·rw [hp] at hpp
  have hpp:=hpp.symm
  rw [Zc] at hpp
  obtain ⟨he,hkn⟩:=hpp
  have hval:YO d=true:=by rw [Zc] at he;exact he.1
  have hidx:Zm d label=some x:=by rw [hlab,Zs];exact hi
  have hxm:x∈d:=Zb hi
  rw [he]
  simp only [bS,Zh,cond_false]
  rw [B6 hN d hl hd hval ks hk hs.k,hkn,hidx]
  simp only [bS,Zh,cond_false]
  rw [Zqc hN x (hd x hxm) (fun f hf=>Zhy hval hxm hf) vs hv hs.v]
  have hef:x.First.toNat=first:=by omega
  rcases hrest with ⟨hfit,h⟩ | ⟨hfit,hle,h⟩
  ·rw [h,hfit]
   have hcv:Xa d label vs ks=false:=by unfold Xa;rw [hp,hidx];simp only [hfit];rfl
   rw [hcv]
   exact ⟨rfl,rfl⟩
  ·rw [h,hfit]
   have hcv:Xa d label vs ks=W8 x.Guard (Yj first vs ks):=by unfold Xa;rw [hp,hidx];simp only [hfit,hef];rfl
   rw [hcv]
   simp only [bS,Zh,cond_false]
   rw [Zjz hN x vs ks first hf hle hk]
   simp only [bS]
   have hbl:=HX first vs ks hle
   have hkl:=ZeI hkn
   rw [Zg2 hN x.Guard _ (by rw [hbl,← hkl];exact ZdB (DI hdv))]
   exact ⟨rfl,trivial⟩
structure ZgJ (g:T5) (m:T8):Prop where
 a:MZ g m
 mv:GO m
 gv:Zkv g
 r:m.Role < (g.Roles.length:Int)
 p:∀ x∈m.Moves,x.Peer < (g.Roles.length:Int)
theorem ZjN (hN:4194304 < N) (g:T5) (hg:Ua g) (hs:VX g) (hn:Uh g) (m:T8) (ht:m.Timeouts.length≤4194304):∃ b,Tz N g m=some b∧ZcC N g m=some b∧(b=true→ZgJ g m):=by
 obtain ⟨b0,e0,h0⟩:=Zjj hN g hg hs m ht
 have e0':=e0
 unfold Tz at e0
 unfold ZcC
 obtain ⟨b1,e1,f1,h1⟩:=Zg4 hN g hg hs hn
 obtain ⟨b2,e2,f2,h2⟩:=Zj7 hN m ht
 rw [e1,e2] at e0
 rw [f1,f2]
 simp only [bS] at e0 ⊢
 refine ⟨b0,e0',?_⟩
 cases b1 with
 | false=>cases e0;exact ⟨rfl,fun h=>by cases h⟩
 | true =>
 cases b2 with
 | false=>cases e0;exact ⟨rfl,fun h=>by cases h⟩
 | true =>
 have hm:=h2 rfl
 have hnm:=hm.n.n
 simp only [cT,Zh,cond_false] at e0 ⊢
 by_cases c:m.Role < (g.Roles.length:Int)
 ·rw [dT c] at e0
  rw [dF (show ¬ m.Role≥(g.Roles.length:Int) by omega)]
  simp only [cT,cond_false] at e0 ⊢
  unfold Gr Gn at e0
  have ep:∀ y,Pm N y g=some (decide (y.Peer≥(g.Roles.length:Int)) || decide (y.Label≥(g.Decls.length:Int))):=fun y=>by
   unfold Pm
   cases decide (y.Peer≥(g.Roles.length:Int))<;>rfl
  obtain ⟨z,ez,hz⟩:=ZaC (fun (y:T9)=>decide (y.Peer≥(g.Roles.length:Int)) || decide (y.Label≥(g.Decls.length:Int))) (xs:=m.Moves) (F:=TH N m.Moves g) (fun n k x hk hx=>by
   rw [TH,ZG hk,Zs,hx,ZA (by omega)]
   simp only [cT,bS,ep]) (fun n k hk=>by
   rw [TH,ZJ hk];rfl) _ N 0 rfl (by omega)
  rw [show ((0:Nat):Int)=0 from rfl] at ez
  rw [ez] at e0
  simp only [bS] at e0
  have ZR:=YD (fun (y:T9) _ => !(decide (y.Peer≥(g.Roles.length:Int)) || decide (y.Label≥(g.Decls.length:Int)))) (xs:=m.Moves) (F:=SL g m) (e:=some true) (n:=N) (by omega) (fun n k x hk hx=>by
   rw [SL,ZG hk,Zs,hx,ZA (by omega)]
   simp only [cT,bS]
   cases decide (x.Peer≥(g.Roles.length:Int))<;>cases decide (x.Label≥(g.Decls.length:Int))<;>rfl) (fun n k hk=>by
   rw [SL,ZJ hk];rfl)
  have k0:SL g m N 0=_:=ZR
  rw [k0]
  rcases hz with ⟨rfl,hz⟩ | ⟨i,y,rfl,hy,hp⟩
  ·cases e0
   have ha:ZN (fun (y:T9) _ => !(decide (y.Peer≥(g.Roles.length:Int)) || decide (y.Label≥(g.Decls.length:Int)))) m.Moves 0=true:=by
    rw [Xc]
    intro i x hx
    rw [hz i x (Nat.zero_le _) hx];rfl
   rw [ha]
   refine ⟨rfl,fun _=>⟨h0 rfl,hm,h1.1 rfl,c,fun x hx=>?_⟩⟩
   obtain ⟨i,hi⟩:=List.getElem?_of_mem hx
   have:=hz i x (Nat.zero_le _) hi
   simp only [Bool.or_eq_false_iff,decide_eq_false_iff_not] at this
   omega
  ·have eb:b0=false:=by
    have:=Option.some.inj e0
    rw [← this];simp
   subst eb
   have ha:ZN (fun (y:T9) _ => !(decide (y.Peer≥(g.Roles.length:Int)) || decide (y.Label≥(g.Decls.length:Int)))) m.Moves 0=false:=by
    cases hb:ZN (fun (y:T9) _ => !(decide (y.Peer≥(g.Roles.length:Int)) || decide (y.Label≥(g.Decls.length:Int)))) m.Moves 0 with
    | false=>rfl
    | true =>
     rw [Xc] at hb
     have:=hb i y hy
     rw [hp] at this;cases this
   rw [ha]
   exact ⟨rfl,fun h=>by cases h⟩
 ·rw [dF c] at e0
  rw [dT (show m.Role≥(g.Roles.length:Int) by omega)]
  cases e0
  exact ⟨rfl,fun h=>by cases h⟩
structure StK (g:T5) (m:T8) (s:ZM):Prop where
 a0:0≤s.At
 a1:s.At < m.States
 k:RH (Zx g.Decls) s.Known
theorem Zl9 (hN:4194304 < N) (g:T5) (hg:Ua g) (hs:VX g) (hn:Uh g) (m:T8) (ht:m.Timeouts.length≤4194304) (s:ZM) (hk:s.Known.length≤4194304) (hv:∀ v∈s.Known,v.S.size≤4194304) :
  ∃ b,Sb N g m s=some b∧ZaF N g m s=some b∧(b=true↔Tz N g m=some true∧StK g m s):=by
 unfold Sb ZaF
 obtain ⟨b,e,f,h⟩:=ZjN hN g hg hs hn m ht
 rw [e,f]
 simp only [bS]
 cases b with
 | false=>exact ⟨false,rfl,rfl,(fun h=>by cases h),(fun h=>by cases h.1)⟩
 | true =>
 have hA:=h rfl
 have hval:=hA.a.v
 obtain ⟨l1,l2⟩:=Sd hval
 rw [Zej hN g hval,B6 hN g.Decls (by omega) hg.dd hval s.Known hk hv]
 obtain ⟨q,eq,hq⟩:=ZkU hN (Zx g.Decls) s.Known hk hv
 have hqk:Vp (Zx g.Decls) s.Known=q:=by rw [Bool.eq_iff_iff,hq,Zjf hval]
 simp only [cT,bS,eq,hqk]
 by_cases c1:s.At≥0
 ·rw [dT c1]
  by_cases c2:s.At < m.States
  ·rw [dT c2]
   exact ⟨q,rfl,rfl,fun h=>⟨trivial,c1,c2,hq.1 h⟩,fun h=>hq.2 h.2.k⟩
  ·rw [dF c2]
   exact ⟨false,rfl,rfl,(fun h=>by cases h),fun h=>absurd h.2.a1 c2⟩
 ·rw [dF c1]
  exact ⟨false,rfl,rfl,(fun h=>by cases h),fun h=>absurd h.2.a0 c1⟩
end
section
variable {N:Nat}
def Vb (y:T9) (at':Int) (x:T3):Bool:=y.From==at' && (y.Send==x.Send && (y.Peer==x.Peer && y.Label==x.Label))
def Mq:ZM:=⟨0,[],[]⟩
inductive StepR (g:T5) (m:T8) (s:ZM) (x:T3):ZM × Int→Prop
 | role:x.Role≠m.Role→StepR g m s x (Mq,12)
 | move:x.Role=m.Role→(∀ (i:Nat) y,m.Moves[i]? = some y→Vb y s.At x=false)→StepR g m s x (Mq,23)
 | type {i:Nat} {y d}:x.Role=m.Role→m.Moves[i]? = some y→Vb y s.At x=true→Zm g.Decls x.Label=some d→¬ S3 d.Fields x.Values→StepR g m s x (Mq,11)
 | guard {i:Nat} {y d}:x.Role=m.Role→m.Moves[i]? = some y→Vb y s.At x=true→Zm g.Decls x.Label=some d→S3 d.Fields x.Values→(Xa g.Decls x.Label x.Values s.Known=false∨(Xa g.Decls x.Label x.Values s.Known=true∧y.Again=true∧x.Values≠s.Pending))→StepR g m s x (Mq,17)
 | ok {i:Nat} {y d} {first:Nat}:x.Role=m.Role→m.Moves[i]? = some y→Vb y s.At x=true→Zm g.Decls x.Label=some d→S3 d.Fields x.Values→Xa g.Decls x.Label x.Values s.Known=true→(y.Again=true→x.Values=s.Pending) →
   d.First=(first:Int)→first+x.Values.length≤s.Known.length→z50 N g.Decls x.Label x.Values s.Known=some (Yj first x.Values s.Known,0)→StepR g m s x (⟨y.To,Yj first x.Values s.Known,bif x.Send then x.Values else []⟩,0)
def ZgH (N:Nat) (g_:T5) (m_:T8) (s_:ZM) (x_:T3):Option (ZM × Int) :=
 (ZaU N m_ s_.At x_).bind fun x2 =>
 bif (x_.Role != m_.Role) then (some (Mq,(12:Int)))
 else bif (decide (x2 < (0:Int))) then (some (Mq,(23:Int)))
 else (Zm g_.Decls x_.Label).bind fun x3 =>
 (Zdz N x3 x_.Values).bind fun x4 =>
 bif (!x4) then (some (Mq,(11:Int)))
 else (TG N g_.Decls x_.Label x_.Values s_.Known).bind fun x5 =>
 bif (!x5) then (RS N g_ m_ s_ x_ x2 true)
 else (Zm m_.Moves x2).bind fun x11 =>
 bif x11.Again then ((TO N x_.Values s_.Pending).bind fun x12 =>
 RS N g_ m_ s_ x_ x2 (!x12))
 else RS N g_ m_ s_ x_ x2 false
theorem Zpe {A:Type} (p:A→Bool) {xs:List A} {F G:Nat→Int→Option Int} (h1:∀ n k x,k < xs.length→xs[k]? = some x→F (n+1) (k:Int)=bif p x then some (k:Int) else F n ((k+1:Nat):Int))
  (h2:∀ n k,xs.length≤k→F (n+1) (k:Int)=some (-1)) (g1:∀ n k x,k < xs.length→xs[k]? = some x→G (n+1) (k:Int)=bif p x then some (k:Int) else G n ((k+1:Nat):Int))
  (g2:∀ n k,xs.length≤k→G (n+1) (k:Int)=some (-1)):∀ (d n k:Nat),xs.length-k=d→d < n→∃ z,F n (k:Int)=some z∧G n (k:Int)=some z∧((z=-1∧∀ (i:Nat) x,k≤i→xs[i]? = some x→p x=false)∨∃ (i:Nat) (x:A),z=(i:Int)∧xs[i]? = some x∧p x=true):=by
 intro d
 induction d with
 | zero =>
  intro n k hd hn
  obtain ⟨n,rfl⟩:=pS n (by omega)
  exact ⟨-1,h2 n k (by omega),g2 n k (by omega),.inl ⟨rfl,fun i x hi hx=>by have:=(List.getElem?_eq_some_iff.1 hx).1;omega⟩⟩
 | succ d ih =>
  intro n k hd hn
  obtain ⟨n,rfl⟩:=pS n (by omega)
  have hk:k < xs.length:=by omega
  have hx:=Za hk
  rw [h1 n k _ hk hx,g1 n k _ hk hx]
  cases hp:p xs[k] with
  | true=>exact ⟨_,rfl,rfl,.inr ⟨k,_,rfl,hx,hp⟩⟩
  | false =>
   obtain ⟨z,e,f,h⟩:=ih n (k+1) (by omega) (by omega)
   refine ⟨z,e,f,h.imp (fun ⟨a,b⟩=>⟨a,fun i x hi hx'=>?_⟩) id⟩
   by_cases e:i=k
   ·subst e;rw [hx] at hx';cases hx';exact hp
   ·exact b i x (by omega) hx'
theorem ZsL (hN:4194304 < N) (m:T8) (hn:m.Moves.length≤4194304) (s:ZM) (x:T3):∃ z,LW N m.Moves s x=some z∧ZaU N m s.At x=some z ∧
  ((z=-1∧∀ (i:Nat) y,m.Moves[i]? = some y→Vb y s.At x=false)∨∃ (i:Nat) (y:T9),z=(i:Int)∧m.Moves[i]? = some y∧Vb y s.At x=true):=by
 unfold LW ZaU
 have ep:∀ y,Mx N y s x=some (Vb y s.At x):=fun y=>by
  unfold Mx Vb
  cases (y.From==s.At)<;>cases (y.Send==x.Send)<;>cases (y.Peer==x.Peer)<;>rfl
 obtain ⟨z,ez,fz,hz⟩:=Zpe (fun (y:T9)=>Vb y s.At x) (xs:=m.Moves) (F:=Ti N m.Moves s x) (G:=Q8 m s.At x) (fun n k y hk hy=>by
  rw [Ti,ZG hk,Zs,hy,ZA (by omega)]
  simp only [cT,bS,ep]) (fun n k hk=>by
  rw [Ti,ZJ hk];rfl) (fun n k y hk hy=>by
  rw [Q8,ZG hk,Zs,hy,ZA (by omega)]
  simp only [cT,bS]
  unfold Vb
  cases (y.From==s.At)<;>cases (y.Send==x.Send)<;>cases (y.Peer==x.Peer)<;>cases (y.Label==x.Label)<;>rfl) (fun n k hk=>by
  rw [Q8,ZJ hk];rfl) _ N 0 rfl (by omega)
 rw [show ((0:Nat):Int)=0 from rfl] at ez fz
 exact ⟨z,ez,fz,hz.imp (fun ⟨a,b⟩=>⟨a,fun i y hy=>b i y (Nat.zero_le _) hy⟩) id⟩
theorem Zl2 (hN:4194304 < N) (g:T5) (hg:Ua g) (hs:VX g) (m:T8) (hA:MZ g m) (s:ZM) (hS:StK g m s) (x:T3) (hx:Uq x) :
  ∃ r,z25 N g m s x=some r∧ZgH N g m s x=some r∧StepR (N:=N) g m s x r:=by
 obtain ⟨v1,v2⟩:=Sd hA.v
 have hn:=hA.n.n
 have hkl:s.Known.length≤4194304:=by rw [← hS.k.1];omega
 have hks:=PT hS.k
 unfold z25 ZgH
 obtain ⟨z,ez,fz,hz⟩:=ZsL hN m (by omega) s x
 rw [ez,fz]
 simp only [bS]
 by_cases hr:x.Role=m.Role
 ·have er:(x.Role != m.Role)=false:=by simp [hr]
  rw [er]
  rcases hz with ⟨rfl,hz⟩ | ⟨k,y,rfl,hy,hp⟩
  ·exact ⟨_,rfl,rfl,.move hr hz⟩
  have h0:decide ((k:Int) < 0)=false:=by simp
  rw [h0]
  have hp0:=hp
  unfold Vb at hp0
  simp only [Zc,beq_iff_eq] at hp0
  obtain ⟨_,_,_,hlab⟩:=hp0
  have hym:=Zb hy
  obtain ⟨_,⟨t0,t1⟩,_,_,la,_⟩:=hA.n.mv y hym
  have lb:=hA.l y hym
  rw [hlab] at la lb
  obtain ⟨d,hd⟩:=Y3 la lb
  rw [hd]
  unfold Zdz
  simp only [cond_false,bS]
  obtain ⟨bf,ef,ff,hf⟩:=ZpY hN d.Fields x.Values hx.l hx.s
  rw [ef,ff]
  simp only [bS]
  cases bf with
  | false=>exact ⟨_,rfl,rfl,.type hr hy hp hd (fun h=>by have:=hf.2 h;cases this)⟩
  | true =>
  have hfl:=hf.1 rfl
  obtain ⟨gc,gl⟩:=ZdU hN g.Decls (by omega) hg.dd hs.d x.Label x.Values s.Known hx.l hkl ⟨hx.s,hks⟩
  rw [Zj2 hN g.Decls (by omega) hg.dd hs.d x.Label x.Values s.Known hx.l hkl ⟨hx.s,hks⟩,gc]
  simp only [Zh,cond_false,bS]
  cases hcv:Xa g.Decls x.Label x.Values s.Known with
  | false=>exact ⟨_,rfl,rfl,.guard hr hy hp hd hfl (.inl hcv)⟩
  | true =>
  simp only [Zh,cond_false]
  rw [Zs,hy]
  simp only [bS]
  obtain ⟨q,eq,fq,hq⟩:=Zp9 hN x.Values s.Pending hx.l
  rw [eq,fq]
  simp only [bS]
  have fin:(y.Again=true→x.Values=s.Pending)→∃ r,Sh N g m s x (k:Int) false=some r∧RS N g m s x (k:Int) false=some r∧StepR (N:=N) g m s x r:=fun hag=>by
   unfold Sh RS
   have hck:=hcv
   unfold Xa at hck
   rw [Zc] at hck
   obtain ⟨hp',hck⟩:=hck
   rw [Zs,hy]
   simp only [cond_false,bS]
   rw [← gl]
   rcases Zdv hN g.Decls (by omega) hg.dd hs.d x.Label x.Values s.Known hx.l hkl ⟨hx.s,hks⟩ with ⟨h,_⟩ | ⟨_,i,d',first,q1,q2,q3,q4,q5⟩
   ·rw [h] at hp';cases hp'
   have hd':d'=d:=by
    rw [q1,Zs,q2] at hd
    exact Option.some.inj hd
   subst hd'
   rcases q5 with ⟨h,_⟩ | ⟨_,hle,hl⟩
   ·rw [hd] at hck
    simp only [h,Bool.false_and] at hck
    cases hck
   have hR:=StepR.ok (N:=N) hr hy hp hd hfl hcv hag q3 hle hl
   rw [hl]
   simp only [bS]
   unfold Mu
   rw [Yl (by have:=hx.l;simp;omega)]
   cases hsd:x.Send with
   | true=>rw [hsd] at hR;exact ⟨_,rfl,rfl,by simpa using hR⟩
   | false=>rw [hsd] at hR;exact ⟨_,rfl,rfl,hR⟩
  cases hya:y.Again with
  | false=>exact fin (fun h=>by rw [hya] at h;cases h)
  | true =>
   cases q with
   | true=>exact fin (fun _=>hq.1 rfl)
   | false=>exact ⟨_,rfl,rfl,.guard hr hy hp hd hfl (.inr ⟨hcv,hya,fun h=>by have:=hq.2 h;cases this⟩)⟩
 ·have er:(x.Role != m.Role)=true:=by simp [hr]
  rw [er]
  exact ⟨_,rfl,rfl,.role hr⟩
end
section
variable {N:Nat} {g:T5} {m:T8}
theorem StM.K {s:ZM} (h:StM g m s):StK g m s:=⟨h.a0,h.a1,h.k⟩
theorem ZrR (c:TM N g m) (hn:Uh g) {s:ZM} (hS:StM g m s):ZaF N g m s=some true:=by
 obtain ⟨b,_,f,hb⟩:=Zl9 c.hN g c.gg c.ss hn m c.t s (Lz c hS) (PT hS.k)
 rw [f,hb.2 ⟨c.e,hS.K⟩]
theorem ZlU (c:TM N g m) (hn:Uh g) {s:ZM} (hS:StM g m s) {x:T3} (hx:Uq x):Zjc N g m s x=some (XB N g m s x)∧StepR (N:=N) g m s x (XB N g m s x):=by
 obtain ⟨r,e1,e2,hR⟩:=Zl2 c.hN g c.gg c.ss m c.a s hS.K x hx
 have e:XB N g m s x=r:=by unfold XB;rw [e1];rfl
 rw [e]
 refine ⟨?_,hR⟩
 unfold Zjc
 rw [ZrR c hn hS]
 simp only [bS,Zh,cond_false]
 exact e2
end
end Gp
section
section
namespace Gp
open Go Go.Kx Gx
variable {N:Nat}
theorem PM {β γ:Type} (M:Nat) (F:Nat→β→Int→γ) (ag:β→γ) (P:Nat→β→Prop)
  (h1:∀ n B j,j < M→P j B→∃ B',P (j+1) B'∧F (n+1) B (j:Int)=F n B' ((j+1:Nat):Int)) (h2:∀ n B,F (n+1) B (M:Int)=ag B) :
  ∀ (r n j:Nat) (B:β),j+r=M→r < n→P j B→∃ B',P M B'∧F n B (j:Int)=ag B':=by
 intro r
 induction r with
 | zero =>
  intro n j B hj hn hP
  obtain ⟨n,rfl⟩:=pS n (by omega)
  have:j=M:=by omega
  subst this
  exact ⟨B,hP,h2 n B⟩
 | succ r ih =>
  intro n j B hj hn hP
  obtain ⟨n,rfl⟩:=pS n (by omega)
  obtain ⟨B',hP',e⟩:=h1 n B j (by omega) hP
  obtain ⟨B2,hP2,e2⟩:=ih n (j+1) B' (by omega) (by omega) hP'
  exact ⟨B2,hP2,e.trans e2⟩
structure Rep (M:Nat) (B:List Int) (A:Nat→Nat→Int):Prop where
 len:B.length=M * M
 at':∀ i j,i < M→j < M→B[i * M+j]? = some (A i j)
def Xd (A:Nat→Nat→Int) (i j:Nat) (v:Int):Nat→Nat→Int:=fun a b=>if a=i∧b=j then v else A a b
theorem ZoV {M i j a b:Nat} (hj:j < M) (hb:b < M) (h:i * M+j=a * M+b):i=a∧j=b:=by
 have h1:(i * M+j) / M=i:=by rw [Nat.mul_comm,Nat.mul_add_div (by omega),Nat.div_eq_of_lt hj];omega
 have h2:(a * M+b) / M=a:=by rw [Nat.mul_comm,Nat.mul_add_div (by omega),Nat.div_eq_of_lt hb];omega
 have:i=a:=by rw [← h1,← h2,h]
 subst this
 exact ⟨rfl,by omega⟩
theorem Zna {M i j:Nat} (hi:i < M) (hj:j < M):i * M+j < M * M:=by
 have:(i+1) * M≤M * M:=Nat.mul_le_mul_right _ hi
 rw [Nat.add_mul] at this;omega
theorem Rep.set {M:Nat} {B:List Int} {A:Nat→Nat→Int} (h:Rep M B A) {i j:Nat} (hi:i < M) (hj:j < M) (v:Int):Rep M (B.set (i * M+j) v) (Xd A i j v):=by
 refine ⟨by rw [List.length_set];exact h.len,fun a b ha hb=>?_⟩
 rw [List.getElem?_set]
 unfold Xd
 split
 ·rename_i e
  obtain ⟨e1,e2⟩:=ZoV hj hb e
  rw [if_pos (by rw [h.len];exact Zna hi hj),if_pos ⟨e1.symm,e2.symm⟩]
 ·rename_i e
  rw [if_neg (fun ⟨x,y⟩=>e (by rw [x,y])),h.at' a b ha hb]
theorem ZjQ {n i j:Nat} (hn:n≤24) (hi:i≤24) (hj:j≤24):Zi ((Zi ((i:Int) * (Zi ((n:Int)+1))))+(j:Int))=((i * (n+1)+j:Nat):Int):=by
 have h1:i * (n+1)≤24 * 25:=Nat.mul_le_mul hi (by omega)
 rw [ZA (by omega)]
 have e:(i:Int) * ((n+1:Nat):Int)=((i * (n+1):Nat):Int):=by rw [Int.natCast_mul]
 rw [e,Ym (n:=((i * (n+1):Nat):Int)) (by omega) (by omega),Ym (by omega) (by omega)]
 omega
end Gp
end
namespace Gp
open Go Go.Kx Gx
section
variable {N:Nat}
theorem XK (a b:Int):Z1 a b≤a∧Z1 a b≤b∧(Z1 a b=a∨Z1 a b=b):=by unfold Z1;split<;>omega
theorem Wg (a b:Int):a≤ZX a b∧b≤ZX a b∧(ZX a b=a∨ZX a b=b):=by unfold ZX;split<;>omega
structure Ph (M k:Nat) (K:Int) (A0 A:Nat→Nat→Int) (i j:Nat):Prop where
 hi:∀ a b,a < M→b < M→A a b≤20000
 lo:∀ a b,a < M→b < M→-(6 * K)≤A a b
 un:∀ a b,a < M→b < M→¬ (a < i∨(a=i∧b < j))→-K≤A a b
 rc:∀ a b,a < M→b < M→(a=k∨b=k)→-(3 * K)≤A a b
 kk:-(2 * K)≤A k k
 mono:∀ a b,a < M→b < M→A a b≤A0 a b
theorem Ph.step {M k:Nat} {K:Int} {A0 A:Nat→Nat→Int} {i j:Nat} (h:Ph M k K A0 A i j) (hK:0≤K) (hk:k < M) (hi:i < M) (hj:j < M):Ph M k K A0 (Xd A i j (Z1 (A i j) (A i k+A k j))) i (j+1):=by
 have u:=h.un i j hi hj (by omega)
 have hv:=XK (A i j) (A i k+A k j)
 have rik:=h.rc i k hi hk (.inr rfl)
 have rkj:=h.rc k j hk hj (.inl rfl)
 have kk:=h.kk
 have hhi:=h.hi i j hi hj
 have hmo:=h.mono i j hi hj
 have lo':-(6 * K)≤Z1 (A i j) (A i k+A k j):=by omega
 have rc':(i=k∨j=k)→-(3 * K)≤Z1 (A i j) (A i k+A k j):=fun e=>by
  rcases e with e | e
  ·subst e;omega
  ·subst e;omega
 have kk':i=k→j=k→-(2 * K)≤Z1 (A i j) (A i k+A k j):=fun e1 e2=>by subst e1;subst e2;omega
 refine ⟨fun a b ha hb=>?_,fun a b ha hb=>?_,fun a b ha hb hn=>?_,fun a b ha hb e=>?_,?_,fun a b ha hb=>?_⟩
 ·unfold Xd;split
  ·omega
  ·exact h.hi a b ha hb
 ·unfold Xd;split
  ·exact lo'
  ·exact h.lo a b ha hb
 ·unfold Xd;split
  ·rename_i e;omega
  ·exact h.un a b ha hb (by omega)
 ·unfold Xd;split
  ·rename_i q;rw [q.1,q.2] at e;exact rc' e
  ·exact h.rc a b ha hb e
 ·unfold Xd;split
  ·rename_i q;exact kk' q.1.symm q.2.symm
  ·exact kk
 ·unfold Xd;split
  ·rename_i q;rw [q.1,q.2];omega
  ·exact h.mono a b ha hb
end
section
variable {N:Nat}
def YP (i j:Nat):Int:=if i=j then 0 else if i=0 then 10000 else if j=0 then 10000 else 20000
theorem Mi (i j:Nat):0≤YP i j∧YP i j≤20000:=by
 unfold YP;split
 ·omega
 ·split
  ·omega
  ·split<;>omega
theorem Rep.mem {M:Nat} {B:List Int} {A:Nat→Nat→Int} (h:Rep M B A) {x:Int} (hx:x∈B):∃ a b,a < M∧b < M∧x=A a b:=by
 obtain ⟨p,hp⟩:=List.mem_iff_getElem?.1 hx
 have hlt:=(List.getElem?_eq_some_iff.1 hp).1
 rw [h.len] at hlt
 have hM:0 < M:=by
  rcases Nat.eq_zero_or_pos M with h0 | h0
  ·subst h0;simp at hlt
  ·exact h0
 have ha:p / M < M:=Nat.div_lt_of_lt_mul hlt
 have hb:p % M < M:=Nat.mod_lt _ hM
 refine ⟨p / M,p % M,ha,hb,?_⟩
 have:=h.at' (p / M) (p % M) ha hb
 rw [show p / M * M+p % M=p by rw [Nat.mul_comm];exact Nat.div_add_mod p M,hp] at this
 exact Option.some.inj this
def YN (M:Nat) (A:Nat→Nat→Int) (y:Nat→Int):Prop:=∀ a b,a < M→b < M→y a-y b≤A a b
def ph (A:Nat→Nat→Int) (k:Nat):Nat→Nat→Int:=fun a b=>Z1 (A a b) (A a k+A k b)
theorem ZtQ {M:Nat} {A:Nat→Nat→Int} {y:Nat→Int} {k:Nat} (hk:k < M):YN M A y↔YN M (ph A k) y:=by
 constructor
 ·intro h a b ha hb
  have h1:=h a b ha hb
  have h2:=h a k ha hk
  have h3:=h k b hk hb
  unfold ph Z1
  split<;>omega
 ·intro h a b ha hb
  have h1:=h a b ha hb
  have:=XK (A a b) (A a k+A k b)
  unfold ph at h1
  omega
end
section
variable {N:Nat}
structure Cl (M k:Nat) (A0 A:Nat→Nat→Int):Prop where
 diag:∀ a,a < M→A a a=0
 tri:∀ l,l < k→∀ a b,a < M→b < M→A a b≤A a l+A l b
 hi:∀ a b,a < M→b < M→A a b≤YP a b
 keep:∀ y,YN M A0 y↔YN M A y
theorem Cl.step {M k:Nat} {A0 A:Nat→Nat→Int} (h:Cl M k A0 A) (hkM:k≤M) (hk:k < M) (hd:∀ a,a < M→0≤ph A k a a):Cl M (k+1) A0 (ph A k):=by
 have hkk:=h.diag k hk
 have e:∀ a b,ph A k a b=Z1 (A a b) (A a k+A k b):=fun _ _=>rfl
 refine ⟨fun a ha=>?_,fun l hl a b ha hb=>?_,fun a b ha hb=>?_,fun y=>(h.keep y).trans (ZtQ hk)⟩
 ·have h1:=hd a ha
  have h2:=XK (A a a) (A a k+A k a)
  have h3:=h.diag a ha
  rw [e] at h1 ⊢
  omega
 ·rw [e,e,e]
  have m0:=XK (A a b) (A a k+A k b)
  by_cases c:l=k
  ·subst c
   have m1:=XK (A a l) (A a l+A l l)
   have m2:=XK (A l b) (A l l+A l b)
   omega
  ·have hlk:l < k:=by omega
   have hlM:l < M:=by omega
   have m1:=XK (A a l) (A a k+A k l)
   have m2:=XK (A l b) (A l k+A k b)
   have t1:=h.tri l hlk a b ha hb
   have t2:=h.tri l hlk a k ha hk
   have t3:=h.tri l hlk k b hk hb
   have t4:=h.tri l hlk k k hk hk
   omega
 ·have:=h.hi a b ha hb
  have m0:=XK (A a b) (A a k+A k b)
  rw [e];omega
theorem ZtT {M:Nat} {A:Nat→Nat→Int} {a:Nat} (ha:a < M) (h:A a a < 0) (y:Nat→Int):¬ YN M A y:=fun hk=>by
 have:=hk a a ha ha
 omega
end
end Gp
section
namespace Gp
open Go Go.Kx Gx
variable {N:Nat}
theorem ZfP {M:Nat} {A:Nat→Nat→Int} {i j:Nat} (hi:i < M) (hj:j < M) (c:Int) (u:Nat→Int):YN M (Xd A i j (Z1 (A i j) c)) u↔YN M A u∧u i-u j≤c:=by
 have hm:=XK (A i j) c
 constructor
 ·intro h
  have hij:=h i j hi hj
  unfold Xd at hij
  rw [if_pos ⟨rfl,rfl⟩] at hij
  refine ⟨fun a b ha hb=>?_,by omega⟩
  have:=h a b ha hb
  unfold Xd at this
  split at this
  ·rename_i e;rw [e.1,e.2] at *;omega
  ·exact this
 ·rintro ⟨h,h2⟩ a b ha hb
  unfold Xd
  split
  ·rename_i e
   have:=h i j hi hj
   rw [e.1,e.2];omega
  ·exact h a b ha hb
end Gp
end
end
namespace Gp
open Go Go.Kx Gx
section
variable {N:Nat}
theorem Zh4 (i j:Nat):HJ N (i:Int) (j:Int)=some (YP i j):=by
 unfold HJ YP
 by_cases c:i=j
 ·subst c;simp
 ·have e1:((i:Int)==(j:Int))=false:=by simp;omega
  rw [e1,if_neg c]
  by_cases c2:i=0
  ·subst c2;rfl
  ·have e2:((i:Int)==0)=false:=by simp;omega
   rw [e2,if_neg c2]
   by_cases c3:j=0
   ·subst c3;rfl
   ·have e3:((j:Int)==0)=false:=by simp;omega
    rw [e3,if_neg c3];rfl
structure Zr (n:Nat) (A:Nat→Nat→Int) (z:ZU):Prop where
 m:z.N=(n:Int)
 r:Rep (n+1) z.B A
 lo:∀ a b,a < n+1→b < n+1→-20001≤A a b
 hi:∀ a b,a < n+1→b < n+1→A a b≤20000
theorem Zf5 (hN:4194304 < N) {n:Nat} (hn:n≤24) {A:Nat→Nat→Int} {z:ZU} (h:Zr n A z):Lp N z=some true:=by
 have hsq:(n+1) * (n+1)≤25 * 25:=Nat.mul_le_mul (by omega) (by omega)
 have hlen:=h.r.len
 have ZR:=YD (fun (x:Int) _ => !(decide (x < -20001)) && !(decide (x > 20000))) (xs:=z.B) (F:=Sy z) (e:=some true) (n:=N) (by omega) (by
  intro m k x hk hx
  rw [Sy,ZG hk,Zs,hx,ZA (by omega)]
  simp only [cT,bS]
  cases decide (x < -20001)<;>cases decide (x > 20000)<;>rfl) (by
  intro m k hk
  rw [Sy,ZJ hk];rfl)
 have e0:Sy z N 0=_:=ZR
 have hall:ZN (fun (x:Int) _ => !(decide (x < -20001)) && !(decide (x > 20000))) z.B 0=true:=by
  rw [Xc]
  intro i x hx
  obtain ⟨a,b,ha,hb,rfl⟩:=h.r.mem (Zb hx)
  have:=h.lo a b ha hb
  have:=h.hi a b ha hb
  rw [dF (by omega),dF (by omega)];rfl
 unfold Lp
 have hw:Zi ((Zi (z.N+1)) * (Zi (z.N+1)))=(((n+1) * (n+1):Nat):Int):=by
  rw [h.m,ZA (by omega),Ym (by rw [← Int.natCast_mul];omega) (by rw [← Int.natCast_mul];omega),Int.natCast_mul]
 have hne:((z.B.length:Int) != (((n+1) * (n+1):Nat):Int))=false:=by rw [hlen];simp
 rw [hw,hne]
 have hm:=h.m
 rw [hm]
 rw [dF (show ¬ (n:Int) < 0 by omega),dF (show ¬ (n:Int) > 24 by omega)]
 simp only [cond_false]
 rw [e0,hall];rfl
theorem ZsY (hN:4194304 < N) (n:Nat) (hn:n≤24):∃ B,DG N (n:Int)=some (⟨(n:Int),B⟩,0)∧Zr n YP ⟨(n:Int),B⟩:=by
 let P:Nat→Nat→List Int→Prop:=fun i j B=>B.length=i * (n+1)+j∧∀ a b,(a < i∨(a=i∧b < j))→b < n+1→B[a * (n+1)+b]? = some (YP a b)
 have hsm:∀ i,i≤n+1→i * (n+1)≤25 * 25:=fun i hi=>Nat.mul_le_mul (by omega) (by omega)
 have outer:=PM (n+1) (Vu N (n:Int)) (fun B=>HW (n:Int) B) (fun i B=>P i 0 B) (by
  intro f B i hi hP
  have inner:=PM (n+1) (Q4 N (n:Int) (i:Int) (Vu N (n:Int) f)) (fun B=>L6 (i:Int) (Vu N (n:Int) f) B) (fun j B=>P i j B) (by
   intro g B j hj ⟨h1,h2⟩
   have h3:=hsm i (by omega)
   refine ⟨B++[YP i j],⟨by rw [lA,h1];rfl,fun a b hab hb=>?_⟩,?_⟩
   ·by_cases c:a=i∧b=j
    ·rw [c.1,c.2,← h1];simp
    ·have h4:=h2 a b (by omega) hb
     rw [List.getElem?_append_left (List.getElem?_eq_some_iff.1 h4).1]
     exact h4
   ·rw [Q4,dT (show (j:Int)≤(n:Int) by omega),Zh4,ZA (by omega)]
    simp only [cT,bS]
    rw [Yl (by simp;omega)];rfl) (by
   intro g B
   rw [Q4,dF (by omega)];rfl)
  obtain ⟨B',⟨h1,h2⟩,e⟩:=inner (n+1) N 0 B (by omega) (by omega) hP
  refine ⟨B',⟨by rw [h1,Nat.add_mul];omega,fun a b hab hb=>h2 a b (by omega) hb⟩,?_⟩
  rw [Vu,dT (show (i:Int)≤(n:Int) by omega)]
  simp only [cT]
  exact e.trans (by unfold L6;rw [ZA (by omega)])) (by
  intro f B
  rw [Vu,dF (by omega)];rfl)
 obtain ⟨B,⟨h1,h2⟩,e⟩:=outer (n+1) N 0 [] (by omega) (by omega) ⟨by simp,fun a b h _=>by omega⟩
 refine ⟨B,?_,rfl,⟨by rw [h1];rfl,fun i j hi hj=>h2 i j (.inl hi) hj⟩,fun a b _ _=>by have:=Mi a b;omega,fun a b _ _=>(Mi a b).2⟩
 unfold DG
 rw [dF (show ¬ (n:Int) < 0 by omega),dF (show ¬ (n:Int) > 24 by omega)]
 exact e
theorem ZcH (hN:4194304 < N) {n:Nat} (hn:n≤24) {A:Nat→Nat→Int} {z:ZU} (h:Zr n A z) (i j:Nat) (hi:i < n+1) (hj:j < n+1) {d:T1} (hX:d.X=(i:Int)-1) (hY:d.Y=(j:Int)-1) :
  ∃ B,W7 N z d=some (⟨(n:Int),B⟩,0)∧Zr n (Xd A i j (Z1 (A i j) (ZX d.C (-20001)))) ⟨(n:Int),B⟩:=by
 have hsq:(n+1) * (n+1)≤25 * 25:=Nat.mul_le_mul (by omega) (by omega)
 have hlen:=h.r.len
 have hin:i * (n+1)≤24 * 25:=Nat.mul_le_mul (by omega) (by omega)
 unfold W7 Gt
 rw [Zf5 hN hn h,h.m,hX,hY]
 simp only [bS,Zh,cond_false]
 rw [dT (show (i:Int)-1≥-1 by omega),dT (show (j:Int)-1≥-1 by omega),dT (show (i:Int)-1 < (n:Int) by omega),dT (show (j:Int)-1 < (n:Int) by omega)]
 simp only [cT,bS,Zh,cond_false]
 rw [Yl (by simp;omega)]
 have hw:Zi ((Zi ((Zi ((Zi ((i:Int)-1+1)) * (Zi ((n:Int)+1))))+((j:Int)-1)))+1)=((i * (n+1)+j:Nat):Int):=by
  rw [show (i:Int)-1+1=(i:Int) by omega,Ym (n:=(i:Int)) (by omega) (by omega),ZA (by omega)]
  have e:(i:Int) * ((n+1:Nat):Int)=((i * (n+1):Nat):Int):=by rw [Int.natCast_mul]
  rw [e,Ym (n:=((i * (n+1):Nat):Int)) (by omega) (by omega),Ym (n:=((i * (n+1):Nat):Int)+((j:Int)-1)) (by omega) (by omega),Ym (by omega) (by omega)]
  omega
 simp only [bS,List.nil_append,hw,Zs,h.r.at' i j hi hj,WH]
 have hv:=XK (A i j) (ZX d.C (-20001))
 have hx:=Wg d.C (-20001)
 refine ⟨_,rfl,rfl,h.r.set hi hj _,fun a b ha hb=>?_,fun a b ha hb=>?_⟩
 ·unfold Xd;split
  ·have:=h.lo i j hi hj;omega
  ·exact h.lo a b ha hb
 ·unfold Xd;split
  ·have:=h.hi i j hi hj;omega
  ·exact h.hi a b ha hb
def ZC (A:Nat→Nat→Int):Nat→Nat→Int:=fun a b=>Z1 (A a b) (YP a b)
theorem Cl.congr {M k:Nat} {A0 A A1:Nat→Nat→Int} (h:Cl M k A0 A) (hkM:k≤M) (e:∀ a b,a < M→b < M→A1 a b=A a b):Cl M k A0 A1 :=
 ⟨fun a ha=>by rw [e a a ha ha];exact h.diag a ha,fun l hl a b ha hb=>by rw [e a b ha hb,e a l ha (by omega),e l b (by omega) hb];exact h.tri l hl a b ha hb,
  fun a b ha hb=>by rw [e a b ha hb];exact h.hi a b ha hb,fun y=>(h.keep y).trans ⟨fun q a b ha hb=>by rw [e a b ha hb];exact q a b ha hb,fun q a b ha hb=>by rw [← e a b ha hb];exact q a b ha hb⟩⟩
structure Pr (M k:Nat) (A A1:Nat→Nat→Int) (i j:Nat):Prop where
 le:∀ a b,a < M→b < M→A1 a b≤A a b
 lo:∀ a b,a < M→b < M→-20001≤A1 a b
 dn:∀ a b,a < M→b < M→(a < i∨(a=i∧b < j))→A1 a b≤ZX (-20001) (A a k+A k b)
 kp:∀ y,YN M A y→YN M A1 y
 ex:0≤A k k→∀ a b,a < M→b < M→A1 a b=if (a < i∨(a=i∧b < j)) then Z1 (A a b) (ZX (-20001) (A a k+A k b)) else A a b
theorem Pr.step {M k:Nat} {A A1:Nat→Nat→Int} {i j:Nat} (h:Pr M k A A1 i j) (hlo:∀ a b,a < M→b < M→-20001≤A a b) (hk:k < M) (hi:i < M) (hj:j < M):Pr M k A (Xd A1 i j (Z1 (A1 i j) (ZX (-20001) (A1 i k+A1 k j)))) i (j+1):=by
 have m1:=XK (A1 i j) (ZX (-20001) (A1 i k+A1 k j))
 have m2:=Wg (-20001) (A1 i k+A1 k j)
 have m3:=Wg (-20001) (A i k+A k j)
 have l1:=h.le i j hi hj
 have l2:=h.le i k hi hk
 have l3:=h.le k j hk hj
 have l4:=h.lo i j hi hj
 refine ⟨fun a b ha hb=>?_,fun a b ha hb=>?_,fun a b ha hb hd=>?_,fun y hy a b ha hb=>?_,fun h0 a b ha hb=>?_⟩
 ·unfold Xd;split
  ·rename_i e;rw [e.1,e.2];omega
  ·exact h.le a b ha hb
 ·unfold Xd;split
  ·omega
  ·exact h.lo a b ha hb
 ·unfold Xd;split
  ·rename_i e;rw [e.1,e.2];omega
  ·exact h.dn a b ha hb (by omega)
 ·have q:=h.kp y hy
  unfold Xd;split
  ·rename_i e;rw [e.1,e.2]
   have q1:=q i j hi hj
   have q2:=q i k hi hk
   have q3:=q k j hk hj
   omega
  ·exact q a b ha hb
 ·have row:∀ c,c < M→A1 c k=A c k:=fun c hc=>by
   rw [h.ex h0 c k hc hk]
   split
   ·have n1:=XK (A c k) (ZX (-20001) (A c k+A k k))
    have n2:=Wg (-20001) (A c k+A k k)
    have:=hlo c k hc hk
    omega
   ·rfl
  have col:∀ c,c < M→A1 k c=A k c:=fun c hc=>by
   rw [h.ex h0 k c hk hc]
   split
   ·have n1:=XK (A k c) (ZX (-20001) (A k k+A k c))
    have n2:=Wg (-20001) (A k k+A k c)
    have:=hlo k c hk hc
    omega
   ·rfl
  unfold Xd;split
  ·rename_i e;rw [e.1,e.2,if_pos (by omega),row i hi,col j hj,h.ex h0 i j hi hj,if_neg (by omega)]
  ·rw [h.ex h0 a b ha hb]
   by_cases c:a < i∨(a=i∧b < j)
   ·rw [if_pos c,if_pos (by omega)]
   ·rw [if_neg c,if_neg (by omega)]
theorem Pr.row {M k:Nat} {A A1:Nat→Nat→Int} {i:Nat} (h:Pr M k A A1 i M):Pr M k A A1 (i+1) 0 :=
 ⟨h.le,h.lo,fun a b ha hb hd=>h.dn a b ha hb (by omega),h.kp,fun h0 a b ha hb=>by
  rw [h.ex h0 a b ha hb]
  by_cases c:a < i∨(a=i∧b < M)
  ·rw [if_pos c,if_pos (by omega)]
  ·rw [if_neg c,if_neg (by omega)]⟩
theorem Pr.start {M k:Nat} {A:Nat→Nat→Int} (hlo:∀ a b,a < M→b < M→-20001≤A a b):Pr M k A A 0 0 :=
 ⟨fun a b _ _=>Int.le_refl _,hlo,fun a b _ _ h=>by omega,fun y h=>h,fun _ a b _ _=>by rw [if_neg (by omega)]⟩
structure Sr (M k:Nat) (A0 A:Nat→Nat→Int):Prop where
 lo:∀ a b,a < M→b < M→-20001≤A a b
 hi:∀ a b,a < M→b < M→A a b≤YP a b
 kp:∀ y,YN M A0 y↔YN M A y
 or:Cl M k A0 A∨∃ i j,i < M∧j < M∧(i=j∨k≤j)∧A i j+A j i < 0
theorem Sr.next {M k:Nat} {A0 A A1:Nat→Nat→Int} (h:Sr M k A0 A) (hk:k < M) (hp:Pr M k A A1 M 0):Sr M (k+1) A0 A1:=by
 have big:∀ x:Int,x < 0→ZX (-20001) x < 0:=fun x hx=>by have:=Wg (-20001) x;omega
 have kp:∀ y,YN M A0 y↔YN M A1 y:=fun y=>(h.kp y).trans ⟨hp.kp y,fun q a b ha hb=>Int.le_trans (q a b ha hb) (hp.le a b ha hb)⟩
 have hi:∀ a b,a < M→b < M→A1 a b≤YP a b:=fun a b ha hb=>Int.le_trans (hp.le a b ha hb) (h.hi a b ha hb)
 refine ⟨hp.lo,hi,kp,?_⟩
 have at_:∀ i,i < M→A i k+A k i < 0→∃ i j,i < M∧j < M∧(i=j∨k+1≤j)∧A1 i j+A1 j i < 0:=fun i hiM hlt=>by
  have:=hp.dn i i hiM hiM (.inl hiM)
  have:=big _ hlt
  exact ⟨i,i,hiM,hiM,.inl rfl,by omega⟩
 rcases h.or with hc | ⟨i,j,hiM,hjM,hij,hlt⟩
 ·have hkk:=hc.diag k hk
  have hex:=hp.ex (by omega)
  by_cases hs:∃ i j,i < M∧j < M∧A i k+A k j < -20001
  ·obtain ⟨i,j,hiM,hjM,hs⟩:=hs
   right
   have l1:=h.lo i k hiM hk
   have l2:=h.lo k j hk hjM
   by_cases c1:j=k
   ·subst c1;omega
   have e1:=hp.dn i j hiM hjM (.inl hiM)
   have m:=Wg (-20001) (A i k+A k j)
   have q1:=hi j i hjM hiM
   have q2:=Mi j i
   by_cases c2:k+1≤j
   ·exact ⟨i,j,hiM,hjM,.inr c2,by omega⟩
   ·have t:=hc.tri j (by omega) k i hk hiM
    have q3:=h.hi j i hjM hiM
    exact at_ i hiM (by omega)
  ·have hge:∀ i j,i < M→j < M→-20001≤A i k+A k j:=fun i j hiM hjM=>by
    by_cases c:-20001≤A i k+A k j
    ·exact c
    ·exact absurd ⟨i,j,hiM,hjM,by omega⟩ hs
   have heq:∀ a b,a < M→b < M→A1 a b=ph A k a b:=fun a b ha hb=>by
    rw [hex a b ha hb,if_pos (.inl ha)]
    have:=hge a b ha hb
    have m:=Wg (-20001) (A a k+A k b)
    unfold ph
    rw [show ZX (-20001) (A a k+A k b)=A a k+A k b by omega]
   by_cases hd:∀ a,a < M→0≤ph A k a a
   ·left
    exact (hc.step (by omega) hk hd).congr (by omega) heq
   ·right
    have:∃ a,a < M∧ph A k a a < 0:=by
     refine Classical.byContradiction fun hno=>hd fun a ha=>?_
     by_cases c:0≤ph A k a a
     ·exact c
     ·exact absurd ⟨a,ha,by omega⟩ hno
    obtain ⟨a,ha,hlt⟩:=this
    rw [← heq a a ha ha] at hlt
    exact ⟨a,a,ha,ha,.inl rfl,by omega⟩
 ·right
  have l1:=hp.le i j hiM hjM
  have l2:=hp.le j i hjM hiM
  rcases hij with rfl | hj
  ·exact ⟨i,i,hiM,hiM,.inl rfl,by omega⟩
  ·by_cases c:k+1≤j
   ·exact ⟨i,j,hiM,hjM,.inr c,by omega⟩
   ·have:j=k:=by omega
    subst this
    exact at_ i hiM (by omega)
end
section
variable {N:Nat}
theorem Zua (hN:4194304 < N) (n:Nat) (hn:n≤24) (z:ZU) (hz:z.N=(n:Int)) (k:Nat) (hk:k < n+1) (ag:List Int→Int→Option (ZU × Bool)) (B:List Int) (A:Nat→Nat→Int) (hR:Rep (n+1) B A)
  (hlo:∀ a b,a < n+1→b < n+1→-20001≤A a b) (hhi:∀ a b,a < n+1→b < n+1→A a b≤20000) :
  ∃ B' A',Rep (n+1) B' A'∧Pr (n+1) k A A' (n+1) 0∧Vm N z (k:Int) ag N B (0:Int)=ag B' ((k+1:Nat):Int):=by
 have hw:Zi (z.N+1)=((n+1:Nat):Int):=by rw [hz,ZA (by omega)]
 have hrow:∀ i j:Nat,i < n+1→j < n+1→Zi ((Zi ((i:Int) * (Zi (z.N+1))))+(j:Int))=((i * (n+1)+j:Nat):Int):=fun i j hi hj=>by rw [hz];exact ZjQ hn (by omega) (by omega)
 have outer:=PM (n+1) (Vm N z (k:Int) ag) (fun B=>HI (k:Int) ag B) (fun i B=>∃ A',Rep (n+1) B A'∧Pr (n+1) k A A' i 0) (by
  intro f B i hi ⟨A1,hR1,hP1⟩
  have inner:=PM (n+1) (RT z (k:Int) (i:Int) (Vm N z (k:Int) ag f)) (fun B=>Vm N z (k:Int) ag f B ((i+1:Nat):Int)) (fun j B=>∃ A',Rep (n+1) B A'∧Pr (n+1) k A A' i j) (by
   intro g B j hj ⟨A2,hR2,hP2⟩
   refine ⟨B.set (i * (n+1)+j) (Z1 (A2 i j) (ZX (-20001) (A2 i k+A2 k j))),⟨_,hR2.set hi hj _,hP2.step hlo hk hi hj⟩,?_⟩
   have q1:=hP2.lo i k hi hk
   have q2:=hP2.lo k j hk hj
   have q3:=hP2.le i k hi hk
   have q4:=hP2.le k j hk hj
   have q5:=hhi i k hi hk
   have q6:=hhi k j hk hj
   rw [RT,hw,ZG hj,← hw,hrow i j hi hj,hrow i k hi hk,hrow k j hk hj,ZA (by omega)]
   simp only [cT,Zs,hR2.at' i j hi hj,hR2.at' i k hi hk,hR2.at' k j hk hj,bS,WH]
   rw [Ym (by omega) (by omega)]) (by
   intro g B
   rw [RT,hw,ZJ (Nat.le_refl _)]
   simp only [cond_false,DM]
   rw [ZA (by omega)])
  obtain ⟨B',⟨A',hR',hP'⟩,e⟩:=inner (n+1) N 0 B (by omega) (by omega) ⟨A1,hR1,hP1⟩
  refine ⟨B',⟨A',hR',hP'.row⟩,?_⟩
  rw [Vm,hw,ZG hi]
  exact e) (by
  intro f B
  rw [Vm,hw,ZJ (Nat.le_refl _)];rfl)
 obtain ⟨B',⟨A',hR',hP'⟩,e⟩:=outer (n+1) N 0 B (by omega) (by omega) ⟨A,hR,Pr.start hlo⟩
 exact ⟨B',A',hR',hP',e.trans (by unfold HI;rw [ZA (by omega)])⟩
theorem ZjD (hN:4194304 < N) (n:Nat) (hn:n≤24) (A:Nat→Nat→Int) (z:ZU) (h:Zr n A z):(Rx N z=some (⟨0,[]⟩,false)∧∀ y,¬ YN (n+1) (ZC A) y) ∨
  ∃ A' B',Rx N z=some (⟨(n:Int),B'⟩,true)∧Zr n A' ⟨(n:Int),B'⟩∧Cl (n+1) (n+1) (ZC A) A':=by
 have hz:=h.m
 have hw:Zi (z.N+1)=((n+1:Nat):Int):=by rw [hz,ZA (by omega)]
 have hrow:∀ i j:Nat,i < n+1→j < n+1→Zi ((Zi ((i:Int) * (Zi (z.N+1))))+(j:Int))=((i * (n+1)+j:Nat):Int):=fun i j hi hj=>by rw [hz];exact ZjQ hn (by omega) (by omega)
 have hsq:(n+1) * (n+1)≤25 * 25:=Nat.mul_le_mul (by omega) (by omega)
 have hlen:=h.r.len
 -- the widest bounds
 let Q:Nat→Nat→List Int→Prop:=fun i j B=>∃ A1,Rep (n+1) B A1∧∀ a b,a < n+1→b < n+1→A1 a b=if a < i∨(a=i∧b < j) then ZC A a b else A a b
 have capped:=PM (n+1) (VO N z) (fun B=>GM N z B) (fun i B=>Q i 0 B) (by
  intro f B i hi hQ
  have inner:=PM (n+1) (QT N z (i:Int) (VO N z f)) (fun B=>Lx (i:Int) (VO N z f) B) (fun j B=>Q i j B) (by
   intro g B j hj ⟨A2,hR2,h2⟩
   have eij:A2 i j=A i j:=by rw [h2 i j hi hj,if_neg (by omega)]
   refine ⟨B.set (i * (n+1)+j) (ZC A i j),⟨_,hR2.set hi hj _,fun a b ha hb=>?_⟩,?_⟩
   ·unfold Xd;split
    ·rename_i e;rw [e.1,e.2,if_pos (by omega)]
    ·rw [h2 a b ha hb]
     by_cases c:a < i∨(a=i∧b < j)
     ·rw [if_pos c,if_pos (by omega)]
     ·rw [if_neg c,if_neg (by omega)]
   ·rw [QT,hw,ZG hj,← hw,hrow i j hi hj,Zh4,ZA (by omega)]
    simp only [cT,Zs,hR2.at' i j hi hj,bS,WH,eij]
    rfl) (by
   intro g B
   rw [QT,hw,ZJ (Nat.le_refl _)];rfl)
  obtain ⟨B',⟨A',hR',hP'⟩,e⟩:=inner (n+1) N 0 B (by omega) (by omega) hQ
  refine ⟨B',⟨A',hR',fun a b ha hb=>?_⟩,?_⟩
  ·rw [hP' a b ha hb]
   by_cases c:a < i∨(a=i∧b < n+1)
   ·rw [if_pos c,if_pos (by omega)]
   ·rw [if_neg c,if_neg (by omega)]
  ·rw [VO,hw,ZG hi]
   exact e.trans (by unfold Lx;rw [ZA (by omega)])) (by
  intro f B
  rw [VO,hw,ZJ (Nat.le_refl _)];rfl)
 obtain ⟨B1,⟨A1,hR1,h1⟩,e1⟩:=capped (n+1) N 0 z.B (by omega) (by omega) ⟨A,h.r,fun a b _ _=>by rw [if_neg (by omega)]⟩
 have h1:∀ a b,a < n+1→b < n+1→A1 a b=ZC A a b:=fun a b ha hb=>by rw [h1 a b ha hb,if_pos (.inl ha)]
 -- the phases
 have s0:Sr (n+1) 0 (ZC A) A1:=by
  refine ⟨fun a b ha hb=>?_,fun a b ha hb=>?_,fun y=>⟨fun q a b ha hb=>by rw [h1 a b ha hb];exact q a b ha hb,fun q a b ha hb=>by rw [← h1 a b ha hb];exact q a b ha hb⟩,?_⟩
  ·rw [h1 a b ha hb]
   have:=h.lo a b ha hb
   have:=XK (A a b) (YP a b)
   have:=Mi a b
   unfold ZC;omega
  ·rw [h1 a b ha hb]
   exact (XK (A a b) (YP a b)).2.1
  ·by_cases hd:∀ a,a < n+1→0≤A1 a a
   ·left
    refine ⟨fun a ha=>?_,fun l hl=>by omega,fun a b ha hb=>by rw [h1 a b ha hb];exact (XK (A a b) (YP a b)).2.1,fun y=>⟨fun q a b ha hb=>by rw [h1 a b ha hb];exact q a b ha hb,fun q a b ha hb=>by rw [← h1 a b ha hb];exact q a b ha hb⟩⟩
    have:=hd a ha
    have e:A1 a a=ZC A a a:=h1 a a ha ha
    have m:=(XK (A a a) (YP a a)).2.1
    have f:YP a a=0:=by unfold YP;rw [if_pos rfl]
    unfold ZC at e;omega
   ·right
    have:∃ a,a < n+1∧A1 a a < 0:=by
     refine Classical.byContradiction fun hno=>hd fun a ha=>?_
     by_cases c:0≤A1 a a
     ·exact c
     ·exact absurd ⟨a,ha,by omega⟩ hno
    obtain ⟨a,ha,hlt⟩:=this
    exact ⟨a,a,ha,ha,.inl rfl,by omega⟩
 have closed:=PM (n+1) (WW N z) (fun B=>PQ N z B) (fun k B=>∃ A',Rep (n+1) B A'∧Sr (n+1) k (ZC A) A') (by
  intro f B k hk ⟨A2,hR2,hS2⟩
  obtain ⟨B',A',hR',hP',e⟩:=Zua hN n hn z hz k hk (WW N z f) B A2 hR2 hS2.lo (fun a b ha hb=>Int.le_trans (hS2.hi a b ha hb) (Mi a b).2)
  refine ⟨B',⟨A',hR',hS2.next hk hP'⟩,?_⟩
  rw [WW,hw,ZG hk]
  exact e) (by
  intro f B
  rw [WW,hw,ZJ (Nat.le_refl _)];rfl)
 obtain ⟨B2,⟨A2,hR2,hS2⟩,e2⟩:=closed (n+1) N 0 B1 (by omega) (by omega) ⟨A1,hR1,s0⟩
 have total:Rx N z=PQ N z B2:=by
  unfold Rx
  rw [Zf5 hN hn h]
  simp only [bS,Zh,cond_false]
  rw [Yl (by simp;omega)]
  simp only [bS,List.nil_append]
  exact e1.trans e2
 -- the diagonal
 have diag:∀ (r f i:Nat),i+r=n+1→r < f→(∃ a,a < n+1∧A2 a a < 0∧SN z B2 f (i:Int)=some (⟨0,[]⟩,false))∨((∀ a,i≤a→a < n+1→0≤A2 a a)∧SN z B2 f (i:Int)=some (⟨z.N,B2⟩,true)):=by
  intro r
  induction r with
  | zero =>
   intro f i hi hf
   obtain ⟨f,rfl⟩:∃ q,f=q+1:=⟨f-1,by omega⟩
   have:i=n+1:=by omega
   subst this
   right
   refine ⟨fun a h1 h2=>by omega,?_⟩
   rw [SN,hw,ZJ (Nat.le_refl _)];rfl
  | succ r ih =>
   intro f i hi hf
   obtain ⟨f,rfl⟩:∃ q,f=q+1:=⟨f-1,by omega⟩
   have hiM:i < n+1:=by omega
   rw [SN,hw,ZG hiM,← hw,hrow i i hiM hiM,ZA (by omega)]
   simp only [cT,Zs,hR2.at' i i hiM hiM,bS]
   by_cases c:A2 i i < 0
   ·rw [dT c]
    exact .inl ⟨i,hiM,c,rfl⟩
   ·rw [dF c]
    rcases ih f (i+1) (by omega) (by omega) with q | ⟨q1,q2⟩
    ·exact .inl q
    ·refine .inr ⟨fun a h1 h2=>?_,q2⟩
     by_cases ea:a=i
     ·subst ea;omega
     ·exact q1 a (by omega) h2
 rw [total]
 unfold PQ
 rcases diag (n+1) N 0 (by omega) (by omega) with ⟨a,ha,hlt,e⟩ | ⟨hd,e⟩
 ·exact .inl ⟨e,fun y hy=>ZtT ha hlt y ((hS2.kp y).1 hy)⟩
 ·right
  refine ⟨A2,B2,by rw [← hz];exact e,⟨rfl,hR2,hS2.lo,fun a b ha hb=>Int.le_trans (hS2.hi a b ha hb) (Mi a b).2⟩,?_⟩
  rcases hS2.or with hc | ⟨i,j,hi,hj,hij,hlt⟩
  ·exact hc
  ·exfalso
   rcases hij with rfl | hj'
   ·have:=hd i (Nat.zero_le _) hi
    omega
   ·omega
def YW (A:Nat→Nat→Int):Nat→Int:=fun a=>-(A 0 a)
theorem Ze9 {M:Nat} {A0 A:Nat→Nat→Int} (h:Cl M M A0 A) (h0:0 < M):YN M A (YW A):=fun a b ha hb=>by
 have:=h.tri a ha 0 b h0 hb
 unfold YW;omega
theorem Zfi {M:Nat} {A:Nat→Nat→Int} {u:Nat→Int} (hu:YN M A u) (h0:0 < M) (e:u 0=0) (a:Nat) (ha:a < M):YW A a≤u a:=by
 have:=hu 0 a h0 ha
 unfold YW;omega
theorem Za0 {M:Nat} {A0 A:Nat→Nat→Int} (h:Cl M M A0 A) (h0:0 < M):YW A 0=0:=by
 have:=h.diag 0 h0
 unfold YW;omega
theorem Zl0 (hN:4194304 < N) (n:Nat) (hn:n≤24) (A:Nat→Nat→Int) (z:ZU) (h:Zr n A z):(Lg N z=some ([],false)∧∀ y,¬ YN (n+1) (ZC A) y) ∨
  ∃ (m:List Int) (y:Nat→Int),Lg N z=some (m,true)∧m.length=n∧(∀ i,i < n→m[i]? = some (y (i+1)))∧y 0=0∧YN (n+1) (ZC A) y∧∀ u,YN (n+1) (ZC A) u→u 0=0→∀ a,a < n+1→y a≤u a:=by
 unfold Lg
 rcases ZjD hN n hn A z h with ⟨e,hno⟩ | ⟨A1,B1,e,hz1,hc1⟩
 ·rw [e];exact .inl ⟨rfl,hno⟩
 ·right
  rw [e]
  simp only [bS,Zh,cond_false]
  have ZR:∀ (r f x:Nat) (B:List Int) (Ax:Nat→Nat→Int) (A0:Nat→Nat→Int) (acc:List Int),x+r=n→r < f→Zr n Ax ⟨(n:Int),B⟩→Cl (n+1) (n+1) A0 Ax→(∀ a,a < n+1→YW Ax a=YW A1 a)→acc.length=x→(∀ i,i < x→acc[i]? = some (YW A1 (i+1))) →
    ∃ m,QM N z f (n:Int) B acc (x:Int)=some (m,true)∧m.length=n∧∀ i,i < n→m[i]? = some (YW A1 (i+1)):=by
   intro r
   induction r with
   | zero =>
    intro f x B Ax A0 acc hx hf hZ hC hl ha hg
    obtain ⟨f,rfl⟩:∃ q,f=q+1:=⟨f-1,by omega⟩
    have:x=n:=by omega
    subst this
    refine ⟨acc,?_,ha,hg⟩
    rw [QM,h.m,ZJ (Nat.le_refl _)];rfl
   | succ r ih =>
    intro f x B Ax A0 acc hx hf hZ hC hl ha hg
    obtain ⟨f,rfl⟩:∃ q,f=q+1:=⟨f-1,by omega⟩
    have hxM:x+1 < n+1:=by omega
    have hg0:=hZ.r.at' 0 (x+1) (by omega) hxM
    rw [Nat.zero_mul,Nat.zero_add] at hg0
    have b1:=hZ.lo 0 (x+1) (by omega) hxM
    have b2:=hZ.hi 0 (x+1) (by omega) hxM
    have b3:=hC.hi 0 (x+1) (by omega) hxM
    have hf0:YP 0 (x+1)=10000:=by unfold YP;rw [if_neg (by omega),if_pos rfl]
    have b4:=hC.hi (x+1) 0 hxM (by omega)
    have hf1:YP (x+1) 0=10000:=by unfold YP;rw [if_neg (by omega),if_neg (by omega),if_pos rfl]
    have b5:=hC.tri 0 (by omega) (x+1) (x+1) hxM hxM
    have b6:=hC.diag (x+1) hxM
    rw [QM,h.m,ZG (show x < n by omega),ZA (by omega)]
    simp only [cT,Zs,hg0,bS]
    rw [Yl (by simp;omega)]
    simp only [bS]
    have hv:Zi (0-Ax 0 (x+1))=YW Ax (x+1):=by rw [Ym (by omega) (by omega)];unfold YW;omega
    rw [hv]
    have hvr:-10000≤YW Ax (x+1)∧YW Ax (x+1)≤10000:=by unfold YW;omega
    obtain ⟨B2,ea,hZ2⟩:=ZcH hN hn hZ (x+1) 0 hxM (by omega) (d:=⟨(x:Int),-1,YW Ax (x+1)⟩) (by simp) (by simp)
    rw [ea]
    simp only [bS]
    have hky:YN (n+1) (ZC (Xd Ax (x+1) 0 (Z1 (Ax (x+1) 0) (ZX (YW Ax (x+1)) (-20001))))) (YW Ax):=fun a b ha' hb'=>by
     have k1:=Ze9 hC (by omega) a b ha' hb'
     have k2:=hC.hi a b ha' hb'
     have m1:=XK (Xd Ax (x+1) 0 (Z1 (Ax (x+1) 0) (ZX (YW Ax (x+1)) (-20001))) a b) (YP a b)
     have m2:=XK (Ax (x+1) 0) (ZX (YW Ax (x+1)) (-20001))
     have m3:=Wg (YW Ax (x+1)) (-20001)
     have hlz:=Za0 hC (by omega)
     have hu:YW Ax a-YW Ax b≤Xd Ax (x+1) 0 (Z1 (Ax (x+1) 0) (ZX (YW Ax (x+1)) (-20001))) a b:=by
      unfold Xd
      split
      ·rename_i q
       rw [q.1,q.2] at k1 ⊢
       omega
      ·exact k1
     unfold ZC
     omega
    rcases ZjD hN n hn _ _ hZ2 with ⟨_,hno⟩ | ⟨A3,B3,e3,hz3,hc3⟩
    ·exact absurd hky (hno _)
    ·rw [e3]
     simp only [bS]
     have hl3:∀ a,a < n+1→YW A3 a=YW Ax a:=fun a ha'=>by
      have q1:=Zfi ((hc3.keep _).1 hky) (by omega) (Za0 hC (by omega)) a ha'
      have q2:YN (n+1) Ax (YW A3):=fun i j hi hj=>by
       have k1:YW A3 i-YW A3 j≤Z1 (Xd Ax (x+1) 0 (Z1 (Ax (x+1) 0) (ZX (YW Ax (x+1)) (-20001))) i j) (YP i j):=(hc3.keep _).2 (Ze9 hc3 (by omega)) i j hi hj
       have m1:=XK (Xd Ax (x+1) 0 (Z1 (Ax (x+1) 0) (ZX (YW Ax (x+1)) (-20001))) i j) (YP i j)
       have m2:=XK (Ax (x+1) 0) (ZX (YW Ax (x+1)) (-20001))
       have:Xd Ax (x+1) 0 (Z1 (Ax (x+1) 0) (ZX (YW Ax (x+1)) (-20001))) i j≤Ax i j:=by
        unfold Xd
        split
        ·rename_i q;rw [q.1,q.2];omega
        ·exact Int.le_refl _
       omega
      have q3:=Zfi q2 (by omega) (Za0 hc3 (by omega)) a ha'
      omega
     refine ih f (x+1) B3 A3 _ _ (by omega) (by omega) hz3 hc3 (fun a ha'=>(hl3 a ha').trans (hl a ha')) (by rw [lA,ha];rfl) fun i hi=>?_
     by_cases c:i < x
     ·rw [List.getElem?_append_left (by omega)];exact hg i c
     ·have:i=x:=by omega
      subst this
      rw [← hl (i+1) hxM,List.getElem?_append_right (by omega),ha]
      simp
  obtain ⟨m,em,hm,hg⟩:=ZR n N 0 B1 A1 _ [] (by omega) (by omega) hz1 hc1 (fun a _=>rfl) rfl (fun i h=>by omega)
  exact ⟨m,YW A1,em,hm,hg,Za0 hc1 (by omega),(hc1.keep _).2 (Ze9 hc1 (by omega)),fun u hu h0 a ha=>Zfi ((hc1.keep u).1 hu) (by omega) h0 a ha⟩
end
section
variable {N:Nat}
theorem My {x:T0} {first:Nat} (hf:x.First=(first:Int)) (hfl:first≤1000) (hfn:x.Fields.length≤4) (y:Nat):Sm N x (y:Int)=some (decide (first≤y∧y < first+x.Fields.length)):=by
 unfold Sm
 rw [hf,Ym (by omega) (by omega)]
 by_cases c1:first≤y
 ·rw [dT (show (y:Int)≥(first:Int) by omega)]
  by_cases c2:y < first+x.Fields.length
  ·rw [dT (show first≤y∧y < first+x.Fields.length from ⟨c1,c2⟩),dT (by omega)];rfl
  ·rw [dF (show ¬ (first≤y∧y < first+x.Fields.length) from fun h=>c2 h.2),dF (by omega)];rfl
 ·rw [dF (show ¬ (y:Int)≥(first:Int) by omega),dF (show ¬ (first≤y∧y < first+x.Fields.length) from fun h=>c1 h.1)];rfl
abbrev Yo:=Nat→Option ByteArray
def UH (σ:Yo) (i:Nat) (t:ByteArray):Yo:=fun j=>if j=i then some t else σ j
def XM (first n:Nat) (ks:List Zk) (σ:Yo) (y:Nat):Option ByteArray:=if first≤y∧y < first+n then σ (y-first) else (ks[y]?).map (·.S)
def Wl (first n:Nat) (ks:List Zk) (σ:Yo) (p:Nat × Nat):Option Yo :=
 if first≤p.1∧p.1 < first+n then
  match XM first n ks σ p.2 with
  | none=>some σ
  | some t=>match σ (p.1-first) with
   | none=>some (UH σ (p.1-first) t)
   | some u=>bif Yi u t then some σ else none
 else some σ
def Y4 (first n:Nat) (ks:List Zk):List (Nat × Nat)→Yo→Option Yo
 | [],σ=>some σ
 | p::r,σ=>(Wl first n ks σ p).bind fun σ=>Y4 first n ks r σ
def Wi (first n:Nat) (ks:List Zk) (l:List (Nat × Nat)):Nat→Yo→Option Yo
 | 0,σ=>some σ
 | k+1,σ=>(Y4 first n ks l σ).bind fun σ=>Wi first n ks l k σ
def WK:List (Int × Int)→List (Nat × Nat)
 | []=>[]
 | e::r=>(e.1.toNat,e.2.toNat)::(e.2.toNat,e.1.toNat)::WK r
structure Rp (n:Nat) (σ:Yo) (s:List ByteArray) (b:List Bool):Prop where
 ls:s.length=n
 lb:b.length=n
 b:∀ i,i < n→b[i]? = some (σ i).isSome
 s:∀ i t,i < n→σ i=some t→s[i]? = some t
theorem Rp.set {n:Nat} {σ:Yo} {s:List ByteArray} {b:List Bool} (h:Rp n σ s b) {i:Nat} (hi:i < n) (t:ByteArray):Rp n (UH σ i t) (s.set i t) (b.set i true):=by
 refine ⟨by rw [List.length_set];exact h.ls,by rw [List.length_set];exact h.lb,fun j hj=>?_,fun j u hj hu=>?_⟩
 ·rw [List.getElem?_set]
  unfold UH
  by_cases c:j=i
  ·subst c;rw [if_pos rfl,if_pos rfl,if_pos (by rw [h.lb];exact hj)];rfl
  ·rw [if_neg c,if_neg (Ne.symm c)];exact h.b j hj
 ·rw [List.getElem?_set]
  unfold UH at hu
  by_cases c:j=i
  ·subst c;rw [if_pos rfl] at hu;cases hu;rw [if_pos rfl,if_pos (by rw [h.ls];exact hj)]
  ·rw [if_neg c] at hu;rw [if_neg (Ne.symm c)];exact h.s j u hj hu
theorem Rp.same {n:Nat} {σ:Yo} {s:List ByteArray} {b:List Bool} (h:Rp n σ s b) {i:Nat} (hi:i < n) {t:ByteArray} (ht:σ i=some t):Rp n σ (s.set i t) (b.set i true):=by
 refine ⟨by rw [List.length_set];exact h.ls,by rw [List.length_set];exact h.lb,fun j hj=>?_,fun j u hj hu=>?_⟩
 ·rw [List.getElem?_set]
  by_cases c:j=i
  ·subst c;rw [if_pos rfl,if_pos (by rw [h.lb];exact hj),ht];rfl
  ·rw [if_neg (Ne.symm c)];exact h.b j hj
 ·rw [List.getElem?_set]
  by_cases c:j=i
  ·subst c;rw [ht] at hu;cases hu;rw [if_pos rfl,if_pos (by rw [h.ls];exact hj)]
  ·rw [if_neg (Ne.symm c)];exact h.s j u hj hu
def Mj:(List ByteArray) × (List Bool) × Bool:=([],[],false)
theorem Zkg {a b:ByteArray} (h:Yi a b=true):a=b:=by
 unfold Yi at h
 rw [XS,XS] at h
 exact Di (by simpa using h)
theorem Zin {x:T0} {first:Nat} (hf:x.First=(first:Int)) (hfl:first≤1000) (hfn:x.Fields.length≤4) {ks:List Zk} {σ:Yo} {s:List ByteArray} {b:List Bool} (h:Rp x.Fields.length σ s b) (k:Int) (ag:List ByteArray→List Bool→Int→Option ((List ByteArray) × (List Bool) × Bool)) (p:Nat × Nat) (h2:p.2 < ks.length) :
  (Wl first x.Fields.length ks σ p=none∧TL N x ks s b k ag (p.1:Int) (p.2:Int)=some Mj) ∨
  ∃ σ' s' b',Wl first x.Fields.length ks σ p=some σ'∧Rp x.Fields.length σ' s' b'∧TL N x ks s b k ag (p.1:Int) (p.2:Int)=ag s' b' (Zi (k+1)):=by
 unfold TL Wl
 rw [My hf hfl hfn,My hf hfl hfn]
 by_cases c1:first≤p.1∧p.1 < first+x.Fields.length
 ·rw [dT c1,if_pos c1]
  have hi:p.1-first < x.Fields.length:=by omega
  have hw:Zi ((p.1:Int)-x.First)=((p.1-first:Nat):Int):=by rw [hf,Ym (by omega) (by omega)];omega
  -- what a source gives
  have ZR:∀ t:ByteArray,XM first x.Fields.length ks σ p.2=some t→(∀ u,u=t→(Wl first x.Fields.length ks σ p=Wl first x.Fields.length ks σ p)) →
    ((match σ (p.1-first) with | none=>some (UH σ (p.1-first) t) | some u=>bif Yi u t then some σ else none)=none∧S8 x s b k ag (p.1:Int) t true=some Mj) ∨
    ∃ σ' s' b',(match σ (p.1-first) with | none=>some (UH σ (p.1-first) t) | some u=>bif Yi u t then some σ else none)=some σ'∧Rp x.Fields.length σ' s' b'∧S8 x s b k ag (p.1:Int) t true=ag s' b' (Zi (k+1)):=by
   intro t ht _
   have hb:=h.b _ hi
   unfold S8
   rw [hw,Zs,hb]
   have hs0:=Za (show p.1-first < s.length by rw [h.ls];exact hi)
   have hb0:=Za (show p.1-first < b.length by rw [h.lb];exact hi)
   cases hσ:σ (p.1-first) with
   | none =>
    right
    refine ⟨_,_,_,rfl,h.set hi t,?_⟩
    simp only [Option.isSome_none,cT,cond_false,bS]
    unfold Tm
    simp only [cT,cond_false,hw,Zs,hs0,hb0,bS,WH]
   | some u =>
    have hsu:=h.s _ _ hi hσ
    simp only [Option.isSome_some,cT,bS,Zs,hsu]
    show (_∧Tm x s b k ag (p.1:Int) t true (!(Yi u t))=some Mj)∨∃ σ' s' b',_∧_∧Tm x s b k ag (p.1:Int) t true (!(Yi u t))=ag s' b' (Zi (k+1))
    unfold Tm
    cases e:Yi u t with
    | false=>exact .inl ⟨rfl,rfl⟩
    | true =>
     right
     have:=Zkg e
     subst this
     refine ⟨_,_,_,rfl,h.same hi hσ,?_⟩
     simp only [Zh,cT,cond_false,hw,Zs,hs0,hb0,bS,WH]
  by_cases c2:first≤p.2∧p.2 < first+x.Fields.length
  ·have hj:p.2-first < x.Fields.length:=by omega
   have hw2:Zi ((p.2:Int)-x.First)=((p.2-first:Nat):Int):=by rw [hf,Ym (by omega) (by omega)];omega
   have hs0:=Za (show p.2-first < s.length by rw [h.ls];exact hj)
   have e:XM first x.Fields.length ks σ p.2=σ (p.2-first):=by unfold XM;rw [if_pos c2]
   rw [dT c2]
   simp only [bS,Zh,cond_false,cT,hw2,Zs,hs0,h.b _ hj]
   cases hσ:σ (p.2-first) with
   | none =>
    right
    refine ⟨σ,s,b,by rw [e,hσ],h,?_⟩
    unfold S8 Tm;rfl
   | some t =>
    have hst:=h.s _ _ hj hσ
    rw [hs0] at hst
    rw [Option.some.inj hst]
    rw [e,hσ]
    exact ZR t (by rw [e,hσ]) fun _ _=>rfl
  ·have hv:=Za h2
   have e:XM first x.Fields.length ks σ p.2=some (ks[p.2]).S:=by unfold XM;rw [if_neg c2,hv];rfl
   rw [dF c2]
   simp only [bS,Zh,cond_false,Zs,hv]
   rw [e]
   exact ZR _ e fun _ _=>rfl
 ·rw [dF c1,if_neg c1]
  exact .inr ⟨σ,s,b,rfl,h,rfl⟩
theorem ZnY {x:T0} {first:Nat} (hf:x.First=(first:Int)) (hfl:first≤1000) (hfn:x.Fields.length≤4) {ks:List Zk} {σ:Yo} {s:List ByteArray} {b:List Bool} (h:Rp x.Fields.length σ s b) (j:Nat) (hj:j≤4194304) (ag:List ByteArray→List Bool→Int→Option ((List ByteArray) × (List Bool) × Bool)) {e:Int × Int} (he:x.Guard.Equals[j]? = some e) (h1:0≤e.1∧e.1 < (ks.length:Int)) (h2:0≤e.2∧e.2 < (ks.length:Int)) (n:Nat) (hn3:3≤n) :
  (Y4 first x.Fields.length ks [(e.1.toNat,e.2.toNat),(e.2.toNat,e.1.toNat)] σ=none∧Wo N x ks (j:Int) ag n s b 0=some Mj) ∨
  ∃ σ' s' b',Y4 first x.Fields.length ks [(e.1.toNat,e.2.toNat),(e.2.toNat,e.1.toNat)] σ=some σ'∧Rp x.Fields.length σ' s' b'∧Wo N x ks (j:Int) ag n s b 0=ag s' b' ((j+1:Nat):Int):=by
 obtain ⟨n,rfl⟩:∃ m,n=m+3:=⟨n-3,by omega⟩
 have e1:e.1=((e.1.toNat:Nat):Int):=by omega
 have e2:e.2=((e.2.toNat:Nat):Int):=by omega
 have t0:decide ((0:Int) < 2)=true:=rfl
 have t1:decide ((1:Int) < 2)=true:=rfl
 have t2:decide ((2:Int) < 2)=false:=rfl
 have w1:Zi ((0:Int)+1)=1:=by rw [Ym (by omega) (by omega)];rfl
 have w2:Zi ((1:Int)+1)=2:=by rw [Ym (by omega) (by omega)];rfl
 have q0:Zi ((1:Int)-0)=1:=by rw [Ym (by omega) (by omega)];rfl
 have q1:Zi ((1:Int)-1)=0:=by rw [Ym (by omega) (by omega)];rfl
 have b00:((0:Int)==0)=true:=rfl
 have b10:((1:Int)==0)=false:=rfl
 have b11:((1:Int)==1)=true:=rfl
 rw [Wo,t0,Zs,he,q0]
 simp only [cT,cond_false,bS,b00,b10,b11]
 have s1:=Zin (N:=N) hf hfl hfn h 0 (Wo N x ks (j:Int) ag (n+2)) (e.1.toNat,e.2.toNat) (by show e.2.toNat < ks.length;omega)
 simp only [← e1,← e2] at s1
 rcases s1 with ⟨s1,s2⟩ | ⟨σ1,u1,v1,s1,s2,s3⟩
 ·left
  rw [s2]
  exact ⟨by unfold Y4;rw [s1];rfl,rfl⟩
 ·rw [s3,w1,Wo,t1,Zs,he,q1]
  simp only [cT,cond_false,bS,b00,b10,b11]
  have r1:=Zin (N:=N) hf hfl hfn s2 1 (Wo N x ks (j:Int) ag (n+1)) (e.2.toNat,e.1.toNat) (by show e.1.toNat < ks.length;omega)
  simp only [← e1,← e2] at r1
  rcases r1 with ⟨r1,r2⟩ | ⟨σ2,u2,v2,r1,r2,r3⟩
  ·left
   rw [r2]
   refine ⟨?_,rfl⟩
   unfold Y4;rw [s1,bS];unfold Y4;rw [r1];rfl
  ·right
   rw [r3,w2,Wo,t2]
   simp only [cond_false]
   unfold DZ
   rw [ZA (by omega)]
   refine ⟨σ2,u2,v2,?_,r2,rfl⟩
   unfold Y4;rw [s1,bS];unfold Y4;rw [r1];rfl
theorem ZhO (first n:Nat) (ks:List Zk):∀ (a b:List (Nat × Nat)) (σ:Yo),Y4 first n ks (a++b) σ=(Y4 first n ks a σ).bind fun σ=>Y4 first n ks b σ
 | [],b,σ=>rfl
 | p::a,b,σ=>by
  rw [List.cons_append,Y4,Y4]
  cases Wl first n ks σ p with
  | none=>rfl
  | some σ'=>exact ZhO first n ks a b σ'
theorem ZhY (hN:4194304 < N) {x:T0} {first:Nat} (hf:x.First=(first:Int)) (hfl:first≤1000) (hfn:x.Fields.length≤4) {ks:List Zk} (hin:Sv ks.length x.Guard) (k:Int) (ag:List ByteArray→List Bool→Int→Option ((List ByteArray) × (List Bool) × Bool)) :
  ∀ (r:List (Int × Int)) (n j:Nat) (σ:Yo) (s:List ByteArray) (b:List Bool),x.Guard.Equals.drop j=r→r.length < n→Rp x.Fields.length σ s b →
  (Y4 first x.Fields.length ks (WK r) σ=none∧We N x ks k ag n s b (j:Int)=some Mj) ∨
  ∃ σ' s' b',Y4 first x.Fields.length ks (WK r) σ=some σ'∧Rp x.Fields.length σ' s' b'∧We N x ks k ag n s b (j:Int)=ag s' b' (Zi (k+1))
 | [],n,j,σ,s,b,hd,hn,h=>by
  obtain ⟨n,rfl⟩:=pS n (by omega)
  rw [We,ZJ (XF hd)]
  exact .inr ⟨σ,s,b,rfl,h,rfl⟩
 | e::r,n,j,σ,s,b,hd,hn,h=>by
  obtain ⟨n,rfl⟩:=pS n (by omega)
  obtain ⟨hk,he,hr⟩:=Xr hd
  have hel:=hin.el
  obtain ⟨a1,a2⟩:=hin.e e (Zb he)
  rw [We,ZG hk]
  simp only [cT]
  have hp:WK (e::r)=[(e.1.toNat,e.2.toNat),(e.2.toNat,e.1.toNat)]++WK r:=rfl
  rw [hp,ZhO]
  rcases ZnY (N:=N) hf hfl hfn h j (by omega) (We N x ks k ag n) he a1 a2 N (by omega) with ⟨q1,q2⟩ | ⟨σ1,s1,b1,q1,q2,q3⟩
  ·left;rw [q1];exact ⟨rfl,q2⟩
  ·rw [q1,q3]
   exact ZhY hN hf hfl hfn hin k ag r n (j+1) σ1 s1 b1 hr (by simp at hn;omega) q2
theorem ZjU (hN:4194304 < N) {x:T0} {first:Nat} (hf:x.First=(first:Int)) (hfl:first≤1000) (hfn:x.Fields.length≤4) {ks:List Zk} (hin:Sv ks.length x.Guard) :
  ∀ (q n k:Nat) (σ:Yo) (s:List ByteArray) (b:List Bool),k+q=x.Fields.length+1→q < n→Rp x.Fields.length σ s b →
  (Wi first x.Fields.length ks (WK x.Guard.Equals) q σ=none∧XH N x ks n s b (k:Int)=some Mj) ∨
  ∃ σ' s' b',Wi first x.Fields.length ks (WK x.Guard.Equals) q σ=some σ'∧Rp x.Fields.length σ' s' b'∧XH N x ks n s b (k:Int)=some (s',b',true)
 | 0,n,k,σ,s,b,hk,hn,h=>by
  obtain ⟨n,rfl⟩:=pS n (by omega)
  rw [XH,dF (by omega)]
  exact .inr ⟨σ,s,b,rfl,h,rfl⟩
 | q+1,n,k,σ,s,b,hk,hn,h=>by
  obtain ⟨n,rfl⟩:=pS n (by omega)
  have hel:=hin.el
  rw [XH,dT (by omega),Wi]
  simp only [cT]
  rcases ZhY hN hf hfl hfn hin (k:Int) (XH N x ks n) x.Guard.Equals N 0 σ s b rfl (by omega) h with ⟨q1,q2⟩ | ⟨σ1,s1,b1,q1,q2,q3⟩
  ·left;rw [q1];exact ⟨rfl,q2⟩
  ·have q3:We N x ks (k:Int) (XH N x ks n) N s b (0:Int)=XH N x ks n s1 b1 (Zi ((k:Int)+1)):=q3
   rw [q1,q3,ZA (by omega)]
   exact ZjU hN hf hfl hfn hin q n (k+1) σ1 s1 b1 (by omega) (by omega) q2
theorem ZkX {α:Type} (n:Nat) (h:n≤4294967296) (v:α):YG v (n:Int) (n:Int)=some (List.replicate n v):=by
 unfold YG
 have h3:decide ((n:Int)≤4294967296)=true:=by simp;omega
 simp
 rw [h3];rfl
theorem Zs6 (hN:4194304 < N) {x:T0} {first:Nat} (hf:x.First=(first:Int)) (hfl:first≤1000) (hfn:x.Fields.length≤4) {ks:List Zk} (hin:Sv ks.length x.Guard) :
  (Wi first x.Fields.length ks (WK x.Guard.Equals) (x.Fields.length+1) (fun _=>none)=none∧HA N x ks=some Mj) ∨
  ∃ σ' s' b',Wi first x.Fields.length ks (WK x.Guard.Equals) (x.Fields.length+1) (fun _=>none)=some σ'∧Rp x.Fields.length σ' s' b'∧HA N x ks=some (s',b',true):=by
 unfold HA
 rw [ZkX _ (by omega),ZkX _ (by omega)]
 simp only [bS]
 exact ZjU hN hf hfl hfn hin (x.Fields.length+1) N 0 (fun _=>none) _ _ (by omega) (by omega) ⟨by simp,by simp,fun i hi=>by simp [hi],fun i t _ h=>by cases h⟩
end
section
variable {first n:Nat} {ks:List Zk}
def LeT (σ σ':Yo):Prop:=∀ i t,σ i=some t→σ' i=some t
theorem LeT.trans {a b c:Yo} (h:LeT a b) (k:LeT b c):LeT a c:=fun i t e=>k i t (h i t e)
theorem Zel {σ σ':Yo} {p:Nat × Nat} (h:Wl first n ks σ p=some σ'):σ'=σ∨∃ t,(first≤p.1∧p.1 < first+n)∧XM first n ks σ p.2=some t∧σ (p.1-first)=none∧σ'=UH σ (p.1-first) t:=by
 unfold Wl at h
 split at h
 ·rename_i ho
  cases hs:XM first n ks σ p.2 with
  | none=>rw [hs] at h;cases h;exact .inl rfl
  | some t =>
   rw [hs] at h
   cases hc:σ (p.1-first) with
   | none=>rw [hc] at h;cases h;exact .inr ⟨t,ho,rfl,rfl,rfl⟩
   | some u =>
    rw [hc] at h
    have h:(bif Yi u t then some σ else none)=some σ':=h
    cases e:Yi u t with
    | false=>rw [e] at h;cases h
    | true=>rw [e] at h;cases h;exact .inl rfl
 ·cases h;exact .inl rfl
theorem Zjg {σ σ':Yo} {p:Nat × Nat} (h:Wl first n ks σ p=some σ'):LeT σ σ':=by
 rcases Zel h with rfl | ⟨t,_,_,h3,rfl⟩
 ·exact fun i u e=>e
 ·intro i u e
  unfold UH
  by_cases c:i=p.1-first
  ·rw [c,h3] at e;cases e
  ·rw [if_neg c];exact e
theorem ZmY {σ σ':Yo} {p:Nat × Nat} (h:Wl first n ks σ p=some σ') (ho:first≤p.1∧p.1 < first+n) {t:ByteArray} (hs:XM first n ks σ p.2=some t):σ' (p.1-first)=some t:=by
 unfold Wl at h
 rw [if_pos ho,hs] at h
 cases hc:σ (p.1-first) with
 | none =>
  rw [hc] at h
  cases h
  unfold UH;rw [if_pos rfl]
 | some u =>
  rw [hc] at h
  have h:(bif Yi u t then some σ else none)=some σ':=h
  cases e:Yi u t with
  | false=>rw [e] at h;cases h
  | true=>rw [e] at h;cases h;rw [hc,Zkg e]
theorem Zb3:∀ {l:List (Nat × Nat)} {σ σ':Yo},Y4 first n ks l σ=some σ'→LeT σ σ'
 | [],σ,σ',h=>by cases h;exact fun i t e=>e
 | p::r,σ,σ',h=>by
  rw [Y4] at h
  cases ht:Wl first n ks σ p with
  | none=>rw [ht] at h;cases h
  | some σ1=>rw [ht] at h;exact (Zjg ht).trans (Zb3 h)
def HY (first n:Nat) (ks:List Zk) (l:List (Nat × Nat)) (σ:Yo):Prop:=∀ p∈l,first≤p.1∧p.1 < first+n→∀ t,XM first n ks σ p.2=some t→σ (p.1-first)=some t
theorem Zr6 {σ σ':Yo} (hle:LeT σ σ') (hng:∀ i,i < n→σ i=none→σ' i=none) {y:Nat} {t:ByteArray} (h:XM first n ks σ' y=some t):XM first n ks σ y=some t:=by
 unfold XM at h ⊢
 split at h
 ·rename_i ho
  cases hc:σ (y-first) with
  | none=>rw [hng _ (by omega) hc] at h;cases h
  | some u =>
   have:=hle _ _ hc
   rw [this] at h
   rw [if_pos ho];exact h
 ·rename_i ho
  rw [if_neg ho];exact h
theorem ZgE:∀ {l:List (Nat × Nat)} {σ σ':Yo},Y4 first n ks l σ=some σ'→(∀ i,i < n→σ i=none→σ' i=none)→HY first n ks l σ'
 | [],σ,σ',h,hng=>fun p hp=>by cases hp
 | p::r,σ,σ',h,hng=>by
  have hall:=Zb3 h
  rw [Y4] at h
  cases ht:Wl first n ks σ p with
  | none=>rw [ht] at h;cases h
  | some σ1 =>
   rw [ht] at h
   have h:Y4 first n ks r σ1=some σ':=h
   have l1:=Zjg ht
   have l2:=Zb3 h
   have ih:=ZgE h fun i hi e=>by
    cases hc:σ i with
    | none=>exact hng i hi hc
    | some u=>rw [l1 i u hc] at e;cases e
   intro q hq ho t hs
   rcases List.mem_cons.1 hq with rfl | hq
   ·exact l2 _ _ (ZmY ht ho (Zr6 hall hng hs))
   ·exact ih q hq ho t hs
theorem Zkn:∀ {l:List (Nat × Nat)} {σ:Yo},HY first n ks l σ→Y4 first n ks l σ=some σ
 | [],σ,h=>rfl
 | p::r,σ,h=>by
  have e:Wl first n ks σ p=some σ:=by
   unfold Wl
   split
   ·rename_i ho
    cases hs:XM first n ks σ p.2 with
    | none=>rfl
    | some t =>
     have:=h p List.mem_cons_self ho t hs
     rw [this]
     show (bif Yi t t then some σ else none)=some σ
     rw [Zeh];rfl
   ·rfl
  rw [Y4,e]
  exact Zkn fun q hq=>h q (List.mem_cons_of_mem _ hq)
theorem Zf3 {l:List (Nat × Nat)} {σ:Yo} (h:HY first n ks l σ):∀ k,Wi first n ks l k σ=some σ
 | 0=>rfl
 | k+1=>by rw [Wi,Zkn h];exact Zf3 h k
def Up:Nat→Yo→Nat
 | 0,_=>0
 | k+1,σ=>Up k σ+(if (σ k).isNone then 1 else 0)
theorem Zkd {σ σ':Yo} (h:LeT σ σ'):∀ k,Up k σ'≤Up k σ∧(Up k σ'=Up k σ→∀ i,i < k→σ i=none→σ' i=none)
 | 0=>⟨Nat.le_refl _,fun _ i hi=>by omega⟩
 | k+1=>by
  obtain ⟨h1,h2⟩:=Zkd h k
  rw [Up,Up]
  cases hc:σ k with
  | none =>
   cases hc':σ' k with
   | none =>
    refine ⟨by simp;exact h1,fun e i hi hn=>?_⟩
    by_cases c:i=k
    ·rw [c];exact hc'
    ·exact h2 (by simpa using e) i (by omega) hn
   | some u =>
    simp only [Option.isNone_none,Option.isNone_some]
    exact ⟨by simp;omega,fun e=>by simp at e;omega⟩
  | some u =>
   have hc':=h k u hc
   rw [hc']
   refine ⟨by simp;exact h1,fun e i hi hn=>?_⟩
   by_cases c:i=k
   ·rw [c,hc] at hn;cases hn
   ·exact h2 (by simpa using e) i (by omega) hn
theorem ZgZ:∀ k σ,Up k σ≤k
 | 0,_=>Nat.le_refl _
 | k+1,σ=>by
  have:=ZgZ k σ
  rw [Up]
  split<;>omega
theorem Zj6 {l:List (Nat × Nat)}:∀ (k:Nat) {σ σ':Yo},Wi first n ks l k σ=some σ'→Up n σ < k→HY first n ks l σ'
 | 0,σ,σ',h,hc=>by omega
 | k+1,σ,σ',h,hc=>by
  rw [Wi] at h
  cases hp:Y4 first n ks l σ with
  | none=>rw [hp] at h;cases h
  | some σ1 =>
   rw [hp] at h
   have h:Wi first n ks l k σ1=some σ':=h
   obtain ⟨q1,q2⟩:=Zkd (Zb3 hp) n
   by_cases e:Up n σ1=Up n σ
   ·have hcl:=ZgE hp (q2 e)
    rw [Zf3 hcl k] at h
    cases h
    exact hcl
   ·exact Zj6 k h (by omega)
theorem Zpw {P:ByteArray→Prop} (hP:∀ v∈ks,P v.S) {σ σ':Yo} {p:Nat × Nat} (h:Wl first n ks σ p=some σ') (hσ:∀ i t,σ i=some t→P t):∀ i t,σ' i=some t→P t:=by
 rcases Zel h with rfl | ⟨t,h1,h2,_,rfl⟩
 ·exact hσ
 ·intro i u e
  unfold UH at e
  by_cases c:i=p.1-first
  ·rw [if_pos c] at e
   cases e
   unfold XM at h2
   split at h2
   ·exact hσ _ _ h2
   ·cases hk:ks[p.2]? with
    | none=>rw [hk] at h2;cases h2
    | some v=>rw [hk] at h2;cases h2;exact hP v (Zb hk)
  ·rw [if_neg c] at e;exact hσ i u e
theorem ZhZ {P:ByteArray→Prop} (hP:∀ v∈ks,P v.S):∀ {l:List (Nat × Nat)} {σ σ':Yo},Y4 first n ks l σ=some σ'→(∀ i t,σ i=some t→P t)→∀ i t,σ' i=some t→P t
 | [],σ,σ',h,hσ=>by cases h;exact hσ
 | p::r,σ,σ',h,hσ=>by
  rw [Y4] at h
  cases ht:Wl first n ks σ p with
  | none=>rw [ht] at h;cases h
  | some σ1=>rw [ht] at h;exact ZhZ hP h (Zpw hP ht hσ)
theorem ZeD {P:ByteArray→Prop} (hP:∀ v∈ks,P v.S) {l:List (Nat × Nat)}:∀ (k:Nat) {σ σ':Yo},Wi first n ks l k σ=some σ'→(∀ i t,σ i=some t→P t)→∀ i t,σ' i=some t→P t
 | 0,σ,σ',h,hσ=>by cases h;exact hσ
 | k+1,σ,σ',h,hσ=>by
  rw [Wi] at h
  cases hp:Y4 first n ks l σ with
  | none=>rw [hp] at h;cases h
  | some σ1=>rw [hp] at h;exact ZeD hP k h (ZhZ hP hp hσ)
structure Wok (first n:Nat) (ks:List Zk) (l:List (Nat × Nat)) (W:Nat→Option ByteArray):Prop where
  k:∀ y,¬ (first≤y∧y < first+n)→W y=(ks[y]?).map (·.S)
  e:∀ p∈l,W p.1=W p.2
def PX (first n:Nat) (σ:Yo) (W:Nat→Option ByteArray):Prop:=∀ i t,i < n→σ i=some t→W (first+i)=some t
theorem Ztt {W:Nat→Option ByteArray} {l:List (Nat × Nat)} (hW:Wok first n ks l W) {σ:Yo} {p:Nat × Nat} (hp:p∈l) (h:PX first n σ W):∃ σ',Wl first n ks σ p=some σ'∧PX first n σ' W:=by
 unfold Wl
 split
 ·rename_i ho
  cases hs:XM first n ks σ p.2 with
  | none=>exact ⟨σ,rfl,h⟩
  | some t =>
   have hw:W p.2=some t:=by
    unfold XM at hs
    split at hs
    ·have:=h (p.2-first) t (by omega) hs
     rw [show first+(p.2-first)=p.2 by omega] at this;exact this
    ·rename_i ho2;rw [hW.k _ ho2];exact hs
   have hw1:W p.1=some t:=(hW.e p hp).trans hw
   cases hc:σ (p.1-first) with
   | none =>
    refine ⟨_,rfl,fun i u hi e=>?_⟩
    unfold UH at e
    by_cases c:i=p.1-first
    ·rw [if_pos c] at e;cases e
     rw [c,show first+(p.1-first)=p.1 by omega];exact hw1
    ·rw [if_neg c] at e;exact h i u hi e
   | some u =>
    have:=h (p.1-first) u (by omega) hc
    rw [show first+(p.1-first)=p.1 by omega,hw1] at this
    cases this
    refine ⟨σ,?_,h⟩
    show (bif Yi t t then some σ else none)=some σ
    rw [Zeh];rfl
 ·exact ⟨σ,rfl,h⟩
theorem Zgt {W:Nat→Option ByteArray} {l:List (Nat × Nat)} (hW:Wok first n ks l W):∀ {r:List (Nat × Nat)} {σ:Yo},(∀ p∈r,p∈l)→PX first n σ W→∃ σ',Y4 first n ks r σ=some σ'∧PX first n σ' W
 | [],σ,_,h=>⟨σ,rfl,h⟩
 | p::r,σ,hr,h=>by
  obtain ⟨σ1,e1,h1⟩:=Ztt hW (hr p List.mem_cons_self) h
  rw [Y4,e1]
  exact Zgt hW (fun q hq=>hr q (List.mem_cons_of_mem _ hq)) h1
theorem ZgN {W:Nat→Option ByteArray} {l:List (Nat × Nat)} (hW:Wok first n ks l W):∀ (k:Nat) {σ:Yo},PX first n σ W→∃ σ',Wi first n ks l k σ=some σ'∧PX first n σ' W
 | 0,σ,h=>⟨σ,rfl,h⟩
 | k+1,σ,h=>by
  obtain ⟨σ1,e1,h1⟩:=Zgt hW (fun p hp=>hp) h
  rw [Wi,e1]
  exact ZgN hW k h1
theorem ZgY:∀ {l:List (Int × Int)} {e:Int × Int},e∈l→(e.1.toNat,e.2.toNat)∈WK l∧(e.2.toNat,e.1.toNat)∈WK l
 | d::r,e,h=>by
  rcases List.mem_cons.1 h with rfl | h
  ·exact ⟨List.mem_cons_self,List.mem_cons_of_mem _ List.mem_cons_self⟩
  ·obtain ⟨h1,h2⟩:=ZgY h
   exact ⟨List.mem_cons_of_mem _ (List.mem_cons_of_mem _ h1),List.mem_cons_of_mem _ (List.mem_cons_of_mem _ h2)⟩
theorem Ze1:∀ {l:List (Int × Int)} {p:Nat × Nat},p∈WK l→∃ e∈l,p=(e.1.toNat,e.2.toNat)∨p=(e.2.toNat,e.1.toNat)
 | d::r,p,h=>by
  rcases List.mem_cons.1 h with rfl | h
  ·exact ⟨d,List.mem_cons_self,.inl rfl⟩
  rcases List.mem_cons.1 h with rfl | h
  ·exact ⟨d,List.mem_cons_self,.inr rfl⟩
  obtain ⟨e,he,hp⟩:=Ze1 h
  exact ⟨e,List.mem_cons_of_mem _ he,hp⟩
end
end Gp
