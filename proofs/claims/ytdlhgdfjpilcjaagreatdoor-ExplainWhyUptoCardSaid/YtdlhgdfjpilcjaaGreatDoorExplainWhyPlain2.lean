/- The plain law, part 2: what the functions compute answers as the statement says. -/
import Derived.Test.YtdlhgdfjpilcjaaGreatDoorExplainWhyPlain1
set_option linter.all false
namespace Gp
open Go Go.Kx Gx
section
variable {N:Nat}
theorem M7 {β:Type} {F:Nat→Int→Option β} {len:Nat} (h1:∀ n k,k < len→(∃ b,F n ((k+1:Nat):Int)=some b)→∃ b,F (n+1) (k:Int)=some b)
  (h2:∀ n k,len≤k→∃ b,F (n+1) (k:Int)=some b):∀ (d n k:Nat),len-k=d→d < n→∃ b,F n (k:Int)=some b:=by
 intro d
 induction d with
 | zero =>
  intro n k hd hn
  obtain ⟨n,rfl⟩:=pS n (by omega)
  exact h2 n k (by omega)
 | succ d ih =>
  intro n k hd hn
  obtain ⟨n,rfl⟩:=pS n (by omega)
  exact h1 n k (by omega) (ih n (k+1) (by omega) (by omega))
theorem ZsG {β:Type} {F:Nat→Int→Option β} {len lo:Nat} (h1:∀ n k,lo≤k→k < len→(∃ b,F n ((k+1:Nat):Int)=some b)→∃ b,F (n+1) (k:Int)=some b)
  (h2:∀ n k,len≤k→∃ b,F (n+1) (k:Int)=some b):∀ (d n k:Nat),len-k=d→d < n→lo≤k→∃ b,F n (k:Int)=some b:=by
 intro d
 induction d with
 | zero =>
  intro n k hd hn _
  obtain ⟨n,rfl⟩:=pS n (by omega)
  exact h2 n k (by omega)
 | succ d ih =>
  intro n k hd hn hl
  obtain ⟨n,rfl⟩:=pS n (by omega)
  exact h1 n k hl (by omega) (ih n (k+1) (by omega) (by omega) (by omega))
theorem XU {β:Type} {b:Bool} {x y:Option β} (h1:b=true→∃ r,x=some r) (h2:b=false→∃ r,y=some r):∃ r,(bif b then x else y)=some r:=by
 cases b with
 | true=>exact h1 rfl
 | false=>exact h2 rfl
theorem XY {β:Type} (b:β):∃ r,some b=some r:=⟨b,rfl⟩
structure Tk (t:Yz) (m:T8):Prop where
 num:Xo m
 mm:t.Machine=m
 len:t.out'.length=m.States.toNat
 out:∀ (s:Nat) (l:List Int),t.out'[s]? = some l→l.length≤400∧∀ a∈l,∃ k x,a=((k:Nat):Int)∧m.Moves[k]? = some x∧x.From=(s:Int)
theorem Zel (hN:4194304 < N) (m:T8) (hm:Xo m):Tk ⟨m,XB N m⟩ m:=by
 refine ⟨hm,rfl,ZcZ N m,fun s l h=>?_⟩
 have hs:s < m.States.toNat:=by
  have:=(List.getElem?_eq_some_iff.1 h).1
  rwa [ZcZ] at this
 have h:(XB N m)[s]? = some l:=h
 rw [ZbV N m s hs] at h
 cases h
 obtain ⟨p,_⟩:=BH hN m hm s
 refine ⟨by rw [p.length_eq];have:=ZbJ m m.Moves.length s;have:=hm.n;omega,fun a ha=>?_⟩
 obtain ⟨k,x,h1,_,h2,h3⟩:=Zcj (p.mem_iff.1 ha)
 exact ⟨k,x,h1,h2,h3⟩
variable {t:Yz} {m:T8}
theorem ZpV (hN:4194304 < N) (h:Tk t m):∃ b,LD N t=some b:=by
 have hS:=h.num.s1
 have:=h.len
 refine M7 (F:=XP N t) (len:=t.out'.length) (fun n k hk hi=>?_) (fun n k hk=>?_) _ N 0 rfl (by omega)
 ·rw [XP,ZI hk,Zw,Za hk]
  simp only [cT,bS]
  obtain ⟨hl,ho⟩:=h.out k _ (Za hk)
  generalize t.out'[k]=l at hl ho
  have hag:∃ b,Rz (k:Int) (XP N t n)=some b:=by
   unfold Rz
   rw [ZH (by omega)];exact hi
  generalize XP N t n=ag at hag
  refine ZsG (F:=UJ N t (k:Int) ag l) (len:=l.length) (lo:=1) (fun n j hj1 hj hi=>?_) (fun n j hj=>?_) _ N 1 rfl (by omega) (Nat.le_refl _)
  ·rw [UJ,ZI hj,ZH (by omega)]
   have g:∀ i:Nat,i < l.length→∃ x,((idx l (i:Int)).bind fun q=>idx t.Machine.Moves q)=some x:=fun i hi=>by
    obtain ⟨q,x,e1,e2,_⟩:=ho l[i] (List.getElem_mem hi)
    refine ⟨x,?_⟩
    rw [Zw,Za hi]
    simp only [bS]
    rw [e1,Zw,h.mm];exact e2
   have w:Zi ((j:Int)-1)=((j-1:Nat):Int):=by rw [YD (by omega) (by omega)];omega
   simp only [cT]
   rw [w]
   obtain ⟨x,hx⟩:=g (j-1) (by omega)
   obtain ⟨y,hy⟩:=g j hj
   obtain ⟨a,ha,hx⟩:=Option.bind_eq_some_iff.1 hx
   obtain ⟨b,hb,hy⟩:=Option.bind_eq_some_iff.1 hy
   simp only [ha,hx,hb,hy,bS,Sn]
   exact XU (fun _=>XY _) fun _=>XU (fun _=>XY _) fun _=>hi
  ·rw [UJ,ZK hj]
   exact hag
 ·rw [XP,ZK hk]
  exact XY _
theorem Zkh (hN:4194304 < N) (h:Tk t m):∃ b,Mu N t=some b:=by
 have hS:=h.num.s1
 have hn:=h.num.n
 have hlen:=h.len
 have hm:=h.mm
 subst hm
 refine M7 (F:=XZ N t) (len:=t.Machine.Moves.length) (fun n k hk hi=>?_) (fun n k hk=>?_) _ N 0 rfl (by omega)
 ·have hx:=Za hk
  obtain ⟨⟨f0,f1⟩,_⟩:=h.num.mv _ (List.getElem_mem hk)
  rw [XZ,ZI hk,Zw,hx,ZH (by omega)]
  generalize t.Machine.Moves[k]=x at *
  simp only [cT,bS]
  refine XU (fun _=>hi) fun _=>XU (fun _=>XY _) fun _=>?_
  obtain ⟨l,hl⟩:=YN (L:=t.out') f0 (by omega)
  obtain ⟨b,hb⟩:=YN (L:=t.Machine.Finals) f0 (by have:=h.num.f;omega)
  simp only [hl,hb,bS]
  refine XU (fun _=>XY _) fun _=>XU (fun _=>XY _) fun _=>XU (fun _=>XY _) fun _=>?_
  have hag:∃ b,Px (k:Int) (XZ N t n)=some b:=by
   unfold Px
   rw [ZH (by omega)];exact hi
  generalize XZ N t n=ag at hag
  refine M7 (F:=V7 t (k:Int) ag x) (len:=t.Machine.Moves.length) (fun n j hj hi=>?_) (fun n j hj=>?_) _ N 0 rfl (by omega)
  ·rw [V7,ZI hj,Zw,Za hj,ZH (by omega)]
   simp only [cT,bS]
   exact XU (fun _=>XU (fun _=>XY _) fun _=>XU (fun _=>XY _) fun _=>hi) fun _=>hi
  ·rw [V7,ZK hj]
   exact hag
 ·rw [XZ,ZK hk]
  exact XY _
theorem Zme (hN:4194304 < N) (h:Tk t m) (ht:m.Timeouts.length≤4194304):∃ b,Mb N t=some b:=by
 have hn:=h.num.n
 have hm:=h.mm
 subst hm
 refine M7 (F:=YF t) (len:=t.Machine.Timeouts.length) (fun n k hk hi=>?_) (fun n k hk=>?_) _ N 0 rfl (by omega)
 ·have hx:=Za hk
  rw [YF,ZI hk,Zw,hx]
  simp only [cT,bS]
  generalize t.Machine.Timeouts[k]=x at *
  have h3:∀ b:Bool,(b=false→0≤x.Else∧x.Else < (t.Machine.Moves.length:Int))→∃ r,Xh t (k:Int) (YF t n) x b=some r:=fun b hb=>by
   unfold Xh
   refine XU (fun _=>XY _) fun e=>?_
   obtain ⟨a1,a2⟩:=hb e
   obtain ⟨y,hy⟩:=YN (L:=t.Machine.Moves) a1 a2
   simp only [hy,bS]
   refine XU (fun _=>XY _) fun _=>XU (fun _=>XY _) fun _=>XU (fun _=>XY _) fun _=>?_
   rw [ZH (by omega)];exact hi
  have ht':∃ r,Xh t (k:Int) (YF t n) x true=some r:=h3 true (fun e=>by cases e)
  have tail:∃ r,(bif decide (x.Ticks < 1) then Xh t (k:Int) (YF t n) x true else bif decide (x.Ticks > 1000) then Xh t (k:Int) (YF t n) x true
    else bif decide (x.Else < 0) then Xh t (k:Int) (YF t n) x true else Xh t (k:Int) (YF t n) x (decide (x.Else≥(t.Machine.Moves.length:Int))))=some r :=
   XU (fun _=>ht') fun _=>XU (fun _=>ht') fun _=>XU (fun _=>ht') fun e=>h3 _ fun e2=>by
    simp only [decide_eq_false_iff_not] at e e2
    exact ⟨by omega,by omega⟩
  refine XU (fun e=>?_) fun _=>tail
  have hk0:0 < k:=by simpa using e
  have w:Zi ((k:Int)-1)=((k-1:Nat):Int):=by rw [YD (by omega) (by omega)];omega
  rw [w,Zw,Za (by omega:k-1 < t.Machine.Timeouts.length)]
  simp only [bS]
  exact XU (fun _=>ht') fun _=>tail
 ·rw [YF,ZK hk]
  exact XY _
end
section
variable {N:Nat}
structure InvR (S:Nat) (a:List Bool) (q:List Int):Prop where
 len:a.length=S
 qq:∀ i∈q,0≤i∧i < (S:Int)
 c:q.length+a.count false≤S
theorem InvR.add {S:Nat} {a:List Bool} {q:List Int} (h:InvR S a q) {j:Nat} (hj:a[j]? = some false):InvR S (a.set j true) (q++[(j:Int)]):=by
 obtain ⟨hl,he⟩:=List.getElem?_eq_some_iff.1 hj
 refine ⟨by simpa using h.len,fun i hi=>?_,?_⟩
 ·rcases List.mem_append.1 hi with hi | hi
  ·exact h.qq i hi
  ·rw [List.mem_singleton.1 hi];have:=h.len;omega
 ·have h1:0 < a.count false:=List.count_pos_iff.2 (Zb hj)
  have h2:=List.count_set (a:=true) (b:=false) (l:=a) hl
  rw [he] at h2
  have:=h.c
  simp at h2
  simp
  omega
variable {t:Yz} {m:T8}
theorem Zo0 (hN:4194304 < N) (h:Tk t m) (S:Nat) (hS:m.States=(S:Int)) (k:Nat) (ag:List Bool→List Int→Int→Option Bool) (hag:∀ a q,InvR S a q→∃ b,ag a q (Zi ((k:Int)+1))=some b)
  (l:List Int) (s:Nat) (hl:t.out'[s]? = some l):∀ (d n j:Nat) (a:List Bool) (q:List Int),InvR S a q→l.length-j=d→d < n→∃ b,VY t (k:Int) ag l n a q (j:Int)=some b:=by
 intro d
 obtain ⟨l1,l2⟩:=h.out s l hl
 have hs1:=h.num.s1
 induction d with
 | zero =>
  intro n j a q hi hd hn
  obtain ⟨n,rfl⟩:=pS n (by omega)
  rw [VY,ZK (by omega)]
  exact hag a q hi
 | succ d ih =>
  intro n j a q hi hd hn
  obtain ⟨n,rfl⟩:=pS n (by omega)
  have hj:j < l.length:=by omega
  obtain ⟨p,x,e1,e2,_⟩:=l2 l[j] (List.getElem_mem hj)
  obtain ⟨_,⟨t0,t1⟩,_⟩:=h.num.mv x (Zb e2)
  obtain ⟨c,hc⟩:=Ze t0
  have hcl:c < a.length:=by rw [hi.len];omega
  rw [VY,ZI hj,Zw,Za hj,ZH (by omega)]
  simp only [cT,bS]
  rw [e1,Zw,h.mm,e2]
  simp only [bS]
  rw [hc,Zw,Za hcl]
  simp only [bS]
  cases hb:a[c] with
  | true=>exact ih n (j+1) a q hi (by omega) (by omega)
  | false =>
   have hcc:=hi.c
   simp only [Bool.not_false,cT]
   rw [YC (by simp;omega),U8]
   simp only [bS]
   exact ih n (j+1) _ _ (hi.add (by rw [Za hcl,hb])) (by omega) (by omega)
theorem Zoj (hN:4194304 < N) (h:Tk t m) (S:Nat) (hS:m.States=(S:Int)):∀ (d n k:Nat) (a:List Bool) (q:List Int),InvR S a q→S-k=d→d < n→∃ b,Wq N t n a q (k:Int)=some b:=by
 intro d
 have hs1:=h.num.s1
 have step:∀ (n k:Nat) (a:List Bool) (q:List Int),InvR S a q→(k < q.length→∀ a q,InvR S a q→∃ b,Wq N t n a q (Zi ((k:Int)+1))=some b)→∃ b,Wq N t (n+1) a q (k:Int)=some b:=fun n k a q hi hnx=>by
  rw [Wq]
  by_cases hk:k < q.length
  ·rw [ZI hk,Zw,Za hk]
   simp only [cT,bS]
   obtain ⟨q0,q1⟩:=hi.qq _ (List.getElem_mem hk)
   obtain ⟨c,hc⟩:=Ze q0
   have hcl:c < t.out'.length:=by rw [h.len];omega
   rw [hc,Zw,Za hcl]
   simp only [bS]
   have hle:=(h.out c _ (Za hcl)).1
   exact Zo0 hN h S hS k _ (hnx hk) _ c (Za hcl) _ N 0 a q hi rfl (by omega)
  ·rw [ZK (Nat.not_lt.1 hk)]
   exact XY _
 induction d with
 | zero =>
  intro n k a q hi hd hn
  obtain ⟨n,rfl⟩:=pS n (by omega)
  exact step n k a q hi fun hk=>by have:=hi.c;omega
 | succ d ih =>
  intro n k a q hi hd hn
  obtain ⟨n,rfl⟩:=pS n (by omega)
  refine step n k a q hi fun hk a q hi=>?_
  rw [ZH (by omega)]
  exact ih n (k+1) a q hi (by omega) (by omega)
theorem ZlP (hN:4194304 < N) (h:Tk t m):∃ b,QU N t=some b:=by
 have h0:=h.num.s0
 have h1:=h.num.s1
 have b0:=h.num.b0
 have b1:=h.num.b1
 obtain ⟨S,hS⟩:=Ze (show 0≤m.States by omega)
 obtain ⟨c,hc⟩:=Ze b0
 unfold QU
 rw [h.mm]
 have e:YG false m.States m.States=some (List.replicate S false):=by
  unfold YG
  rw [dT (by omega:0≤m.States),dT (by omega:m.States≤m.States),dT (by omega:m.States≤4294967296),hS];rfl
 rw [e,hc]
 simp only [bS,Zw,U8]
 have hcl:c < S:=by omega
 have hg:(List.replicate S false)[c]? = some false:=by rw [List.getElem?_replicate,if_pos hcl]
 rw [hg]
 simp only [bS]
 refine Zoj hN h S hS _ N 0 _ _ ⟨by simp,fun i hi=>by rw [List.mem_singleton.1 hi];omega,?_⟩ rfl (by omega)
 have h2:=List.count_set (a:=true) (b:=false) (l:=List.replicate S false) (i:=c) (by simpa using hcl)
 simp at h2
 simp
 omega
theorem ZqF (hN:4194304 < N) (m:T8) (ht:m.Timeouts.length≤4194304):∃ b,Tm N m=some b∧(b=true→Xo m):=by
 unfold Tm Tt
 rw [Zc3 hN]
 simp only [bS]
 cases hm:S2 m with
 | false=>exact ⟨false,rfl,fun h=>by cases h⟩
 | true =>
  have hm:=(ZdZ m).1 hm
  rw [ZdF hN m hm]
  have h:=Zel hN m hm
  obtain ⟨b1,e1⟩:=ZpV hN h
  obtain ⟨b2,e2⟩:=ZlP hN h
  obtain ⟨b3,e3⟩:=Zkh hN h
  obtain ⟨b4,e4⟩:=Zme hN h ht
  simp only [Zh,cond_false,bS,e1,e2,e3,e4]
  cases b1<;>cases b2<;>cases b3<;>exact ⟨_,rfl,fun _=>hm⟩
end
section
variable {N:Nat}
theorem Zr1 (s:ByteArray):∀ (r:List UInt8) (n i:Nat),(bs s).drop i=r→r.length < n→∃ z,RM N s true n i=some z∧decide (z≥0)=r.any Yx:=by
 intro r
 induction r with
 | nil =>
  intro n i h hn
  obtain ⟨n,rfl⟩:=pS n (by simp at hn;omega)
  have hi:=Y2 h
  unfold RM
  have:decide (i < s.size)=false:=by rw [Yd];simp;omega
  rw [this]
  exact ⟨-1,rfl,rfl⟩
 | cons b r ih =>
  intro n i h hn
  obtain ⟨n,rfl⟩:=pS n (by simp at hn;omega)
  obtain ⟨h1,h2,h3⟩:=YU h
  simp only [Zg] at hn
  unfold RM
  have:decide (i < s.size)=true:=by rw [Yd];simp;omega
  rw [this,List.any_cons]
  simp only [cT,By]
  by_cases hb:b.toNat < 128
  ·rw [ZiJ s i b h2 hb]
   by_cases c1:b.toNat < 32
   ·have e1:decide (((b.toNat:Nat):Int) < 32)=true:=by simp;omega
    have e2:Yx b=true:=by simp [Yx,c1]
    rw [e1,e2]
    exact ⟨(i:Int),rfl,by simp⟩
   ·have e1:decide (((b.toNat:Nat):Int) < 32)=false:=by simp;omega
    rw [e1]
    simp only [cond_false,bS]
    by_cases c2:126 < b.toNat
    ·have e3:decide (((b.toNat:Nat):Int) > 126)=true:=by simp;omega
     have e2:Yx b=true:=by simp [Yx,c2]
     rw [e3,e2]
     exact ⟨(i:Int),rfl,by simp⟩
    ·have e3:decide (((b.toNat:Nat):Int) > 126)=false:=by simp;omega
     have e2:Yx b=false:=by simp [Yx];omega
     rw [e3,e2]
     exact ih n (i+1) h3 (by omega)
  ·have hd:=Ze7 s i b h2 hb
   have e2:Yx b=true:=by simp [Yx];omega
   generalize (Utf8.decode s i).1=c at hd ⊢
   have e1:decide ((c:Int) < 32)=false:=by simp;omega
   have e3:decide ((c:Int) > 126)=true:=by simp;omega
   rw [e1,e2]
   simp only [cond_false,bS]
   rw [e3]
   exact ⟨(i:Int),rfl,by simp⟩
theorem Ztl (hN:4194304 < N) (s:ByteArray) (hs:s.size≤4194304):G9 N s=some ((bs s).any Yx):=by
 obtain ⟨z,h1,h2⟩:=Zr1 (N:=N) s (bs s) N 0 rfl (by rw [Yd] at hs;omega)
 unfold G9 ZcA Zcx
 rw [h1]
 simp only [bS]
 rw [h2]
def Wo (v:Zm):Int:=bif v.Kind==1 then v.N else bif v.Kind==2 then (v.S.size:Int) else 0
def Rj (s:Yb):Bool:=bif s.Kind==1 then (decide (-1000≤s.Lo) && (decide (s.Lo≤s.Hi) && decide (s.Hi≤1000))) else bif s.Kind==2 then (decide (0≤s.Lo) && (decide (s.Lo≤s.Hi) && decide (s.Hi≤40))) else false
def WZ (v:Zm):Bool:=bif v.Kind==1 then (decide (v.N≥-1000) && (decide (v.N≤1000) && (v.S.toList==(str []).toList))) else bif v.Kind==2 then (v.N==0 && (decide ((v.S.size:Int)≤40) && !(bs v.S).any Yx)) else false
def YW (s:Yb) (v:Zm):Bool:=Rj s && (WZ v && (s.Kind==v.Kind && (decide (Wo v≥s.Lo) && decide (Wo v≤s.Hi))))
theorem ZhH (v:Zm):My N v=some (Wo v):=by
 unfold My Wo
 cases (v.Kind==1)<;>cases (v.Kind==2)<;>rfl
theorem Zm8 (s:Yb):LW N s=some (Rj s):=by
 unfold LW Rj Mw
 cases (s.Kind==1)
 ·cases (s.Kind==2)
  ·rfl
  ·simp only [cT,cond_false]
   cases decide (0≤s.Lo)<;>cases decide (s.Lo≤s.Hi)<;>rfl
 ·simp only [cT]
  cases decide (-1000≤s.Lo)<;>cases decide (s.Lo≤s.Hi)<;>rfl
theorem Zf7 (hN:4194304 < N) (v:Zm) (hv:v.S.size≤4194304):Mp N v=some (WZ v):=by
 unfold Mp WZ ZcD
 rw [Ztl hN _ hv]
 simp only [bS]
 cases (v.Kind==1)
 ·cases (v.Kind==2)
  ·rfl
  ·cases (v.N==0)<;>cases decide ((v.S.size:Int)≤40)<;>rfl
 ·cases decide (v.N≥-1000)<;>cases decide (v.N≤1000)<;>rfl
theorem Zab (hN:4194304 < N) (s:Yb) (v:Zm) (hv:v.S.size≤4194304):Q6 N s v=some (YW s v):=by
 unfold Q6 YW
 rw [ZhH,Zm8,Zf7 hN v hv]
 simp only [bS]
 cases Rj s<;>cases WZ v<;>cases (s.Kind==v.Kind)<;>cases decide (Wo v≥s.Lo)<;>rfl
theorem ZkP {s:Yb} {v:Zm} (h:YW s v=true):v.S.size≤40:=by
 unfold YW at h
 simp only [Zc] at h
 have h:=h.2.1
 unfold WZ at h
 cases h1:(v.Kind==1)
 ·rw [h1] at h
  cases h2:(v.Kind==2)
  ·rw [h2] at h;cases h
  ·rw [h2] at h
   simp only [cT,cond_false,Zc,decide_eq_true_eq] at h
   omega
 ·rw [h1] at h
  simp only [cT,Zc] at h
  have h:=beq_iff_eq.1 h.2.2
  rw [X1,X1,ZbN] at h
  rw [Yd,h];decide
theorem MR {A B:Type} (p:A→B→Bool) {xs:List A} {ys:List B} {F:Nat→Int→Option Bool} {n:Nat} (hl:xs.length=ys.length) (hn:xs.length < n)
  (h1:∀ n k x y,k < xs.length→xs[k]? = some x→ys[k]? = some y→F (n+1) (k:Int)=bif p x y then F n ((k+1:Nat):Int) else some false)
  (h2:∀ n k,xs.length≤k→F (n+1) (k:Int)=some true):∃ b,F n (0:Int)=some b∧(b=true↔∀ (i:Nat) x y,xs[i]? = some x→ys[i]? = some y→p x y=true):=by
 let q:A→Nat→Bool:=fun x k=>match ys[k]? with
  | some y=>p x y
  | none=>false
 have h:=Yy q (xs:=xs) (F:=F) (e:=some true) (n:=n) hn (fun n k x hk hx=>by
  have hy:=Za (show k < ys.length by omega)
  rw [h1 n k x _ hk hx hy]
  show _=bif (match ys[k]? with | some y=>p x y | none=>false) then _ else _
  rw [hy]) h2
 refine ⟨ZO q xs 0,by rw [h];cases ZO q xs 0<;>rfl,?_⟩
 rw [XM]
 constructor
 ·intro h i x y hx hy
  have:=h i x hx
  rw [Nat.zero_add] at this
  have e:q x i=p x y:=by show (match ys[i]? with | some y=>p x y | none=>false)=_;rw [hy]
  rwa [e] at this
 ·intro h i x hx
  have hi:=(List.getElem?_eq_some_iff.1 hx).1
  have hy:=Za (show i < ys.length by omega)
  rw [Nat.zero_add]
  have e:q x i=p x ys[i]:=by show (match ys[i]? with | some y=>p x y | none=>false)=_;rw [hy]
  rw [e]
  exact h i x _ hx hy
theorem Uq (a b:Nat):((a:Int) != (b:Int)) = !decide (a=b):=Zcs a b
def Ww (fs:List T4) (vs:List Zm):Prop:=fs.length=vs.length∧∀ (i:Nat) (f:T4) (v:Zm),fs[i]? = some f→vs[i]? = some v→YW f.Sort' v=true
def Uc (fs:List T4) (ks:List Zm):Prop:=fs.length=ks.length∧∀ (i:Nat) (f:T4) (v:Zm),fs[i]? = some f→ks[i]? = some v→(Wa v || YW f.Sort' v)=true
theorem Zha (hN:4194304 < N) (fs:List T4) (vs:List Zm) (hl:vs.length≤4194304) (hv:∀ v∈vs,v.S.size≤4194304):∃ b,MN N fs vs=some b∧(b=true↔Ww fs vs):=by
 unfold MN ZbL
 rw [Uq]
 by_cases h:fs.length=vs.length
 ·rw [dT h]
  obtain ⟨b,e,hb⟩:=MR (fun (f:T4) (v:Zm)=>YW f.Sort' v) (xs:=fs) (ys:=vs) (F:=R8 N fs vs) (n:=N) h (by omega) (fun n k f v hk hf hv'=>by
   rw [R8,ZI hk,Zw,hf,Zw,hv',ZH (by omega)]
   simp only [cT,bS,BT,Zab hN _ _ (hv v (Zb hv'))]
   cases YW f.Sort' v<;>rfl) (fun n k hk=>by
   rw [R8,ZK hk];rfl)
  simp only [Zh,cond_false,e,bS]
  exact ⟨b,rfl,hb.trans ⟨fun g=>⟨h,g⟩,fun g=>g.2⟩⟩
 ·rw [dF h]
  exact ⟨false,rfl,by simp;intro g;exact h g.1⟩
theorem ZjP (hN:4194304 < N) (fs:List T4) (vs:List Zm) (hl:vs.length≤4194304) (hv:∀ v∈vs,v.S.size≤4194304):∃ b,Hd N fs vs=some b∧(b=true↔Uc fs vs):=by
 unfold Hd
 rw [Uq]
 by_cases h:fs.length=vs.length
 ·rw [dT h]
  obtain ⟨b,e,hb⟩:=MR (fun (f:T4) (v:Zm)=>Wa v || YW f.Sort' v) (xs:=fs) (ys:=vs) (F:=SU N fs vs) (n:=N) h (by omega) (fun n k f v hk hf hv'=>by
   rw [SU,ZI hk,Zw,hf,Zw,hv',ZH (by omega)]
   simp only [cT,bS,z89,Zab hN _ _ (hv v (Zb hv'))]
   show ((bif Wa v then some true else some (YW f.Sort' v)).bind fun x27=>_)=_
   cases Wa v<;>cases YW f.Sort' v<;>rfl) (fun n k hk=>by
   rw [SU,ZK hk];rfl)
  simp only [Zh,cond_false,e]
  exact ⟨b,rfl,hb.trans ⟨fun g=>⟨h,g⟩,fun g=>g.2⟩⟩
 ·rw [dF h]
  exact ⟨false,rfl,by simp;intro g;exact h g.1⟩
end
section
variable {N:Nat}
theorem ZdE {A:Type} (p:A→Bool) {xs:List A} {F:Nat→Int→Option Int} (h1:∀ n k x,k < xs.length→xs[k]? = some x→F (n+1) (k:Int)=bif p x then some (k:Int) else F n ((k+1:Nat):Int))
  (h2:∀ n k,xs.length≤k→F (n+1) (k:Int)=some (-1)):∀ (d n k:Nat),xs.length-k=d→d < n→∃ z,F n (k:Int)=some z∧((z=-1∧∀ (i:Nat) x,k≤i→xs[i]? = some x→p x=false)∨∃ (i:Nat) (x:A),z=(i:Int)∧xs[i]? = some x∧p x=true):=by
 intro d
 induction d with
 | zero =>
  intro n k hd hn
  obtain ⟨n,rfl⟩:=pS n (by omega)
  exact ⟨-1,h2 n k (by omega),.inl ⟨rfl,fun i x hi hx=>by have:=(List.getElem?_eq_some_iff.1 hx).1;omega⟩⟩
 | succ d ih =>
  intro n k hd hn
  obtain ⟨n,rfl⟩:=pS n (by omega)
  have hk:k < xs.length:=by omega
  have hx:=Za hk
  rw [h1 n k _ hk hx]
  cases hp:p xs[k] with
  | true=>exact ⟨_,rfl,.inr ⟨k,_,rfl,hx,hp⟩⟩
  | false =>
   obtain ⟨z,e,h⟩:=ih n (k+1) (by omega) (by omega)
   refine ⟨z,e,h.imp (fun ⟨a,b⟩=>⟨a,fun i x hi hx'=>?_⟩) id⟩
   by_cases e:i=k
   ·subst e;rw [hx] at hx';cases hx';exact hp
   ·exact b i x (by omega) hx'
theorem Zdk (hN:4194304 < N) (g:T5) (hv:Yi g.Decls=true):Hv N g=some (Zx g.Decls):=by
  unfold Yi at hv
  simp only [Zc,decide_eq_true_eq] at hv
  obtain ⟨v1,v2,_⟩:=hv
  have key:∀ (r:List T0) (n k:Nat) (acc:List T4),g.Decls.drop k=r→r.length < n→acc.length+(Zx r).length≤24→RC g n acc (k:Int)=some (acc++Zx r):=by
    intro r
    induction r with
    | nil =>
      intro n k acc hr hn _
      obtain ⟨n,rfl⟩:=pS n (by simp at hn;omega)
      rw [RC,ZK (List.drop_eq_nil_iff.1 hr)]
      simp [Dk,Zx]
    | cons x r ih =>
      intro n k acc hr hn hl
      obtain ⟨n,rfl⟩:=pS n (by simp at hn;omega)
      have hk:k < g.Decls.length:=by
        refine Nat.not_le.1 fun h=>?_
        rw [List.drop_eq_nil_iff.2 h] at hr;cases hr
      have hx:g.Decls[k]? = some x:=by
        have:=congrArg (·[0]?) hr
        simpa using this
      rw [Sh,lA] at hl
      rw [RC,ZI hk,Zw,hx,ZH (by omega)]
      simp only [cT,bS]
      rw [YC (by omega)]
      simp only [bS]
      rw [ih n (k+1) (acc++x.Fields) (by have:=congrArg (List.drop 1) hr;simpa [List.drop_drop,Nat.add_comm] using this) (by simp at hn;omega) (by rw [lA];omega),Sh,aA]
  exact key g.Decls N 0 [] rfl (by omega) (by simpa using v2)
structure Ld (g:T5) (m:T8):Prop where
 v:Yi g.Decls=true
 n:Xo m
 l:∀ x∈m.Moves,x.Label < (g.Decls.length:Int)
theorem LA (hN:4194304 < N) (g:T5) (hg:XI g) (hs:XV g) (m:T8) (ht:m.Timeouts.length≤4194304):∃ b,Vb N g m=some b∧(b=true→Ld g m):=by
 unfold Vb
 obtain ⟨b1,e1,h1⟩:=ZkI hN g hg hs
 obtain ⟨b2,e2,h2⟩:=ZqF hN m ht
 rw [e1,e2]
 simp only [bS]
 cases b1 with
 | false=>exact ⟨false,rfl,fun h=>by cases h⟩
 | true =>
 cases b2 with
 | false=>exact ⟨false,rfl,fun h=>by cases h⟩
 | true =>
 have hm:=h2 rfl
 have hn:=hm.n
 simp only [cT]
 cases decide (m.Role < (g.Roles.length:Int)) with
 | false=>exact ⟨false,rfl,fun h=>by cases h⟩
 | true =>
 simp only [cT]
 unfold HE Hr
 have ep:∀ y,Pj N y g=some (decide (y.Peer≥(g.Roles.length:Int)) || decide (y.Label≥(g.Decls.length:Int))):=fun y=>by
  unfold Pj
  cases decide (y.Peer≥(g.Roles.length:Int))<;>rfl
 obtain ⟨z,ez,hz⟩:=ZdE (fun (y:T9)=>decide (y.Peer≥(g.Roles.length:Int)) || decide (y.Label≥(g.Decls.length:Int))) (xs:=m.Moves) (F:=UI N m.Moves g) (fun n k x hk hx=>by
  rw [UI,ZI hk,Zw,hx,ZH (by omega)]
  simp only [cT,bS,ep]) (fun n k hk=>by
  rw [UI,ZK hk];rfl) _ N 0 rfl (by omega)
 rw [show ((0:Nat):Int)=0 from rfl] at ez
 rw [ez]
 simp only [bS]
 refine ⟨_,rfl,fun h=>⟨h1 rfl,hm,fun x hx=>?_⟩⟩
 rcases hz with ⟨_,hz⟩ | ⟨i,y,rfl,_,_⟩
 ·obtain ⟨i,hi⟩:=List.getElem?_of_mem hx
  have:=hz i x (Nat.zero_le _) hi
  simp only [Bool.or_eq_false_iff,decide_eq_false_iff_not] at this
  omega
 ·simp at h
structure StM (g:T5) (m:T8) (s:ZJ):Prop where
 a0:0≤s.At
 a1:s.At < m.States
 k:Uc (Zx g.Decls) s.Known
 p:s.Pending.length≤4194304
theorem Zlj {v:Zm} (h:Wa v=true):v.S.size=0:=by
 unfold Wa at h
 simp only [Zc] at h
 have h:=beq_iff_eq.1 h.2.2.1
 rw [X1,X1,ZbN] at h
 rw [Yd,h];rfl
theorem Hb {fs:List T4} {ks:List Zm} (h:Uc fs ks):∀ v∈ks,v.S.size≤4194304:=fun v hv=>by
 obtain ⟨i,hi⟩:=List.getElem?_of_mem hv
 have hl:=(List.getElem?_eq_some_iff.1 hi).1
 have:=h.2 i _ v (Za (by rw [h.1];exact hl)) hi
 rw [Bool.or_eq_true] at this
 rcases this with h | h
 ·have:=Zlj h;omega
 ·have:=ZkP h;omega
theorem Th {l:List T0} (h:Yi l=true):l.length≤40∧(Zx l).length≤24:=by
 unfold Yi at h
 simp only [Zc,decide_eq_true_eq] at h
 exact ⟨h.1,h.2.1⟩
theorem Zr2 (hN:4194304 < N) (g:T5) (hg:XI g) (hs:XV g) (m:T8) (ht:m.Timeouts.length≤4194304) (s:ZJ) (hk:s.Known.length≤4194304) (hv:∀ v∈s.Known,v.S.size≤4194304) :
  ∃ b,z46 N g m s=some b∧(b=true→Ld g m)∧(∀ _:Vb N g m=some true,StM g m s→b=true):=by
 unfold z46
 obtain ⟨b,e,h⟩:=LA hN g hg hs m ht
 rw [e]
 simp only [bS]
 cases b with
 | false=>exact ⟨false,rfl,(fun h=>by cases h),(fun h=>by cases h)⟩
 | true =>
 have hA:=h rfl
 rw [Zdk hN g hA.v]
 obtain ⟨b,eb,hb⟩:=ZjP hN (Zx g.Decls) s.Known hk hv
 simp only [cT,bS,eb]
 cases c1:decide (s.At≥0) with
 | false=>exact ⟨false,rfl,(fun h=>by cases h),fun _ h=>by have:=h.a0;simp at c1;omega⟩
 | true =>
 cases c2:decide (s.At < m.States) with
 | false=>exact ⟨false,rfl,(fun h=>by cases h),fun _ h=>by have:=h.a1;simp at c2;omega⟩
 | true=>exact ⟨b,rfl,fun _=>hA,fun _ h=>hb.2 h.k⟩
theorem Zg9 (a:ByteArray):Op.bytesLess a.toList a.toList=false:=by
 generalize a.toList=l
 induction l with
 | nil=>rfl
 | cons x l ih=>unfold Op.bytesLess;simp [ih]
theorem ZrG (a b:ByteArray):∃ z,z233 N a b=some z∧(a=b→z=0):=by
 unfold z233 Lu
 have e:∀ x:ByteArray,(!(x.toList==x.toList))=false:=fun x=>by simp
 simp only [bS,e,cond_false]
 cases h1:Op.bytesLess a.toList b.toList with
 | true=>exact ⟨_,rfl,fun h=>by subst h;rw [show Op.bytesLess a.toList a.toList=false from Zg9 a] at h1;cases h1⟩
 | false =>
  cases h2:(a.toList==b.toList) with
  | true=>exact ⟨_,rfl,fun _=>rfl⟩
  | false=>exact ⟨_,rfl,fun h=>by subst h;simp at h2⟩
end
section
variable {N:Nat}
theorem or4 (hN:4194304 < N) (a b c d:Int):∃ z,Tn N [a,b,c,d]=some z∧(a=0→b=0→c=0→d=0→z=0):=by
 obtain ⟨n,rfl⟩:∃ n,N=n+5:=⟨N-5,by omega⟩
 unfold Tn
 rw [Ws,Ws,Ws,Ws,Ws]
 have w0:Zi ((0:Int)+1)=1:=by decide
 have w1:Zi ((1:Int)+1)=2:=by decide
 have w2:Zi ((2:Int)+1)=3:=by decide
 have w3:Zi ((3:Int)+1)=4:=by decide
 rw [w0,w1,w2,w3]
 have i0:idx [a,b,c,d] 0=some a:=rfl
 have i1:idx [a,b,c,d] 1=some b:=rfl
 have i2:idx [a,b,c,d] 2=some c:=rfl
 have i3:idx [a,b,c,d] 3=some d:=rfl
 rw [i0,i1,i2,i3]
 have l0:decide ((0:Int) < (([a,b,c,d]:List Int).length:Int))=true:=rfl
 have l1:decide ((1:Int) < (([a,b,c,d]:List Int).length:Int))=true:=rfl
 have l2:decide ((2:Int) < (([a,b,c,d]:List Int).length:Int))=true:=rfl
 have l3:decide ((3:Int) < (([a,b,c,d]:List Int).length:Int))=true:=rfl
 have l4:decide ((4:Int) < (([a,b,c,d]:List Int).length:Int))=false:=rfl
 rw [l0,l1,l2,l3,l4]
 simp only [cT,cond_false,bS]
 cases h0:(a != 0)
 ·cases h1:(b != 0)
  ·cases h2:(c != 0)
   ·cases h3:(d != 0)
    ·exact ⟨0,rfl,fun _ _ _ _=>rfl⟩
    ·exact ⟨d,rfl,fun _ _ _ h=>h⟩
   ·exact ⟨c,rfl,fun _ _ h _=>h⟩
  ·exact ⟨b,rfl,fun _ h _ _=>h⟩
 ·exact ⟨a,rfl,fun h _ _ _=>h⟩
theorem Zc5 (x:Int):cI x x=0:=by
 rcases PR x x with ⟨h,_⟩ | ⟨h,_⟩ | ⟨_,h⟩
 ·omega
 ·omega
 ·exact h
theorem ZgJ (hN:4194304 < N) (a b:Zm):∃ z,W4 N a b=some z∧(a=b→z=true):=by
 unfold W4 z173
 obtain ⟨s,es,hs⟩:=ZrG (N:=N) a.S b.S
 rw [Rk,Rk,Rk,es]
 simp only [bS]
 obtain ⟨z,ez,hz⟩:=or4 hN (cI a.Kind b.Kind) (cI a.N b.N) (cI (a.S.size:Int) (b.S.size:Int)) s
 rw [ez]
 refine ⟨_,rfl,fun h=>?_⟩
 subst h
 rw [hz (Zc5 _) (Zc5 _) (Zc5 _) (hs rfl)];rfl
theorem ZpR (hN:4194304 < N) (a b:List Zm) (hl:a.length≤4194304):∃ z,RI N a b=some z∧(a=b→z=true):=by
 unfold RI GZ
 rw [Uq]
 by_cases h:a.length=b.length
 ·rw [dT h]
  let p:Zm→Zm→Bool:=fun x y=>(W4 N x y).getD false
  obtain ⟨z,ez,hz⟩:=MR p (xs:=a) (ys:=b) (F:=UY N a b) (n:=N) h (by omega) (fun n k x y hk hx hy=>by
   rw [UY,ZI hk,Zw,hx,Zw,hy,ZH (by omega)]
   obtain ⟨q,eq,_⟩:=ZgJ hN x y
   have e:p x y=q:=by show (W4 N x y).getD false=q;rw [eq];rfl
   simp only [cT,bS,eq,e]
   cases q<;>rfl) (fun n k hk=>by
   rw [UY,ZK hk];rfl)
  simp only [Zh,cond_false,ez,bS]
  refine ⟨z,rfl,fun e=>hz.2 fun i x y hx hy=>?_⟩
  subst e
  rw [hx] at hy;cases hy
  obtain ⟨q,eq,hq⟩:=ZgJ hN x x
  show (W4 N x x).getD false=true
  rw [eq,hq rfl];rfl
 ·rw [dF h]
  exact ⟨false,rfl,fun e=>absurd (congrArg List.length e) h⟩
structure XO (x:T3):Prop where
 l:x.Values.length≤4194304
 s:∀ v∈x.Values,v.S.size≤4194304
theorem Zsk {d:List T0} {i:Nat} {x:T0} (hx:d[i]? = some x) {j:Nat} (hj:j < x.Fields.length):(Zx d)[(Zx (d.take i)).length+j]? = x.Fields[j]? := by
 have hi:=(List.getElem?_eq_some_iff.1 hx).1
 have e:d=d.take i++x::d.drop (i+1):=by
  have h1:d[i]=x:=(List.getElem?_eq_some_iff.1 hx).2
  rw [← h1]
  exact (List.take_append_drop i d).symm.trans (by rw [List.drop_eq_getElem_cons hi])
 have e2:Zx d=Zx (d.take i)++(x.Fields++Zx (d.drop (i+1))):=by
  rw [← Sh,← Sy,← e]
 rw [e2,List.getElem?_append_right (Nat.le_add_right _ _),Nat.add_sub_cancel_left,List.getElem?_append_left hj]
theorem Zhc {d:List T0} {i first:Nat} {x:T0} {vs ks:List Zm} (hx:d[i]? = some x) (hf:x.First=(first:Int)) (hd:XJ (Zx d) d x i=true) (hle:first+vs.length≤ks.length)
  (hk:Uc (Zx d) ks) (hv:Ww x.Fields vs):Uc (Zx d) (Yq first vs ks):=by
 unfold XJ at hd
 simp only [Zc,decide_eq_true_eq] at hd
 have hF:first=(Zx (d.take i)).length:=by have:=hd.2.2.1;omega
 refine ⟨by rw [DS first vs ks hle];exact hk.1,fun j f v h1 h2=>?_⟩
 rw [HR first vs ks hle] at h2
 split at h2
 ·rename_i hj
  have hj':j-first < x.Fields.length:=by rw [hv.1];omega
  have:=Zsk hx hj'
  rw [← hF,show first+(j-first)=j by omega,h1] at this
  rw [hv.2 (j-first) f v this.symm h2,Bool.or_true]
 ·exact hk.2 j f v h1 h2
theorem ZlX (hN:4194304 < N) (g:T5) (hg:XI g) (hs:XV g) (m:T8) (hA:Ld g m) (s:ZJ) (hS:StM g m s) (x:T3) (hx:XO x) :
  ∃ r,TB N g m s x=some r∧(r.2=0→StM g m r.1)∧r.2≠1:=by
 obtain ⟨v1,v2⟩:=Th hA.v
 have hn:=hA.n.n
 have hkl:s.Known.length≤4194304:=by rw [← hS.k.1];omega
 have hks:=Hb hS.k
 unfold TB P8
 have ep:∀ y,PF N y s x=some (y.From==s.At && (y.Send==x.Send && (y.Peer==x.Peer && y.Label==x.Label))):=fun y=>by
  unfold PF
  cases (y.From==s.At)<;>cases (y.Send==x.Send)<;>cases (y.Peer==x.Peer)<;>rfl
 obtain ⟨z,ez,hz⟩:=ZdE (fun (y:T9)=>(y.From==s.At && (y.Send==x.Send && (y.Peer==x.Peer && y.Label==x.Label)))) (xs:=m.Moves) (F:=UR N m.Moves s x) (fun n k y hk hy=>by
  rw [UR,ZI hk,Zw,hy,ZH (by omega)]
  simp only [cT,bS,ep]) (fun n k hk=>by
  rw [UR,ZK hk];rfl) _ N 0 rfl (by omega)
 rw [show ((0:Nat):Int)=0 from rfl] at ez
 rw [ez]
 simp only [bS]
 cases (x.Role != m.Role) with
 | true=>exact ⟨_,rfl,(fun h=>by cases h),by decide⟩
 | false =>
 rcases hz with ⟨rfl,_⟩ | ⟨k,y,rfl,hy,hp⟩
 ·exact ⟨_,rfl,(fun h=>by cases h),by decide⟩
 have h0:decide ((k:Int) < 0)=false:=by simp
 rw [h0]
 simp only [Zc,beq_iff_eq] at hp
 obtain ⟨_,_,_,hlab⟩:=hp
 have hym:=Zb hy
 obtain ⟨_,⟨t0,t1⟩,_,_,la,_⟩:=hA.n.mv y hym
 have lb:=hA.l y hym
 rw [hlab] at la lb
 obtain ⟨d,hd⟩:=YN la lb
 rw [hd]
 simp only [cond_false,bS]
 obtain ⟨bf,ef,hf⟩:=Zha hN d.Fields x.Values hx.l hx.s
 rw [ef]
 simp only [bS]
 cases bf with
 | false=>exact ⟨_,rfl,(fun h=>by cases h),by decide⟩
 | true =>
 have hfl:=hf.1 rfl
 have hc:=ZgI hN g.Decls (by omega) hg.dd hs.d x.Label x.Values s.Known hx.l hkl ⟨hx.s,hks⟩
 rw [hc]
 simp only [Zh,cond_false,bS]
 have fin:∀ b:Bool,(b=false→Wt g.Decls x.Label x.Values s.Known=true)→∃ r,TF N g m s x (k:Int) b=some r∧(r.2=0→StM g m r.1)∧r.2≠1:=fun b hb=>by
  unfold TF
  cases b with
  | true=>exact ⟨_,rfl,(fun h=>by cases h),by decide⟩
  | false =>
  have hck:=hb rfl
  unfold Wt at hck
  rw [Zc] at hck
  obtain ⟨hp,hck⟩:=hck
  rw [Zw,hy]
  simp only [cond_false,bS]
  rcases Zeh hN g.Decls (by omega) hg.dd hs.d x.Label x.Values s.Known hx.l hkl ⟨hx.s,hks⟩ with ⟨h,_⟩ | ⟨_,i,d',first,q1,q2,q3,q4,q5⟩
  ·rw [h] at hp;cases hp
  have hd':d'=d:=by
   rw [q1,Zw,q2] at hd
   exact Option.some.inj hd
  subst hd'
  rcases q5 with ⟨h,_⟩ | ⟨_,hle,hl⟩
  ·rw [hd] at hck
   simp only [h,Bool.false_and] at hck
   cases hck
  rw [hl]
  simp only [bS]
  have hkn:=Zhc q2 q3 q4 hle hS.k hfl
  cases x.Send with
  | true =>
   unfold z55
   rw [YC (by have:=hx.l;simp;omega)]
   exact ⟨_,rfl,fun _=>⟨t0,t1,hkn,by simpa using hx.l⟩,show (0:Int)≠1 by decide⟩
  | false=>exact ⟨_,rfl,fun _=>⟨t0,t1,hkn,by simp⟩,show (0:Int)≠1 by decide⟩
 cases hcv:Wt g.Decls x.Label x.Values s.Known with
 | false=>exact fin true (fun h=>by cases h)
 | true =>
 simp only [Zh,cond_false]
 rw [Zw,hy]
 simp only [bS]
 obtain ⟨q,eq,_⟩:=ZpR hN x.Values s.Pending hx.l
 rw [eq]
 simp only [bS]
 cases y.Again with
 | true=>exact fin (!q) (fun _=>hcv)
 | false=>exact fin false (fun _=>hcv)
end
section
variable {N:Nat}
section
variable (f:ZJ→T3→ZJ × Int)
def XF:List T3→ZJ→Nat→ZJ × Int × Int
 | [],s,k=>(s,(k:Int),0)
 | x::l,s,k=>bif (f s x).2 != 0 then (s,(k:Int),(f s x).2) else XF l (f s x).1 (k+1)
end
def YA (N:Nat) (g:T5) (m:T8) (s:ZJ) (x:T3):ZJ × Int:=(TB N g m s x).getD (⟨0,[],[]⟩,0)
structure Y7 (N:Nat) (g:T5) (m:T8):Prop where
 hN:4194304 < N
 gg:XI g
 ss:XV g
 t:m.Timeouts.length≤4194304
 a:Ld g m
 e:Vb N g m=some true
variable {g:T5} {m:T8}
theorem B9 (c:Y7 N g m) {s:ZJ} (hS:StM g m s) {x:T3} (hx:XO x):TB N g m s x=some (YA N g m s x)∧((YA N g m s x).2=0→StM g m (YA N g m s x).1)∧(YA N g m s x).2≠1:=by
 obtain ⟨r,h1,h2,h3⟩:=ZlX c.hN g c.gg c.ss m c.a s hS x hx
 have e:YA N g m s x=r:=by unfold YA;rw [h1];rfl
 rw [e];exact ⟨h1,h2,h3⟩
theorem Dt (c:Y7 N g m) {s:ZJ} (hS:StM g m s):s.Known.length≤4194304:=by
 have:=Th c.a.v
 rw [← hS.k.1];omega
theorem Zga (c:Y7 N g m) {s:ZJ} (hS:StM g m s):z46 N g m s=some true:=by
 obtain ⟨b,e,_,h⟩:=Zr2 c.hN g c.gg c.ss m c.t s (Dt c hS) (Hb hS.k)
 have:=h c.e hS
 rw [e,this]
def Wn (g:T5) (m:T8):ZJ:=⟨m.Start,List.replicate (Zx g.Decls).length ⟨0,0,str []⟩,[]⟩
theorem ZfU (c:Y7 N g m):z24 N g m=some (Wn g m):=by
 unfold z24
 rw [c.e,Zdk c.hN g c.a.v]
 have hl:=(Th c.a.v).2
 have e:YG (⟨0,0,str []⟩:Zm) ((Zx g.Decls).length:Int) ((Zx g.Decls).length:Int)=some (List.replicate (Zx g.Decls).length ⟨0,0,str []⟩):=by
  unfold YG
  rw [dT (by omega:(0:Int)≤((Zx g.Decls).length:Int)),dT (Int.le_refl _),dT (by omega:((Zx g.Decls).length:Int)≤4294967296)];rfl
 simp only [bS,Zh,cond_false,e]
 rfl
theorem TX (c:Y7 N g m):StM g m (Wn g m):=by
 refine ⟨c.a.n.b0,c.a.n.b1,⟨by simp [Wn],fun i f v _ h=>?_⟩,by simp [Wn]⟩
 have h:(List.replicate (Zx g.Decls).length (⟨0,0,str []⟩:Zm))[i]? = some v:=h
 rw [List.eq_of_mem_replicate (Zb h)]
 have e:Wa ⟨0,0,str []⟩=true:=by kernel_rfl
 rw [e];rfl
theorem ZkO (c:Y7 N g m) (l:List T3) (hl:l.length≤4194304) (he:∀ x∈l,XO x):∀ (r:List T3) (n k:Nat) (s:ZJ),StM g m s→k≤l.length→l.drop k=r→r.length < n →
    Rx N g m l n s.At s.Known s.Pending (k:Int)=some (XF (YA N g m) r s k):=by
  intro r
  induction r with
  | nil =>
    intro n k s hS hk hr hn
    obtain ⟨n,rfl⟩:=pS n (by simp at hn;omega)
    have:=List.drop_eq_nil_iff.1 hr
    rw [Rx,ZK this]
    have e:k=l.length:=by omega
    subst e;rfl
  | cons x r ih =>
    intro n k s hS hk hr hn
    obtain ⟨n,rfl⟩:=pS n (by simp at hn;omega)
    have hk:k < l.length:=by
      refine Nat.not_le.1 fun h=>?_
      rw [List.drop_eq_nil_iff.2 h] at hr;cases hr
    have hx:l[k]? = some x:=by
      have:=congrArg (·[0]?) hr
      simpa using this
    obtain ⟨e1,e2,_⟩:=B9 c hS (he x (Zb hx))
    rw [Rx,ZI hk,Zw,hx,ZH (by omega)]
    simp only [cT,bS]
    have e1:TB N g m ⟨s.At,s.Known,s.Pending⟩ x=some (YA N g m s x):=e1
    rw [e1,XF]
    simp only [bS]
    cases h:((YA N g m s x).2 != 0) with
    | true=>rfl
    | false =>
      have h0:(YA N g m s x).2=0:=by simpa using h
      exact ih n (k+1) _ (e2 h0) hk (by have:=congrArg (List.drop 1) hr;simpa [List.drop_drop,Nat.add_comm] using this) (by simp at hn;omega)
theorem ZbX (c:Y7 N g m) (l:List T3) (hl:l.length≤4194304) (he:∀ x∈l,XO x):X6 N g m l=some (XF (YA N g m) l (Wn g m) 0):=by
 have hN:=c.hN
 unfold X6
 rw [ZfU c]
 simp only [bS]
 rw [Zga c (TX c)]
 exact ZkO c l hl he l N 0 _ (TX c) (Nat.zero_le _) rfl (by omega)
theorem Gb (c:Y7 N g m):∀ (l:List T3) (s:ZJ) (k:Nat),(∀ x∈l,XO x)→StM g m s→StM g m (XF (YA N g m) l s k).1∧(XF (YA N g m) l s k).2.2≠1
 | [],s,k,_,hS=>⟨hS,show (0:Int)≠1 by decide⟩
 | x::l,s,k,he,hS=>by
  obtain ⟨_,e2,e3⟩:=B9 c hS (he x (List.mem_cons_self ..))
  rw [XF]
  cases h:((YA N g m s x).2 != 0) with
  | true=>exact ⟨hS,e3⟩
  | false =>
   have h0:(YA N g m s x).2=0:=by simpa using h
   exact Gb c l _ (k+1) (fun y hy=>he y (List.mem_cons_of_mem _ hy)) (e2 h0)
theorem Zqb (hN:4194304 < N) (l:List Zm) (hl:l.length≤4194304):∃ b,z63 N l=some b:=by
 refine M7 (F:=Rw l) (len:=l.length) (fun n k hk hi=>?_) (fun n k hk=>?_) _ N 0 rfl (by omega)
 ·rw [Rw,ZI hk,Zw,Za hk,ZH (by omega)]
  simp only [cT,bS]
  exact XU (fun _=>XY _) fun _=>hi
 ·rw [Rw,ZK hk]
  exact XY _
theorem Zmv (hN:4194304 < N) (l:List T3) (hl:l.length≤4194304) (he:∀ x∈l,XO x):∃ b,z29 N l=some b:=by
 refine M7 (F:=S8 N l) (len:=l.length) (fun n k hk hi=>?_) (fun n k hk=>?_) _ N 0 rfl (by omega)
 ·rw [S8,ZI hk,Zw,Za hk,ZH (by omega)]
  obtain ⟨b,eb⟩:=Zqb hN _ (he _ (List.getElem_mem hk)).l
  simp only [cT,bS,eb]
  exact XU (fun _=>XY _) fun _=>hi
 ·rw [S8,ZK hk]
  exact XY _
theorem ZmA (hN:4194304 < N) (g:T5) (hg:XI g) (m:T8) (l:List T3) (hl:l.length≤4194304) (he:∀ x∈l,XO x):∃ b,z9 N g m l=some b:=by
 unfold z9 z27 z28 Br
 obtain ⟨b1,e1,_⟩:=ZqP g.Decls hg.d g.Decls N 0 0 rfl (by have:=hg.d;omega)
 rw [show ((0:Nat):Int)=0 from rfl] at e1
 obtain ⟨b2,e2⟩:=Zmv hN l hl he
 rw [e1,e2]
 simp only [bS]
 cases decide (g.States≤40)<;>cases decide ((g.Edges.length:Int)≤80)<;>cases decide ((g.Timeouts.length:Int)≤40)<;>cases decide ((g.Roles.length:Int)≤10)<;>cases b1 <;>
  cases decide (m.States≤40)<;>cases decide ((m.Finals.length:Int)≤45)<;>cases decide ((m.Moves.length:Int)≤80)<;>cases decide ((m.Timeouts.length:Int)≤45)<;>exact ⟨_,rfl⟩
end
section
variable {N:Nat}
theorem Zrg (hN:4194304 < N) (m:T8):G2 N m=some (S2 m):=by
 unfold G2 S2 VE
 have ge:∀ a:Int,decide (a≥0) = !decide (a < 0):=fun a=>by by_cases h:a < 0<;>simp [h]<;>omega
 have lt:∀ a b:Int,decide (a < b) = !decide (a≥b):=fun a b=>by by_cases h:a < b<;>simp [h]<;>omega
 rw [ge m.Start,lt m.Start m.States]
 cases decide (m.Role < 0)
 case true=>rfl
 cases decide (m.Role≥6)
 case true=>rfl
 cases decide (m.States < 1)
 case true=>rfl
 cases decide (m.States > 200)
 case true=>rfl
 cases decide (m.Start < 0)
 case true=>rfl
 cases decide (m.Start≥m.States)
 case true=>rfl
 cases ((m.Finals.length:Int) != m.States)
 case true=>rfl
 cases h:decide ((m.Moves.length:Int) > 400)
 case true=>rfl
 simp only [decide_eq_false_iff_not] at h
 have:=Yy (fun (x:T9) _=>moveM m x) (xs:=m.Moves) (F:=SG m) (e:=some true) (n:=N) (by omega) (by
  intro n k x hk hx
  rw [SG,ZI hk,ZH (by omega)]
  simp only [cT,Zw,hx,bS]
  unfold moveM VE
  rw [ge x.From,ge x.To,lt x.From m.States,lt x.To m.States]
  cases decide (x.From < 0)
  case true=>rfl
  cases decide (x.From≥m.States)
  case true=>rfl
  cases decide (x.To < 0)
  case true=>rfl
  cases decide (x.To≥m.States)
  case true=>rfl
  cases decide (x.Peer < 0)
  case true=>rfl
  cases decide (x.Peer≥6)
  case true=>rfl
  cases (x.Peer==m.Role)
  case true=>rfl
  cases decide (x.Label < 0)
  case true=>rfl
  cases decide (x.Label≥40)<;>rfl) (by
  intro n k hk
  rw [SG,ZK hk]
  rfl)
 show SG m N 0=_
 rw [this]
 cases ZO (fun (x:T9) _=>moveM m x) m.Moves 0<;>rfl
def V2 (m:T8) (x:Yj) (k:Nat):Bool:=(decide (1≤x.Ticks) && (decide (x.Ticks≤1000) && (decide (0≤x.Else) && decide (x.Else < (m.Moves.length:Int))))) && (decide (k=0) || (match m.Timeouts[k-1]? with | some y=>decide (y.State < x.State) | none=>false)) &&
 (match idx m.Moves x.Else with | some y=>(y.From==x.State) && (y.Send && !y.Again) | none=>false)
theorem Zpw (hN:4194304 < N) (m:T8) (ht:m.Timeouts.length≤4194304):Dm N m=some (ZO (V2 m) m.Timeouts 0):=by
 unfold Dm
 have:=Yy (V2 m) (xs:=m.Timeouts) (F:=Wm m) (e:=some true) (n:=N) (by omega) (by
  intro n k x hk hx
  rw [Wm,ZI hk,Zw,hx]
  simp only [cT,bS]
  have k3:∀ b:Bool,(0≤x.Else∧x.Else < (m.Moves.length:Int))→Us m (k:Int) (Wm m n) x b=bif (!b && (match idx m.Moves x.Else with | some y=>(y.From==x.State) && (y.Send && !y.Again) | none=>false)) then Wm m n ((k+1:Nat):Int) else some false:=fun b ⟨h1,h2⟩=>by
   unfold Us
   obtain ⟨y,hy⟩:=YN (L:=m.Moves) h1 h2
   rw [hy,ZH (by omega)]
   simp only [bS]
   have e:(y.From != x.State) = !(y.From==x.State):=rfl
   rw [e]
   cases b<;>cases (y.From==x.State)<;>cases y.Send<;>cases y.Again<;>rfl
  have kt:Us m (k:Int) (Wm m n) x true=some false:=rfl
  unfold V2
  by_cases a1:x.Ticks < 1
  ·rw [dT a1,dF (by omega:¬ 1≤x.Ticks),kt];rfl
  by_cases a2:x.Ticks > 1000
  ·rw [dF a1,dT a2,dF (by omega:¬ x.Ticks≤1000),kt];simp
  by_cases a3:x.Else < 0
  ·rw [dF a1,dF a2,dT a3,dF (by omega:¬ 0≤x.Else),kt];simp
  by_cases a4:x.Else≥(m.Moves.length:Int)
  ·rw [dF a1,dF a2,dF a3,dT a4,dF (by omega:¬ x.Else < (m.Moves.length:Int)),kt];simp
  rw [dF a1,dF a2,dF a3,dF a4,dT (by omega:1≤x.Ticks),dT (by omega:x.Ticks≤1000),dT (by omega:0≤x.Else),dT (by omega:x.Else < (m.Moves.length:Int))]
  simp only [cond_false,Bool.true_and]
  by_cases hk0:k=0
  ·subst hk0
   rw [show decide (((0:Nat):Int) > 0)=false from rfl,cond_false,k3 false ⟨by omega,by omega⟩]
   simp
  ·rw [dT (by omega:(k:Int) > 0)]
   have w:Zi ((k:Int)-1)=((k-1:Nat):Int):=by rw [YD (by omega) (by omega)];omega
   have hy:=Za (by omega:k-1 < m.Timeouts.length)
   rw [w,Zw,hy]
   simp only [cT,bS]
   rw [k3 _ ⟨by omega,by omega⟩,dF hk0]
   have e:(!decide (x.State≤(m.Timeouts[k-1]).State))=decide ((m.Timeouts[k-1]).State < x.State):=by
    by_cases h:x.State≤(m.Timeouts[k-1]).State<;>simp [h]<;>omega
   rw [e,Bool.false_or]) (by
  intro n k hk
  rw [Wm,ZK hk];rfl)
 rw [this]
 cases ZO (V2 m) m.Timeouts 0<;>rfl
end
section
variable {N:Nat} {t:Yz} {m:T8}
theorem ZhI (hN:4194304 < N) (hm:t.Machine=m) (ht:m.Timeouts.length≤4194304):Mb N t=some (ZO (V2 m) m.Timeouts 0):=by
 unfold Mb
 subst hm
 have:=Yy (V2 t.Machine) (xs:=t.Machine.Timeouts) (F:=YF t) (e:=some true) (n:=N) (by omega) (by
  intro n k x hk hx
  rw [YF,ZI hk,Zw,hx]
  simp only [cT,bS]
  have k3:(0≤x.Else∧x.Else < (t.Machine.Moves.length:Int))→Xh t (k:Int) (YF t n) x false=bif (match idx t.Machine.Moves x.Else with | some y=>(y.From==x.State) && (y.Send && !y.Again) | none=>false) then YF t n ((k+1:Nat):Int) else some false:=fun ⟨h1,h2⟩=>by
   unfold Xh
   obtain ⟨y,hy⟩:=YN (L:=t.Machine.Moves) h1 h2
   rw [hy,ZH (by omega)]
   simp only [bS]
   have e:(y.From != x.State) = !(y.From==x.State):=rfl
   rw [e]
   cases (y.From==x.State)<;>cases y.Send<;>cases y.Again<;>rfl
  have kt:Xh t (k:Int) (YF t n) x true=some false:=rfl
  have tail:(bif decide (x.Ticks < 1) then Xh t (k:Int) (YF t n) x true else bif decide (x.Ticks > 1000) then Xh t (k:Int) (YF t n) x true
    else bif decide (x.Else < 0) then Xh t (k:Int) (YF t n) x true else Xh t (k:Int) (YF t n) x (decide (x.Else≥(t.Machine.Moves.length:Int)))) =
    bif ((decide (1≤x.Ticks) && (decide (x.Ticks≤1000) && (decide (0≤x.Else) && decide (x.Else < (t.Machine.Moves.length:Int))))) && (match idx t.Machine.Moves x.Else with | some y=>(y.From==x.State) && (y.Send && !y.Again) | none=>false)) then YF t n ((k+1:Nat):Int) else some false:=by
   by_cases a1:x.Ticks < 1
   ·rw [dT a1,dF (by omega:¬ 1≤x.Ticks),kt];rfl
   by_cases a2:x.Ticks > 1000
   ·rw [dF a1,dT a2,dF (by omega:¬ x.Ticks≤1000),kt];simp
   by_cases a3:x.Else < 0
   ·rw [dF a1,dF a2,dT a3,dF (by omega:¬ 0≤x.Else),kt];simp
   by_cases a4:x.Else≥(t.Machine.Moves.length:Int)
   ·rw [dF a1,dF a2,dF a3,dT a4,dF (by omega:¬ x.Else < (t.Machine.Moves.length:Int)),kt];simp
   rw [dF a1,dF a2,dF a3,dF a4,dT (by omega:1≤x.Ticks),dT (by omega:x.Ticks≤1000),dT (by omega:0≤x.Else),dT (by omega:x.Else < (t.Machine.Moves.length:Int))]
   simp only [cond_false,Bool.true_and]
   exact k3 ⟨by omega,by omega⟩
  unfold V2
  by_cases hk0:k=0
  ·subst hk0
   rw [show decide (((0:Nat):Int) > 0)=false from rfl,cond_false,tail,dT rfl,Bool.true_or,Bool.and_true]<;>rfl
  ·rw [dT (by omega:(k:Int) > 0)]
   have w:Zi ((k:Int)-1)=((k-1:Nat):Int):=by rw [YD (by omega) (by omega)];omega
   have hy:=Za (by omega:k-1 < t.Machine.Timeouts.length)
   rw [w,Zw,hy,dF hk0]
   simp only [cT,bS,Bool.false_or]
   rw [tail,kt]
   by_cases h:(t.Machine.Timeouts[k-1]).State≥x.State
   ·rw [dT h,dF (by omega:¬ (t.Machine.Timeouts[k-1]).State < x.State),Bool.and_false,Bool.false_and];rfl
   ·rw [dF h,dT (by omega:(t.Machine.Timeouts[k-1]).State < x.State),Bool.and_true];rfl) (by
  intro n k hk
  rw [YF,ZK hk];rfl)
 rw [this]
 cases ZO (V2 t.Machine) t.Machine.Timeouts 0<;>rfl
def QX (m:T8) (x:T9):Bool := !x.Again || (x.Send && (!(x.From==m.Start) && (match idx m.Finals x.From with | some b => !b | none=>false)))
def TI (x:T9) (i:Nat) (y:T9) (k:Nat):Bool := !(!decide (k=i) && (x.From==y.From && (!(x.Send==y.Send) || (x.Peer==y.Peer && x.Label==y.Label) || x.Again))) && !(x.Again && (y.To==x.From && (!y.Send || !(y.Label==x.Label))))
def QO (m:T8):Bool:=ZO (fun x i=>QX m x && ZO (fun y k=>TI x i y k) m.Moves 0) m.Moves 0
theorem Zll (hN:4194304 < N) (hm:Xo m):DF N m=some (QO m):=by
 have hn:=hm.n
 unfold DF QO
 have:=Yy (fun x i=>QX m x && ZO (fun y k=>TI x i y k) m.Moves 0) (xs:=m.Moves) (F:=Xp N m) (e:=some true) (n:=N) (by omega) (by
  intro n i x hi hx
  obtain ⟨⟨f0,f1⟩,_⟩:=hm.mv x (Zb hx)
  rw [Xp,ZI hi,Zw,hx]
  simp only [cT,bS]
  have inner:Wx m (i:Int) (Xp N m n) x N 0=bif ZO (fun y k=>TI x i y k) m.Moves 0 then Xp N m n ((i+1:Nat):Int) else some false:=by
   have:=Yy (fun y k=>TI x i y k) (xs:=m.Moves) (F:=Wx m (i:Int) (Xp N m n) x) (e:=Xp N m n ((i+1:Nat):Int)) (n:=N) (by omega) (by
    intro q k y hk hy
    rw [Wx,ZI hk,Zw,hy]
    simp only [cT,bS]
    unfold Ta TI
    rw [ZH (by omega)]
    have e1:((k:Int) != (i:Int)) = !decide (k=i):=by by_cases h:k=i<;>simp [h]<;>omega
    have e2:(y.Label != x.Label) = !(y.Label==x.Label):=rfl
    rw [e1,e2]
    generalize Wx m (i:Int) (Xp N m n) x q ((k+1:Nat):Int)=Z
    generalize (y.Label==x.Label)=b1
    generalize (y.To==x.From)=b2
    generalize (x.Label==y.Label)=b3
    generalize (x.Peer==y.Peer)=b4
    generalize (x.From==y.From)=b5
    generalize decide (k=i)=b6
    generalize x.Send=b7
    generalize y.Send=b8
    generalize x.Again=b9
    cases b6<;>cases b5<;>cases b9<;>cases b2<;>cases b8<;>cases b7<;>try rfl
    all_goals (cases b1<;>cases b4<;>cases b3<;>rfl)) (by
    intro q k hk
    rw [Wx,ZK hk]
    unfold HZ
    rw [cond_false,ZH (by omega)])
   exact this
  obtain ⟨b,hb⟩:=YN (L:=m.Finals) f0 (by have:=hm.f;omega)
  unfold Ry QX
  rw [hb,inner]
  simp only [bS]
  generalize ZO (fun y k=>TI x i y k) m.Moves 0=Y
  generalize Xp N m n ((i+1:Nat):Int)=Z
  cases x.Again<;>cases x.Send<;>cases (x.From==m.Start)<;>cases b<;>cases Y<;>rfl) (by
  intro n k hk
  rw [Xp,ZK hk];rfl)
 rw [this]
 cases ZO (fun x i=>QX m x && ZO (fun y k=>TI x i y k) m.Moves 0) m.Moves 0<;>rfl
end
section
variable {N:Nat} {t:Yz} {m:T8}
theorem HK {F:Nat→Int→Option Bool} {len lo:Nat} {e:Option Bool} (P:Nat→Prop) (h1:∀ n k,lo≤k→k < len→(F (n+1) (k:Int)=some false∧¬ P k)∨(F (n+1) (k:Int)=F n ((k+1:Nat):Int)∧P k))
  (h2:∀ n k,len≤k→F (n+1) (k:Int)=e):∀ (d n k:Nat),lo≤k→len-k=d→d < n→(F n (k:Int)=some false∧∃ j,k≤j∧j < len∧¬ P j)∨(F n (k:Int)=e∧∀ j,k≤j→j < len→P j):=by
 intro d
 induction d with
 | zero =>
  intro n k hl hd hn
  obtain ⟨n,rfl⟩:=pS n (by omega)
  exact .inr ⟨h2 n k (by omega),fun j h1 h2=>by omega⟩
 | succ d ih =>
  intro n k hl hd hn
  obtain ⟨n,rfl⟩:=pS n (by omega)
  rcases h1 n k hl (by omega) with ⟨e1,e2⟩ | ⟨e1,e2⟩
  ·exact .inl ⟨e1,k,Nat.le_refl _,by omega,e2⟩
  ·rw [e1]
   rcases ih n (k+1) (by omega) (by omega) (by omega) with ⟨a,j,b1,b2,b3⟩ | ⟨a,b⟩
   ·exact .inl ⟨a,j,by omega,b2,b3⟩
   ·refine .inr ⟨a,fun j c1 c2=>?_⟩
    by_cases h:j=k
    ·subst h;exact e2
    ·exact b j (by omega) c2
def ZcE (x y:T9):Prop:=¬ (x.Send=y.Send∧x.Peer=y.Peer∧x.Label=y.Label)∧x.Send=y.Send
def Hp (m:T8) (l:List Int) (j:Nat):Prop:=∀ (a b:Int) x y,l[j-1]? = some a→l[j]? = some b→idx m.Moves a=some x→idx m.Moves b=some y→ZcE x y
theorem ZqQ (hN:4194304 < N) (h:Tk t m):∃ b,LD N t=some b∧(b=true↔∀ (s:Nat) l,t.out'[s]? = some l→∀ j,1≤j→j < l.length→Hp m l j):=by
 have hS:=h.num.s1
 have hlen:=h.len
 have key:=HK (F:=XP N t) (len:=t.out'.length) (lo:=0) (e:=some true) (fun s=>∀ l,t.out'[s]? = some l→∀ j,1≤j→j < l.length→Hp m l j) (fun n k _ hk=>?_) (fun n k hk=>?_) _ N 0 (Nat.le_refl _) rfl (by omega)
 ·rcases key with ⟨e,j,_,j2,j3⟩ | ⟨e,hh⟩
  ·exact ⟨false,e,by simp only [Bool.false_eq_true,false_iff];intro hh;exact j3 fun l hl=>hh j l hl⟩
  ·refine ⟨true,e,by simp only [true_iff];intro s l hl;exact hh s (Nat.zero_le _) (List.getElem?_eq_some_iff.1 hl).1 l hl⟩
 ·rw [XP,ZI hk,Zw,Za hk]
  simp only [cT,bS]
  obtain ⟨hl,ho⟩:=h.out k _ (Za hk)
  have hgk:=Za hk
  generalize t.out'[k]=l at hl ho hgk
  have hag:Rz (k:Int) (XP N t n)=XP N t n ((k+1:Nat):Int):=by
   unfold Rz
   rw [ZH (by omega)]
  have g:∀ i:Nat,i < l.length→∃ q x,l[i]? = some q∧idx m.Moves q=some x:=fun i hi=>by
   obtain ⟨q,x,e1,e2,_⟩:=ho l[i] (List.getElem_mem hi)
   exact ⟨l[i],x,Za hi,by rw [e1,Zw];exact e2⟩
  have inner:=HK (F:=UJ N t (k:Int) (XP N t n) l) (len:=l.length) (lo:=1) (e:=XP N t n ((k+1:Nat):Int)) (fun j=>Hp m l j) (fun n' j j1 hj=>by
   rw [UJ,ZI hj,ZH (by omega)]
   have w:Zi ((j:Int)-1)=((j-1:Nat):Int):=by rw [YD (by omega) (by omega)];omega
   obtain ⟨a,x,ha,hx⟩:=g (j-1) (by omega)
   obtain ⟨b,y,hb,hy⟩:=g j hj
   rw [w,Zw,ha,h.mm]
   simp only [cT,bS,hx,Zw,hb,hy,Sn,Bool.and_true]
   have hadj:Hp m l j↔ZcE x y:=by
    constructor
    ·intro hh;exact hh a b x y ha hb hx hy
    ·intro hh a' b' x' y' ha' hb' hx' hy'
     rw [ha] at ha';rw [hb] at hb'
     cases ha';cases hb'
     rw [hx] at hx';rw [hy] at hy'
     cases hx';cases hy'
     exact hh
   rw [hadj]
   unfold ZcE
   cases c1:(x.Send==y.Send && (x.Peer==y.Peer && x.Label==y.Label)) with
   | true =>
    simp only [Zc,beq_iff_eq] at c1
    exact .inl ⟨rfl,fun hh=>hh.1 ⟨c1.1,c1.2.1,c1.2.2⟩⟩
   | false =>
    cases c2:(x.Send==y.Send) with
    | false=>exact .inl ⟨rfl,fun hh=>by rw [hh.2] at c2;simp at c2⟩
    | true =>
     refine .inr ⟨rfl,fun hh=>?_,by simpa using c2⟩
     rw [hh.1,hh.2.1,hh.2.2] at c1
     simp at c1) (fun n' j hj=>by
   rw [UJ,ZK hj]
   exact hag) _ N 1 (Nat.le_refl _) rfl (by omega)
  rcases inner with ⟨e,j,j1,j2,j3⟩ | ⟨e,hh⟩
  ·exact .inl ⟨e,fun hc=>j3 (hc l rfl j j1 j2)⟩
  ·refine .inr ⟨e,fun l' hl' j j1 j2=>?_⟩
   cases hl'
   exact hh j j1 j2
 ·rw [XP,ZK hk];rfl
def Gq (m:T8) (out:List (List Int)) (k:Nat):Prop:=∀ x,m.Moves[k]? = some x→x.Again=true→x.Send=true∧(∀ l,idx out x.From=some l→l.length=1)∧x.From≠m.Start∧idx m.Finals x.From=some false ∧
 ∀ (j:Nat) y,m.Moves[j]? = some y→y.To=x.From→y.Send=true∧y.Label=x.Label
theorem ZoD (hN:4194304 < N) (h:Tk t m):∃ b,Mu N t=some b∧(b=true↔∀ k,k < m.Moves.length→Gq m t.out' k):=by
 have hS:=h.num.s1
 have hn:=h.num.n
 have hlen:=h.len
 have hm:=h.mm
 subst hm
 have key:=HK (F:=XZ N t) (len:=t.Machine.Moves.length) (lo:=0) (e:=some true) (fun k=>Gq t.Machine t.out' k) (fun n k _ hk=>?_) (fun n k hk=>?_) _ N 0 (Nat.le_refl _) rfl (by omega)
 ·rcases key with ⟨e,j,_,j2,j3⟩ | ⟨e,hh⟩
  ·exact ⟨false,e,by simp only [Bool.false_eq_true,false_iff];intro hh;exact j3 (hh j j2)⟩
  ·exact ⟨true,e,by simp only [true_iff];intro k hk;exact hh k (Nat.zero_le _) hk⟩
 ·have hx:=Za hk
  obtain ⟨⟨f0,f1⟩,_⟩:=h.num.mv _ (List.getElem_mem hk)
  rw [XZ,ZI hk,Zw,hx,ZH (by omega)]
  generalize t.Machine.Moves[k]=x at hx f0 f1
  simp only [cT,bS]
  obtain ⟨l,hl⟩:=YN (L:=t.out') f0 (by omega)
  obtain ⟨b,hb⟩:=YN (L:=t.Machine.Finals) f0 (by have:=h.num.f;omega)
  have hP:Gq t.Machine t.out' k↔(x.Again=true→x.Send=true∧l.length=1∧x.From≠t.Machine.Start∧b=false∧∀ (j:Nat) y,t.Machine.Moves[j]? = some y→y.To=x.From→y.Send=true∧y.Label=x.Label):=by
   unfold Gq
   rw [hx]
   constructor
   ·intro hh ha
    obtain ⟨a1,a2,a3,a4,a5⟩:=hh x rfl ha
    rw [hb] at a4
    exact ⟨a1,a2 l hl,a3,Option.some.inj a4,a5⟩
   ·intro hh x' hx' ha
    cases hx'
    obtain ⟨a1,a2,a3,a4,a5⟩:=hh ha
    exact ⟨a1,fun l' hl'=>by rw [hl] at hl';cases hl';exact a2,a3,by rw [hb,a4],a5⟩
  rw [hP]
  cases ha:x.Again with
  | false=>exact .inr ⟨rfl,fun e=>by cases e⟩
  | true =>
  cases hs:x.Send with
  | false=>exact .inl ⟨rfl,fun e=>by have:=(e (by trivial)).1;cases this⟩
  | true =>
  simp only [Zh,cond_false,hl,hb,bS]
  by_cases c1:l.length=1
  ·have e1:((l.length:Int) != 1)=false:=by simp [c1]
   rw [e1,cond_false]
   by_cases c2:x.From=t.Machine.Start
   ·have e2:(x.From==t.Machine.Start)=true:=by simp [c2]
    rw [e2]
    exact .inl ⟨rfl,fun e=>(e (by trivial)).2.2.1 c2⟩
   ·have e2:(x.From==t.Machine.Start)=false:=by simp [c2]
    rw [e2,cond_false]
    cases b with
    | true=>exact .inl ⟨rfl,fun e=>by have:=(e (by trivial)).2.2.2.1;cases this⟩
    | false =>
    simp only [cond_false]
    have inner:=HK (F:=V7 t (k:Int) (XZ N t n) x) (len:=t.Machine.Moves.length) (lo:=0) (e:=XZ N t n ((k+1:Nat):Int))
     (fun j=>∀ y,t.Machine.Moves[j]? = some y→y.To=x.From→y.Send=true∧y.Label=x.Label) (fun n' j _ hj=>by
     have hy:=Za hj
     rw [V7,ZI hj,Zw,hy,ZH (by omega)]
     generalize t.Machine.Moves[j]=y at hy
     simp only [cT,bS]
     have hQ:(∀ y',some y=some y'→y'.To=x.From→y'.Send=true∧y'.Label=x.Label)↔(y.To=x.From→y.Send=true∧y.Label=x.Label) :=
      ⟨fun hh=>hh y rfl,fun hh y' e=>by cases e;exact hh⟩
     rw [hQ]
     by_cases d1:y.To=x.From
     ·have e1:(y.To==x.From)=true:=by simp [d1]
      rw [e1,cT]
      cases d2:y.Send with
      | false=>exact .inl ⟨rfl,fun hh=>by have:=(hh d1).1;cases this⟩
      | true =>
       by_cases d3:y.Label=x.Label
       ·have e3:(y.Label != x.Label)=false:=by simp [d3]
        rw [e3]
        exact .inr ⟨rfl,fun _=>⟨rfl,d3⟩⟩
       ·have e3:(y.Label != x.Label)=true:=by simp [d3]
        rw [e3]
        exact .inl ⟨rfl,fun hh=>d3 (hh d1).2⟩
     ·have e1:(y.To==x.From)=false:=by simp [d1]
      rw [e1]
      exact .inr ⟨rfl,fun hh=>absurd hh d1⟩) (fun n' j hj=>by
     rw [V7,ZK hj]
     unfold Px
     rw [cond_false,ZH (by omega)]) _ N 0 (Nat.le_refl _) rfl (by omega)
    rcases inner with ⟨e,j,_,j2,j3⟩ | ⟨e,hh⟩
    ·exact .inl ⟨e,fun hc=>j3 ((hc (by trivial)).2.2.2.2 j)⟩
    ·refine .inr ⟨e,fun _=>⟨by trivial,c1,c2,by trivial,fun j y hy=>?_⟩⟩
     exact hh j (Nat.zero_le _) (List.getElem?_eq_some_iff.1 hy).1 y hy
  ·have e1:((l.length:Int) != 1)=true:=by simp;omega
   rw [e1]
   exact .inl ⟨rfl,fun e=>c1 (e (by trivial)).2.1⟩
 ·rw [XZ,ZK hk];rfl
end
section
variable {N:Nat} {m:T8}
theorem ZkY (m:T8) (n s:Nat):(YB m n s).Nodup:=by
  unfold YB
  exact List.Pairwise.map (S:=(·≠·)) (fun k:Nat=>(k:Int)) (fun (a b:Nat) (h:a≠b)=>show (a:Int)≠(b:Int) by omega) (List.Pairwise.filter _ List.nodup_range)
theorem Db (x:T9) (i:Nat) (y:T9) (k:Nat):TI x i y k=true↔((k≠i→x.From=y.From→x.Send=y.Send∧¬ (x.Peer=y.Peer∧x.Label=y.Label)∧x.Again=false)∧(x.Again=true→y.To=x.From→y.Send=true∧y.Label=x.Label)):=by
 unfold TI
 by_cases h1:k=i<;>by_cases h2:x.From=y.From<;>by_cases h4:x.Peer=y.Peer<;>by_cases h5:x.Label=y.Label<;>by_cases h6:y.To=x.From <;>
  cases x.Send<;>cases y.Send<;>cases x.Again<;>simp [h1,h2,h4,h5,h6]<;>(try omega)
theorem Zeq (x:T9):QX m x=true↔(x.Again=true→x.Send=true∧x.From≠m.Start∧idx m.Finals x.From=some false):=by
 unfold QX
 cases x.Again<;>cases x.Send<;>by_cases h:x.From=m.Start<;>cases idx m.Finals x.From with
 | none=>simp [h]
 | some b=>cases b<;>simp [h]
theorem ZjL:QO m=true↔∀ (i:Nat) x,m.Moves[i]? = some x→QX m x=true∧∀ (k:Nat) y,m.Moves[k]? = some y→TI x i y k=true:=by
 unfold QO
 rw [XM]
 constructor
 ·intro h i x hx
  have:=h i x hx
  rw [Nat.zero_add,Zc,XM] at this
  exact ⟨this.1,fun k y hy=>by have:=this.2 k y hy;rwa [Nat.zero_add] at this⟩
 ·intro h i x hx
  obtain ⟨h1,h2⟩:=h i x hx
  rw [Nat.zero_add,Zc,XM]
  exact ⟨h1,fun k y hy=>by rw [Nat.zero_add];exact h2 k y hy⟩
theorem Zjr {x y:T9} (h:ZcE x y) (hn:¬ Xk y x):Xk x y:=by
 obtain ⟨h1,h2⟩:=h
 unfold Xk at *
 revert h1 hn
 rw [h2]
 cases y.Send<;>simp<;>omega
theorem L1 (hN:4194304 < N) (hm:Xo m) (s:Nat) (hs:s < m.States.toNat):∃ l,(XB N m)[s]? = some l∧l.Nodup∧(∀ a,a∈l↔∃ (k:Nat) (x:T9),a=(k:Int)∧m.Moves[k]? = some x∧x.From=(s:Int)) ∧
  ∀ (i j:Nat) (a b:Nat) x y,i < j→l[i]? = some (a:Int)→l[j]? = some (b:Int)→m.Moves[a]? = some x→m.Moves[b]? = some y→¬ Xk y x:=by
 obtain ⟨p1,p2⟩:=BH hN m hm s
 refine ⟨_,ZbV N m s hs,p1.nodup_iff.2 (ZkY m _ s),fun a=>?_,fun i j a b x y hij ha hb hx hy=>?_⟩
 ·rw [p1.mem_iff]
  constructor
  ·intro h
   obtain ⟨k,x,h1,_,h2,h3⟩:=Zcj h
   exact ⟨k,x,h1,h2,h3⟩
  ·rintro ⟨k,x,rfl,h2,h3⟩
   exact Zq1 (List.getElem?_eq_some_iff.1 h2).1 h2 h3
 ·have:=p2 i j a b hij ha hb
  rw [Zs5 hN m hy hx] at this
  exact fun h=>this ((Zf4 y x).2 h)
def GS (m:T8):Prop:=∀ (i k:Nat) x y,i≠k→m.Moves[i]? = some x→m.Moves[k]? = some y→x.From=y.From→x.Send=y.Send∧¬ (x.Peer=y.Peer∧x.Label=y.Label)
theorem Zre (hN:4194304 < N) (hm:Xo m):(∀ (s:Nat) l,(XB N m)[s]? = some l→∀ j,1≤j→j < l.length→Hp m l j)↔GS m:=by
 constructor
 ·intro hD i k x y hne hx hy hxy
  obtain ⟨⟨f0,f1⟩,_⟩:=hm.mv x (Zb hx)
  obtain ⟨s,hs⟩:=Ze f0
  obtain ⟨l,hl,hnd,hmem,hord⟩:=L1 hN hm s (by omega)
  have hadj:=hD s l hl
  have hgo:∀ (d p:Nat) (a b:Nat) x y,l[p]? = some (a:Int)→l[p+d+1]? = some (b:Int)→m.Moves[a]? = some x→m.Moves[b]? = some y→x.Send=y.Send∧Xk x y:=by
   intro d
   induction d with
   | zero =>
    intro p a b x y ha hb hx hy
    have hlt:=(List.getElem?_eq_some_iff.1 hb).1
    have:=hadj (p+1) (by omega) (by omega) a b x y (by simpa using ha) (by simpa using hb) (by rw [Zw];exact hx) (by rw [Zw];exact hy)
    exact ⟨this.2,Zjr this (hord p (p+1) a b x y (by omega) ha (by simpa using hb) hx hy)⟩
   | succ d ih =>
    intro p a b x y ha hb hx hy
    have hlt:=(List.getElem?_eq_some_iff.1 hb).1
    have hc:=Za (show p+d+1 < l.length by omega)
    obtain ⟨c,z,hcz,hz,_⟩:=(hmem _).1 (List.getElem_mem (show p+d+1 < l.length by omega))
    rw [hcz] at hc
    obtain ⟨s1,o1⟩:=ih p a c x z ha hc hx hz
    have hb':l[p+d+1+1]? = some (b:Int):=by rw [show p+d+1+1=p+(d+1)+1 by omega];exact hb
    have:=hadj (p+d+1+1) (by omega) (by omega) c b z y (by simpa using hc) hb' (by rw [Zw];exact hz) (by rw [Zw];exact hy)
    have o2:=Zjr this (hord (p+d+1) (p+d+1+1) c b z y (by omega) hc hb' hz hy)
    exact ⟨s1.trans this.2,Zat o1 o2⟩
  obtain ⟨p,hp⟩:=List.getElem?_of_mem ((hmem (i:Int)).2 ⟨i,x,rfl,hx,hs⟩)
  obtain ⟨q,hq⟩:=List.getElem?_of_mem ((hmem (k:Int)).2 ⟨k,y,rfl,hy,by rw [← hxy];exact hs⟩)
  have fin:∀ {x y:T9},x.Send=y.Send→Xk x y→x.Send=y.Send∧¬ (x.Peer=y.Peer∧x.Label=y.Label):=fun {x y} h1 h2=>by
   refine ⟨h1,fun h3=>?_⟩
   unfold Xk at h2
   rw [h1,h3.1,h3.2] at h2
   revert h2
   cases y.Send<;>simp
  rcases Nat.lt_trichotomy p q with h | h | h
  ·obtain ⟨a1,a2⟩:=hgo (q-p-1) p i k x y hp (by rw [show p+(q-p-1)+1=q by omega];exact hq) hx hy
   exact fin a1 a2
  ·subst h
   rw [hp] at hq
   have:=Option.some.inj hq
   omega
  ·obtain ⟨a1,a2⟩:=hgo (p-q-1) q k i y x hq (by rw [show q+(p-q-1)+1=p by omega];exact hp) hy hx
   obtain ⟨b1,b2⟩:=fin a1 a2
   exact ⟨b1.symm,fun h=>b2 ⟨h.1.symm,h.2.symm⟩⟩
 ·intro hP s l hl j j1 j2 a b x y ha hb hx hy
  have hs:s < m.States.toNat:=by
   have:=(List.getElem?_eq_some_iff.1 hl).1
   rwa [ZcZ] at this
  obtain ⟨l',hl',hnd,hmem,_⟩:=L1 hN hm s hs
  rw [hl] at hl'
  cases hl'
  obtain ⟨i,x',rfl,hx',fx⟩:=(hmem a).1 (Zb ha)
  obtain ⟨k,y',rfl,hy',fy⟩:=(hmem b).1 (Zb hb)
  rw [Zw,hx'] at hx
  rw [Zw,hy'] at hy
  cases hx;cases hy
  have hne:i≠k:=fun e=>by
   subst e
   have h1:j-1 < l.length:=by omega
   have:=(List.getElem_inj hnd (h₀:=h1) (h₁:=j2)).1 (by
    have e1:=(List.getElem?_eq_some_iff.1 ha).2
    have e2:=(List.getElem?_eq_some_iff.1 hb).2
    rw [e1,e2])
   omega
  obtain ⟨h1,h2⟩:=hP i k x y hne hx' hy' (by rw [fx,fy])
  exact ⟨fun h=>h2 h.2,h1⟩
end
section
variable {N:Nat} {m:T8}
theorem Zfj (hN:4194304 < N) (hm:Xo m):(GS m∧∀ k,k < m.Moves.length→Gq m (XB N m) k)↔QO m=true:=by
 rw [ZjL]
 have row:∀ (i:Nat) x,m.Moves[i]? = some x→∃ (s:Nat) (l:List Int),x.From=(s:Int)∧idx (XB N m) x.From=some l∧l.Nodup∧(∀ a,a∈l↔∃ (k:Nat) (y:T9),a=(k:Int)∧m.Moves[k]? = some y∧y.From=(s:Int)):=fun i x hx=>by
  obtain ⟨⟨f0,f1⟩,_⟩:=hm.mv x (Zb hx)
  obtain ⟨s,hs⟩:=Ze f0
  obtain ⟨l,hl,hnd,hmem,_⟩:=L1 hN hm s (by omega)
  exact ⟨s,l,hs,by rw [hs,Zw];exact hl,hnd,hmem⟩
 constructor
 ·rintro ⟨hP,hA⟩ i x hx
  have hi:=(List.getElem?_eq_some_iff.1 hx).1
  refine ⟨Zeq x |>.2 fun ha=>?_,fun k y hy=>(Db x i y k).2 ⟨fun hne hxy=>?_,fun ha ht=>?_⟩⟩
  ·obtain ⟨a1,_,a3,a4,_⟩:=hA i hi x hx ha
   exact ⟨a1,a3,a4⟩
  ·obtain ⟨b1,b2⟩:=hP i k x y (Ne.symm hne) hx hy hxy
   refine ⟨b1,b2,?_⟩
   cases ha:x.Again with
   | false=>rfl
   | true =>
    obtain ⟨s,l,hs,hl,hnd,hmem⟩:=row i x hx
    have h1:=(hA i hi x hx ha).2.1 l hl
    have m1:=(hmem (i:Int)).2 ⟨i,x,rfl,hx,hs⟩
    have m2:=(hmem (k:Int)).2 ⟨k,y,rfl,hy,by rw [← hxy];exact hs⟩
    obtain ⟨c,rfl⟩:=List.length_eq_one_iff.1 h1
    rw [List.mem_singleton] at m1 m2
    have:(i:Int)=(k:Int):=m1.trans m2.symm
    omega
  ·exact (hA i hi x hx ha).2.2.2.2 k y hy ht
 ·intro h
  refine ⟨fun i k x y hne hx hy hxy=>?_,fun i hi x hx ha=>?_⟩
  ·obtain ⟨b1,b2,_⟩:=((Db x i y k).1 ((h i x hx).2 k y hy)).1 (Ne.symm hne) hxy
   exact ⟨b1,b2⟩
  ·obtain ⟨g1,g2⟩:=h i x hx
   obtain ⟨a1,a3,a4⟩:=(Zeq x).1 g1 ha
   refine ⟨a1,fun l' hl'=>?_,a3,a4,fun j y hy ht=>((Db x i y j).1 (g2 j y hy)).2 ha ht⟩
   obtain ⟨s,l,hs,hl,hnd,hmem⟩:=row i x hx
   rw [hl] at hl'
   cases hl'
   have m1:=(hmem (i:Int)).2 ⟨i,x,rfl,hx,hs⟩
   have only:∀ a∈l',a=(i:Int):=fun a haa=>by
    obtain ⟨k,y,rfl,hy,hf⟩:=(hmem a).1 haa
    by_cases e:k=i
    ·rw [e]
    ·have:=(((Db x i y k).1 (g2 k y hy)).1 e (by rw [hs,hf])).2.2
     rw [ha] at this;cases this
   match l',hnd,m1,only with
   | [a],_,_,_=>rfl
   | a::b::r,hnd,_,only =>
    have e1:=only a (List.mem_cons_self ..)
    have e2:=only b (List.mem_cons_of_mem _ (List.mem_cons_self ..))
    subst e1
    rw [e2] at hnd
    simp at hnd
theorem Zik (hN:4194304 < N) (hm:Xo m):∃ b1 b2,LD N ⟨m,XB N m⟩=some b1∧Mu N ⟨m,XB N m⟩=some b2∧(b1 && b2)=QO m:=by
 have h:=Zel hN m hm
 obtain ⟨b1,e1,h1⟩:=ZqQ hN h
 obtain ⟨b2,e2,h2⟩:=ZoD hN h
 refine ⟨b1,b2,e1,e2,?_⟩
 rw [Bool.eq_iff_iff,Zc,h1,h2]
 have:=Zre hN hm
 rw [this]
 exact Zfj hN hm
end
section
variable {N:Nat} {t:Yz} {m:T8}
inductive Rch (m:T8):Int→Prop
 | start:Rch m m.Start
 | step {k:Nat} {x:T9}:m.Moves[k]? = some x→Rch m x.From→Rch m x.To
structure InvB (m:T8) (S:Nat) (a:List Bool) (q:List Int) (h:Nat):Prop where
 r:InvR S a q
 nd:q.Nodup
 mark:∀ c:Nat,c < S→(a[c]? = some true↔(c:Int)∈q)
 rch:∀ i∈q,Rch m i
 st:m.Start∈q
 cl:∀ (i:Nat) v,i < h→q[i]? = some v→∀ (k:Nat) x,m.Moves[k]? = some x→x.From=v→x.To∈q
theorem InvB.add {S:Nat} {a:List Bool} {q:List Int} {h:Nat} (hi:InvB m S a q h) (hh:h≤q.length) {j:Nat} (hj:a[j]? = some false) (hr:Rch m (j:Int)):InvB m S (a.set j true) (q++[(j:Int)]) h:=by
 have hjl:=(List.getElem?_eq_some_iff.1 hj).1
 have hjS:j < S:=by rw [← hi.r.len];exact hjl
 have hnm:(j:Int) ∉ q:=fun hm=>by
  have:=(hi.mark j hjS).2 hm
  rw [hj] at this;cases this
 refine ⟨hi.r.add hj,?_,fun c hc=>?_,fun i hi'=>?_,List.mem_append_left _ hi.st,fun i v h1 h2 k x hx hf=>?_⟩
 ·rw [List.nodup_append]
  refine ⟨hi.nd,by simp,fun a ha b hb=>?_⟩
  rw [List.mem_singleton.1 hb]
  exact fun e=>hnm (e ▸ ha)
 ·rw [List.getElem?_set]
  by_cases e:j=c
  ·subst e
   simp [hjl]
  ·rw [if_neg e,hi.mark c hc,List.mem_append,List.mem_singleton]
   constructor
   ·exact .inl
   ·rintro (h | h)
    ·exact h
    ·omega
 ·rcases List.mem_append.1 hi' with h | h
  ·exact hi.rch i h
  ·rw [List.mem_singleton.1 h];exact hr
 ·rw [List.getElem?_append_left (by omega)] at h2
  exact List.mem_append_left _ (hi.cl i v h1 h2 k x hx hf)
theorem InvB.all {S:Nat} {a:List Bool} {q:List Int} (hi:InvB m S a q q.length):∀ i,Rch m i→i∈q:=by
 intro i h
 induction h with
 | start=>exact hi.st
 | step hx _ ih =>
  obtain ⟨p,hp⟩:=List.getElem?_of_mem ih
  exact hi.cl p _ (List.getElem?_eq_some_iff.1 hp).1 hp _ _ hx rfl
end
section
variable {N:Nat} {t:Yz} {m:T8}
theorem ZnA (hN:4194304 < N) (h:Tk t m) (S:Nat) (hS:m.States=(S:Int)) (Q:Bool→Prop) (k:Nat) (ag:List Bool→List Int→Int→Option Bool) (s:Nat) (hag:∀ a q,InvB m S a q (k+1)→k < q.length→∃ b,ag a q (Zi ((k:Int)+1))=some b∧Q b)
  (l:List Int) (hl:t.out'[s]? = some l) (hcomp:∀ (p:Nat) x,m.Moves[p]? = some x→x.From=(s:Int)→(p:Int)∈l):∀ (d n j:Nat) (a:List Bool) (q:List Int),InvB m S a q k→q[k]? = some (s:Int)→(∀ i,i < j→∀ (p:Nat) x,l[i]? = some (p:Int)→m.Moves[p]? = some x→x.To∈q)→l.length-j=d→d < n →
   ∃ b,VY t (k:Int) ag l n a q (j:Int)=some b∧Q b:=by
 intro d
 obtain ⟨l1,l2⟩:=h.out s l hl
 have hs1:=h.num.s1
 induction d with
 | zero =>
  intro n j a q hi hq hd0 hd hn
  obtain ⟨n,rfl⟩:=pS n (by omega)
  rw [VY,ZK (by omega)]
  refine hag a q ⟨hi.r,hi.nd,hi.mark,hi.rch,hi.st,fun i v h1 h2 p x hx hf=>?_⟩ (List.getElem?_eq_some_iff.1 hq).1
  by_cases e:i=k
  ·subst e
   rw [hq] at h2
   cases h2
   obtain ⟨i',hi'⟩:=List.getElem?_of_mem (hcomp p x hx hf)
   have:=(List.getElem?_eq_some_iff.1 hi').1
   exact hd0 i' (by omega) p x hi' hx
  ·exact hi.cl i v (by omega) h2 p x hx hf
 | succ d ih =>
  intro n j a q hi hq hd0 hd hn
  obtain ⟨n,rfl⟩:=pS n (by omega)
  have hj:j < l.length:=by omega
  have hlj:=Za hj
  obtain ⟨p,x,e1,e2,e3⟩:=l2 l[j] (List.getElem_mem hj)
  obtain ⟨_,⟨t0,t1⟩,_⟩:=h.num.mv x (Zb e2)
  obtain ⟨c,hc⟩:=Ze t0
  have hcS:c < S:=by omega
  have hcl:c < a.length:=by rw [hi.r.len];omega
  have hkq:=(List.getElem?_eq_some_iff.1 hq).1
  rw [VY,ZI hj,Zw,hlj,ZH (by omega)]
  simp only [cT,bS]
  rw [e1,Zw,h.mm,e2]
  simp only [bS]
  rw [hc,Zw,Za hcl]
  simp only [bS]
  have next:∀ q':List Int,(∀ v∈q,v∈q')→(c:Int)∈q'→∀ i,i < j+1→∀ (p:Nat) x,l[i]? = some (p:Int)→m.Moves[p]? = some x→x.To∈q':=fun q' hsub hcm i hi' p' x' hp' hx'=>by
   by_cases e:i=j
   ·subst e
    rw [hlj,e1] at hp'
    have:(p:Int)=(p':Int):=Option.some.inj hp'
    have:p=p':=by omega
    subst this
    rw [e2] at hx'
    cases hx'
    rw [hc];exact hcm
   ·exact hsub _ (hd0 i (by omega) p' x' hp' hx')
  cases hb:a[c] with
  | true =>
   have hcm:(c:Int)∈q:=(hi.mark c hcS).1 (by rw [Za hcl,hb])
   exact ih n (j+1) a q hi hq (next q (fun _ h=>h) hcm) (by omega) (by omega)
  | false =>
   have hcc:=hi.r.c
   simp only [Bool.not_false,cT]
   rw [YC (by simp;omega),U8]
   simp only [bS]
   have hr:Rch m (c:Int):=by
    rw [← hc]
    exact .step e2 (by rw [e3];exact hi.rch _ (Zb hq))
   exact ih n (j+1) _ _ (hi.add (Nat.le_of_lt hkq) (by rw [Za hcl,hb]) hr) (by rw [List.getElem?_append_left hkq];exact hq)
    (next _ (fun _ h=>List.mem_append_left _ h) (List.mem_append_right _ (List.mem_singleton.2 rfl))) (by omega) (by omega)
end
section
variable {N:Nat} {t:Yz} {m:T8}
theorem MZ:∀ (l q:List Int),l.Nodup→(∀ a∈l,a∈q)→l.length≤q.length
 | [],_,_,_=>Nat.zero_le _
 | a::l,q,hn,hs=>by
  have h1:=List.nodup_cons.1 hn
  have ha:=hs a (List.mem_cons_self ..)
  have:=MZ l (q.erase a) h1.2 fun b hb=>by
   have hne:b≠a:=fun e=>h1.1 (e ▸ hb)
   exact (List.mem_erase_of_ne hne).2 (hs b (List.mem_cons_of_mem _ hb))
  rw [List.length_erase_of_mem ha] at this
  have:0 < q.length:=List.length_pos_of_mem ha
  simp;omega
theorem Zs7 {S:Nat} {a:List Bool} {q:List Int} (hi:InvB m S a q q.length) (hS:m.States=(S:Int)):(((q.length:Int)==m.States)=true↔∀ c:Nat,c < S→Rch m (c:Int)):=by
  rw [beq_iff_eq,hS]
  constructor
  · intro h c hc
    have h0:=hi.r.c
    have hz:a.count false=0:=by omega
    have hcl:c < a.length:=by rw [hi.r.len];exact hc
    have:a[c]? = some true:=by
      rw [Za hcl]
      cases hb:a[c] with
      | true=>rfl
      | false =>
        have:=List.count_eq_zero.1 hz
        exact absurd (hb ▸ List.getElem_mem hcl) this
    exact hi.rch _ ((hi.mark c hc).1 this)
  · intro h
    have h1:=MZ ((List.range S).map fun k:Nat=>(k:Int)) q (List.Pairwise.map (S:=(·≠·)) (fun k:Nat=>(k:Int)) (fun (a b:Nat) (h:a≠b)=>show (a:Int)≠(b:Int) by omega) List.nodup_range) (fun b hb=>by
      obtain ⟨c,hc,rfl⟩:=List.mem_map.1 hb
      exact hi.all _ (h c (List.mem_range.1 hc)))
    have h2:=hi.r.c
    simp at h1
    omega
theorem Zp0 (hN:4194304 < N) (hm:Xo m) (S:Nat) (hS:m.States=(S:Int)):∀ (d n k:Nat) (a:List Bool) (q:List Int),InvB m S a q k→k≤q.length→S-k=d→d < n →
  ∃ b,Wq N ⟨m,XB N m⟩ n a q (k:Int)=some b∧(b=true↔∀ c:Nat,c < S→Rch m (c:Int)):=by
 intro d
 have h:=Zel hN m hm
 have hs1:=hm.s1
 have step:∀ (n k:Nat) (a:List Bool) (q:List Int),InvB m S a q k→k≤q.length→(k < q.length→∀ a q,InvB m S a q (k+1)→k < q.length→∃ b,Wq N ⟨m,XB N m⟩ n a q (Zi ((k:Int)+1))=some b∧(b=true↔∀ c:Nat,c < S→Rch m (c:Int))) →
   ∃ b,Wq N ⟨m,XB N m⟩ (n+1) a q (k:Int)=some b∧(b=true↔∀ c:Nat,c < S→Rch m (c:Int)):=fun n k a q hi hkq hnx=>by
  rw [Wq]
  by_cases hk:k < q.length
  ·have hqk:=Za hk
   rw [ZI hk,Zw,hqk]
   simp only [cT,bS]
   obtain ⟨q0,q1⟩:=hi.r.qq _ (List.getElem_mem hk)
   obtain ⟨c,hc⟩:=Ze q0
   obtain ⟨l,hl,_,hmem,_⟩:=L1 hN hm c (by omega)
   rw [hc,Zw,hl]
   simp only [bS]
   have hle:=(h.out c l hl).1
   exact ZnA hN h S hS _ k _ c (hnx hk) l hl (fun p x hx hf=>(hmem _).2 ⟨p,x,rfl,hx,hf⟩) _ N 0 a q hi (by rw [hqk,hc]) (fun i hi=>by omega) rfl (by omega)
  ·rw [ZK (Nat.not_lt.1 hk)]
   have e:k=q.length:=by omega
   subst e
   exact ⟨_,rfl,Zs7 hi hS⟩
 induction d with
 | zero =>
  intro n k a q hi hkq hd hn
  obtain ⟨n,rfl⟩:=pS n (by omega)
  exact step n k a q hi hkq fun hk=>by have:=hi.r.c;omega
 | succ d ih =>
  intro n k a q hi hkq hd hn
  obtain ⟨n,rfl⟩:=pS n (by omega)
  refine step n k a q hi hkq fun hk a q hi hk'=>?_
  rw [ZH (by omega)]
  exact ih n (k+1) a q hi hk' (by omega) (by omega)
theorem Zjt (hN:4194304 < N) (hm:Xo m):∃ b,QU N ⟨m,XB N m⟩=some b∧(b=true↔∀ c:Int,0≤c→c < m.States→Rch m c):=by
 have h0:=hm.s0
 have h1:=hm.s1
 have b0:=hm.b0
 have b1:=hm.b1
 obtain ⟨S,hS⟩:=Ze (show 0≤m.States by omega)
 obtain ⟨c,hc⟩:=Ze b0
 unfold QU
 have e:YG false m.States m.States=some (List.replicate S false):=by
  unfold YG
  rw [dT (by omega:0≤m.States),dT (by omega:m.States≤m.States),dT (by omega:m.States≤4294967296),hS];rfl
 have hcl:c < S:=by omega
 have hg:(List.replicate S false)[c]? = some false:=by rw [List.getElem?_replicate,if_pos hcl]
 show ∃ b,((YG false m.States m.States).bind fun x1=>(idx x1 m.Start).bind fun x2=>Wq N ⟨m,XB N m⟩ N (ZW x1 m.Start true) [m.Start] 0)=some b∧_
 rw [e]
 simp only [bS]
 rw [hc,Zw,hg,U8]
 simp only [bS]
 have h2:=List.count_set (a:=true) (b:=false) (l:=List.replicate S false) (i:=c) (by simpa using hcl)
 have hI:InvB m S ((List.replicate S false).set c true) [(c:Int)] 0:=by
  refine ⟨⟨by simp,fun i hi=>by rw [List.mem_singleton.1 hi];omega,?_⟩,by simp,fun k hk=>?_,fun i hi=>by rw [List.mem_singleton.1 hi,← hc];exact .start,by rw [hc];exact List.mem_singleton.2 rfl,fun i v h=>by omega⟩
  ·simp at h2
   simp
   omega
  ·rw [List.getElem?_set,List.mem_singleton]
   by_cases e:c=k
   ·subst e;simp [hcl]
   ·rw [if_neg e,List.getElem?_replicate,if_pos hk]
    constructor
    ·intro h;cases h
    ·intro h;omega
 obtain ⟨b,eb,hb⟩:=Zp0 hN hm S hS S N 0 _ _ hI (Nat.zero_le _) rfl (by omega)
 refine ⟨b,eb,hb.trans ⟨fun h k k0 k1=>?_,fun h k hk=>h k (by omega) (by omega)⟩⟩
 obtain ⟨j,rfl⟩:=Ze k0
 exact h j (by omega)
end
section
variable {N:Nat}
theorem ZqA (hN:4194304 < N) (l:List Int) (hl:l.length≤4194304) (v:Int):∃ b,DX N l v=some b∧(b=true↔v∈l):=by
  have key:=HK (F:=fun n k=>(Uf l v n k).map (!·)) (len:=l.length) (lo:=0) (e:=some true) (fun k=>l[k]? ≠ some v) (fun n k _ hk=>?_) (fun n k hk=>?_) _ N 0 (Nat.le_refl _) rfl (by omega)
  · unfold DX
    rcases key with ⟨e,j,_,j2,j3⟩ | ⟨e,hh⟩
    · obtain ⟨b,eb,hb⟩:=Option.map_eq_some_iff.1 e
      refine ⟨b,eb,?_⟩
      have:b=true:=by cases b<;>simp at hb ⊢
      rw [this]
      simp only [true_iff]
      exact Zb (Classical.not_not.1 j3)
    · obtain ⟨b,eb,hb⟩:=Option.map_eq_some_iff.1 e
      refine ⟨b,eb,?_⟩
      have:b=false:=by cases b<;>simp at hb ⊢
      rw [this]
      simp only [Bool.false_eq_true,false_iff]
      intro hm
      obtain ⟨i,hi⟩:=List.getElem?_of_mem hm
      exact hh i (Nat.zero_le _) (List.getElem?_eq_some_iff.1 hi).1 hi
  · have hx:=Za hk
    show ((Uf l v (n+1) (k:Int)).map (!·)=_∧_)∨((Uf l v (n+1) (k:Int)).map (!·)=(Uf l v n ((k+1:Nat):Int)).map (!·)∧_)
    rw [Uf,ZI hk,Zw,hx,ZH (by omega)]
    simp only [cT,bS]
    by_cases h:l[k]=v
    · have e:(l[k]==v)=true:=by simp [h]
      rw [e]
      exact .inl ⟨rfl,fun hc=>hc (by rw [h])⟩
    · have e:(l[k]==v)=false:=by simp [h]
      rw [e]
      exact .inr ⟨rfl,fun hc=>h (Option.some.inj hc)⟩
  · show (Uf l v (n+1) (k:Int)).map (!·)=_
    rw [Uf,ZK hk];rfl
end
section
variable {N:Nat}
def WL (v:Int):Bool→List Int→List Int
 | true,l=>l
 | false,[]=>[v]
 | false,x::r=>bif decide (x≥v) then (bif decide (x > v) then v::x::r else x::r) else x::WL v false r
theorem ZaA (v:Int) (l:List Int):WL v true l=l:=by cases l<;>rfl
theorem ZsT (l:List Int) (hl:l.length≤4194304) (v:Int):∀ (r:List Int) (n k:Nat) (acc:List Int) (p:Bool),l.drop k=r→r.length < n→acc.length+r.length+(bif p then 0 else 1)≤4194306 →
    UZ l v n acc p (k:Int)=some (acc++WL v p r):=by
  intro r
  induction r with
  | nil =>
    intro n k acc p hr hn hb
    obtain ⟨n,rfl⟩:=pS n (by simp at hn;omega)
    rw [UZ,ZK (List.drop_eq_nil_iff.1 hr)]
    unfold Hk
    cases p with
    | true=>simp [WL]
    | false =>
      simp only [cond_false,Bool.not_false,cT]
      rw [YC (xs:=acc) (ys:=[v]) (by simp at hb ⊢;omega)]
      rfl
  | cons x r ih =>
    intro n k acc p hr hn hb
    obtain ⟨n,rfl⟩:=pS n (by simp at hn;omega)
    have hk:k < l.length:=by
      refine Nat.not_le.1 fun h=>?_
      rw [List.drop_eq_nil_iff.2 h] at hr;cases hr
    have hx:l[k]? = some x:=by
      have:=congrArg (·[0]?) hr
      simpa using this
    have hr':l.drop (k+1)=r:=by have:=congrArg (List.drop 1) hr;simpa [List.drop_drop,Nat.add_comm] using this
    simp only [Zg] at hn hb
    have hb0:acc.length+r.length≤4194306:=by omega
    rw [UZ,ZI hk,Zw,hx,ZH (by omega)]
    simp only [cT,bS]
    cases p with
    | true =>
      rw [YC (xs:=acc) (ys:=[x]) (by simp;omega)]
      simp only [Zh,cond_false,bS]
      rw [ih n (k+1) (acc++[x]) true hr' (by omega) (by simp at hb ⊢;omega),ZaA,ZaA]
      simp
    | false =>
      simp only [Bool.not_false,cT]
      cases h1:decide (x≥v) with
      | false =>
        rw [YC (xs:=acc) (ys:=[x]) (by simp;omega)]
        simp only [cond_false,bS]
        rw [ih n (k+1) (acc++[x]) false hr' (by omega) (by simp at hb ⊢;omega)]
        show _=some (acc++(bif decide (x≥v) then _ else x::WL v false r))
        rw [h1];simp
      | true =>
        cases h2:decide (x > v) with
        | true =>
          simp only [cT]
          rw [YC (xs:=acc) (ys:=[v]) (by simp;omega)]
          simp only [bS]
          rw [YC (xs:=acc++[v]) (ys:=[x]) (by simp;omega)]
          simp only [bS]
          rw [ih n (k+1) (acc++[v]++[x]) true hr' (by omega) (by simp at hb ⊢;omega),ZaA]
          show _=some (acc++(bif decide (x≥v) then (bif decide (x > v) then v::x::r else x::r) else _))
          rw [h1,h2];simp
        | false =>
          simp only [cT,cond_false]
          rw [YC (xs:=acc) (ys:=[x]) (by simp;omega)]
          simp only [bS]
          rw [ih n (k+1) (acc++[x]) true hr' (by omega) (by simp at hb ⊢;omega),ZaA]
          show _=some (acc++(bif decide (x≥v) then (bif decide (x > v) then v::x::r else x::r) else _))
          rw [h1,h2];simp
theorem Zp8 (hN:4194304 < N) (l:List Int) (hl:l.length≤4194000) (v:Int):L3 N l v=some (WL v false l):=by
 have:=ZsT l (by omega) v l N 0 [] false rfl (by omega) (by simp;omega)
 unfold L3
 rw [show ((0:Nat):Int)=0 from rfl] at this
 rw [this];rfl
theorem QL (v a:Int):∀ l:List Int,a∈WL v false l↔a=v∨a∈l
 | []=>by simp [WL]
 | x::r=>by
  show a∈(bif decide (x≥v) then (bif decide (x > v) then v::x::r else x::r) else x::WL v false r)↔_
  by_cases h1:x≥v
  ·rw [dT h1]
   by_cases h2:x > v
   ·rw [dT h2];simp
   ·rw [dF h2]
    have:x=v:=by omega
    subst this;simp
  ·rw [dF h1]
   show a∈x::WL v false r↔_
   rw [List.mem_cons,QL v a r,List.mem_cons]
   constructor
   ·rintro (h | h | h)
    ·exact .inr (.inl h)
    ·exact .inl h
    ·exact .inr (.inr h)
   ·rintro (h | h | h)
    ·exact .inr (.inl h)
    ·exact .inl h
    ·exact .inr (.inr h)
theorem Ze9 (v:Int):∀ l:List Int,l.Pairwise (· < ·)→(WL v false l).Pairwise (· < ·)
  | [],_=>by simp [WL]
  | x::r,h=>by
    obtain ⟨h1,h2⟩:=List.pairwise_cons.1 h
    show ((bif decide (x≥v) then (bif decide (x > v) then v::x::r else x::r) else x::WL v false r)).Pairwise (· < ·)
    by_cases c1:x≥v
    · rw [dT c1]
      by_cases c2:x > v
      · rw [dT c2]
        refine List.pairwise_cons.2 ⟨fun a ha=>?_,h⟩
        rcases List.mem_cons.1 ha with e | e
        · omega
        · have:=h1 a e;omega
      · rw [dF c2];exact h
    · rw [dF c1]
      refine List.pairwise_cons.2 ⟨fun a ha=>?_,Ze9 v r h2⟩
      rcases (QL v a r).1 ha with e | e
      · omega
      · exact h1 a e
end
section
variable {N:Nat} {m:T8}
theorem Rch.lim (hm:Xo m) {i:Int} (h:Rch m i):0≤i∧i < m.States:=by
 cases h with
 | start=>exact ⟨hm.b0,hm.b1⟩
 | step hx _=>exact (hm.mv _ (Zb hx)).2.1
theorem Zdy {l:List Int} (h:l.Pairwise (· < ·)):l.Nodup:=List.Pairwise.imp (fun {a b} (h:a < b)=>show a≠b by omega) h
def VB (q:List Int) (x:T9):List Int:=if x.From∈q then WL x.To false q else q
def VM (l:List T9) (q:List Int):List Int:=l.foldl VB q
structure UpR (m:T8) (q:List Int):Prop where
  up:q.Pairwise (· < ·)
  rch:∀ i∈q,Rch m i
  st:m.Start∈q
theorem UpR.len (hm:Xo m) {S:Nat} (hS:m.States=(S:Int)) {q:List Int} (h:UpR m q):q.length≤S:=by
 have:=MZ q ((List.range S).map fun k:Nat=>(k:Int)) (Zdy h.up) (fun a ha=>by
  obtain ⟨a0,a1⟩:=(h.rch a ha).lim hm
  obtain ⟨c,rfl⟩:=Ze a0
  exact List.mem_map.2 ⟨c,List.mem_range.2 (by omega),rfl⟩)
 simpa using this
theorem UpR.add {q:List Int} (h:UpR m q) {x:T9} (hx:x∈m.Moves):UpR m (VB q x):=by
 unfold VB
 by_cases hf:x.From∈q
 ·rw [if_pos hf]
  refine ⟨Ze9 _ _ h.up,fun i hi=>?_,(QL _ _ _).2 (.inr h.st)⟩
  rcases (QL _ _ _).1 hi with e | e
  ·obtain ⟨k,hk⟩:=List.getElem?_of_mem hx
   rw [e];exact .step hk (h.rch _ hf)
  ·exact h.rch i e
 ·rw [if_neg hf];exact h
theorem Zd6 {q:List Int} {x:T9} {a:Int} (h:a∈q):a∈VB q x:=by
 unfold VB
 split
 ·exact (QL _ _ _).2 (.inr h)
 ·exact h
theorem ZdV:∀ (l:List T9) {q:List Int} {a:Int},a∈q→a∈VM l q
 | [],_,_,h=>h
 | x::l,_,_,h=>ZdV l (Zd6 h)
theorem UpR.rnd:∀ (l:List T9),(∀ x∈l,x∈m.Moves)→∀ {q:List Int},UpR m q→UpR m (VM l q)
 | [],_,_,h=>h
 | x::l,hl,_,h=>UpR.rnd l (fun y hy=>hl y (List.mem_cons_of_mem _ hy)) (h.add (hl x (List.mem_cons_self ..)))
theorem Zgy:∀ (l:List T9) {q:List Int} {x:T9},x∈l→x.From∈q→x.To∈VM l q
 | y::l,q,x,hx,hf=>by
  rcases List.mem_cons.1 hx with e | e
  ·subst e
   refine ZdV l ?_
   unfold VB
   rw [if_pos hf]
   exact (QL _ _ _).2 (.inl rfl)
  ·exact Zgy l e (Zd6 hf)
def ClR (m:T8) (q:List Int):Prop:=∀ x∈m.Moves,x.From∈q→x.To∈q
theorem Zo2 (hm:Xo m) {q:List Int} (h:UpR m q):ClR m q∨q.length+1≤(VM m.Moves q).length:=by
 by_cases hl:(VM m.Moves q).length≤q.length
 ·refine .inl fun x hx hf=>?_
  have h1:=Zgy m.Moves hx hf
  refine Classical.byContradiction fun hn=>?_
  have:=MZ (x.To::q) (VM m.Moves q) (List.nodup_cons.2 ⟨hn,Zdy h.up⟩) (fun a ha=>by
   rcases List.mem_cons.1 ha with e | e
   ·rw [e];exact h1
   ·exact ZdV _ e)
  simp at this;omega
 ·exact .inr (by omega)
theorem Zox {q:List Int} (hc:ClR m q) {x:T9} (hx:x∈m.Moves):∀ a,a∈VB q x→a∈q:=fun a ha=>by
 unfold VB at ha
 by_cases hf:x.From∈q
 ·rw [if_pos hf] at ha
  rcases (QL _ _ _).1 ha with e | e
  ·rw [e];exact hc x hx hf
  ·exact e
 ·rw [if_neg hf] at ha;exact ha
theorem ClR.same {q r:List Int} (hc:ClR m q) (h1:∀ a,a∈q→a∈r) (h2:∀ a,a∈r→a∈q):ClR m r:=fun x hx hf=>h1 _ (hc x hx (h2 _ hf))
theorem ClR.rnd:∀ (l:List T9),(∀ x∈l,x∈m.Moves)→∀ {q:List Int},ClR m q→ClR m (VM l q)
 | [],_,_,h=>h
 | x::l,hl,q,h=>ClR.rnd l (fun y hy=>hl y (List.mem_cons_of_mem _ hy)) (h.same (fun _ ha=>Zd6 ha) (Zox h (hl x (List.mem_cons_self ..))))
def VA (m:T8):Nat→List Int→List Int
 | 0,q=>q
 | n+1,q=>VA m n (VM m.Moves q)
theorem Zf9 (hm:Xo m):∀ (n:Nat) (q:List Int),UpR m q→UpR m (VA m n q)∧(ClR m (VA m n q)∨q.length+n≤(VA m n q).length)∧(ClR m q→ClR m (VA m n q))
 | 0,q,h=>⟨h,.inr (Nat.le_refl _),id⟩
 | n+1,q,h=>by
  have hr:=UpR.rnd m.Moves (fun _ h=>h) h
  obtain ⟨a,b,c⟩:=Zf9 hm n (VM m.Moves q) hr
  refine ⟨a,?_,fun hc=>c (hc.rnd m.Moves (fun _ h=>h))⟩
  rcases Zo2 hm h with e | e
  ·exact .inl (c (e.rnd m.Moves (fun _ h=>h)))
  ·rcases b with b | b
   ·exact .inl b
   ·refine .inr ?_
    show q.length+(n+1)≤(VA m n (VM m.Moves q)).length
    omega
theorem ZoF (hm:Xo m) {S:Nat} (hS:m.States=(S:Int)):(((VA m S [m.Start]).length:Int)==m.States)=true↔∀ c:Int,0≤c→c < m.States→Rch m c:=by
  have h0:UpR m [m.Start]:=⟨by simp,fun i hi=>by rw [List.mem_singleton.1 hi];exact .start,by simp⟩
  obtain ⟨a,b,_⟩:=Zf9 hm S [m.Start] h0
  have hl:=a.len hm hS
  have hc:ClR m (VA m S [m.Start]):=by
    rcases b with b | b
    · exact b
    · simp at b;omega
  have all:∀ i,Rch m i→i∈VA m S [m.Start]:=fun i h=>by
    induction h with
    | start=>exact a.st
    | step hx _ ih=>exact hc _ (Zb hx) ih
  rw [beq_iff_eq,hS]
  constructor
  · intro h c c0 c1
    refine Classical.byContradiction fun hn=>?_
    have hnm:c ∉ VA m S [m.Start]:=fun hm'=>hn (a.rch c hm')
    have:=MZ (c::VA m S [m.Start]) ((List.range S).map fun k:Nat=>(k:Int)) (List.nodup_cons.2 ⟨hnm,Zdy a.up⟩) (fun b hb=>by
      have:0≤b∧b < (S:Int):=by
        rcases List.mem_cons.1 hb with e | e
        · omega
        · have:=(a.rch b e).lim hm;omega
      obtain ⟨k,rfl⟩:=Ze this.1
      exact List.mem_map.2 ⟨k,List.mem_range.2 (by omega),rfl⟩)
    simp at this;omega
  · intro h
    have h1:=MZ ((List.range S).map fun k:Nat=>(k:Int)) (VA m S [m.Start]) (List.Pairwise.map (S:=(·≠·)) (fun k:Nat=>(k:Int)) (fun (a b:Nat) (h:a≠b)=>show (a:Int)≠(b:Int) by omega) List.nodup_range) (fun b hb=>by
      obtain ⟨c,hc',rfl⟩:=List.mem_map.1 hb
      exact all _ (h c (by omega) (by have:=List.mem_range.1 hc';omega)))
    simp at h1
    omega
theorem ZkJ (hN:4194304 < N) (hm:Xo m) {S:Nat} (hS:m.States=(S:Int)) (i:Int) (ag:List Int→Int→Option (List Int)):∀ (r:List T9) (n k:Nat) (q:List Int),m.Moves.drop k=r→r.length < n→UpR m q →
  Sg N m i ag n q (k:Int)=ag (VM r q) (Zi (i+1)):=by
 intro r
 induction r with
 | nil =>
  intro n k q hr hn hq
  obtain ⟨n,rfl⟩:=pS n (by simp at hn;omega)
  rw [Sg,ZK (List.drop_eq_nil_iff.1 hr)];rfl
 | cons x r ih =>
  intro n k q hr hn hq
  obtain ⟨n,rfl⟩:=pS n (by simp at hn;omega)
  obtain ⟨hk,hx,hr'⟩:=YU hr
  have hnm:=hm.n
  have hs1:=hm.s1
  have hl:=hq.len hm hS
  obtain ⟨b,eb,hb⟩:=ZqA hN q (by omega) x.From
  have hxm:=Zb hx
  rw [Sg,ZI hk,Zw,hx,ZH (by omega)]
  simp only [cT,bS]
  rw [eb]
  simp only [Zg] at hn
  show _=ag (VM r (VB q x)) _
  cases b with
  | true =>
   have e:VB q x=WL x.To false q:=by unfold VB;rw [if_pos (hb.1 rfl)]
   simp only [bS,cT]
   rw [Zp8 hN q (by omega) x.To,e]
   exact ih n (k+1) (WL x.To false q) hr' (by omega) (e ▸ hq.add hxm)
  | false =>
   have e:VB q x=q:=by unfold VB;rw [if_neg (fun h=>by have:=hb.2 h;cases this)]
   rw [e]
   exact ih n (k+1) q hr' (by omega) hq
theorem Zpc (hN:4194304 < N) (hm:Xo m) {S:Nat} (hS:m.States=(S:Int)):∀ (d n j:Nat) (q:List Int),S-j=d→d < n→UpR m q→Vp N m n q (j:Int)=some (VA m (S-j) q):=by
 intro d
 have hs1:=hm.s1
 have hnm:=hm.n
 induction d with
 | zero =>
  intro n j q hd hn hq
  obtain ⟨n,rfl⟩:=pS n (by omega)
  have e:decide ((j:Int) < m.States)=false:=by simp;omega
  rw [Vp,e,hd];rfl
 | succ d ih =>
  intro n j q hd hn hq
  obtain ⟨n,rfl⟩:=pS n (by omega)
  have e:decide ((j:Int) < m.States)=true:=by simp;omega
  rw [Vp,e,cT,hd]
  have:=ZkJ hN hm hS (j:Int) (Vp N m n) m.Moves N 0 q rfl (by omega) hq
  rw [show ((0:Nat):Int)=0 from rfl] at this
  rw [this,ZH (by omega),ih n (j+1) (VM m.Moves q) (by omega) (by omega) (UpR.rnd m.Moves (fun _ h=>h) hq)]
  rw [show S-(j+1)=d by omega];rfl
theorem Zpo (hN:4194304 < N) (hm:Xo m):∃ q,Bu N m=some q∧(((q.length:Int)==m.States)=true↔∀ c:Int,0≤c→c < m.States→Rch m c):=by
 have h0:=hm.s0
 have h1:=hm.s1
 obtain ⟨S,hS⟩:=Ze (show 0≤m.States by omega)
 have hu:UpR m [m.Start]:=⟨by simp,fun i hi=>by rw [List.mem_singleton.1 hi];exact .start,by simp⟩
 have:=Zpc hN hm hS S N 0 [m.Start] rfl (by omega) hu
 exact ⟨_,this,ZoF hm hS⟩
end
section
variable {N:Nat} {m:T8}
structure Rr (m:T8):Prop where
 n:Xo m
 ap:QO m=true
 tm:ZO (V2 m) m.Timeouts 0=true
 rc:∀ c:Int,0≤c→c < m.States→Rch m c
theorem Zhz (hN:4194304 < N) (m:T8) (ht:m.Timeouts.length≤4194304):∃ b,Tm N m=some b∧TO N m=some b∧(b=true→Rr m):=by
 unfold Tm Tt TO
 rw [Zc3 hN,Zrg hN]
 simp only [bS]
 cases hm:S2 m with
 | false=>exact ⟨false,rfl,rfl,fun h=>by cases h⟩
 | true =>
  have hm:=(ZdZ m).1 hm
  rw [ZdF hN m hm]
  obtain ⟨b1,b2,e1,e2,e3⟩:=Zik hN hm
  obtain ⟨b3,e4,h4⟩:=Zjt hN hm
  obtain ⟨q,e5,h5⟩:=Zpo hN hm
  have e6:=ZhI (t:=⟨m,XB N m⟩) hN rfl ht
  rw [Zll hN hm,Zpw hN m ht,e5]
  have hq:((q.length:Int)==m.States)=b3:=by
   rw [Bool.eq_iff_iff];exact h5.trans h4.symm
  simp only [Zh,cond_false,bS,e1,e2,e4,e6]
  rw [hq,← e3]
  have fin:(b1 && b2)=true→b3=true→ZO (V2 m) m.Timeouts 0=true→Rr m:=fun x y z=>⟨hm,by rw [← e3];exact x,z,h4.1 y⟩
  revert fin
  generalize ZO (V2 m) m.Timeouts 0=b4
  intro fin
  cases b1<;>cases b2<;>cases b3<;>cases b4<;>first | exact ⟨_,rfl,rfl,fun _=>fin rfl rfl rfl⟩ | exact ⟨_,rfl,rfl,fun h=>by cases h⟩
end
section
variable {N:Nat}
theorem ZcI {a b:ByteArray} (h:a.toList=b.toList):a=b:=by
 rw [X1,X1] at h
 unfold bs at h
 cases a;cases b
 rename_i x y
 have:x=y:=Array.ext' h
 rw [this]
theorem Zsd (a b:ByteArray):∃ z,z233 N a b=some z∧(z=0↔a=b):=by
 unfold z233 Lu
 have e:∀ x:ByteArray,(!(x.toList==x.toList))=false:=fun x=>by simp
 simp only [bS,e,cond_false]
 cases h1:Op.bytesLess a.toList b.toList with
 | true=>exact ⟨_,rfl,(fun h=>absurd h (by decide)),fun h=>by subst h;rw [show Op.bytesLess a.toList a.toList=false from Zg9 a] at h1;cases h1⟩
 | false =>
  cases h2:(a.toList==b.toList) with
  | true=>exact ⟨_,rfl,fun _=>ZcI (eq_of_beq h2),fun _=>rfl⟩
  | false=>exact ⟨_,rfl,(fun h=>absurd h (by decide)),fun h=>by subst h;simp at h2⟩
theorem Zrq (hN:4194304 < N) (a b c d:Int):∃ z,Tn N [a,b,c,d]=some z∧(z=0↔a=0∧b=0∧c=0∧d=0):=by
 obtain ⟨n,rfl⟩:∃ n,N=n+5:=⟨N-5,by omega⟩
 unfold Tn
 rw [Ws,Ws,Ws,Ws,Ws]
 have w0:Zi ((0:Int)+1)=1:=by decide
 have w1:Zi ((1:Int)+1)=2:=by decide
 have w2:Zi ((2:Int)+1)=3:=by decide
 have w3:Zi ((3:Int)+1)=4:=by decide
 rw [w0,w1,w2,w3]
 have i0:idx [a,b,c,d] 0=some a:=rfl
 have i1:idx [a,b,c,d] 1=some b:=rfl
 have i2:idx [a,b,c,d] 2=some c:=rfl
 have i3:idx [a,b,c,d] 3=some d:=rfl
 rw [i0,i1,i2,i3]
 have l0:decide ((0:Int) < (([a,b,c,d]:List Int).length:Int))=true:=rfl
 have l1:decide ((1:Int) < (([a,b,c,d]:List Int).length:Int))=true:=rfl
 have l2:decide ((2:Int) < (([a,b,c,d]:List Int).length:Int))=true:=rfl
 have l3:decide ((3:Int) < (([a,b,c,d]:List Int).length:Int))=true:=rfl
 have l4:decide ((4:Int) < (([a,b,c,d]:List Int).length:Int))=false:=rfl
 rw [l0,l1,l2,l3,l4]
 simp only [cT,cond_false,bS]
 have nz:∀ x:Int,(x != 0)=true→x≠0:=fun x h=>by simpa using h
 have zz:∀ x:Int,(x != 0)=false→x=0:=fun x h=>by simpa using h
 cases h0:(a != 0)
 ·cases h1:(b != 0)
  ·cases h2:(c != 0)
   ·cases h3:(d != 0)
    ·exact ⟨0,rfl,fun _=>⟨zz _ h0,zz _ h1,zz _ h2,zz _ h3⟩,fun _=>rfl⟩
    ·exact ⟨d,rfl,fun h=>absurd h (nz _ h3),fun h=>h.2.2.2⟩
   ·exact ⟨c,rfl,fun h=>absurd h (nz _ h2),fun h=>h.2.2.1⟩
  ·exact ⟨b,rfl,fun h=>absurd h (nz _ h1),fun h=>h.2.1⟩
 ·exact ⟨a,rfl,fun h=>absurd h (nz _ h0),fun h=>h.1⟩
theorem ZdO (x y:Int):cI x y=0↔x=y:=by
 rcases PR x y with ⟨h,e⟩ | ⟨h,e⟩ | ⟨h,e⟩<;>rw [e]<;>omega
theorem ZeU {a b:Zm} (h1:a.Kind=b.Kind) (h2:a.N=b.N) (h3:a.S=b.S):a=b:=by
 cases a;cases b;simp_all
theorem Zbi (hN:4194304 < N) (a b:Zm):∃ z,W4 N a b=some z∧(z=true↔a=b):=by
 unfold W4 z173
 obtain ⟨s,es,hs⟩:=Zsd (N:=N) a.S b.S
 rw [Rk,Rk,Rk,es]
 simp only [bS]
 obtain ⟨z,ez,hz⟩:=Zrq hN (cI a.Kind b.Kind) (cI a.N b.N) (cI (a.S.size:Int) (b.S.size:Int)) s
 rw [ez]
 refine ⟨_,rfl,?_⟩
 rw [beq_iff_eq,hz,ZdO,ZdO,ZdO,hs]
 exact ⟨fun h=>ZeU h.1 h.2.1 h.2.2.2,fun h=>by subst h;exact ⟨rfl,rfl,rfl,rfl⟩⟩
theorem Zi7 {A:Type} {a b:List A} (h:a.length=b.length):(∀ (i:Nat) x y,a[i]? = some x→b[i]? = some y→x=y)↔a=b:=by
 constructor
 ·intro hh
  refine List.ext_getElem? fun i=>?_
  by_cases hi:i < a.length
  ·have e1:=Za hi
   have e2:=Za (show i < b.length by omega)
   rw [e1,e2,hh i _ _ e1 e2]
  ·rw [List.getElem?_eq_none (by omega),List.getElem?_eq_none (by omega)]
 ·intro e i x y hx hy
  subst e
  rw [hx] at hy;cases hy;rfl
theorem Zsu (hN:4194304 < N) (a b:List Zm) (hl:a.length≤4194304):∃ z,RI N a b=some z∧(z=true↔a=b):=by
 unfold RI GZ
 rw [Uq]
 by_cases h:a.length=b.length
 ·rw [dT h]
  let p:Zm→Zm→Bool:=fun x y=>(W4 N x y).getD false
  obtain ⟨z,ez,hz⟩:=MR p (xs:=a) (ys:=b) (F:=UY N a b) (n:=N) h (by omega) (fun n k x y hk hx hy=>by
   rw [UY,ZI hk,Zw,hx,Zw,hy,ZH (by omega)]
   obtain ⟨q,eq,_⟩:=Zbi hN x y
   have e:p x y=q:=by show (W4 N x y).getD false=q;rw [eq];rfl
   simp only [cT,bS,eq,e]
   cases q<;>rfl) (fun n k hk=>by
   rw [UY,ZK hk];rfl)
  simp only [Zh,cond_false,ez,bS]
  refine ⟨z,rfl,hz.trans (Iff.trans ⟨fun hh i x y hx hy=>?_,fun hh i x y hx hy=>?_⟩ (Zi7 h))⟩
  ·obtain ⟨q,eq,hq⟩:=Zbi hN x y
   have:=hh i x y hx hy
   have e:p x y=q:=by show (W4 N x y).getD false=q;rw [eq];rfl
   rw [e] at this
   exact hq.1 this
  ·obtain ⟨q,eq,hq⟩:=Zbi hN x y
   show (W4 N x y).getD false=true
   rw [eq,hq.2 (hh i x y hx hy)];rfl
 ·rw [dF h]
  exact ⟨false,rfl,by simp;exact fun e=>h (congrArg List.length e)⟩
theorem ZmT (hN:4194304 < N) (a b:List Zm) (hl:a.length≤4194304):∃ z,z25 N a b=some z∧(z=true↔a=b):=by
 unfold z25
 rw [Uq]
 by_cases h:a.length=b.length
 ·rw [dT h]
  let p:Zm→Zm→Bool:=fun x y=>(x.Kind==y.Kind) && ((x.N==y.N) && ((x.S.toList==y.S.toList) && true))
  have hp:∀ x y,p x y=true↔x=y:=fun x y=>by
   show ((x.Kind==y.Kind) && ((x.N==y.N) && ((x.S.toList==y.S.toList) && true)))=true↔_
   simp only [Zc,beq_iff_eq,and_true]
   exact ⟨fun h=>ZeU h.1 h.2.1 (ZcI h.2.2),fun h=>by subst h;exact ⟨rfl,rfl,rfl⟩⟩
  obtain ⟨z,ez,hz⟩:=MR p (xs:=a) (ys:=b) (F:=RR a b) (n:=N) h (by omega) (fun n k x y hk hx hy=>by
   rw [RR,ZI hk,Zw,hx,Zw,hy,ZH (by omega)]
   simp only [cT,bS]
   show (bif !(p x y) then _ else _)=_
   cases p x y<;>rfl) (fun n k hk=>by
   rw [RR,ZK hk];rfl)
  simp only [Zh,cond_false,ez]
  exact ⟨z,rfl,hz.trans (Iff.trans ⟨fun hh i x y hx hy=>(hp x y).1 (hh i x y hx hy),fun hh i x y hx hy=>(hp x y).2 (hh i x y hx hy)⟩ (Zi7 h))⟩
 ·rw [dF h]
  exact ⟨false,rfl,by simp;exact fun e=>h (congrArg List.length e)⟩
theorem Znk (hN:4194304 < N) (a b:List Zm) (hl:a.length≤4194304):∃ z,RI N a b=some z∧z25 N a b=some z∧(z=true↔a=b):=by
 obtain ⟨z,e1,h1⟩:=Zsu hN a b hl
 obtain ⟨y,e2,h2⟩:=ZmT hN a b hl
 have:z=y:=by rw [Bool.eq_iff_iff];exact h1.trans h2.symm
 subst this
 exact ⟨z,e1,e2,h1⟩
end
section
variable {N:Nat}
theorem ZoU (hN:4194304 < N) (s:ByteArray) (hs:s.size≤4194304):GA N s=some (!(bs s).any Yx):=by
 have key:=Yy (fun (b:UInt8) _ => !Yx b) (xs:=bs s) (F:=Sa s) (e:=some true) (n:=N) (by rw [Yd] at hs;omega) (by
  intro n k b hk hb
  rw [Sa,Yd,ZI hk,SF,hb,ZH (by rw [Yd] at hs;omega)]
  simp only [cT,Option.map_some,bS]
  have e1:decide (((b.toNat:Nat):Int) < 32)=decide (b.toNat < 32):=by by_cases h:b.toNat < 32<;>simp [h]<;>omega
  have e2:decide (((b.toNat:Nat):Int) > 126)=decide (126 < b.toNat):=by by_cases h:126 < b.toNat<;>simp [h]<;>omega
  rw [e1,e2]
  unfold Yx
  cases decide (b.toNat < 32)<;>cases decide (126 < b.toNat)<;>rfl) (by
  intro n k hk
  rw [Sa,Yd,ZK hk];rfl)
 unfold GA
 have e0:Sa s N 0=_:=key
 rw [e0]
 have:ZO (fun (b:UInt8) _ => !Yx b) (bs s) 0 = !(bs s).any Yx:=Zaj Yx (bs s) 0
 rw [this]
 cases (bs s).any Yx<;>rfl
theorem tri (a b c:Bool):(bif a then (bif b then some c else some false) else some false)=some (a && (b && c)):=by cases a<;>cases b<;>rfl
theorem Znt (s:Yb):Hw N s=some (Rj s):=by
 unfold Hw Rj
 rw [tri,tri]
 cases (s.Kind==1)<;>cases (s.Kind==2)<;>rfl
theorem Zfo (hN:4194304 < N) (v:Zm) (hv:v.S.size≤4194304):P7 N v=some (WZ v):=by
 unfold P7 WZ
 rw [ZoU hN _ hv]
 simp only [bS]
 rw [tri,tri]
 cases (v.Kind==1)<;>cases (v.Kind==2)<;>rfl
theorem Zjb (v:Zm):RN N v=some (Wo v):=by
 unfold RN Wo
 cases (v.Kind==1)<;>cases (v.Kind==2)<;>rfl
theorem ZdR (hN:4194304 < N) (s:Yb) (v:Zm) (hv:v.S.size≤4194304):PP N s v=some (YW s v):=by
 unfold PP YW
 rw [Znt,Zfo hN v hv,Zjb]
 simp only [bS]
 cases Rj s<;>cases WZ v<;>cases (s.Kind==v.Kind)<;>cases decide (Wo v≥s.Lo)<;>rfl
theorem ZmX (hN:4194304 < N) (fs:List T4) (vs:List Zm) (hl:vs.length≤4194304) (hv:∀ v∈vs,v.S.size≤4194304):∃ b,MN N fs vs=some b∧G4 N fs vs=some b∧(b=true↔Ww fs vs):=by
 obtain ⟨b,e,hb⟩:=Zha hN fs vs hl hv
 refine ⟨b,e,?_,hb⟩
 unfold G4
 rw [Uq]
 by_cases h:fs.length=vs.length
 ·rw [dT h]
  obtain ⟨q,eq,hq⟩:=MR (fun (f:T4) (v:Zm)=>YW f.Sort' v) (xs:=fs) (ys:=vs) (F:=Rb N fs vs) (n:=N) h (by omega) (fun n k f v hk hf hv'=>by
   rw [Rb,ZI hk,Zw,hf,Zw,hv',ZH (by omega)]
   simp only [cT,bS,ZdR hN _ _ (hv v (Zb hv'))]
   cases YW f.Sort' v<;>rfl) (fun n k hk=>by
   rw [Rb,ZK hk];rfl)
  simp only [Zh,cond_false]
  rw [eq]
  have:q=b:=by
   rw [Bool.eq_iff_iff,hb,hq]
   exact ⟨fun g=>⟨h,g⟩,fun g=>g.2⟩
  rw [this]
 ·rw [dF h]
  have:b=false:=by
   cases b with
   | false=>rfl
   | true=>exact absurd (hb.1 rfl).1 h
  rw [this];rfl
theorem Zct {s:Yb} (hs:XK s) (v:Zm):YW s v=Vd s v:=by
 unfold YW Rj WZ Wo Vd Y4
 rcases hs with ⟨k,h1,h2,h3⟩ | ⟨k,h1,h2,h3⟩
 ·rw [k]
  rw [dT h1,dT h2,dT h3]
  by_cases c:v.Kind=1
  ·have e1:(v.Kind==1)=true:=by simp [c]
   have e2:(v.Kind==2)=false:=by simp [c]
   have e3:((1:Int)==v.Kind)=true:=by simp [c]
   rw [e1,e2,e3]
   simp only [cT,cond_false,Bool.true_and,beq_self_eq_true]
   by_cases q1:s.Lo≤v.N
   ·by_cases q2:v.N≤s.Hi
    ·rw [dT (show v.N≥-1000 by omega),dT (show v.N≤1000 by omega),dT (show v.N≥s.Lo from q1),dT q2]
     cases (v.S.toList==(str []).toList)<;>rfl
    ·rw [dF q2];simp
   ·rw [dF q1];simp
  ·have e1:(v.Kind==1)=false:=by simp [c]
   have e3:((1:Int)==v.Kind)=false:=by rw [beq_eq_false_iff_ne];exact fun e=>c e.symm
   rw [e1,e3];simp
 ·rw [k]
  have k1:((2:Int)==1)=false:=rfl
  rw [k1,dT h1,dT h2,dT h3]
  by_cases c:v.Kind=2
  ·have e1:(v.Kind==1)=false:=by simp [c]
   have e2:(v.Kind==2)=true:=by simp [c]
   have e3:((2:Int)==v.Kind)=true:=by simp [c]
   rw [e1,e2,e3]
   simp only [cT,cond_false,Bool.true_and,beq_self_eq_true]
   by_cases q2:(v.S.size:Int)≤s.Hi
   ·rw [dT (show (v.S.size:Int)≤40 by omega),dT q2]
    have:decide ((v.S.size:Int)≥s.Lo)=decide (s.Lo≤(v.S.size:Int)):=rfl
    rw [this]
    cases (v.N==0)<;>cases (bs v.S).any Yx<;>cases decide (s.Lo≤(v.S.size:Int))<;>rfl
   ·rw [dF q2];simp
  ·have e1:(v.Kind==2)=false:=by simp [c]
   have e3:((2:Int)==v.Kind)=false:=by rw [beq_eq_false_iff_ne];exact fun e=>c e.symm
   rw [e1,e3];simp
theorem Gh {d:List T0} (hv:Yi d=true) {x:T0} (hx:x∈d) {f:T4} (hf:f∈x.Fields):XK f.Sort':=by
 obtain ⟨i,hi⟩:=List.mem_iff_getElem?.1 hx
 obtain ⟨first,_,_,_,_,h⟩:=Tf hv hi
 unfold XJ at h
 simp only [Zc] at h
 have h:=h.2.2.2.2.1
 rw [XM] at h
 obtain ⟨k,hk⟩:=List.mem_iff_getElem?.1 hf
 have:=h k f hk
 unfold UW at this
 simp only [Zc,decide_eq_true_eq] at this
 exact this.2.1
theorem Zhm {d:List T0} (hv:Yi d=true) {f:T4} (hf:f∈Zx d):XK f.Sort':=by
 unfold Zx at hf
 obtain ⟨l,hl,hfl⟩:=List.mem_flatten.1 hf
 obtain ⟨x,hx,rfl⟩:=List.mem_map.1 hl
 exact Gh hv hx hfl
theorem Zfb {d:List T0} (hv:Yi d=true) (ks:List Zm):V8 (Zx d) ks=true↔Uc (Zx d) ks:=by
 unfold V8 Uc
 rw [Zc,decide_eq_true_eq,XM]
 constructor
 ·rintro ⟨h1,h2⟩
  refine ⟨h1,fun i f v hf hv'=>?_⟩
  have:=h2 i v hv'
  rw [Nat.zero_add] at this
  unfold XH at this
  rw [hf] at this
  rw [Zct (Zhm hv (Zb hf))];exact this
 ·rintro ⟨h1,h2⟩
  refine ⟨h1,fun i v hv'=>?_⟩
  have hi:=(List.getElem?_eq_some_iff.1 hv').1
  have hf:=Za (show i < (Zx d).length by omega)
  rw [Nat.zero_add]
  unfold XH
  rw [hf]
  have:=h2 i _ v hf hv'
  rw [Zct (Zhm hv (Zb hf))] at this
  exact this
theorem ZkA {d:List T0} (hv:Yi d=true) {x:T0} (hx:x∈d) (vs:List Zm):Vn x.Fields vs=true↔Ww x.Fields vs:=by
 unfold Vn Ww
 rw [Zc,decide_eq_true_eq,XM]
 constructor
 ·rintro ⟨h1,h2⟩
  refine ⟨h1,fun i f v hf hv'=>?_⟩
  have:=h2 i v hv'
  rw [Nat.zero_add] at this
  unfold XH at this
  rw [hf] at this
  rw [Zct (Gh hv hx (Zb hf))];exact this
 ·rintro ⟨h1,h2⟩
  refine ⟨h1,fun i v hv'=>?_⟩
  have hi:=(List.getElem?_eq_some_iff.1 hv').1
  have hf:=Za (show i < x.Fields.length by omega)
  rw [Nat.zero_add]
  unfold XH
  rw [hf]
  have:=h2 i _ v hf hv'
  rw [Zct (Gh hv hx (Zb hf))] at this
  exact this
end
section
variable {N:Nat}
theorem ZlR (hN:4194304 < N) (d:List T0) (hl:d.length≤1000) (hd:∀ x∈d,Xt x) (hn:∀ x∈d,W6 x) (label:Int):P5 N d label=some (Yi d && decide (0≤label∧label < (d.length:Int))):=by
 unfold P5
 rw [Zb2 hN d (by omega) hd hn]
 simp only [bS]
 cases Yi d with
 | false=>rfl
 | true =>
  by_cases c1:label≥0
  ·rw [dT c1]
   by_cases c2:label < (d.length:Int)
   ·rw [dT c2,dT (show 0≤label∧label < (d.length:Int) from ⟨c1,c2⟩)];rfl
   ·rw [dF c2,dF (show ¬ (0≤label∧label < (d.length:Int)) from fun h=>c2 h.2)];rfl
  ·rw [dF c1,dF (show ¬ (0≤label∧label < (d.length:Int)) from fun h=>c1 h.1)];rfl
theorem Zkf (hN:4194304 < N) (d:List T0) (hl:d.length≤1000) (hd:∀ x∈d,Xt x) (hn:∀ x∈d,W6 x) (label:Int) (vs ks:List Zm) (hv:vs.length≤4194304) (hk:ks.length≤4194304) (hs:ZeE vs ks) :
  MP N d label vs ks=some (Wt d label vs ks)∧TP N d label vs ks=HI N d label vs ks:=by
 have hpp:Vt d label ks=((Yi d && decide (0≤label∧label < (d.length:Int))) && V8 (Zx d) ks):=by
  unfold Vt
  cases Yi d<;>cases decide (0≤label∧label < (d.length:Int))<;>rfl
 unfold HI MP
 rw [ZlR hN d hl hd hn]
 rcases Zeh hN d hl hd hn label vs ks hv hk hs with ⟨hp,h⟩ | ⟨hp,i,x,first,hlab,hi,hf,hdv,hrest⟩
 ·rw [h]
  have hcv:Wt d label vs ks=false:=by unfold Wt;rw [hp];rfl
  rw [hcv]
  rw [hp] at hpp
  cases he:(Yi d && decide (0≤label∧label < (d.length:Int))) with
  | false=>exact ⟨rfl,rfl⟩
  | true =>
   rw [he] at hpp
   have hval:Yi d=true:=by rw [Zc] at he;exact he.1
   simp only [bS,Zh,cond_false]
   rw [Zes hN d hl hd hval ks hk hs.k]
   have:V8 (Zx d) ks=false:=by simpa using hpp.symm
   rw [this]
   exact ⟨rfl,rfl⟩
 ·rw [hp] at hpp
  have hpp:=hpp.symm
  rw [Zc] at hpp
  obtain ⟨he,hkn⟩:=hpp
  have hval:Yi d=true:=by rw [Zc] at he;exact he.1
  have hidx:idx d label=some x:=by rw [hlab,Zw];exact hi
  have hxm:x∈d:=Zb hi
  rw [he]
  simp only [bS,Zh,cond_false]
  rw [Zes hN d hl hd hval ks hk hs.k,hkn,hidx]
  simp only [bS,Zh,cond_false]
  rw [ZsH hN x (hd x hxm) (fun f hf=>ZiK hval hxm hf) vs hv hs.v]
  have hef:x.First.toNat=first:=by omega
  rcases hrest with ⟨hfit,h⟩ | ⟨hfit,hle,h⟩
  ·rw [h,hfit]
   have hcv:Wt d label vs ks=false:=by unfold Wt;rw [hp,hidx];simp only [hfit];rfl
   rw [hcv]
   exact ⟨rfl,rfl⟩
  ·rw [h,hfit]
   have hcv:Wt d label vs ks=R5 x.Guard (Yq first vs ks):=by unfold Wt;rw [hp,hidx];simp only [hfit,hef];rfl
   rw [hcv]
   simp only [bS,Zh,cond_false]
   rw [Zpi hN x vs ks first hf hle hk]
   simp only [bS]
   have hbl:=DS first vs ks hle
   have hkl:=ZjW hkn
   rw [ZoP hN x.Guard _ (by rw [hbl,← hkl];exact Gy (L2 hdv))]
   exact ⟨rfl,trivial⟩
structure Gf (g:T5) (m:T8):Prop where
 a:Ld g m
 mv:Rr m
 gv:Zf3 g
 r:m.Role < (g.Roles.length:Int)
 p:∀ x∈m.Moves,x.Peer < (g.Roles.length:Int)
theorem Qf (hN:4194304 < N) (g:T5) (hg:XI g) (hs:XV g) (hn:Xi g) (m:T8) (ht:m.Timeouts.length≤4194304):∃ b,Vb N g m=some b∧z51 N g m=some b∧(b=true→Gf g m):=by
 obtain ⟨b0,e0,h0⟩:=LA hN g hg hs m ht
 have e0':=e0
 unfold Vb at e0
 unfold z51
 obtain ⟨b1,e1,f1,h1⟩:=Zeb hN g hg hs hn
 obtain ⟨b2,e2,f2,h2⟩:=Zhz hN m ht
 rw [e1,e2] at e0
 rw [f1,f2]
 simp only [bS] at e0 ⊢
 refine ⟨b0,e0',?_⟩
 cases b1 with
 | false=>cases e0;exact ⟨rfl,fun h=>by cases h⟩
 | true =>
 cases b2 with
 | false=>cases e0;exact ⟨rfl,fun h=>by cases h⟩
 | true =>
 have hm:=h2 rfl
 have hnm:=hm.n.n
 simp only [cT,Zh,cond_false] at e0 ⊢
 by_cases c:m.Role < (g.Roles.length:Int)
 ·rw [dT c] at e0
  rw [dF (show ¬ m.Role≥(g.Roles.length:Int) by omega)]
  simp only [cT,cond_false] at e0 ⊢
  unfold HE Hr at e0
  have ep:∀ y,Pj N y g=some (decide (y.Peer≥(g.Roles.length:Int)) || decide (y.Label≥(g.Decls.length:Int))):=fun y=>by
   unfold Pj
   cases decide (y.Peer≥(g.Roles.length:Int))<;>rfl
  obtain ⟨z,ez,hz⟩:=ZdE (fun (y:T9)=>decide (y.Peer≥(g.Roles.length:Int)) || decide (y.Label≥(g.Decls.length:Int))) (xs:=m.Moves) (F:=UI N m.Moves g) (fun n k x hk hx=>by
   rw [UI,ZI hk,Zw,hx,ZH (by omega)]
   simp only [cT,bS,ep]) (fun n k hk=>by
   rw [UI,ZK hk];rfl) _ N 0 rfl (by omega)
  rw [show ((0:Nat):Int)=0 from rfl] at ez
  rw [ez] at e0
  simp only [bS] at e0
  have key:=Yy (fun (y:T9) _ => !(decide (y.Peer≥(g.Roles.length:Int)) || decide (y.Label≥(g.Decls.length:Int)))) (xs:=m.Moves) (F:=SM g m) (e:=some true) (n:=N) (by omega) (fun n k x hk hx=>by
   rw [SM,ZI hk,Zw,hx,ZH (by omega)]
   simp only [cT,bS]
   cases decide (x.Peer≥(g.Roles.length:Int))<;>cases decide (x.Label≥(g.Decls.length:Int))<;>rfl) (fun n k hk=>by
   rw [SM,ZK hk];rfl)
  have k0:SM g m N 0=_:=key
  rw [k0]
  rcases hz with ⟨rfl,hz⟩ | ⟨i,y,rfl,hy,hp⟩
  ·cases e0
   have ha:ZO (fun (y:T9) _ => !(decide (y.Peer≥(g.Roles.length:Int)) || decide (y.Label≥(g.Decls.length:Int)))) m.Moves 0=true:=by
    rw [XM]
    intro i x hx
    rw [hz i x (Nat.zero_le _) hx];rfl
   rw [ha]
   refine ⟨rfl,fun _=>⟨h0 rfl,hm,h1.1 rfl,c,fun x hx=>?_⟩⟩
   obtain ⟨i,hi⟩:=List.getElem?_of_mem hx
   have:=hz i x (Nat.zero_le _) hi
   simp only [Bool.or_eq_false_iff,decide_eq_false_iff_not] at this
   omega
  ·have eb:b0=false:=by
    have:=Option.some.inj e0
    rw [← this];simp
   subst eb
   have ha:ZO (fun (y:T9) _ => !(decide (y.Peer≥(g.Roles.length:Int)) || decide (y.Label≥(g.Decls.length:Int)))) m.Moves 0=false:=by
    cases hb:ZO (fun (y:T9) _ => !(decide (y.Peer≥(g.Roles.length:Int)) || decide (y.Label≥(g.Decls.length:Int)))) m.Moves 0 with
    | false=>rfl
    | true =>
     rw [XM] at hb
     have:=hb i y hy
     rw [hp] at this;cases this
   rw [ha]
   exact ⟨rfl,fun h=>by cases h⟩
 ·rw [dF c] at e0
  rw [dT (show m.Role≥(g.Roles.length:Int) by omega)]
  cases e0
  exact ⟨rfl,fun h=>by cases h⟩
structure StK (g:T5) (m:T8) (s:ZJ):Prop where
 a0:0≤s.At
 a1:s.At < m.States
 k:Uc (Zx g.Decls) s.Known
theorem Zl6 (hN:4194304 < N) (g:T5) (hg:XI g) (hs:XV g) (hn:Xi g) (m:T8) (ht:m.Timeouts.length≤4194304) (s:ZJ) (hk:s.Known.length≤4194304) (hv:∀ v∈s.Known,v.S.size≤4194304) :
  ∃ b,z46 N g m s=some b∧UB N g m s=some b∧(b=true↔Vb N g m=some true∧StK g m s):=by
 unfold z46 UB
 obtain ⟨b,e,f,h⟩:=Qf hN g hg hs hn m ht
 rw [e,f]
 simp only [bS]
 cases b with
 | false=>exact ⟨false,rfl,rfl,(fun h=>by cases h),(fun h=>by cases h.1)⟩
 | true =>
 have hA:=h rfl
 have hval:=hA.a.v
 obtain ⟨l1,l2⟩:=Th hval
 rw [Zdk hN g hval,Zes hN g.Decls (by omega) hg.dd hval s.Known hk hv]
 obtain ⟨q,eq,hq⟩:=ZjP hN (Zx g.Decls) s.Known hk hv
 have hqk:V8 (Zx g.Decls) s.Known=q:=by rw [Bool.eq_iff_iff,hq,Zfb hval]
 simp only [cT,bS,eq,hqk]
 by_cases c1:s.At≥0
 ·rw [dT c1]
  by_cases c2:s.At < m.States
  ·rw [dT c2]
   exact ⟨q,rfl,rfl,fun h=>⟨trivial,c1,c2,hq.1 h⟩,fun h=>hq.2 h.2.k⟩
  ·rw [dF c2]
   exact ⟨false,rfl,rfl,(fun h=>by cases h),fun h=>absurd h.2.a1 c2⟩
 ·rw [dF c1]
  exact ⟨false,rfl,rfl,(fun h=>by cases h),fun h=>absurd h.2.a0 c1⟩
theorem Zky (hN:4194304 < N) (g:T5) (hg:XI g) (hv:Yi g.Decls=true):Ho N g.Decls=some (List.replicate (Zx g.Decls).length ⟨0,0,str []⟩):=by
 obtain ⟨l1,l2⟩:=Th hv
 unfold Ho
 rw [LI hN g.Decls (by omega) hg.dd]
 simp only [bS]
 have e:YG (⟨0,0,str []⟩:Zm) ((Zx g.Decls).length:Int) ((Zx g.Decls).length:Int)=some (List.replicate (Zx g.Decls).length ⟨0,0,str []⟩):=by
  unfold YG
  rw [dT (by omega:(0:Int)≤((Zx g.Decls).length:Int)),dT (Int.le_refl _),dT (by omega:((Zx g.Decls).length:Int)≤4294967296)];rfl
 rw [e];rfl
end
section
variable {N:Nat}
def Wj (y:T9) (at':Int) (x:T3):Bool:=y.From==at' && (y.Send==x.Send && (y.Peer==x.Peer && y.Label==x.Label))
def WT:ZJ:=⟨0,[],[]⟩
inductive StepR (g:T5) (m:T8) (s:ZJ) (x:T3):ZJ × Int→Prop
 | role:x.Role≠m.Role→StepR g m s x (WT,12)
 | move:x.Role=m.Role→(∀ (i:Nat) y,m.Moves[i]? = some y→Wj y s.At x=false)→StepR g m s x (WT,23)
 | type {i:Nat} {y d}:x.Role=m.Role→m.Moves[i]? = some y→Wj y s.At x=true→idx g.Decls x.Label=some d→¬ Ww d.Fields x.Values→StepR g m s x (WT,11)
 | guard {i:Nat} {y d}:x.Role=m.Role→m.Moves[i]? = some y→Wj y s.At x=true→idx g.Decls x.Label=some d→Ww d.Fields x.Values→(Wt g.Decls x.Label x.Values s.Known=false∨(Wt g.Decls x.Label x.Values s.Known=true∧y.Again=true∧x.Values≠s.Pending))→StepR g m s x (WT,17)
 | ok {i:Nat} {y d} {first:Nat}:x.Role=m.Role→m.Moves[i]? = some y→Wj y s.At x=true→idx g.Decls x.Label=some d→Ww d.Fields x.Values→Wt g.Decls x.Label x.Values s.Known=true→(y.Again=true→x.Values=s.Pending) →
   d.First=(first:Int)→first+x.Values.length≤s.Known.length→TP N g.Decls x.Label x.Values s.Known=some (Yq first x.Values s.Known,0)→StepR g m s x (⟨y.To,Yq first x.Values s.Known,bif x.Send then x.Values else []⟩,0)
def ZgA (N:Nat) (g_:T5) (m_:T8) (s_:ZJ) (x_:T3):Option (ZJ × Int) :=
 (Sw N m_ s_.At x_).bind fun x2 =>
 bif (x_.Role != m_.Role) then (some (WT,(12:Int)))
 else bif (decide (x2 < (0:Int))) then (some (WT,(23:Int)))
 else (idx g_.Decls x_.Label).bind fun x3 =>
 (Hj N x3 x_.Values).bind fun x4 =>
 bif (!x4) then (some (WT,(11:Int)))
 else (MP N g_.Decls x_.Label x_.Values s_.Known).bind fun x5 =>
 bif (!x5) then (U2 N g_ m_ s_ x_ x2 true)
 else (idx m_.Moves x2).bind fun x11 =>
 bif x11.Again then ((z25 N x_.Values s_.Pending).bind fun x12 =>
 U2 N g_ m_ s_ x_ x2 (!x12))
 else U2 N g_ m_ s_ x_ x2 false
theorem Zr7 {A:Type} (p:A→Bool) {xs:List A} {F G:Nat→Int→Option Int} (h1:∀ n k x,k < xs.length→xs[k]? = some x→F (n+1) (k:Int)=bif p x then some (k:Int) else F n ((k+1:Nat):Int))
  (h2:∀ n k,xs.length≤k→F (n+1) (k:Int)=some (-1)) (g1:∀ n k x,k < xs.length→xs[k]? = some x→G (n+1) (k:Int)=bif p x then some (k:Int) else G n ((k+1:Nat):Int))
  (g2:∀ n k,xs.length≤k→G (n+1) (k:Int)=some (-1)):∀ (d n k:Nat),xs.length-k=d→d < n→∃ z,F n (k:Int)=some z∧G n (k:Int)=some z∧((z=-1∧∀ (i:Nat) x,k≤i→xs[i]? = some x→p x=false)∨∃ (i:Nat) (x:A),z=(i:Int)∧xs[i]? = some x∧p x=true):=by
 intro d
 induction d with
 | zero =>
  intro n k hd hn
  obtain ⟨n,rfl⟩:=pS n (by omega)
  exact ⟨-1,h2 n k (by omega),g2 n k (by omega),.inl ⟨rfl,fun i x hi hx=>by have:=(List.getElem?_eq_some_iff.1 hx).1;omega⟩⟩
 | succ d ih =>
  intro n k hd hn
  obtain ⟨n,rfl⟩:=pS n (by omega)
  have hk:k < xs.length:=by omega
  have hx:=Za hk
  rw [h1 n k _ hk hx,g1 n k _ hk hx]
  cases hp:p xs[k] with
  | true=>exact ⟨_,rfl,rfl,.inr ⟨k,_,rfl,hx,hp⟩⟩
  | false =>
   obtain ⟨z,e,f,h⟩:=ih n (k+1) (by omega) (by omega)
   refine ⟨z,e,f,h.imp (fun ⟨a,b⟩=>⟨a,fun i x hi hx'=>?_⟩) id⟩
   by_cases e:i=k
   ·subst e;rw [hx] at hx';cases hx';exact hp
   ·exact b i x (by omega) hx'
theorem Zei (hN:4194304 < N) (m:T8) (hn:m.Moves.length≤4194304) (s:ZJ) (x:T3):∃ z,P8 N m.Moves s x=some z∧Sw N m s.At x=some z ∧
  ((z=-1∧∀ (i:Nat) y,m.Moves[i]? = some y→Wj y s.At x=false)∨∃ (i:Nat) (y:T9),z=(i:Int)∧m.Moves[i]? = some y∧Wj y s.At x=true):=by
 unfold P8 Sw
 have ep:∀ y,PF N y s x=some (Wj y s.At x):=fun y=>by
  unfold PF Wj
  cases (y.From==s.At)<;>cases (y.Send==x.Send)<;>cases (y.Peer==x.Peer)<;>rfl
 obtain ⟨z,ez,fz,hz⟩:=Zr7 (fun (y:T9)=>Wj y s.At x) (xs:=m.Moves) (F:=UR N m.Moves s x) (G:=UT m s.At x) (fun n k y hk hy=>by
  rw [UR,ZI hk,Zw,hy,ZH (by omega)]
  simp only [cT,bS,ep]) (fun n k hk=>by
  rw [UR,ZK hk];rfl) (fun n k y hk hy=>by
  rw [UT,ZI hk,Zw,hy,ZH (by omega)]
  simp only [cT,bS]
  unfold Wj
  cases (y.From==s.At)<;>cases (y.Send==x.Send)<;>cases (y.Peer==x.Peer)<;>cases (y.Label==x.Label)<;>rfl) (fun n k hk=>by
  rw [UT,ZK hk];rfl) _ N 0 rfl (by omega)
 rw [show ((0:Nat):Int)=0 from rfl] at ez fz
 exact ⟨z,ez,fz,hz.imp (fun ⟨a,b⟩=>⟨a,fun i y hy=>b i y (Nat.zero_le _) hy⟩) id⟩
theorem Zmg (hN:4194304 < N) (g:T5) (hg:XI g) (hs:XV g) (m:T8) (hA:Ld g m) (s:ZJ) (hS:StK g m s) (x:T3) (hx:XO x) :
  ∃ r,TB N g m s x=some r∧ZgA N g m s x=some r∧StepR (N:=N) g m s x r:=by
 obtain ⟨v1,v2⟩:=Th hA.v
 have hn:=hA.n.n
 have hkl:s.Known.length≤4194304:=by rw [← hS.k.1];omega
 have hks:=Hb hS.k
 unfold TB ZgA
 obtain ⟨z,ez,fz,hz⟩:=Zei hN m (by omega) s x
 rw [ez,fz]
 simp only [bS]
 by_cases hr:x.Role=m.Role
 ·have er:(x.Role != m.Role)=false:=by simp [hr]
  rw [er]
  rcases hz with ⟨rfl,hz⟩ | ⟨k,y,rfl,hy,hp⟩
  ·exact ⟨_,rfl,rfl,.move hr hz⟩
  have h0:decide ((k:Int) < 0)=false:=by simp
  rw [h0]
  have hp0:=hp
  unfold Wj at hp0
  simp only [Zc,beq_iff_eq] at hp0
  obtain ⟨_,_,_,hlab⟩:=hp0
  have hym:=Zb hy
  obtain ⟨_,⟨t0,t1⟩,_,_,la,_⟩:=hA.n.mv y hym
  have lb:=hA.l y hym
  rw [hlab] at la lb
  obtain ⟨d,hd⟩:=YN la lb
  rw [hd]
  unfold Hj
  simp only [cond_false,bS]
  obtain ⟨bf,ef,ff,hf⟩:=ZmX hN d.Fields x.Values hx.l hx.s
  rw [ef,ff]
  simp only [bS]
  cases bf with
  | false=>exact ⟨_,rfl,rfl,.type hr hy hp hd (fun h=>by have:=hf.2 h;cases this)⟩
  | true =>
  have hfl:=hf.1 rfl
  obtain ⟨gc,gl⟩:=Zkf hN g.Decls (by omega) hg.dd hs.d x.Label x.Values s.Known hx.l hkl ⟨hx.s,hks⟩
  rw [ZgI hN g.Decls (by omega) hg.dd hs.d x.Label x.Values s.Known hx.l hkl ⟨hx.s,hks⟩,gc]
  simp only [Zh,cond_false,bS]
  cases hcv:Wt g.Decls x.Label x.Values s.Known with
  | false=>exact ⟨_,rfl,rfl,.guard hr hy hp hd hfl (.inl hcv)⟩
  | true =>
  simp only [Zh,cond_false]
  rw [Zw,hy]
  simp only [bS]
  obtain ⟨q,eq,fq,hq⟩:=Znk hN x.Values s.Pending hx.l
  rw [eq,fq]
  simp only [bS]
  have fin:(y.Again=true→x.Values=s.Pending)→∃ r,TF N g m s x (k:Int) false=some r∧U2 N g m s x (k:Int) false=some r∧StepR (N:=N) g m s x r:=fun hag=>by
   unfold TF U2
   have hck:=hcv
   unfold Wt at hck
   rw [Zc] at hck
   obtain ⟨hp',hck⟩:=hck
   rw [Zw,hy]
   simp only [cond_false,bS]
   rw [← gl]
   rcases Zeh hN g.Decls (by omega) hg.dd hs.d x.Label x.Values s.Known hx.l hkl ⟨hx.s,hks⟩ with ⟨h,_⟩ | ⟨_,i,d',first,q1,q2,q3,q4,q5⟩
   ·rw [h] at hp';cases hp'
   have hd':d'=d:=by
    rw [q1,Zw,q2] at hd
    exact Option.some.inj hd
   subst hd'
   rcases q5 with ⟨h,_⟩ | ⟨_,hle,hl⟩
   ·rw [hd] at hck
    simp only [h,Bool.false_and] at hck
    cases hck
   have hR:=StepR.ok (N:=N) hr hy hp hd hfl hcv hag q3 hle hl
   rw [hl]
   simp only [bS]
   unfold z55
   rw [YC (by have:=hx.l;simp;omega)]
   cases hsd:x.Send with
   | true=>rw [hsd] at hR;exact ⟨_,rfl,rfl,by simpa using hR⟩
   | false=>rw [hsd] at hR;exact ⟨_,rfl,rfl,hR⟩
  cases hya:y.Again with
  | false=>exact fin (fun h=>by rw [hya] at h;cases h)
  | true =>
   cases q with
   | true=>exact fin (fun _=>hq.1 rfl)
   | false=>exact ⟨_,rfl,rfl,.guard hr hy hp hd hfl (.inr ⟨hcv,hya,fun h=>by have:=hq.2 h;cases this⟩)⟩
 ·have er:(x.Role != m.Role)=true:=by simp [hr]
  rw [er]
  exact ⟨_,rfl,rfl,.role hr⟩
end
section
variable {N:Nat} {g:T5} {m:T8}
theorem StM.K {s:ZJ} (h:StM g m s):StK g m s:=⟨h.a0,h.a1,h.k⟩
theorem Zi2 (c:Y7 N g m) (hn:Xi g) {s:ZJ} (hS:StM g m s):UB N g m s=some true:=by
 obtain ⟨b,_,f,hb⟩:=Zl6 c.hN g c.gg c.ss hn m c.t s (Dt c hS) (Hb hS.k)
 rw [f,hb.2 ⟨c.e,hS.K⟩]
theorem Bo (c:Y7 N g m) (hn:Xi g) {s:ZJ} (hS:StM g m s) {x:T3} (hx:XO x):PQ N g m s x=some (YA N g m s x)∧StepR (N:=N) g m s x (YA N g m s x):=by
 obtain ⟨r,e1,e2,hR⟩:=Zmg c.hN g c.gg c.ss m c.a s hS.K x hx
 have e:YA N g m s x=r:=by unfold YA;rw [e1];rfl
 rw [e]
 refine ⟨?_,hR⟩
 unfold PQ
 rw [Zi2 c hn hS]
 simp only [bS,Zh,cond_false]
 exact e2
theorem ZgH (c:Y7 N g m) (hn:Xi g):Vc N g m=some (Wn g m):=by
 obtain ⟨b,e,f,_⟩:=Qf c.hN g c.gg c.ss hn m c.t
 rw [c.e] at e
 cases e
 unfold Vc
 rw [f,Zky c.hN g c.gg c.a.v];rfl
theorem Zps (c:Y7 N g m) (hn:Xi g) (l:List T3) (hl:l.length≤4194304) (he:∀ x∈l,XO x):∀ (r:List T3) (n k:Nat) (s:ZJ),StM g m s→k≤l.length→l.drop k=r→r.length < n →
  SS N g m l n s.At s.Known s.Pending (k:Int)=some (XF (YA N g m) r s k):=by
 intro r
 induction r with
 | nil =>
  intro n k s hS hk hr hn
  obtain ⟨n,rfl⟩:=pS n (by simp at hn;omega)
  have:=List.drop_eq_nil_iff.1 hr
  rw [SS,ZK this]
  have e:k=l.length:=by omega
  subst e;rfl
 | cons x r ih =>
  intro n k s hS hk hr hn'
  obtain ⟨n,rfl⟩:∃ q,n=q+1:=⟨n-1,by simp at hn';omega⟩
  obtain ⟨hk,hx,hr'⟩:=YU hr
  have hxs:=he x (Zb hx)
  obtain ⟨_,e2,_⟩:=B9 c hS hxs
  rw [SS,ZI hk,Zw,hx,ZH (by omega)]
  simp only [cT,bS]
  have e1:PQ N g m ⟨s.At,s.Known,s.Pending⟩ x=some (YA N g m s x):=(Bo c hn hS hxs).1
  rw [e1,XF]
  simp only [bS]
  cases h:((YA N g m s x).2 != 0) with
  | true=>rfl
  | false =>
   have h0:(YA N g m s x).2=0:=by simpa using h
   exact ih n (k+1) _ (e2 h0) hk hr' (by simp at hn';omega)
theorem Zhf (c:Y7 N g m) (hn:Xi g) (l:List T3) (hl:l.length≤4194304) (he:∀ x∈l,XO x):SE N g m l=some (XF (YA N g m) l (Wn g m) 0):=by
 have hN:=c.hN
 obtain ⟨b,e,f,_⟩:=Qf c.hN g c.gg c.ss hn m c.t
 rw [c.e] at e
 cases e
 unfold SE
 rw [ZgH c hn,f]
 simp only [bS,Zh,cond_false]
 exact Zps c hn l hl he l N 0 _ (TX c) (Nat.zero_le _) rfl (by omega)
theorem Bn (hN:4194304 < N) (hg:XI g) (hs:XV g) (hn:Xi g) (ht:m.Timeouts.length≤4194304) (l:List T3) (h:Vb N g m=some false) :
  z24 N g m=some WT∧Vc N g m=some WT∧X6 N g m l=some (WT,0,1)∧SE N g m l=some (WT,0,1):=by
 obtain ⟨b,e,f,_⟩:=Qf hN g hg hs hn m ht
 rw [h] at e
 cases e
 have e1:z24 N g m=some WT:=by unfold z24;rw [h];rfl
 have e2:Vc N g m=some WT:=by unfold Vc;rw [f];rfl
 refine ⟨e1,e2,?_,?_⟩
 ·unfold X6
  rw [e1]
  simp only [bS]
  have:z46 N g m WT=some false:=by unfold z46;rw [h];rfl
  rw [this];rfl
 ·unfold SE
  rw [e2,f];rfl
theorem ZkH (hN:4194304 < N) (hg:XI g) (hs:XV g) (hn:Xi g) (ht:m.Timeouts.length≤4194304) (l:List T3) (hl:l.length≤4194304) (he:∀ x∈l,XO x) :
  ∃ r,X6 N g m l=some r∧SE N g m l=some r∧r.1.Known.length≤4194304∧r.1.Pending.length≤4194304:=by
 obtain ⟨b,e,f,_⟩:=Qf hN g hg hs hn m ht
 cases b with
 | false =>
  obtain ⟨_,_,e1,e2⟩:=Bn hN hg hs hn ht l e
  exact ⟨_,e1,e2,Nat.zero_le _,Nat.zero_le _⟩
 | true =>
  obtain ⟨b0,e0,h0⟩:=LA hN g hg hs m ht
  rw [e] at e0
  cases e0
  have c:Y7 N g m:=⟨hN,hg,hs,ht,h0 rfl,e⟩
  have hst:=(Gb c l (Wn g m) 0 he (TX c)).1
  exact ⟨_,ZbX c l hl he,Zhf c hn l hl he,Dt c hst,hst.p⟩
end
section
variable {N:Nat} {g:T5} {m:T8}
theorem Gn {A β:Type} (p:A→Nat→Bool) {xs:List A} {F:Nat→Int→Option β} {r:Nat→β} {e:Option β} (h1:∀ n k x,k < xs.length→xs[k]? = some x→F (n+1) (k:Int)=bif p x k then F n ((k+1:Nat):Int) else some (r k))
  (h2:∀ n k,xs.length≤k→F (n+1) (k:Int)=e):∀ (d n k:Nat),xs.length-k=d→d < n →
  (∃ (i:Nat) (x:A),k≤i∧xs[i]? = some x∧F n (k:Int)=some (r i)∧p x i=false∧∀ (j:Nat) y,k≤j→j < i→xs[j]? = some y→p y j=true)∨(F n (k:Int)=e∧∀ (j:Nat) y,k≤j→xs[j]? = some y→p y j=true):=by
 intro d
 induction d with
 | zero =>
  intro n k hd hn
  obtain ⟨n,rfl⟩:=pS n (by omega)
  exact .inr ⟨h2 n k (by omega),fun j y hj hy=>by have:=(List.getElem?_eq_some_iff.1 hy).1;omega⟩
 | succ d ih =>
  intro n k hd hn
  obtain ⟨n,rfl⟩:=pS n (by omega)
  have hk:k < xs.length:=by omega
  have hx:=Za hk
  rw [h1 n k _ hk hx]
  cases hp:p xs[k] k with
  | false=>exact .inl ⟨k,_,Nat.le_refl _,hx,rfl,hp,fun j y h1 h2=>by omega⟩
  | true =>
   have ext:∀ (j:Nat) y,j=k→xs[j]? = some y→p y j=true:=fun j y e hy=>by
    subst e;rw [hx] at hy;cases hy;exact hp
   rcases ih n (k+1) (by omega) (by omega) with ⟨i,x,a1,a2,a3,a4,a5⟩ | ⟨a1,a2⟩
   ·refine .inl ⟨i,x,by omega,a2,a3,a4,fun j y h1 h2 hy=>?_⟩
    by_cases e:j=k
    ·exact ext j y e hy
    ·exact a5 j y (by omega) h2 hy
   ·refine .inr ⟨a1,fun j y h1 hy=>?_⟩
    by_cases e:j=k
    ·exact ext j y e hy
    ·exact a2 j y (by omega) hy
theorem ZrJ {f:Yb} {v:Zm} (h:(Wa v || YW f v)=true):Wo v=Y4 v:=by
 rw [Bool.or_eq_true] at h
 rcases h with h | h
 ·unfold Wa at h
  simp only [Zc,beq_iff_eq] at h
  unfold Wo Y4
  rw [h.1,h.2.1];rfl
 ·unfold YW at h
  simp only [Zc] at h
  have h:=h.2.1
  unfold WZ at h
  unfold Wo Y4
  by_cases c1:v.Kind=1
  ·rw [c1];rfl
  ·have e1:(v.Kind==1)=false:=by simp [c1]
   rw [e1] at h ⊢
   by_cases c2:v.Kind=2
   ·rw [c2];rfl
   ·have e2:(v.Kind==2)=false:=by simp [c2]
    rw [e2] at h;cases h
theorem Zh6 {fs:List T4} {ks:List Zm} (h:Uc fs ks):∀ v∈ks,Wo v=Y4 v:=fun v hv=>by
 obtain ⟨i,hi⟩:=List.getElem?_of_mem hv
 have hl:=(List.getElem?_eq_some_iff.1 hi).1
 exact ZrJ (h.2 i _ v (Za (by rw [h.1];exact hl)) hi)
theorem Zgu {all:List Zm} (hk:∀ v∈all,Wo v=Y4 v) {x:Int} (hx:x < (all.length:Int)):Mv N all x=some (YT all x,!WV all x):=by
 unfold Mv
 rcases PE all hx with ⟨h1,_,h3,h4⟩ | ⟨h1,_,v,hv,h3,h4⟩
 ·rw [h1,h3,h4];rfl
 ·rw [h1,h3,h4,hv]
  simp only [cond_false,bS,ZhH]
  obtain ⟨i,_,hi⟩:=QJ hv
  rw [hk v (Zb hi)];rfl
def Vk (x:T6) (all:List Zm) (j:Nat):Bool:=match x.Diffs[j]? with
 | some d=>WW all d
 | none=>match x.Equals[j-x.Diffs.length]? with
  | some e=>Vq all e
  | none=>true
theorem HL {x:T6} {all:List Zm} {j:Nat} {d} (h:x.Diffs[j]? = some d):Vk x all j=WW all d:=by unfold Vk;rw [h]
theorem Dp {x:T6} {all:List Zm} {j:Nat} {e} (h:x.Equals[j]? = some e):Vk x all (x.Diffs.length+j)=Vq all e:=by
 unfold Vk
 rw [List.getElem?_eq_none (by omega),Nat.add_sub_cancel_left,h]
theorem ZlZ (hN:4194304 < N) (x:T6) (all:List Zm) (hk:∀ v∈all,Wo v=Y4 v) (hg:U6 all.length x) :
  (∃ i:Nat,Ms N x all=some ((i:Int),true)∧i < x.Diffs.length+x.Equals.length∧Vk x all i=false∧∀ j,j < i→Vk x all j=true)∨(Ms N x all=some (0,false)∧∀ j,j < x.Diffs.length+x.Equals.length→Vk x all j=true):=by
 have hdl:=hg.dl
 have hel:=hg.el
 have he:=Gn (fun (e:Int × Int) _=>Vq all e) (xs:=x.Equals) (F:=Sz x all) (r:=fun i=>(((x.Diffs.length+i:Nat):Int),true)) (e:=some (0,false)) (fun n k e hk' hx=>by
  obtain ⟨⟨a1,a2⟩,a3,a4⟩:=hg.e e (Zb hx)
  obtain ⟨a,ha⟩:=YN (L:=all) a1 a2
  obtain ⟨b,hb⟩:=YN (L:=all) a3 a4
  have hw:Zi ((x.Diffs.length:Int)+(k:Int))=((x.Diffs.length+k:Nat):Int):=by rw [YD (by omega) (by omega)];omega
  rw [Sz,ZI hk',ZH (by omega),hw]
  simp only [cT,Zw,hx,bS,ha,hb,Vq]
  cases (a.Kind==0)<;>cases (b.Kind==0)<;>cases (a.S.toList==b.S.toList)<;>rfl) (fun n k hk'=>by
  rw [Sz,ZK hk'];rfl) _ N 0 rfl (by omega)
 have hd:=Gn (fun (d:T1) _=>WW all d) (xs:=x.Diffs) (F:=Qn N x all) (r:=fun i=>((i:Int),true)) (e:=Sz x all N 0) (fun n k d hk' hx=>by
  obtain ⟨a1,a2⟩:=hg.d d (Zb hx)
  rw [Qn,ZI hk',ZH (by omega)]
  simp only [cT,Zw,hx,bS,Zgu hk a1,Zgu hk a2,WW]
  cases WV all d.X<;>cases WV all d.Y<;>cases decide (Zi (YT all d.X-YT all d.Y) > d.C)<;>rfl) (fun n k hk'=>by
  rw [Qn,ZK hk'];rfl) _ N 0 rfl (by omega)
 rw [show ((0:Nat):Int)=0 from rfl] at he hd
 unfold Ms
 rcases hd with ⟨i,d,_,b1,b2,b3,b4⟩ | ⟨b1,b2⟩
 ·have hi:=(List.getElem?_eq_some_iff.1 b1).1
  refine .inl ⟨i,b2,by omega,by rw [HL b1];exact b3,fun j hj=>?_⟩
  have hj':=Za (show j < x.Diffs.length by omega)
  rw [HL hj'];exact b4 j _ (Nat.zero_le _) hj hj'
 ·have hdd:∀ j,j < x.Diffs.length→Vk x all j=true:=fun j hj=>by
   have hj':=Za hj
   rw [HL hj'];exact b2 j _ (Nat.zero_le _) hj'
  rcases he with ⟨i,e,_,c1,c2,c3,c4⟩ | ⟨c1,c2⟩
  ·have hi:=(List.getElem?_eq_some_iff.1 c1).1
   refine .inl ⟨x.Diffs.length+i,by rw [b1];exact c2,by omega,by rw [Dp c1];exact c3,fun j hj=>?_⟩
   by_cases hjd:j < x.Diffs.length
   ·exact hdd j hjd
   ·obtain ⟨q,rfl⟩:=Nat.le.dest (Nat.le_of_not_lt hjd)
    have hj':=Za (show q < x.Equals.length by omega)
    rw [Dp hj'];exact c4 q _ (Nat.zero_le _) (by omega) hj'
  ·refine .inr ⟨by rw [b1];exact c1,fun j hj=>?_⟩
   by_cases hjd:j < x.Diffs.length
   ·exact hdd j hjd
   ·obtain ⟨q,rfl⟩:=Nat.le.dest (Nat.le_of_not_lt hjd)
    have hj':=Za (show q < x.Equals.length by omega)
    rw [Dp hj'];exact c2 q _ (Nat.zero_le _) hj'
theorem Zlt {x:T6} {all:List Zm} (h:∀ j,j < x.Diffs.length+x.Equals.length→Vk x all j=true):R5 x all=true:=by
 unfold R5
 rw [Zc,XM,XM]
 refine ⟨fun i d hd=>?_,fun i e he=>?_⟩
 ·have:=h i (by have:=(List.getElem?_eq_some_iff.1 hd).1;omega)
  rwa [HL hd] at this
 ·have:=h (x.Diffs.length+i) (by have:=(List.getElem?_eq_some_iff.1 he).1;omega)
  rwa [Dp he] at this
def SH (x y:Zm):Bool:=(x.Kind==y.Kind) && ((x.N==y.N) && ((x.S.toList==y.S.toList) && true))
theorem H3 (x y:Zm):SH x y=true↔x=y:=by
 unfold SH
 simp only [Zc,beq_iff_eq,and_true]
 exact ⟨fun h=>ZeU h.1 h.2.1 (ZcI h.2.2),fun h=>by subst h;exact ⟨rfl,rfl,rfl⟩⟩
theorem Zin {x y:Zm} (h:¬ x=y):SH x y=false:=by
 cases hb:SH x y with
 | false=>rfl
 | true=>exact absurd ((H3 x y).1 hb) h
theorem ZmB (hN:4194304 < N) (a b:List Zm) (hl:a.length≤4194304):∃ j:Nat,Do N a b=some (j:Int)∧j≤a.length∧(∀ i,i < j→∃ v,a[i]? = some v∧b[i]? = some v)∧(j < a.length→a[j]? ≠ b[j]?):=by
 have cmp:∀ x y,∃ z,z173 N x y=some z∧(z=0↔x=y):=fun x y=>by
  obtain ⟨z,ez,hz⟩:=Zbi hN x y
  unfold W4 at ez
  cases hc:z173 N x y with
  | none=>rw [hc] at ez;cases ez
  | some w =>
   rw [hc] at ez
   refine ⟨w,rfl,?_⟩
   have:(w==0)=z:=Option.some.inj ez
   rw [← hz,← this,beq_iff_eq]
 have h:=Gn (fun (x:Zm) k=>match b[k]? with | some y=>SH x y | none=>false) (xs:=a) (F:=Qq N a b) (r:=fun i=>(i:Int)) (e:=some (a.length:Int)) (fun n k x hk hx=>by
  rw [Qq,ZI hk,ZH (by omega)]
  simp only [cT]
  by_cases hb:k < b.length
  ·have hy:=Za hb
   rw [dF (show ¬ (k:Int)≥(b.length:Int) by omega)]
   obtain ⟨z,ez,hz⟩:=cmp x b[k]
   simp only [cond_false,Zw,hx,hy,bS,ez]
   by_cases h0:z=0
   ·rw [(H3 _ _).2 (hz.1 h0),h0];rfl
   ·rw [Zin (fun h=>h0 (hz.2 h))]
    have:(z != 0)=true:=by simp [h0]
    rw [this];rfl
  ·rw [dT (show (k:Int)≥(b.length:Int) by omega),List.getElem?_eq_none (by omega)];rfl) (fun n k hk=>by
  rw [Qq,ZK hk];rfl) _ N 0 rfl (by omega)
 rw [show ((0:Nat):Int)=0 from rfl] at h
 have eqs:∀ (i:Nat) x,a[i]? = some x→(match b[i]? with | some y=>SH x y | none=>false)=true→∃ v,a[i]? = some v∧b[i]? = some v:=fun i x hx hp=>by
  cases hb:b[i]? with
  | none=>rw [hb] at hp;cases hp
  | some y =>
   rw [hb] at hp
   have:x=y:=(H3 x y).1 hp
   subst this
   exact ⟨x,hx,rfl⟩
 unfold Do
 rcases h with ⟨i,x,_,b1,b2,b3,b4⟩ | ⟨b1,b2⟩
 ·have hi:=(List.getElem?_eq_some_iff.1 b1).1
  refine ⟨i,b2,by omega,fun j hj=>?_,fun _=>?_⟩
  ·have hj':=Za (show j < a.length by omega)
   exact eqs j _ hj' (b4 j _ (Nat.zero_le _) hj hj')
  ·rw [b1]
   intro e
   rw [← e] at b3
   have b3:SH x x=false:=b3
   rw [(H3 x x).2 rfl] at b3
   cases b3
 ·refine ⟨a.length,b1,Nat.le_refl _,fun j hj=>?_,fun h=>absurd h (Nat.lt_irrefl _)⟩
  have hj':=Za hj
  exact eqs j _ hj' (b2 j _ (Nat.zero_le _) hj')
inductive V9 (g:T5) (m:T8) (s:ZJ) (x:T3):Int→Int→Int→Prop
 | stranger:x.Role≠m.Role→V9 g m s x 12 1 0
 | move:x.Role=m.Role→(∀ (i:Nat) y,m.Moves[i]? = some y→Wj y s.At x=false)→V9 g m s x 23 2 0
 | count {d}:x.Role=m.Role→idx g.Decls x.Label=some d→x.Values.length≠d.Fields.length→V9 g m s x 11 3 0
 | sort {d} {j:Nat} {f v}:x.Role=m.Role→idx g.Decls x.Label=some d→x.Values.length=d.Fields.length→d.Fields[j]? = some f→x.Values[j]? = some v→YW f.Sort' v=false →
   (∀ (i:Nat) f v,i < j→d.Fields[i]? = some f→x.Values[i]? = some v→YW f.Sort' v=true)→V9 g m s x 11 4 (j:Int)
 | guard {d} {j first:Nat}:x.Role=m.Role→idx g.Decls x.Label=some d→Ww d.Fields x.Values→d.First=(first:Int)→first+x.Values.length≤s.Known.length→U6 s.Known.length d.Guard→Uc (Zx g.Decls) (Yq first x.Values s.Known) →
   j < d.Guard.Diffs.length+d.Guard.Equals.length→Vk d.Guard (Yq first x.Values s.Known) j=false→(∀ i,i < j→Vk d.Guard (Yq first x.Values s.Known) i=true)→V9 g m s x 17 5 (j:Int)
 | same {i:Nat} {y d} {j first:Nat}:x.Role=m.Role→m.Moves[i]? = some y→Wj y s.At x=true→idx g.Decls x.Label=some d→Ww d.Fields x.Values→y.Again=true→x.Values≠s.Pending→j≤x.Values.length →
   (∀ i,i < j→∃ v,x.Values[i]? = some v∧s.Pending[i]? = some v)→(j < x.Values.length→x.Values[j]? ≠ s.Pending[j]?) →
   d.First=(first:Int)→first+x.Values.length≤s.Known.length→U6 s.Known.length d.Guard→Uc (Zx g.Decls) (Yq first x.Values s.Known)→(∀ i,i < d.Guard.Diffs.length+d.Guard.Equals.length→Vk d.Guard (Yq first x.Values s.Known) i=true)→V9 g m s x 17 6 (j:Int)
theorem ZnX (c:Y7 N g m) {s:ZJ} (hS:StM g m s) {x:T3} (hx:XO x) {q:ZJ × Int} (hR:StepR (N:=N) g m s x q) (he:q.2≠0):∃ k p,Lc N g s x q.2=some (k,p)∧V9 g m s x q.2 k p:=by
 have hN:=c.hN
 obtain ⟨v1,v2⟩:=Th c.a.v
 have hkl:=Dt c hS
 have hks:=Hb hS.k
 have b12:((12:Int)==12)=true:=rfl
 have b23:((23:Int)==12)=false:=rfl
 have b23':((23:Int)==23)=true:=rfl
 cases hR with
 | role h=>exact ⟨1,0,rfl,.stranger h⟩
 | move h1 h2=>exact ⟨2,0,rfl,.move h1 h2⟩
 | type h1 h2 h3 h4 h5 =>
  rename_i i y d
  unfold Lc
  rw [h4]
  simp only [bS]
  have e1:((11:Int)==12)=false:=rfl
  have e2:((11:Int)==23)=false:=rfl
  rw [e1,e2,Uq]
  simp only [cond_false]
  by_cases hl:x.Values.length=d.Fields.length
  ·rw [dT hl]
   have h:=Gn (fun (f:T4) k=>match x.Values[k]? with | some v=>YW f.Sort' v | none=>true) (xs:=d.Fields) (F:=UN N g s x d) (r:=fun i=>((4:Int),(i:Int))) (e:=Q3 N g s x d) (fun n k f hk hf=>by
    have hv:=Za (show k < x.Values.length by omega)
    rw [UN,ZI hk,ZH (by have:=hx.l;omega)]
    simp only [cT,Zw,hf,hv,bS,Zab hN _ _ (hx.s _ (Zb hv))]
    cases YW f.Sort' x.Values[k]<;>rfl) (fun n k hk=>by
    rw [UN,ZK hk];rfl) _ N 0 rfl (by have:=hx.l;omega)
   rw [show ((0:Nat):Int)=0 from rfl] at h
   rcases h with ⟨j,f,_,a1,a2,a3,a4⟩ | ⟨a1,a2⟩
   ·have hj:=(List.getElem?_eq_some_iff.1 a1).1
    have hv:=Za (show j < x.Values.length by omega)
    rw [hv] at a3
    refine ⟨4,(j:Int),a2,.sort h1 h4 hl a1 hv a3 fun i f v hi hf hv'=>?_⟩
    have:=a4 i f (Nat.zero_le _) hi hf
    rw [hv'] at this;exact this
   ·refine absurd ⟨hl.symm,fun i f v hf hv'=>?_⟩ h5
    have:=a2 i f (Nat.zero_le _) hf
    rw [hv'] at this;exact this
  ·rw [dF hl]
   exact ⟨3,0,rfl,.count h1 h4 hl⟩
 | guard h1 h2 h3 h4 h5 h6 =>
  rename_i i y d
  unfold Lc
  rw [h4]
  simp only [bS]
  have e1:((17:Int)==12)=false:=rfl
  have e2:((17:Int)==23)=false:=rfl
  have hl:x.Values.length=d.Fields.length:=h5.1.symm
  rw [e1,e2,Uq,dT hl]
  simp only [cond_false,Zh]
  have h:=Gn (fun (f:T4) k=>match x.Values[k]? with | some v=>YW f.Sort' v | none=>true) (xs:=d.Fields) (F:=UN N g s x d) (r:=fun i=>((4:Int),(i:Int))) (e:=Q3 N g s x d) (fun n k f hk hf=>by
   have hv:=Za (show k < x.Values.length by omega)
   rw [UN,ZI hk,ZH (by have:=hx.l;omega)]
   simp only [cT,Zw,hf,hv,bS,Zab hN _ _ (hx.s _ (Zb hv))]
   cases YW f.Sort' x.Values[k]<;>rfl) (fun n k hk=>by
   rw [UN,ZK hk];rfl) _ N 0 rfl (by have:=hx.l;omega)
  rw [show ((0:Nat):Int)=0 from rfl] at h
  rcases h with ⟨j,f,_,a1,a2,a3,a4⟩ | ⟨a1,a2⟩
  ·have hj:=(List.getElem?_eq_some_iff.1 a1).1
   have hv:=Za (show j < x.Values.length by omega)
   rw [hv] at a3
   have a3:YW f.Sort' x.Values[j]=false:=a3
   have:=h5.2 j f _ a1 hv
   rw [this] at a3;cases a3
  rw [a1]
  unfold Q3
  obtain ⟨i',q1,q2⟩:=QJ h4
  obtain ⟨first,f1,f2,f3,f4,f5⟩:=Tf c.a.v q2
  have hkl2:(Zx g.Decls).length=s.Known.length:=hS.k.1
  have hle:first+x.Values.length≤s.Known.length:=by omega
  have hval:Dg N g.Decls x.Label x.Values s.Known=some (Yq first x.Values s.Known):=by
   have hb:=ZeX (N:=N) d x.Values s.Known first f1 hle hkl
   unfold SY z55 at hb
   unfold Dg
   rw [YC (by simp;omega)] at hb ⊢
   rw [h4]
   exact hb
  have hbl:=DS first x.Values s.Known hle
  have hkn:=Zhc q2 f1 f5 hle hS.k h5
  have hin:U6 s.Known.length d.Guard:=by rw [← hkl2];exact Gy (L2 f5)
  rw [hval]
  simp only [bS]
  rcases ZlZ hN d.Guard (Yq first x.Values s.Known) (Zh6 hkn) (by rw [hbl];exact hin) with ⟨j,b1,b2,b3,b4⟩ | ⟨b1,b2⟩
  ·rw [b1]
   exact ⟨5,(j:Int),rfl,.guard h1 h4 h5 f1 hle hin hkn b2 b3 b4⟩
  ·rw [b1]
   obtain ⟨j,d1,d2,d3,d4⟩:=ZmB hN x.Values s.Pending hx.l
   simp only [bS,cond_false]
   rw [d1]
   have hkeep:=Zlt b2
   rcases h6 with h6 | ⟨_,h7,h8⟩
   ·exfalso
    unfold Wt at h6
    have hp:Vt g.Decls x.Label s.Known=true:=by
     unfold Vt
     rw [dT (show 0≤x.Label∧x.Label < (g.Decls.length:Int) from Ub h4),c.a.v,(Zfb c.a.v s.Known).2 hS.k];rfl
    have hfi:=(ZkA c.a.v (Zb q2) x.Values).2 h5
    have hfn:d.First.toNat=first:=by omega
    rw [hp,h4] at h6
    simp only [hfi,hfn,hkeep,Bool.and_self] at h6
    cases h6
   ·exact ⟨6,(j:Int),rfl,.same h1 h2 h3 h4 h5 h7 h8 d2 d3 d4 f1 hle hin hkn b2⟩
 | ok _ _ _ _ _ _ _ _ _ _=>exact absurd rfl he
end
section
variable {N:Nat} {g:T5} {m:T8}
theorem ZgB {y:T9} {s:Int} {x:T3}:Wj y s x=true↔y.From=s∧y.Send=x.Send∧y.Peer=x.Peer∧y.Label=x.Label:=by
 unfold Wj
 simp only [Zc,beq_iff_eq]
structure PY (g:T5) (m:T8) (l:List T3) (i:Nat) (s:ZJ):Prop where
 z:i=0→s.At=m.Start
 p:∀ j x,i=j+1→l[j]? = some x→s.Pending=bif x.Send then x.Values else []
 b:∀ j x,i=j+1→l[j]? = some x→∃ (k:Nat) (y:T9),m.Moves[k]? = some y∧y.To=s.At∧y.Send=x.Send∧y.Label=x.Label
 f:∀ j x,i=j+1→l[j]? = some x→∃ d,idx g.Decls x.Label=some d∧Ww d.Fields x.Values
theorem Zgv (c:Y7 N g m) (hn:Xi g) (l:List T3) (he:∀ x∈l,XO x):∀ (r:List T3) (k:Nat) (s:ZJ),StM g m s→PY g m l k s→l.drop k=r→k≤l.length →
  (XF (YA N g m) r s k).2.2≠0→∃ (t:ZJ) (j:Nat) (x:T3) (e:Int),XF (YA N g m) r s k=(t,(j:Int),e)∧l[j]? = some x∧(YA N g m t x).2=e∧StM g m t∧PY g m l j t
 | [],k,s,hS,hI,hr,hk,h=>absurd rfl h
 | x::r,k,s,hS,hI,hr,hk,h=>by
  obtain ⟨hk',hx,hr'⟩:=YU hr
  have hxs:=he x (Zb hx)
  obtain ⟨_,e2,_⟩:=B9 c hS hxs
  obtain ⟨_,hR⟩:=Bo c hn hS hxs
  rw [XF] at h ⊢
  cases hb:((YA N g m s x).2 != 0) with
  | true=>exact ⟨s,k,x,_,rfl,hx,rfl,hS,hI⟩
  | false =>
   rw [hb] at h
   have h0:(YA N g m s x).2=0:=by simpa using hb
   refine Zgv c hn l he r (k+1) (YA N g m s x).1 (e2 h0) ?_ hr' hk' h
   revert hR h0
   generalize YA N g m s x=q
   intro hR h0
   cases hR with
   | role _=>cases h0
   | move _ _=>cases h0
   | type _ _ _ _ _=>cases h0
   | guard _ _ _ _ _ _=>cases h0
   | ok h1 h2 h3 h4 h5 _ _ _ _ _ =>
    refine ⟨fun h=>by omega,fun j x' hj hx'=>?_,fun j x' hj hx'=>?_,fun j x' hj hx'=>?_⟩<;>(have e:k=j:=by omega)<;>subst e<;>rw [hx] at hx'<;>cases hx'
    ·rfl
    ·rw [ZgB] at h3
     exact ⟨_,_,h2,rfl,h3.2.1,h3.2.2.2⟩
    ·exact ⟨_,h4,h5⟩
theorem Zmw (l:List T3):PY g m l 0 (Wn g m):=⟨fun _=>rfl,fun j x h=>by omega,fun j x h=>by omega,fun j x h=>by omega⟩
def Ze6:Xu:=⟨0,0,0,0⟩
theorem Zh0 (hN:4194304 < N) (hg:XI g) (hs:XV g) (hn:Xi g) (ht:m.Timeouts.length≤4194304) (l:List T3) (hl:l.length≤4194304) (he:∀ x∈l,XO x) :
  (∃ (t:ZJ) (j e:Int),X6 N g m l=some (t,j,e)∧(e=0∨e=1)∧R7 N g m l=some (Ze6,false,e)) ∨
  (∃ (t:ZJ) (j:Nat) (x:T3) (e k p:Int),Y7 N g m∧Gf g m∧X6 N g m l=some (t,(j:Int),e)∧e≠0∧e≠1∧XF (YA N g m) l (Wn g m) 0=(t,(j:Int),e)∧l[j]? = some x∧(YA N g m t x).2=e∧StM g m t∧PY g m l j t∧V9 g m t x e k p ∧
   R7 N g m l=some (⟨(j:Int),k,p,bif k==1 then x.Role else bif x.Send then m.Role else x.Peer⟩,true,0)):=by
 obtain ⟨b,e,f,hX⟩:=Qf hN g hg hs hn m ht
 unfold R7
 cases b with
 | false =>
  obtain ⟨_,_,e1,_⟩:=Bn hN hg hs hn ht l e
  refine .inl ⟨WT,0,1,e1,.inr rfl,?_⟩
  rw [e1];rfl
 | true =>
  obtain ⟨b0,e0,h0⟩:=LA hN g hg hs m ht
  rw [e] at e0
  cases e0
  have c:Y7 N g m:=⟨hN,hg,hs,ht,h0 rfl,e⟩
  have hrun:=ZbX c l hl he
  have hst:=Gb c l (Wn g m) 0 he (TX c)
  rw [hrun]
  by_cases hz:(XF (YA N g m) l (Wn g m) 0).2.2=0
  ·refine .inl ⟨_,_,_,rfl,.inl hz,?_⟩
   have e1:((XF (YA N g m) l (Wn g m) 0).2.2==0)=true:=by simp [hz]
   simp only [bS,e1];rfl
  ·obtain ⟨t,j,x,ee,r1,r2,r3,r4,r5⟩:=Zgv c hn l he l 0 (Wn g m) (TX c) (Zmw l) rfl (Nat.zero_le _) hz
   rw [r1] at hz hst ⊢
   have hz:ee≠0:=hz
   have h1:ee≠1:=hst.2
   have hxs:=he x (Zb r2)
   obtain ⟨_,hR⟩:=Bo c hn r4 hxs
   obtain ⟨k,p,k1,k2⟩:=ZnX c r4 hxs hR (by rw [r3];exact hz)
   rw [r3] at k1 k2
   refine .inr ⟨t,j,x,ee,k,p,c,hX rfl,rfl,hz,h1,rfl,r2,r3,r4,r5,k2,?_⟩
   have b1:(ee==0)=false:=by simp [hz]
   have b2:(ee==1)=false:=by simp [h1]
   simp only [bS,b1,b2,cond_false]
   unfold Ly
   rw [Zw,r2]
   simp only [cond_false,bS,k1]
   cases (k==1) with
   | true=>rfl
   | false=>cases x.Send<;>rfl
end
section
variable {N:Nat} {g:T5} {m:T8}
theorem ZrT {s:Yb} {v:Zm} (h:YW s v=true):(v.Kind==0)=false:=by
 unfold YW at h
 simp only [Zc] at h
 have h:=h.2.1
 unfold WZ at h
 by_cases c1:v.Kind=0
 ·rw [c1] at h;cases h
 ·simp [c1]
theorem Zdj (d:T0) {first:Nat} (hf:d.First=(first:Int)) {vs ks:List Zm} (hfl:Ww d.Fields vs) (hle:first+vs.length≤ks.length) (hk:ks.length≤4194304) {x:Int} (hx:x < (ks.length:Int)) :
  (decide (x < 0)=true∧Td N d vs ks x=some (⟨1,0,str []⟩,true))∨(decide (x < 0)=false∧∃ v,idx (Yq first vs ks) x=some v∧Td N d vs ks x=some (v,!(v.Kind==0))):=by
 unfold Td
 by_cases h0:x < 0
 ·left
  rw [dT h0]
  exact ⟨rfl,rfl⟩
 ·right
  obtain ⟨i,rfl⟩:=Ze (show 0≤x by omega)
  have hi:i < ks.length:=by omega
  rw [dF h0]
  refine ⟨rfl,?_⟩
  have hg:=HR first vs ks hle i
  rw [Zw,hg]
  simp only [cond_false]
  have hw:Zi (d.First+(vs.length:Int))=((first+vs.length:Nat):Int):=by rw [hf,YD (by omega) (by omega)];omega
  have known:∃ v,ks[i]? = some v∧((idx ks (i:Int)).bind fun x3=>(idx ks (i:Int)).bind fun x4=>some (x3,(x4.Kind != 0)))=some (v,!(v.Kind==0)):=by
   have hv:=Za hi
   exact ⟨_,hv,by rw [Zw,hv];rfl⟩
  by_cases c1:first≤i
  ·rw [dT (show (i:Int)≥d.First by omega),hw]
   by_cases c2:i < first+vs.length
   ·rw [dT (show (i:Int) < ((first+vs.length:Nat):Int) by omega),if_pos ⟨c1,c2⟩]
    have hw2:Zi ((i:Int)-d.First)=((i-first:Nat):Int):=by rw [hf,YD (by omega) (by omega)];omega
    have hv:=Za (show i-first < vs.length by omega)
    have hff:=Za (show i-first < d.Fields.length by rw [hfl.1];omega)
    have:=ZrT (hfl.2 _ _ _ hff hv)
    refine ⟨_,hv,?_⟩
    simp only [cT]
    rw [hw2,Zw,hv,this];rfl
   ·rw [dF (show ¬ (i:Int) < ((first+vs.length:Nat):Int) by omega),if_neg (fun h=>c2 h.2)]
    exact known
  ·rw [dF (show ¬ (i:Int)≥d.First by omega),if_neg (fun h=>c1 h.1)]
   exact known
theorem ZjJ (d:T0) {first:Nat} (hf:d.First=(first:Int)) {vs ks:List Zm} (hfl:Ww d.Fields vs) (hle:first+vs.length≤ks.length) (hk:ks.length≤4194304) (hall:∀ v∈Yq first vs ks,Wo v=Y4 v) {x:Int} (hx:x < (ks.length:Int)) :
  ∃ v,Td N d vs ks x=some (v,!WV (Yq first vs ks) x)∧Wo v=YT (Yq first vs ks) x:=by
 rcases Zdj (N:=N) d hf hfl hle hk hx with ⟨h1,h2⟩ | ⟨h1,v,h2,h3⟩
 ·refine ⟨_,by rw [h2];unfold WV;rw [h1];rfl,?_⟩
  unfold YT;rw [h1];rfl
 ·obtain ⟨i,_,hi⟩:=QJ h2
  refine ⟨v,by rw [h3];unfold WV;rw [h1,h2];rfl,?_⟩
  unfold YT;rw [h1,h2]
  exact hall v (Zb hi)
theorem ZmS (d:T0) {first:Nat} (hf:d.First=(first:Int)) {vs ks:List Zm} (hfl:Ww d.Fields vs) (hle:first+vs.length≤ks.length) (hk:ks.length≤4194304) (hall:∀ v∈Yq first vs ks,Wo v=Y4 v) (hg:U6 ks.length d.Guard) {j:Nat} (hj:j < d.Guard.Diffs.length+d.Guard.Equals.length) :
  Pn N d vs ks (j:Int)=some (Vk d.Guard (Yq first vs ks) j):=by
 have hdl:=hg.dl
 have hel:=hg.el
 unfold Pn
 by_cases c:j < d.Guard.Diffs.length
 ·have hx:=Za c
  rw [dF (show ¬ (j:Int)≥(d.Guard.Diffs.length:Int) by omega),Zw,hx,HL hx]
  obtain ⟨a1,a2⟩:=hg.d _ (Zb hx)
  obtain ⟨u,u1,u2⟩:=ZjJ (N:=N) d hf hfl hle hk hall a1
  obtain ⟨v,v1,v2⟩:=ZjJ (N:=N) d hf hfl hle hk hall a2
  simp only [cond_false,bS]
  rw [u1,v1]
  simp only [bS,Zjb,u2,v2]
  unfold WW
  generalize (d.Guard.Diffs[j])=q
  have e:decide (Zi (YT (Yq first vs ks) q.X-YT (Yq first vs ks) q.Y)≤q.C) = !decide (Zi (YT (Yq first vs ks) q.X-YT (Yq first vs ks) q.Y) > q.C):=by
   by_cases h:Zi (YT (Yq first vs ks) q.X-YT (Yq first vs ks) q.Y)≤q.C
   ·rw [dT h,dF (by omega)];rfl
   ·rw [dF h,dT (by omega)];rfl
  rw [e]
  cases WV (Yq first vs ks) q.X<;>cases WV (Yq first vs ks) q.Y<;>cases decide (Zi (YT (Yq first vs ks) q.X-YT (Yq first vs ks) q.Y) > q.C)<;>rfl
 ·obtain ⟨p,rfl⟩:=Nat.le.dest (Nat.le_of_not_lt c)
  have hx:=Za (show p < d.Guard.Equals.length by omega)
  have hw:Zi (((d.Guard.Diffs.length+p:Nat):Int)-(d.Guard.Diffs.length:Int))=(p:Int):=by rw [YD (by omega) (by omega)];omega
  rw [dT (show ((d.Guard.Diffs.length+p:Nat):Int)≥(d.Guard.Diffs.length:Int) by omega),hw,Zw,hx,Dp hx]
  obtain ⟨⟨a0,a1⟩,a2,a3⟩:=hg.e _ (Zb hx)
  simp only [cT,bS]
  generalize (d.Guard.Equals[p])=q at a0 a1 a2 a3
  rcases Zdj (N:=N) d hf hfl hle hk a1 with ⟨h1,_⟩ | ⟨_,u,u1,u2⟩
  ·have:=of_decide_eq_true h1;omega
  rcases Zdj (N:=N) d hf hfl hle hk a3 with ⟨h1,_⟩ | ⟨_,v,v1,v2⟩
  ·have:=of_decide_eq_true h1;omega
  rw [u2,v2]
  unfold Vq
  rw [u1,v1]
  simp only [bS]
  cases (u.Kind==0)<;>cases (v.Kind==0)<;>cases (u.S.toList==v.S.toList)<;>rfl
end
section
variable {N:Nat}
theorem ZoG (a b:ByteArray):bs (a++b)=bs a++bs b:=by
 unfold bs
 rw [ByteArray.data_append,Array.toList_append]
theorem ZS {a b:List UInt8} (h:a.length+b.length≤9223372036854775807):Zv (Zu a) (Zu b)=some (Zu (a++b)):=by
 unfold Zv
 have e:(Zu a).size=a.length∧(Zu b).size=b.length:=⟨by rw [Yd,YQ],by rw [Yd,YQ]⟩
 rw [e.1,e.2,dF (by simp only [IntKind.max];simp [IntKind.bits,IntKind.signed];omega)]
 simp only [cond_false]
 refine congrArg some (ZdL ?_)
 rw [ZoG,YQ,YQ,YQ]
theorem ZdW:∀ d:Fin 10,Utf8.encode (wk .i32 (Zi ((48:Int)+(d.val:Int))))=Zu [UInt8.ofNat (48+d.val)]:=by decide
theorem Zf1 {n:Int} {d:Nat} (hd:d < 10) (h:n=(48:Int)+(d:Int)):Utf8.encode (wk .i32 (Zi n))=Zu [UInt8.ofNat (48+d)]:=by
 rw [h];exact ZdW ⟨d,hd⟩
theorem G6:∀ f u,(Vm f u).length≤f
 | 0,_=>Nat.le_refl _
 | f+1,u=>by
  rw [Vm]
  cases hb:Nat.blt u 10 with
  | true=>simp
  | false =>
   have:=G6 f (u / 10)
   simp only [cond_false,lA,List.length_singleton]
   omega
theorem ZfR:∀ (f m u:Nat),f≤24→u < 10 ^ (f+1)→u < 9223372036854775808→UM (f+1+m) (u:Int)=some (Zu (Vm (f+1) u))
 | f,m,u,hf,h,hu=>by
  rw [show f+1+m=(f+m)+1 by omega,UM,HN,Vm]
  rw [dF (show ¬ (u:Int) < -9 by omega),dF (show ¬ (u:Int) < 0 by omega)]
  simp only [cond_false]
  by_cases c:u < 10
  ·have hb:Nat.blt u 10=true:=by simpa [Nat.blt_eq] using c
   rw [dT (show (u:Int) < 10 by omega),hb,Zf1 c rfl];rfl
  ·have hb:Nat.blt u 10=false:=by
    cases h0:Nat.blt u 10 with
    | false=>rfl
    | true=>exact absurd (by simpa [Nat.blt_eq] using h0) c
   rw [dF (show ¬ (u:Int) < 10 by omega),hb]
   have ht:Zi ((u:Int).tdiv 10)=((u / 10:Nat):Int):=by
    rw [show ((u:Int).tdiv 10)=((u / 10:Nat):Int) from by rw [Int.tdiv_eq_ediv_of_nonneg (by omega)];omega,YD (by omega) (by omega)]
   have hm:((48:Int)+(u:Int).tmod 10)=(48:Int)+((u % 10:Nat):Int):=by
    rw [Int.tmod_eq_emod_of_nonneg (by omega)];omega
   rw [ht,hm,ZdW (⟨u % 10,Nat.mod_lt _ (by omega)⟩)]
   match f,h,hf with
   | 0,h,_=>omega
   | f+1,h,hf =>
    rw [show f+1+m=f+1+m by rfl,ZfR f m (u / 10) (by omega) (by rw [Nat.pow_succ] at h;omega) (by omega)]
    simp only [bS,cond_false]
    have:=G6 (f+1) (u / 10)
    rw [ZS (by simp only [List.length_singleton];omega)]
    rfl
theorem Ze8:∀ (f m u:Nat),f≤24→0 < u→u < 10 ^ (f+1)→u≤9223372036854775808→UM (f+1+m) (-(u:Int))=some (Zu (45::Vm (f+1) u))
 | f,m,u,hf,h0,h,hu=>by
  rw [show f+1+m=(f+m)+1 by omega,UM,HN,Vm]
  by_cases c:u < 10
  ·have hb:Nat.blt u 10=true:=by simpa [Nat.blt_eq] using c
   rw [dF (show ¬ -(u:Int) < -9 by omega),dT (show -(u:Int) < 0 by omega),hb]
   simp only [cT,cond_false]
   rw [Zf1 (n:=48 - -(u:Int)) c (by omega)]
   rw [show str [45]=Zu [45] from rfl,ZS (by simp)];rfl
  ·have hb:Nat.blt u 10=false:=by
    cases h0:Nat.blt u 10 with
    | false=>rfl
    | true=>exact absurd (by simpa [Nat.blt_eq] using h0) c
   rw [dT (show -(u:Int) < -9 by omega),hb]
   have ht:Zi ((-(u:Int)).tdiv 10)=-((u / 10:Nat):Int):=by
    rw [show ((-(u:Int)).tdiv 10)=-((u / 10:Nat):Int) from by rw [Int.neg_tdiv,Int.tdiv_eq_ediv_of_nonneg (by omega)];omega,YD (by omega) (by omega)]
   have hm:((48:Int)-(-(u:Int)).tmod 10)=(48:Int)+((u % 10:Nat):Int):=by
    rw [Int.neg_tmod,Int.tmod_eq_emod_of_nonneg (by omega)];omega
   rw [ht,hm,ZdW (⟨u % 10,Nat.mod_lt _ (by omega)⟩)]
   match f,h,hf with
   | 0,h,_=>omega
   | f+1,h,hf =>
    rw [Ze8 f m (u / 10) (by omega) (by omega) (by rw [Nat.pow_succ] at h;omega) (by omega)]
    simp only [bS,cT]
    have:=G6 (f+1) (u / 10)
    rw [ZS (by simp only [Zg,List.length_nil];omega)]
    rfl
theorem Zjf (hN:4194304 < N) {n:Int} (h:XT n):ZaX N n=some (XE n):=by
 obtain ⟨h1,h2⟩:=h
 unfold ZaX XE
 by_cases c:n < 0
 ·rw [dT c]
  have:=Ze8 24 (N-25) n.natAbs (by omega) (by omega) (by omega) (by omega)
  rw [show 24+1+(N-25)=N by omega,show -((n.natAbs:Nat):Int)=n by omega] at this
  exact this
 ·rw [dF c]
  have:=ZfR 24 (N-25) n.toNat (by omega) (by omega) (by omega)
  rw [show 24+1+(N-25)=N by omega,show ((n.toNat:Nat):Int)=n by omega] at this
  exact this
theorem ZiQ:∀ (N:Nat) (n:Int),Pu N n=UM N n
 | 0,_=>rfl
 | N+1,n=>by
  rw [Pu,UM,show Pu N=UM N from funext fun n=>ZiQ N n]
  rfl
theorem Un (hN:4194304 < N) {n:Int} (h:XT n):Xd N n=some (XE n):=by
 rw [← Zjf hN h]
 exact ZiQ N n
theorem VT {n:Int} (h:XT n):Wg N n=some (XE n):=by
 unfold Wg
 rw [dT h.1,dT h.2];rfl
theorem Zg5 (n:Int):(XE n).size≤26:=by
 unfold XE
 have h1:=G6 25 n.natAbs
 have h2:=G6 25 n.toNat
 show (bif decide (n < 0) then 45::Vm 25 n.natAbs else Vm 25 n.toNat).toArray.size≤26
 cases decide (n < 0)<;>simp<;>omega
end
section
variable {N:Nat}
def Wp (v:Zm):List UInt8:=bif WZ v then (if v.Kind=1 then bs (XE v.N) else [34]++TV (bs v.S)++[34]) else [63]
theorem ZnJ (b:UInt8):(QZ b).length≤2:=by unfold QZ;split<;>simp
theorem D9 (b:UInt8) (r:List UInt8):TV (b::r)=QZ b++TV r:=rfl
theorem Zfg:∀ l:List UInt8,(TV l).length≤2 * l.length
 | []=>Nat.le_refl _
 | b::r=>by
  have:=Zfg r
  have:=ZnJ b
  rw [D9,lA,Zg];omega
theorem HD {v:Zm} (hv:v.S.size≤4194304):(Wp v).length≤8388610:=by
 unfold Wp
 have:=Zg5 v.N
 rw [Yd] at this hv
 have:=Zfg (bs v.S)
 cases WZ v
 ·simp
 ·simp only [cT]
  split
  ·omega
  ·simp only [lA,List.length_singleton];omega
theorem Zdl (v:Zm) (hv:v.S.size≤4194304):∀ (r:List UInt8) (n k:Nat) (acc:List UInt8),(bs v.S).drop k=r→r.length < n→acc.length+2 * r.length≤16777216 →
  Ua v n (Zu acc) (k:Int)=some (Zu (acc++TV r++[34]))
 | [],n,k,acc,h,hn,ha=>by
  obtain ⟨n,rfl⟩:=pS n (by simp at hn;omega)
  have hk:=Y2 h
  rw [Ua,ZbA hk]
  simp only [cond_false]
  unfold Ge
  rw [show str [34]=Zu [34] from rfl,ZS (by simp at *;omega)]
  simp [TV]
 | b::r,n,k,acc,h,hn,ha=>by
  obtain ⟨n,rfl⟩:=pS n (by simp at hn;omega)
  obtain ⟨hk,hb,hr⟩:=YU h
  simp only [Zg] at hn ha
  rw [Ua,Bq hk,SF,hb]
  rw [Yd] at hv
  simp only [cT,Option.map_some,bS]
  have hsl:ssl v.S (some (k:Int)) (some (Zi ((k:Int)+1)))=some (Zu [b]):=by
   have e:bs v.S=(bs v.S).take k++([b]++r):=by rw [List.singleton_append,← h,List.take_append_drop]
   have hl:((bs v.S).take k).length=k:=by rw [List.length_take];omega
   refine Dq e (by rw [hl]) ?_
   rw [ZH (by omega),hl];rfl
  have e34:(((b.toNat:Nat):Int)==34)=decide (b=34):=by
   by_cases c:b=34
   ·subst c;rfl
   ·rw [dF c]
    have:b.toNat≠34:=fun h=>c (UInt8.toNat_inj.1 h)
    simp;omega
  have e92:(((b.toNat:Nat):Int)==92)=decide (b=92):=by
   by_cases c:b=92
   ·subst c;rfl
   ·rw [dF c]
    have:b.toNat≠92:=fun h=>c (UInt8.toNat_inj.1 h)
    simp;omega
  have step:∀ (z:Bool),(z=decide (b=34∨b=92))→Pg v (Zu acc) (k:Int) (Ua v n) z=some (Zu (acc++TV (b::r)++[34])):=by
   intro z hz
   have hq:QZ b=if z then [92,b] else [b]:=by
    subst hz;unfold QZ
    by_cases c:b=34∨b=92
    ·rw [if_pos c,dT c];rfl
    ·rw [if_neg c,dF c];rfl
   unfold Pg
   cases z with
   | true =>
    rw [hsl]
    simp only [cT,bS]
    rw [show str [92]=Zu [92] from rfl,ZS (by simp;omega)]
    simp only [bS]
    rw [ZS (by simp;omega)]
    simp only [bS]
    rw [ZH (by omega),Zdl v (by rw [Yd];exact hv) r n (k+1) _ hr (by omega) (by simp;omega),D9,hq]
    simp
   | false =>
    rw [hsl]
    simp only [cond_false,bS]
    rw [ZS (by simp;omega)]
    simp only [bS]
    rw [ZH (by omega),Zdl v (by rw [Yd];exact hv) r n (k+1) _ hr (by omega) (by simp;omega),D9,hq]
    simp
  rw [e34,e92]
  by_cases c:b=34
  ·rw [dT c];exact step true (by rw [dT (Or.inl c)])
  ·rw [dF c]
   simp only [cond_false]
   refine step _ ?_
   by_cases c2:b=92
   ·rw [dT c2,dT (Or.inr c2)]
   ·rw [dF c2,dF (fun h=>h.elim c c2)]
structure QK (v:Zm):Prop where
 n:XT v.N
 s:v.S.size≤4194304
theorem ZcO (hN:4194304 < N) {v:Zm} (h:QK v):RE N v=some (Zu (Wp v)):=by
 unfold RE
 rw [Zfo hN v h.s]
 unfold Wp
 simp only [bS]
 cases hv:WZ v with
 | false=>rfl
 | true =>
  simp only [Zh,cond_false,cT]
  by_cases c:v.Kind=1
  ·rw [show (v.Kind==1)=true by simp [c],Zjf hN h.n,if_pos c,Ln];rfl
  ·rw [show (v.Kind==1)=false by simp [c],if_neg c]
   simp only [cond_false]
   have:=h.s
   rw [Yd] at this
   exact Zdl v h.s (bs v.S) N 0 [34] rfl (by omega) (by simp;omega)
theorem Zhh {a:List UInt8} {b:UInt8} (h:a.length+1≤4294967296):Pz (Zu a) [(b.toNat:Int)]=some (Zu (a++[b])):=by
 have hb:b.toNat < 256:=b.toNat_lt
 have e:(Zu a).size=a.length:=by rw [Yd,YQ]
 have e1:Mr [(b.toNat:Int)]=Zu [b]:=by
  unfold Mr Zu
  simp
 have e2:(Zu [b]).size=1:=by rw [Yd,YQ];rfl
 unfold Pz apB lim
 rw [e1,e,e2]
 simp only [List.all_cons,List.all_nil,Bool.and_true]
 rw [dT (show (0:Int)≤(b.toNat:Int) by omega),dT (show (b.toNat:Int) < 256 by omega)]
 simp only [Bool.and_self,cT]
 rw [Nat.ble_eq_true_of_le h,cT]
 congr 1
theorem Zb6 {a:List UInt8} {b:UInt8} (h:a.length+1≤4294967296):U7 N (b.toNat:Int) (Zu a)=some ((),Zu (a++[b])):=by
 unfold U7 ZbZ
 rw [bS,Zhh h];rfl
theorem Zml {a:List UInt8} (h:a≠[]) (hl:a.length≤4294967296):PM (Zu a)=some ():=by
 have e:(Zu a).size=a.length:=by rw [Yd,YQ]
 unfold PM lim
 rw [e]
 cases a with
 | nil=>exact absurd rfl h
 | cons x r =>
  have:Nat.beq (x::r).length 0=false:=rfl
  rw [this,Nat.ble_eq_true_of_le hl];rfl
theorem ZaU (v:Zm) (hv:v.S.size≤4194304):∀ (r:List UInt8) (n k:Nat) (acc:List UInt8),(bs v.S).drop k=r→r.length < n→acc.length+2 * r.length≤16777216 →
  Ts N v n (Zu acc) (k:Int)=some (Zu (acc++TV r++[34]))
 | [],n,k,acc,h,hn,ha=>by
  obtain ⟨n,rfl⟩:=pS n (by simp at hn;omega)
  have hk:=Y2 h
  simp only [List.length_nil] at ha
  rw [Ts,ZbA hk]
  simp only [cond_false]
  unfold HB
  rw [show (34:Int)=(((34:UInt8).toNat:Nat):Int) from rfl,Zb6 (by omega)]
  unfold Zcy
  simp only [bS]
  rw [Zml (by simp) (by simp;omega)]
  simp [TV]
 | b::r,n,k,acc,h,hn,ha=>by
  obtain ⟨n,rfl⟩:=pS n (by simp at hn;omega)
  obtain ⟨hk,hb,hr⟩:=YU h
  simp only [Zg] at hn ha
  rw [Ts,Bq hk,SF,hb]
  rw [Yd] at hv
  simp only [cT,Option.map_some,bS]
  have e34:(((b.toNat:Nat):Int)==34)=decide (b=34):=by
   by_cases c:b=34
   ·subst c;rfl
   ·rw [dF c]
    have:b.toNat≠34:=fun h=>c (UInt8.toNat_inj.1 h)
    simp;omega
  have e92:(((b.toNat:Nat):Int)==92)=decide (b=92):=by
   by_cases c:b=92
   ·subst c;rfl
   ·rw [dF c]
    have:b.toNat≠92:=fun h=>c (UInt8.toNat_inj.1 h)
    simp;omega
  rw [e34,e92,D9,ZH (by omega)]
  rw [show (92:Int)=(((92:UInt8).toNat:Nat):Int) from rfl,Zb6 (by omega),Zb6 (a:=acc) (by omega)]
  simp only [bS]
  rw [Zb6 (by simp;omega)]
  simp only [bS]
  have q2:QZ b=if b=34∨b=92 then [92,b] else [b]:=rfl
  by_cases c1:b=34
  ·rw [dT c1,cT,ZaU v (by rw [Yd];exact hv) r n (k+1) _ hr (by omega) (by simp;omega),q2,if_pos (.inl c1)]
   simp
  ·rw [dF c1]
   by_cases c2:b=92
   ·rw [dT c2,cond_false,cT,ZaU v (by rw [Yd];exact hv) r n (k+1) _ hr (by omega) (by simp;omega),q2,if_pos (.inr c2)]
    simp
   ·rw [dF c2,cond_false,cond_false,ZaU v (by rw [Yd];exact hv) r n (k+1) _ hr (by omega) (by simp;omega),q2,if_neg (by simp [c1,c2])]
    simp
theorem Zgb (hN:4194304 < N) {v:Zm} (h:QK v):Mt N v=some (Zu (Wp v)):=by
 unfold Mt
 have hs:=h.s
 rw [Zf7 hN v h.s]
 unfold Wp
 simp only [bS]
 cases hv:WZ v with
 | false=>rfl
 | true =>
  simp only [Zh,cond_false,cT]
  by_cases c:v.Kind=1
  ·rw [show (v.Kind==1)=true by simp [c],if_pos c,Ln]
   simp only [cT]
   unfold Wg
   rw [dT h.n.1,dT h.n.2];rfl
  ·rw [show (v.Kind==1)=false by simp [c],if_neg c]
   simp only [cond_false]
   rw [Yd] at hs
   have e0:Dx N 34 ByteArray.empty=some ((),Zu [34]):=by
    unfold Dx BJ
    rw [bS]
    have:=Zhh (a:=[]) (b:=34) (by simp)
    have e1:Zu []=ByteArray.empty:=rfl
    rw [e1] at this
    rw [show (34:Int)=(((34:UInt8).toNat:Nat):Int) from rfl,this];rfl
   rw [e0]
   simp only [bS]
   exact ZaU v h.s (bs v.S) N 0 [34] rfl (by omega) (by simp;omega)
def U4 (r:List Zm):List UInt8:=(r.map fun v=>[44,32]++Wp v).flatten
theorem Zgs (v:Zm) (r:List Zm):U4 (v::r)=[44,32]++Wp v++U4 r:=rfl
theorem ZgX:∀ (r:List Zm),(∀ v∈r,v.S.size≤4194304)→(U4 r).length≤r.length * 8388612
 | [],_=>Nat.le_refl _
 | v::r,h=>by
  have h1:=ZgX r fun x hx=>h x (List.mem_cons_of_mem _ hx)
  have h2:=HD (h v List.mem_cons_self)
  rw [Zgs,lA,lA,Zg]
  simp only [Zg,List.length_nil]
  omega
def Tp:List Zm→List UInt8
 | []=>[40,41]
 | v::r=>[40]++Wp v++U4 r++[41]
theorem Zgh {l:List Zm} (hl:l.length≤4194304) (h:∀ v∈l,v.S.size≤4194304):(Tp l).length≤35184397000000:=by
 cases l with
 | nil=>simp [Tp]
 | cons v r =>
  have h1:=ZgX r fun x hx=>h x (List.mem_cons_of_mem _ hx)
  have h2:=HD (h v List.mem_cons_self)
  simp only [Tp,lA,Zg,List.length_nil] at *
  omega
theorem ZjK (hN:4194304 < N) (l:List Zm) (hl:l.length≤4194304):∀ (r:List Zm) (n k:Nat) (acc:List UInt8),0 < k→l.drop k=r→(∀ v∈r,QK v)→r.length < n→acc.length+r.length * 8388612≤4611686018427387904 →
  UU N l n (Zu acc) (k:Int)=some (Zu (acc++U4 r++[41]))
 | [],n,k,acc,h0,h,hr,hn,ha=>by
  obtain ⟨n,rfl⟩:=pS n (by simp at hn;omega)
  rw [UU,ZK (Y2 h)]
  simp only [cond_false]
  unfold Ga
  rw [show str [41]=Zu [41] from rfl,ZS (by simp at *;omega)]
  simp [U4]
 | v::r,n,k,acc,h0,h,hr,hn,ha=>by
  obtain ⟨n,rfl⟩:=pS n (by simp at hn;omega)
  obtain ⟨hk,hb,hd⟩:=YU h
  simp only [Zg] at hn ha
  have h1:=hr v List.mem_cons_self
  have h2:=HD h1.s
  rw [UU,ZI hk,dT (show (k:Int) > 0 by omega),Zw,hb]
  simp only [cT,bS]
  rw [ZcO hN h1,show str [44,32]=Zu [44,32] from rfl,ZS (by simp;omega)]
  simp only [bS]
  rw [ZS (by simp;omega)]
  simp only [bS]
  rw [ZH (by omega),ZjK hN l hl r n (k+1) _ (by omega) hd (fun x hx=>hr x (List.mem_cons_of_mem _ hx)) (by omega) (by simp;omega),Zgs]
  simp
theorem Zpa (hN:4194304 < N) {l:List Zm} (hl:l.length≤4194304) (h:∀ v∈l,QK v):z164 N l=some (Zu (Tp l)):=by
 unfold z164
 obtain ⟨M,rfl⟩:∃ m,N=m+1:=⟨N-1,by omega⟩
 cases l with
 | nil=>rw [UU];rfl
 | cons v r =>
  have h1:=h v List.mem_cons_self
  have h2:=HD h1.s
  rw [UU,show (0:Int)=((0:Nat):Int) from rfl,ZI (by simp),dF (show ¬ ((0:Nat):Int) > ((0:Nat):Int) by omega),Zw]
  simp only [cT,cond_false,bS,List.getElem?_cons_zero]
  rw [ZcO hN h1,show str [40]=Zu [40] from rfl,bS,ZS (by simp;omega)]
  simp only [bS,Zg] at hl ⊢
  rw [ZH (by omega),ZjK hN (v::r) (by simp;omega) r M 1 _ (by omega) rfl (fun x hx=>h x (List.mem_cons_of_mem _ hx)) (by omega) (by simp;omega)]
  rfl
theorem Zib (hN:4194304 < N) (l:List Zm) (hl:l.length≤4194304):∀ (r:List Zm) (n k:Nat) (acc:List ByteArray),l.drop k=r→(∀ v∈r,QK v)→r.length < n→acc.length+r.length≤4194304 →
  Qi N l n acc (k:Int)=Mk N (acc++r.map fun v=>Zu (Wp v))
 | [],n,k,acc,h,hr,hn,ha=>by
  obtain ⟨n,rfl⟩:=pS n (by simp at hn;omega)
  rw [Qi,ZK (Y2 h)]
  simp
 | v::r,n,k,acc,h,hr,hn,ha=>by
  obtain ⟨n,rfl⟩:=pS n (by simp at hn;omega)
  obtain ⟨hk,hb,hd⟩:=YU h
  simp only [Zg] at hn ha
  have h1:=hr v List.mem_cons_self
  rw [Qi,ZI hk,Zw,hb]
  simp only [cT,bS]
  rw [Zgb hN h1,bS,YC (by simp;omega),bS,ZH (by omega),Zib hN l hl r n (k+1) _ hd (fun x hx=>hr x (List.mem_cons_of_mem _ hx)) (by omega) (by simp;omega)]
  simp
theorem ZnI (r:List Zm):Xr [44,32] ((r.map fun v=>Zu (Wp v)).map (·.data.toList))=match r with | []=>[] | v::r=>Wp v++U4 r:=by
  have e:∀ r:List Zm,(r.map fun v=>Zu (Wp v)).map (·.data.toList)=r.map Wp:=fun r=>by
    rw [List.map_map]
    exact List.map_congr_left fun v _=>YQ _
  rw [e]
  cases r with
  | nil=>rfl
  | cons v r =>
    simp only [List.map_cons,Xr]
    unfold U4
    rw [List.map_map];rfl
theorem Zsa (hN:4194304 < N) {l:List Zm} (hl:l.length≤4194304) (h:∀ v∈l,QK v):HG N l=some (Zu (Tp l)):=by
 unfold HG
 have:=Zib hN l hl l N 0 [] rfl h (by omega) (by simp;omega)
 rw [show (0:Int)=((0:Nat):Int) from rfl,this]
 have hlen:=Zgh hl fun v hv=>(h v hv).s
 unfold Mk TW
 rw [List.nil_append,show (str [44,32]).data.toList=[44,32] from rfl,ZnI,List.length_map,dT (show l.length≤140737488355328 by omega)]
 cases l with
 | nil=>rfl
 | cons v r =>
  simp only [Tp,lA,Zg,List.length_nil] at hlen
  simp only [lA]
  rw [dT (show (Wp v).length+(U4 r).length≤140737488355328 by omega)]
  simp only [Bool.and_self,cT,bS]
  rw [show (⟨(Wp v++U4 r).toArray⟩:ByteArray)=Zu (Wp v++U4 r) from rfl,show str [40]=Zu [40] from rfl,show str [41]=Zu [41] from rfl,ZS (by simp;omega),bS,ZS (by simp;omega)]
  simp [Tp]
end
section
variable {N:Nat}
def W2 (l:List ByteArray) (i:Int):ByteArray:=if 0≤i then l[i.toNat]?.getD (str [63]) else str [63]
theorem ZfN {l:List ByteArray} (h:∀ s∈l,s.size≤4194304) (i:Int):(bs (W2 l i)).length≤4194304:=by
 unfold W2
 split
 ·cases hc:l[i.toNat]? with
  | none=>simp [bs,str]
  | some s =>
   have:=h s (Zb hc)
   rw [Yd] at this
   exact this
 ·simp [bs,str]
theorem H4 (l:List ByteArray) (i:Int):Tx N l i=some (W2 l i):=by
 unfold Tx W2
 by_cases c1:i < 0
 ·rw [dT c1,if_neg (by omega)];rfl
 ·obtain ⟨k,rfl⟩:=Ze (show 0≤i by omega)
  rw [dF c1,if_pos (by omega),Zw]
  by_cases c2:(k:Int)≥(l.length:Int)
  ·rw [dT c2,show l[(k:Int).toNat]? = none from List.getElem?_eq_none (by omega)];rfl
  ·have hv:=Za (show k < l.length by omega)
   rw [dF c2,show l[(k:Int).toNat]? = l[k]? from rfl,hv];rfl
theorem Zgi (g:T5) (i:Int):Sq N g i=some (W2 g.Roles i):=by
 rw [← H4 (N:=N)];rfl
theorem Zle (g:T5) (i:Int):HA N g i=some (W2 (g.Decls.map (·.Name)) i):=by
  rw [← H4 (N:=N)]
  unfold HA Tx
  rw [List.length_map]
  by_cases c1:i < 0
  · rw [dT c1];rfl
  · obtain ⟨k,rfl⟩:=Ze (show 0≤i by omega)
    rw [Zw,Zw,List.getElem?_map]
    cases g.Decls[k]?<;>rfl
theorem Zjl (l:List T0) (hl:l.length≤4194304):∀ (r:List T0) (n k:Nat) (acc:List ByteArray),l.drop k=r→r.length < n→acc.length+r.length≤4194304 →
    RT l n acc (k:Int)=some (acc++r.map (·.Name))
  | [],n,k,acc,h,hn,ha=>by
    obtain ⟨n,rfl⟩:=pS n (by simp at hn;omega)
    rw [RT,ZK (Y2 h)]
    simp [Di]
  | v::r,n,k,acc,h,hn,ha=>by
    obtain ⟨n,rfl⟩:=pS n (by simp at hn;omega)
    obtain ⟨hk,hb,hd⟩:=YU h
    simp only [Zg] at hn ha
    rw [RT,ZI hk,Zw,hb]
    simp only [cT,bS]
    rw [YC (by simp;omega),bS,ZH (by omega),Zjl l hl r n (k+1) _ hd (by omega) (by simp;omega)]
    simp
theorem Zoi (hN:4194304 < N) (l:List T0) (hl:l.length≤4194304):BG N l=some (l.map (·.Name)) :=
  Zjl l hl l N 0 [] rfl (by omega) (by simp;omega)
structure ShowOk (g:T5) (x:T3):Prop where
 r:∀ s∈g.Roles,s.size≤4194304
 d:g.Decls.length≤4194304
 n:∀ y∈g.Decls,y.Name.size≤4194304
 l:x.Values.length≤4194304
 v:∀ v∈x.Values,QK v
def Rh (g:T5) (x:T3):List UInt8 :=
  bs (W2 g.Roles x.Role)++(bif x.Send then [32,115,101,110,100,115,32] else [32,103,101,116,115,32])++bs (W2 (g.Decls.map (·.Name)) x.Label)++Tp x.Values++(bif x.Send then [32,116,111,32] else [32,102,114,111,109,32])++bs (W2 g.Roles x.Peer)
theorem ShowOk.sizes {g:T5} {x:T3} (h:ShowOk g x):(∀ i,(bs (W2 g.Roles i)).length≤4194304)∧(∀ i,(bs (W2 (g.Decls.map (·.Name)) i)).length≤4194304)∧(Tp x.Values).length≤35184397000000 :=
  ⟨ZfN h.r,ZfN fun s hs=>by obtain ⟨y,hy,rfl⟩:=List.mem_map.1 hs;exact h.n y hy,Zgh h.l fun v hv=>(h.v v hv).s⟩
theorem Zqq {g:T5} {x:T3} (h:ShowOk g x):(Rh g x).length≤35184500000000:=by
 obtain ⟨h1,h2,h3⟩:=h.sizes
 have a1:=h1 x.Role
 have a2:=h1 x.Peer
 have a3:=h2 x.Label
 unfold Rh
 cases x.Send<;>simp only [cT,cond_false,lA,Zg,List.length_nil]<;>omega
theorem Uz {s:ByteArray} {b:List UInt8} (h:(bs s).length+b.length≤9223372036854775807):Zv s (Zu b)=some (Zu (bs s++b)):=by
 have:=ZS (a:=bs s) (b:=b) h
 rw [Ln] at this
 exact this
theorem YE {s:ByteArray} {b:List UInt8} (h:b.length+(bs s).length≤9223372036854775807):Zv (Zu b) s=some (Zu (b++bs s)):=by
 have:=ZS (a:=b) (b:=bs s) h
 rw [Ln] at this
 exact this
theorem ZlY (hN:4194304 < N) {g:T5} {x:T3} (h:ShowOk g x):LN N g x=some (Zu (Rh g x)):=by
  obtain ⟨h1,h2,h3⟩:=h.sizes
  have a1:=h1 x.Role
  have a2:=h1 x.Peer
  have a3:=h2 x.Label
  have key:∀ a b:List UInt8,a.length≤100→b.length≤100→QM N g x (Zu a) (Zu b)=some (Zu (bs (W2 g.Roles x.Role)++a++bs (W2 (g.Decls.map (·.Name)) x.Label)++Tp x.Values++b++bs (W2 g.Roles x.Peer))):=by
    intro a b ha hb
    unfold QM
    rw [H4,Zoi hN _ h.d,Zsa hN h.l h.v]
    simp only [bS,H4]
    rw [Uz (by omega),bS,YE (by simp only [lA];omega),bS,ZS (by simp only [lA];omega),bS,ZS (by simp only [lA];omega),bS,YE (by simp only [lA];omega),bS]
  unfold LN Rh
  cases x.Send
  · exact key _ _ (by decide) (by decide)
  · exact key _ _ (by decide) (by decide)
theorem ZrP (hN:4194304 < N) {g:T5} {x:T3} (h:ShowOk g x):GJ N g x=some (Zu (Rh g x)):=by
 obtain ⟨h1,h2,h3⟩:=h.sizes
 have a1:=h1 x.Role
 have a2:=h1 x.Peer
 have a3:=h2 x.Label
 unfold GJ Rh
 rw [Zle,Zpa hN h.l h.v]
 simp only [bS,Zgi]
 rw [Uz (by omega),bS]
 cases x.Send
 ·simp only [cond_false]
  rw [show str [32,103,101,116,115,32]=Zu [32,103,101,116,115,32] from rfl,show str [32,102,114,111,109,32]=Zu [32,102,114,111,109,32] from rfl,
   Uz (by simp;omega),bS,ZS (by simp;omega),bS,ZS (by simp;omega),bS,YE (by simp;omega),bS]
  simp
 ·simp only [cT]
  rw [show str [32,115,101,110,100,115,32]=Zu [32,115,101,110,100,115,32] from rfl,show str [32,116,111,32]=Zu [32,116,111,32] from rfl,
   Uz (by simp;omega),bS,ZS (by simp;omega),bS,ZS (by simp;omega),bS,YE (by simp;omega),bS]
  simp
end
end Gp
