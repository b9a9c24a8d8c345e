/- The plain law, part 1: what the functions compute answers as the statement says. -/
import Derived.Lib.Bytealg
import Derived.Test.YtknelkokbekhnaaGreatDoorNamesTakesPure
set_option linter.all false
section
section
namespace Gp
open Go Go.Kx
theorem dF {p:Prop} [Decidable p] (h:¬p):decide p=false:=decide_eq_false h
theorem dT {p:Prop} [Decidable p] (h:p):decide p=true:=decide_eq_true h
theorem bS {α β:Type _} (a:α) (f:α→Option β):(some a).bind f=f a:=rfl
theorem cF {α:Sort _} {a b:α}:(bif false then a else b)=b:=rfl
theorem cT {α:Sort _} {a b:α}:(bif true then a else b)=a:=rfl
theorem aA {α:Type _} (a b c:List α):(a++b)++c=a++(b++c):=List.append_assoc a b c
theorem lA {α:Type _} {a b:List α}:(a++b).length=a.length+b.length:=List.length_append
theorem w64_id {n:Int} (h1:-9223372036854775808≤n) (h2:n≤9223372036854775807):w64 n=n:=by
 show IntKind.i64.wrap n=n
 simp [IntKind.wrap,IntKind.signed,IntKind.bits]
 omega
theorem w64_succ {n:Nat} (h:n < 4611686018427387904):w64 ((n:Int)+1)=((n+1:Nat):Int):=by rw [w64_id (by omega) (by omega)];omega
theorem idx_nat {α:Type} (xs:List α) (k:Nat):idx xs (k:Int)=xs[k]? := by
 unfold idx
 have:decide (0≤(k:Int))=true:=by simp
 rw [this];simp
theorem appL_some {α:Type} {xs ys:List α} (h:xs.length+ys.length≤4294967296):appL xs ys=some (xs++ys):=by
 unfold appL
 have:Nat.ble (xs.length+ys.length) lim=true:=Nat.ble_eq_true_of_le h
 rw [this];rfl
theorem drop_cons {α:Type} {xs:List α} {k:Nat} {x:α} {l:List α} (h:xs.drop k=x::l):k < xs.length∧xs[k]? = some x∧xs.drop (k+1)=l:=by
 have hlt:k < xs.length:=by
  rcases Nat.lt_or_ge k xs.length with h' | h'
  ·exact h'
  ·rw [List.drop_eq_nil_of_le h'] at h;cases h
 rw [List.drop_eq_getElem_cons hlt] at h
 simp only [List.cons.injEq] at h
 exact ⟨hlt,by rw [List.getElem?_eq_getElem hlt,h.1],h.2⟩
theorem drop_nil {α:Type} {xs:List α} {k:Nat} (h:xs.drop k=[]):xs.length≤k:=by simpa using h
theorem lt_t {k n:Nat} (h:k < n):decide ((k:Int) < (n:Int))=true:=by simp [h]
theorem lt_f {k n:Nat} (h:n≤k):decide ((k:Int) < (n:Int))=false:=by simp;omega
end Gp
end
section
namespace Gp
open Go Go.Kx
def Lt {α:Type} (K:α→Int) (r:α→α→Prop) (x y:α):Prop:=K x < K y∨(K x=K y∧r x y)
def Srt {α:Type} (K:α→Int) (r:α→α→Prop) (l:List α):Prop:=l.Pairwise (Lt K r)
variable {α:Type} {K:α→Int} {r:α→α→Prop}
inductive Bk (K:α→Int) (r:α→α→Prop) (n:Nat):List α→List α→Prop
 | last (o c:List α):c.length≤n→c.Perm o→Srt K r c→Bk K r n o c
 | cons (o1 c1 o2 c2:List α):c1.length=n→c1.Perm o1→Srt K r c1→Bk K r n o2 c2→Bk K r n (o1++o2) (c1++c2)
theorem Bk.few {n:Nat} {o c:List α} (h:Bk K r n o c) (hn:0 < n) (hc:c.length < 2 * n) :
  (c.length≤n∧c.Perm o∧Srt K r c)∨∃ o1 o2 c1 c2,o=o1++o2∧c=c1++c2∧c1.length=n∧0 < c2.length∧c2.length≤n∧c1.Perm o1∧c2.Perm o2∧Srt K r c1∧Srt K r c2:=by
 cases h with
 | last _ _ h1 h2 h3=>exact .inl ⟨h1,h2,h3⟩
 | cons o1 c1 o2 c2 h1 h2 h3 h4 =>
  cases h4 with
  | last _ _ g1 g2 g3 =>
   rcases Nat.eq_zero_or_pos c2.length with h0 | h0
   ·have:c2=[]:=List.length_eq_zero_iff.mp h0
    subst this
    have:o2=[]:=by simpa using g2.symm
    subst this
    exact .inl ⟨by simp;omega,by simpa using h2,by simpa using h3⟩
   ·exact .inr ⟨o1,o2,c1,c2,rfl,rfl,h1,h0,g1,h2,g2,h3,g3⟩
  | cons p1 d1 p2 d2 g1 g2 g3 g4=>simp at hc;omega
theorem Bk.all {n:Nat} {o c:List α} (h:Bk K r n o c) (hn:0 < n) (hc:c.length≤n):c.Perm o∧Srt K r c:=by
 rcases h.few hn (by omega) with h | ⟨o1,o2,c1,c2,h1,h2,h3,h4,_⟩
 ·exact h.2
 ·subst h2;simp at hc;omega
end Gp
end
section
namespace Gp
open Go Go.Kx Gx
def eqStr (a b:ByteArray):Bool:=a.toList==b.toList
variable {N:Nat} (hN:4194304 < N)
end Gp
end
section
namespace Gp
open Go Go.Kx Gx
variable {N:Nat} (hN:4194304 < N)
end Gp
end
section
namespace Gp
open Go Go.Kx Gx
end Gp
end
section
namespace Gp
open Go Go.Kx Gx
def bs (s:ByteArray):List UInt8:=s.data.toList
theorem toList_bs (s:ByteArray):s.toList=bs s:=ByteArray.toList_eq s
theorem bs_inj {a b:ByteArray} (h:bs a=bs b):a=b:=by
 cases a with | mk a=>cases b with | mk b=>simpa [bs] using h
theorem eqStr_iff (a b:ByteArray):eqStr a b=true↔a=b:=by
 unfold eqStr
 rw [beq_iff_eq,toList_bs,toList_bs]
 exact ⟨bs_inj,fun h=>by rw [h]⟩
variable {N:Nat} (hN:4194304 < N)
end Gp
end
section
namespace Gp
open Go Go.Kx Gx
variable {N:Nat}
end Gp
end
end
section
namespace Gp
open Go Go.Kx Gx
mutual
def oI:T8→T13
 | ⟨k,f,t,n,a,x,b⟩=>⟨k,f,t,n,a,x,oLL b⟩
def oL:List T8→List T13
 | []=>[]
 | x::l=>oI x::oL l
def oLL:List (List T8)→List (List T13)
 | []=>[]
 | x::l=>oL x::oLL l
end
theorem oL_map:∀ l,oL l=l.map oI
 | []=>by simp only [oL,List.map_nil]
 | x::l=>by simp only [oL,List.map_cons,oL_map l]
theorem oLL_map:∀ l,oLL l=l.map oL
 | []=>by simp only [oLL,List.map_nil]
 | x::l=>by simp only [oLL,List.map_cons,oLL_map l]
mutual
def dI:T13→Nat
 | ⟨_,_,_,_,_,_,b⟩=>dLL b+1
def dL:List T13→Nat
 | []=>0
 | x::l=>max (dI x) (dL l)
def dLL:List (List T13)→Nat
 | []=>0
 | x::l=>max (dL x) (dLL l)
end
mutual
def bI:T13→Prop
 | ⟨_,_,t,_,_,_,b⟩=>t.length≤4194304∧b.length≤4194304∧bLL b
def bL:List T13→Prop
 | []=>True
 | x::l=>bI x∧bL l
def bLL:List (List T13)→Prop
 | []=>True
 | x::l=>x.length≤4194304∧bL x∧bLL l
end
theorem dL_mem:∀ {l:List T13} {x},x∈l→dI x≤dL l
 | y::l,x,h=>by
  simp only [dL]
  rcases List.mem_cons.1 h with rfl | h
  ·omega
  ·have:=dL_mem h;omega
theorem dLL_mem:∀ {l:List (List T13)} {x},x∈l→dL x≤dLL l
 | y::l,x,h=>by
  simp only [dLL]
  rcases List.mem_cons.1 h with rfl | h
  ·omega
  ·have:=dLL_mem h;omega
theorem dI_eq (x:T13):dI x=dLL x.Blocks+1:=by cases x;simp only [dI]
theorem bL_mem:∀ {l:List T13} {x},bL l→x∈l→bI x
 | y::l,x,hb,h=>by
  simp only [bL] at hb
  rcases List.mem_cons.1 h with rfl | h
  ·exact hb.1
  ·exact bL_mem hb.2 h
theorem bLL_mem:∀ {l:List (List T13)} {x},bLL l→x∈l→x.length≤4194304∧bL x
 | y::l,x,hb,h=>by
  simp only [bLL] at hb
  rcases List.mem_cons.1 h with rfl | h
  ·exact ⟨hb.1,hb.2.1⟩
  ·exact bLL_mem hb.2.2 h
theorem bI_eq (x:T13):bI x↔x.To.length≤4194304∧x.Blocks.length≤4194304∧bLL x.Blocks:=by cases x;simp only [bI]
theorem oI_eq (x:T8):oI x=⟨x.Kind,x.From,x.To,x.Name,x.As,x.Ticks,oLL x.Blocks⟩:=by cases x;simp only [oI]
def Dq (o:Option Bool) (P:Prop):Prop:=∃ r,o=some r∧(r=true↔P)
theorem Dq.iff {o P Q} (h:Dq o P) (k:P↔Q):Dq o Q:=by
 obtain ⟨r,h1,h2⟩:=h
 exact ⟨r,h1,h2.trans k⟩
theorem Dq.bool (b:Bool):Dq (some b) (b=true):=⟨b,rfl,Iff.rfl⟩
theorem Dq.cA {c:Bool} {C P:Prop} {o:Option Bool} (hc:c=true↔C) (h:C→Dq o P):Dq (bif c then o else some false) (C∧P):=by
 cases c with
 | false=>exact ⟨false,rfl,by simp at hc ⊢;intro h;exact absurd h hc⟩
 | true =>
  have hC:=hc.1 rfl
  obtain ⟨r,h1,h2⟩:=h hC
  exact ⟨r,h1,by rw [h2];exact ⟨fun p=>⟨hC,p⟩,fun p=>p.2⟩⟩
theorem Dq.cN {c:Bool} {C P:Prop} {o:Option Bool} (hc:c=false↔C) (h:C→Dq o P):Dq (bif c then some false else o) (C∧P):=by
 cases c with
 | true=>exact ⟨false,rfl,by simp at hc ⊢;intro h;exact absurd h hc⟩
 | false =>
  have hC:=hc.1 rfl
  obtain ⟨r,h1,h2⟩:=h hC
  exact ⟨r,h1,by rw [h2];exact ⟨fun p=>⟨hC,p⟩,fun p=>p.2⟩⟩
theorem seq' {a b:ByteArray}:(a.toList==b.toList)=true↔a=b:=eqStr_iff a b
theorem get_lt {α:Type} {l:List α} {i:Nat} {x:α} (h:l[i]? = some x):i < l.length:=(List.getElem?_eq_some_iff.1 h).1
theorem dq_loop {α β:Type} {xs:List α} {ys:List β} (hl:xs.length=ys.length) (hs:xs.length≤4194304) {R:α→β→Prop} (F:Nat→Int→Option Bool) {E:Prop}
  (h1:∀ (n k:Nat) x y Q,k < 4194304→xs[k]? = some x→ys[k]? = some y→Dq (F n ((k+1:Nat):Int)) Q→Dq (F (n+1) (k:Int)) (R x y∧Q))
  (h2:∀ (n k:Nat),xs.length≤k→Dq (F (n+1) (k:Int)) E) {N:Nat} (hN:xs.length < N):Dq (F N (0:Int)) ((∀ (i:Nat) (x:α) (y:β),xs[i]? = some x→ys[i]? = some y→R x y)∧E):=by
 have key:∀ d k n,xs.length-k=d→d < n→Dq (F n (k:Int)) ((∀ (i:Nat) (x:α) (y:β),k≤i→xs[i]? = some x→ys[i]? = some y→R x y)∧E):=by
  intro d
  induction d with
  | zero =>
   intro k n h hn
   obtain ⟨n,rfl⟩:∃ m,n=m+1:=⟨n-1,by omega⟩
   refine (h2 n k (by omega)).iff ⟨fun h'=>⟨fun i x y hi hx _=>?_,h'⟩,fun h'=>h'.2⟩
   have:=get_lt hx;omega
  | succ d ih =>
   intro k n h hn
   obtain ⟨n,rfl⟩:∃ m,n=m+1:=⟨n-1,by omega⟩
   have hk:k < xs.length:=by omega
   have hk':k < ys.length:=by omega
   refine (h1 n k _ _ _ (by omega) (List.getElem?_eq_getElem hk) (List.getElem?_eq_getElem hk') (ih (k+1) n (by omega) (by omega))).iff ⟨fun h'=>⟨fun i x y hi hx hy=>?_,h'.2.2⟩,fun h'=>⟨?_,fun i x y hi hx hy=>h'.1 i x y (by omega) hx hy,h'.2⟩⟩
   ·rcases Nat.eq_or_lt_of_le hi with rfl | hi
    ·rw [List.getElem?_eq_getElem hk] at hx;rw [List.getElem?_eq_getElem hk'] at hy
     cases hx;cases hy;exact h'.1
    ·exact h'.2.1 i x y hi hx hy
   ·exact h'.1 k _ _ (Nat.le_refl _) (List.getElem?_eq_getElem hk) (List.getElem?_eq_getElem hk')
 refine (key xs.length 0 N rfl hN).iff ⟨fun h=>⟨fun i x y hx hy=>h.1 i x y (Nat.zero_le _) hx hy,h.2⟩,fun h=>⟨fun i x y _ hx hy=>h.1 i x y hx hy,h.2⟩⟩
variable {N:Nat} (hN:4194304 < N)
def bM (m:T14):Prop:=m.Fields.length≤4194304∧m.Where.length≤4194304
structure bP (p:T15):Prop where
 r:p.Roles.length≤4194304
 m:p.Messages.length≤4194304
 ms:∀ x∈p.Messages,bM x
 l:p.Body.length≤4194304
 b:bL p.Body
end Gp
end
section
namespace Gp
open Go Go.Kx Gx
theorem fold_loop {α γ σ:Type} (xs:List α) (F:Nat→σ→Int→γ) (step:σ→α→σ) (fin:σ→γ) (Inv:Nat→σ→Prop)
  (h1:∀ (n k:Nat) s x,Inv k s→xs[k]? = some x→F (n+1) s (k:Int)=F n (step s x) ((k+1:Nat):Int)∧Inv (k+1) (step s x))
  (h2:∀ (n k:Nat) s,Inv k s→xs.length≤k→F (n+1) s (k:Int)=fin s) {N:Nat} {s:σ} (hN:xs.length < N) (h0:Inv 0 s) :
  F N s (0:Int)=fin (xs.foldl step s)∧Inv xs.length (xs.foldl step s):=by
 have key:∀ (l:List α) (k n:Nat) (s:σ),xs.drop k=l→l.length < n→Inv k s→F n s (k:Int)=fin (l.foldl step s)∧Inv (k+l.length) (l.foldl step s):=by
  intro l
  induction l with
  | nil =>
   intro k n s h hn hi
   obtain ⟨n,rfl⟩:∃ m,n=m+1:=⟨n-1,by simp at hn;omega⟩
   exact ⟨h2 n k s hi (drop_nil h),hi⟩
  | cons x l ih =>
   intro k n s h hn hi
   obtain ⟨n,rfl⟩:∃ m,n=m+1:=⟨n-1,by simp at hn;omega⟩
   obtain ⟨a,c,d⟩:=drop_cons h
   obtain ⟨e1,e2⟩:=h1 n k s x hi c
   obtain ⟨e3,e4⟩:=ih (k+1) n _ d (by simp at hn;omega) e2
   refine ⟨e1.trans e3,?_⟩
   rw [List.length_cons,show k+(l.length+1)=k+1+l.length by omega]
   exact e4
 have:=key xs 0 N s rfl hN h0
 rw [Nat.zero_add] at this
 exact this
mutual
def cI:T13→Nat
 | ⟨_,_,_,_,_,_,b⟩=>cLL b+1
def cL:List T13→Nat
 | []=>0
 | x::l=>cI x+cL l
def cLL:List (List T13)→Nat
 | []=>0
 | x::l=>cL x+cLL l
end
theorem cI_eq (x:T13):cI x=cLL x.Blocks+1:=by cases x;simp only [cI]
mutual
theorem dc_I:∀ x,dI x≤cI x
 | ⟨_,_,_,_,_,_,b⟩=>by simp only [dI,cI];have:=dc_LL b;omega
theorem dc_L:∀ l,dL l≤cL l
 | []=>by simp only [dL,cL];omega
 | x::l=>by simp only [dL,cL];have:=dc_I x;have:=dc_L l;omega
theorem dc_LL:∀ l,dLL l≤cLL l
 | []=>by simp only [dLL,cLL];omega
 | x::l=>by simp only [dLL,cLL];have:=dc_L x;have:=dc_LL l;omega
end
theorem drop_get {α:Type} {xs:List α} {k:Nat} {x:α} (h:xs[k]? = some x):xs.drop k=x::xs.drop (k+1):=by
 obtain ⟨hk,rfl⟩:=List.getElem?_eq_some_iff.1 h
 exact List.drop_eq_getElem_cons hk
theorem cL_fold:∀ (l:List T8) (s:Int),l.foldl (fun s x=>s+(cI (oI x):Int)) s=s+(cL (oL l):Int)
 | [],s=>by simp [oL,cL]
 | x::l,s=>by rw [List.foldl_cons,cL_fold l];simp only [oL,cL];push_cast;omega
theorem cLL_fold:∀ (l:List (List T8)) (s:Int),l.foldl (fun s x=>s+(cL (oL x):Int)) s=s+(cLL (oLL l):Int)
 | [],s=>by simp [oLL,cLL]
 | x::l,s=>by rw [List.foldl_cons,cLL_fold l];simp only [oLL,cLL];push_cast;omega
theorem oLL_len (l:List (List T8)):(oLL l).length=l.length:=by rw [oLL_map,List.length_map]
theorem oL_len (l:List T8):(oL l).length=l.length:=by rw [oL_map,List.length_map]
theorem oL_in {l:List T8} {x} (h:x∈l):oI x∈oL l:=by rw [oL_map];exact List.mem_map.2 ⟨x,h,rfl⟩
theorem oLL_in {l:List (List T8)} {x} (h:x∈l):oL x∈oLL l:=by rw [oLL_map];exact List.mem_map.2 ⟨x,h,rfl⟩
theorem oI_blocks (x:T8):(oI x).Blocks=oLL x.Blocks:=by rw [oI_eq]
theorem count_eq':∀ (N:Nat) (xs:List T8),4194306+dL (oL xs)≤N→xs.length≤4194304→bL (oL xs)→cL (oL xs)≤1099511627776→z39 N xs=some ((cL (oL xs):Nat):Int)
 | 0,_,h,_,_,_=>by omega
 | N+1,xs,h,hs,hb,hc=>by
  show z39_b N (z39 N) xs=_
  unfold z39_b
  have hN:4194304 < N:=by omega
  have inner:∀ (k:Nat) (x:T8) (s:Int) (ag:Int→Int→Option Int),xs[k]? = some x→0≤s→s+(cLL (oLL x.Blocks):Int)≤1099511627776 →
    z39_l4 (z39 N) xs (k:Int) ag N s (0:Int)=ag (s+(cLL (oLL x.Blocks):Int)) ((k+1:Nat):Int):=by
   intro k x s ag hx h0 hle
   have hm:=List.mem_of_getElem? hx
   have hbx:=(bI_eq _).1 (bL_mem hb (oL_in hm))
   rw [oI_blocks,oLL_len] at hbx
   have hdx:=dL_mem (oL_in hm)
   rw [dI_eq,oI_blocks] at hdx
   have hk:=get_lt hx
   have:=(fold_loop x.Blocks (z39_l4 (z39 N) xs (k:Int) ag) (fun s b=>s+(cL (oL b):Int)) (fun s=>ag s ((k+1:Nat):Int))
    (fun j s=>0≤s∧s+(cLL (oLL (x.Blocks.drop j)):Int)≤1099511627776) (fun n j s b hi hj=>?_) (fun n j s hi hj=>?_) (N:=N) (s:=s) (by omega) ⟨h0,by rw [List.drop_zero];exact hle⟩).1
   ·rw [this,cLL_fold]
   ·obtain ⟨h1,h2⟩:=hi
    rw [drop_get hj] at h2
    simp only [oLL,cLL] at h2
    have hmb:=List.mem_of_getElem? hj
    have hbb:=bLL_mem hbx.2.2 (oLL_in hmb)
    have hdb:=dLL_mem (oLL_in hmb)
    rw [oL_len] at hbb
    have e:=count_eq' N b (by omega) hbb.1 hbb.2 (by omega)
    refine ⟨?_,by omega,by push_cast at h2;omega⟩
    simp only [z39_l4,idx_nat,hx,bS,lt_t (get_lt hj),cT,hj,e]
    rw [w64_id (by omega) (by omega),w64_succ (by have:=get_lt hj;omega)]
   ·simp only [z39_l4,idx_nat,hx,bS,lt_f hj,cF,z39_k3]
    rw [w64_succ (by omega)]
  have:=(fold_loop xs (z39_l2 N (z39 N) xs) (fun s x=>s+(cI (oI x):Int)) (fun s=>some s)
   (fun j s=>0≤s∧s+(cL (oL (xs.drop j)):Int)≤1099511627776) (fun n k s x hi hx=>?_) (fun n k s hi hk=>?_) (N:=N) (s:=0) (by omega) ⟨by omega,by rw [List.drop_zero];omega⟩).1
  ·rw [this,cL_fold];simp
  ·obtain ⟨h1,h2⟩:=hi
   rw [drop_get hx] at h2
   simp only [oL,cL] at h2
   have hcx:=cI_eq (oI x)
   rw [oI_blocks] at hcx
   refine ⟨?_,by omega,by push_cast at h2;omega⟩
   simp only [z39_l2,lt_t (get_lt hx),cT]
   rw [w64_id (by omega) (by omega),inner k x (s+1) _ hx (by omega) (by omega),hcx]
   congr 1
   push_cast;omega
  ·simp only [z39_l2,lt_f hk,cF,z39_k1]
def oA (a:T7):T12:=⟨a.Left,a.Op,a.Right⟩
def oM (m:T9):T14:=⟨m.Name,m.Fields,m.Where.map oA⟩
def oP (p:T10):T15:=⟨p.Name,p.Roles,p.Messages.map oM,oL p.Body⟩
theorem snoc_fold {α β:Type} (f:α→β):∀ (l:List α) (s:List β),l.foldl (fun s x=>s++[f x]) s=s++l.map f
 | [],s=>by simp
 | x::l,s=>by rw [List.foldl_cons,snoc_fold f l,List.map_cons];simp
theorem own_items:∀ (N:Nat) (xs:List T8),4194306+dL (oL xs)≤N→xs.length≤4194304→bL (oL xs)→z31 N xs=some (oL xs)
 | 0,_,h,_,_=>by omega
 | N+1,xs,h,hs,hb=>by
  show z31_b N (z31 N) xs=_
  unfold z31_b
  have hN:4194304 < N:=by omega
  have inner:∀ (k:Nat) (x:T8) (acc:List T13) (ag:List T13→Int→Option (List T13)),xs[k]? = some x→acc.length≤4194304 →
    z31_l4 (z31 N) acc (k:Int) ag x N [] (0:Int)=ag (acc++[oI x]) ((k+1:Nat):Int):=by
   intro k x acc ag hx hacc
   have hm:=List.mem_of_getElem? hx
   have hbx:=(bI_eq _).1 (bL_mem hb (oL_in hm))
   rw [oI_blocks,oLL_len] at hbx
   have hdx:=dL_mem (oL_in hm)
   rw [dI_eq,oI_blocks] at hdx
   have hk:=get_lt hx
   have:=(fold_loop x.Blocks (z31_l4 (z31 N) acc (k:Int) ag x) (fun s b=>s++[oL b]) (fun s=>z31_k3 acc (k:Int) ag x s)
    (fun j s=>s.length=j) (fun n j s b hi hj=>?_) (fun n j s hi hj=>?_) (N:=N) (s:=[]) (by omega) rfl).1
   ·rw [this,snoc_fold,List.nil_append,← oLL_map]
    unfold z31_k3
    rw [appL_some (by simp;omega),bS,w64_succ (by omega),oI_eq]
   ·have hmb:=List.mem_of_getElem? hj
    have hbb:=bLL_mem hbx.2.2 (oLL_in hmb)
    have hdb:=dLL_mem (oLL_in hmb)
    rw [oL_len] at hbb
    have e:=own_items N b (by omega) hbb.1 hbb.2
    have hjl:=get_lt hj
    refine ⟨?_,by simp [hi]⟩
    simp only [z31_l4,lt_t hjl,cT,idx_nat,hj,bS,e]
    rw [appL_some (by simp;omega),bS,w64_succ (by omega)]
   ·simp only [z31_l4,lt_f hj,cF]
  have:=(fold_loop xs (z31_l2 N (z31 N) xs) (fun s x=>s++[oI x]) (fun s=>some s)
   (fun j s=>s.length=j) (fun n k s x hi hx=>?_) (fun n k s hi hk=>?_) (N:=N) (s:=[]) (by omega) rfl).1
  ·rw [this,snoc_fold,List.nil_append,← oL_map]
  ·have hk:=get_lt hx
   refine ⟨?_,by simp [hi]⟩
   simp only [z31_l2,lt_t hk,cT,idx_nat,hx,bS]
   rw [inner k x s _ hx (by omega)]
  ·simp only [z31_l2,lt_f hk,cF,z31_k1]
end Gp
end
section
namespace Gp
open Go Go.Kx Gx
variable {N:Nat} (hN:4194304 < N)
def RP (p:T10):Prop:=bP (oP p)
theorem oM_w (m:T9):(oM m).Where.length=m.Where.length:=by show (m.Where.map oA).length=_;simp
theorem RP_ms {p:T10} (h:RP p) {m} (hm:m∈p.Messages):m.Fields.length≤4194304∧m.Where.length≤4194304:=by
 have:=h.ms (oM m) (List.mem_map.2 ⟨m,hm,rfl⟩)
 have h2:=this.2
 rw [oM_w] at h2
 exact ⟨this.1,h2⟩
theorem RP_m {p:T10} (h:RP p):p.Messages.length≤4194304:=by
 have:=h.m
 have e:(oP p).Messages.length=p.Messages.length:=by show (p.Messages.map oM).length=_;simp
 omega
theorem RP_l {p:T10} (h:RP p):p.Body.length≤4194304:=by
 have:=h.l
 have e:(oP p).Body.length=p.Body.length:=oL_len _
 omega
include hN in
theorem own_eq (xs:List T10) (hs:xs.length≤4194304) (hb:∀ p∈xs,RP p∧4194306+dL (oL p.Body)≤N):z10 N xs=some (xs.map oP):=by
 unfold z10
 have i3:∀ (ms:List T14) (j:Nat) (ag:List T14→Int→Option (List T15)) (m:T9),ms.length≤4194304→j < 4194304→m.Where.length≤4194304 →
   z10_l6 ms (j:Int) ag m N [] (0:Int)=ag (ms++[oM m]) ((j+1:Nat):Int):=by
  intro ms j ag m h1 h2 h3
  have:=(fold_loop m.Where (z10_l6 ms (j:Int) ag m) (fun s a=>s++[oA a]) (fun s=>z10_k5 ms (j:Int) ag m s) (fun i s=>s.length=i)
   (fun n i s a hi ha=>?_) (fun n i s hi ha=>?_) (N:=N) (s:=[]) (by omega) rfl).1
  ·rw [this,snoc_fold,List.nil_append]
   unfold z10_k5
   rw [appL_some (by simp;omega),bS,w64_succ (by omega)]
   rfl
  ·have hj:=get_lt ha
   refine ⟨?_,by simp [hi]⟩
   simp only [z10_l6,lt_t hj,cT,idx_nat,ha,bS]
   rw [appL_some (by simp;omega),bS,w64_succ (by omega)]
   rfl
  ·simp only [z10_l6,lt_f ha,cF]
 have i2:∀ (ps:List T15) (j:Nat) (ag:List T15→Int→Option (List T15)) (p:T10) (b:List T13),ps.length≤4194304→j < 4194304→RP p →
   z10_l4 N ps (j:Int) ag p b N [] (0:Int)=ag (ps++[⟨p.Name,p.Roles,p.Messages.map oM,b⟩]) ((j+1:Nat):Int):=by
  intro ps j ag p b h1 h2 h3
  have hpm:=RP_m h3
  have:=(fold_loop p.Messages (z10_l4 N ps (j:Int) ag p b) (fun s a=>s++[oM a]) (fun s=>z10_k3 ps (j:Int) ag p b s) (fun i s=>s.length=i)
   (fun n i s a hi ha=>?_) (fun n i s hi ha=>?_) (N:=N) (s:=[]) (by omega) rfl).1
  ·rw [this,snoc_fold,List.nil_append]
   unfold z10_k3
   rw [appL_some (by simp;omega),bS,w64_succ (by omega)]
  ·have hj:=get_lt ha
   refine ⟨?_,by simp [hi]⟩
   simp only [z10_l4,lt_t hj,cT,idx_nat,ha,bS]
   rw [i3 s i _ a (by omega) (by omega) (RP_ms h3 (List.mem_of_getElem? ha)).2]
  ·simp only [z10_l4,lt_f ha,cF]
 have:=(fold_loop xs (z10_l2 N xs) (fun s a=>s++[oP a]) (fun s=>some s) (fun i s=>s.length=i)
   (fun n i s a hi ha=>?_) (fun n i s hi ha=>?_) (N:=N) (s:=[]) (by omega) rfl).1
 ·rw [this,snoc_fold,List.nil_append]
 ·have hj:=get_lt ha
  refine ⟨?_,by simp [hi]⟩
  obtain ⟨h1,h2⟩:=hb a (List.mem_of_getElem? ha)
  simp only [z10_l2,lt_t hj,cT,idx_nat,ha,bS]
  rw [own_items N a.Body h2 (RP_l h1) h1.b,bS,i2 s i _ a _ (by omega) (by omega) h1]
  rfl
 ·simp only [z10_l2,lt_f ha,cF,z10_k1]
end Gp
end
section
namespace Gp
open Go Go.Kx Gx
variable {N:Nat} (hN:4194304 < N)
def cPs (l:List T10):Nat:=(l.map fun p=>cL (oL p.Body)).sum
def mPs (l:List T10):Nat:=(l.map fun p=>p.Messages.length).sum
def MsOk (p:T10):Prop:=∀ m∈p.Messages,m.Fields.length≤8∧m.Where.length≤10
def FewP (l:List T10):Prop:=(∀ p∈l,MsOk p)∧l.length≤12∧cPs l≤320∧mPs l≤60
theorem gt_lem {a b:Nat}:decide ((a:Int) > (b:Int))=false↔a≤b:=by simp
include hN in
theorem few_dq (l:List T10) (hs:l.length≤4194304) (hb:∀ p∈l,RP p∧4194306+dL (oL p.Body)≤N) (hc:cPs l≤1099511627776):Dq (z19 N l) (FewP l):=by
 unfold z19
 have key:∀ (l2:List T10) (k n:Nat) (s t:Nat),l.drop k=l2→l2.length < n→s+cPs l2≤1099511627776→t≤k * 4194304 →
   Dq (z19_l2 N l n (s:Int) (t:Int) (k:Int)) ((∀ p∈l2,MsOk p)∧l.length≤12∧s+cPs l2≤320∧t+mPs l2≤60):=by
  intro l2
  induction l2 with
  | nil =>
   intro k n s t h hn hcs ht
   obtain ⟨n,rfl⟩:∃ m,n=m+1:=⟨n-1,by simp at hn;omega⟩
   simp only [z19_l2,lt_f (drop_nil h),cF,z19_k1]
   refine (Dq.cA (C:=l.length≤12) (by rw [decide_eq_true_eq];omega) fun _=>Dq.cA (C:=s≤320) (by rw [decide_eq_true_eq];omega) fun _=>Dq.bool _).iff ?_
   simp only [decide_eq_true_eq,cPs,mPs,List.map_nil,List.sum_nil,Nat.add_zero,List.not_mem_nil,false_implies,implies_true,true_and]
   omega
  | cons p l2 ih =>
   intro k n s t h hn hcs ht
   obtain ⟨n,rfl⟩:∃ m,n=m+1:=⟨n-1,by simp at hn;omega⟩
   obtain ⟨a,c,d⟩:=drop_cons h
   have hm:=List.mem_of_getElem? c
   obtain ⟨h1,h2⟩:=hb p hm
   have e0:cPs (p::l2)=cL (oL p.Body)+cPs l2:=by simp [cPs]
   have e1:mPs (p::l2)=p.Messages.length+mPs l2:=by simp [mPs]
   have hpm:=RP_m h1
   simp only [z19_l2,lt_t a,cT,idx_nat,c,bS]
   rw [count_eq' N p.Body h2 (RP_l h1) h1.b (by omega),bS]
   refine (dq_loop (xs:=p.Messages) (ys:=p.Messages) rfl hpm (R:=fun m _=>m.Fields.length≤8∧m.Where.length≤10)
    (z19_l4 l (s:Int) (t:Int) (k:Int) (z19_l2 N l n) ((cL (oL p.Body):Nat):Int) p)
    (E:=(∀ p∈l2,MsOk p)∧l.length≤12∧s+cL (oL p.Body)+cPs l2≤320∧t+p.Messages.length+mPs l2≤60) (fun n' j u v Q hj hu hv h'=>?_) (fun n' j hj=>?_) (N:=N) (by omega)).iff ?_
   ·simp only [z19_l4,idx_nat,c,bS,lt_t (get_lt hu),cT,hu,w64_succ (show j < 4611686018427387904 by omega)]
    refine (Dq.cN (C:=u.Fields.length≤8) (gt_lem (b:=8)) fun _=>Dq.cN (C:=u.Where.length≤10) (gt_lem (b:=10)) fun _=>h').iff ⟨fun q=>⟨⟨q.1,q.2.1⟩,q.2.2⟩,fun q=>⟨q.1.1,q.1.2,q.2⟩⟩
   ·simp only [z19_l4,idx_nat,c,bS,lt_f hj,cF,z19_k3]
    rw [w64_id (by omega) (by omega),w64_id (by omega) (by omega),w64_succ (by omega)]
    have:=ih (k+1) n (s+cL (oL p.Body)) (t+p.Messages.length) d (by simp at hn;omega) (by omega) (by omega)
    push_cast at this
    exact this
   ·rw [e0,e1]
    constructor
    ·rintro ⟨q1,q2,q3,q4,q5⟩
     refine ⟨fun x hx=>?_,q3,by omega,by omega⟩
     rcases List.mem_cons.1 hx with rfl | hx
     ·intro m hm
      obtain ⟨i,hi⟩:=List.mem_iff_getElem?.1 hm
      exact q1 i m m hi hi
     ·exact q2 x hx
    ·rintro ⟨q1,q2,q3,q4⟩
     exact ⟨fun i u v hu _=>q1 p (List.mem_cons_self ..) u (List.mem_of_getElem? hu),fun x hx=>q1 x (List.mem_cons_of_mem _ hx),q2,by omega,by omega⟩
 have:=key l 0 N 0 0 rfl (by omega) (by omega) (by omega)
 refine this.iff ?_
 unfold FewP
 simp only [Nat.zero_add]
end Gp
end
section
namespace Gp
open Go Go.Kx Gx
def atI {α:Type} (p:α→Bool) (xs:List α):Int:=match xs.findIdx? p with
 | some i=>(i:Int)
 | none=>-1
theorem atI_ge {α:Type} (p:α→Bool) (xs:List α):decide (atI p xs≥0)=xs.any p:=by
 unfold atI
 rw [← List.findIdx?_isSome]
 cases h:xs.findIdx? p with
 | none=>simp
 | some i=>simp
theorem find_loop {α:Type} (xs:List α) (p:α→Bool) (F:Nat→Int→Option Int)
  (h1:∀ (n k:Nat) x,xs[k]? = some x→F (n+1) (k:Int)=bif p x then some (k:Int) else F n ((k+1:Nat):Int))
  (h2:∀ (n k:Nat),xs.length≤k→F (n+1) (k:Int)=some (-1)) {N:Nat} (hN:xs.length < N):F N (0:Int)=some (atI p xs):=by
 have key:∀ (l:List α) (k n:Nat),xs.drop k=l→l.length < n→F n (k:Int)=some (match l.findIdx? p with | some i=>((k+i:Nat):Int) | none=>-1):=by
  intro l
  induction l with
  | nil =>
   intro k n h hn
   obtain ⟨n,rfl⟩:∃ m,n=m+1:=⟨n-1,by simp at hn;omega⟩
   rw [h2 n k (drop_nil h)];rfl
  | cons x l ih =>
   intro k n h hn
   obtain ⟨n,rfl⟩:∃ m,n=m+1:=⟨n-1,by simp at hn;omega⟩
   obtain ⟨a,c,d⟩:=drop_cons h
   rw [h1 n k x c,List.findIdx?_cons]
   cases p x with
   | true=>simp
   | false =>
    rw [cF,ih (k+1) n d (by simp at hn;omega),if_neg (by simp)]
    cases l.findIdx? p with
    | none=>rfl
    | some i =>
     show some (((k+1+i:Nat):Int))=some (((k+(i+1):Nat):Int))
     rw [show k+1+i=k+(i+1) by omega]
 have:=key xs 0 N rfl hN
 rw [show ((0:Nat):Int)=0 from rfl] at this
 rw [this]
 unfold atI
 cases xs.findIdx? p with
 | none=>rfl
 | some i=>simp
theorem w64_suc {n:Nat} (h:n < 9223372036854775807):w64 ((n:Int)+1)=((n+1:Nat):Int):=by rw [w64_id (by omega) (by omega)];omega
def inL (v:ByteArray) (l:List ByteArray):Bool:=l.any fun x=>v.toList==x.toList
theorem inL_iff (v:ByteArray) (l:List ByteArray):inL v l=true↔v∈l:=by
 unfold inL
 rw [List.any_eq_true]
 constructor
 ·rintro ⟨x,hx,h⟩;rw [seq'.1 h];exact hx
 ·exact fun h=>⟨v,h,by simp⟩
theorem cont_eq {N:Nat} (l:List ByteArray) (hl:l.length < N) (hb:l.length < 4611686018427387904) (v:ByteArray):z41 N l v=some (inL v l):=by
 unfold z41 z80
 rw [find_loop l (fun x=>v.toList==x.toList) (z80_l2 l v) (fun n k x hx=>?_) (fun n k hk=>?_) hl,bS,atI_ge]
 ·rfl
 ·simp only [z80_l2,lt_t (get_lt hx),cT,idx_nat,hx,bS]
  rw [w64_suc (by have:=get_lt hx;omega)]
 ·simp only [z80_l2,lt_f hk,cF,z80_k1]
theorem rindex_eq {N:Nat} (l:List ByteArray) (hl:l.length < N) (hb:l.length < 4611686018427387904) (v:ByteArray):z43 N l v=some (atI (fun x=>x.toList==v.toList) l):=by
 unfold z43
 refine find_loop l (fun x=>x.toList==v.toList) (z43_l2 l v) (fun n k x hx=>?_) (fun n k hk=>?_) hl
 ·simp only [z43_l2,lt_t (get_lt hx),cT,idx_nat,hx,bS]
  rw [w64_suc (by have:=get_lt hx;omega)]
 ·simp only [z43_l2,lt_f hk,cF,z43_k1]
theorem rindex_ge (l:List ByteArray) (v:ByteArray):decide (atI (fun x=>x.toList==v.toList) l≥(0:Int))=inL v l:=by
 rw [atI_ge,Bool.eq_iff_iff,inL_iff,List.any_eq_true]
 constructor
 ·rintro ⟨x,hx,h⟩;rw [← seq'.1 h];exact hx
 ·exact fun h=>⟨v,h,by simp⟩
def hdR (x:T13):List ByteArray:=(if x.Kind=1∨x.Kind=2 then [x.From] else [])++(if x.Kind=1∨x.Kind=6 then x.To else [])
mutual
def rcI:T13→List ByteArray
 | ⟨k,f,t,n,a,x,b⟩=>hdR ⟨k,f,t,n,a,x,b⟩++rcLL b
def rcL:List T13→List ByteArray
 | []=>[]
 | x::l=>rcI x++rcL l
def rcLL:List (List T13)→List ByteArray
 | []=>[]
 | x::l=>rcL x++rcLL l
end
theorem rcI_eq (x:T13):rcI x=hdR x++rcLL x.Blocks:=by cases x;simp only [rcI]
theorem rcL_fold:∀ (l:List T13) (s:List ByteArray),l.foldl (fun s x=>s++rcI x) s=s++rcL l
 | [],s=>by simp [rcL]
 | x::l,s=>by rw [List.foldl_cons,rcL_fold l];simp only [rcL,aA]
theorem rcLL_fold:∀ (l:List (List T13)) (s:List ByteArray),l.foldl (fun s x=>s++rcL x) s=s++rcLL l
 | [],s=>by simp [rcLL]
 | x::l,s=>by rw [List.foldl_cons,rcLL_fold l];simp only [rcLL,aA]
theorem hdR_len (x:T13):(hdR x).length≤x.To.length+1:=by
 unfold hdR
 split<;>split<;>simp
mutual
theorem rc_I:∀ x,bI x→(rcI x).length≤4194305 * cI x
 | ⟨k,f,t,n,a,x,b⟩,h=>by
  have h':=(bI_eq _).1 h
  have:=hdR_len ⟨k,f,t,n,a,x,b⟩
  have:=rc_LL b h'.2.2
  simp only [rcI,cI,lA]
  have h1:t.length≤4194304:=h'.1
  simp only at *
  omega
theorem rc_L:∀ l,bL l→(rcL l).length≤4194305 * cL l
 | [],_=>by simp [rcL,cL]
 | x::l,h=>by
  simp only [bL] at h
  have:=rc_I x h.1
  have:=rc_L l h.2
  simp only [rcL,cL,lA]
  omega
theorem rc_LL:∀ l,bLL l→(rcLL l).length≤4194305 * cLL l
 | [],_=>by simp [rcLL,cLL]
 | x::l,h=>by
  simp only [bLL] at h
  have:=rc_L x h.2.1
  have:=rc_LL l h.2.2
  simp only [rcLL,cLL,lA]
  omega
end
theorem col_head {N:Nat} (rc) (x:T13) (s:List ByteArray) (k:Int) (ag) (h:s.length+(hdR x).length≤4294967296) :
  (bif (x.Kind==(1:Int)) then (z40_k8 N rc s k ag x true) else z40_k8 N rc s k ag x (x.Kind==(2:Int)))=z40_l4 rc k ag x N (s++hdR x) (0:Int):=by
 unfold hdR at h ⊢
 simp only [z40_k8,z40_k7,z40_k6,z40_k5,cT]
 by_cases h1:x.Kind=1
 ·rw [if_pos (.inl h1),if_pos (.inl h1)] at h ⊢
  simp only [lA,List.length_cons,List.length_nil] at h
  simp only [h1,beq_self_eq_true,cT]
  rw [appL_some (by simp;omega),bS,appL_some (by simp;omega),bS,aA]
 ·have e1:(x.Kind==1)=false:=by simpa using h1
  simp only [e1,cF]
  by_cases h2:x.Kind=2
  ·rw [if_pos (.inr h2),if_neg (by omega)] at h ⊢
   have e6:(x.Kind==6)=false:=by simp [h2]
   simp only [lA,List.length_cons,List.length_nil] at h
   simp only [h2,beq_self_eq_true,cT]
   rw [appL_some (by simp;omega),bS]
   have:((2:Int)==6)=false:=rfl
   simp
  ·have e2:(x.Kind==2)=false:=by simpa using h2
   rw [if_neg (by omega)] at h ⊢
   simp only [e2,cF]
   by_cases h6:x.Kind=6
   ·rw [if_pos (.inr h6)] at h ⊢
    simp only [h6,beq_self_eq_true,cT]
    simp only [List.nil_append] at h ⊢
    rw [appL_some h,bS]
   ·have e6:(x.Kind==6)=false:=by simpa using h6
    rw [if_neg (by omega)]
    simp [e6]
theorem collect_eq:∀ (N:Nat) (xs:List T13) (out:List ByteArray),4194306+dL xs≤N→xs.length≤4194304→bL xs→out.length+(rcL xs).length≤4294967296→z40 N xs out=some (out++rcL xs)
 | 0,_,_,h,_,_,_=>by omega
 | N+1,xs,out,h,hs,hb,hc=>by
  show z40_b N (z40 N) xs out=_
  unfold z40_b
  have hN:4194304 < N:=by omega
  have inner:∀ (k:Nat) (x:T13) (s:List ByteArray) (ag:List ByteArray→Int→Option (List ByteArray)),xs[k]? = some x→s.length+(rcLL x.Blocks).length≤4294967296 →
    z40_l4 (z40 N) (k:Int) ag x N s (0:Int)=ag (s++rcLL x.Blocks) ((k+1:Nat):Int):=by
   intro k x s ag hx hle
   have hm:=List.mem_of_getElem? hx
   have hbx:=(bI_eq _).1 (bL_mem hb hm)
   have hdx:=dL_mem hm
   rw [dI_eq] at hdx
   have hk:=get_lt hx
   have:=(fold_loop x.Blocks (z40_l4 (z40 N) (k:Int) ag x) (fun s b=>s++rcL b) (fun s=>ag s ((k+1:Nat):Int))
    (fun j s=>s.length+(rcLL (x.Blocks.drop j)).length≤4294967296) (fun n j s b hi hj=>?_) (fun n j s hi hj=>?_) (N:=N) (s:=s) (by omega) (by rw [List.drop_zero];exact hle)).1
   ·rw [this,rcLL_fold]
   ·rw [drop_get hj] at hi
    simp only [rcLL,lA] at hi
    have hmb:=List.mem_of_getElem? hj
    have hbb:=bLL_mem hbx.2.2 hmb
    have hdb:=dLL_mem hmb
    have e:=collect_eq N b s (by omega) hbb.1 hbb.2 (by omega)
    refine ⟨?_,by rw [lA];omega⟩
    simp only [z40_l4,lt_t (get_lt hj),cT,idx_nat,hj,bS,e]
    rw [w64_succ (by have:=get_lt hj;omega)]
   ·simp only [z40_l4,lt_f hj,cF,z40_k3]
    rw [w64_succ (by omega)]
  have:=(fold_loop xs (z40_l2 N (z40 N) xs) (fun s x=>s++rcI x) (fun s=>some s)
   (fun j s=>s.length+(rcL (xs.drop j)).length≤4294967296) (fun n k s x hi hx=>?_) (fun n k s hi hk=>?_) (N:=N) (s:=out) (by omega) (by rw [List.drop_zero];exact hc)).1
  ·rw [this,rcL_fold]
  ·rw [drop_get hx] at hi
   simp only [rcL,lA] at hi
   have hi':=hi
   rw [rcI_eq,lA] at hi'
   refine ⟨?_,by rw [lA];omega⟩
   simp only [z40_l2,lt_t (get_lt hx),cT,idx_nat,hx,bS]
   rw [col_head _ _ _ _ _ (by omega),inner k x _ _ hx (by rw [lA];omega),rcI_eq,aA]
  ·simp only [z40_l2,lt_f hk,cF,z40_k1]
theorem rcol_head {N:Nat} (rc) (xs:List T8) (x:T8) (s:List ByteArray) (k:Nat) (ag) (hx:xs[k]? = some x) (h:s.length+(hdR (oI x)).length≤4294967296) :
  (bif (x.Kind==(1:Int)) then (z42_k8 N rc xs s (k:Int) ag true) else z42_k8 N rc xs s (k:Int) ag (x.Kind==(2:Int)))=z42_l4 rc xs (k:Int) ag N (s++hdR (oI x)) (0:Int):=by
 rw [oI_eq] at h ⊢
 unfold hdR at h ⊢
 simp only [z42_k8,z42_k7,z42_k6,z42_k5,cT,idx_nat,hx,bS] at h ⊢
 by_cases h1:x.Kind=1
 ·rw [if_pos (.inl h1),if_pos (.inl h1)] at h ⊢
  simp only [lA,List.length_cons,List.length_nil] at h
  simp only [h1,beq_self_eq_true,cT]
  rw [appL_some (by simp;omega),bS,appL_some (by simp;omega),bS,aA]
 ·have e1:(x.Kind==1)=false:=by simpa using h1
  simp only [e1,cF]
  by_cases h2:x.Kind=2
  ·rw [if_pos (.inr h2),if_neg (by omega)] at h ⊢
   simp only [lA,List.length_cons,List.length_nil] at h
   simp only [h2,beq_self_eq_true,cT]
   rw [appL_some (by simp;omega),bS]
   simp
  ·have e2:(x.Kind==2)=false:=by simpa using h2
   rw [if_neg (by omega)] at h ⊢
   simp only [e2,cF]
   by_cases h6:x.Kind=6
   ·rw [if_pos (.inr h6)] at h ⊢
    simp only [h6,beq_self_eq_true,cT]
    simp only [List.nil_append] at h ⊢
    rw [appL_some h,bS]
   ·have e6:(x.Kind==6)=false:=by simpa using h6
    rw [if_neg (by omega)]
    simp [e6]
theorem rcLo_fold:∀ (l:List T8) (s:List ByteArray),l.foldl (fun s x=>s++rcI (oI x)) s=s++rcL (oL l)
 | [],s=>by simp [rcL,oL]
 | x::l,s=>by rw [List.foldl_cons,rcLo_fold l];simp only [rcL,oL,aA]
theorem rcLLo_fold:∀ (l:List (List T8)) (s:List ByteArray),l.foldl (fun s x=>s++rcL (oL x)) s=s++rcLL (oLL l)
 | [],s=>by simp [rcLL,oLL]
 | x::l,s=>by rw [List.foldl_cons,rcLLo_fold l];simp only [rcLL,oLL,aA]
theorem takes_eq:∀ (N:Nat) (xs:List T8),4194306+dL (oL xs)≤N→xs.length≤4194304→bL (oL xs)→(rcL (oL xs)).length≤4294967296→z42 N xs=some (rcL (oL xs))
 | 0,_,h,_,_,_=>by omega
 | N+1,xs,h,hs,hb,hc=>by
  show z42_b N (z42 N) xs=_
  unfold z42_b
  have hN:4194304 < N:=by omega
  have inner:∀ (k:Nat) (x:T8) (s:List ByteArray) (ag:List ByteArray→Int→Option (List ByteArray)),xs[k]? = some x→s.length+(rcLL (oLL x.Blocks)).length≤4294967296 →
    z42_l4 (z42 N) xs (k:Int) ag N s (0:Int)=ag (s++rcLL (oLL x.Blocks)) ((k+1:Nat):Int):=by
   intro k x s ag hx hle
   have hm:=List.mem_of_getElem? hx
   have hbx:=(bI_eq _).1 (bL_mem hb (oL_in hm))
   rw [oI_blocks,oLL_len] at hbx
   have hdx:=dL_mem (oL_in hm)
   rw [dI_eq,oI_blocks] at hdx
   have hk:=get_lt hx
   have:=(fold_loop x.Blocks (z42_l4 (z42 N) xs (k:Int) ag) (fun s b=>s++rcL (oL b)) (fun s=>ag s ((k+1:Nat):Int))
    (fun j s=>s.length+(rcLL (oLL (x.Blocks.drop j))).length≤4294967296) (fun n j s b hi hj=>?_) (fun n j s hi hj=>?_) (N:=N) (s:=s) (by omega) (by rw [List.drop_zero];exact hle)).1
   ·rw [this,rcLLo_fold]
   ·rw [drop_get hj] at hi
    simp only [oLL,rcLL,lA] at hi
    have hmb:=List.mem_of_getElem? hj
    have hbb:=bLL_mem hbx.2.2 (oLL_in hmb)
    have hdb:=dLL_mem (oLL_in hmb)
    rw [oL_len] at hbb
    have e:=takes_eq N b (by omega) hbb.1 hbb.2 (by omega)
    refine ⟨?_,by rw [lA];omega⟩
    simp only [z42_l4,lt_t (get_lt hj),cT,idx_nat,hx,hj,bS,e]
    rw [appL_some (by omega),bS,w64_succ (by have:=get_lt hj;omega)]
   ·simp only [z42_l4,lt_f hj,cF,idx_nat,hx,bS,z42_k3]
    rw [w64_succ (by omega)]
  have:=(fold_loop xs (z42_l2 N (z42 N) xs) (fun s x=>s++rcI (oI x)) (fun s=>some s)
   (fun j s=>s.length+(rcL (oL (xs.drop j))).length≤4294967296) (fun n k s x hi hx=>?_) (fun n k s hi hk=>?_) (N:=N) (s:=[]) (by omega) (by rw [List.drop_zero];simpa using hc)).1
  ·rw [this,rcLo_fold];simp
  ·rw [drop_get hx] at hi
   simp only [oL,rcL,lA] at hi
   have hi':=hi
   rw [rcI_eq,lA,oI_blocks] at hi'
   refine ⟨?_,by rw [lA];omega⟩
   simp only [z42_l2,lt_t (get_lt hx),cT,idx_nat,hx,bS]
   rw [rcol_head _ _ x _ _ _ hx (by omega),inner k x _ _ hx (by rw [lA];omega),rcI_eq,oI_blocks,aA]
  ·simp only [z42_l2,lt_f hk,cF,z42_k1]
theorem filt_fold (q:ByteArray→Bool):∀ (l:List ByteArray) (s:List ByteArray),l.foldl (fun s x=>bif q x then s++[x] else s) s=s++l.filter q
 | [],s=>by simp
 | x::l,s=>by
  rw [List.foldl_cons,filt_fold q l,List.filter_cons]
  cases q x<;>simp
theorem ownTakes_eq {N:Nat} (hN:4194304 < N) (roles:List ByteArray) (hr:roles.length≤4194304) (xs:List T13) (h:4194306+dL xs≤N) (hs:xs.length≤4194304) (hb:bL xs) (hc:(rcL xs).length≤4294967296) (hn:(rcL xs).length < N) :
  z20 N roles xs=some (roles.filter fun r=>inL r (rcL xs)):=by
 unfold z20
 rw [collect_eq N xs [] h hs hb (by simpa using hc),bS,List.nil_append]
 have:=(fold_loop roles (z20_l2 N roles (rcL xs)) (fun s x=>bif inL x (rcL xs) then s++[x] else s) (fun s=>some s) (fun j s=>s.length≤j)
  (fun n j s x hi hx=>?_) (fun n j s hi hj=>?_) (N:=N) (s:=[]) (by omega) (by simp)).1
 ·rw [this,filt_fold];simp
 ·have hj:=get_lt hx
  simp only [z20_l2,lt_t hj,cT,idx_nat,hx,bS,cont_eq (rcL xs) hn (by omega)]
  rw [w64_succ (by omega)]
  cases inL x (rcL xs) with
  | true =>
   simp only [cT]
   rw [appL_some (by simp;omega),bS]
   exact ⟨rfl,by simp;omega⟩
  | false=>exact ⟨rfl,by simp only [cF];omega⟩
 ·simp only [z20_l2,lt_f hj,cF,z20_k1]
theorem refTakes_eq {N:Nat} (hN:4194304 < N) (roles:List ByteArray) (hr:roles.length≤4194304) (xs:List T8) (h:4194306+dL (oL xs)≤N) (hs:xs.length≤4194304) (hb:bL (oL xs)) (hc:(rcL (oL xs)).length≤4294967296) (hn:(rcL (oL xs)).length < N) :
  z21 N roles xs=some (roles.filter fun r=>inL r (rcL (oL xs))):=by
 unfold z21
 rw [takes_eq N xs h hs hb hc,bS]
 have:=(fold_loop roles (z21_l2 N roles (rcL (oL xs))) (fun s x=>bif inL x (rcL (oL xs)) then s++[x] else s) (fun s=>some s) (fun j s=>s.length≤j)
  (fun n j s x hi hx=>?_) (fun n j s hi hj=>?_) (N:=N) (s:=[]) (by omega) (by simp)).1
 ·rw [this,filt_fold];simp
 ·have hj:=get_lt hx
  simp only [z21_l2,lt_t hj,cT,idx_nat,hx,bS,rindex_eq (rcL (oL xs)) hn (by omega),rindex_ge]
  rw [w64_succ (by omega)]
  cases inL x (rcL (oL xs)) with
  | true =>
   simp only [cT]
   rw [appL_some (by simp;omega),bS]
   exact ⟨rfl,by simp;omega⟩
  | false=>exact ⟨rfl,by simp only [cF];omega⟩
 ·simp only [z21_l2,lt_f hj,cF,z21_k1]
theorem takes_law {N:Nat} (hN:1400000000 < N) (p:T10) (roles:List ByteArray) (hw:z7 N=some true) (hp:RP p) (hd:4194306+dL (oL p.Body)≤N) (hc:cPs [p]≤1099511627776) (hr:roles.length≤4194304):law11_NamesTakes N p roles=some true:=by
 have hN':4194304 < N:=by omega
 have hb:∀ q∈[p],RP q∧4194306+dL (oL q.Body)≤N:=fun q hq=>by rw [List.mem_singleton.1 hq];exact ⟨hp,hd⟩
 obtain ⟨f,e,hf⟩:=few_dq hN' [p] (by simp) hb hc
 unfold law11_NamesTakes
 simp only [hw,bS,Bool.not_true,cF,e]
 cases f
 ·rfl
 simp only [Bool.not_true,cF]
 have hf:=hf.1 rfl
 cases decide ((roles.length:Int) > 30)
 ·simp only [cF]
  rw [own_eq hN' [p] (by simp) hb,bS]
  have hlen:(rcL (oL p.Body)).length≤4194305 * 320:=by
   have h1:=rc_L (oL p.Body) hp.b
   have h2:cL (oL p.Body)≤320:=by have:=hf.2.2.1;simpa [cPs] using this
   have:=Nat.mul_le_mul_left 4194305 h2
   omega
  rw [show idx (List.map oP [p]) (0:Int)=some (oP p) from rfl,bS]
  rw [show (oP p).Body=oL p.Body from rfl,ownTakes_eq hN' roles hr _ hd hp.l hp.b (by omega) (by omega),bS,
   refTakes_eq hN' roles hr _ hd (RP_l hp) hp.b (by omega) (by omega),bS]
  rw [show (((List.filter (fun r=>inL r (rcL (oL p.Body))) roles).length:Int) != ((List.filter (fun r=>inL r (rcL (oL p.Body))) roles).length:Int))=false by simp,cF]
  have hfl:(List.filter (fun r=>inL r (rcL (oL p.Body))) roles).length≤roles.length:=List.length_filter_le _ _
  generalize List.filter (fun r=>inL r (rcL (oL p.Body))) roles=l at hfl
  have:=(fold_loop l (fun n (_:Unit) k=>law11_NamesTakes_l2 l l n k) (fun s _=>s) (fun _=>some true) (fun _ _=>True) (fun n j s x hi hx=>?_) (fun n j s hi hj=>?_) (N:=N) (s:=()) (by omega) trivial).1
  ·exact this
  ·refine ⟨?_,trivial⟩
   simp only [law11_NamesTakes_l2,lt_t (get_lt hx),cT,idx_nat,hx,bS,beq_self_eq_true,Bool.not_true,cF]
   rw [w64_succ (by have:=get_lt hx;omega)]
  ·simp only [law11_NamesTakes_l2,lt_f hj,cF,law11_NamesTakes_k1]
 ·rfl
end Gp
end
section
namespace Gx
open Go Go.Kx
def k_api_Sort (x:T1):Prop:=((Lit.int .i64 x.Kind).wf=true)∧((Lit.int .i64 x.Lo).wf=true)∧((Lit.int .i64 x.Hi).wf=true)
def k_api_Field (x:T0):Prop:=(x.Name.size≤bd)∧(k_api_Sort x.Sort')
def k_ref10_Term (x:T11):Prop:=((Lit.int .i64 x.Kind).wf=true)∧(x.Message.size≤bd)∧(x.Field.size≤bd)∧((Lit.int .i64 x.N).wf=true)
def k_ref10_Atom (x:T7):Prop:=(k_ref10_Term x.Left)∧(x.Op.size≤bd)∧(k_ref10_Term x.Right)
def k_ref10_Message (x:T9):Prop:=(x.Name.size≤bd)∧(x.Fields.length≤bd∧∀ y∈x.Fields,k_api_Field y)∧(x.Where.length≤bd∧∀ y∈x.Where,k_ref10_Atom y)
mutual
def k_ref10_Item:T8→Prop
 | ⟨a0,a1,a2,a3,a4,a5,a6⟩=>((Lit.int .i64 a0).wf=true)∧(a1.size≤bd)∧(a2.length≤bd∧∀ y∈a2,y.size≤bd)∧(a3.size≤bd)∧(a4.size≤bd)∧((Lit.int .i64 a5).wf=true)∧(a6.length≤bd∧kLL_ref10_Item a6)
def kL_ref10_Item:List T8→Prop
 | []=>True
 | x::l=>k_ref10_Item x∧kL_ref10_Item l
def kLL_ref10_Item:List (List T8)→Prop
 | []=>True
 | x::l=>(x.length≤bd∧kL_ref10_Item x)∧kLL_ref10_Item l
end
mutual
def w_ref10_Item:T8→Nat
 | ⟨_,_,_,_,_,_,a6⟩=>wLL_ref10_Item a6+1
def wL_ref10_Item:List T8→Nat
 | []=>0
 | x::l=>w_ref10_Item x+wL_ref10_Item l
def wLL_ref10_Item:List (List T8)→Nat
 | []=>0
 | x::l=>wL_ref10_Item x+wLL_ref10_Item l
end
theorem wL_ref10_Item_eq:∀ l,wL_ref10_Item l=wsum w_ref10_Item l
 | []=>by simp only [wL_ref10_Item,wsum]
 | x::l=>by simp only [wL_ref10_Item,wsum];rw [wL_ref10_Item_eq l]
theorem kL_ref10_Item_of:∀ l,(∀ x∈l,k_ref10_Item x)→kL_ref10_Item l
 | [],_=>by simp only [kL_ref10_Item]
 | x::l,h=>by simp only [kL_ref10_Item];exact ⟨h x (List.mem_cons_self ..),kL_ref10_Item_of l fun y hy=>h y (List.mem_cons_of_mem _ hy)⟩
theorem wLL_ref10_Item_eq:∀ l,wLL_ref10_Item l=wsum (wsum w_ref10_Item) l
 | []=>by simp only [wLL_ref10_Item,wsum]
 | x::l=>by simp only [wLL_ref10_Item,wsum];rw [wLL_ref10_Item_eq l,wL_ref10_Item_eq]
theorem kLL_ref10_Item_of:∀ l,(∀ x∈l,x.length≤bd∧∀ y∈x,k_ref10_Item y)→kLL_ref10_Item l
 | [],_=>by simp only [kLL_ref10_Item]
 | x::l,h=>by simp only [kLL_ref10_Item];exact ⟨⟨(h x (List.mem_cons_self ..)).1,kL_ref10_Item_of x (h x (List.mem_cons_self ..)).2⟩,kLL_ref10_Item_of l fun y hy=>h y (List.mem_cons_of_mem _ hy)⟩
def k_ref10_Protocol (x:T10):Prop:=(x.Name.size≤bd)∧(x.Roles.length≤bd∧∀ y∈x.Roles,y.size≤bd)∧(x.Messages.length≤bd∧∀ y∈x.Messages,k_ref10_Message y)∧(x.Body.length≤bd∧∀ y∈x.Body,k_ref10_Item y)
def w_ref10_Protocol (x:T10):Nat:=wsum w_ref10_Item x.Body
end Gx
end
section
namespace Gp
open Go Go.Kx Gx
set_option maxRecDepth 100000
theorem awake_some (k:Nat):z7 (k+300)=some true:=by kernel_rfl
mutual
theorem cw_I:∀ x,cI (oI x)=w_ref10_Item x
 | ⟨k,f,t,n,a,x,b⟩=>by simp only [oI,cI,w_ref10_Item,cw_LL b]
theorem cw_L:∀ l,cL (oL l)=wL_ref10_Item l
 | []=>by simp only [oL,cL,wL_ref10_Item]
 | x::l=>by simp only [oL,cL,wL_ref10_Item,cw_I x,cw_L l]
theorem cw_LL:∀ l,cLL (oLL l)=wLL_ref10_Item l
 | []=>by simp only [oLL,cLL,wLL_ref10_Item]
 | x::l=>by simp only [oLL,cLL,wLL_ref10_Item,cw_L x,cw_LL l]
end
mutual
theorem bk_I:∀ x,k_ref10_Item x→bI (oI x)
 | ⟨k,f,t,n,a,x,b⟩,h=>by
  simp only [k_ref10_Item] at h
  simp only [oI,bI]
  rw [oLL_len]
  have h1:=h.2.2.1.1;have h2:=h.2.2.2.2.2.2.1
  unfold bd at h1 h2
  exact ⟨by omega,by omega,bk_LL b h.2.2.2.2.2.2.2⟩
theorem bk_L:∀ l,kL_ref10_Item l→bL (oL l)
 | [],_=>by simp only [oL,bL]
 | x::l,h=>by
  simp only [kL_ref10_Item] at h
  simp only [oL,bL]
  exact ⟨bk_I x h.1,bk_L l h.2⟩
theorem bk_LL:∀ l,kLL_ref10_Item l→bLL (oLL l)
 | [],_=>by simp only [oLL,bLL]
 | x::l,h=>by
  simp only [kLL_ref10_Item] at h
  simp only [oLL,bLL]
  have h1:=h.1.1
  unfold bd at h1
  exact ⟨by rw [oL_len];omega,bk_L x h.1.2,bk_LL l h.2⟩
end
theorem RP_of {p:T10} (h:k_ref10_Protocol p):RP p:=by
 obtain ⟨_,h1,h2,h3⟩:=h
 refine ⟨?_,?_,fun x hx=>?_,?_,?_⟩
 ·have:=h1.1;unfold bd at this;show p.Roles.length≤_;omega
 ·have:=h2.1;unfold bd at this;show (p.Messages.map oM).length≤_;rw [List.length_map];omega
 ·obtain ⟨m,hm,rfl⟩:=List.mem_map.1 hx
  obtain ⟨_,q1,q2⟩:=h2.2 m hm
  have q1:=q1.1;have q2:=q2.1
  unfold bd at q1 q2
  exact ⟨by show m.Fields.length≤_;omega,by show (m.Where.map oA).length≤_;rw [List.length_map];omega⟩
 ·have:=h3.1;unfold bd at this;show (oL p.Body).length≤_;rw [oL_len];omega
 ·exact bk_L _ (kL_ref10_Item_of _ h3.2)
theorem cw_P (p:T10):cL (oL p.Body)=w_ref10_Protocol p:=by
 rw [cw_L,wL_ref10_Item_eq];rfl
theorem cPs_w:∀ l,cPs l=wsum w_ref10_Protocol l
 | []=>rfl
 | p::l=>by
  have:=cPs_w l
  unfold cPs at this ⊢
  simp only [List.map_cons,List.sum_cons,wsum]
  rw [this,cw_P]
theorem le_wsum {α:Type} {f:α→Nat}:∀ {l:List α} {x},x∈l→f x≤wsum f l
 | y::l,x,h=>by
  rcases List.mem_cons.1 h with rfl | h
  ·show _≤f x+_;omega
  ·have:=le_wsum (f:=f) h
   show _≤f y+_;omega
theorem sizes_of {l:List T10} (h:(l.length≤bd∧∀ y∈l,k_ref10_Protocol y)∧wsum w_ref10_Protocol l≤bd) :
  l.length≤4194304∧(∀ p∈l,RP p∧4194306+dL (oL p.Body)≤10000000+300)∧cPs l≤1099511627776:=by
 obtain ⟨⟨h1,h2⟩,h3⟩:=h
 unfold bd at h1 h3
 refine ⟨by omega,fun p hp=>⟨RP_of (h2 p hp),?_⟩,by rw [cPs_w];omega⟩
 have:=dc_L (oL p.Body)
 have:=le_wsum (f:=w_ref10_Protocol) hp
 rw [← cw_P] at this
 omega
theorem plain:∀ (x0:T10) (x1:(List ByteArray)),((k_ref10_Protocol x0)∧w_ref10_Protocol x0≤bd)→(x1.length≤bd∧∀ y∈x1,y.size≤bd)→∃ N,law11_NamesTakes N x0 x1=some true:=by
 intro p r hp hr
 have hs:([p].length≤bd∧∀ y∈[p],k_ref10_Protocol y)∧wsum w_ref10_Protocol [p]≤bd:=by
  refine ⟨⟨by unfold bd;simp,fun y hy=>by rw [List.mem_singleton.1 hy];exact hp.1⟩,?_⟩
  simp only [wsum]
  exact hp.2
 obtain ⟨a1,a2,a3⟩:=sizes_of hs
 obtain ⟨b1,b2⟩:=a2 p (by simp)
 have h1:=hr.1
 unfold bd at h1
 exact ⟨2000000000+300,takes_law (by omega) p r (awake_some _) b1 (by omega) a3 (by omega)⟩
end Gp
end
