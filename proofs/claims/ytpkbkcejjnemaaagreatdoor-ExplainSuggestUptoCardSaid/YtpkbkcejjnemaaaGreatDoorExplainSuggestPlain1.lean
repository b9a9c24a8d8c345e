/- The plain law, part 1: what the functions compute answers as the statement says. -/
import Derived.Lib.Bytealg
import Derived.Test.YtpkbkcejjnemaaaGreatDoorExplainSuggestPure
set_option linter.all false
section
section
namespace Gp
open Go Go.Kx
theorem dF {p:Prop} [Decidable p] (h:¬p):decide p=false:=decide_eq_false h
theorem dT {p:Prop} [Decidable p] (h:p):decide p=true:=decide_eq_true h
theorem bS {α β:Type _} (a:α) (f:α->Option β):(some a).bind f=f a:=rfl
theorem cT {α:Sort _} {a b:α}:(bif true then a else b)=a:=rfl
theorem aA {α:Type _} (a b c:List α):(a++b)++c=a++(b++c):=List.append_assoc a b c
theorem lA {α:Type _} {a b:List α}:(a++b).length=a.length+b.length:=List.length_append
theorem YE {n:Int} (a:-9223372036854775808<=n) (b:n<=9223372036854775807):Z1 n=n:=by
 show IntKind.i64.wrap n=n
 simp [IntKind.wrap,IntKind.signed,IntKind.bits]
 omega
theorem Ye {n:Nat} (h:n < 4611686018427387904):Z1 ((n:Int)+1)=((n+1:Nat):Int):=by rw [YE (by omega) (by omega)];omega
theorem Yb {α:Type} (xs:List α) (k:Nat):Z5 xs (k:Int)=xs[k]? := by
 unfold Z5
 have:decide (0<=(k:Int))=true:=by simp
 rw [this];simp
theorem Zok {α:Type} {xs:List α} {i:Int} {k:Nat} (h:i=k):Z5 xs i=xs[k]? := by rw [h,Yb]
theorem XE {α:Type} (xs:List α) (k:Nat) (e:α):YA xs (k:Int) e=xs.set k e:=by unfold YA;simp
theorem Zr9 {α:Type} {xs:List α} {i:Int} {k:Nat} (h:i=k) (e:α):YA xs i e=xs.set k e:=by rw [h,XE]
theorem Zdu {α:Type} (A:List α) (x:α) (B:List α) {k:Nat} (h:A.length=k):(A++x::B)[k]? = some x:=by
 subst h;simp
theorem Zj7 {α:Type} (A:List α) (x y:α) (B:List α) {k:Nat} (h:A.length=k):(A++x::B).set k y=A++y::B:=by
 subst h;simp
theorem BJ {α:Type} {L A:List α} {x:α} {B:List α} {i:Int} (hL:L=A++x::B) (h:i=(A.length:Int)):Z5 L i=some x:=by
 rw [Zok h,hL];exact Zdu A x B rfl
theorem Zj6 {α:Type} {L A:List α} {x:α} {B:List α} {i:Int} (hL:L=A++x::B) (h:i=(A.length:Int)) (y:α):YA L i y=A++y::B:=by
 rw [Zr9 h,hL];exact Zj7 A x y B rfl
theorem Y8 {α:Type} {xs ys:List α} (h:xs.length+ys.length<=4294967296):YT xs ys=some (xs++ys):=by
 unfold YT
 have:Nat.ble (xs.length+ys.length) lim=true:=Nat.ble_eq_true_of_le h
 rw [this];rfl
theorem Xp {α:Type} {xs:List α} {k:Nat} {x:α} {l:List α} (h:xs.drop k=x::l):k < xs.length/\xs[k]? = some x/\xs.drop (k+1)=l:=by
 have a:k < xs.length:=by
  rcases Nat.lt_or_ge k xs.length with b | b
  ·exact b
  ·rw [List.drop_eq_nil_of_le b] at h;cases h
 rw [List.drop_eq_getElem_cons a] at h
 simp only [List.cons.injEq] at h
 exact ⟨a,by rw [Za a,h.1],h.2⟩
theorem Xr {α:Type} {xs:List α} {k:Nat} (h:xs.drop k=[]):xs.length<=k:=by simpa using h
def lv {α γ:Type} (b:α->Nat->γ->γ) (e:γ):List α->Nat->γ
 | [],_=>e
 | x::l,k=>b x k (lv b e l (k+1))
theorem Zpd {α γ:Type} (xs:List α) (F:Nat->Int->γ) (b:α->Nat->γ->γ) (e:γ)
  (g:∀ n k x,k < xs.length->xs[k]? = some x->F (n+1) (k:Int)=b x k (F n ((k+1:Nat):Int)))
  (i:∀ n k,xs.length<=k->F (n+1) (k:Int)=e) :
  ∀ (l:List α) (k n:Nat),xs.drop k=l->l.length < n->F n (k:Int)=lv b e l k:=by
 intro l
 induction l with
 | nil =>
  intro k n h f
  obtain ⟨n,rfl⟩:=pS n (by simp at f;omega)
  exact i n k (Xr h)
 | cons x l j =>
  intro k n h f
  obtain ⟨n,rfl⟩:=pS n (by simp at f;omega)
  have ⟨a,c,d⟩:=Xp h
  rw [g n k x a c,j (k+1) n d (by simp at f;omega)];rfl
theorem Zpc {α γ:Type} {xs:List α} {F:Nat->Int->γ} {b:α->Nat->γ->γ} {e:γ} {n:Nat} {i:Int} (a:xs.length < n) (hi:i=((0:Nat):Int))
  (c:∀ n k x,k < xs.length->xs[k]? = some x->F (n+1) (k:Int)=b x k (F n ((k+1:Nat):Int)))
  (d:∀ n k,xs.length<=k->F (n+1) (k:Int)=e):F n i=lv b e xs 0:=by
 rw [hi];exact Zpd xs F b e c d xs 0 n rfl a
theorem Yo {k n:Nat} (h:k < n):decide ((k:Int) < (n:Int))=true:=by simp [h]
theorem Yp {k n:Nat} (h:n<=k):decide ((k:Int) < (n:Int))=false:=by simp;omega
end Gp
end
section
namespace Gp
open Go Go.Kx
def Lt {α:Type} (K:α->Int) (r:α->α->Prop) (x y:α):Prop:=K x < K y\/(K x=K y/\r x y)
def WU {α:Type} (K:α->Int) (r:α->α->Prop) (l:List α):Prop:=l.Pairwise (Lt K r)
variable {α:Type} {K:α->Int} {r:α->α->Prop}
theorem Lt.le {x y:α} (h:Lt K r x y):K x<=K y:=by rcases h with h | h<;>omega
theorem srt_app {A B:List α}:WU K r (A++B)↔WU K r A/\WU K r B/\∀ x∈A,∀ y∈B,Lt K r x y:=by
 unfold WU;exact List.pairwise_append
theorem srt_cons {x:α} {B:List α}:WU K r (x::B)↔(∀ y∈B,Lt K r x y)/\WU K r B:=by
 unfold WU;exact List.pairwise_cons
theorem Zkl:WU K r ([]:List α):=List.Pairwise.nil
theorem ZmZ (L:List α) (k:Nat) (h:k<=L.length):∃ A B,L=A++B/\A.length=k :=
 ⟨L.take k,L.drop k,(List.take_append_drop k L).symm,by simp;omega⟩
theorem Zm0 (L:List α) (k:Nat) (h:k < L.length):∃ A x B,L=A++x::B/\A.length=k:=by
 have ⟨A,B,e,a⟩:=ZmZ L k (by omega)
 cases B with
 | nil=>have:=congrArg List.length e;simp at this;omega
 | cons x B=>exact ⟨A,x,B,e,a⟩
theorem Zoa {L A:List α} {x:α} {B:List α} {k:Nat} (hL:L=A++x::B) (h:A.length=k):L[k]? = some x:=by rw [hL];exact Zdu A x B h
theorem Zkm (b:∀ x y,Lt K r x y->¬ Lt K r y x):∀ (A B:List α),A.Perm B->WU K r A->WU K r B->A=B
 | [],B,h,_,_=>by simpa using h.symm
 | x::A,B,h,ha,hb=>by
  cases B with
  | nil=>exact absurd h.length_eq (by simp)
  | cons y B =>
   by_cases a:x=y
   ·subst a
    rw [Zkm b A B ((List.perm_cons x).mp h) (srt_cons.mp ha).2 (srt_cons.mp hb).2]
   ·exfalso
    have c:x∈y::B:=h.mem_iff.mp (by simp)
    have d:y∈x::A:=h.mem_iff.mpr (by simp)
    have e:x∈B:=by rcases List.mem_cons.mp c with h | h;exact absurd h a;exact h
    have f:y∈A:=by rcases List.mem_cons.mp d with h | h;exact absurd h.symm a;exact h
    exact b _ _ ((srt_cons.mp ha).1 y f) ((srt_cons.mp hb).1 x e)
inductive Bk (K:α->Int) (r:α->α->Prop) (n:Nat):List α->List α->Prop
 | last (o c:List α):c.length<=n->c.Perm o->WU K r c->Bk K r n o c
 | cons (o1 c1 o2 c2:List α):c1.length=n->c1.Perm o1->WU K r c1->Bk K r n o2 c2->Bk K r n (o1++o2) (c1++c2)
theorem Bk.two {n:Nat} {o c:List α} (h:Bk K r n o c) (x:0 < n) (q:2 * n<=c.length) :
  ∃ d e m a b p,o=d++(e++m)/\c=a++(b++p)/\a.length=n/\b.length=n/\a.Perm d/\b.Perm e/\WU K r a/\WU K r b/\Bk K r n m p:=by
 cases h with
 | last _ _ f g i=>omega
 | cons d a e b f g i s =>
  cases s with
  | last _ _ l j k =>
   simp at q
   exact ⟨d,e,[],a,b,[],by simp,by simp,f,by omega,g,j,i,k,.last _ _ (by simp) (by simp) Zkl⟩
  | cons t d1 u v l j k w=>exact ⟨d,t,u,a,d1,v,rfl,rfl,f,l,g,j,i,k,w⟩
theorem Bk.few {n:Nat} {o c:List α} (h:Bk K r n o c) (s:0 < n) (p:c.length < 2 * n) :
  (c.length<=n/\c.Perm o/\WU K r c)\/∃ g d b a,o=g++d/\c=b++a/\b.length=n/\0 < a.length/\a.length<=n/\b.Perm g/\a.Perm d/\WU K r b/\WU K r a:=by
 cases h with
 | last _ _ j e f=>exact .inl ⟨j,e,f⟩
 | cons g b d a j e f q =>
  cases q with
  | last _ _ l k m =>
   rcases Nat.eq_zero_or_pos a.length with i | i
   ·have:a=[]:=List.length_eq_zero_iff.mp i
    subst this
    have:d=[]:=by simpa using k.symm
    subst this
    exact .inl ⟨by simp;omega,by simpa using e,by simpa using f⟩
   ·exact .inr ⟨g,d,b,a,rfl,rfl,j,i,l,e,k,f,m⟩
  | cons t d1 u v l k m w=>simp at p;omega
theorem Bk.all {n:Nat} {o c:List α} (h:Bk K r n o c) (a:0 < n) (b:c.length<=n):c.Perm o/\WU K r c:=by
 rcases h.few a (by omega) with h | ⟨e,f,g,i,j,d,k,l,_⟩
 ·exact h.2
 ·subst d;simp at b;omega
end Gp
end
namespace Gp
open Go Go.Kx Gx
section
theorem Z3 {α γ:Type} (xs:List α) (g:xs.length<=4194304) (b:α->Int->γ->γ) (F:Nat->Int->γ) (e:γ) {n:Nat} (h:4194304 < n)
  (a:∀ n k x,k < xs.length->xs[k]? = some x->F (n+1) (k:Int)=b x k (F n (Z1 ((k:Int)+1))))
  (c:∀ n k,xs.length<=k->F (n+1) (k:Int)=e):F n (0:Int)=lv (fun x (k:Nat) r=>b x (k:Int) r) e xs 0 :=
 Zpc (by omega) rfl (fun n k x d f=>by rw [a n k x d f,Ye (by omega)]) c
def YY (a b:ByteArray):Bool:=a.toList==b.toList
theorem Zdg (a:ByteArray):YY a a=true:=by simp [YY]
structure XZ (x:T0):Prop where
 f:x.Zz.length<=4194304
 d:x.ZB.Zw.length<=4194304
 e:x.ZB.Zy.length<=4194304
structure VP (g:T5):Prop where
 r:g.ZI.length<=4194304
 d:g.ZJ.length<=4194304
 dd:∀ x∈g.ZJ,XZ x
 e:g.ZO.length<=4194304
 t:g.ZP.length<=4194304
variable {N:Nat} (hN:4194304 < N)
end
section
variable {N:Nat} (hN:4194304 < N)
def Gh {α:Type} (f:α->Bool) (l:List α):Option Int:=lv (fun x (k:Nat) r=>bif f x then some (k:Int) else r) (some (-1)) l 0
theorem Zmo (a b:ByteArray):(a.toList==b.toList)=(b.toList==a.toList):=by
 rw [Bool.eq_iff_iff,beq_iff_eq,beq_iff_eq];exact ⟨Eq.symm,Eq.symm⟩
include hN in
theorem Zl3 (l:List ByteArray) (b:l.length<=4194304) (v:ByteArray):DD N l v=Gh (fun x=>YY x v) l:=by
 unfold DD Gh
 refine Z3 l b (fun x k r=>bif YY x v then some k else r) (P5 l v) _ hN ?_ ?_
 ·intro n k x a c
  simp only [P5,Yo a,Yb,c,cT,bS,YY,Zmo v x]
 ·intro n k a
  simp only [P5,Yp a,cond_false,ZbL]
include hN in
theorem Zrm (l:List ByteArray) (b:l.length<=4194304) (v:ByteArray):LN N l v=Gh (fun x=>YY x v) l:=by
 unfold LN Gh
 refine Z3 l b (fun x k r=>bif YY x v then some k else r) (PP l v) _ hN ?_ ?_
 ·intro n k x a c
  simp only [PP,Yo a,Yb,c,cT,bS,YY]
 ·intro n k a
  simp only [PP,Yp a,cond_false,Za9]
end
section
def Mu (n:Int):Prop:=-9223372036854775808<=n/\n<=9223372036854775807
def Zdb (e:T2):Int:=e.Act.To * 1180591620717411303424+e.Act.ZD
def key (g:T5) (x:Int):Int:=match g.ZO[x.toNat]? with | some e=>Zdb e | none=>0
def Vx (g:T5) (x:Int):Prop:=0<=x/\x < (g.ZO.length:Int)
def Ve (g:T5):Prop:=∀ e∈g.ZO,Mu e.Act.To/\Mu e.Act.ZD
theorem Vx.get {g:T5} {x:Int} (h:Vx g x):∃ e,Z5 g.ZO x=some e/\key g x=Zdb e/\e∈g.ZO:=by
 have ⟨b,c⟩:=h
 obtain ⟨k,rfl⟩:∃ k:Nat,x=(k:Int):=⟨x.toNat,by omega⟩
 have a:k < g.ZO.length:=by omega
 refine ⟨g.ZO[k],by rw [Yb,Za a],?_,List.getElem_mem a⟩
 unfold key
 rw [show (k:Int).toNat=k by simp,Za a]
def Uy (g:T5) (s:Int):List T2->Nat->List Int
 | [],_=>[]
 | x::l,k=>if x.ZC=s then (k:Int)::Uy g s l (k+1) else Uy g s l (k+1)
theorem Zjn (g:T5) (s:Int):∀ (l:List T2) (k:Nat),(Uy g s l k).length<=l.length
 | [],k=>by simp [Uy]
 | x::l,k=>by
  unfold Uy
  have:=Zjn g s l (k+1)
  split<;>simp<;>omega
def EdgesAre (g:T5) (s:Int) (L:List Int):Prop:=L.Perm (Uy g s g.ZO 0)/\WU (key g) (· < ·) L
theorem Zmu {N:Nat} (g:T5) (a:Ve g) (x y:Int) (h:Vx g x) (i:Vx g y):∃ b,Du N g x y=some b/\(b=true↔Lt (key g) (· < ·) x y):=by
  have ⟨e,j,k,l⟩:=h.get
  have ⟨f,m,n,o⟩:=i.get
  obtain ⟨⟨a1,a2⟩,a3,a4⟩:=a e l
  obtain ⟨⟨p,q⟩,s,t⟩:=a f o
  unfold Du
  rw [j,m]
  simp only [bS]
  unfold Lt
  rw [k,n]
  unfold Zdb
  by_cases c:e.Act.To=f.Act.To
  · rw [show (e.Act.To != f.Act.To)=false by simp [c],cond_false]
    by_cases d:e.Act.ZD=f.Act.ZD
    · rw [show (e.Act.ZD != f.Act.ZD)=false by simp [d],cond_false]
      exact ⟨_,rfl,by rw [decide_eq_true_iff];omega⟩
    · rw [show (e.Act.ZD != f.Act.ZD)=true by simp [d],cT]
      exact ⟨_,rfl,by rw [decide_eq_true_iff];omega⟩
  · rw [show (e.Act.To != f.Act.To)=true by simp [c],cT]
    exact ⟨_,rfl,by rw [decide_eq_true_iff];omega⟩
theorem Zo9 {g:T5} (x y:Int) (h:Lt (key g) (· < ·) x y):¬ Lt (key g) (· < ·) y x:=by
  unfold Lt at *;omega
theorem Zpb {g:T5} {x y z:Int} (h:Lt (key g) (· < ·) x y) (a:Lt (key g) (· < ·) y z):Lt (key g) (· < ·) x z:=by
  unfold Lt at *;omega
theorem Zpa {g:T5} {x y:Int} (h:¬ Lt (key g) (· < ·) x y) (a:x≠y):Lt (key g) (· < ·) y x:=by
  unfold Lt at *;omega
theorem EdgesAre.uniq {g:T5} {s:Int} {A B:List Int} (a:EdgesAre g s A) (b:EdgesAre g s B):A=B :=
 Zkm Zo9 A B (a.1.trans b.1.symm) a.2 b.2
theorem Zri {N:Nat} (g:T5) (q:Ve g) (a:List Int) (e:∀ y∈a,Vx g y) (s:a.length<=4194304) (v:Int) (t:Vx g v) (ag:List Int->Int->Option (List Int)) :
    ∀ (n:Nat) (A B:List Int) (j:Int),B.length < n->a=A++B->j=(A.length:Int)->(∀ y∈A,Lt (key g) (· < ·) y v) ->
    ∃ A B,a=A++B/\(∀ y∈A,Lt (key g) (· < ·) y v)/\(∀ y C,B=y::C->¬ Lt (key g) (· < ·) y v)/\Qr N g a v ag n j=LO a v ag (A.length:Int):=by
  intro n
  induction n with
  | zero=>intro A B j h;omega
  | succ n G =>
    intro A B j k d f l
    cases B with
    | nil =>
      have i:decide (j < (a.length:Int))=false:=by rw [d];simp;omega
      refine ⟨A,[],d,l,by simp,?_⟩
      simp only [Qr,i,cond_false]
      rw [f]
    | cons y B =>
      have i:decide (j < (a.length:Int))=true:=by rw [d];simp;omega
      have p:Z5 a j=some y:=BJ d f
      have ⟨b,m,o⟩:=Zmu (N:=N) g q y v (e y (by rw [d];simp)) t
      cases b with
      | true =>
        have H:a.length=A.length+(B.length+1):=by rw [d];simp
        have ⟨u,w,x,D,E,F⟩:=G (A++[y]) B (Z1 (j+1)) (by simp at k;omega) (by rw [d];simp) (by rw [f,Ye (by omega)];simp)
          (by
            intro z c
            rcases List.mem_append.mp c with c | c
            · exact l z c
            · simp at c;subst c;exact o.mp rfl)
        refine ⟨u,w,x,D,E,?_⟩
        simp only [Qr,i,cT,p,bS,m]
        exact F
      | false =>
        refine ⟨A,y::B,d,l,?_,?_⟩
        · intro z C c
          have:=(List.cons.inj c).1
          subst this
          intro h
          have:=o.mpr h
          cases this
        · simp only [Qr,i,cT,p,bS,m,cond_false]
          rw [f]
end
section
theorem Pe {α:Type} {L A B:List α} {i:Int} (hL:L=A++B) (hi:i=(A.length:Int)):lsl L none (some i)=some A:=by
 subst hL hi
 have h:decide ((A.length:Int)<=((A++B).length:Int))=true:=by simp;omega
 have a:decide ((0:Int)<=(A.length:Int))=true:=by simp
 unfold lsl Wj
 simp only [Option.getD_some,Option.getD_none,h,a]
 simp
theorem BX {α:Type} {L A B:List α} {i:Int} (hL:L=A++B) (hi:i=(A.length:Int)):lsl L (some i) none=some B:=by
 subst hL hi
 have h:decide ((A.length:Int)<=((A++B).length:Int))=true:=by simp;omega
 have a:decide ((0:Int)<=(A.length:Int))=true:=by simp
 unfold lsl Wj
 simp only [Option.getD_some,Option.getD_none,h,a,Int.le_refl,decide_true,Bool.and_self,cT,Option.map_some,Int.toNat_natCast,List.take_length]
 simp
theorem Zrj {N:Nat} (g:T5) (s:Int) (I:Ve g) (Z:g.ZO.length<=4194304) (hN:4194304 < N) :
    ∀ (l:List T2) (k n:Nat) (e f:List Int),g.ZO.drop k=l->l.length < n->Uy g s g.ZO 0=f++Uy g s l k->(∀ y∈f,0<=y/\y < (k:Int))->e.Perm f->WU (key g) (· < ·) e ->
    ∃ L,EdgesAre g s L/\Tp N g s n e (k:Int)=some L:=by
  intro l
  induction l with
  | nil =>
    intro k n e f h j p v b u
    obtain ⟨n,rfl⟩:∃ m,n=m+1:=⟨n-1,by simp at j;omega⟩
    refine ⟨e,⟨by rw [p];simpa [Uy] using b,u⟩,?_⟩
    simp only [Tp,Yp (Xr h),cond_false,Zbc]
  | cons x l H =>
    intro k n e f h j p v b u
    obtain ⟨n,rfl⟩:∃ m,n=m+1:=⟨n-1,by simp at j;omega⟩
    have ⟨a,c,d⟩:=Xp h
    simp only [Zg] at j
    have U:Uy g s (x::l) k=if x.ZC=s then (k:Int)::Uy g s l (k+1) else Uy g s l (k+1):=rfl
    rw [U] at p
    by_cases w:x.ZC=s
    · rw [if_pos w] at p
      have E:f.length<=g.ZO.length:=by
        have F:=Zjn g s g.ZO 0
        have V:=congrArg List.length p
        simp at V;omega
      have W:e.length<=g.ZO.length:=by rw [b.length_eq];exact E
      have X:Vx g (k:Int):=⟨by omega,by omega⟩
      have ⟨A,B,q,M,O,P⟩:=Zri (N:=N) g I e (fun y i=>by have:=v y (b.mem_iff.mp i);exact ⟨by omega,by omega⟩) (by omega) (k:Int) X (Tp N g s n) N [] e (0:Int) (by omega) rfl (by simp) (by simp)
      have hl:e.length=A.length+B.length:=by rw [q];simp
      have hB:∀ y∈B,Lt (key g) (· < ·) (k:Int) y:=by
        cases B with
        | nil=>simp
        | cons z B =>
          have t:z∈f:=b.mem_iff.mp (by rw [q];simp)
          have Y:=v z t
          have F:Lt (key g) (· < ·) (k:Int) z:=Zpa (O z B rfl) (by omega)
          intro y i
          rcases List.mem_cons.mp i with i | i
          · subst i;exact F
          · rw [q] at u
            exact Zpb F ((srt_cons.mp (srt_app.mp u).2.1).1 y i)
      have G:WU (key g) (· < ·) (A++(k:Int)::B):=by
        rw [q] at u
        have ⟨R,S,T⟩:=srt_app.mp u
        refine srt_app.mpr ⟨R,srt_cons.mpr ⟨hB,S⟩,?_⟩
        intro y i z t
        rcases List.mem_cons.mp t with t | t
        · subst t;exact M y i
        · exact T y i z t
      have o:(A++(k:Int)::B).Perm (f++[(k:Int)]):=by
        refine List.perm_middle.trans ?_
        rw [q] at b
        exact (List.Perm.cons _ b).trans (List.perm_append_singleton _ f).symm
      have ⟨L,C,D⟩:=H (k+1) n (A++(k:Int)::B) (f++[(k:Int)]) d (by omega) (by rw [p];simp)
        (by
          intro y i
          rcases List.mem_append.mp i with i | i
          · have:=v y i;omega
          · simp at i;omega) o G
      refine ⟨L,C,?_⟩
      simp only [Tp,Yo a,cT,Yb,c,bS,show (x.ZC != s)=false by simp [w],cond_false,P,LO]
      rw [Pe q rfl,BX q rfl]
      simp only [bS]
      rw [Y8 (by simp;omega)]
      simp only [bS]
      rw [Y8 (by simp;omega)]
      simp only [bS]
      rw [Ye (by omega)]
      exact D
    · rw [if_neg w] at p
      have ⟨L,C,D⟩:=H (k+1) n e f d (by omega) p (fun y i=>by have:=v y i;omega) b u
      refine ⟨L,C,?_⟩
      simp only [Tp,Yo a,cT,Yb,c,bS,show (x.ZC != s)=true by simp [w]]
      rw [Ye (by omega)]
      exact D
theorem Zrh {N:Nat} (hN:4194304 < N) (g:T5) (a:g.ZO.length<=4194304) (b:Ve g) (s:Int):∃ L,EdgesAre g s L/\G8 N g s=some L:=by
 unfold G8
 exact Zrj g s b a hN g.ZO 0 N [] [] rfl (by omega) (by simp) (by simp) (.refl _) Zkl
end
section
def Yw {α:Type} (p:α->Nat->Bool):List α->Nat->Bool
 | [],_=>true
 | x::l,k=>p x k && Yw p l (k+1)
theorem Zme {α:Type} (p:α->Nat->Bool) (xs:List α) (F:Nat->Int->Option Bool) (e:Option Bool)
  (f:∀ n k x,k < xs.length->xs[k]? = some x->F (n+1) (k:Int)=bif p x k then F n ((k+1:Nat):Int) else some false)
  (g:∀ n k,xs.length<=k->F (n+1) (k:Int)=e) :
  ∀ (l:List α) (k n:Nat),xs.drop k=l->l.length < n->F n (k:Int)=bif Yw p l k then e else some false:=by
 intro l
 induction l with
 | nil =>
  intro k n h b
  obtain ⟨n,rfl⟩:=pS n (by simp at b;omega)
  exact g n k (Xr h)
 | cons x l i =>
  intro k n h b
  obtain ⟨n,rfl⟩:=pS n (by simp at b;omega)
  have ⟨a,c,d⟩:=Xp h
  rw [f n k x a c,i (k+1) n d (by simp at b;omega)]
  show _=bif (p x k && Yw p l (k+1)) then e else some false
  cases p x k<;>rfl
theorem Xt {α:Type} (p:α->Nat->Bool) {xs:List α} {F:Nat->Int->Option Bool} {e:Option Bool} {n:Nat} (a:xs.length < n)
  (b:∀ n k x,k < xs.length->xs[k]? = some x->F (n+1) (k:Int)=bif p x k then F n ((k+1:Nat):Int) else some false)
  (c:∀ n k,xs.length<=k->F (n+1) (k:Int)=e):F n (0:Int)=bif Yw p xs 0 then e else some false :=
 Zme p xs F e b c xs 0 n rfl a
theorem XC {α:Type} (p:α->Nat->Bool):∀ (l:List α) (k:Nat),Yw p l k=true↔∀ i x,l[i]? = some x->p x (k+i)=true
 | [],k=>by simp [Yw]
 | x::l,k=>by
  show (p x k && Yw p l (k+1))=true↔_
  rw [Zc,XC p l (k+1)]
  constructor
  ·rintro ⟨b,c⟩ i y a
   cases i with
   | zero=>simp at a;subst a;exact b
   | succ i=>have:=c i y (by simpa using a);rw [show k+(i+1)=k+1+i by omega];exact this
  ·intro h
   exact ⟨by simpa using h 0 x (by simp),fun i y a=>by rw [show k+1+i=k+(i+1) by omega];exact h (i+1) y (by simpa using a)⟩
def bs (s:ByteArray):List UInt8:=s.data.toList
theorem XH (s:ByteArray):s.size=(bs s).length:=rfl
theorem Zkd {s:ByteArray} {k:Nat} (h:k < (bs s).length):decide ((k:Int) < (s.size:Int))=true:=Yo h
theorem Zkc {s:ByteArray} {k:Nat} (h:(bs s).length<=k):decide ((k:Int) < (s.size:Int))=false:=Yp h
theorem W9 (s:ByteArray):s.toList=bs s:=ByteArray.toList_eq s
theorem HB {a b:ByteArray} (h:bs a=bs b):a=b:=by
 cases a with | mk a=>cases b with | mk b=>simpa [bs] using h
theorem Pq (s:ByteArray) (k:Nat):X7 s (k:Int)=(bs s)[k]?.map (fun b=>(b.toNat:Int)):=by
 unfold X7
 have h:decide (0<=(k:Int))=true:=by simp
 rw [h,cT]
 have e:s[(k:Int).toNat]? = (bs s)[k]? := by
  simp [getElem?_def,bs]
  split<;>simp_all
  rfl
 rw [e]
variable {N:Nat} (hN:4194304 < N)
def Pd (c:Int):Bool:=(decide (97<=c) && decide (c<=122)) || (decide (65<=c) && decide (c<=90))
def Q8 (c:Int):Bool:=Pd c || ((decide (48<=c) && decide (c<=57)) || c==95)
theorem ZdL (N:Nat) (c:Int):L3 N c=some (Pd c):=by
 unfold L3 Pd
 cases decide (97<=c)<;>cases decide (c<=122)<;>cases decide (65<=c)<;>rfl
theorem Zrn (N:Nat) (c:Int):DE N c=some (Pd c):=ZdL N c
theorem Zon (N:Nat) (c:Int):DH N c=some (Q8 c):=by
 unfold DH Q8 ZbU
 rw [ZdL]
 simp only [bS]
 cases Pd c
 ·cases decide (48<=c)<;>cases decide (c<=57)<;>rfl
 ·rfl
def HJ (s:ByteArray):Bool :=
 match bs s with
 | []=>false
 | x::l=>Pd (x.toNat:Int) && (decide (l.length < 16) && Yw (fun (c:UInt8) _=>Q8 (c.toNat:Int)) (x::l) 0)
def keywords:List ByteArray:=[(str [97,103,97,105,110]),(str [97,110,100]),(str [97,115]),(str [97,116]),(str [99,97,108,108]),(str [99,104,111,105,99,101]),(str [101,108,115,101]),(str [102,114,111,109]),(str [105,102]),(str [105,110,116]),(str [108,101,110]),(str [108,111,111,112]),(str [109,101,115,115,97,103,101]),(str [111,102]),(str [111,102,102,101,114]),(str [111,110]),(str [111,114]),(str [112,97,114]),(str [112,108,97,121,115]),(str [112,114,111,116,111,99,111,108]),(str [115,101,114,118,105,99,101]),(str [116,101,120,116]),(str [116,105,109,101,115]),(str [116,111]),(str [118,97,114]),(str [119,104,101,114,101]),(str [119,104,105,108,101]),(str [119,105,116,104,105,110])]
def WD (s:ByteArray):Bool:=HJ s && !(keywords.any fun k=>YY k s)
include hN in
theorem Zp1 (s:ByteArray) (b:s.size<=4194304):SO N s N (0:Int)=some (Yw (fun (c:UInt8) _=>Q8 (c.toNat:Int)) (bs s) 0):=by
 rw [XH] at b
 rw [Xt (xs:=bs s) (fun (c:UInt8) _=>Q8 (c.toNat:Int)) (F:=SO N s) (e:=some true) (by omega)]
 ·cases Yw (fun (c:UInt8) _=>Q8 (c.toNat:Int)) (bs s) 0<;>rfl
 ·intro n k x a d
  simp only [SO,Zkd a,cT,Pq,d,Option.map_some,bS,Zon,Ye (show k < 4611686018427387904 by omega)]
  cases Q8 (x.toNat:Int)<;>rfl
 ·intro n k a
  simp only [SO,Zkc a,cond_false,ZbD]
theorem Zi0 (s:ByteArray):∀ n k,LX N s n k=SO N s n k
 | 0,_=>rfl
 | n+1,k=>by
  simp only [LX,SO,Zi0 s n]
  rfl
theorem Bi:bs (str [])=[]:=rfl
include hN in
theorem Zp2 (s:ByteArray) (a:s.size<=4194304):Dy N s=some (HJ s)/\z212 N s=some (HJ s):=by
 unfold Dy z212
 rw [Zi0,Zp1 hN s a,W9,W9,Bi,XH,show X7 s (0:Int)=X7 s ((0:Nat):Int) from rfl,Pq]
 unfold HJ
 cases h:bs s with
 | nil=>exact ⟨rfl,rfl⟩
 | cons x l =>
  have e:(x::l==([]:List UInt8))=false:=rfl
  rw [e]
  simp only [cond_false,List.getElem?_cons_zero,Option.map_some,bS,ZdL,Zrn]
  have d:decide (((x::l).length:Int) > 16) = !decide (l.length < 16):=by
   by_cases q:l.length < 16
   ·rw [dT q];simp;omega
   ·rw [dF q];simp;omega
  rw [d]
  cases Pd (x.toNat:Int)<;>cases decide (l.length < 16)<;>exact ⟨rfl,rfl⟩
theorem Gi {α:Type} (f:α->Bool) (l:List α) (k:Nat):∃ i,lv (fun x (k:Nat) r=>bif f x then some (k:Int) else r) (some (-1)) l k=some i/\decide (i>=0)=l.any f:=by
 induction l generalizing k with
 | nil=>exact ⟨-1,rfl,rfl⟩
 | cons x l a =>
  show ∃ i,(bif f x then some (k:Int) else lv _ _ l (k+1))=some i/\_
  rw [List.any_cons]
  cases f x
  ·exact a (k+1)
  ·exact ⟨k,rfl,by simp⟩
include hN in
theorem Zg7 (l:List ByteArray) (a:l.length<=4194304) (v:ByteArray):LW N l v=some (l.any fun x=>YY x v):=by
 unfold LW
 rw [Zl3 hN l a]
 have ⟨i,b,c⟩:=Gi (fun x=>YY x v) l 0
 unfold Gh
 rw [b,bS,c]
include hN in
theorem Zrl (l:List ByteArray) (b:l.length<=4194304) (v:ByteArray):z213 N l v=some (l.any fun x=>YY x v):=by
 unfold z213
 rw [Z3 l b (fun x k r=>bif YY x v then some true else r) (P2 l v) (some false) hN]
 ·generalize (0:Nat)=k
  induction l generalizing k with
  | nil=>rfl
  | cons x l d =>
   show (bif YY x v then some true else lv _ _ l (k+1))=_
   rw [List.any_cons,d (by simp at b;omega)]
   cases YY x v<;>rfl
 ·intro n k x a c
  simp only [P2,Yo a,Yb,c,cT,bS,YY]
 ·intro n k a
  simp only [P2,Yp a,cond_false,Zbw]
include hN in
theorem Qa (s:ByteArray) (c:s.size<=4194304):Qs N s=some (WD s)/\z164 N s=some (WD s):=by
 have ⟨d,e⟩:=Zp2 hN s c
 unfold Qs z164 Zbx
 rw [d,e]
 simp only [bS]
 have a:=Zg7 hN keywords (by decide) s
 have b:=Zrl hN keywords (by decide) s
 unfold keywords at a b
 rw [a,b]
 unfold WD keywords
 simp only [bS]
 cases HJ s<;>exact ⟨rfl,rfl⟩
end
section
theorem Tb {a b n:Int}:YG a b < n↔a < n\/b < n:=by unfold YG;split<;>omega
theorem Pf {a b n:Int}:Yy a b>=n↔a>=n\/b>=n:=by unfold Yy;split<;>omega
variable {N:Nat} (hN:4194304 < N)
def Xj (g:T5) (x:T2):Prop :=
 0<=x.ZC/\x.ZC < g.ZL/\0<=x.To/\x.To < g.ZL/\0<=x.Act.ZC/\x.Act.ZC < (g.ZI.length:Int)/\0<=x.Act.To/\x.Act.To < (g.ZI.length:Int)/\x.Act.ZC≠x.Act.To/\0<=x.Act.ZD/\x.Act.ZD < (g.ZJ.length:Int)
instance (g:T5) (x:T2):Decidable (Xj g x):=by unfold Xj;infer_instance
def Wg (g:T5):Prop :=
 1<=g.ZL/\g.ZL<=200/\0<=g.ZM/\g.ZM < g.ZL/\0<=g.ZN/\g.ZN < g.ZL/\g.ZO.length<=400
instance (g:T5):Decidable (Wg g):=by unfold Wg;infer_instance
def Uf (g:T5):Bool:=decide (Wg g) && Yw (fun x _=>decide (Xj g x)) g.ZO 0
include hN in
theorem Zi8 (g:T5) (j:g.ZO.length<=4194304):GX N g=some (Uf g):=by
 unfold GX
 rw [Xt (fun x _=>decide (Xj g x)) (xs:=g.ZO) (F:=PN g) (e:=some true) (by omega)]
 ·unfold Uf
  by_cases a:g.ZL < 1
  ·rw [dT a,dF (show ¬ Wg g by unfold Wg;omega)];rfl
  by_cases b:g.ZL > 200
  ·rw [dF a,dT b,dF (show ¬ Wg g by unfold Wg;omega)];rfl
  by_cases c:YG g.ZM g.ZN < 0
  ·rw [dF a,dF b,dT c,dF (show ¬ Wg g by rw [Tb] at c;unfold Wg;omega)];rfl
  by_cases d:Yy g.ZM g.ZN>=g.ZL
  ·rw [dF a,dF b,dF c,dT d,dF (show ¬ Wg g by rw [Pf] at d;unfold Wg;omega)];rfl
  by_cases f:(g.ZO.length:Int) > 400
  ·rw [dF a,dF b,dF c,dF d,dT f,dF (show ¬ Wg g by unfold Wg;omega)];rfl
  rw [dF a,dF b,dF c,dF d,dF f,dT (show Wg g by rw [Tb] at c;rw [Pf] at d;unfold Wg;omega)]
  cases Yw (fun x _=>decide (Xj g x)) g.ZO 0<;>rfl
 ·intro n k x h i
  simp only [PN,Yo h,Yb,i,cT,bS,Ye (show k < 4611686018427387904 by omega)]
  by_cases a:YG (YG (YG (YG x.ZC x.To) x.Act.ZC) x.Act.To) x.Act.ZD < 0
  ·rw [dT a,dF (show ¬ Xj g x by rw [Tb,Tb,Tb,Tb] at a;unfold Xj;omega)];rfl
  by_cases b:Yy x.ZC x.To>=g.ZL
  ·rw [dF a,dT b,dF (show ¬ Xj g x by rw [Pf] at b;unfold Xj;omega)];rfl
  by_cases c:Yy x.Act.ZC x.Act.To>=(g.ZI.length:Int)
  ·rw [dF a,dF b,dT c,dF (show ¬ Xj g x by rw [Pf] at c;unfold Xj;omega)];rfl
  by_cases d:x.Act.ZC=x.Act.To
  ·rw [dF a,dF b,dF c,show (x.Act.ZC==x.Act.To)=true by simp [d],dF (show ¬ Xj g x by unfold Xj;omega)];rfl
  by_cases f:x.Act.ZD>=(g.ZJ.length:Int)
  ·rw [dF a,dF b,dF c,show (x.Act.ZC==x.Act.To)=false by simp [d],dT f,dF (show ¬ Xj g x by unfold Xj;omega)];rfl
  rw [dF a,dF b,dF c,show (x.Act.ZC==x.Act.To)=false by simp [d],dF f,dT (show Xj g x by rw [Tb,Tb,Tb,Tb] at a;rw [Pf] at b c;unfold Xj;omega)]
  rfl
 ·intro n k h
  simp only [PN,Yp h,cond_false,Za5]
theorem Zap (N:Nat) (g:T5) (s:Int):Rx N g s=some (decide (0<=s/\s < g.ZL)):=by
 unfold Rx
 by_cases a:s>=0
 ·by_cases b:s < g.ZL
  ·rw [dT a,dT b,dT ⟨a,b⟩];rfl
  ·rw [dT a,dF b,dF (show ¬ (0<=s/\s < g.ZL) by omega)];rfl
 ·rw [dF a,dF (show ¬ (0<=s/\s < g.ZL) by omega)];rfl
include hN in
theorem Zqc (g:T5) (p:g.ZO.length<=4194304):Gm N g=some (Uf g):=by
 unfold Gm
 rw [Xt (fun x _=>decide (Xj g x)) (xs:=g.ZO) (F:=Pz N g) (e:=Gn N g) (by omega)]
 ·unfold Uf Gn
  rw [Zap,Zap]
  simp only [bS]
  cases Yw (fun x _=>decide (Xj g x)) g.ZO 0
  ·simp
  by_cases a:g.ZL>=1
  ·by_cases b:g.ZL<=200
   ·by_cases c:0<=g.ZM/\g.ZM < g.ZL
    ·by_cases d:0<=g.ZN/\g.ZN < g.ZL
     ·by_cases f:(g.ZO.length:Int)<=400
      ·rw [dT a,dT b,dT c,dT d,dT f,dT (show Wg g by unfold Wg;omega)];rfl
      ·rw [dT a,dT b,dT c,dT d,dF f,dF (show ¬ Wg g by unfold Wg;omega)];rfl
     ·rw [dT a,dT b,dT c,dF d,dF (show ¬ Wg g by unfold Wg;omega)];rfl
    ·rw [dT a,dT b,dF c,dF (show ¬ Wg g by unfold Wg;omega)];rfl
   ·rw [dT a,dF b,dF (show ¬ Wg g by unfold Wg;omega)];rfl
  ·rw [dF a,dF (show ¬ Wg g by unfold Wg;omega)];rfl
 ·intro n k x j o
  simp only [Pz,Yo j,Yb,o,cT,bS,Ye (show k < 4611686018427387904 by omega),Zap]
  by_cases a:0<=x.ZC/\x.ZC < g.ZL
  ·by_cases b:0<=x.To/\x.To < g.ZL
   ·by_cases c:x.Act.ZC < 0
    ·rw [dT a,dT b,dT c,dF (show ¬ Xj g x by unfold Xj;omega)];rfl
    by_cases d:x.Act.ZC>=(g.ZI.length:Int)
    ·rw [dT a,dT b,dF c,dT d,dF (show ¬ Xj g x by unfold Xj;omega)];rfl
    by_cases f:x.Act.To < 0
    ·rw [dT a,dT b,dF c,dF d,dT f,dF (show ¬ Xj g x by unfold Xj;omega)];rfl
    by_cases h:x.Act.To>=(g.ZI.length:Int)
    ·rw [dT a,dT b,dF c,dF d,dF f,dT h,dF (show ¬ Xj g x by unfold Xj;omega)];rfl
    by_cases i:x.Act.ZC=x.Act.To
    ·rw [dT a,dT b,dF c,dF d,dF f,dF h,show (x.Act.ZC==x.Act.To)=true by simp [i],dF (show ¬ Xj g x by unfold Xj;omega)];rfl
    by_cases l:x.Act.ZD < 0
    ·rw [dT a,dT b,dF c,dF d,dF f,dF h,show (x.Act.ZC==x.Act.To)=false by simp [i],dT l,dF (show ¬ Xj g x by unfold Xj;omega)];rfl
    by_cases m:x.Act.ZD>=(g.ZJ.length:Int)
    ·rw [dT a,dT b,dF c,dF d,dF f,dF h,show (x.Act.ZC==x.Act.To)=false by simp [i],dF l,dT m,dF (show ¬ Xj g x by unfold Xj;omega)];rfl
    rw [dT a,dT b,dF c,dF d,dF f,dF h,show (x.Act.ZC==x.Act.To)=false by simp [i],dF l,dF m,dT (show Xj g x by unfold Xj;omega)];rfl
   ·rw [dT a,dF b,dF (show ¬ Xj g x by unfold Xj;omega)];rfl
  ·rw [dF a,dF (show ¬ Xj g x by unfold Xj;omega)];rfl
 ·intro n k j
  simp only [Pz,Yp j,cond_false]
def Rf (x y:T2) (same:Bool):Bool :=
 !((!same && (x.ZC==y.ZC && ((((x.Act.ZC==y.Act.ZC) && ((x.Act.To==y.Act.To) && ((x.Act.ZD==y.Act.ZD) && true)))) || (x.Act.ZC != y.Act.ZC || x.ZE)))) || (x.ZE && (y.To==x.ZC && (x.Act.ZC != y.Act.ZC || x.Act.ZD != y.Act.ZD))))
def TE (g:T5) (x:T2) (k:Nat):Bool := !(x.ZE && x.ZC==g.ZM) && Yw (fun y i=>Rf x y (decide (k=i))) g.ZO 0
def Zad (g:T5):Bool:=Yw (fun x k => !(x.ZC==g.ZN) && TE g x k) g.ZO 0
def QX (g:T5):Bool:=Yw (fun x k=>TE g x k) g.ZO 0
theorem ZgP (k i:Nat):((k:Int) != (i:Int)) = !decide (k=i):=by
 by_cases h:k=i
 ·subst h;simp
 ·rw [dF h];simp;omega
include hN in
theorem Zje (g:T5) (f:g.ZO.length<=4194304):GZ N g=some (Zad g):=by
 unfold GZ
 rw [Xt (fun x k => !(x.ZC==g.ZN) && TE g x k) (xs:=g.ZO) (F:=Uk N g) (e:=some true) (by omega)]
 ·unfold Zad;cases Yw _ g.ZO 0<;>rfl
 ·intro n k x b c
  have a:Tm g (k:Int) (Uk N g n) x N (0:Int)=bif Yw (fun y i=>Rf x y (decide (k=i))) g.ZO 0 then G2 (k:Int) (Uk N g n) else some false:=by
   refine Xt (fun y i=>Rf x y (decide (k=i))) (by omega) ?_ ?_
   ·intro m i y hi d
    simp only [Tm,Yo hi,Yb,d,cT,bS,ZgP,Qq,Ye (show i < 4611686018427387904 by omega),Rf]
    cases decide (k=i)<;>cases (x.ZC==y.ZC)<;>cases ((x.Act.ZC==y.Act.ZC) && ((x.Act.To==y.Act.To) && ((x.Act.ZD==y.Act.ZD) && true)))<;>cases (x.Act.ZC != y.Act.ZC)<;>cases x.ZE<;>cases (y.To==x.ZC)<;>cases (x.Act.ZD != y.Act.ZD)<;>rfl
   ·intro m i hi
    simp only [Tm,Yp hi,cond_false]
  simp only [Uk,Yo b,Yb,c,cT,bS,LJ,a,G2,Ye (show k < 4611686018427387904 by omega),TE]
  cases (x.ZC==g.ZN)<;>cases x.ZE<;>cases (x.ZC==g.ZM)<;>cases Yw (fun y i=>Rf x y (decide (k=i))) g.ZO 0<;>rfl
 ·intro n k b
  simp only [Uk,Yp b,cond_false,Za6]
theorem Zdv (a b:Int):(a != b)=(b != a):=by
 by_cases h:a=b
 ·subst h;rfl
 ·rw [show (a != b)=true by simp [h],show (b != a)=true by simp [Ne.symm h]]
include hN in
theorem Zmi (g:T5) (f:g.ZO.length<=4194304):Gq N g=some (QX g):=by
 unfold Gq
 rw [Xt (fun x k=>TE g x k) (xs:=g.ZO) (F:=Uz N g) (e:=some true) (by omega)]
 ·unfold QX;cases Yw _ g.ZO 0<;>rfl
 ·intro n k x b c
  have a:Th g (k:Int) (Uz N g n) x N (0:Int)=bif Yw (fun y i=>Rf x y (decide (k=i))) g.ZO 0 then Gr (k:Int) (Uz N g n) else some false:=by
   refine Xt (fun y i=>Rf x y (decide (k=i))) (by omega) ?_ ?_
   ·intro m i y hi d
    simp only [Th,Yo hi,Yb,d,cT,bS,Zdv (i:Int) (k:Int),ZgP,Qc,Ye (show i < 4611686018427387904 by omega),Rf,Zdv y.Act.ZC x.Act.ZC,Zdv y.Act.ZD x.Act.ZD]
    cases decide (k=i)<;>cases (x.ZC==y.ZC)<;>cases ((x.Act.ZC==y.Act.ZC) && ((x.Act.To==y.Act.To) && ((x.Act.ZD==y.Act.ZD) && true)))<;>cases (x.Act.ZC != y.Act.ZC)<;>cases x.ZE<;>cases (y.To==x.ZC)<;>cases (x.Act.ZD != y.Act.ZD)<;>rfl
   ·intro m i hi
    simp only [Th,Yp hi,cond_false]
  simp only [Uz,Yo b,Yb,c,cT,bS,Gs,a,Gr,Ye (show k < 4611686018427387904 by omega),TE]
  cases x.ZE<;>cases (x.ZC==g.ZM)<;>cases Yw (fun y i=>Rf x y (decide (k=i))) g.ZO 0<;>rfl
 ·intro n k b
  simp only [Uz,Yp b,cond_false,ZaM]
theorem Zjd (g:T5):Zad g=(QX g && g.ZO.all fun x => !(x.ZC==g.ZN)):=by
 unfold Zad QX
 suffices h:∀ (l:List T2) (k:Nat),Yw (fun x k => !(x.ZC==g.ZN) && TE g x k) l k=(Yw (fun x k=>TE g x k) l k && l.all fun x => !(x.ZC==g.ZN)) from h _ _
 intro l
 induction l with
 | nil=>intro k;rfl
 | cons x l a =>
  intro k
  show ((!(x.ZC==g.ZN) && TE g x k) && Yw _ l (k+1))=((TE g x k && Yw _ l (k+1)) && _)
  rw [a,List.all_cons]
  cases (x.ZC==g.ZN)<;>cases TE g x k<;>simp
end
section
variable {N:Nat} (hN:4194304 < N)
def Bw (g:T5) (x:XB):Bool:=match Z5 g.ZO x.ZH with | some e=>e.ZC==x.ZF && !e.ZE | none=>false
def XU (g:T5) (x:XB):Prop:=1<=x.ZG/\x.ZG<=1000/\0<=x.ZH/\x.ZH < (g.ZO.length:Int)/\Bw g x=true
instance (g:T5) (x:XB):Decidable (XU g x):=by unfold XU;infer_instance
def XX (g:T5):Nat->Int
 | 0=>-1
 | k+1=>match g.ZP[k]? with | some t=>t.ZF | none=>-1
def Pu (g:T5):Bool:=Yw (fun x k=>decide (XX g k < x.ZF/\XU g x)) g.ZP 0
theorem Zdd {g:T5} {i:Int} (a:0<=i) (b:i < (g.ZO.length:Int)):∃ e,Z5 g.ZO i=some e/\e∈g.ZO:=by
 have ⟨e,h,_,c⟩:=(show Vx g i from ⟨a,b⟩).get
 exact ⟨e,h,c⟩
include hN in
theorem Zkx (g:T5) (t:g.ZP.length<=4194304):G3 N g=some (Pu g):=by
 unfold G3
 have h:=Xt (fun x k=>decide (XX g k < x.ZF/\XU g x)) (xs:=g.ZP) (F:=fun n i=>TX g n (XX g i.toNat) i) (e:=some true) (n:=N) (by omega) (by
  intro n k x d m
  show TX g (n+1) (XX g k) (k:Int)=bif decide (XX g k < x.ZF/\XU g x) then TX g n (XX g (k+1)) ((k+1:Nat):Int) else some false
  have q:XX g (k+1)=x.ZF:=by simp only [XX,m]
  rw [q]
  simp only [TX,Yo d,Yb,m,cT,bS,Ye (show k < 4611686018427387904 by omega)]
  by_cases a:x.ZF<=XX g k
  ·rw [dT a,dF (show ¬ (XX g k < x.ZF/\XU g x) by omega)];rfl
  by_cases b:x.ZG < 1
  ·rw [dF a,dT b,dF (show ¬ (XX g k < x.ZF/\XU g x) by unfold XU;omega)];rfl
  by_cases c:x.ZG > 1000
  ·rw [dF a,dF b,dT c,dF (show ¬ (XX g k < x.ZF/\XU g x) by unfold XU;omega)];rfl
  by_cases j:x.ZH < 0
  ·rw [dF a,dF b,dF c,dT j,dF (show ¬ (XX g k < x.ZF/\XU g x) by unfold XU;omega)];rfl
  by_cases o:x.ZH>=(g.ZO.length:Int)
  ·rw [dF a,dF b,dF c,dF j,dT o,dF (show ¬ (XX g k < x.ZF/\XU g x) by unfold XU;omega)];rfl
  have ⟨e,l,_⟩:=Zdd (g:=g) (i:=x.ZH) (by omega) (by omega)
  rw [dF a,dF b,dF c,dF j,dF o,l]
  have f:decide (XX g k < x.ZF/\XU g x)=(e.ZC==x.ZF && !e.ZE):=by
   rw [Bool.eq_iff_iff,decide_eq_true_iff]
   unfold XU Bw
   rw [l]
   constructor
   ·intro h;exact h.2.2.2.2.2
   ·intro h;exact ⟨by omega,by omega,by omega,by omega,by omega,h⟩
  rw [f]
  simp only [bS,cond_false]
  cases p:(e.ZC==x.ZF)
  ·rw [show (e.ZC != x.ZF)=true by unfold bne;rw [p];rfl];rfl
  ·rw [show (e.ZC != x.ZF)=false by unfold bne;rw [p];rfl]
   cases e.ZE<;>rfl) (by
  intro n k d
  show TX g (n+1) (XX g k) (k:Int)=some true
  simp only [TX,Yp d,cond_false,Za7])
 have s:TX g N (-1) (0:Int)=bif Yw (fun x k=>decide (XX g k < x.ZF/\XU g x)) g.ZP 0 then some true else some false:=h
 rw [s]
 unfold Pu
 cases Yw _ g.ZP 0<;>rfl
theorem Zaa {g:T5} (h:Uf g=true) {x:T2} (a:x∈g.ZO):Xj g x:=by
 unfold Uf at h
 rw [Zc] at h
 have ⟨i,hi⟩:=List.mem_iff_getElem?.mp a
 exact of_decide_eq_true ((XC _ _ _).mp h.2 i x hi)
theorem HS {g:T5} (h:Uf g=true):Wg g:=by
 unfold Uf at h
 rw [Zc] at h
 exact of_decide_eq_true h.1
include hN in
theorem Zry (g:T5) (P:g.ZP.length<=4194304) (E:Uf g=true):Gv N g=some (Pu g):=by
  unfold Gv
  rw [Xt (fun x k=>decide (XX g k < x.ZF/\XU g x)) (xs:=g.ZP) (F:=Sz N g) (e:=some true) (by omega)]
  · unfold Pu;cases Yw _ g.ZP 0<;>rfl
  · intro n k x s L
    simp only [Sz,Yo s,Yb,L,cT,bS,Ye (show k < 4611686018427387904 by omega),Zap]
    by_cases v:0<=x.ZF/\x.ZF < g.ZL
    · rw [dT v]
      simp only [Zh,cond_false]
      -- the tests behind the order
      have a:∀ (b:Bool) (o:b=decide (XX g k < x.ZF)),(bif !b then some false else bif decide (x.ZG < (1:Int)) then (some false)
         else bif decide (x.ZG > (1000:Int)) then (some false)
         else bif decide (x.ZH < (0:Int)) then (some false)
         else bif decide (x.ZH>=(g.ZO.length:Int)) then (some false)
         else (Z5 g.ZO x.ZH).bind fun c =>
         bif (c.ZC != x.ZF) then (some false)
         else (Z5 g.ZO x.ZH).bind fun d =>
         bif d.ZE then (some false)
         else Sz N g n ((k+1:Nat):Int))=bif decide (XX g k < x.ZF/\XU g x) then Sz N g n ((k+1:Nat):Int) else some false:=by
        intro b o
        by_cases B:XX g k < x.ZF
        · rw [o,dT B]
          by_cases f:x.ZG < 1
          · rw [dT f,dF (show ¬ (XX g k < x.ZF/\XU g x) by unfold XU;omega)];rfl
          by_cases m:x.ZG > 1000
          · rw [dF f,dT m,dF (show ¬ (XX g k < x.ZF/\XU g x) by unfold XU;omega)];rfl
          by_cases w:x.ZH < 0
          · rw [dF f,dF m,dT w,dF (show ¬ (XX g k < x.ZF/\XU g x) by unfold XU;omega)];rfl
          by_cases C:x.ZH>=(g.ZO.length:Int)
          · rw [dF f,dF m,dF w,dT C,dF (show ¬ (XX g k < x.ZF/\XU g x) by unfold XU;omega)];rfl
          have ⟨e,j,_⟩:=Zdd (g:=g) (i:=x.ZH) (by omega) (by omega)
          rw [dF f,dF m,dF w,dF C,j]
          have t:decide (XX g k < x.ZF/\XU g x)=(e.ZC==x.ZF && !e.ZE):=by
            rw [Bool.eq_iff_iff,decide_eq_true_iff]
            unfold XU Bw
            rw [j]
            constructor
            · intro h;exact h.2.2.2.2.2
            · intro h;exact ⟨by omega,by omega,by omega,by omega,by omega,h⟩
          rw [t]
          simp only [bS,cond_false,Zh]
          cases D:(e.ZC==x.ZF)
          · rw [show (e.ZC != x.ZF)=true by unfold bne;rw [D];rfl];rfl
          · rw [show (e.ZC != x.ZF)=false by unfold bne;rw [D];rfl]
            cases e.ZE<;>rfl
        · rw [o,dF B,dF (show ¬ (XX g k < x.ZF/\XU g x) by omega)];rfl
      cases k with
      | zero =>
        have u:decide (((0:Nat):Int) > 0)=false:=rfl
        rw [u,cond_false]
        have:=a true (by rw [dT];show (-1:Int) < x.ZF;omega)
        simpa using this
      | succ k =>
        have u:decide (((k+1:Nat):Int) > 0)=true:=by simp
        obtain ⟨p,y⟩:∃ p,g.ZP[k]? = some p:=⟨g.ZP[k]'(by omega),Za _⟩
        have M:XX g (k+1)=p.ZF:=by simp only [XX,y]
        have O:Z1 (((k+1:Nat):Int)-1)=(k:Int):=by rw [YE (by omega) (by omega)];omega
        rw [u,cT,O,Yb,y,bS]
        have:=a (!decide (x.ZF<=p.ZF)) (by
          rw [M]
          by_cases q:x.ZF<=p.ZF
          · rw [dT q,dF (by omega)];rfl
          · rw [dF q,dT (by omega)];rfl)
        rw [Bool.not_not] at this
        exact this
    · rw [dF v]
      have:¬ (XX g k < x.ZF/\XU g x):=by
        rintro ⟨_,_,_,G,H,l⟩
        have ⟨e,j,I⟩:=Zdd G H
        unfold Bw at l
        rw [j] at l
        simp only [Zc,beq_iff_eq] at l
        have ⟨z,A,_⟩:=Zaa E I
        rw [l.1] at z A
        exact v ⟨z,A⟩
      rw [dF this];rfl
  · intro n k s
    simp only [Sz,Yp s,cond_false,ZaO]
end
section
theorem TL {α:Type} {L:List α} {v:Int} {d:α} (h:Z5 L v=some d):0<=v/\v < (L.length:Int):=by
 by_cases a:0<=v
 ·obtain ⟨k,rfl⟩:∃ k:Nat,v=(k:Int):=⟨v.toNat,by omega⟩
  rw [Yb] at h
  have ⟨b,_⟩:=List.getElem?_eq_some_iff.mp h
  exact ⟨a,by omega⟩
 ·unfold Z5 at h
  rw [dF a] at h;cases h
theorem Xx {α:Type} {L:List α} {v:Int} (a:0<=v) (b:v < (L.length:Int)):∃ d,Z5 L v=some d:=by
 obtain ⟨k,rfl⟩:∃ k:Nat,v=(k:Int):=⟨v.toNat,by omega⟩
 exact ⟨L[k]'(by omega),by rw [Yb,Za]⟩
theorem Po {α:Type} (L:List α) {b:Int} (d:α) (a:0<=b):(YA L b d).length=L.length:=by
 obtain ⟨k,rfl⟩:∃ k:Nat,b=(k:Int):=⟨b.toNat,by omega⟩
 rw [XE];simp
theorem RW {α:Type} {L:List α} {b:Int} {d:α} (c:0<=b) (f:b < (L.length:Int)) (v:Int):Z5 (YA L b d) v=if v=b then some d else Z5 L v:=by
 obtain ⟨k,rfl⟩:∃ k:Nat,b=(k:Int):=⟨b.toNat,by omega⟩
 rw [XE]
 by_cases a:0<=v
 ·obtain ⟨j,rfl⟩:∃ j:Nat,v=(j:Int):=⟨v.toNat,by omega⟩
  rw [Yb,Yb,List.getElem?_set]
  by_cases e:k=j
  ·subst e;simp;omega
  ·rw [if_neg e,if_neg (by omega)]
 ·rw [if_neg (by omega)]
  unfold Z5
  rw [dF a];rfl
theorem count_set {L:List Int} {b d:Int} (h:Z5 L b=some (-1)) (c:d≠-1):(YA L b d).count (-1)+1=L.count (-1):=by
 have ⟨e,f⟩:=TL h
 obtain ⟨k,rfl⟩:∃ k:Nat,b=(k:Int):=⟨b.toNat,by omega⟩
 rw [Yb] at h
 rw [XE]
 obtain ⟨A,x,B,rfl,a⟩:=Zm0 L k (by omega)
 rw [Zdu A x B a] at h
 cases h
 rw [Zj7 A (-1) d B a]
 simp [List.count_append,List.count_cons,c]
 omega
def er (back:Bool) (x:T2):Int × Int:=(bif back then x.To else x.ZC,bif back then x.ZC else x.To)
def VD (g:T5) (back:Bool):List (Int × Int):=g.ZO.map (er back)
structure Jn (E:List (Int × Int)) (S:Nat) (e da:Int) (out todo:List Int) (mu:Nat):Prop where
 len:out.length=S
 lo:∀ v d,Z5 out v=some d->-1<=d/\d<=da+1
 ub:∀ v d,Z5 out v=some d->d+(out.count (-1):Nat)+1<=(S:Int)
 root:Z5 out e=some 0
 zero:∀ v,Z5 out v=some 0->v=e
 pred:∀ v d,Z5 out v=some d->0 < d->∃ u,(u,v)∈E/\Z5 out u=some (d-1)
 todo_in:∀ v∈todo,∃ d,Z5 out v=some d/\da<=d/\0<=d
 sorted:todo.Pairwise (fun x y=>∀ dx dy,Z5 out x=some dx->Z5 out y=some dy->dx<=dy)
 proc:∀ u v d,(u,v)∈E->Z5 out u=some d->0<=d->u ∉ todo->∃ d',Z5 out v=some d'/\0<=d'/\d'<=d+1
 mu_eq:out.count (-1)+todo.length=mu
theorem Jn.push {E:List (Int × Int)} {S:Nat} {e i a v:Int} {g todo:List Int} {F:Nat} (h:Jn E S e i g todo F) (G:Z5 g a=some i) (s:0<=i) (R:(a,v)∈E) (t:Z5 g v=some (-1)) :
  Jn E S e i (YA g v (i+1)) (todo++[v]) F/\∀ w d,Z5 g w=some d->0<=d->Z5 (YA g v (i+1)) w=some d:=by
 have ⟨v0,T⟩:=TL t
 have c:=fun w=>RW (L:=g) (d:=i+1) v0 T w
 have P:=count_set t (d:=i+1) (by omega)
 have ext:∀ w d,Z5 g w=some d->0<=d->Z5 (YA g v (i+1)) w=some d:=by
  intro w d b n
  rw [c,if_neg]
  ·exact b
  ·intro j;subst j;rw [t] at b;cases b;omega
 refine ⟨⟨?_,?_,?_,ext _ _ h.root (by omega),?_,?_,?_,?_,?_,?_⟩,ext⟩
 ·rw [Po _ _ v0,h.len]
 ·intro w d b
  rw [c] at b
  split at b
  ·cases b;omega
  ·exact h.lo w d b
 ·intro w d b
  have:=h.ub a i G
  rw [c] at b
  split at b
  ·cases b;omega
  ·have:=h.ub w d b;omega
 ·intro w b
  rw [c] at b
  split at b
  ·have:=Zl b;omega
  ·exact h.zero w b
 ·intro w d b n
  rw [c] at b
  split at b
  ·rename_i j
   cases b
   subst j
   exact ⟨a,R,by rw [show i+1-1=i by omega];exact ext a i G s⟩
  ·have ⟨u,U,V⟩:=h.pred w d b n
   exact ⟨u,U,ext _ _ V (by omega)⟩
 ·intro w b
  rcases List.mem_append.mp b with b | b
  ·have ⟨d,d1,z,k⟩:=h.todo_in w b
   exact ⟨d,ext _ _ d1 k,z,k⟩
  ·simp at b;subst b
   exact ⟨i+1,by rw [c,if_pos rfl],by omega,by omega⟩
 ·refine List.pairwise_append.mpr ⟨?_,by simp,?_⟩
  ·refine List.Pairwise.imp_of_mem ?_ h.sorted
   intro x y A o B dx dy l m
   have ⟨d,d1,z,k⟩:=h.todo_in x A
   have ⟨f,H,f2,W⟩:=h.todo_in y o
   rw [ext _ _ d1 k] at l;rw [ext _ _ H W] at m
   cases l;cases m
   exact B _ _ d1 H
  ·intro x A y o dx dy l m
   simp at o;subst o
   have ⟨d,d1,z,k⟩:=h.todo_in x A
   rw [ext _ _ d1 k] at l
   rw [c,if_pos rfl] at m
   cases l;cases m
   exact (h.lo x _ d1).2
 ·intro p q d C M n O
  have D:p≠v:=fun j=>O (by simp [j])
  rw [c,if_neg D] at M
  have ⟨X,Y,I,Z⟩:=h.proc p q d C M n (fun j=>O (by simp [j]))
  exact ⟨X,ext _ _ Y I,I,Z⟩
 ·have:=h.mu_eq
  simp;omega
variable {N:Nat}
theorem Zsq (g:T5) (b:Bool) (S:Nat) (hS:S<=4194304) (hg:g.ZO.length<=4194304) (Y:∀ x∈g.ZO,0<=(er b x).1/\(er b x).1 < (S:Int)/\0<=(er b x).2/\(er b x).2 < (S:Int)) (ag:List Int->List Int->Option (List Int)) (e a w:Int) (E:0<=w) (M:Nat) (Z:M<=4194304) :
  ∀ (l:List T2) (k n:Nat) (f c:List Int),g.ZO.drop k=l->l.length < n->Jn (VD g b) S e w f (a::c) M->Z5 f a=some w ->
  (∀ i x,i < k->g.ZO[i]? = some x->(er b x).1=a->∃ d,Z5 f (er b x).2=some d/\0<=d) ->
  ∃ j m,TY g b ag n f (a::c) (k:Int)=G4 ag j (a::m)/\Jn (VD g b) S e w j (a::m) M/\Z5 j a=some w /\
   (∀ x∈g.ZO,(er b x).1=a->∃ d,Z5 j (er b x).2=some d/\0<=d):=by
 intro l
 induction l with
 | nil =>
  intro k n f c h I u z F
  obtain ⟨n,rfl⟩:=pS n (by simp at I;omega)
  have O:=Xr h
  refine ⟨f,c,?_,u,z,?_⟩
  ·simp only [TY,Yp O,cond_false]
  ·intro x B o
   have ⟨i,hi⟩:=List.mem_iff_getElem?.mp B
   have:i < g.ZO.length:=(List.getElem?_eq_some_iff.mp hi).1
   exact F i x (by omega) hi o
 | cons x l U =>
  intro k n f c h I u z F
  obtain ⟨n,rfl⟩:=pS n (by simp at I;omega)
  have ⟨O,B,C⟩:=Xp h
  simp only [Zg] at I
  have G:x∈g.ZO:=Zb B
  have ⟨r1,r2,V,W⟩:=Y x G
  have D:Z1 ((k:Int)+1)=((k+1:Nat):Int):=Ye (by omega)
  have e0:Z5 (a::c) (0:Int)=some a:=by rw [show (0:Int)=((0:Nat):Int) from rfl,Yb];rfl
  have H:TY g b ag (n+1) f (a::c) (k:Int)=LM f (a::c) (k:Int) (TY g b ag n) (er b x).1 (er b x).2:=by
   simp only [TY,Yo O,Yb,B,cT,bS,er]
   cases b<;>rfl
  rw [H]
  unfold LM
  rw [e0,bS]
  by_cases o:(er b x).1=a
  ·rw [show ((er b x).1==a)=true by simp [o],cT]
   have ⟨d,t⟩:=Xx (L:=f) V (by rw [u.len];exact W)
   rw [t,bS]
   by_cases A:d < 0
   ·rw [dT A,cT,o,z]
    have R:d=-1:=by have:=(u.lo _ _ t).1;omega
    subst R
    have ⟨P,ext⟩:=u.push z E (v:=(er b x).2) (by rw [<- o];exact List.mem_map.mpr ⟨x,G,rfl⟩) t
    have hub:=u.ub a w z
    have T:=u.mu_eq
    simp only [Zg] at T
    simp only [bS,t]
    rw [Y8 (by simp;omega),bS,YE (n:=w+1) (by omega) (by omega),D]
    have ⟨j,m,q1,q2,q3,q4⟩:=U (k+1) n _ (c++[(er b x).2]) C (by omega) P (ext _ _ z E) (by
     intro i y hi q p
     by_cases s:i=k
     ·subst s
      rw [B] at q;cases q
      exact ⟨w+1,by rw [RW V (by rw [u.len];exact W),if_pos rfl],by omega⟩
     ·have ⟨d',d1,X⟩:=F i y (by omega) q p
      exact ⟨d',ext _ _ d1 X,X⟩)
    exact ⟨j,m,q1,q2,q3,q4⟩
   ·rw [dF A,cond_false,D]
    exact U (k+1) n f c C (by omega) u z (by
     intro i y hi q p
     by_cases s:i=k
     ·subst s
      rw [B] at q;cases q
      exact ⟨d,t,by omega⟩
     ·exact F i y (by omega) q p)
  ·rw [show ((er b x).1==a)=false by simp [o],cond_false,D]
   exact U (k+1) n f c C (by omega) u z (by
    intro i y hi q p
    by_cases s:i=k
    ·subst s
     rw [B] at q;cases q
     exact absurd p o
    ·exact F i y (by omega) q p)
theorem Zsr (hN:4194304 < N) (g:T5) (b:Bool) (S:Nat) (T:S<=4194304) (U:g.ZO.length<=4194304) (V:∀ x∈g.ZO,0<=(er b x).1/\(er b x).1 < (S:Int)/\0<=(er b x).2/\(er b x).2 < (S:Int)) (e:Int) :
  ∀ (n:Nat) (f todo:List Int) (D:Int) (o:Nat),o < n->o<=4194304->Jn (VD g b) S e D f todo o ->
  ∃ L q s,SH N g b n f todo=some L/\Jn (VD g b) S e q L [] s:=by
 intro n
 induction n with
 | zero=>intro f todo D o h;omega
 | succ n ih =>
  intro f todo D o hn F j
  cases todo with
  | nil=>exact ⟨f,D,o,rfl,j⟩
  | cons a m =>
   have ⟨t,E,W,w⟩:=j.todo_in a (by simp)
   have M:Jn (VD g b) S e t f (a::m) o:=by
    refine ⟨j.len,fun v d l=>⟨(j.lo v d l).1,by have:=(j.lo v d l).2;omega⟩,j.ub,j.root,j.zero,j.pred,?_,j.sorted,j.proc,j.mu_eq⟩
    intro v l
    rcases List.mem_cons.mp l with l | l
    ·subst l;exact ⟨t,E,by omega,w⟩
    ·have ⟨d,d1,R,X⟩:=j.todo_in v (by simp [l])
     exact ⟨d,d1,(List.pairwise_cons.mp j.sorted).1 v l t d E d1,X⟩
   have ⟨p,c,Y,k,Z,q4⟩:=Zsq g b S T U V (SH N g b n) e a t w o F g.ZO 0 N f m rfl (by omega) M E (by intro i x hi;omega)
   have hd:decide (((a::m).length:Int) > 0)=true:=by simp
   have O:Jn (VD g b) S e t p c (o-1):=by
    have P:=k.mu_eq
    simp only [Zg] at P
    refine ⟨k.len,k.lo,k.ub,k.root,k.zero,k.pred,fun v l=>k.todo_in v (by simp [l]),(List.pairwise_cons.mp k.sorted).2,?_,by omega⟩
    intro u v d z G H I
    by_cases C:u=a
    ·subst C
     rw [Z] at G;cases G
     have ⟨x,hx,y⟩:=List.mem_map.mp z
     have ⟨d',d1,R⟩:=q4 x hx (by rw [y])
     rw [y] at d1
     exact ⟨d',d1,R,(k.lo _ _ d1).2⟩
    ·exact k.proc u v d z G H (by simp [C,I])
   have P:=k.mu_eq
   simp only [Zg] at P
   have ⟨L,q,s,p1,p2⟩:=ih p c t (o-1) (by omega) (by omega) O
   refine ⟨L,q,s,?_,p2⟩
   simp only [SH,hd,cT]
   rw [show (0:Int)=((0:Nat):Int) from rfl,Y]
   unfold G4
   rw [show lsl (a::c) (some (1:Int)) none=some c from BX (A:=[a]) (B:=c) rfl rfl,bS,p1]
structure Dist (E:List (Int × Int)) (S:Nat) (e:Int) (L:List Int):Prop where
 len:L.length=S
 lo:∀ v d,Z5 L v=some d->-1<=d/\d < (S:Int)
 root:Z5 L e=some 0
 zero:∀ v,Z5 L v=some 0->v=e
 pred:∀ v d,Z5 L v=some d->0 < d->∃ u,(u,v)∈E/\Z5 L u=some (d-1)
 succ:∀ u v d,(u,v)∈E->Z5 L u=some d->0<=d->∃ d',Z5 L v=some d'/\0<=d'/\d'<=d+1
theorem Jn.dist {E:List (Int × Int)} {S:Nat} {e b:Int} {L:List Int} {c:Nat} (h:Jn E S e b L [] c):Dist E S e L :=
 ⟨h.len,fun v d a=>⟨(h.lo v d a).1,by have:=h.ub v d a;omega⟩,h.root,h.zero,h.pred,fun u v d f g i=>h.proc u v d f g i (by simp)⟩
end
section
variable {N:Nat}
theorem Zpq (N:Nat) {s:Nat} (a:s<=200):GM N (wk .u64 (([(-1:Int)]:List Int).length:Int)) (wk .u64 (s:Int))=some ((0:Int),(s:Int)):=by
 have h:∀ s < 201,GM 0 (wk .u64 (([(-1:Int)]:List Int).length:Int)) (wk .u64 ((s:Nat):Int))=some ((0:Int),(s:Int)):=by decide +kernel
 exact h s (by omega)
theorem ZrD (S:Nat) (q:S<=200):∀ (n k:Nat),S-k < n->1<=k->k<=S ->
  P1 n (List.replicate k (-1)++List.replicate (S-k) 0) (k:Int)=some (List.replicate S (-1)):=by
 intro n
 induction n with
 | zero=>intro k h;omega
 | succ n p =>
  intro k s t u
  have a:(List.replicate k (-1:Int)++List.replicate (S-k) 0).length=S:=by simp;omega
  by_cases v:k < S
  ·have b:decide ((k:Int) < ((List.replicate k (-1:Int)++List.replicate (S-k) 0).length:Int))=true:=by rw [a];simp;omega
   have a1:lsl (List.replicate k (-1:Int)++List.replicate (S-k) 0) (some (k:Int)) none=some (List.replicate (S-k) 0):=BX rfl (by simp)
   have a2:lsl (List.replicate k (-1:Int)++List.replicate (S-k) 0) none (some (k:Int))=some (List.replicate k (-1)):=Pe rfl (by simp)
   have e:Wj (some (k:Int)) none (List.replicate k (-1:Int)++List.replicate (S-k) 0).length=some (k,S):=by
    rw [a]
    have f:decide ((0:Int)<=(k:Int))=true:=by simp
    have g:decide ((k:Int)<=(S:Int))=true:=by simp;omega
    unfold Wj
    simp only [Option.getD_some,Option.getD_none,f,g,Int.le_refl,decide_true,Bool.and_self,cT]
    simp
   have a3:Vf (List.replicate k (-1:Int)++List.replicate (S-k) 0) (some (k:Int)) none (List.replicate k (-1))=some (List.replicate (k+min k (S-k)) (-1)++List.replicate (S-(k+min k (S-k))) 0,((min k (S-k):Nat):Int)):=by
    unfold Vf
    rw [e,Option.map_some]
    have i:(List.replicate k (-1:Int)++List.replicate (S-k) 0).take k=List.replicate k (-1):=by simp
    have j:(List.replicate k (-1:Int)).length=k:=by simp
    simp only [i,j]
    have l:(List.replicate k (-1:Int)).take (min k (S-k))=List.replicate (min k (S-k)) (-1):=by rw [List.take_replicate];congr 1;omega
    have m:(List.replicate k (-1:Int)++List.replicate (S-k) 0).drop (k+min k (S-k))=List.replicate (S-(k+min k (S-k))) 0:=by
     rw [List.drop_append,List.length_replicate,List.drop_replicate,List.drop_replicate,show k-(k+min k (S-k))=0 by omega,show S-k-(k+min k (S-k)-k)=S-(k+min k (S-k)) by omega];rfl
    rw [l,m,List.replicate_append_replicate]
   have o:Z1 ((k:Int)+((min k (S-k):Nat):Int))=((k+min k (S-k):Nat):Int):=by rw [YE (by omega) (by omega)];omega
   have d:1<=min k (S-k)/\k+min k (S-k)<=S:=by omega
   simp only [P1,b,cT,a1,a2,a3,bS,o]
   exact p (k+min k (S-k)) (by omega) (by omega) (by omega)
  ·have c:k=S:=by omega
   subst c
   have b:decide ((k:Int) < ((List.replicate k (-1:Int)++List.replicate (k-k) 0).length:Int))=false:=by rw [a];simp
   simp only [P1,b,cond_false,Zbv]
   simp
theorem ZrE (hN:4194304 < N) {s:Nat} (c:1<=s) (b:s<=200):Ds N [(-1:Int)] (s:Int)=some (List.replicate s (-1)):=by
 unfold Ds
 have d:decide ((s:Int) < 0)=false:=by simp
 rw [d,cond_false,Zpq N b,bS]
 have f:decide ((0:Int) > 0)=false:=rfl
 have g:decide ((s:Int) > 9223372036854775807)=false:=by simp;omega
 simp only [f,g,cond_false,Dt]
 have w:Z1 (s:Int)=(s:Int):=YE (by omega) (by omega)
 have m:Xs (0:Int) (Z1 (s:Int)) (Z1 (s:Int))=some (List.replicate s 0):=by
  rw [w];unfold Xs
  have a:decide ((0:Int)<=(s:Int))=true:=by simp
  have h:decide ((s:Int)<=4294967296)=true:=by simp;omega
  simp only [a,h,Int.le_refl,decide_true,Bool.and_self,cT]
  simp
 rw [m,bS]
 have i:Vf (List.replicate s (0:Int)) none none [(-1:Int)]=some (List.replicate 1 (-1)++List.replicate (s-1) 0,((1:Nat):Int)):=by
  unfold Vf Wj
  have a:decide ((0:Int)<=((List.replicate s (0:Int)).length:Int))=true:=by simp
  simp only [Option.getD_none,a,Int.le_refl,decide_true,Bool.and_self,cT,Option.map_some]
  have e:min ([(-1:Int)]:List Int).length (((List.replicate s (0:Int)).length:Int).toNat-(0:Int).toNat)=1:=by simp;omega
  rw [e];simp
 rw [i,bS]
 exact ZrD s b N 1 (by omega) (by omega) c
theorem Zaw (hN:4194304 < N) (g:T5) (s:Uf g=true) (a:Bool) (e:Int) (p:0<=e) (G:e < g.ZL):∃ L,LL N g e a=some L/\Dist (VD g a) g.ZL.toNat e L:=by
 have ⟨H,I,M,O,P,R,T⟩:=HS s
 have m:g.ZL=(g.ZL.toNat:Int):=by omega
 generalize U:g.ZL.toNat=S at *
 have E:∀ x∈g.ZO,0<=(er a x).1/\(er a x).1 < (S:Int)/\0<=(er a x).2/\(er a x).2 < (S:Int):=by
  intro x B
  have ⟨a1,a2,a3,a4,_⟩:=Zaa s B
  cases a
  ·exact ⟨a1,by rw [<- m];exact a2,a3,by rw [<- m];exact a4⟩
  ·exact ⟨a3,by rw [<- m];exact a4,a1,by rw [<- m];exact a2⟩
 have j:(List.replicate S (-1:Int)).length=S:=by simp
 have n:∀ v:Int,0<=v->v < (S:Int)->Z5 (List.replicate S (-1:Int)) v=some (-1):=by
  intro v v0 q
  obtain ⟨k,rfl⟩:∃ k:Nat,v=(k:Int):=⟨v.toNat,by omega⟩
  rw [Yb,List.getElem?_replicate,if_pos (by omega)]
 have o:=n e p (by omega)
 have i:=fun v=>RW (L:=List.replicate S (-1:Int)) (b:=e) (d:=0) p (by rw [j];omega) v
 have c:∀ v d,Z5 (YA (List.replicate S (-1:Int)) e 0) v=some d->(v=e/\d=0)\/(v≠e/\d=-1):=by
  intro v d f
  rw [i] at f
  split at f
  ·rename_i h;cases f;exact .inl ⟨h,rfl⟩
  ·rename_i h
   have ⟨v0,q⟩:=TL f
   rw [j] at q
   rw [n v v0 q] at f
   cases f;exact .inr ⟨h,rfl⟩
 have t:(YA (List.replicate S (-1:Int)) e 0).count (-1)+1=S:=by
  rw [count_set o (by omega)];simp
 have F:Jn (VD g a) S e 0 (YA (List.replicate S (-1:Int)) e 0) [e] S:=by
  refine ⟨by rw [Po _ _ p,j],?_,?_,by rw [i,if_pos rfl],?_,?_,?_,by simp,?_,by simp;omega⟩
  ·intro v d f;rcases c v d f with h | h<;>omega
  ·intro v d f;rcases c v d f with h | h<;>omega
  ·intro v f;rcases c v 0 f with h | h
   ·exact h.1
   ·omega
  ·intro v d f C;rcases c v d f with h | h<;>omega
  ·intro v l;simp at l;subst l;exact ⟨0,by rw [i,if_pos rfl],by omega,by omega⟩
  ·intro u v d _ f C D
   rcases c u d f with h | h
   ·exact absurd (by simp [h.1]) D
   ·omega
 have ⟨L,w,y,z,A⟩:=Zsr hN g a S (by omega) (by omega) E e N _ [e] 0 S (by omega) (by omega) F
 refine ⟨L,?_,A.dist⟩
 unfold LL
 rw [m,ZrE hN (by omega) (by omega),bS,o,bS,z]
/-! ### The reference's distances -/
def Tr (L M:List Int) (n:Int):Prop:=M.length=L.length/\∀ v d,Z5 L v=some d->Z5 M v=some (if d<=n then d else -1)
theorem ZnA {S:Nat} {g:T5} {e:Int} {L:List Int} (A:Dist (VD g true) S e L) (hg:g.ZO.length<=4194304) (hE:∀ x∈g.ZO,Xj g x) (I:g.ZL=(S:Int)) (hS2:S<=200) (q:Nat) (hq:q < S) (ag:List Int->Int->Option (List Int)) :
  ∀ (l:List T2) (k n:Nat) (M:List Int),g.ZO.drop k=l->l.length < n->M.length=L.length ->
  (∀ v d,Z5 L v=some d->Z5 M v=some (if d<=(q:Int) then d else -1)\/(d=(q:Int)+1/\Z5 M v=some ((q:Int)+1))) ->
  (∀ i x,i < k->g.ZO[i]? = some x->Z5 L x.To=some (q:Int)->Z5 L x.ZC=some ((q:Int)+1)->Z5 M x.ZC=some ((q:Int)+1)) ->
  ∃ M',Tn g (q:Int) ag n M (k:Int)=ag M' ((q+1:Nat):Int)/\Tr L M' ((q:Int)+1):=by
 intro l
 induction l with
 | nil =>
  intro k n M h Z C hM hd
  obtain ⟨n,rfl⟩:=pS n (by simp at Z;omega)
  have R:=Xr h
  refine ⟨M,?_,C,?_⟩
  ·simp only [Tn,Yp R,cond_false,Zbb]
   rw [Ye (by omega)]
  ·intro v d D
   by_cases p:d=(q:Int)+1
   ·subst p
    have ⟨u,hu,hul⟩:=A.pred v _ D (by omega)
    have ⟨x,s,P⟩:=List.mem_map.mp hu
    have ⟨i,hi⟩:=List.mem_iff_getElem?.mp s
    have hil:i < g.ZO.length:=(List.getElem?_eq_some_iff.mp hi).1
    have e1:x.To=u:=congrArg Prod.fst P
    have e2:x.ZC=v:=congrArg Prod.snd P
    have:=hd i x (by omega) hi (by rw [e1,hul];congr 1;omega) (by rw [e2,D])
    rw [e2] at this
    rw [this,if_pos (Int.le_refl _)]
   ·rcases hM v d D with h | ⟨h,_⟩
    ·rw [h]
     by_cases W:d<=(q:Int)
     ·rw [if_pos W,if_pos (by omega)]
     ·rw [if_neg W,if_neg (by omega)]
    ·exact absurd h p
 | cons x l ih =>
  intro k n M h Z C hM hd
  obtain ⟨n,rfl⟩:=pS n (by simp at Z;omega)
  have ⟨R,s,T⟩:=Xp h
  simp only [Zg] at Z
  have U:x∈g.ZO:=Zb s
  have ⟨X,r2,r3,r4,_⟩:=hE x U
  have ⟨Y,B⟩:=Xx (L:=L) r3 (by rw [A.len,<- I];exact r4)
  have ⟨df,c⟩:=Xx (L:=L) X (by rw [A.len,<- I];exact r2)
  have ⟨mt,f⟩:=Xx (L:=M) r3 (by rw [C,A.len,<- I];exact r4)
  have ⟨mf,m⟩:=Xx (L:=M) X (by rw [C,A.len,<- I];exact r2)
  have G:Z1 ((k:Int)+1)=((k+1:Nat):Int):=Ye (by omega)
  have V:mt=(q:Int)↔Y=(q:Int):=by
   rcases hM _ _ B with h | ⟨h1,h2⟩
   ·rw [f] at h
    have h:=Zl h
    split at h<;>omega
   ·rw [f] at h2
    have h2:=Zl h2
    omega
  have t:∀ (O:Y=(q:Int)->Z5 L x.ZC=some ((q:Int)+1)->Z5 M x.ZC=some ((q:Int)+1)),
    ∃ M',Tn g (q:Int) ag n M ((k+1:Nat):Int)=ag M' ((q+1:Nat):Int)/\Tr L M' ((q:Int)+1):=by
   intro O
   refine ih (k+1) n M T (by omega) C hM ?_
   intro i y hi E j o
   by_cases H:i=k
   ·subst H
    rw [s] at E;cases E
    rw [B] at j
    exact O (Zl j) o
   ·exact hd i y (by omega) E j o
  by_cases W:Y=(q:Int)
  ·have hb:(mt==(q:Int))=true:=by simp [V.mpr W]
   have ⟨d',d1,d2,d3⟩:=A.succ x.To x.ZC Y (List.mem_map.mpr ⟨x,U,rfl⟩) B (by omega)
   rw [c] at d1
   have d1:=Zl d1
   by_cases z:mf < 0
   ·have p:df=(q:Int)+1:=by
     rcases hM _ _ c with h | ⟨h1,_⟩
     ·rw [m] at h
      have h:=Zl h
      split at h<;>omega
     ·exact h1
    have w:=fun v=>RW (L:=M) (b:=x.ZC) (d:=(q:Int)+1) X (by rw [C,A.len,<- I];exact r2) v
    simp only [Tn,Yo R,cT,Yb,s,bS,f,hb,m,dT z,G]
    rw [YE (n:=(q:Int)+1) (by omega) (by omega)]
    refine ih (k+1) n _ T (by omega) (by rw [Po _ _ X,C]) ?_ ?_
    ·intro v d D
     rw [w]
     by_cases a:v=x.ZC
     ·subst a
      rw [c] at D;cases D
      exact .inr ⟨p,by rw [if_pos rfl]⟩
     ·rw [if_neg a];exact hM v d D
    ·intro i y hi E j o
     rw [w]
     by_cases a:y.ZC=x.ZC
     ·rw [if_pos a]
     ·rw [if_neg a]
      by_cases H:i=k
      ·subst H
       rw [s] at E;cases E
       exact absurd rfl a
      ·exact hd i y (by omega) E j o
   ·simp only [Tn,Yo R,cT,Yb,s,bS,f,hb,m,dF z,cond_false,G]
    refine t ?_
    intro _ F
    rw [c] at F
    have F:=Zl F
    rcases hM _ _ c with h | ⟨_,h⟩
    ·rw [m] at h
     have h:=Zl h
     rw [if_neg (by omega)] at h
     omega
    ·exact h
  ·have hb:(mt==(q:Int))=false:=by simp;omega
   simp only [Tn,Yo R,cT,Yb,s,bS,f,hb,cond_false,G]
   exact t (fun h=>absurd h W)
theorem ZnB (hN:4194304 < N) {S:Nat} {g:T5} {e:Int} {L:List Int} (m:Dist (VD g true) S e L) (o:g.ZO.length<=4194304) (p:∀ x∈g.ZO,Xj g x) (c:g.ZL=(S:Int)) (f:S<=200) :
  ∀ (n q:Nat) (M:List Int),S-q < n->q<=S->Tr L M (q:Int)->SI N g n M (q:Int)=some L:=by
 intro n
 induction n with
 | zero=>intro q M h;omega
 | succ n w =>
  intro q M y z b
  by_cases l:q < S
  ·have j:decide ((q:Int) < g.ZL)=true:=by rw [c];simp;omega
   have ⟨M',t,u⟩:=ZnA m o p c f q l (SI N g n) g.ZO 0 N M rfl (by omega) b.1 (fun v d s=>.inl (b.2 v d s)) (by intro i x hi;omega)
   simp only [SI,j,cT]
   rw [show (0:Int)=((0:Nat):Int) from rfl,t]
   exact w (q+1) M' (by omega) (by omega) (by rw [show ((q+1:Nat):Int)=(q:Int)+1 by omega];exact u)
  ·have k:q=S:=by omega
   subst k
   have j:decide ((q:Int) < g.ZL)=false:=by rw [c];simp
   simp only [SI,j,cond_false,Zba]
   congr 1
   refine List.ext_getElem? fun i=>?_
   by_cases hi:i < L.length
   ·have ⟨d,a⟩:=Xx (L:=L) (v:=(i:Int)) (by omega) (by omega)
    have:=b.2 _ _ a
    rw [if_pos (by have:=(m.lo _ _ a).2;omega)] at this
    rw [Yb] at this a
    rw [this,a]
   ·rw [List.getElem?_eq_none (by rw [b.1];omega),List.getElem?_eq_none (by omega)]
theorem Znz {S:Nat} {g:T5} (f:g.ZL=(S:Int)) (j:S<=200):∀ (n k:Nat) (M:List Int),S-k < n->k<=S->M.length=S->(∀ i:Nat,i < k->M[i]? = some (-1)) ->
  PQ N g n M (k:Int)=G7 N g (List.replicate S (-1)):=by
 intro n
 induction n with
 | zero=>intro k M h;omega
 | succ n o =>
  intro k M p q l hM
  by_cases m:k < S
  ·have c:decide ((k:Int) < g.ZL)=true:=by rw [f];simp;omega
   have ⟨d,b⟩:=Xx (L:=M) (v:=(k:Int)) (by omega) (by omega)
   simp only [PQ,c,cT,b,bS]
   rw [Ye (by omega)]
   refine o (k+1) _ (by omega) (by omega) (by rw [Po _ _ (by omega),l]) ?_
   intro i hi
   rw [XE,List.getElem?_set]
   by_cases a:k=i
   ·subst a;simp;omega
   ·rw [if_neg a];exact hM i (by omega)
  ·have e:k=S:=by omega
   subst e
   have c:decide ((k:Int) < g.ZL)=false:=by rw [f];simp
   simp only [PQ,c,cond_false]
   congr 1
   refine List.ext_getElem? fun i=>?_
   rw [List.getElem?_replicate]
   by_cases hi:i < k
   ·rw [if_pos hi];exact hM i hi
   ·rw [if_neg hi];exact List.getElem?_eq_none (by omega)
theorem Zny (hN:4194304 < N) (g:T5) (n:Uf g=true) {L:List Int} (c:Dist (VD g true) g.ZL.toNat g.ZN L):G6 N g=some L:=by
 have ⟨w,y,z,A,h,B,C⟩:=HS n
 have j:g.ZL=(g.ZL.toNat:Int):=by omega
 generalize E:g.ZL.toNat=S at *
 have m:Xs (0:Int) g.ZL g.ZL=some (List.replicate S 0):=by
  rw [j];unfold Xs
  have s:decide ((0:Int)<=(S:Int))=true:=by simp
  have t:decide ((S:Int)<=4294967296)=true:=by simp;omega
  simp only [s,t,Int.le_refl,decide_true,Bool.and_self,cT]
  simp
 unfold G6
 rw [m,bS,show (0:Int)=((0:Nat):Int) from rfl,Znz j (by omega) N 0 _ (by omega) (by omega) (by simp) (by intro i hi;omega)]
 unfold G7
 have e:(List.replicate S (-1:Int)).length=S:=by simp
 have f:∀ v:Int,0<=v->v < (S:Int)->Z5 (List.replicate S (-1:Int)) v=some (-1):=by
  intro v v0 D
  obtain ⟨k,rfl⟩:∃ k:Nat,v=(k:Int):=⟨v.toNat,by omega⟩
  rw [Yb,List.getElem?_replicate,if_pos (by omega)]
 rw [f g.ZN h (by omega),bS]
 refine ZnB hN c (by omega) (fun x p=>Zaa n p) j (by omega) N 0 _ (by omega) (by omega) ?_
 refine ⟨by rw [Po _ _ h,e,c.len],?_⟩
 intro v d a
 have l:=TL a
 rw [c.len] at l
 rw [RW h (by rw [e];omega)]
 have u:=c.lo v d a
 by_cases b:v=g.ZN
 ·subst b
  rw [c.root] at a;cases a
  rw [if_pos rfl];rfl
 ·rw [if_neg b,f v l.1 l.2]
  by_cases o:d<=((0:Nat):Int)
  ·rw [if_pos o]
   have:d≠0:=by intro q;subst q;exact b (c.zero v a)
   congr 1;omega
  ·rw [if_neg o]
end
section
variable {N:Nat}
def W8 (L:List Int):Bool := !(L.any fun d=>d==-1)
theorem Zjo {E:List (Int × Int)} {S:Nat} {e:Int} {L:List Int} (h:Dist E S e L):W8 L=true↔∀ v d,Z5 L v=some d->0<=d:=by
 unfold W8
 rw [Bool.not_eq_true',List.any_eq_false]
 constructor
 ·intro b v d a
  have ⟨v0,g⟩:=TL a
  obtain ⟨k,rfl⟩:∃ k:Nat,v=(k:Int):=⟨v.toNat,by omega⟩
  have i:=(h.lo _ _ a).1
  rw [Yb] at a
  have:=b d (Zb a)
  simp at this
  omega
 ·intro b d f
  have ⟨k,c⟩:=List.mem_iff_getElem?.mp f
  have:=b (k:Int) d (by rw [Yb,c])
  simp;omega
theorem Bp (hN:4194304 < N) (l:List Int) (b:l.length<=4194304) (v:Int):LK N l v=some (l.any fun d=>d==v):=by
 unfold LK Zbt
 rw [Z3 l b (fun x k r=>bif x==v then some k else r) (P0 l v) (some (-1)) hN]
 ·have ⟨i,c,e⟩:=Gi (fun x=>x==v) l 0
  rw [c,bS,e]
 ·intro n k x a f
  simp only [P0,Yo a,Yb,f,cT,bS]
  rw [show (v==x)=(x==v) by rw [Bool.eq_iff_iff,beq_iff_eq,beq_iff_eq];exact ⟨Eq.symm,Eq.symm⟩]
 ·intro n k a
  simp only [P0,Yp a,cond_false,Zbu]
structure Rc (S:Nat) (F:List Int) (n:Int) (R:List Bool):Prop where
 len:R.length=S
 sound:∀ v,Z5 R v=some true->∃ d,Z5 F v=some d/\0<=d
 full:∀ v d,Z5 F v=some d->0<=d->d<=n->Z5 R v=some true
theorem Rc.set {S:Nat} {F:List Int} {n:Int} {R:List Bool} (h:Rc S F n R) {v:Int} {b:Bool} (v0:0<=v) (i:v < (S:Int)) (j:b=true->∃ d,Z5 F v=some d/\0<=d) (k:Z5 R v=some true->b=true):Rc S F n (YA R v b):=by
 have a:=fun w=>RW (L:=R) (d:=b) v0 (by rw [h.len];exact i) w
 refine ⟨by rw [Po _ _ v0,h.len],?_,?_⟩
 ·intro w c
  rw [a] at c
  split at c
  ·rename_i e;subst e;exact j (Zl c)
  ·exact h.sound w c
 ·intro w d c f g
  rw [a]
  split
  ·rename_i e;subst e
   rw [k (h.full _ _ c f g)]
  ·exact h.full w d c f g
theorem Zq7 {S:Nat} {g:T5} {e:Int} {F:List Int} (X:Dist (VD g false) S e F) (hg:g.ZO.length<=4194304) (hE:∀ x∈g.ZO,Xj g x) (A:g.ZL=(S:Int)) (hS2:S<=200) (q:Nat) (hq:q < S) (ag:List Bool->Int->Option Bool) :
  ∀ (l:List T2) (k n:Nat) (R:List Bool),g.ZO.drop k=l->l.length < n->Rc S F (q:Int) R ->
  (∀ i x,i < k->g.ZO[i]? = some x->Z5 F x.ZC=some (q:Int)->Z5 R x.To=some true) ->
  ∃ z,Sy g (q:Int) ag n R (k:Int)=ag z ((q+1:Nat):Int)/\Rc S F ((q:Int)+1) z:=by
 intro l
 induction l with
 | nil =>
  intro k n R h C a D
  obtain ⟨n,rfl⟩:=pS n (by simp at C;omega)
  have B:=Xr h
  refine ⟨R,?_,a.len,a.sound,?_⟩
  ·simp only [Sy,Yp B,cond_false,ZaN]
   rw [Ye (by omega)]
  ·intro v d Y h0 h1
   by_cases V:d=(q:Int)+1
   ·subst V
    have ⟨u,hu,H⟩:=X.pred v _ Y (by omega)
    have ⟨x,m,o⟩:=List.mem_map.mp hu
    have ⟨i,hi⟩:=List.mem_iff_getElem?.mp m
    have hil:i < g.ZO.length:=(List.getElem?_eq_some_iff.mp hi).1
    have P:x.ZC=u:=congrArg Prod.fst o
    have T:x.To=v:=congrArg Prod.snd o
    rw [<- T]
    exact D i x (by omega) hi (by rw [P,H];congr 1;omega)
   ·exact a.full v d Y h0 (by omega)
 | cons x l ih =>
  intro k n R h C a D
  obtain ⟨n,rfl⟩:=pS n (by simp at C;omega)
  have ⟨B,m,I⟩:=Xp h
  simp only [Zg] at C
  have p:x∈g.ZO:=Zb m
  have ⟨r1,r2,M,O,_⟩:=hE x p
  have ⟨mt,c⟩:=Xx (L:=R) M (by rw [a.len,<- A];exact O)
  have ⟨mf,f⟩:=Xx (L:=R) r1 (by rw [a.len,<- A];exact r2)
  have s:Z1 ((k:Int)+1)=((k+1:Nat):Int):=Ye (by omega)
  have t:=fun (b:Bool) w=>RW (L:=R) (b:=x.To) (d:=b) M (by rw [a.len,<- A];exact O) w
  -- the new list, whatever is written
  have Z:∀ b:Bool,(b=true->∃ d,Z5 F x.To=some d/\0<=d)->(Z5 R x.To=some true->b=true)->(Z5 F x.ZC=some (q:Int)->b=true) ->
    ∃ z,Sy g (q:Int) ag n (YA R x.To b) ((k+1:Nat):Int)=ag z ((q+1:Nat):Int)/\Rc S F ((q:Int)+1) z:=by
   intro b hb E U
   refine ih (k+1) n _ I (by omega) (a.set M (by rw [<- A];exact O) hb E) ?_
   intro i y hi G j
   rw [t]
   by_cases W:i=k
   ·subst W
    rw [m] at G;cases G
    rw [if_pos rfl,U j]
   ·split
    ·rename_i hc
     have:=D i y (by omega) G j
     rw [hc] at this
     rw [E this]
    ·exact D i y (by omega) G j
  cases mt with
  | true =>
   simp only [Sy,Yo B,cT,Yb,m,bS,c,s]
   exact Z true (fun _=>a.sound _ c) (fun _=>rfl) (fun _=>rfl)
  | false =>
   simp only [Sy,Yo B,cT,cond_false,Yb,m,bS,c,f,s]
   refine Z mf ?_ (fun h=>by rw [c] at h;cases h) ?_
   ·intro E
    subst E
    have ⟨d,d1,d2⟩:=a.sound _ f
    have ⟨d',P,T,_⟩:=X.succ x.ZC x.To d (List.mem_map.mpr ⟨x,p,rfl⟩) d1 d2
    exact ⟨d',P,T⟩
   ·intro U
    have:=a.full _ _ U (by omega) (Int.le_refl _)
    rw [f] at this
    exact Zl this
theorem Zq8 (hN:4194304 < N) {S:Nat} {g:T5} {e:Int} {F:List Int} (l:Dist (VD g false) S e F) (m:g.ZO.length<=4194304) (o:∀ x∈g.ZO,Xj g x) (b:g.ZL=(S:Int)) (c:S<=200) :
  ∀ (n q:Nat) (R:List Bool),S-q < n->q<=S->Rc S F (q:Int) R->∃ a,Sx N g n R (q:Int)=Gu N g a/\Rc S F (S:Int) a:=by
 intro n
 induction n with
 | zero=>intro q R h;omega
 | succ n t =>
  intro q R u v k
  by_cases j:q < S
  ·have d:decide ((q:Int) < g.ZL)=true:=by rw [b];simp;omega
   have ⟨a,p,s⟩:=Zq7 l m o b c q j (Sx N g n) g.ZO 0 N R rfl (by omega) k (by intro i x hi;omega)
   simp only [Sx,d,cT]
   rw [show (0:Int)=((0:Nat):Int) from rfl,p]
   exact t (q+1) a (by omega) (by omega) (by rw [show ((q+1:Nat):Int)=(q:Int)+1 by omega];exact s)
  ·have f:q=S:=by omega
   subst f
   have d:decide ((q:Int) < g.ZL)=false:=by rw [b];simp
   exact ⟨R,by simp only [Sx,d,cond_false],k⟩
theorem Zi3 (g:T5) (s:Int):∀ (l:List T2) (k:Nat),((Uy g s l k).length==0)=l.all fun x => !(x.ZC==s)
 | [],k=>rfl
 | x::l,k=>by
  unfold Uy
  rw [List.all_cons]
  by_cases h:x.ZC=s
  ·rw [if_pos h,show (x.ZC==s)=true by simp [h]];rfl
  ·rw [if_neg h,show (x.ZC==s)=false by simp [h],Zi3 g s l (k+1)];rfl
theorem ZmS (hN:4194304 < N) (g:T5) (u:Uf g=true) (T:Ve g) {L F:List Int} (hL:Dist (VD g true) g.ZL.toNat g.ZN L) (hF:Dist (VD g false) g.ZL.toNat g.ZM F) :
  Gt N g=some (W8 F && W8 L && g.ZO.all fun x => !(x.ZC==g.ZN)):=by
 have l:=Zny hN g u hL
 have ⟨o1,o2,z,o4,o5,o6,o7⟩:=HS u
 have t:g.ZL=(g.ZL.toNat:Int):=by omega
 generalize hs:g.ZL.toNat=S at *
 have m:Xs false g.ZL g.ZL=some (List.replicate S false):=by
  rw [t];unfold Xs
  have q1:decide ((0:Int)<=(S:Int))=true:=by simp
  have q2:decide ((S:Int)<=4294967296)=true:=by simp;omega
  simp only [q1,q2,Int.le_refl,decide_true,Bool.and_self,cT]
  simp
 have o:(List.replicate S false).length=S:=by simp
 have E:∀ v b,Z5 (List.replicate S false) v=some b->b=false:=by
  intro v b D
  have ⟨v0,A⟩:=TL D
  obtain ⟨k,rfl⟩:∃ k:Nat,v=(k:Int):=⟨v.toNat,by omega⟩
  rw [Yb,List.getElem?_replicate,if_pos (by omega)] at D
  exact (Zl D).symm
 have ⟨b0,B⟩:=Xx (L:=List.replicate S false) z (by rw [o];omega)
 have j:=fun w=>RW (L:=List.replicate S false) (b:=g.ZM) (d:=true) z (by rw [o];omega) w
 have G:Rc S F ((0:Nat):Int) (YA (List.replicate S false) g.ZM true):=by
  refine ⟨by rw [Po _ _ z,o],?_,?_⟩
  ·intro v a
   rw [j] at a
   split at a
   ·rename_i Y;subst Y;exact ⟨0,hF.root,by omega⟩
   ·have H:=E _ _ a
    cases H
  ·intro v d a h0 O
   have H:d=0:=by omega
   subst H
   rw [j,if_pos (hF.zero v a)]
 unfold Gt
 rw [m,bS,B,bS]
 have ⟨R,U,s⟩:=Zq8 hN hF (by omega) (fun x y=>Zaa u y) t (by omega) N 0 (YA (List.replicate S false) g.ZM true) (by omega) (by omega)
  G
 rw [show (0:Int)=((0:Nat):Int) from rfl,U]
 unfold Gu
 rw [l,bS,Xt (fun d k=>(R[k]?.getD false) && !(decide (d < 0))) (xs:=L) (F:=PA N g R L) (e:=Lj N g) (by rw [hL.len];omega)]
 ·have ⟨Z,V,z2⟩:=Zrh hN g (by omega) T g.ZN
  have I:Lj N g=some (g.ZO.all fun x => !(x.ZC==g.ZN)):=by
   unfold Lj
   rw [z2,bS,<- Zi3 g g.ZN g.ZO 0,<- V.1.length_eq]
   congr 1
   rw [Bool.eq_iff_iff,beq_iff_eq,beq_iff_eq];omega
  rw [I]
  have p:Yw (fun d k=>(R[k]?.getD false) && !(decide (d < 0))) L 0=(W8 F && W8 L):=by
   rw [Bool.eq_iff_iff,Zc,Zjo hF,Zjo hL,XC]
   constructor
   ·intro h
    constructor
    ·intro v d a
     have ⟨v0,A⟩:=TL a
     obtain ⟨k,rfl⟩:∃ k:Nat,v=(k:Int):=⟨v.toNat,by omega⟩
     rw [hF.len] at A
     have q:k < L.length:=by rw [hL.len];omega
     have:=h k _ (Za q)
     rw [Zc,Nat.zero_add] at this
     have c:k < R.length:=by rw [s.len];omega
     rw [Za c,Option.getD_some] at this
     have ⟨d',d1,W⟩:=s.sound (k:Int) (by rw [Yb,Za c,this.1])
     rw [a] at d1
     cases d1;exact W
    ·intro v d a
     have ⟨v0,A⟩:=TL a
     obtain ⟨k,rfl⟩:∃ k:Nat,v=(k:Int):=⟨v.toNat,by omega⟩
     rw [Yb] at a
     have:=h k d a
     simp at this
     omega
   ·rintro ⟨O,X⟩ i d hi
    rw [Nat.zero_add]
    have q:i < L.length:=(List.getElem?_eq_some_iff.mp hi).1
    have ⟨f,C⟩:=Xx (L:=F) (v:=(i:Int)) (by omega) (by rw [hF.len,<- hL.len];omega)
    have:=s.full (i:Int) f C (O _ _ C) (by have:=(hF.lo _ _ C).2;omega)
    rw [Yb] at this
    rw [this]
    have:=X (i:Int) d (by rw [Yb,hi])
    simp;omega
  rw [p]
  cases (W8 F && W8 L)<;>rfl
 ·intro n k x P y
  have c:k < R.length:=by rw [s.len,<- hL.len];omega
  have M:decide ((k:Int) < g.ZL)=true:=by rw [t];simp;rw [<- hL.len];omega
  simp only [PA,M,Yb,y,cT,bS,Za c,Option.getD_some,Ye (show k < 4611686018427387904 by rw [hL.len] at P;omega)]
  cases R[k]<;>cases decide (x < 0)<;>rfl
 ·intro n k P
  have M:decide ((k:Int) < g.ZL)=false:=by rw [t];simp;rw [<- hL.len];omega
  simp only [PA,M,cond_false]
end
section
def Xq (l:List UInt8):ByteArray:=⟨l.toArray⟩
theorem VS (l:List UInt8):bs (Xq l)=l:=by simp [bs,Xq]
theorem Zpl (s:ByteArray):Xq (bs s)=s:=HB (VS _)
theorem ZmD (s:ByteArray) (a b:Nat):bs (s.extract a b)=((bs s).take b).drop a:=by
 unfold bs
 rw [ByteArray.data_extract,Array.toList_extract]
 simp [List.extract,List.drop_take]
theorem Zay {s:ByteArray} {x y z:List UInt8} {i j:Int} (h:bs s=x++(y++z)) (hi:i=(x.length:Int)) (a:j=((x.length+y.length:Nat):Int)):ssl s (some i) (some j)=some (Xq y):=by
 subst hi a
 have b:decide ((0:Int)<=(x.length:Int))=true:=by simp
 have c:decide ((x.length:Int)<=((x.length+y.length:Nat):Int))=true:=by simp;omega
 have d:decide (((x.length+y.length:Nat):Int)<=(s.size:Int))=true:=by rw [XH,h];simp;omega
 unfold ssl Wj
 simp only [Option.getD_some,b,c,d,Bool.and_self,cT,Option.map_some,Int.toNat_natCast]
 congr 1
 apply HB
 rw [ZmD,VS,h,<- aA,List.take_append_of_le_length (by simp),List.take_of_length_le (by simp)]
 simp
theorem Zsw {s:ByteArray} {x y:List UInt8} {j:Int} (h:bs s=x++y) (a:j=(x.length:Int)):ssl s none (some j)=some (Xq x):=by
 have e:ssl s none (some j)=ssl s (some 0) (some j):=rfl
 rw [e]
 exact Zay (x:=[]) (y:=x) (z:=y) (by rw [h];rfl) rfl (by rw [a];simp)
theorem Zsv {s:ByteArray} {x y:List UInt8} {i:Int} (h:bs s=x++y) (hi:i=(x.length:Int)):ssl s (some i) none=some (Xq y):=by
 have e:ssl s (some i) none=ssl s (some i) (some (s.size:Int)):=rfl
 rw [e]
 exact Zay (x:=x) (y:=y) (z:=[]) (by rw [h];simp) hi (by rw [XH,h];simp)
theorem Zol {l:List UInt8} {c:UInt8} (h:0 < l.count c):∃ p q,l=p++c::q/\p.count c=0/\Go.Lib.indexByte l c=(p.length:Int):=by
 induction l with
 | nil=>simp at h
 | cons b l g =>
  cases a:(b==c)
  ·rw [List.count_cons,a] at h
   have ⟨p,q,d,e,f⟩:=g (by simpa using h)
   refine ⟨b::p,q,by rw [d];rfl,by rw [List.count_cons,e,a];rfl,?_⟩
   unfold Go.Lib.indexByte
   rw [a,f,show ((p.length:Int)==-1)=false by simp]
   simp
  ·have:b=c:=by simpa using a
   subst this
   exact ⟨[],l,rfl,by simp,by unfold Go.Lib.indexByte;rw [a];rfl⟩
def XV (acc:List UInt8):List UInt8->List (List UInt8)
 | []=>[acc]
 | c::l=>if c=46 then acc::XV [] l else XV (acc++[c]) l
theorem Ps (a:List UInt8) (c:UInt8) (l:List UInt8):XV a (c::l)=if c=46 then a::XV [] l else XV (a++[c]) l:=rfl
theorem Zki:∀ (l a:List UInt8),l.count 46=0->XV a l=[a++l]
 | [],a,_=>by simp [XV]
 | c::l,a,h=>by
  rw [List.count_cons] at h
  have b:¬ c=46:=by intro b;subst b;simp at h
  rw [Ps,if_neg b,Zki l _ (by omega)];simp
theorem Zkj:∀ (p a q:List UInt8),p.count 46=0->XV a (p++46::q)=(a++p)::XV [] q
 | [],a,q,_=>by rw [List.nil_append,Ps,if_pos rfl,List.append_nil]
 | c::p,a,q,h=>by
  rw [List.count_cons] at h
  have b:¬ c=46:=by intro b;subst b;simp at h
  show XV a (c::(p++46::q))=_
  rw [Ps,if_neg b,Zkj p _ q (by omega)];simp
theorem Zeu:∀ (l a:List UInt8),(XV a l).length=l.count 46+1
 | [],a=>by simp [XV]
 | c::l,a=>by
  rw [Ps,List.count_cons]
  split
  ·rename_i h;subst h
   rw [Zg,Zeu l];simp
  ·rename_i h
   rw [Zeu l];simp [h]
variable {N:Nat}
theorem Zom (s:ByteArray):L5 N s (str [46])=some (Go.Lib.indexByte (bs s) 46):=by
 unfold L5 ZbX
 have b:(((str [46]).size:Int)==0)=false:=rfl
 have c:(((str [46]).size:Int)==1)=true:=rfl
 have d:X7 (str [46]) (0:Int)=some 46:=by
  rw [show (0:Int)=((0:Nat):Int) from rfl,Pq];rfl
 rw [b,c,d]
 simp only [cT,cond_false,bS,ZbZ]
 have e:Zdm s 46=Go.Lib.indexByte (bs s) 46:=Go.Lib.firstIdx_eq s 46
 rw [e,W9,W9]
 cases a:(bs (str [46])==bs s)
 ·rfl
 ·have a:bs (str [46])=bs s:=eq_of_beq a
  rw [<- a];rfl
theorem ZmW (s:ByteArray):DJ N s (str [46])=some (((bs s).count 46:Nat):Int):=by
 unfold DJ
 have a:(((str [46]).size:Int)==0)=false:=rfl
 have b:(((str [46]).size:Int)==1)=true:=rfl
 have c:X7 (str [46]) (0:Int)=some 46:=by
  rw [show (0:Int)=((0:Nat):Int) from rfl,Pq];rfl
 rw [a,b,c]
 simp only [cT,cond_false,bS]
 congr 1
 unfold Bq
 rw [show s.foldl (fun (n:Int) x=>if x==Kx.byteOf 46 then n+1 else n) ((0:Nat):Int)=(bs s).foldl (fun (n:Int) x=>if x==Kx.byteOf 46 then n+1 else n) ((0:Nat):Int) from Go.Lib.foldl_data _ _ _,Go.Lib.count_foldl]
 simp [Go.Lib.countByte,Kx.byteOf]
theorem Zn9 (s e:ByteArray) (f:e=str [46]) (X9:Nat) (L:X9<=s.size) (M:s.size<=4194304) :
  ∀ (n:Nat) (a:ByteArray) (D R:List ByteArray),(bs a).count 46 < n->(bs a).length<=4194304->D.length+(bs a).count 46=X9->R.length=(bs a).count 46+1 ->
  Qy N s e (0:Int) ((X9+1:Nat):Int) n a (D++R) (D.length:Int)=some (D++(XV [] (bs a)).map Xq):=by
 subst f
 intro n
 induction n with
 | zero=>intro a D R h;omega
 | succ n I =>
  intro a D R O v P k
  have z:Z1 ((s.size:Int)+1)=((s.size+1:Nat):Int):=Ye (by omega)
  have d:YG ((X9+1:Nat):Int) ((s.size+1:Nat):Int)=((X9+1:Nat):Int):=by unfold YG;rw [if_neg (by omega)]
  have i:Z1 (((X9+1:Nat):Int)-1)=(X9:Int):=by rw [YE (by omega) (by omega)];omega
  have m:(bs a).count 46=0->L2 a (D++R) (D.length:Int)=some (D++(XV [] (bs a)).map Xq):=by
   intro w
   rw [w] at k
   obtain ⟨r,rfl⟩:=List.length_eq_one_iff.mp k
   unfold L2
   rw [BJ (A:=D) (x:=r) (B:=[]) rfl rfl,bS,Zj6 (A:=D) (x:=r) (B:=[]) rfl rfl,Ye (by omega),Pe (A:=D++[a]) (B:=[]) (by simp) (by simp),Zki _ _ w]
   simp [Zpl]
  by_cases H:D.length < X9
  ·have o:decide ((D.length:Int) < (X9:Int))=true:=by simp;omega
   have ⟨p,q,g,u,F⟩:=Zol (l:=bs a) (c:=46) (by omega)
   have C:(bs a).length=p.length+(q.length+1):=by rw [g];simp
   have E:(bs a).count 46=q.count 46+1:=by rw [g,List.count_append,List.count_cons,u];simp
   obtain ⟨r,b,rfl⟩:∃ r b,R=r::b:=by
    cases R with
    | nil=>simp at k
    | cons r b=>exact ⟨r,b,rfl⟩
   simp only [Zg] at k
   have j:decide ((p.length:Int) < 0)=false:=by simp
   have G:Z1 ((p.length:Int)+0)=(p.length:Int):=by rw [YE (by omega) (by omega)];omega
   have t:Z1 ((p.length:Int)+((str [46]).size:Int))=((p++[46]:List UInt8).length:Int):=by
    rw [show ((str [46]).size:Int)=1 from rfl,Ye (by omega)];simp
   simp only [Qy,z,d,i,o,cT,Zom,F,bS,j,cond_false,G,t]
   rw [Zsw g rfl,bS,BJ (A:=D) (x:=r) (B:=b) rfl rfl,bS,Zsv (x:=p++[46]) (y:=q) (by rw [g];simp) rfl,bS,Zj6 (A:=D) (x:=r) (B:=b) rfl rfl,Ye (by omega)]
   have:=I (Xq q) (D++[Xq p]) b (by rw [VS];omega) (by rw [VS];omega) (by rw [VS];simp;omega) (by rw [VS];omega)
   rw [VS] at this
   rw [show ((D.length+1:Nat):Int)=((D++[Xq p]).length:Int) by simp,show D++Xq p::b=(D++[Xq p])++b by simp,this,g,Zkj _ _ _ u]
   simp
  ·have o:decide ((D.length:Int) < (X9:Int))=false:=by simp;omega
   simp only [Qy,z,d,i,o,cond_false]
   exact m (by omega)
theorem Zsp (hN:4194304 < N) (s:ByteArray) (c:s.size<=1000000):Dx N s (str [46])=some ((XV [] (bs s)).map Xq):=by
 unfold Dx ZbO
 have d:((-1:Int)==0)=false:=rfl
 have e:((str [46]).toList==(str []).toList)=false:=by rw [W9,W9];rfl
 have f:decide ((-1:Int) < 0)=true:=rfl
 have g:(bs s).count 46<=(bs s).length:=List.count_le_length
 rw [d,e,f,ZmW]
 simp only [cT,cond_false,bS,DG]
 rw [XH] at c
 rw [Ye (by omega)]
 have h:Z1 ((s.size:Int)+1)=((s.size+1:Nat):Int):=Ye (by rw [XH];omega)
 have b:YG (((bs s).count 46+1:Nat):Int) ((s.size+1:Nat):Int)=(((bs s).count 46+1:Nat):Int):=by unfold YG;rw [if_neg (by rw [XH];omega)]
 have m:Xs (str []) (((bs s).count 46+1:Nat):Int) (((bs s).count 46+1:Nat):Int)=some (List.replicate ((bs s).count 46+1) (str [])):=by
  unfold Xs
  have i:decide ((0:Int)<=(((bs s).count 46+1:Nat):Int))=true:=by simp;omega
  have j:decide ((((bs s).count 46+1:Nat):Int)<=4294967296)=true:=by simp;omega
  simp only [i,j,Int.le_refl,decide_true,Bool.and_self,cT]
  simp
 rw [h,b,m,bS]
 have:=Zn9 (N:=N) s (str [46]) rfl ((bs s).count 46) (by rw [XH];omega) (by rw [XH];omega) N s [] (List.replicate ((bs s).count 46+1) (str [])) (by omega) (by omega) (by simp) (by simp)
 rw [List.nil_append] at this
 have a:Qy N s (str [46]) (0:Int) (((bs s).count 46+1:Nat):Int) N s (List.replicate ((bs s).count 46+1) (str [])) (0:Int)=some ([]++(XV [] (bs s)).map Xq):=this
 rw [a];simp
def Pl (s:ByteArray):Bool:=decide (s.size<=50) && (XV [] (bs s)).all fun p=>WD (Xq p)
theorem Zd7:∀ (l a:List UInt8),∀ p∈XV a l,p.length<=a.length+l.length
 | [],a,p,h=>by simp [XV] at h;subst h;simp
 | c::l,a,p,h=>by
  rw [Ps] at h
  split at h
  ·rcases List.mem_cons.mp h with h | h
   ·subst h;simp
   ·have:=Zd7 l [] p h;simp at this;simp;omega
  ·have:=Zd7 l _ p h;simp at this;simp;omega
theorem Zqo (hN:4194304 < N) (s:ByteArray):Dc N s=some (Pl s):=by
 unfold Dc Pl
 by_cases h:s.size<=50
 ·rw [dT (show (s.size:Int)<=50 by omega),dT h,cT,Zsp hN s (by omega),bS]
  unfold Zbz ZbM
  have l:(XV [] (bs s)).length<=51:=by
   rw [Zeu]
   have:(bs s).count 46<=(bs s).length:=List.count_le_length
   rw [XH] at h;omega
  rw [Z3 ((XV [] (bs s)).map Xq) (by simp;omega) (fun x k r=>bif !(WD x) then some k else r) (P6 N ((XV [] (bs s)).map Xq)) (some (-1)) hN]
  ·have ⟨i,e,f⟩:=Gi (fun x => !(WD x)) ((XV [] (bs s)).map Xq) 0
   rw [e,bS,f,bS,List.any_map,List.not_any_eq_all_not]
   simp [Function.comp_def]
  ·intro n k x a d
   have b:=Zb d
   obtain ⟨p,g,rfl⟩:=List.mem_map.mp b
   have c:=Zd7 _ _ p g
   have j:=(Qa hN (Xq p) (by rw [XH,VS];rw [XH] at h;simp at c;omega)).1
   simp only [P6,Yo a,Yb,d,cT,bS,ZbA,j]
  ·intro n k a
   simp only [P6,Yp a,cond_false,ZbN]
 ·rw [dF (show ¬ (s.size:Int)<=50 by omega),dF h];rfl
theorem Zrs (hN:4194304 < N) (s:ByteArray) (C:s.size<=4194304):∀ (n:Nat) (x a l:List UInt8) (i j:Int),l.length+1 < n->bs s=x++(a++l)->i=(x.length:Int)->j=((x.length+a.length:Nat):Int) ->
  SM N s n i j=bif (XV a l).all fun p=>WD (Xq p) then Do s else some false:=by
 intro n
 induction n with
 | zero=>intro x a l i j h;omega
 | succ n z =>
  intro x a l i j k d hi g
  have b:s.size=x.length+(a.length+l.length):=by rw [XH,d];simp
  have e:decide (j<=(s.size:Int))=true:=by simp;omega
  have y:=(Qa hN (Xq a) (by rw [XH,VS];omega)).2
  have m:Z1 (j+1)=((x.length+a.length+1:Nat):Int):=by rw [g];exact Ye (by omega)
  cases l with
  | nil =>
   have f:(j==(s.size:Int))=true:=by simp at b;simp;omega
   obtain ⟨n,rfl⟩:=pS n (by simp at k;omega)
   have o:decide (Z1 (j+1)<=(s.size:Int))=false:=by rw [m];simp at b;simp;omega
   unfold SM
   rw [e,cT,f,cT]
   unfold PV
   rw [cT,Zay d hi g,bS]
   unfold DA
   rw [y]
   simp only [bS,XV,List.all_cons,List.all_nil,Bool.and_true]
   cases WD (Xq a)
   ·rfl
   ·simp only [Zh,cond_false,cT]
    unfold SM
    rw [o];rfl
  | cons c l =>
   have q:(j==(s.size:Int))=false:=by simp at b;simp;omega
   have t:X7 s j=some (c.toNat:Int):=by
    rw [g,Pq,Zoa (A:=x++a) (x:=c) (B:=l) (by rw [d];simp) (by simp)];rfl
   unfold SM
   rw [e,cT,q,cond_false,t,bS]
   by_cases w:c=46
   ·subst w
    have u:(((46:UInt8).toNat:Int)==46)=true:=rfl
    rw [u]
    unfold PV
    rw [cT,Zay d hi g,bS]
    unfold DA
    rw [y]
    have v:XV a (46::l)=a::XV [] l:=by rw [Ps,if_pos rfl]
    rw [v,List.all_cons]
    simp only [bS]
    cases WD (Xq a)
    ·rfl
    ·simp only [Zh,cond_false,Bool.true_and]
     rw [m]
     exact z (x++a++[46]) [] l _ _ (by simp at k;omega) (by rw [d];simp) (by simp;omega) (by simp;omega)
   ·have u:((c.toNat:Int)==46)=false:=by
     rw [beq_eq_false_iff_ne]
     intro h
     apply w
     apply UInt8.toNat_inj.mp
     show c.toNat=46
     omega
    rw [u]
    unfold PV
    have v:XV a (c::l)=XV (a++[c]) l:=by rw [Ps,if_neg w]
    rw [cond_false,m,v]
    exact z x (a++[c]) l _ _ (by simp at k;omega) (by rw [d];simp) hi (by simp;omega)
theorem Zrr (hN:4194304 < N) (s:ByteArray) (a:s.size<=4000000):Dn N s=some (Pl s):=by
 unfold Dn
 rw [Zrs hN s (by omega) N [] [] (bs s) (0:Int) (0:Int) (by rw [XH] at a;omega) rfl rfl rfl]
 unfold Do Pl
 by_cases h:s.size<=50
 ·rw [dT (show (s.size:Int)<=50 by omega),dT h]
  cases (XV [] (bs s)).all fun p=>WD (Xq p)<;>rfl
 ·rw [dF (show ¬ (s.size:Int)<=50 by omega),dF h]
  cases (XV [] (bs s)).all fun p=>WD (Xq p)<;>rfl
end
section
variable {N:Nat}
def Yh (l:List T0):List T4:=(l.map fun d=>d.Zz).flatten
theorem Q5 (x:T0) (l:List T0):Yh (x::l)=x.Zz++Yh l:=rfl
theorem So (a b:List T0):Yh (a++b)=Yh a++Yh b:=by simp [Yh]
theorem HG (l:List T0) (h:∀ d∈l,XZ d):(Yh l).length<=l.length * 4194304:=by
 induction l with
 | nil=>simp [Yh]
 | cons x l b =>
  rw [Q5,lA,Zg]
  have:=(h x (by simp)).f
  have:=b (fun d a=>h d (by simp [a]))
  omega
theorem Zku {α:Type} {xs l:List α} {k:Nat} {x:α} (h:xs.drop k=x::l):xs.take (k+1)=xs.take k++[x]:=by
 have ⟨a,c,d⟩:=Xp h
 rw [List.take_add_one,c];rfl
theorem ZnR (l:List T0) (p:(Yh l).length<=4294967296) (s:l.length<=4194304) :
  ∀ (m:List T0) (k n:Nat) (b:List T4),l.drop k=m->m.length < n->b=Yh (l.take k)->PG l n b (k:Int)=some (Yh l):=by
 intro m
 induction m with
 | nil =>
  intro k n b h f g
  obtain ⟨n,rfl⟩:=pS n (by simp at f;omega)
  have j:=Xr h
  simp only [PG,Yp j,cond_false,ZaR]
  rw [g,List.take_of_length_le j]
 | cons x m q =>
  intro k n b h f g
  obtain ⟨n,rfl⟩:=pS n (by simp at f;omega)
  have ⟨a,c,d⟩:=Xp h
  have o:=Zku h
  have e:Yh l=Yh (l.take (k+1))++Yh (l.drop (k+1)):=by rw [<- So,List.take_append_drop]
  have i:b.length+x.Zz.length<=4294967296:=by
   rw [e,o,So,lA,lA,<- g] at p
   have:(Yh [x]).length=x.Zz.length:=by simp [Yh]
   omega
  simp only [PG,Yo a,cT,Yb,c,bS]
  rw [Y8 i,bS,Ye (by omega)]
  refine q (k+1) n _ d (by simp at f;omega) ?_
  rw [o,So,<- g];simp [Yh]
theorem Zh1 (hN:4194304 < N) (l:List T0) (b:l.length<=1000) (a:∀ d∈l,XZ d):Ls N l=some (Yh l):=by
 unfold Ls
 exact ZnR l (by have:=HG l a;omega) (by omega) l 0 N [] rfl (by omega) rfl
theorem Zs2 (l:List T0) (o:(Yh l).length<=4294967296) (t:l.length<=4194304) :
  ∀ (m:List T0) (k n:Nat) (b:Int),l.drop k=m->m.length < n->b=((Yh (l.take k)).length:Int)->Px l n b (k:Int)=some ((Yh l).length:Int):=by
 intro m
 induction m with
 | nil =>
  intro k n b h f g
  obtain ⟨n,rfl⟩:=pS n (by simp at f;omega)
  have i:=Xr h
  simp only [Px,Yp i,cond_false,ZaL]
  rw [g,List.take_of_length_le i]
 | cons x m s =>
  intro k n b h f g
  obtain ⟨n,rfl⟩:=pS n (by simp at f;omega)
  have ⟨a,c,d⟩:=Xp h
  have j:=Zku h
  have e:Yh l=Yh (l.take (k+1))++Yh (l.drop (k+1)):=by rw [<- So,List.take_append_drop]
  have p:(Yh [x]).length=x.Zz.length:=by simp [Yh]
  have q:(Yh (l.take k)).length+x.Zz.length<=4294967296:=by
   rw [e,j,So,lA,lA] at o
   omega
  simp only [Px,Yo a,cT,Yb,c,bS]
  rw [Ye (by omega),YE (by omega) (by omega)]
  refine s (k+1) n _ d (by simp at f;omega) ?_
  rw [j,So,lA,p,g];simp
theorem Gg (hN:4194304 < N) (l:List T0) (b:l.length<=1000) (a:∀ d∈l,XZ d):Rt N l=some ((Yh l).length:Int):=by
 unfold Rt
 exact Zs2 l (by have:=HG l a;omega) (by omega) l 0 N 0 rfl (by omega) rfl
theorem Zh0 (l:List T0) (q:l.length<=4194304) (g:∀ d∈l,XZ d) :
  ∀ (m:List T0) (k n i:Nat),l.drop k=m->m.length < n->i < (Yh m).length->i<=4294967296->Lz l n (i:Int) (k:Int)=(Yh m)[i]? := by
 intro m
 induction m with
 | nil=>intro k n i h e hi;simp [Yh] at hi
 | cons x m p =>
  intro k n i h e hi j
  obtain ⟨n,rfl⟩:=pS n (by simp at e;omega)
  have ⟨a,c,d⟩:=Xp h
  rw [Q5]
  simp only [Lz,Yo a,cT,Yb,c,bS]
  by_cases b:i < x.Zz.length
  ·rw [Yo b,cT,Zn b,Za b];rfl
  ·rw [Yp (by omega),cond_false,Ye (by omega),Zo (by omega)]
   have s:=(g x (Zb c)).f
   have o:Z1 ((i:Int)-(x.Zz.length:Int))=((i-x.Zz.length:Nat):Int):=by rw [YE (by omega) (by omega)];omega
   rw [o]
   exact p (k+1) n _ d (by simp at e;omega) (by rw [Q5,lA] at hi;omega) (by omega)
def Xz (fl:List T4) (x:Int):Bool:=match Z5 fl x with | some f=>f.Zv.Zt==2 | none=>false
theorem BK {α:Type} {L:List α} {v:Int} (h:¬ (0<=v/\v < (L.length:Int))):Z5 L v=none:=by
 cases a:Z5 L v with
 | none=>rfl
 | some d=>exact absurd (TL a) h
theorem ZsN (hN:4194304 < N) (l:List T0) (f:l.length<=1000) (a:∀ d∈l,XZ d) (x:Int):LZ N l x=some (Xz (Yh l) x):=by
 have g:=HG l a
 unfold LZ Xz
 rw [Gg hN l f a]
 by_cases c:x>=0
 ·rw [dT c,cT,bS]
  by_cases e:x < ((Yh l).length:Int)
  ·obtain ⟨k,rfl⟩:∃ k:Nat,x=(k:Int):=⟨x.toNat,by omega⟩
   have b:k < (Yh l).length:=by omega
   have h:Ly N l (k:Int)=(Yh l)[k]? := Zh0 l (by omega) a l 0 N k rfl (by omega) b (by omega)
   rw [dT e,cT,h,Yb,Za b];rfl
  ·rw [dF e,BK (by omega)];rfl
 ·rw [dF c,BK (by omega)];rfl
def XD (n:Int) (d:T1):Prop:=-1<=d.X/\d.X < n/\-1<=d.Y/\d.Y < n/\-20000<=d.C/\d.C<=20000
instance (n:Int) (d:T1):Decidable (XD n d):=by unfold XD;infer_instance
def YJ (fl:List T4) (g:T6):Bool :=
 decide (g.Zw.length<=20/\g.Zy.length<=20) && (Yw (fun d _=>decide (XD (fl.length:Int) d)) g.Zw 0 && Yw (fun e _=>Xz fl e.1 && Xz fl e.2) g.Zy 0)
theorem Zof (hN:4194304 < N) (g:T6) (a:List T4):Dg N g a=some (YJ a g):=by
 unfold Dg YJ
 by_cases l:(g.Zw.length:Int) > 20
 ·rw [dT l,dF (show ¬ (g.Zw.length<=20/\g.Zy.length<=20) by omega)];rfl
 by_cases q:(g.Zy.length:Int) > 20
 ·rw [dF l,dT q,dF (show ¬ (g.Zw.length<=20/\g.Zy.length<=20) by omega)];rfl
 rw [dF l,dF q,dT (show g.Zw.length<=20/\g.Zy.length<=20 by omega)]
 simp only [cond_false,Bool.true_and]
 rw [Xt (fun d _=>decide (XD (a.length:Int) d)) (xs:=g.Zw) (F:=PS N g a) (e:=Di N g a) (by omega)]
 ·unfold Di
  rw [Xt (fun e _=>Xz a e.1 && Xz a e.2) (xs:=g.Zy) (F:=Sa N g a) (e:=some true) (by omega)]
  ·cases Yw (fun d _=>decide (XD (a.length:Int) d)) g.Zw 0<;>cases Yw (fun e _=>Xz a e.1 && Xz a e.2) g.Zy 0<;>rfl
  ·intro n k x b j
   obtain ⟨m,rfl⟩:∃ m,N=m+3:=⟨N-3,by omega⟩
   have w:Z5 ([x.1,x.2]:List Int) (0:Int)=some x.1:=rfl
   have y:Z5 ([x.1,x.2]:List Int) (1:Int)=some x.2:=rfl
   have w0:Z1 ((0:Int)+1)=1:=by decide
   have z:Z1 ((1:Int)+1)=2:=by decide
   have l0:decide ((0:Int) < 2)=true:=rfl
   have A:decide ((1:Int) < 2)=true:=rfl
   have B:decide ((2:Int) < 2)=false:=rfl
   have one:∀ (v:Int) (r:Option Bool),(bif decide (v < (0:Int)) then some false else bif decide (v>=(a.length:Int)) then some false else (Z5 a v).bind fun i=>bif (i.Zv.Zt != (2:Int)) then some false else r)=bif Xz a v then r else some false:=by
    intro v r
    unfold Xz
    by_cases o:v < 0
    ·rw [dT o,BK (by omega)];rfl
    by_cases s:v>=(a.length:Int)
    ·rw [dF o,dT s,BK (by omega)];rfl
    have ⟨f,u⟩:=Xx (L:=a) (v:=v) (by omega) (by omega)
    rw [dF o,dF s,u]
    simp only [cond_false,bS]
    unfold bne
    cases (f.Zv.Zt==2)<;>rfl
   have c:LP a (k:Int) (Sa (m+3) g a n) x (m+3) (0:Int)=bif Xz a x.1 && Xz a x.2 then Dh (k:Int) (Sa (m+3) g a n) else some false:=by
    simp only [LP,w,y,w0,z,l0,A,B,cT,cond_false,bS]
    rw [one,one]
    cases Xz a x.1<;>cases Xz a x.2<;>rfl
   simp only [Sa,Yo b,cT,Yb,j,bS,c,Dh]
   rw [Ye (by omega)]
  ·intro n k b
   simp only [Sa,Yp b,cond_false,Zbl]
 ·intro n k x b j
  simp only [PS,Yo b,Yb,j,cT,bS,Ye (show k < 4611686018427387904 by omega)]
  by_cases d1:YG x.X x.Y < -1
  ·rw [dT d1,dF (show ¬ XD (a.length:Int) x by rw [Tb] at d1;unfold XD;omega)];rfl
  by_cases h:Yy x.X x.Y>=(a.length:Int)
  ·rw [dF d1,dT h,dF (show ¬ XD (a.length:Int) x by rw [Pf] at h;unfold XD;omega)];rfl
  by_cases p:x.C < -20000
  ·rw [dF d1,dF h,dT p,dF (show ¬ XD (a.length:Int) x by unfold XD;omega)];rfl
  by_cases t:x.C > 20000
  ·rw [dF d1,dF h,dF p,dT t,dF (show ¬ XD (a.length:Int) x by unfold XD;omega)];rfl
  rw [dF d1,dF h,dF p,dF t,dT (show XD (a.length:Int) x by rw [Tb] at d1;rw [Pf] at h;unfold XD;omega)];rfl
 ·intro n k b
  simp only [PS,Yp b,cond_false]
theorem Zod (hN:4194304 < N) (l:List T0) (m:l.length<=1000) (o:∀ d∈l,XZ d) (g:T6) (s:g.Zw.length<=4194304) (t:g.Zy.length<=4194304):Dp N l g=some (YJ (Yh l) g):=by
 unfold Dp YJ
 rw [Gg hN l m o,bS]
 rw [Xt (fun d _=>decide (XD ((Yh l).length:Int) d)) (xs:=g.Zw) (F:=PX N l g ((Yh l).length:Int)) (e:=Dq N l g) (by omega)]
 ·unfold Dq
  rw [Xt (fun e _=>Xz (Yh l) e.1 && Xz (Yh l) e.2) (xs:=g.Zy) (F:=PW N l g) (e:=LR g) (by omega)]
  ·have i:LR g=some (decide (g.Zw.length<=20/\g.Zy.length<=20)):=by
    unfold LR
    by_cases p:(g.Zw.length:Int)<=20
    ·rw [dT p,cT]
     congr 1
     rw [decide_eq_decide];omega
    ·rw [dF p,dF (show ¬ (g.Zw.length<=20/\g.Zy.length<=20) by omega)];rfl
   rw [i]
   cases Yw (fun d _=>decide (XD ((Yh l).length:Int) d)) g.Zw 0<;>cases Yw (fun e _=>Xz (Yh l) e.1 && Xz (Yh l) e.2) g.Zy 0<;>cases decide (g.Zw.length<=20/\g.Zy.length<=20)<;>rfl
  ·intro n k x a h
   simp only [PW,Yo a,cT,Yb,h,bS,ZsN hN l m o,Ye (show k < 4611686018427387904 by omega)]
   cases Xz (Yh l) x.1<;>cases Xz (Yh l) x.2<;>rfl
  ·intro n k a
   simp only [PW,Yp a,cond_false]
 ·intro n k x a h
  simp only [PX,Yo a,Yb,h,cT,bS,Ye (show k < 4611686018427387904 by omega)]
  by_cases d1:x.X < -1
  ·rw [dT d1,dF (show ¬ XD ((Yh l).length:Int) x by unfold XD;omega)];rfl
  by_cases b:x.X>=((Yh l).length:Int)
  ·rw [dF d1,dT b,dF (show ¬ XD ((Yh l).length:Int) x by unfold XD;omega)];rfl
  by_cases c:x.Y < -1
  ·rw [dF d1,dF b,dT c,dF (show ¬ XD ((Yh l).length:Int) x by unfold XD;omega)];rfl
  by_cases f:x.Y>=((Yh l).length:Int)
  ·rw [dF d1,dF b,dF c,dT f,dF (show ¬ XD ((Yh l).length:Int) x by unfold XD;omega)];rfl
  by_cases j:x.C < -20000
  ·rw [dF d1,dF b,dF c,dF f,dT j,dF (show ¬ XD ((Yh l).length:Int) x by unfold XD;omega)];rfl
  by_cases q:x.C > 20000
  ·rw [dF d1,dF b,dF c,dF f,dF j,dT q,dF (show ¬ XD ((Yh l).length:Int) x by unfold XD;omega)];rfl
  rw [dF d1,dF b,dF c,dF f,dF j,dF q,dT (show XD ((Yh l).length:Int) x by unfold XD;omega)];rfl
 ·intro n k a
  simp only [PX,Yp a,cond_false]
def Xn (s:YV):Prop:=(s.Zt=1/\-1000<=s.Lo/\s.Lo<=s.Hi/\s.Hi<=1000)\/(s.Zt=2/\0<=s.Lo/\s.Lo<=s.Hi/\s.Hi<=40)
instance (s:YV):Decidable (Xn s):=by unfold Xn;infer_instance
theorem ZaF (a b c:Prop) [Decidable a] [Decidable b] [Decidable c]:(bif decide a then (bif decide b then some (decide c) else some false) else some false)=some (decide (a/\b/\c)):=by
 by_cases d:a<;>by_cases e:b<;>simp [d,e]
theorem Zso (s:YV):De N s=some (decide (Xn s)):=by
 unfold De
 rw [ZaF,ZaF]
 by_cases a:s.Zt=1
 ·rw [show (s.Zt==1)=true by simp [a],cT];congr 1;rw [decide_eq_decide];unfold Xn;omega
 ·rw [show (s.Zt==1)=false by simp [a],cond_false]
  by_cases b:s.Zt=2
  ·rw [show (s.Zt==2)=true by simp [b],cT];congr 1;rw [decide_eq_decide];unfold Xn;omega
  ·rw [show (s.Zt==2)=false by simp [b],cond_false,dF (show ¬ Xn s by unfold Xn;omega)]
theorem Zoe (s:YV):Dk N s=some (decide (Xn s)):=by
 unfold Dk Dm
 rw [ZaF,ZaF]
 by_cases a:s.Zt=1
 ·rw [show (s.Zt==1)=true by simp [a],show (s.Zt==2)=false by simp [a]];simp only [cT,cond_false];congr 1;rw [decide_eq_decide];unfold Xn;omega
 ·rw [show (s.Zt==1)=false by simp [a]]
  by_cases b:s.Zt=2
  ·rw [show (s.Zt==2)=true by simp [b]];simp only [cT,cond_false];congr 1;rw [decide_eq_decide];unfold Xn;omega
  ·rw [show (s.Zt==2)=false by simp [b]];simp only [cond_false];rw [dF (show ¬ Xn s by unfold Xn;omega)]
end
section
variable {N:Nat}
structure TB (x:T0):Prop where
 n:x.Zu.size<=4000000
 f:∀ f∈x.Zz,f.Zu.size<=4000000
def U5 (x:T0) (f:T4) (j:Nat):Bool:=WD f.Zu && (decide (Xn f.Zv) && !((x.Zz.take j).any fun y=>YY y.Zu f.Zu))
def WQ (fl:List T4) (l:List T0) (x:T0) (k:Nat):Bool :=
 Pl x.Zu && (decide (x.Zz.length<=4) && (decide (x.ZA=((Yh (l.take k)).length:Int)) && (!((l.take k).any fun y=>YY y.Zu x.Zu) && (Yw (U5 x) x.Zz 0 && YJ fl x.ZB))))
def XA (l:List T0):Bool:=decide (l.length<=40) && (decide ((Yh l).length<=24) && Yw (WQ (Yh l) l) l 0)
theorem ZmT (hN:4194304 < N) (l:List T0) (b:l.length<=4194304) (x:T0):Dd N l x=some (l.any fun y=>YY y.Zu x.Zu):=by
 unfold Dd ZbB
 rw [Z3 l b (fun y k r=>bif YY y.Zu x.Zu then some k else r) (P3 N l x) (some (-1)) hN]
 ·have ⟨i,c,d⟩:=Gi (fun y:T0=>YY y.Zu x.Zu) l 0
  rw [c,bS,d]
 ·intro n k y a e
  simp only [P3,Yo a,Yb,e,cT,bS,Zbi,YY]
 ·intro n k a
  simp only [P3,Yp a,cond_false,ZbC]
theorem ZmU (hN:4194304 < N) (l:List T4) (b:l.length<=4194304) (x:T4):Df N l x=some (l.any fun y=>YY y.Zu x.Zu):=by
 unfold Df ZbE
 rw [Z3 l b (fun y k r=>bif YY y.Zu x.Zu then some k else r) (P4 N l x) (some (-1)) hN]
 ·have ⟨i,c,d⟩:=Gi (fun y:T4=>YY y.Zu x.Zu) l 0
  rw [c,bS,d]
 ·intro n k y a e
  simp only [P4,Yo a,Yb,e,cT,bS,Zbk,YY]
 ·intro n k a
  simp only [P4,Yp a,cond_false,ZbF]
theorem Zdo {l:List T0} {k:Nat} {x:T0} (h:l[k]? = some x):(Yh (l.take (k+1))).length=(Yh (l.take k)).length+x.Zz.length:=by
 rw [List.take_add_one,h]
 show (Yh (l.take k++[x])).length=_
 rw [So,lA];simp [Yh]
theorem Zdp (l:List T0) (k:Nat):(Yh (l.take k)).length<=(Yh l).length:=by
 have:Yh l=Yh (l.take k)++Yh (l.drop k):=by rw [<- So,List.take_append_drop]
 rw [this,lA];omega
theorem ZkF (hN:4194304 < N) (l:List T0) (P:l.length<=4194304) (o:∀ d∈l,XZ d) (D:∀ d∈l,TB d):Lr N l=some (XA l):=by
 unfold Lr XA
 by_cases z:(l.length:Int) > 40
 ·rw [dT z,dF (show ¬ l.length<=40 by omega)];rfl
 rw [dF z,dT (show l.length<=40 by omega),Zh1 hN l (by omega) o]
 simp only [cond_false,bS,Bool.true_and]
 by_cases C:((Yh l).length:Int) > 24
 ·rw [dT C,dF (show ¬ (Yh l).length<=24 by omega)];rfl
 rw [dF C,dT (show (Yh l).length<=24 by omega)]
 simp only [cond_false,Bool.true_and]
 have E:=HG l o
 have h:=Xt (WQ (Yh l) l) (xs:=l) (F:=fun n i=>Uj N l (Yh l) n ((Yh (l.take i.toNat)).length:Int) i) (e:=some true) (n:=N) (by omega) (by
  intro n k x p s
  show Uj N l (Yh l) (n+1) ((Yh (l.take k)).length:Int) (k:Int)=bif WQ (Yh l) l x k then Uj N l (Yh l) n ((Yh (l.take (k+1))).length:Int) ((k+1:Nat):Int) else some false
  have c:x∈l:=Zb s
  have g:=o x c
  have nx:=D x c
  have G:lsl l none (some (k:Int))=some (l.take k):=Pe (A:=l.take k) (B:=l.drop k) (List.take_append_drop k l).symm (by simp;omega)
  have H:=Zdp l k
  have a:Z1 (((Yh (l.take k)).length:Int)+(x.Zz.length:Int))=((Yh (l.take (k+1))).length:Int):=by rw [Zdo s,YE (by have:=g.f;omega) (by have:=g.f;omega)];omega
  have b:PF N (Yh l) ((Yh (l.take k)).length:Int) (k:Int) (Uj N l (Yh l) n) x N (0:Int)=bif Yw (U5 x) x.Zz 0 then GG N (Yh l) ((Yh (l.take k)).length:Int) (k:Int) (Uj N l (Yh l) n) x else some false:=by
   refine Xt (U5 x) (by have:=g.f;omega) ?_ ?_
   ·intro m j f t w
    have R:=g.f
    have I:=(Qa hN f.Zu (by have:=nx.f f (Zb w);omega)).1
    have u:lsl x.Zz none (some (j:Int))=some (x.Zz.take j):=Pe (A:=x.Zz.take j) (B:=x.Zz.drop j) (List.take_append_drop j _).symm (by simp;omega)
    have v:=ZmU hN (x.Zz.take j) (by simp;omega) f
    simp only [PF,Yo t,cT,Yb,w,bS,I,Zso,u,v,U5]
    rw [Ye (by omega)]
    cases WD f.Zu<;>cases decide (Xn f.Zv)<;>cases ((x.Zz.take j).any fun y=>YY y.Zu f.Zu)<;>rfl
   ·intro m j t
    simp only [PF,Yp t,cond_false]
  have v:=ZmT hN (l.take k) (by simp;omega) x
  simp only [Uj,Yo p,cT,Yb,s,bS,Zqo hN,G,v,b,GG,Zof hN,WQ,a]
  rw [Ye (by omega)]
  have L:decide ((x.Zz.length:Int) > 4) = !decide (x.Zz.length<=4):=by
   by_cases q:x.Zz.length<=4
   ·rw [dT q,dF (by omega)];rfl
   ·rw [dF q,dT (by omega)];rfl
  have M:(x.ZA != ((Yh (l.take k)).length:Int)) = !decide (x.ZA=((Yh (l.take k)).length:Int)):=by
   by_cases q:x.ZA=((Yh (l.take k)).length:Int)
   ·rw [dT q];simp [q]
   ·rw [dF q];simp [q]
  rw [L,M]
  cases Pl x.Zu<;>cases decide (x.Zz.length<=4)<;>cases decide (x.ZA=((Yh (l.take k)).length:Int))<;>cases ((l.take k).any fun y=>YY y.Zu x.Zu)<;>cases Yw (U5 x) x.Zz 0<;>cases YJ (Yh l) x.ZB<;>rfl) (by
  intro n k p
  show Uj N l (Yh l) (n+1) ((Yh (l.take k)).length:Int) (k:Int)=some true
  simp only [Uj,Yp p,cond_false,ZaQ])
 have O:Uj N l (Yh l) N (0:Int) (0:Int)=bif Yw (WQ (Yh l) l) l 0 then some true else some false:=h
 rw [O]
 cases Yw (WQ (Yh l) l) l 0<;>rfl
theorem Bc {α:Type} (f:α->Bool):∀ (l:List α) (k:Nat),Yw (fun y _ => !f y) l k = !(l.any f)
 | [],_=>rfl
 | x::l,k=>by
  show (!f x && Yw _ l (k+1))=_
  rw [Bc f l,List.any_cons]
  cases f x<;>rfl
theorem Zkv {α:Type} {l:List α} {k i:Nat} {x:α} (h:(l.take k)[i]? = some x):l[i]? = some x/\i < k:=by
 rw [List.getElem?_take] at h
 split at h
 ·exact ⟨h,by assumption⟩
 ·cases h
theorem ZjD (hN:4194304 < N) (l:List T0) (T:l.length<=4194304) (v:∀ d∈l,XZ d) (H:∀ d∈l,TB d):LA N l=some (XA l):=by
 unfold LA XA
 by_cases E:(l.length:Int) > 40
 ·rw [dT E,dF (show ¬ l.length<=40 by omega)];rfl
 rw [dF E,dT (show l.length<=40 by omega),Gg hN l (by omega) v]
 simp only [cond_false,bS,Bool.true_and]
 by_cases G:((Yh l).length:Int) > 24
 ·rw [dT G,dF (show ¬ (Yh l).length<=24 by omega)];rfl
 rw [dF G,dT (show (Yh l).length<=24 by omega)]
 simp only [cond_false,Bool.true_and]
 have I:=HG l v
 have h:=Xt (WQ (Yh l) l) (xs:=l) (F:=fun n i=>WL N l n ((Yh (l.take i.toNat)).length:Int) i) (e:=some true) (n:=N) (by omega) (by
  intro n k x A B
  show WL N l (n+1) ((Yh (l.take k)).length:Int) (k:Int)=bif WQ (Yh l) l x k then WL N l n ((Yh (l.take (k+1))).length:Int) ((k+1:Nat):Int) else some false
  have u:x∈l:=Zb B
  have t:=v x u
  have nx:=H x u
  have L:=Zdp l k
  have o:Z1 (((Yh (l.take k)).length:Int)+(x.Zz.length:Int))=((Yh (l.take (k+1))).length:Int):=by rw [Zdo B,YE (by have:=t.f;omega) (by have:=t.f;omega)];omega
  have a:PJ N l ((Yh (l.take k)).length:Int) (k:Int) (WL N l n) x N (0:Int)=bif Yw (fun y _ => !YY y.Zu x.Zu) (l.take k) 0 then GQ N l ((Yh (l.take k)).length:Int) (k:Int) (WL N l n) x else some false:=by
   refine Xt (fun (y:T0) _ => !YY y.Zu x.Zu) (by simp;omega) ?_ ?_
   ·intro m j y s C
    have ⟨g,w⟩:=Zkv C
    simp only [PJ,Yo w,cT,Yb,g,bS,YY]
    rw [Ye (by omega)]
    cases (y.Zu.toList==x.Zu.toList)<;>rfl
   ·intro m j s
    have:k<=j:=by simp at s;omega
    simp only [PJ,Yp this,cond_false]
  have b:TV N l ((Yh (l.take k)).length:Int) (k:Int) (WL N l n) x N (0:Int)=bif Yw (U5 x) x.Zz 0 then GO N l ((Yh (l.take k)).length:Int) (k:Int) (WL N l n) x else some false:=by
   refine Xt (U5 x) (by have:=t.f;omega) ?_ ?_
   ·intro m j f s D
    have U:=t.f
    have M:=(Qa hN f.Zu (by have:=nx.f f (Zb D);omega)).2
    have c:PI x (j:Int) (TV N l ((Yh (l.take k)).length:Int) (k:Int) (WL N l n) x m) N (0:Int)=bif Yw (fun y _ => !YY y.Zu f.Zu) (x.Zz.take j) 0 then GP (j:Int) (TV N l ((Yh (l.take k)).length:Int) (k:Int) (WL N l n) x m) else some false:=by
     refine Xt (fun (y:T4) _ => !YY y.Zu f.Zu) (by simp;omega) ?_ ?_
     ·intro p i y hi C
      have ⟨g,z⟩:=Zkv C
      simp only [PI,Yo z,cT,Yb,g,D,bS,YY]
      rw [Ye (by omega)]
      cases (y.Zu.toList==f.Zu.toList)<;>rfl
     ·intro p i hi
      have:j<=i:=by simp at hi;omega
      simp only [PI,Yp this,cond_false]
    simp only [TV,Yo s,cT,Yb,D,bS,M,Zoe,c,U5,GP,Bc]
    rw [Ye (by omega)]
    cases WD f.Zu<;>cases decide (Xn f.Zv)<;>cases ((x.Zz.take j).any fun y=>YY y.Zu f.Zu)<;>rfl
   ·intro m j s
    simp only [TV,Yp s,cond_false]
  have O:=Zod hN l (by omega) v x.ZB t.d t.e
  simp only [WL,Yo A,cT,Yb,B,bS,a,b,GQ,GO,Zrr hN x.Zu nx.n,O,WQ,o,Bc]
  rw [Ye (by omega)]
  have P:decide ((x.Zz.length:Int) > 4) = !decide (x.Zz.length<=4):=by
   by_cases q:x.Zz.length<=4
   ·rw [dT q,dF (by omega)];rfl
   ·rw [dF q,dT (by omega)];rfl
  have R:(x.ZA != ((Yh (l.take k)).length:Int)) = !decide (x.ZA=((Yh (l.take k)).length:Int)):=by
   by_cases q:x.ZA=((Yh (l.take k)).length:Int)
   ·rw [dT q];simp [q]
   ·rw [dF q];simp [q]
  rw [P,R]
  cases Pl x.Zu<;>cases decide (x.Zz.length<=4)<;>cases decide (x.ZA=((Yh (l.take k)).length:Int))<;>cases ((l.take k).any fun y=>YY y.Zu x.Zu)<;>cases Yw (U5 x) x.Zz 0<;>cases YJ (Yh l) x.ZB<;>rfl) (by
  intro n k A
  show WL N l (n+1) ((Yh (l.take k)).length:Int) (k:Int)=some true
  simp only [WL,Yp A,cond_false,ZaS])
 have S:WL N l N (0:Int) (0:Int)=bif Yw (WQ (Yh l) l) l 0 then some true else some false:=h
 rw [S]
 cases Yw (WQ (Yh l) l) l 0<;>rfl
end
section
variable {N:Nat}
theorem Dist.le {E:List (Int × Int)} {S:Nat} {e:Int} {L M:List Int} (hL:Dist E S e L) (hM:Dist E S e M):∀ (k:Nat) (v:Int),Z5 L v=some (k:Int)->∃ m,Z5 M v=some m/\0<=m/\m<=(k:Int):=by
 intro k
 induction k with
 | zero =>
  intro v a
  have:=hL.zero v a
  subst this
  exact ⟨0,hM.root,by omega,by omega⟩
 | succ k i =>
  intro v a
  have ⟨u,b,c⟩:=hL.pred v _ a (by omega)
  have ⟨m,f,g,j⟩:=i u (by rw [c];congr 1;omega)
  have ⟨d,d1,h,l⟩:=hM.succ u v m b f g
  exact ⟨d,d1,h,by omega⟩
theorem Dist.uniq {E:List (Int × Int)} {S:Nat} {e:Int} {L M:List Int} (hL:Dist E S e L) (hM:Dist E S e M):L=M:=by
 refine List.ext_getElem? fun i=>?_
 by_cases hi:i < S
 ·have ⟨d,c⟩:=Xx (L:=L) (v:=(i:Int)) (by omega) (by rw [hL.len];omega)
  have ⟨m,f⟩:=Xx (L:=M) (v:=(i:Int)) (by omega) (by rw [hM.len];omega)
  have a:=(hL.lo _ _ c).1
  have b:=(hM.lo _ _ f).1
  have one:0<=d->0<=m/\m<=d:=by
   intro h
   have ⟨x,g,k,l⟩:=hL.le hM d.toNat (i:Int) (by rw [c];congr 1;omega)
   rw [f] at g;cases g;exact ⟨k,by omega⟩
  have j:0<=m->0<=d/\d<=m:=by
   intro h
   have ⟨x,g,k,l⟩:=hM.le hL m.toNat (i:Int) (by rw [f];congr 1;omega)
   rw [c] at g;cases g;exact ⟨k,by omega⟩
  rw [Yb] at c f
  rw [c,f]
  congr 1
  by_cases h:0<=d
  ·have:=one h;have:=j this.1;omega
  ·by_cases n:0<=m
   ·have:=j n;omega
   ·omega
 ·rw [List.getElem?_eq_none (by rw [hL.len];omega),List.getElem?_eq_none (by rw [hM.len];omega)]
structure Uo (g:T5):Prop where
 n:g.Zu.size<=4000000
 r:∀ s∈g.ZI,s.size<=4000000
 d:∀ x∈g.ZJ,TB x
def Ro (g:T5) (s:ByteArray) (i:Nat):Bool:=WD s && !((g.ZI.take i).any fun y=>YY y s)
def Pi (g:T5):Bool:=WD g.Zu && (decide (1<=g.ZI.length/\g.ZI.length<=6) && Yw (Ro g) g.ZI 0)
theorem Zi1 (hN:4194304 < N) (g:T5) (h:VP g) (c:Uo g):GW N g=some (Pi g):=by
 unfold GW Pi
 rw [(Qa hN g.Zu (by have:=c.n;omega)).1]
 have m:=h.r
 rw [Xt (Ro g) (xs:=g.ZI) (F:=PM N g) (e:=some true) (by omega)]
 ·simp only [bS]
  by_cases b:(g.ZI.length:Int) < 1
  ·rw [dT b,dF (show ¬ (1<=g.ZI.length/\g.ZI.length<=6) by omega)];cases WD g.Zu<;>rfl
  by_cases f:(g.ZI.length:Int) > 6
  ·rw [dF b,dT f,dF (show ¬ (1<=g.ZI.length/\g.ZI.length<=6) by omega)];cases WD g.Zu<;>rfl
  rw [dF b,dF f,dT (show 1<=g.ZI.length/\g.ZI.length<=6 by omega)]
  cases WD g.Zu<;>cases Yw (Ro g) g.ZI 0<;>rfl
 ·intro n k x a d
  have i:=(Qa hN x (by have:=c.r x (Zb d);omega)).1
  have j:lsl g.ZI none (some (k:Int))=some (g.ZI.take k):=Pe (A:=g.ZI.take k) (B:=g.ZI.drop k) (List.take_append_drop k _).symm (by simp;omega)
  have l:=Zg7 hN (g.ZI.take k) (by simp;omega) x
  simp only [PM,Yo a,cT,Yb,d,bS,i,j,l,Ro]
  rw [Ye (by omega)]
  cases WD x<;>cases ((g.ZI.take k).any fun y=>YY y x)<;>rfl
 ·intro n k a
  simp only [PM,Yp a,cond_false,Za4]
theorem Zh3 {α:Type} (f:α->Bool):∀ (l:List α) (k i:Nat) (x:α),l[i]? = some x->f x=true->∃ j,lv (fun x (k:Nat) r=>bif f x then some (k:Int) else r) (some (-1)) l k=some j/\decide (j < ((k+i:Nat):Int))=(l.take i).any f
 | [],k,i,x,h,_=>by simp at h
 | y::l,k,i,x,h,hf=>by
  show ∃ j,(bif f y then some (k:Int) else lv _ _ l (k+1))=some j/\_
  cases i with
  | zero =>
   simp at h;subst h
   rw [hf]
   exact ⟨k,rfl,by simp⟩
  | succ i =>
   rw [List.take_succ_cons,List.any_cons]
   cases c:f y
   ·have ⟨j,a,b⟩:=Zh3 f l (k+1) i x (by simpa using h) hf
    exact ⟨j,a,by rw [show k+(i+1)=k+1+i by omega,b];rfl⟩
   ·exact ⟨k,rfl,by simp;omega⟩
theorem Zp3 (hN:4194304 < N) (g:T5) (a:VP g) (b:Uo g):Gk N g=some (Pi g && XA g.ZJ):=by
 unfold Gk Pi
 have o:=a.r
 rw [Xt (Ro g) (xs:=g.ZI) (F:=Py N g) (e:=Gl N g) (by omega)]
 ·unfold Gl
  rw [(Qa hN g.Zu (by have:=b.n;omega)).2,ZjD hN g.ZJ a.d a.dd b.d]
  simp only [bS]
  by_cases h:(g.ZI.length:Int)>=1
  ·by_cases l:(g.ZI.length:Int)<=6
   ·rw [dT h,dT l,dT (show 1<=g.ZI.length/\g.ZI.length<=6 by omega)]
    cases WD g.Zu<;>cases Yw (Ro g) g.ZI 0<;>rfl
   ·rw [dT h,dF l,dF (show ¬ (1<=g.ZI.length/\g.ZI.length<=6) by omega)]
    cases WD g.Zu<;>cases Yw (Ro g) g.ZI 0<;>rfl
  ·rw [dF h,dF (show ¬ (1<=g.ZI.length/\g.ZI.length<=6) by omega)]
   cases WD g.Zu<;>cases Yw (Ro g) g.ZI 0<;>rfl
 ·intro n k x c f
  have p:=(Qa hN x (by have:=b.r x (Zb f);omega)).2
  have ⟨j,m,i⟩:=Zh3 (fun y=>YY y x) g.ZI 0 k x f (Zdg x)
  have hi:LN N g.ZI x=some j:=by rw [Zrm hN g.ZI o];exact m
  rw [Nat.zero_add] at i
  simp only [Py,Yo c,cT,Yb,f,bS,p,hi,i,Ro]
  rw [Ye (by omega)]
  cases WD x<;>cases ((g.ZI.take k).any fun y=>YY y x)<;>rfl
 ·intro n k c
  simp only [Py,Yp c,cond_false]
theorem ZmA (d:T0) (j:d.ZB.Zy.length<=4194304):∀ (l:List (Int × Int)) (k n:Nat) (b:List T1),d.ZB.Zy.drop k=l->l.length < n->b.length+2 * l.length<=4294967296->∃ r,UT d n b (k:Int)=some r:=by
 intro l
 induction l with
 | nil =>
  intro k n b h f _
  obtain ⟨n,rfl⟩:=pS n (by simp at f;omega)
  exact ⟨b,by simp only [UT,Yp (Xr h),cond_false,DR]⟩
 | cons x l i =>
  intro k n b h f g
  obtain ⟨n,rfl⟩:=pS n (by simp at f;omega)
  have ⟨a,c,e⟩:=Xp h
  simp only [Zg] at g f
  simp only [UT,Yo a,cT,Yb,c,bS]
  rw [Y8 (by simp;omega),bS,Ye (by omega)]
  exact i (k+1) n _ e (by omega) (by simp;omega)
theorem ZmB (hN:4194304 < N) (d:T0) (i:XZ d):∀ (l:List T4) (k n:Nat) (b:List T1),d.Zz.drop k=l->l.length < n->b.length+2 * l.length<=16777216->∃ r,UU N d n b (k:Int)=some r:=by
 intro l
 have p:=i.f
 have q:=i.d
 have m:=i.e
 induction l with
 | nil =>
  intro k n b h g j
  obtain ⟨n,rfl⟩:=pS n (by simp at g;omega)
  simp only [UU,Yp (Xr h),cond_false,Hd]
  simp at j
  rw [Y8 (by omega),bS]
  exact ZmA d m d.ZB.Zy 0 N _ rfl (by omega) (by simp;omega)
 | cons x l o =>
  intro k n b h g j
  obtain ⟨n,rfl⟩:=pS n (by simp at g;omega)
  have ⟨a,c,e⟩:=Xp h
  simp only [Zg] at j g
  simp only [UU,Yo a,cT,Yb,c,bS]
  rw [Y8 (by simp;omega),bS,Ye (by omega)]
  exact o (k+1) n _ e (by omega) (by simp;omega)
theorem ZhB (hN:4194304 < N) (l:List T0) (b:l.length<=4194304) (a:∀ d∈l,XZ d) (c:∀ d∈l,TB d):GY N l=some (XA l):=by
 unfold GY
 cases l with
 | nil=>rfl
 | cons x l =>
  have g:(((x::l).length:Int)==0)=false:=by simp;omega
  have h:decide ((0:Int) < 0)=false:=rfl
  have i:decide ((0:Int)>=((x::l).length:Int))=false:=by simp
  have j:Z5 (x::l) (0:Int)=some x:=by rw [show (0:Int)=((0:Nat):Int) from rfl,Yb];rfl
  have k:∃ r,RC N x=some r:=ZmB hN x (a x (by simp)) x.Zz 0 N [] rfl (by have:=(a x (by simp)).f;omega) (by have:=(a x (by simp)).f;simp;omega)
  have ⟨r,e⟩:=k
  unfold LG
  rw [g,h,i,ZkF hN (x::l) b a c,j]
  simp only [cond_false,bS,e]
  cases XA (x::l)<;>rfl
structure ZgH (g:T5):Prop where
 named:Pi g=true
 num:Uf g=true
 decls:XA g.ZJ=true
 apart:QX g=true
 noEnd:(g.ZO.all fun x => !(x.ZC==g.ZN))=true
 time:Pu g=true
 reach:∃ F,Dist (VD g false) g.ZL.toNat g.ZM F/\W8 F=true
 ends:∃ L,Dist (VD g true) g.ZL.toNat g.ZN L/\W8 L=true
theorem ZcH (hN:4194304 < N) (g:T5) (c:VP g) (k:Uo g) (w:Ve g):∃ b,Mq N g=some b/\z45 N g=some b/\(b=true↔ZgH g):=by
 unfold Mq z45
 rw [Zi1 hN g c k,Zi8 hN g c.e,ZhB hN g.ZJ c.d c.dd k.d,Zje hN g c.e,Zkx hN g c.t,Zp3 hN g c k,Zqc hN g c.e,Zmi hN g c.e]
 simp only [bS]
 cases n:Pi g
 ·exact ⟨false,by simp,by simp,by simp;intro h;have:=h.named;rw [n] at this;cases this⟩
 cases f:Uf g
 ·refine ⟨false,by simp,?_,by simp;intro h;have:=h.num;rw [f] at this;cases this⟩
  cases XA g.ZJ<;>rfl
 cases o:XA g.ZJ
 ·exact ⟨false,by simp,by simp,by simp;intro h;have:=h.decls;rw [o] at this;cases this⟩
 rw [Zjd]
 have ⟨H,I,y,z,A,B,M⟩:=HS f
 have ⟨F,C,i⟩:=Zaw hN g f false g.ZM y z
 have ⟨L,D,j⟩:=Zaw hN g f true g.ZN A B
 rw [C,D,ZmS hN g f w j i,Zry hN g c.t f]
 have l:=Bp hN F (by rw [i.len];omega) (-1)
 have m:=Bp hN L (by rw [j.len];omega) (-1)
 have E:(F.any fun d=>d==-1) = !W8 F:=by unfold W8;rw [Bool.not_not]
 have G:(L.any fun d=>d==-1) = !W8 L:=by unfold W8;rw [Bool.not_not]
 rw [E] at l
 rw [G] at m
 simp only [bS,l,m]
 cases p:QX g
 ·exact ⟨false,by simp,by simp,by simp;intro h;have:=h.apart;rw [p] at this;cases this⟩
 cases q:(g.ZO.all fun x => !(x.ZC==g.ZN))
 ·refine ⟨false,by simp,?_,?_⟩
  ·cases W8 F<;>cases W8 L<;>rfl
  ·simp only [Bool.false_eq_true,false_iff]
   intro h;have:=h.noEnd;rw [q] at this;cases this
 cases s:Pu g
 ·refine ⟨false,by simp,?_,?_⟩
  ·cases W8 F<;>cases W8 L<;>rfl
  ·simp only [Bool.false_eq_true,false_iff]
   intro h;have:=h.time;rw [s] at this;cases this
 cases u:W8 F
 ·refine ⟨false,by simp,by simp,?_⟩
  simp only [Bool.false_eq_true,false_iff]
  intro h
  have ⟨O,a,b⟩:=h.reach
  rw [a.uniq i,u] at b;cases b
 cases v:W8 L
 ·refine ⟨false,by simp,by simp,?_⟩
  simp only [Bool.false_eq_true,false_iff]
  intro h
  have ⟨P,a,b⟩:=h.ends
  rw [a.uniq j,v] at b;cases b
 exact ⟨true,by simp,by simp,by simp;exact ⟨n,f,o,p,q,s,⟨F,i,u⟩,⟨L,j,v⟩⟩⟩
end
section
variable {N:Nat}
theorem ZnP (l:List T0) (i:l.length<=4194304):∀ (r:List T0) (n k:Nat) (a:Int),l.drop k=r->r.length < n->∃ b,Ma l n a (k:Int)=some b/\(b=true->l.length<=60):=by
 intro r
 induction r with
 | nil =>
  intro n k a h c
  obtain ⟨n,rfl⟩:=pS n (by simp at c;omega)
  unfold Ma
  rw [Yp (Xr h)]
  simp only [cond_false,Zb6]
  by_cases d:l.length<=60
  ·have:decide ((l.length:Int)<=60)=true:=by simp;omega
   rw [this]
   exact ⟨_,rfl,fun _=>d⟩
  ·have:decide ((l.length:Int)<=60)=false:=by simp;omega
   rw [this]
   exact ⟨false,rfl,fun h=>by cases h⟩
 | cons x r g =>
  intro n k a h c
  obtain ⟨n,rfl⟩:=pS n (by simp at c;omega)
  have ⟨d,e,f⟩:=Xp h
  unfold Ma
  rw [Yo d,Ye (by omega)]
  simp only [cT,Yb,e,bS]
  exact g n (k+1) _ f (by simp at c;omega)
end
section
variable {N:Nat}
def Xh (b:UInt8):Bool:=decide (b.toNat < 32) || decide (126 < b.toNat)
def Yz (v:T12):Int:=bif v.Zt==2 then (v.S.size:Int) else v.N
def XW (s:YV) (v:T12):Bool :=
 v.Zt==s.Zt && (decide (s.Lo<=Yz v) && (decide (Yz v<=s.Hi) && (bif v.Zt==1 then v.S.toList==(str []).toList else v.N==0 && !((bs v.S).any Xh))))
theorem Zid (s:ByteArray) (i:Nat) (h:i < (bs s).length):s.get! i=(bs s)[i]:=by
 have a:i < s.data.size:=by simpa [bs] using h
 show s.data[i]! = _
 rw [getElem!_pos s.data i a]
 simp [bs]
theorem ZhD (s:ByteArray) (i:Nat) (b:UInt8) (h:(bs s)[i]? = some b) (a:b.toNat < 128):Utf8.decode s i=(b.toNat,1):=by
 have ⟨hi,c⟩:=List.getElem?_eq_some_iff.1 h
 have d:s.get! (i+0)=b:=by rw [Nat.add_zero,Zid s i hi,c]
 unfold Utf8.decode
 simp only [d,a,if_true]
theorem ZhC (s:ByteArray) (i:Nat) (b:UInt8) (h:(bs s)[i]? = some b) (c:¬ b.toNat < 128):126 < (Utf8.decode s i).1:=by
 have ⟨hi,d⟩:=List.getElem?_eq_some_iff.1 h
 have e:s.get! (i+0)=b:=by rw [Nat.add_zero,Zid s i hi,d]
 unfold Utf8.decode Utf8.runeError
 simp only [e,c,if_false]
 split
 ·split
  ·simp only [];omega
  ·simp only [];omega
 ·split
  ·split
   ·rename_i a
    simp only [Zc,decide_eq_true_eq] at a
    have:=a.1
    simp only [] at *;omega
   ·simp only [];omega
  ·split
   ·split
    ·rename_i a
     simp only [Zc,decide_eq_true_eq] at a
     have:=a.1
     simp only [] at *;omega
    ·simp only [];omega
   ·simp only [];omega
theorem Zj0 (s:ByteArray):∀ (r:List UInt8) (n i:Nat),(bs s).drop i=r->r.length < n->∃ z,P8 N s true n i=some z/\decide (z>=0)=r.any Xh:=by
 intro r
 induction r with
 | nil =>
  intro n i h f
  obtain ⟨n,rfl⟩:=pS n (by simp at f;omega)
  have hi:=Xr h
  unfold P8
  have:decide (i < s.size)=false:=by rw [XH];simp;omega
  rw [this]
  exact ⟨-1,rfl,rfl⟩
 | cons b r p =>
  intro n i h f
  obtain ⟨n,rfl⟩:=pS n (by simp at f;omega)
  have ⟨q,g,k⟩:=Xp h
  simp only [Zg] at f
  unfold P8
  have:decide (i < s.size)=true:=by rw [XH];simp;omega
  rw [this,List.any_cons]
  simp only [cT,Zbm]
  by_cases j:b.toNat < 128
  ·rw [ZhD s i b g j]
   by_cases m:b.toNat < 32
   ·have d:decide (((b.toNat:Nat):Int) < 32)=true:=by simp;omega
    have a:Xh b=true:=by simp [Xh,m]
    rw [d,a]
    exact ⟨(i:Int),rfl,by simp⟩
   ·have d:decide (((b.toNat:Nat):Int) < 32)=false:=by simp;omega
    rw [d]
    simp only [cond_false,bS]
    by_cases o:126 < b.toNat
    ·have e:decide (((b.toNat:Nat):Int) > 126)=true:=by simp;omega
     have a:Xh b=true:=by simp [Xh,o]
     rw [e,a]
     exact ⟨(i:Int),rfl,by simp⟩
    ·have e:decide (((b.toNat:Nat):Int) > 126)=false:=by simp;omega
     have a:Xh b=false:=by simp [Xh];omega
     rw [e,a]
     exact p n (i+1) k (by omega)
  ·have l:=ZhC s i b g j
   have a:Xh b=true:=by simp [Xh];omega
   generalize (Utf8.decode s i).1=c at l ⊢
   have d:decide ((c:Int) < 32)=false:=by simp;omega
   have e:decide ((c:Int) > 126)=true:=by simp;omega
   rw [d,a]
   simp only [cond_false,bS]
   rw [e]
   exact ⟨(i:Int),rfl,by simp⟩
theorem ZrZ (hN:4194304 < N) (s:ByteArray) (a:s.size<=4194304):LQ N s=some ((bs s).any Xh):=by
 have ⟨z,b,c⟩:=Zj0 (N:=N) s (bs s) N 0 rfl (by rw [XH] at a;omega)
 unfold LQ Dz DI
 rw [b]
 simp only [bS]
 rw [c]
theorem R6 (v:T12):RD N v=some (Yz v):=by
 unfold RD Yz
 cases (v.Zt==2)<;>rfl
theorem Pm (v:T12):QN N v=some (Yz v):=R6 (N:=N) v
theorem Zh5 (hN:4194304 < N) (s:YV) (v:T12) (c:v.S.size<=4194304):Qh N s v=some (XW s v):=by
 unfold Qh XW
 rw [R6]
 simp only [bS,bne]
 cases d:v.Zt==s.Zt with
 | false=>rfl
 | true =>
  simp only [Zh,cond_false,Bool.true_and]
  by_cases a:Yz v < s.Lo
  ·rw [dT a,dF (show ¬ s.Lo<=Yz v by omega)];rfl
  ·rw [dF a,dT (show s.Lo<=Yz v by omega)]
   simp only [cond_false,Bool.true_and]
   by_cases b:Yz v > s.Hi
   ·rw [dT b,dF (show ¬ Yz v<=s.Hi by omega)];rfl
   ·rw [dF b,dT (show Yz v<=s.Hi by omega)]
    simp only [cond_false,Bool.true_and]
    cases e:v.Zt==1 with
    | true=>rfl
    | false =>
     simp only [cond_false]
     cases f:v.N==0 with
     | false=>rfl
     | true =>
      simp only [cT,Bool.true_and]
      rw [ZrZ hN v.S c];rfl
theorem Zrg (s:YV) (v:T12) (c:v.S.size<=4194304):∀ (r:List UInt8) (n k:Nat),(bs v.S).drop k=r->r.length < n->PH N s v n (k:Int)=bif r.any Xh then some false else Lx N s v:=by
 intro r
 induction r with
 | nil =>
  intro n k h a
  obtain ⟨n,rfl⟩:=pS n (by simp at a;omega)
  unfold PH
  rw [Zkc (Xr h)];rfl
 | cons b r j =>
  intro n k h a
  obtain ⟨n,rfl⟩:=pS n (by simp at a;omega)
  have ⟨d,e,f⟩:=Xp h
  simp only [Zg] at a
  unfold PH
  have l:k < 4194304:=by rw [XH] at c;omega
  rw [Zkd d,Pq,e,Ye (by omega),List.any_cons]
  simp only [cT,Option.map_some,bS]
  by_cases g:b.toNat < 32
  ·rw [dT (show ((b.toNat:Nat):Int) < 32 by omega)]
   have:Xh b=true:=by simp [Xh,g]
   rw [this];rfl
  ·rw [dF (show ¬ ((b.toNat:Nat):Int) < 32 by omega)]
   by_cases i:126 < b.toNat
   ·rw [dT (show ((b.toNat:Nat):Int) > 126 by omega)]
    have:Xh b=true:=by simp [Xh,i]
    rw [this];rfl
   ·rw [dF (show ¬ ((b.toNat:Nat):Int) > 126 by omega)]
    have:Xh b=false:=by simp [Xh];omega
    rw [this]
    simp only [cond_false,Bool.false_or]
    exact j n (k+1) f (by omega)
theorem Znw (s:ByteArray) (h:(s.toList==(str []).toList)=true):(bs s).any Xh=false:=by
 have h:=beq_iff_eq.1 h
 rw [W9,W9,Bi] at h
 rw [h];rfl
theorem ZjB (hN:4194304 < N) (s:YV) (l:s.Zt=1\/s.Zt=2) (v:T12) (j:v.S.size<=4194304):Lw N s v=some (XW s v):=by
 have d:=Zrg (N:=N) s v j (bs v.S) N 0 rfl (by rw [XH] at j;omega)
 have d:Lw N s v=bif (bs v.S).any Xh then some false else Lx N s v:=d
 rw [d]
 have f:∀ b,Rw N s v b=some (!b && (v.Zt==s.Zt && (decide (s.Lo<=Yz v) && decide (Yz v<=s.Hi)))):=fun b=>by
  unfold Rw
  rw [Pm]
  simp only [bS,ge_iff_le]
  cases b<;>cases (v.Zt==s.Zt)<;>cases decide (s.Lo<=Yz v)<;>rfl
 unfold Lx XW
 rw [f,f,f]
 cases k:(bs v.S).any Xh with
 | true =>
  simp only [cT,Zh,Bool.and_false]
  cases o:v.Zt==1 with
  | false=>simp
  | true =>
   cases n:v.S.toList==(str []).toList with
   | false=>simp
   | true=>rw [Znw v.S n] at k;cases k
 | false =>
  simp only [cond_false,Bool.not_false,Bool.and_true]
  by_cases c:v.Zt=2
  ·have a:(v.Zt==1)=false:=by rw [c];rfl
   have g:(v.Zt==2)=true:=by rw [c];rfl
   rw [a,g]
   simp only [bne]
   cases (v.N==0)<;>cases (v.Zt==s.Zt)<;>cases decide (s.Lo<=Yz v)<;>cases decide (Yz v<=s.Hi)<;>rfl
  ·have g:(v.Zt==2)=false:=by simp [c]
   rw [g]
   by_cases i:v.Zt=1
   ·have a:(v.Zt==1)=true:=by rw [i];rfl
    rw [a]
    simp only [cond_false,cT]
    cases (v.S.toList==(str []).toList)<;>cases (v.Zt==s.Zt)<;>cases decide (s.Lo<=Yz v)<;>cases decide (Yz v<=s.Hi)<;>rfl
   ·have a:(v.Zt==1)=false:=by simp [i]
    have m:(v.Zt==s.Zt)=false:=by
     rw [beq_eq_false_iff_ne]
     intro e;rcases l with h | h<;>rw [h] at e
     ·exact i e
     ·exact c e
    rw [a,m];rfl
def WT (v:T12):Bool:=(v.Zt==0) && ((v.N==0) && ((v.S.toList==(str []).toList) && true))
def Wk (fl:List T4) (v:T12) (i:Nat):Bool:=match fl[i]? with
 | some f=>XW f.Zv v
 | none=>false
def Ud (fl:List T4) (ks:List T12):Bool:=decide (fl.length=ks.length) && Yw (fun v i=>WT v || Wk fl v i) ks 0
def Vj (d:List T0) (label:Int) (ks:List T12):Bool:=decide (0<=label/\label < (d.length:Int)) && (XA d && Ud (Yh d) ks)
def XK (fs:List T4) (vs:List T12):Bool:=decide (fs.length=vs.length) && Yw (fun v i=>Wk fs v i) vs 0
theorem HM (a b:Nat):((a:Int) != (b:Int)) = !decide (a=b):=by
 by_cases h:a=b
 ·subst h;simp
 ·simp [h];omega
theorem Zqx (hN:4194304 < N) (b:List T4) (c:List T12) (g:b.length=c.length) (m:c.length<=4194304) (j:∀ v∈c,v.S.size<=4194304):RB N c b N (0:Int)=some (Yw (fun v i=>WT v || Wk b v i) c 0):=by
 have h:=Xt (fun (v:T12) i=>WT v || Wk b v i) (xs:=c) (F:=RB N c b) (e:=some true) (n:=N) (by omega) (by
  intro n k x a d
  obtain ⟨f,l⟩:∃ f,b[k]? = some f:=⟨b[k],by simp [g,a]⟩
  rw [RB,Yo a,Ye (by omega)]
  simp only [cT,Yb,d,bS,l,Wk]
  rw [Zh5 hN _ _ (j x (Zb d))]
  show (bif !(WT x) then _ else _)=_
  cases WT x<;>cases XW f.Zv x<;>rfl) (by
  intro n k a
  unfold RB
  rw [Yp a];rfl)
 rw [h]
 cases Yw (fun (v:T12) i=>WT v || Wk b v i) c 0<;>rfl
theorem Zd8 (hN:4194304 < N) (d:List T0) (h:d.length<=1000) (e:∀ x∈d,XZ x) (i:∀ x∈d,TB x) (a:Int) (b:List T12) (j:b.length<=4194304) (k:∀ v∈b,v.S.size<=4194304) :
  US N d a b=some (Vj d a b):=by
 unfold US Vj
 rw [ZkF hN d (by omega) e i,Zh1 hN d h e]
 by_cases f:a < 0
 ·rw [dT f,dF (show ¬ (0<=a/\a < (d.length:Int)) by omega)];rfl
 ·rw [dF f]
  by_cases g:a>=(d.length:Int)
  ·rw [dT g,dF (show ¬ (0<=a/\a < (d.length:Int)) by omega)];rfl
  ·rw [dF g,dT (show (0<=a/\a < (d.length:Int)) by omega)]
   cases XA d with
   | false=>rfl
   | true =>
    simp only [cond_false,bS,Zh,Bool.true_and,Ud]
    rw [HM]
    by_cases c:(Yh d).length=b.length
    ·rw [dT c]
     simp only [Zh,cond_false,Bool.true_and]
     exact Zqx hN _ _ c j k
    ·rw [dF c];rfl
theorem Zdn (hN:4194304 < N) (fs:List T4) (vs:List T12) (l:vs.length<=4194304) (g:∀ v∈vs,v.S.size<=4194304):RG N fs vs=some (XK fs vs):=by
 unfold RG XK
 rw [HM]
 by_cases d:fs.length=vs.length
 ·rw [dT d]
  simp only [Zh,cond_false,Bool.true_and]
  have h:=Xt (fun (f:T4) i=>match vs[i]? with | some v=>XW f.Zv v | none=>false) (xs:=fs) (F:=S2 N fs vs) (e:=some true) (n:=N) (by omega) (by
   intro n k x a j
   obtain ⟨v,b⟩:∃ v,vs[k]? = some v:=⟨vs[k],by simp [<- d,a]⟩
   rw [S2,Yo a,Ye (by omega)]
   simp only [cT,Yb,j,bS,b]
   rw [Zh5 hN _ _ (g v (Zb b))]
   cases XW x.Zv v<;>rfl) (by
   intro n k a
   unfold S2
   rw [Yp a];rfl)
  rw [h]
  have e:Yw (fun (f:T4) i=>match vs[i]? with | some v=>XW f.Zv v | none=>false) fs 0=Yw (fun v i=>Wk fs v i) vs 0:=by
   rw [Bool.eq_iff_iff,XC,XC]
   constructor
   ·intro q i v b
    obtain ⟨f,c⟩:∃ f,fs[i]? = some f:=⟨fs[i]'(by rw [d];exact (List.getElem?_eq_some_iff.1 b).1),by simp⟩
    have:=q i f c
    simp only [Nat.zero_add] at this ⊢
    rw [b] at this
    unfold Wk;rw [c];exact this
   ·intro q i f c
    obtain ⟨v,b⟩:∃ v,vs[i]? = some v:=⟨vs[i]'(by rw [<- d];exact (List.getElem?_eq_some_iff.1 c).1),by simp⟩
    have:=q i v b
    simp only [Nat.zero_add] at this ⊢
    unfold Wk at this;rw [c] at this
    rw [b];exact this
  rw [e]
  cases Yw (fun v i=>Wk fs v i) vs 0<;>rfl
 ·rw [dF d];rfl
def YF (first:Nat) (vs ks:List T12):List T12:=ks.take first++vs++ks.drop (first+vs.length)
theorem Bg (x:T0) (vs a:List T12) (first:Nat) (b:x.ZA=(first:Int)) (c:first+vs.length<=a.length) (h:a.length<=4194304):RE N x vs a=some (YF first vs a):=by
 unfold RE SR
 rw [Y8 (by simp;omega)]
 simp only [bS,List.nil_append]
 have d:Wj (some x.ZA) none a.length=some (first,a.length):=by
  unfold Wj
  rw [b]
  have e:decide ((0:Int)<=(first:Int))=true:=by simp
  have f:decide ((first:Int)<=(a.length:Int))=true:=by simp;omega
  simp only [Option.getD_some,Option.getD_none,e,f,Bool.and_true,Bool.true_and,cT]
  simp
 unfold lsl Vf
 rw [d]
 simp only [Option.map_some,bS]
 have g:min vs.length (a.length-first)=vs.length:=by omega
 rw [g,List.take_length];rfl
theorem Sk (first:Nat) (vs a:List T12) (b:first+vs.length<=a.length):(YF first vs a).length=a.length:=by
 unfold YF;simp;omega
theorem Vo (first:Nat) (vs a:List T12) (c:first+vs.length<=a.length) (i:Nat):(YF first vs a)[i]? = if first<=i/\i < first+vs.length then vs[i-first]? else a[i]? := by
 unfold YF
 have b:(a.take first).length=first:=by rw [List.length_take];omega
 by_cases d:i < first
 ·rw [if_neg (by omega),aA,Zn (by omega),List.getElem?_take,if_pos d]
 ·by_cases e:i < first+vs.length
  ·rw [if_pos ⟨by omega,e⟩,Zn (by rw [lA,b];omega),Zo (by omega),b]
  ·rw [if_neg (by omega),Zo (by rw [lA,b];omega),lA,b,List.getElem?_drop]
   congr 1;omega
theorem Pv {d:List T0} (b:XA d=true) {i:Nat} {x:T0} (e:d[i]? = some x):∃ first:Nat,x.ZA=(first:Int)/\first+x.Zz.length<=(Yh d).length/\d.length<=40/\(Yh d).length<=24/\WQ (Yh d) d x i=true:=by
 unfold XA at b
 simp only [Zc,decide_eq_true_eq] at b
 have ⟨g,h,f⟩:=b
 rw [XC] at f
 have a:=f i x e
 rw [Nat.zero_add] at a
 have c:=a
 unfold WQ at a
 simp only [Zc,decide_eq_true_eq] at a
 refine ⟨(Yh (d.take i)).length,a.2.2.1,?_,g,h,c⟩
 have:=Zdo e
 have:=Zdp d (i+1)
 omega
end
section
variable {N:Nat}
structure D8 (vs ks:List T12):Prop where
 v:∀ v∈vs,v.S.size<=4194304
 k:∀ v∈ks,v.S.size<=4194304
theorem UI {α:Type} {L:List α} {v:Int} {x:α} (h:Z5 L v=some x):∃ i:Nat,v=(i:Int)/\L[i]? = some x:=by
 have ⟨a,b⟩:=TL h
 obtain ⟨i,rfl⟩:=Ze a
 exact ⟨i,rfl,by rw [<- Yb];exact h⟩
theorem ZdJ (hN:4194304 < N) (d:List T0) (n:d.length<=1000) (o:∀ x∈d,XZ x) (p:∀ x∈d,TB x) (a:Int) (vs b:List T12) (q:vs.length<=4194304) (g:b.length<=4194304) (h:D8 vs b) :
  (Vj d a b=false/\RI N d a vs b=some ([],1))\/(Vj d a b=true/\∃ i x first,a=((i:Nat):Int)/\d[i]? = some x/\x.ZA=((first:Nat):Int)/\WQ (Yh d) d x i=true /\
   ((XK x.Zz vs=false/\RI N d a vs b=some ([],11))\/(XK x.Zz vs=true/\first+vs.length<=b.length/\RI N d a vs b=some (YF first vs b,0)))):=by
 unfold RI
 rw [Zd8 hN d n o p a b g h.k]
 cases c:Vj d a b with
 | false=>exact .inl ⟨rfl,rfl⟩
 | true =>
  right
  refine ⟨rfl,?_⟩
  have y:=c
  unfold Vj at c
  simp only [Zc,decide_eq_true_eq] at c
  obtain ⟨⟨s,t⟩,u,e⟩:=c
  have ⟨x,j⟩:=Xx s t
  obtain ⟨i,rfl,hi⟩:=UI j
  have ⟨first,l,A,B,C,w⟩:=Pv u hi
  refine ⟨i,x,first,rfl,hi,l,w,?_⟩
  simp only [bS,Zh,cond_false]
  rw [j]
  simp only [bS]
  rw [Zdn hN _ _ q h.v]
  cases f:XK x.Zz vs with
  | false=>exact .inl ⟨rfl,rfl⟩
  | true =>
   right
   have m:x.Zz.length=vs.length:=by
    unfold XK at f
    simp only [Zc,decide_eq_true_eq] at f
    exact f.1
   have z:(Yh d).length=b.length:=by
    unfold Ud at e
    simp only [Zc,decide_eq_true_eq] at e
    exact e.1
   refine ⟨rfl,by omega,?_⟩
   simp only [bS,Zh,cond_false]
   rw [Bg x vs b first l (by omega) g]
   rfl
end
section
variable {N:Nat}
def Xy (l:List T12) (x:Int):Int:=bif decide (x < 0) then 0 else match Z5 l x with
 | some v=>Yz v
 | none=>0
def Vc (l:List T12) (x:Int):Bool:=bif decide (x < 0) then false else match Z5 l x with
 | some v=>v.Zt==0
 | none=>true
def Vg (l:List T12) (d:T1):Bool := !(Vc l d.X) && (!(Vc l d.Y) && !(decide (Z1 (Xy l d.X-Xy l d.Y) > d.C)))
def VV (l:List T12) (e:Int × Int):Bool:=match Z5 l e.1 with
 | some a=>match Z5 l e.2 with
  | some b => !(a.Zt==0) && (!(b.Zt==0) && (a.S.toList==b.S.toList))
  | none=>false
 | none=>false
def XT (g:T6) (l:List T12):Bool:=Yw (fun d _=>Vg l d) g.Zw 0 && Yw (fun e _=>VV l e) g.Zy 0
structure WO (n:Nat) (g:T6):Prop where
 d:∀ d∈g.Zw,d.X < (n:Int)/\d.Y < (n:Int)
 e:∀ e∈g.Zy,(0<=e.1/\e.1 < (n:Int))/\(0<=e.2/\e.2 < (n:Int))
 dl:g.Zw.length<=20
 el:g.Zy.length<=20
theorem Zkw {a:List T4} {x:Int} (h:Xz a x=true):0<=x/\x < (a.length:Int):=by
 unfold Xz at h
 cases b:Z5 a x with
 | none=>rw [b] at h;cases h
 | some f=>exact TL b
theorem Zdx {a:List T4} {g:T6} (h:YJ a g=true):WO a.length g:=by
 unfold YJ at h
 simp only [Zc,decide_eq_true_eq] at h
 obtain ⟨⟨k,l⟩,b,c⟩:=h
 rw [XC] at b c
 refine ⟨fun d f=>?_,fun e j=>?_,k,l⟩
 ·have ⟨i,hi⟩:=List.mem_iff_getElem?.1 f
  have:=of_decide_eq_true (b i d hi)
  exact ⟨this.2.1,this.2.2.2.1⟩
 ·have ⟨i,hi⟩:=List.mem_iff_getElem?.1 j
  have:=c i e hi
  simp only [Zc] at this
  exact ⟨Zkw this.1,Zkw this.2⟩
theorem M7 (l:List T12) {x:Int} (b:x < (l.length:Int)):(decide (x < 0)=true/\decide (x>=0)=false/\Vc l x=false/\Xy l x=0) \/
  (decide (x < 0)=false/\decide (x>=0)=true/\∃ v,Z5 l x=some v/\Vc l x=(v.Zt==0)/\Xy l x=Yz v):=by
 by_cases h:x < 0
 ·left
  have e:decide (x < 0)=true:=dT h
  refine ⟨e,dF (by omega),?_,?_⟩
  ·unfold Vc;rw [e];rfl
  ·unfold Xy;rw [e];rfl
 ·right
  have e:decide (x < 0)=false:=dF h
  have ⟨v,a⟩:=Xx (L:=l) (v:=x) (by omega) b
  refine ⟨e,dT (by omega),v,a,?_,?_⟩
  ·unfold Vc;rw [e,a];rfl
  ·unfold Xy;rw [e,a];rfl
theorem ZoO (l:List T12) (k:Int) (ag:Int->Option Bool) (d:T1) (j:d.X < (l.length:Int)) (m:d.Y < (l.length:Int)) (n:Nat) :
  Tt N l k ag d (n+3) 0 0 0=bif Vg l d then ag (Z1 (k+1)) else some false:=by
 have o:Z1 ((0:Int)+1)=1:=rfl
 have w2:Z1 ((1:Int)+1)=2:=rfl
 have i0:Z5 ([d.X,d.Y]:List Int) 0=some d.X:=rfl
 have p:Z5 ([d.X,d.Y]:List Int) 1=some d.Y:=rfl
 have q:decide ((0:Int) < 2)=true:=rfl
 have d1:decide ((1:Int) < 2)=true:=rfl
 have s:decide ((2:Int) < 2)=false:=rfl
 have t:((0:Int)==0)=true:=rfl
 have u:((1:Int)==0)=false:=rfl
 have w:((1:Int)==1)=true:=rfl
 have g:∀ a b:Int,Tt N l k ag d (n+1) a b 2=bif !(decide (Z1 (a-b) > d.C)) then ag (Z1 (k+1)) else some false:=fun a b=>by
  rw [Tt,s]
  simp only [cond_false,Zca]
  cases decide (Z1 (a-b) > d.C)<;>rfl
 have h:∀ a:Int,Tt N l k ag d (n+2) a 0 1=bif !(Vc l d.Y) && !(decide (Z1 (a-Xy l d.Y) > d.C)) then ag (Z1 (k+1)) else some false:=fun a=>by
  rw [Tt,d1]
  simp only [cT,p,bS,w2]
  rcases M7 l m with ⟨c,_,e,f⟩ | ⟨c,_,v,i,e,f⟩
  ·rw [c,e,f]
   simp only [cT]
   rw [g]
   rfl
  ·rw [c,e,f,i]
   simp only [cond_false,bS]
   cases v.Zt==0 with
   | true=>rfl
   | false =>
    simp only [cond_false,R6,bS,u,w,cT]
    rw [g]
    rfl
 rw [Tt,q]
 simp only [cT,i0,bS,o]
 unfold Vg
 rcases M7 l j with ⟨c,_,e,f⟩ | ⟨c,_,v,i,e,f⟩
 ·rw [c,e,f]
  simp only [cT]
  rw [h]
  rfl
 ·rw [c,e,f,i]
  simp only [cond_false,bS]
  cases v.Zt==0 with
  | true=>rfl
  | false =>
   simp only [cond_false,R6,bS,t,cT]
   rw [h]
   rfl
theorem ZnE (hN:4194304 < N) (g:T6) (l:List T12) (d:WO l.length g):QF g l N (0:Int)=some (Yw (fun e _=>VV l e) g.Zy 0):=by
 have m:=d.el
 have h:=Xt (fun (e:Int × Int) _=>VV l e) (xs:=g.Zy) (F:=QF g l) (e:=some true) (n:=N) (by omega) (by
  intro n k e c f
  obtain ⟨⟨a1,a2⟩,a3,a4⟩:=d.e e (Zb f)
  have ⟨a,i⟩:=Xx (L:=l) a1 a2
  have ⟨b,j⟩:=Xx (L:=l) a3 a4
  rw [QF,Yo c,Ye (by omega)]
  simp only [cT,Yb,f,bS,i,j,VV]
  cases (a.Zt==0)<;>cases (b.Zt==0)<;>cases (a.S.toList==b.S.toList)<;>rfl) (by
  intro n k c
  rw [QF,Yp c];rfl)
 rw [h]
 cases Yw (fun (e:Int × Int) _=>VV l e) g.Zy 0<;>rfl
theorem Zdt (hN:4194304 < N) (g:T6) (l:List T12) (a:WO l.length g):He N g l=some (XT g l):=by
 have f:=a.dl
 have h:=Xt (fun (d:T1) _=>Vg l d) (xs:=g.Zw) (F:=SZ N g l) (e:=Zb9 N g l) (n:=N) (by omega) (by
  intro n k d b c
  have ⟨a1,a2⟩:=a.d d (Zb c)
  rw [SZ,Yo b]
  simp only [cT,Yb,c,bS]
  have:=ZoO (N:=N) l (k:Int) (SZ N g l n) d a1 a2 (N-3)
  rw [show N-3+3=N by omega] at this
  rw [this,Ye (by omega)]) (by
  intro n k b
  rw [SZ,Yp b];rfl)
 unfold He XT
 rw [h]
 cases Yw (fun (d:T1) _=>Vg l d) g.Zw 0 with
 | false=>rfl
 | true=>exact ZnE hN g l a
theorem ZoC (l:List T12) (k:Int) (ag:Int->Option Bool) (d:T1) (h:d.X < (l.length:Int)) (i:d.Y < (l.length:Int)) :
  Hj l k ag d (Xy l d.X) (Xy l d.Y)=bif Vg l d then ag (Z1 (k+1)) else some false:=by
 unfold Hj Vg
 rcases M7 l h with ⟨_,a,b,_⟩ | ⟨_,a,v,f,b,_⟩<;>rcases M7 l i with ⟨_,c,e,_⟩ | ⟨_,c,u,g,e,_⟩
 ·rw [a,c,b,e]
  cases decide (Z1 (Xy l d.X-Xy l d.Y) > d.C)<;>rfl
 ·rw [a,c,b,e,g]
  simp only [cond_false,cT,bS]
  cases u.Zt==0<;>cases decide (Z1 (Xy l d.X-Xy l d.Y) > d.C)<;>rfl
 ·rw [a,c,b,e,f]
  simp only [cond_false,cT,bS]
  cases v.Zt==0<;>cases decide (Z1 (Xy l d.X-Xy l d.Y) > d.C)<;>rfl
 ·rw [a,c,b,e,f,g]
  simp only [cond_false,cT,bS]
  cases v.Zt==0<;>cases u.Zt==0<;>cases decide (Z1 (Xy l d.X-Xy l d.Y) > d.C)<;>rfl
theorem ZoD (l:List T12) (k:Int) (ag:Int->Option Bool) (d:T1) (e:d.X < (l.length:Int)) (c:d.Y < (l.length:Int)) :
  Hk N l k ag d (Xy l d.X)=bif Vg l d then ag (Z1 (k+1)) else some false:=by
 unfold Hk
 have:=ZoC l k ag d e c
 rcases M7 l c with ⟨_,a,_,b⟩ | ⟨_,a,u,f,_,b⟩
 ·rw [a];rw [b] at this;exact this
 ·rw [a,f];rw [b] at this
  simp only [cT,bS,Pm]
  exact this
theorem Zix (hN:4194304 < N) (g:T6) (l:List T12) (i:WO l.length g):Hh N g l=some (XT g l):=by
 have v:=i.dl
 have w:=i.el
 have x:=Xt (fun (e:Int × Int) _=>VV l e) (xs:=g.Zy) (F:=QJ g l) (e:=some true) (n:=N) (by omega) (by
  intro n k e f o
  obtain ⟨⟨a1,a2⟩,a3,a4⟩:=i.e e (Zb o)
  have ⟨a,q⟩:=Xx (L:=l) a1 a2
  have ⟨b,s⟩:=Xx (L:=l) a3 a4
  rw [QJ,Yo f,Ye (by omega)]
  simp only [cT,Yb,o,bS,q,s,VV]
  cases (a.Zt==0)<;>cases (b.Zt==0)<;>cases (a.S.toList==b.S.toList)<;>rfl) (by
  intro n k f
  rw [QJ,Yp f];rfl)
 have h:=Xt (fun (d:T1) _=>Vg l d) (xs:=g.Zw) (F:=Sd N g l) (e:=Zcf N g l) (n:=N) (by omega) (by
  intro n k d f p
  have ⟨a1,a2⟩:=i.d d (Zb p)
  have c:=ZoD (N:=N) l (k:Int) (Sd N g l n) d a1 a2
  rw [Ye (by omega)] at c
  rw [Sd,Yo f]
  simp only [cT,Yb,p,bS]
  rcases M7 l a1 with ⟨_,j,_,m⟩ | ⟨_,j,u,t,_,m⟩
  ·rw [j];rw [m] at c;exact c
  ·rw [j,t];rw [m] at c
   simp only [cT,bS,Pm]
   exact c) (by
  intro n k f
  rw [Sd,Yp f];rfl)
 unfold Hh XT
 rw [h]
 cases Yw (fun (d:T1) _=>Vg l d) g.Zw 0 with
 | false=>rfl
 | true =>
  show QJ g l N (0:Int)=_
  rw [x]
  cases Yw (fun (e:Int × Int) _=>VV l e) g.Zy 0<;>rfl
def WJ (d:List T0) (label:Int) (vs ks:List T12):Bool:=Vj d label ks && (match Z5 d label with
 | some x=>XK x.Zz vs && XT x.ZB (YF x.ZA.toNat vs ks)
 | none=>false)
theorem HI {a:List T4} {d:List T0} {x:T0} {i:Nat} (h:WQ a d x i=true):YJ a x.ZB=true:=by
 unfold WQ at h
 simp only [Zc] at h
 exact h.2.2.2.2.2
theorem ZdG {a:List T4} {b:List T12} (h:Ud a b=true):a.length=b.length:=by
 unfold Ud at h
 simp only [Zc,decide_eq_true_eq] at h
 exact h.1
theorem HF {a:List T4} {b:List T12} (h:XK a b=true):a.length=b.length:=by
 unfold XK at h
 simp only [Zc,decide_eq_true_eq] at h
 exact h.1
theorem ZcV (hN:4194304 < N) (d:List T0) (h:d.length<=1000) (j:∀ x∈d,XZ x) (l:∀ x∈d,TB x) (a:Int) (vs b:List T12) (m:vs.length<=4194304) (e:b.length<=4194304) (f:D8 vs b) :
  L4 N d a vs b=some (WJ d a vs b):=by
 unfold L4 WJ
 rw [Zd8 hN d h j l a b e f.k]
 cases c:Vj d a b with
 | false=>rfl
 | true =>
  unfold Vj at c
  simp only [Zc,decide_eq_true_eq] at c
  obtain ⟨⟨n,o⟩,p,q⟩:=c
  have ⟨x,g⟩:=Xx n o
  obtain ⟨i,rfl,hi⟩:=UI g
  have ⟨first,s,z,A,B,t⟩:=Pv p hi
  simp only [bS,Zh,cond_false]
  rw [g]
  simp only [bS]
  rw [Zdn hN _ _ m f.v]
  cases y:XK x.Zz vs with
  | false=>rfl
  | true =>
   have C:=HF y
   have u:=ZdG q
   simp only [bS,Zh,cond_false,Bool.true_and]
   rw [Bg x vs b first s (by omega) e]
   simp only [bS]
   have w:x.ZA.toNat=first:=by omega
   rw [w,Zdt hN x.ZB _ (by rw [Sk first vs b (by omega),<- u];exact Zdx (HI t))]
   rfl
end
end Gp
section
namespace Gp
open Go Go.Kx Gx
variable {N:Nat}
theorem Zkg {d:List T0} (a:XA d=true) {x:T0} (b:x∈d) {f:T4} (c:f∈x.Zz):f.Zv.Zt=1\/f.Zv.Zt=2:=by
 have ⟨i,hi⟩:=List.mem_iff_getElem?.1 b
 have ⟨first,_,_,_,_,h⟩:=Pv a hi
 unfold WQ at h
 simp only [Zc] at h
 have h:=h.2.2.2.2.1
 rw [XC] at h
 have ⟨k,e⟩:=List.mem_iff_getElem?.1 c
 have:=h k f e
 unfold U5 at this
 simp only [Zc,decide_eq_true_eq] at this
 have:=this.2.1
 unfold Xn at this
 rcases this with h | h
 ·exact .inl h.1
 ·exact .inr h.1
theorem Zsk {d:List T0} (c:XA d=true) {f:T4} (b:f∈Yh d):f.Zv.Zt=1\/f.Zv.Zt=2:=by
 unfold Yh at b
 have ⟨l,e,a⟩:=List.mem_flatten.1 b
 obtain ⟨x,g,rfl⟩:=List.mem_map.1 e
 exact Zkg c g a
theorem Zao (hN:4194304 < N) (d:List T0) (o:d.length<=1000) (l:∀ x∈d,XZ x) (p:XA d=true) (a:List T12) (t:a.length<=4194304) (q:∀ v∈a,v.S.size<=4194304) :
  z66 N d a=some (Ud (Yh d) a):=by
 unfold z66 Ud
 rw [Gg hN d o l]
 simp only [bS]
 rw [HM]
 by_cases c:(Yh d).length=a.length
 ·rw [dT c,dT c.symm]
  simp only [Zh,cond_false,Bool.true_and]
  have h:=Xt (fun (v:T12) i=>WT v || Wk (Yh d) v i) (xs:=a) (F:=QG N d a) (e:=some true) (n:=N) (by omega) (by
   intro n k x b m
   have j:k < (Yh d).length:=by omega
   have s:Ly N d (k:Int)=(Yh d)[k]? := Zh0 d (by omega) l d 0 N k rfl (by omega) j (by omega)
   obtain ⟨f,g⟩:∃ f,(Yh d)[k]? = some f:=⟨(Yh d)[k],by simp [j]⟩
   rw [QG,Yo b,Ye (by omega),s,g]
   simp only [cT,Yb,m,bS,g,Wk]
   rw [ZjB hN _ (Zsk p (Zb g)) _ (q x (Zb m))]
   show (bif !(WT x) then _ else _)=_
   cases WT x<;>cases XW f.Zv x<;>rfl) (by
   intro n k b
   rw [QG,Yp b];rfl)
  rw [h]
  cases Yw (fun (v:T12) i=>WT v || Wk (Yh d) v i) a 0<;>rfl
 ·rw [dF c,dF (fun e=>c e.symm)];rfl
theorem Zrk (hN:4194304 < N) (x:T0) (m:XZ x) (d:∀ f∈x.Zz,f.Zv.Zt=1\/f.Zv.Zt=2) (vs:List T12) (u:vs.length<=4194304) (o:∀ v∈vs,v.S.size<=4194304):z70 N x vs=some (XK x.Zz vs):=by
 have s:=m.f
 have key:∀ (r:List T12) (n k:Nat),vs.drop k=r->r.length < n->k<=x.Zz.length->QI N x vs n (k:Int)=some (decide (x.Zz.length=vs.length) && Yw (fun v i=>Wk x.Zz v i) r k) \/
   (QI N x vs n (k:Int)=some false/\(decide (x.Zz.length=vs.length) && Yw (fun v i=>Wk x.Zz v i) r k)=false):=by
  intro r
  induction r with
  | nil =>
   intro n k h b j
   obtain ⟨n,rfl⟩:=pS n (by simp at b;omega)
   left
   rw [QI,Yp (Xr h)]
   simp only [cond_false,Hg,Yw,Bool.and_true]
   congr 1
   by_cases c:x.Zz.length=vs.length
   ·rw [dT c,c];simp
   ·rw [dF c,beq_eq_false_iff_ne];omega
  | cons v r t =>
   intro n k h b j
   obtain ⟨n,rfl⟩:=pS n (by simp at b;omega)
   have ⟨p,a,q⟩:=Xp h
   simp only [Zg] at b
   rw [QI,Yo p,Ye (by omega)]
   by_cases c:k < x.Zz.length
   ·obtain ⟨f,g⟩:∃ f,x.Zz[k]? = some f:=⟨x.Zz[k],by simp [c]⟩
    rw [Yo c]
    simp only [cT,Yb,g,a,bS]
    rw [ZjB hN _ (d f (Zb g)) _ (o v (Zb a))]
    have e:Yw (fun v i=>Wk x.Zz v i) (v::r) k=(XW f.Zv v && Yw (fun v i=>Wk x.Zz v i) r (k+1)):=by
     show (Wk x.Zz v k && _)=_
     unfold Wk;rw [g]
    rw [e]
    cases XW f.Zv v with
    | false=>right;exact ⟨rfl,by simp⟩
    | true =>
     simp only [bS,Zh,cond_false,Bool.true_and]
     exact t n (k+1) q (by omega) (by omega)
   ·rw [Yp (by omega)]
    have l:¬ x.Zz.length=vs.length:=by omega
    right
    simp only [cT,cond_false,Hg]
    refine ⟨?_,by rw [dF l];rfl⟩
    congr 1
    rw [beq_eq_false_iff_ne];omega
 unfold z70 XK
 rcases key vs N 0 rfl (by omega) (by omega) with h | ⟨h,a⟩
 ·exact h
 ·rw [a];exact h
theorem ZiE (hN:4194304 < N) (x:T0) (vs a:List T12) (first:Nat) (p:x.ZA=(first:Int)) (q:first+vs.length<=a.length) (B:a.length<=4194304):z72 N x vs a=some (YF first vs a):=by
 have key:∀ (r:List T12) (n k:Nat),vs.drop k=r->r.length < n->k<=vs.length->Mi x vs n (YF first (vs.take k) a) (k:Int)=some (YF first vs a):=by
  intro r
  induction r with
  | nil =>
   intro n k h d f
   obtain ⟨n,rfl⟩:=pS n (by simp at d;omega)
   rw [Mi,Yp (Xr h)]
   have:vs.take k=vs:=List.take_of_length_le (Xr h)
   rw [this];rfl
  | cons v r A =>
   intro n k h d f
   obtain ⟨n,rfl⟩:=pS n (by simp at d;omega)
   have ⟨s,j,t⟩:=Xp h
   simp only [Zg] at d
   have y:Z1 (x.ZA+(k:Int))=((first+k:Nat):Int):=by rw [p,YE (by omega) (by omega)];omega
   have b:(vs.take k).length=k:=by rw [List.length_take];omega
   rw [Mi,Yo s,Ye (by omega),y]
   simp only [cT,Yb,j,bS]
   have l:=Vo first (vs.take k) a (by rw [b];omega) (first+k)
   rw [b,if_neg (by omega)] at l
   obtain ⟨u,w⟩:∃ u,a[first+k]? = some u:=⟨a[first+k]'(by omega),by simp⟩
   rw [l,w]
   simp only [bS,XE]
   have e:(YF first (vs.take k) a).set (first+k) v=YF first (vs.take (k+1)) a:=by
    apply List.ext_getElem?
    intro i
    have g:=Sk first (vs.take k) a (by rw [b];omega)
    have c:(vs.take (k+1)).length=k+1:=by rw [List.length_take];omega
    rw [List.getElem?_set,Vo first (vs.take (k+1)) a (by rw [c];omega),Vo first (vs.take k) a (by rw [b];omega),b,c,g]
    by_cases m:first+k=i
    ·subst m
     rw [if_pos rfl,if_pos (by omega),if_pos (by omega)]
     rw [show first+k-first=k by omega,List.getElem?_take,if_pos (by omega),j]
    ·rw [if_neg m]
     by_cases o:first<=i/\i < first+k
     ·rw [if_pos o,if_pos (by omega),List.getElem?_take,List.getElem?_take,if_pos (by omega),if_pos (by omega)]
     ·rw [if_neg o,if_neg (by omega)]
   rw [e]
   exact A n (k+1) t (by omega) (by omega)
 unfold z72
 rw [Y8 (by simp;omega)]
 simp only [bS,List.nil_append]
 have z:YF first (vs.take 0) a=a:=by unfold YF;simp
 have:=key vs N 0 rfl (by omega) (by omega)
 rw [z] at this
 exact this
end Gp
end
end
namespace Gp
open Go Go.Kx Gx
section
variable {N:Nat}
theorem Zn8 (hN:4194304 < N) (g:T5) (a:VP g) (f:Uo g):∃ b,Mq N g=some b/\(b=true->XA g.ZJ=true):=by
 unfold Mq
 rw [Zi1 hN g a f,Zi8 hN g a.e,ZhB hN g.ZJ a.d a.dd f.d,Zje hN g a.e,Zkx hN g a.t]
 simp only [bS]
 cases y:Pi g
 ·exact ⟨false,by simp,fun h=>by cases h⟩
 cases c:Uf g
 ·exact ⟨false,by simp,fun h=>by cases h⟩
 cases z:XA g.ZJ
 ·exact ⟨false,by simp,fun h=>by cases h⟩
 rw [Zjd]
 have ⟨u,v,i,j,k,l,w⟩:=HS c
 have ⟨F,m,n⟩:=Zaw hN g c false g.ZM i j
 have ⟨L,o,p⟩:=Zaw hN g c true g.ZN k l
 rw [m,o]
 have q:=Bp hN F (by rw [n.len];omega) (-1)
 have s:=Bp hN L (by rw [p.len];omega) (-1)
 simp only [bS,q,s]
 cases QX g<;>cases (g.ZO.all fun x => !(x.ZC==g.ZN))<;>cases Pu g<;>cases (F.any fun d=>d==-1)<;>cases (L.any fun d=>d==-1)<;>exact ⟨_,rfl,fun _=>by first | trivial | rfl⟩
end
section
variable {N:Nat}
def UO (m:T8) (n:Int):Bool:=decide (n>=0) && decide (n < m.ZL)
theorem Zkn (m:T8) (n:Int):z173 N m n=some (UO m n):=by
 unfold z173 UO
 cases decide (n>=0)<;>rfl
def moveM (m:T8) (x:T9):Bool:=UO m x.ZC && (UO m x.To && (!decide (x.ZR < 0) && (!decide (x.ZR>=6) && (!(x.ZR==m.ZS) && (!decide (x.ZD < 0) && !decide (x.ZD>=40))))))
def R5 (m:T8):Bool := !decide (m.ZS < 0) && (!decide (m.ZS>=6) && (!decide (m.ZL < 1) && (!decide (m.ZL > 200) && (UO m m.ZM && (!((m.ZT.length:Int) != m.ZL) && (!decide ((m.ZU.length:Int) > 400) && Yw (fun x _=>moveM m x) m.ZU 0))))))
theorem ZdQ (hN:4194304 < N) (m:T8):GD N m=some (R5 m):=by
 unfold GD R5
 rw [Zkn]
 cases decide (m.ZS < 0)
 case true=>rfl
 cases decide (m.ZS>=6)
 case true=>rfl
 cases decide (m.ZL < 1)
 case true=>rfl
 cases decide (m.ZL > 200)
 case true=>rfl
 cases UO m m.ZM
 case false=>rfl
 cases ((m.ZT.length:Int) != m.ZL)
 case true=>rfl
 cases h:decide ((m.ZU.length:Int) > 400)
 case true=>rfl
 simp only [decide_eq_false_iff_not] at h
 have:=Xt (fun (x:T9) _=>moveM m x) (xs:=m.ZU) (F:=Qf N m) (e:=some true) (n:=N) (by omega) (by
  intro n k x a b
  rw [Qf,Yo a,Ye (by omega)]
  simp only [cT,Yb,b,bS,Zkn]
  unfold moveM
  cases UO m x.ZC
  case false=>rfl
  cases UO m x.To
  case false=>rfl
  cases decide (x.ZR < 0)
  case true=>rfl
  cases decide (x.ZR>=6)
  case true=>rfl
  cases (x.ZR==m.ZS)
  case true=>rfl
  cases decide (x.ZD < 0)
  case true=>rfl
  cases decide (x.ZD>=40)<;>rfl) (by
  intro n k a
  rw [Qf,Yp a]
  rfl)
 show Qf N m N 0=_
 rw [this]
 cases Yw (fun (x:T9) _=>moveM m x) m.ZU 0<;>rfl
structure Wv (m:T8):Prop where
 r0:0<=m.ZS
 r1:m.ZS < 6
 s0:1<=m.ZL
 s1:m.ZL<=200
 b0:0<=m.ZM
 b1:m.ZM < m.ZL
 f:(m.ZT.length:Int)=m.ZL
 n:m.ZU.length<=400
 mv:∀ x∈m.ZU,(0<=x.ZC/\x.ZC < m.ZL)/\(0<=x.To/\x.To < m.ZL)/\(0<=x.ZR/\x.ZR < 6)/\x.ZR≠m.ZS/\0<=x.ZD/\x.ZD < 40
theorem ZdX (m:T8):R5 m=true↔Wv m:=by
 unfold R5 UO
 simp only [Zc,Bool.not_eq_true',decide_eq_false_iff_not,decide_eq_true_eq,bne_eq_false_iff_eq,XC]
 constructor
 ·rintro ⟨k,l,o,p,⟨q,c⟩,d,s,e⟩
  refine ⟨by omega,by omega,by omega,by omega,by omega,c,d,by omega,fun x a=>?_⟩
  have ⟨i,hi⟩:=List.getElem?_of_mem a
  have:=e i x hi
  unfold moveM UO at this
  simp only [Zc,Bool.not_eq_true',decide_eq_false_iff_not,decide_eq_true_eq,beq_eq_false_iff_ne,ne_eq] at this
  obtain ⟨⟨a1,a2⟩,⟨a3,a4⟩,a5,g,b,j,a9⟩:=this
  exact ⟨⟨by omega,a2⟩,⟨by omega,a4⟩,⟨by omega,by omega⟩,b,by omega,by omega⟩
 ·intro h
  have:=h.n
  refine ⟨by have:=h.r0;omega,by have:=h.r1;omega,by have:=h.s0;omega,by have:=h.s1;omega,⟨by have:=h.b0;omega,h.b1⟩,h.f,by omega,fun i x a=>?_⟩
  obtain ⟨⟨a1,a2⟩,⟨a3,a4⟩,⟨a5,g⟩,b,j,a9⟩:=h.mv x (Zb a)
  unfold moveM UO
  simp only [Zc,Bool.not_eq_true',decide_eq_false_iff_not,decide_eq_true_eq,beq_eq_false_iff_ne,ne_eq]
  exact ⟨⟨by omega,a2⟩,⟨by omega,a4⟩,by omega,by omega,b,by omega,by omega⟩
def cI (x y:Int):Int:=bif decide (x < y) then -1 else bif decide (x > y) then 1 else 0
def Sl (x y:T9):Int:=bif !(x.ZQ==y.ZQ) then (bif x.ZQ then -1 else 1) else bif (cI x.ZR y.ZR != 0) then cI x.ZR y.ZR else bif (cI x.ZD y.ZD != 0) then cI x.ZD y.ZD else 0
theorem RQ (x y:Int):Rz N x y=some (cI x y):=by
 unfold Rz DB cI
 simp only [bS,bne_self_eq_false,cond_false]
 cases decide (x < y)<;>cases decide (x > y)<;>rfl
theorem Zqn (hN:4194304 < N) (a b:Int):SN N [a,b]=some (bif (a != 0) then a else bif (b != 0) then b else 0):=by
 obtain ⟨n,rfl⟩:∃ n,N=n+3:=⟨N-3,by omega⟩
 unfold SN
 rw [VN,VN,VN]
 have w0:Z1 ((0:Int)+1)=1:=by decide
 have c:Z1 ((1:Int)+1)=2:=by decide
 rw [w0,c]
 have i0:Z5 [a,b] 0=some a:=rfl
 have d:Z5 [a,b] 1=some b:=rfl
 rw [i0,d]
 have l0:decide ((0:Int) < (([a,b]:List Int).length:Int))=true:=rfl
 have e:decide ((1:Int) < (([a,b]:List Int).length:Int))=true:=rfl
 have f:decide ((2:Int) < (([a,b]:List Int).length:Int))=false:=rfl
 rw [l0,e,f]
 simp only [cT,cond_false,bS]
 cases (a != 0)<;>cases (b != 0)<;>rfl
theorem Znv (hN:4194304 < N) (x y:T9):Db N ⟨x.ZQ,x.ZR,x.ZD⟩ ⟨y.ZQ,y.ZR,y.ZD⟩=some (Sl x y):=by
 unfold Db Sl
 rw [RQ,RQ]
 simp only [bS,Zqn hN]
 cases (x.ZQ==y.ZQ)
 ·cases x.ZQ<;>rfl
 ·cases (cI x.ZR y.ZR != 0)<;>cases (cI x.ZD y.ZD != 0)<;>rfl
def Wq (x y:T9):Prop:=(x.ZQ=true/\y.ZQ=false)\/(x.ZQ=y.ZQ/\(x.ZR < y.ZR\/(x.ZR=y.ZR/\x.ZD < y.ZD)))
theorem MB (x y:Int):(x < y/\cI x y=-1)\/(x > y/\cI x y=1)\/(x=y/\cI x y=0):=by
 unfold cI
 by_cases a:x < y
 ·exact .inl ⟨a,by rw [dT a];rfl⟩
 ·by_cases b:x > y
  ·exact .inr (.inl ⟨b,by rw [dF a,dT b];rfl⟩)
  ·exact .inr (.inr ⟨by omega,by rw [dF a,dF b];rfl⟩)
theorem ZgY (x y:T9):Sl x y < 0↔Wq x y:=by
 unfold Sl Wq
 rcases MB x.ZR y.ZR with ⟨p,a⟩ | ⟨p,a⟩ | ⟨p,a⟩<;>rcases MB x.ZD y.ZD with ⟨q,b⟩ | ⟨q,b⟩ | ⟨q,b⟩<;>rw [a,b] <;>
  cases x.ZQ<;>cases y.ZQ<;>simp<;>omega
theorem ZcY (x y:T9):Sl x y=0↔x.ZQ=y.ZQ/\x.ZR=y.ZR/\x.ZD=y.ZD:=by
 unfold Sl
 rcases MB x.ZR y.ZR with ⟨p,a⟩ | ⟨p,a⟩ | ⟨p,a⟩<;>rcases MB x.ZD y.ZD with ⟨q,b⟩ | ⟨q,b⟩ | ⟨q,b⟩<;>rw [a,b] <;>
  cases x.ZQ<;>cases y.ZQ<;>simp<;>omega
theorem ZgX (hN:4194304 < N) (m:T8) {i k:Nat} {x y:T9} (hi:m.ZU[i]? = some x) (a:m.ZU[k]? = some y):PR N (i:Int) (k:Int) m=some (Sl x y):=by
 unfold PR
 simp only [Yb,hi,a,bS,Ry,Znv hN]
end
section
variable {N:Nat}
def Sp (m:T8) (s k:Nat):Bool:=match m.ZU[k]? with
 | some x=>x.ZC==(s:Int)
 | none=>false
def XF (m:T8) (n s:Nat):List Int:=((List.range n).filter (Sp m s)).map fun (k:Nat)=>(k:Int)
theorem Zij (m:T8) (n s:Nat):XF m (n+1) s=XF m n s++(if Sp m s n=true then [(n:Int)] else []):=by
 unfold XF
 rw [List.range_succ,List.filter_append,List.map_append]
 congr 1
 by_cases h:Sp m s n=true
 ·simp [h]
 ·simp [h]
theorem BO {m:T8} {n s:Nat} {i:Int} (h:i∈XF m n s):∃ k x,i=((k:Nat):Int)/\k < n/\m.ZU[k]? = some x/\x.ZC=(s:Int):=by
 unfold XF at h
 obtain ⟨k,b,rfl⟩:=List.mem_map.1 h
 have ⟨c,a⟩:=List.mem_filter.1 b
 unfold Sp at a
 split at a
 ·rename_i x d;exact ⟨k,x,rfl,List.mem_range.1 c,d,eq_of_beq a⟩
 ·cases a
theorem Zox {m:T8} {n s k:Nat} {x:T9} (a:k < n) (b:m.ZU[k]? = some x) (c:x.ZC=(s:Int)):(k:Int)∈XF m n s:=by
 unfold XF
 refine List.mem_map.2 ⟨k,List.mem_filter.2 ⟨List.mem_range.2 a,?_⟩,rfl⟩
 unfold Sp
 rw [b]
 show (x.ZC==(s:Int))=true
 rw [c];simp
theorem BN (m:T8) (n s:Nat):(XF m n s).length<=n:=by
 unfold XF
 rw [List.length_map]
 have:=List.length_filter_le (Sp m s) (List.range n)
 rw [List.length_range] at this
 exact this
def TH (N:Nat) (m:T8):Int->Int->Int:=WK N m
theorem ZmM (hN:4194304 < N) (m:T8) {i k:Nat} {x y:T9} (hi:m.ZU[i]? = some x) (a:m.ZU[k]? = some y):TH N m (i:Int) (k:Int)=Sl x y:=by
 unfold TH WK
 rw [ZgX hN m hi a];rfl
theorem ZiJ (x:T9):¬ Wq x x:=by
 unfold Wq
 cases x.ZQ<;>simp
theorem BZ {x y z:T9} (a:Wq x y) (b:Wq y z):Wq x z:=by
 unfold Wq at *
 revert a b
 cases x.ZQ<;>cases y.ZQ<;>cases z.ZQ<;>simp<;>omega
theorem Zo8 {x y z:T9} (a:¬ Wq x y) (b:¬ Wq y z):¬ Wq x z:=by
 unfold Wq at *
 revert a b
 cases x.ZQ<;>cases y.ZQ<;>cases z.ZQ<;>simp<;>omega
theorem Zjc (hN:4194304 < N) (m:T8) (n s:Nat) (E:n<=m.ZU.length) (e:n<=4194304):HP N m (XF m n s)=true:=by
 unfold HP
 have v:∀ a b,a∈XF m n s->b∈XF m n s->∃ x y,PR N a b m=some (Sl x y)/\m.ZU[a.toNat]? = some x/\m.ZU[b.toNat]? = some y:=fun a b d e=>by
  obtain ⟨k,x,rfl,_,f,_⟩:=BO d
  obtain ⟨l,y,rfl,_,g,_⟩:=BO e
  exact ⟨x,y,ZgX hN m f g,by simpa using f,by simpa using g⟩
 have p:∀ a b x y,a∈XF m n s->b∈XF m n s->m.ZU[a.toNat]? = some x->m.ZU[b.toNat]? = some y->(decide (WK N m a b < 0)=true↔Wq x y):=fun a b x y d e f g=>by
  have ⟨F,G,h,j,o⟩:=v a b d e
  rw [f] at j;rw [g] at o
  cases j;cases o
  unfold WK
  rw [h,decide_eq_true_eq]
  exact ZgY x y
 have w:∀ a,a∈XF m n s->∃ x,m.ZU[a.toNat]? = some x:=fun a d=>by have ⟨x,_,_,h,_⟩:=v a a d d;exact ⟨x,h⟩
 rw [Zc,Zc]
 refine ⟨List.all_eq_true.2 fun a d=>List.all_eq_true.2 fun b e=>?_,?_,?_⟩
 ·have ⟨x,y,h,_⟩:=v a b d e
  rw [h];rfl
 ·unfold Gd
  refine List.all_eq_true.2 fun a d=>?_
  have ⟨x,f⟩:=w a d
  rw [Zc]
  refine ⟨?_,List.all_eq_true.2 fun b e=>List.all_eq_true.2 fun c i=>?_⟩
  ·have:=p a a x x d d f f
   show (!decide (WK N m a a < 0))=true
   cases D:decide (WK N m a a < 0)
   ·rfl
   ·exact absurd (this.1 D) (ZiJ x)
  ·have ⟨y,g⟩:=w b e
   have ⟨z,A⟩:=w c i
   have q:=p a b x y d e f g
   have t:=p b c y z e i g A
   have u:=p a c x z d i f A
   show ((!(decide (WK N m a b < 0) && decide (WK N m b c < 0)) || decide (WK N m a c < 0)) && (decide (WK N m a b < 0) || decide (WK N m b c < 0) || !decide (WK N m a c < 0)))=true
   cases d1:decide (WK N m a b < 0)<;>cases B:decide (WK N m b c < 0)<;>cases C:decide (WK N m a c < 0)<;>try rfl
   ·exfalso
    rw [d1] at q;rw [B] at t;rw [C] at u
    exact Zo8 (fun h=>by have:=q.2 h;cases this) (fun h=>by have:=t.2 h;cases this) (u.1 rfl)
   ·exfalso
    rw [d1] at q;rw [B] at t;rw [C] at u
    have:=u.2 (BZ (q.1 rfl) (t.1 rfl))
    cases this
 ·rw [decide_eq_true_eq]
  have:=BN m n s
  omega
def VH (m:T8) (n:Nat):List (List Int):=(List.range m.ZL.toNat).map (XF m n)
theorem Zd2 (m:T8) (n s:Nat) (a:s < m.ZL.toNat):(VH m n)[s]? = some (XF m n s):=by
 unfold VH
 rw [List.getElem?_map,List.getElem?_range a];rfl
theorem ZnU (hN:4194304 < N) (m:T8) (l:Wv m):∀ (r:List T9) (n k:Nat),m.ZU.drop k=r->r.length < n->Qg N m n (VH m k) (k:Int)=SB N m N (VH m m.ZU.length) 0:=by
  intro r
  induction r with
  | nil =>
    intro n k a b
    have c:m.ZU.length<=k:=List.drop_eq_nil_iff.1 a
    obtain ⟨n,rfl⟩:=pS n (by simp at b;omega)
    rw [Qg,Yp c]
    show SB N m N (VH m k) 0=_
    congr 1
    unfold VH
    refine List.map_congr_left fun s _=>?_
    obtain ⟨d,rfl⟩:=Nat.le.dest c
    clear a c b
    induction d with
    | zero=>rfl
    | succ d i =>
      rw [show m.ZU.length+(d+1)=m.ZU.length+d+1 by omega,Zij,i]
      have:Sp m s (m.ZU.length+d)=false:=by
        unfold Sp
        rw [List.getElem?_eq_none (by omega)]
      rw [this];simp
  | cons x r i =>
    intro n k a b
    obtain ⟨n,rfl⟩:=pS n (by simp at b;omega)
    have c:k < m.ZU.length:=by
      refine Nat.not_le.1 fun h=>?_
      rw [List.drop_eq_nil_iff.2 h] at a;cases a
    have g:m.ZU[k]? = some x:=by
      have:=congrArg (·[0]?) a
      simpa using this
    have t:=l.n
    obtain ⟨⟨q,w⟩,_⟩:=l.mv x (Zb g)
    have ⟨j,o⟩:=Ze q
    have f:j < m.ZL.toNat:=by omega
    rw [Qg,Yo c,Yb,g,Ye (by omega)]
    simp only [cT,bS]
    rw [o,Yb,Zd2 m k j f]
    simp only [bS]
    rw [Y8 (by have:=BN m k j;simp;omega)]
    simp only [bS,Int.toNat_natCast]
    have e:(VH m k).set j (XF m k j++[(k:Int)])=VH m (k+1):=by
      apply List.ext_getElem?
      intro s
      rw [List.getElem?_set]
      by_cases p:s < m.ZL.toNat
      · rw [Zd2 m (k+1) s p,Zij]
        have u:Sp m s k=decide (j=s):=by
          unfold Sp
          rw [g]
          show (x.ZC==(s:Int))=_
          rw [o]
          by_cases e:j=s
          · subst e;simp
          · simp [e];omega
        rw [u]
        by_cases e:j=s
        · subst e
          have:j < (VH m k).length:=by unfold VH;simpa using f
          simp [this]
        · simp only [e,if_false,decide_false,Bool.false_eq_true,List.append_nil]
          exact Zd2 m k s p
      · have v:(VH m (k+1))[s]? = none:=by unfold VH;rw [List.getElem?_eq_none];simp;omega
        rw [v]
        have:¬ j=s:=by omega
        simp only [this,if_false]
        unfold VH;rw [List.getElem?_eq_none];simp;omega
    rw [e]
    refine i n (k+1) ?_ (by simp at b;omega)
    have:=congrArg (List.drop 1) a
    simpa [List.drop_drop,Nat.add_comm] using this
def Ux (N:Nat) (m:T8) (j:Nat):List (List Int):=(List.range m.ZL.toNat).map fun s=>bif decide (s < j) then WR (TH N m) (XF m m.ZU.length s) else XF m m.ZU.length s
def WG (N:Nat) (m:T8):List (List Int):=(List.range m.ZL.toNat).map fun s=>WR (TH N m) (XF m m.ZU.length s)
theorem Zsn (hN:4194304 < N) (m:T8) (f:Wv m):∀ (d n j:Nat),m.ZL.toNat-j=d->d < n->SB N m n (Ux N m j) (j:Int)=some ⟨m,WG N m⟩:=by
 intro d
 have a:∀ j,(Ux N m j).length=m.ZL.toNat:=fun j=>by unfold Ux;simp
 have o:=f.s1
 have p:=f.n
 induction d with
 | zero =>
  intro n j k l
  obtain ⟨n,rfl⟩:=pS n (by omega)
  rw [SB,Yp (by rw [a];omega)]
  show some (⟨m,Ux N m j⟩:Xw)=_
  congr 2
  unfold Ux WG
  refine List.map_congr_left fun s b=>?_
  have:=List.mem_range.1 b
  rw [dT (by omega:s < j)];rfl
 | succ d u =>
  intro n j k l
  obtain ⟨n,rfl⟩:=pS n (by omega)
  have c:j < m.ZL.toNat:=by omega
  have t:(Ux N m j)[j]? = some (XF m m.ZU.length j):=by
   unfold Ux
   rw [List.getElem?_map,List.getElem?_range c]
   simp
  rw [SB,Yo (by rw [a];exact c),Yb,t,Ye (by omega)]
  simp only [cT,bS,Zjc hN m m.ZU.length j (Zp _) (by omega),Int.toNat_natCast]
  have e:(Ux N m j).set j (WR (WK N m) (XF m m.ZU.length j))=Ux N m (j+1):=by
   apply List.ext_getElem?
   intro s
   rw [List.getElem?_set]
   by_cases b:s < m.ZL.toNat
   ·have g:∀ q,(Ux N m q)[s]? = some (bif decide (s < q) then WR (TH N m) (XF m m.ZU.length s) else XF m m.ZU.length s):=fun q=>by
     unfold Ux;rw [List.getElem?_map,List.getElem?_range b];rfl
    rw [g,g]
    by_cases e:j=s
    ·subst e
     rw [dT (Nat.lt_succ_self _)]
     simp [a,c,TH]
    ·simp only [e,if_false]
     by_cases h:s < j
     ·rw [dT h,dT (by omega:s < j+1)]
     ·rw [dF h,dF (by omega:¬ s < j+1)]
   ·have i:∀ q,(Ux N m q)[s]? = none:=fun q=>by rw [List.getElem?_eq_none];rw [a];omega
    rw [i,i]
    have:¬ j=s:=by omega
    simp only [this,if_false]
  rw [e]
  exact u n (j+1) (by omega) (by omega)
theorem ZdR (hN:4194304 < N) (m:T8) (a:Wv m):GF N m=some ⟨m,WG N m⟩:=by
 unfold GF
 have g:=a.s0
 have i:=a.s1
 have e:Xs () m.ZL m.ZL=some (List.replicate m.ZL.toNat ()):=by
  unfold Xs
  rw [dT (by omega:0<=m.ZL),dT (by omega:m.ZL<=m.ZL),dT (by omega:m.ZL<=4294967296)];rfl
 rw [e]
 simp only [bS,List.length_replicate]
 have c:(List.replicate m.ZL.toNat ()).isEmpty=false:=by
  rw [List.isEmpty_eq_false_iff]
  intro h
  have:=congrArg List.length h
  simp at this;omega
 rw [c]
 simp only [cond_false]
 have d:List.replicate m.ZL.toNat ([]:List Int)=VH m 0:=by
  unfold VH XF
  apply List.ext_getElem?
  intro s
  rw [List.getElem?_replicate,List.getElem?_map]
  by_cases b:s < m.ZL.toNat
  ·rw [if_pos b,List.getElem?_range b];rfl
  ·rw [if_neg b,List.getElem?_eq_none (by simpa using b)];rfl
 have:=ZnU hN m a m.ZU N 0 rfl (by have:=a.n;omega)
 rw [d]
 rw [show ((0:Nat):Int)=0 from rfl] at this
 rw [this]
 have f:VH m m.ZU.length=Ux N m 0:=by
  unfold VH Ux
  refine List.map_congr_left fun s _=>?_
  simp
 rw [f]
 exact Zsn hN m a m.ZL.toNat N 0 rfl (by omega)
theorem Zae (N:Nat) (m:T8) (s:Nat) (a:s < m.ZL.toNat):(WG N m)[s]? = some (WR (TH N m) (XF m m.ZU.length s)):=by
 unfold WG
 rw [List.getElem?_map,List.getElem?_range a];rfl
theorem Zd3 (N:Nat) (m:T8):(WG N m).length=m.ZL.toNat:=by unfold WG;simp
theorem Zaf (hN:4194304 < N) (m:T8) (c:Wv m) (s:Nat):(WR (TH N m) (XF m m.ZU.length s)).Perm (XF m m.ZU.length s) /\
  ∀ (i j:Nat) (a b:Int),i < j->(WR (TH N m) (XF m m.ZU.length s))[i]? = some a->(WR (TH N m) (XF m m.ZU.length s))[j]? = some b->¬ TH N m b a < 0:=by
 have h:=Zjc hN m m.ZU.length s (Zp _) (by have:=c.n;omega)
 unfold HP at h
 rw [Zc,Zc] at h
 exact Zsl _ _ (Zks h.2.1)
end
end Gp
