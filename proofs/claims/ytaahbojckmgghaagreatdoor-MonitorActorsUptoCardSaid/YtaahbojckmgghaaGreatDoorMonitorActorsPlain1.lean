/- The plain law, part 1: what the functions compute answers as the statement says. -/
import Derived.Lib.Bytealg
import Derived.Test.YtaahbojckmgghaaGreatDoorMonitorActorsPure
set_option linter.all false
section
section
namespace Gp
open Go Go.Kx
theorem dF {p:Prop} [Decidable p] (h:¬p):decide p=false:=decide_eq_false h
theorem dT {p:Prop} [Decidable p] (h:p):decide p=true:=decide_eq_true h
theorem bS {α β:Type _} (a:α) (f:α→Option β):(some a).bind f=f a:=rfl
theorem cT {α:Sort _} {a b:α}:(bif true then a else b)=a:=rfl
theorem aA {α:Type _} (a b c:List α):(a++b)++c=a++(b++c):=List.append_assoc a b c
theorem lA {α:Type _} {a b:List α}:(a++b).length=a.length+b.length:=List.length_append
theorem Ym {n:Int} (h1:-9223372036854775808≤n) (h2:n≤9223372036854775807):Zi n=n:=by
 show IntKind.i64.wrap n=n
 simp [IntKind.wrap,IntKind.signed,IntKind.bits]
 omega
theorem ZA {n:Nat} (h:n < 4611686018427387904):Zi ((n:Int)+1)=((n+1:Nat):Int):=by rw [Ym (by omega) (by omega)];omega
theorem Zs {α:Type} (xs:List α) (k:Nat):Zm xs (k:Int)=xs[k]? := by
 unfold Zm
 have:decide (0≤(k:Int))=true:=by simp
 rw [this];simp
theorem ZkZ {α:Type} {xs:List α} {i:Int} {k:Nat} (h:i=k):Zm xs i=xs[k]? := by rw [h,Zs]
theorem WH {α:Type} (xs:List α) (k:Nat) (e:α):ZW xs (k:Int) e=xs.set k e:=by unfold ZW;simp
theorem Zr7 {α:Type} {xs:List α} {i:Int} {k:Nat} (h:i=k) (e:α):ZW xs i e=xs.set k e:=by rw [h,WH]
theorem ZeP {α:Type} (A:List α) (x:α) (B:List α) {k:Nat} (h:A.length=k):(A++x::B)[k]? = some x:=by
 subst h;simp
theorem ZiB {α:Type} (A:List α) (x y:α) (B:List α) {k:Nat} (h:A.length=k):(A++x::B).set k y=A++y::B:=by
 subst h;simp
theorem Zdw {α:Type} {L A:List α} {x:α} {B:List α} {i:Int} (hL:L=A++x::B) (h:i=(A.length:Int)):Zm L i=some x:=by
 rw [ZkZ h,hL];exact ZeP A x B rfl
theorem Zia {α:Type} {L A:List α} {x:α} {B:List α} {i:Int} (hL:L=A++x::B) (h:i=(A.length:Int)) (y:α):ZW L i y=A++y::B:=by
 rw [Zr7 h,hL];exact ZiB A x y B rfl
theorem Yl {α:Type} {xs ys:List α} (h:xs.length+ys.length≤4294967296):Z4 xs ys=some (xs++ys):=by
 unfold Z4
 have:Nat.ble (xs.length+ys.length) lim=true:=Nat.ble_eq_true_of_le h
 rw [this];rfl
theorem Xr {α:Type} {xs:List α} {k:Nat} {x:α} {l:List α} (h:xs.drop k=x::l):k < xs.length∧xs[k]? = some x∧xs.drop (k+1)=l:=by
 have hlt:k < xs.length:=by
  rcases Nat.lt_or_ge k xs.length with h' | h'
  ·exact h'
  ·rw [List.drop_eq_nil_of_le h'] at h;cases h
 rw [List.drop_eq_getElem_cons hlt] at h
 simp only [List.cons.injEq] at h
 exact ⟨hlt,by rw [Za hlt,h.1],h.2⟩
theorem XF {α:Type} {xs:List α} {k:Nat} (h:xs.drop k=[]):xs.length≤k:=by simpa using h
def lv {α γ:Type} (b:α→Nat→γ→γ) (e:γ):List α→Nat→γ
 | [],_=>e
 | x::l,k=>b x k (lv b e l (k+1))
theorem ZnD {α γ:Type} (xs:List α) (F:Nat→Int→γ) (b:α→Nat→γ→γ) (e:γ)
  (h1:∀ n k x,k < xs.length→xs[k]? = some x→F (n+1) (k:Int)=b x k (F n ((k+1:Nat):Int)))
  (h2:∀ n k,xs.length≤k→F (n+1) (k:Int)=e) :
  ∀ (l:List α) (k n:Nat),xs.drop k=l→l.length < n→F n (k:Int)=lv b e l k:=by
 intro l
 induction l with
 | nil =>
  intro k n h hn
  obtain ⟨n,rfl⟩:=pS n (by simp at hn;omega)
  exact h2 n k (XF h)
 | cons x l ih =>
  intro k n h hn
  obtain ⟨n,rfl⟩:=pS n (by simp at hn;omega)
  obtain ⟨a,c,d⟩:=Xr h
  rw [h1 n k x a c,ih (k+1) n d (by simp at hn;omega)];rfl
theorem Zsg {α γ:Type} {xs:List α} {F:Nat→Int→γ} {b:α→Nat→γ→γ} {e:γ} {n:Nat} {i:Int} (hn:xs.length < n) (hi:i=((0:Nat):Int))
  (h1:∀ n k x,k < xs.length→xs[k]? = some x→F (n+1) (k:Int)=b x k (F n ((k+1:Nat):Int)))
  (h2:∀ n k,xs.length≤k→F (n+1) (k:Int)=e):F n i=lv b e xs 0:=by
 rw [hi];exact ZnD xs F b e h1 h2 xs 0 n rfl hn
theorem ZG {k n:Nat} (h:k < n):decide ((k:Int) < (n:Int))=true:=by simp [h]
theorem ZJ {k n:Nat} (h:n≤k):decide ((k:Int) < (n:Int))=false:=by simp;omega
end Gp
end
section
namespace Gp
open Go Go.Kx
def Lt {α:Type} (K:α→Int) (r:α→α→Prop) (x y:α):Prop:=K x < K y∨(K x=K y∧r x y)
def Wb {α:Type} (K:α→Int) (r:α→α→Prop) (l:List α):Prop:=l.Pairwise (Lt K r)
variable {α:Type} {K:α→Int} {r:α→α→Prop}
theorem Lt.le {x y:α} (h:Lt K r x y):K x≤K y:=by rcases h with h | h<;>omega
theorem srt_app {A B:List α}:Wb K r (A++B)↔Wb K r A∧Wb K r B∧∀ x∈A,∀ y∈B,Lt K r x y:=by
 unfold Wb;exact List.pairwise_append
theorem srt_cons {x:α} {B:List α}:Wb K r (x::B)↔(∀ y∈B,Lt K r x y)∧Wb K r B:=by
 unfold Wb;exact List.pairwise_cons
theorem ZgF:Wb K r ([]:List α):=List.Pairwise.nil
theorem Zpz (L:List α) (k:Nat) (h:k≤L.length):∃ A B,L=A++B∧A.length=k :=
 ⟨L.take k,L.drop k,(List.take_append_drop k L).symm,by simp;omega⟩
theorem ZnX (L:List α) (k:Nat) (h:k < L.length):∃ A x B,L=A++x::B∧A.length=k:=by
 obtain ⟨A,B,e,hl⟩:=Zpz L k (by omega)
 cases B with
 | nil=>have:=congrArg List.length e;simp at this;omega
 | cons x B=>exact ⟨A,x,B,e,hl⟩
theorem Znm {L A:List α} {x:α} {B:List α} {k:Nat} (hL:L=A++x::B) (h:A.length=k):L[k]? = some x:=by rw [hL];exact ZeP A x B h
theorem Zjx (has:∀ x y,Lt K r x y→¬ Lt K r y x):∀ (A B:List α),A.Perm B→Wb K r A→Wb K r B→A=B
 | [],B,h,_,_=>by simpa using h.symm
 | x::A,B,h,ha,hb=>by
  cases B with
  | nil=>exact absurd h.length_eq (by simp)
  | cons y B =>
   by_cases hxy:x=y
   ·subst hxy
    rw [Zjx has A B ((List.perm_cons x).mp h) (srt_cons.mp ha).2 (srt_cons.mp hb).2]
   ·exfalso
    have h1:x∈y::B:=h.mem_iff.mp (by simp)
    have h2:y∈x::A:=h.mem_iff.mpr (by simp)
    have h3:x∈B:=by rcases List.mem_cons.mp h1 with h | h;exact absurd h hxy;exact h
    have h4:y∈A:=by rcases List.mem_cons.mp h2 with h | h;exact absurd h.symm hxy;exact h
    exact has _ _ ((srt_cons.mp ha).1 y h4) ((srt_cons.mp hb).1 x h3)
inductive Bk (K:α→Int) (r:α→α→Prop) (n:Nat):List α→List α→Prop
 | last (o c:List α):c.length≤n→c.Perm o→Wb K r c→Bk K r n o c
 | cons (o1 c1 o2 c2:List α):c1.length=n→c1.Perm o1→Wb K r c1→Bk K r n o2 c2→Bk K r n (o1++o2) (c1++c2)
theorem Bk.two {n:Nat} {o c:List α} (h:Bk K r n o c) (hn:0 < n) (hc:2 * n≤c.length) :
  ∃ o1 o2 o3 c1 c2 c3,o=o1++(o2++o3)∧c=c1++(c2++c3)∧c1.length=n∧c2.length=n∧c1.Perm o1∧c2.Perm o2∧Wb K r c1∧Wb K r c2∧Bk K r n o3 c3:=by
 cases h with
 | last _ _ h1 h2 h3=>omega
 | cons o1 c1 o2 c2 h1 h2 h3 h4 =>
  cases h4 with
  | last _ _ g1 g2 g3 =>
   simp at hc
   exact ⟨o1,o2,[],c1,c2,[],by simp,by simp,h1,by omega,h2,g2,h3,g3,.last _ _ (by simp) (by simp) ZgF⟩
  | cons p1 d1 p2 d2 g1 g2 g3 g4=>exact ⟨o1,p1,p2,c1,d1,d2,rfl,rfl,h1,g1,h2,g2,h3,g3,g4⟩
theorem Bk.few {n:Nat} {o c:List α} (h:Bk K r n o c) (hn:0 < n) (hc:c.length < 2 * n) :
  (c.length≤n∧c.Perm o∧Wb K r c)∨∃ o1 o2 c1 c2,o=o1++o2∧c=c1++c2∧c1.length=n∧0 < c2.length∧c2.length≤n∧c1.Perm o1∧c2.Perm o2∧Wb K r c1∧Wb K r c2:=by
 cases h with
 | last _ _ h1 h2 h3=>exact .inl ⟨h1,h2,h3⟩
 | cons o1 c1 o2 c2 h1 h2 h3 h4 =>
  cases h4 with
  | last _ _ g1 g2 g3 =>
   rcases Nat.eq_zero_or_pos c2.length with h0 | h0
   ·have:c2=[]:=List.length_eq_zero_iff.mp h0
    subst this
    have:o2=[]:=by simpa using g2.symm
    subst this
    exact .inl ⟨by simp;omega,by simpa using h2,by simpa using h3⟩
   ·exact .inr ⟨o1,o2,c1,c2,rfl,rfl,h1,h0,g1,h2,g2,h3,g3⟩
  | cons p1 d1 p2 d2 g1 g2 g3 g4=>simp at hc;omega
theorem Bk.all {n:Nat} {o c:List α} (h:Bk K r n o c) (hn:0 < n) (hc:c.length≤n):c.Perm o∧Wb K r c:=by
 rcases h.few hn (by omega) with h | ⟨o1,o2,c1,c2,h1,h2,h3,h4,_⟩
 ·exact h.2
 ·subst h2;simp at hc;omega
end Gp
end
namespace Gp
open Go Go.Kx Gx
section
theorem Zl {α γ:Type} (xs:List α) (hs:xs.length≤4194304) (b:α→Int→γ→γ) (F:Nat→Int→γ) (e:γ) {n:Nat} (hn:4194304 < n)
  (h1:∀ n k x,k < xs.length→xs[k]? = some x→F (n+1) (k:Int)=b x k (F n (Zi ((k:Int)+1))))
  (h2:∀ n k,xs.length≤k→F (n+1) (k:Int)=e):F n (0:Int)=lv (fun x (k:Nat) r=>b x (k:Int) r) e xs 0 :=
 Zsg (by omega) rfl (fun n k x hk hx=>by rw [h1 n k x hk hx,ZA (by omega)]) h2
def Yi (a b:ByteArray):Bool:=a.toList==b.toList
theorem Zeh (a:ByteArray):Yi a a=true:=by simp [Yi]
structure Wk (x:T0):Prop where
 f:x.Fields.length≤4194304
 d:x.Guard.Diffs.length≤4194304
 e:x.Guard.Equals.length≤4194304
structure Ua (g:T5):Prop where
 r:g.Roles.length≤4194304
 d:g.Decls.length≤4194304
 dd:∀ x∈g.Decls,Wk x
 e:g.Edges.length≤4194304
 t:g.Timeouts.length≤4194304
variable {N:Nat} (hN:4194304 < N)
end
section
variable {N:Nat} (hN:4194304 < N)
def DN {α:Type} (f:α→Bool) (l:List α):Option Int:=lv (fun x (k:Nat) r=>bif f x then some (k:Int) else r) (some (-1)) l 0
theorem Ztr (a b:ByteArray):(a.toList==b.toList)=(b.toList==a.toList):=by
 rw [Bool.eq_iff_iff,beq_iff_eq,beq_iff_eq];exact ⟨Eq.symm,Eq.symm⟩
include hN in
theorem Zsk (l:List ByteArray) (hl:l.length≤4194304) (v:ByteArray):DC N l v=DN (fun x=>Yi x v) l:=by
 unfold DC DN
 refine Zl l hl (fun x k r=>bif Yi x v then some k else r) (Ro l v) _ hN ?_ ?_
 ·intro n k x hk hx
  simp only [Ro,ZG hk,Zs,hx,cT,bS,Yi,Ztr v x]
 ·intro n k hk
  simp only [Ro,ZJ hk,cond_false,BI]
include hN in
theorem Zmt (l:List ByteArray) (hl:l.length≤4194304) (v:ByteArray):LC N l v=DN (fun x=>Yi x v) l:=by
 unfold LC DN
 refine Zl l hl (fun x k r=>bif Yi x v then some k else r) (QK l v) _ hN ?_ ?_
 ·intro n k x hk hx
  simp only [QK,ZG hk,Zs,hx,cT,bS,Yi]
 ·intro n k hk
  simp only [QK,ZJ hk,cond_false,Bu]
end
section
def I64 (n:Int):Prop:=-9223372036854775808≤n∧n≤9223372036854775807
def Zfw (e:T2):Int:=e.Act.To * 1180591620717411303424+e.Act.Label
def ZR (g:T5) (x:Int):Int:=match g.Edges[x.toNat]? with | some e=>Zfw e | none=>0
def Vx (g:T5) (x:Int):Prop:=0≤x∧x < (g.Edges.length:Int)
def Uh (g:T5):Prop:=∀ e∈g.Edges,I64 e.Act.To∧I64 e.Act.Label
theorem Vx.get {g:T5} {x:Int} (h:Vx g x):∃ e,Zm g.Edges x=some e∧ZR g x=Zfw e∧e∈g.Edges:=by
 obtain ⟨h0,h1⟩:=h
 obtain ⟨k,rfl⟩:∃ k:Nat,x=(k:Int):=⟨x.toNat,by omega⟩
 have hk:k < g.Edges.length:=by omega
 refine ⟨g.Edges[k],by rw [Zs,Za hk],?_,List.getElem_mem hk⟩
 unfold ZR
 rw [show (k:Int).toNat=k by simp,Za hk]
def VI (g:T5) (s:Int):List T2→Nat→List Int
 | [],_=>[]
 | x::l,k=>if x.From=s then (k:Int)::VI g s l (k+1) else VI g s l (k+1)
theorem Ziw (g:T5) (s:Int):∀ (l:List T2) (k:Nat),(VI g s l k).length≤l.length
 | [],k=>by simp [VI]
 | x::l,k=>by
  unfold VI
  have:=Ziw g s l (k+1)
  split<;>simp<;>omega
def EdgesAre (g:T5) (s:Int) (L:List Int):Prop:=L.Perm (VI g s g.Edges 0)∧Wb (ZR g) (· < ·) L
theorem ZrU {N:Nat} (g:T5) (hn:Uh g) (x y:Int) (hx:Vx g x) (hy:Vx g y):∃ b,D2 N g x y=some b∧(b=true↔Lt (ZR g) (· < ·) x y):=by
  obtain ⟨e,e1,e2,e3⟩:=hx.get
  obtain ⟨f,f1,f2,f3⟩:=hy.get
  obtain ⟨⟨a1,a2⟩,a3,a4⟩:=hn e e3
  obtain ⟨⟨b1,b2⟩,b3,b4⟩:=hn f f3
  unfold D2
  rw [e1,f1]
  simp only [bS]
  unfold Lt
  rw [e2,f2]
  unfold Zfw
  by_cases c1:e.Act.To=f.Act.To
  · rw [show (e.Act.To != f.Act.To)=false by simp [c1],cond_false]
    by_cases c2:e.Act.Label=f.Act.Label
    · rw [show (e.Act.Label != f.Act.Label)=false by simp [c2],cond_false]
      exact ⟨_,rfl,by rw [decide_eq_true_iff];omega⟩
    · rw [show (e.Act.Label != f.Act.Label)=true by simp [c2],cT]
      exact ⟨_,rfl,by rw [decide_eq_true_iff];omega⟩
  · rw [show (e.Act.To != f.Act.To)=true by simp [c1],cT]
    exact ⟨_,rfl,by rw [decide_eq_true_iff];omega⟩
theorem Zlj {g:T5} (x y:Int) (h:Lt (ZR g) (· < ·) x y):¬ Lt (ZR g) (· < ·) y x:=by
  unfold Lt at *;omega
theorem Zk2 {g:T5} {x y z:Int} (h:Lt (ZR g) (· < ·) x y) (h':Lt (ZR g) (· < ·) y z):Lt (ZR g) (· < ·) x z:=by
  unfold Lt at *;omega
theorem Zoz {g:T5} {x y:Int} (h:¬ Lt (ZR g) (· < ·) x y) (hne:x≠y):Lt (ZR g) (· < ·) y x:=by
  unfold Lt at *;omega
theorem EdgesAre.uniq {g:T5} {s:Int} {A B:List Int} (ha:EdgesAre g s A) (hb:EdgesAre g s B):A=B :=
 Zjx Zlj A B (ha.1.trans hb.1.symm) ha.2 hb.2
theorem ZpK {N:Nat} (g:T5) (hn:Uh g) (acc:List Int) (hacc:∀ y∈acc,Vx g y) (hal:acc.length≤4194304) (v:Int) (hv:Vx g v) (ag:List Int→Int→Option (List Int)) :
    ∀ (n:Nat) (A B:List Int) (j:Int),B.length < n→acc=A++B→j=(A.length:Int)→(∀ y∈A,Lt (ZR g) (· < ·) y v) →
    ∃ A B,acc=A++B∧(∀ y∈A,Lt (ZR g) (· < ·) y v)∧(∀ y C,B=y::C→¬ Lt (ZR g) (· < ·) y v)∧SS N g acc v ag n j=ME acc v ag (A.length:Int):=by
  intro n
  induction n with
  | zero=>intro A B j h;omega
  | succ n ih =>
    intro A B j hn' he hj hA
    cases B with
    | nil =>
      have hd:decide (j < (acc.length:Int))=false:=by rw [he];simp;omega
      refine ⟨A,[],he,hA,by simp,?_⟩
      simp only [SS,hd,cond_false]
      rw [hj]
    | cons y B =>
      have hd:decide (j < (acc.length:Int))=true:=by rw [he];simp;omega
      have e1:Zm acc j=some y:=Zdw he hj
      obtain ⟨b,b1,b2⟩:=ZrU (N:=N) g hn y v (hacc y (by rw [he];simp)) hv
      cases b with
      | true =>
        have hl:acc.length=A.length+(B.length+1):=by rw [he];simp
        obtain ⟨A',B',p1,p2,p3,p4⟩:=ih (A++[y]) B (Zi (j+1)) (by simp at hn';omega) (by rw [he];simp) (by rw [hj,ZA (by omega)];simp)
          (by
            intro z hz
            rcases List.mem_append.mp hz with hz | hz
            · exact hA z hz
            · simp at hz;subst hz;exact b2.mp rfl)
        refine ⟨A',B',p1,p2,p3,?_⟩
        simp only [SS,hd,cT,e1,bS,b1]
        exact p4
      | false =>
        refine ⟨A,y::B,he,hA,?_,?_⟩
        · intro z C hz
          have:=(List.cons.inj hz).1
          subst this
          intro h
          have:=b2.mpr h
          cases this
        · simp only [SS,hd,cT,e1,bS,b1,cond_false]
          rw [hj]
end
section
theorem LZ {α:Type} {L A B:List α} {i:Int} (hL:L=A++B) (hi:i=(A.length:Int)):lsl L none (some i)=some A:=by
 subst hL hi
 have h:decide ((A.length:Int)≤((A++B).length:Int))=true:=by simp;omega
 have h2:decide ((0:Int)≤(A.length:Int))=true:=by simp
 unfold lsl X4
 simp only [Option.getD_some,Option.getD_none,h,h2]
 simp
theorem ZdF {α:Type} {L A B:List α} {i:Int} (hL:L=A++B) (hi:i=(A.length:Int)):lsl L (some i) none=some B:=by
 subst hL hi
 have h:decide ((A.length:Int)≤((A++B).length:Int))=true:=by simp;omega
 have h2:decide ((0:Int)≤(A.length:Int))=true:=by simp
 unfold lsl X4
 simp only [Option.getD_some,Option.getD_none,h,h2,Int.le_refl,decide_true,Bool.and_self,cT,Option.map_some,Int.toNat_natCast,List.take_length]
 simp
theorem Zm6 {N:Nat} (g:T5) (s:Int) (hn:Uh g) (hg:g.Edges.length≤4194304) (hN:4194304 < N) :
    ∀ (l:List T2) (k n:Nat) (acc pre:List Int),g.Edges.drop k=l→l.length < n→VI g s g.Edges 0=pre++VI g s l k→(∀ y∈pre,0≤y∧y < (k:Int))→acc.Perm pre→Wb (ZR g) (· < ·) acc →
    ∃ L,EdgesAre g s L∧Vj N g s n acc (k:Int)=some L:=by
  intro l
  induction l with
  | nil =>
    intro k n acc pre h hn' he hp hperm hs
    obtain ⟨n,rfl⟩:∃ m,n=m+1:=⟨n-1,by simp at hn';omega⟩
    refine ⟨acc,⟨by rw [he];simpa [VI] using hperm,hs⟩,?_⟩
    simp only [Vj,ZJ (XF h),cond_false,DH]
  | cons x l ih =>
    intro k n acc pre h hn' he hp hperm hs
    obtain ⟨n,rfl⟩:∃ m,n=m+1:=⟨n-1,by simp at hn';omega⟩
    obtain ⟨a,c,d⟩:=Xr h
    simp only [Zg] at hn'
    have e0:VI g s (x::l) k=if x.From=s then (k:Int)::VI g s l (k+1) else VI g s l (k+1):=rfl
    rw [e0] at he
    by_cases hf:x.From=s
    · rw [if_pos hf] at he
      have hpl:pre.length≤g.Edges.length:=by
        have h1:=Ziw g s g.Edges 0
        have h2:=congrArg List.length he
        simp at h2;omega
      have hal:acc.length≤g.Edges.length:=by rw [hperm.length_eq];exact hpl
      have hk:Vx g (k:Int):=⟨by omega,by omega⟩
      obtain ⟨A,B,p1,p2,p3,p4⟩:=ZpK (N:=N) g hn acc (fun y hy=>by have:=hp y (hperm.mem_iff.mp hy);exact ⟨by omega,by omega⟩) (by omega) (k:Int) hk (Vj N g s n) N [] acc (0:Int) (by omega) rfl (by simp) (by simp)
      have hl:acc.length=A.length+B.length:=by rw [p1];simp
      have hB:∀ y∈B,Lt (ZR g) (· < ·) (k:Int) y:=by
        cases B with
        | nil=>simp
        | cons z B =>
          have hz:z∈pre:=hperm.mem_iff.mp (by rw [p1];simp)
          have hzk:=hp z hz
          have h1:Lt (ZR g) (· < ·) (k:Int) z:=Zoz (p3 z B rfl) (by omega)
          intro y hy
          rcases List.mem_cons.mp hy with hy | hy
          · subst hy;exact h1
          · rw [p1] at hs
            exact Zk2 h1 ((srt_cons.mp (srt_app.mp hs).2.1).1 y hy)
      have hs':Wb (ZR g) (· < ·) (A++(k:Int)::B):=by
        rw [p1] at hs
        obtain ⟨s1,s2,s3⟩:=srt_app.mp hs
        refine srt_app.mpr ⟨s1,srt_cons.mpr ⟨hB,s2⟩,?_⟩
        intro y hy z hz
        rcases List.mem_cons.mp hz with hz | hz
        · subst hz;exact p2 y hy
        · exact s3 y hy z hz
      have hperm':(A++(k:Int)::B).Perm (pre++[(k:Int)]):=by
        refine List.perm_middle.trans ?_
        rw [p1] at hperm
        exact (List.Perm.cons _ hperm).trans (List.perm_append_singleton _ pre).symm
      obtain ⟨L,q1,q2⟩:=ih (k+1) n (A++(k:Int)::B) (pre++[(k:Int)]) d (by omega) (by rw [he];simp)
        (by
          intro y hy
          rcases List.mem_append.mp hy with hy | hy
          · have:=hp y hy;omega
          · simp at hy;omega) hperm' hs'
      refine ⟨L,q1,?_⟩
      simp only [Vj,ZG a,cT,Zs,c,bS,show (x.From != s)=false by simp [hf],cond_false,p4,ME]
      rw [LZ p1 rfl,ZdF p1 rfl]
      simp only [bS]
      rw [Yl (by simp;omega)]
      simp only [bS]
      rw [Yl (by simp;omega)]
      simp only [bS]
      rw [ZA (by omega)]
      exact q2
    · rw [if_neg hf] at he
      obtain ⟨L,q1,q2⟩:=ih (k+1) n acc pre d (by omega) he (fun y hy=>by have:=hp y hy;omega) hperm hs
      refine ⟨L,q1,?_⟩
      simp only [Vj,ZG a,cT,Zs,c,bS,show (x.From != s)=true by simp [hf]]
      rw [ZA (by omega)]
      exact q2
theorem Zo9 {N:Nat} (hN:4194304 < N) (g:T5) (hg:g.Edges.length≤4194304) (hn:Uh g) (s:Int):∃ L,EdgesAre g s L∧G8 N g s=some L:=by
 unfold G8
 exact Zm6 g s hn hg hN g.Edges 0 N [] [] rfl (by omega) (by simp) (by simp) (.refl _) ZgF
end
section
def ZN {α:Type} (p:α→Nat→Bool):List α→Nat→Bool
 | [],_=>true
 | x::l,k=>p x k && ZN p l (k+1)
theorem Zs8 {α:Type} (p:α→Nat→Bool) (xs:List α) (F:Nat→Int→Option Bool) (e:Option Bool)
  (h1:∀ n k x,k < xs.length→xs[k]? = some x→F (n+1) (k:Int)=bif p x k then F n ((k+1:Nat):Int) else some false)
  (h2:∀ n k,xs.length≤k→F (n+1) (k:Int)=e) :
  ∀ (l:List α) (k n:Nat),xs.drop k=l→l.length < n→F n (k:Int)=bif ZN p l k then e else some false:=by
 intro l
 induction l with
 | nil =>
  intro k n h hn
  obtain ⟨n,rfl⟩:=pS n (by simp at hn;omega)
  exact h2 n k (XF h)
 | cons x l ih =>
  intro k n h hn
  obtain ⟨n,rfl⟩:=pS n (by simp at hn;omega)
  obtain ⟨a,c,d⟩:=Xr h
  rw [h1 n k x a c,ih (k+1) n d (by simp at hn;omega)]
  show _=bif (p x k && ZN p l (k+1)) then e else some false
  cases p x k<;>rfl
theorem YD {α:Type} (p:α→Nat→Bool) {xs:List α} {F:Nat→Int→Option Bool} {e:Option Bool} {n:Nat} (hn:xs.length < n)
  (h1:∀ n k x,k < xs.length→xs[k]? = some x→F (n+1) (k:Int)=bif p x k then F n ((k+1:Nat):Int) else some false)
  (h2:∀ n k,xs.length≤k→F (n+1) (k:Int)=e):F n (0:Int)=bif ZN p xs 0 then e else some false :=
 Zs8 p xs F e h1 h2 xs 0 n rfl hn
theorem Xc {α:Type} (p:α→Nat→Bool):∀ (l:List α) (k:Nat),ZN p l k=true↔∀ i x,l[i]? = some x→p x (k+i)=true
 | [],k=>by simp [ZN]
 | x::l,k=>by
  show (p x k && ZN p l (k+1))=true↔_
  rw [Zc,Xc p l (k+1)]
  constructor
  ·rintro ⟨h0,h1⟩ i y hy
   cases i with
   | zero=>simp at hy;subst hy;exact h0
   | succ i=>have:=h1 i y (by simpa using hy);rw [show k+(i+1)=k+1+i by omega];exact this
  ·intro h
   exact ⟨by simpa using h 0 x (by simp),fun i y hy=>by rw [show k+1+i=k+(i+1) by omega];exact h (i+1) y (by simpa using hy)⟩
def bs (s:ByteArray):List UInt8:=s.data.toList
theorem YU (s:ByteArray):s.size=(bs s).length:=rfl
theorem Zi2 {s:ByteArray} {k:Nat} (h:k < (bs s).length):decide ((k:Int) < (s.size:Int))=true:=ZG h
theorem ZkC {s:ByteArray} {k:Nat} (h:(bs s).length≤k):decide ((k:Int) < (s.size:Int))=false:=ZJ h
theorem XS (s:ByteArray):s.toList=bs s:=ByteArray.toList_eq s
theorem Di {a b:ByteArray} (h:bs a=bs b):a=b:=by
 cases a with | mk a=>cases b with | mk b=>simpa [bs] using h
theorem PC (s:ByteArray) (k:Nat):Xq s (k:Int)=(bs s)[k]?.map (fun b=>(b.toNat:Int)):=by
 unfold Xq
 have h:decide (0≤(k:Int))=true:=by simp
 rw [h,cT]
 have e:s[(k:Int).toNat]? = (bs s)[k]? := by
  simp [getElem?_def,bs]
  split<;>simp_all
  rfl
 rw [e]
variable {N:Nat} (hN:4194304 < N)
def Po (c:Int):Bool:=(decide (97≤c) && decide (c≤122)) || (decide (65≤c) && decide (c≤90))
def PY (c:Int):Bool:=Po c || ((decide (48≤c) && decide (c≤57)) || c==95)
theorem ZdX (N:Nat) (c:Int):MY N c=some (Po c):=by
 unfold MY Po
 cases decide (97≤c)<;>cases decide (c≤122)<;>cases decide (65≤c)<;>rfl
theorem Zms (N:Nat) (c:Int):HP N c=some (Po c):=ZdX N c
theorem Zs9 (N:Nat) (c:Int):GL N c=some (PY c):=by
 unfold GL PY ZaB
 rw [ZdX]
 simp only [bS]
 cases Po c
 ·cases decide (48≤c)<;>cases decide (c≤57)<;>rfl
 ·rfl
def LF (s:ByteArray):Bool :=
 match bs s with
 | []=>false
 | x::l=>Po (x.toNat:Int) && (decide (l.length < 16) && ZN (fun (c:UInt8) _=>PY (c.toNat:Int)) (x::l) 0)
def keywords:List ByteArray:=[(str [97,103,97,105,110]),(str [97,110,100]),(str [97,115]),(str [97,116]),(str [99,97,108,108]),(str [99,104,111,105,99,101]),(str [101,108,115,101]),(str [102,114,111,109]),(str [105,102]),(str [105,110,116]),(str [108,101,110]),(str [108,111,111,112]),(str [109,101,115,115,97,103,101]),(str [111,102]),(str [111,102,102,101,114]),(str [111,110]),(str [111,114]),(str [112,97,114]),(str [112,108,97,121,115]),(str [112,114,111,116,111,99,111,108]),(str [115,101,114,118,105,99,101]),(str [116,101,120,116]),(str [116,105,109,101,115]),(str [116,111]),(str [118,97,114]),(str [119,104,101,114,101]),(str [119,104,105,108,101]),(str [119,105,116,104,105,110])]
def XN (s:ByteArray):Bool:=LF s && !(keywords.any fun k=>Yi k s)
include hN in
theorem Ztw (s:ByteArray) (hs:s.size≤4194304):Tq N s N (0:Int)=some (ZN (fun (c:UInt8) _=>PY (c.toNat:Int)) (bs s) 0):=by
 rw [YU] at hs
 rw [YD (xs:=bs s) (fun (c:UInt8) _=>PY (c.toNat:Int)) (F:=Tq N s) (e:=some true) (by omega)]
 ·cases ZN (fun (c:UInt8) _=>PY (c.toNat:Int)) (bs s) 0<;>rfl
 ·intro n k x hk hx
  simp only [Tq,Zi2 hk,cT,PC,hx,Option.map_some,bS,Zs9,ZA (show k < 4611686018427387904 by omega)]
  cases PY (x.toNat:Int)<;>rfl
 ·intro n k hk
  simp only [Tq,ZkC hk,cond_false,G2]
theorem Zgs (s:ByteArray):∀ n k,Pd N s n k=Tq N s n k
 | 0,_=>rfl
 | n+1,k=>by
  simp only [Pd,Tq,Zgs s n]
  rfl
theorem M8:bs (str [])=[]:=rfl
include hN in
theorem Zfh (s:ByteArray) (hs:s.size≤4194304):Dg N s=some (LF s)∧PB N s=some (LF s):=by
 unfold Dg PB
 rw [Zgs,Ztw hN s hs,XS,XS,M8,YU,show Xq s (0:Int)=Xq s ((0:Nat):Int) from rfl,PC]
 unfold LF
 cases h:bs s with
 | nil=>exact ⟨rfl,rfl⟩
 | cons x l =>
  have e:(x::l==([]:List UInt8))=false:=rfl
  rw [e]
  simp only [cond_false,List.getElem?_cons_zero,Option.map_some,bS,ZdX,Zms]
  have d:decide (((x::l).length:Int) > 16) = !decide (l.length < 16):=by
   by_cases q:l.length < 16
   ·rw [dT q];simp;omega
   ·rw [dF q];simp;omega
  rw [d]
  cases Po (x.toNat:Int)<;>cases decide (l.length < 16)<;>exact ⟨rfl,rfl⟩
theorem HN {α:Type} (f:α→Bool) (l:List α) (k:Nat):∃ i,lv (fun x (k:Nat) r=>bif f x then some (k:Int) else r) (some (-1)) l k=some i∧decide (i≥0)=l.any f:=by
 induction l generalizing k with
 | nil=>exact ⟨-1,rfl,rfl⟩
 | cons x l ih =>
  show ∃ i,(bif f x then some (k:Int) else lv _ _ l (k+1))=some i∧_
  rw [List.any_cons]
  cases f x
  ·exact ih (k+1)
  ·exact ⟨k,rfl,by simp⟩
include hN in
theorem Zjr (l:List ByteArray) (hl:l.length≤4194304) (v:ByteArray):MN N l v=some (l.any fun x=>Yi x v):=by
 unfold MN
 rw [Zsk hN l hl]
 obtain ⟨i,h1,h2⟩:=HN (fun x=>Yi x v) l 0
 unfold DN
 rw [h1,bS,h2]
include hN in
theorem Zk0 (l:List ByteArray) (hl:l.length≤4194304) (v:ByteArray):Da N l v=some (l.any fun x=>Yi x v):=by
 unfold Da
 rw [Zl l hl (fun x k r=>bif Yi x v then some true else r) (QF l v) (some false) hN]
 ·generalize (0:Nat)=k
  induction l generalizing k with
  | nil=>rfl
  | cons x l ih =>
   show (bif Yi x v then some true else lv _ _ l (k+1))=_
   rw [List.any_cons,ih (by simp at hl;omega)]
   cases Yi x v<;>rfl
 ·intro n k x hk hx
  simp only [QF,ZG hk,Zs,hx,cT,bS,Yi]
 ·intro n k hk
  simp only [QF,ZJ hk,cond_false,DV]
include hN in
theorem R7 (s:ByteArray) (hs:s.size≤4194304):QL N s=some (XN s)∧Q9 N s=some (XN s):=by
 obtain ⟨h1,h2⟩:=Zfh hN s hs
 unfold QL Q9 Zaw
 rw [h1,h2]
 simp only [bS]
 have c1:=Zjr hN keywords (by decide) s
 have c2:=Zk0 hN keywords (by decide) s
 unfold keywords at c1 c2
 rw [c1,c2]
 unfold XN keywords
 simp only [bS]
 cases LF s<;>exact ⟨rfl,rfl⟩
end
section
theorem Uy {a b n:Int}:Z1 a b < n↔a < n∨b < n:=by unfold Z1;split<;>omega
theorem Mc {a b n:Int}:ZX a b≥n↔a≥n∨b≥n:=by unfold ZX;split<;>omega
variable {N:Nat} (hN:4194304 < N)
def Yv (g:T5) (x:T2):Prop :=
 0≤x.From∧x.From < g.States∧0≤x.To∧x.To < g.States∧0≤x.Act.From∧x.Act.From < (g.Roles.length:Int)∧0≤x.Act.To∧x.Act.To < (g.Roles.length:Int)∧x.Act.From≠x.Act.To∧0≤x.Act.Label∧x.Act.Label < (g.Decls.length:Int)
instance (g:T5) (x:T2):Decidable (Yv g x):=by unfold Yv;infer_instance
def Xp (g:T5):Prop :=
 1≤g.States∧g.States≤200∧0≤g.Start∧g.Start < g.States∧0≤g.End∧g.End < g.States∧g.Edges.length≤400
instance (g:T5):Decidable (Xp g):=by unfold Xp;infer_instance
def Vo (g:T5):Bool:=decide (Xp g) && ZN (fun x _=>decide (Yv g x)) g.Edges 0
include hN in
theorem Zgh (g:T5) (hg:g.Edges.length≤4194304):Bs N g=some (Vo g):=by
 unfold Bs
 rw [YD (fun x _=>decide (Yv g x)) (xs:=g.Edges) (F:=RB g) (e:=some true) (by omega)]
 ·unfold Vo
  by_cases c1:g.States < 1
  ·rw [dT c1,dF (show ¬ Xp g by unfold Xp;omega)];rfl
  by_cases c2:g.States > 200
  ·rw [dF c1,dT c2,dF (show ¬ Xp g by unfold Xp;omega)];rfl
  by_cases c3:Z1 g.Start g.End < 0
  ·rw [dF c1,dF c2,dT c3,dF (show ¬ Xp g by rw [Uy] at c3;unfold Xp;omega)];rfl
  by_cases c4:ZX g.Start g.End≥g.States
  ·rw [dF c1,dF c2,dF c3,dT c4,dF (show ¬ Xp g by rw [Mc] at c4;unfold Xp;omega)];rfl
  by_cases c5:(g.Edges.length:Int) > 400
  ·rw [dF c1,dF c2,dF c3,dF c4,dT c5,dF (show ¬ Xp g by unfold Xp;omega)];rfl
  rw [dF c1,dF c2,dF c3,dF c4,dF c5,dT (show Xp g by rw [Uy] at c3;rw [Mc] at c4;unfold Xp;omega)]
  cases ZN (fun x _=>decide (Yv g x)) g.Edges 0<;>rfl
 ·intro n k x hk hx
  simp only [RB,ZG hk,Zs,hx,cT,bS,ZA (show k < 4611686018427387904 by omega)]
  by_cases c1:Z1 (Z1 (Z1 (Z1 x.From x.To) x.Act.From) x.Act.To) x.Act.Label < 0
  ·rw [dT c1,dF (show ¬ Yv g x by rw [Uy,Uy,Uy,Uy] at c1;unfold Yv;omega)];rfl
  by_cases c2:ZX x.From x.To≥g.States
  ·rw [dF c1,dT c2,dF (show ¬ Yv g x by rw [Mc] at c2;unfold Yv;omega)];rfl
  by_cases c3:ZX x.Act.From x.Act.To≥(g.Roles.length:Int)
  ·rw [dF c1,dF c2,dT c3,dF (show ¬ Yv g x by rw [Mc] at c3;unfold Yv;omega)];rfl
  by_cases c4:x.Act.From=x.Act.To
  ·rw [dF c1,dF c2,dF c3,show (x.Act.From==x.Act.To)=true by simp [c4],dF (show ¬ Yv g x by unfold Yv;omega)];rfl
  by_cases c5:x.Act.Label≥(g.Decls.length:Int)
  ·rw [dF c1,dF c2,dF c3,show (x.Act.From==x.Act.To)=false by simp [c4],dT c5,dF (show ¬ Yv g x by unfold Yv;omega)];rfl
  rw [dF c1,dF c2,dF c3,show (x.Act.From==x.Act.To)=false by simp [c4],dF c5,dT (show Yv g x by rw [Uy,Uy,Uy,Uy] at c1;rw [Mc] at c2 c3;unfold Yv;omega)]
  rfl
 ·intro n k hk
  simp only [RB,ZJ hk,cond_false,BJ]
theorem Zb6 (N:Nat) (g:T5) (s:Int):SJ N g s=some (decide (0≤s∧s < g.States)):=by
 unfold SJ
 by_cases c1:s≥0
 ·by_cases c2:s < g.States
  ·rw [dT c1,dT c2,dT ⟨c1,c2⟩];rfl
  ·rw [dT c1,dF c2,dF (show ¬ (0≤s∧s < g.States) by omega)];rfl
 ·rw [dF c1,dF (show ¬ (0≤s∧s < g.States) by omega)];rfl
include hN in
theorem Zmh (g:T5) (hg:g.Edges.length≤4194304):BX N g=some (Vo g):=by
 unfold BX
 rw [YD (fun x _=>decide (Yv g x)) (xs:=g.Edges) (F:=Qj N g) (e:=Lm N g) (by omega)]
 ·unfold Vo Lm
  rw [Zb6,Zb6]
  simp only [bS]
  cases ZN (fun x _=>decide (Yv g x)) g.Edges 0
  ·simp
  by_cases c1:g.States≥1
  ·by_cases c2:g.States≤200
   ·by_cases c3:0≤g.Start∧g.Start < g.States
    ·by_cases c4:0≤g.End∧g.End < g.States
     ·by_cases c5:(g.Edges.length:Int)≤400
      ·rw [dT c1,dT c2,dT c3,dT c4,dT c5,dT (show Xp g by unfold Xp;omega)];rfl
      ·rw [dT c1,dT c2,dT c3,dT c4,dF c5,dF (show ¬ Xp g by unfold Xp;omega)];rfl
     ·rw [dT c1,dT c2,dT c3,dF c4,dF (show ¬ Xp g by unfold Xp;omega)];rfl
    ·rw [dT c1,dT c2,dF c3,dF (show ¬ Xp g by unfold Xp;omega)];rfl
   ·rw [dT c1,dF c2,dF (show ¬ Xp g by unfold Xp;omega)];rfl
  ·rw [dF c1,dF (show ¬ Xp g by unfold Xp;omega)];rfl
 ·intro n k x hk hx
  simp only [Qj,ZG hk,Zs,hx,cT,bS,ZA (show k < 4611686018427387904 by omega),Zb6]
  by_cases c1:0≤x.From∧x.From < g.States
  ·by_cases c2:0≤x.To∧x.To < g.States
   ·by_cases c3:x.Act.From < 0
    ·rw [dT c1,dT c2,dT c3,dF (show ¬ Yv g x by unfold Yv;omega)];rfl
    by_cases c4:x.Act.From≥(g.Roles.length:Int)
    ·rw [dT c1,dT c2,dF c3,dT c4,dF (show ¬ Yv g x by unfold Yv;omega)];rfl
    by_cases c5:x.Act.To < 0
    ·rw [dT c1,dT c2,dF c3,dF c4,dT c5,dF (show ¬ Yv g x by unfold Yv;omega)];rfl
    by_cases c6:x.Act.To≥(g.Roles.length:Int)
    ·rw [dT c1,dT c2,dF c3,dF c4,dF c5,dT c6,dF (show ¬ Yv g x by unfold Yv;omega)];rfl
    by_cases c7:x.Act.From=x.Act.To
    ·rw [dT c1,dT c2,dF c3,dF c4,dF c5,dF c6,show (x.Act.From==x.Act.To)=true by simp [c7],dF (show ¬ Yv g x by unfold Yv;omega)];rfl
    by_cases c8:x.Act.Label < 0
    ·rw [dT c1,dT c2,dF c3,dF c4,dF c5,dF c6,show (x.Act.From==x.Act.To)=false by simp [c7],dT c8,dF (show ¬ Yv g x by unfold Yv;omega)];rfl
    by_cases c9:x.Act.Label≥(g.Decls.length:Int)
    ·rw [dT c1,dT c2,dF c3,dF c4,dF c5,dF c6,show (x.Act.From==x.Act.To)=false by simp [c7],dF c8,dT c9,dF (show ¬ Yv g x by unfold Yv;omega)];rfl
    rw [dT c1,dT c2,dF c3,dF c4,dF c5,dF c6,show (x.Act.From==x.Act.To)=false by simp [c7],dF c8,dF c9,dT (show Yv g x by unfold Yv;omega)];rfl
   ·rw [dT c1,dF c2,dF (show ¬ Yv g x by unfold Yv;omega)];rfl
  ·rw [dF c1,dF (show ¬ Yv g x by unfold Yv;omega)];rfl
 ·intro n k hk
  simp only [Qj,ZJ hk,cond_false]
def SI (x y:T2) (same:Bool):Bool :=
 !((!same && (x.From==y.From && ((((x.Act.From==y.Act.From) && ((x.Act.To==y.Act.To) && ((x.Act.Label==y.Act.Label) && true)))) || (x.Act.From != y.Act.From || x.Again)))) || (x.Again && (y.To==x.From && (x.Act.From != y.Act.From || x.Act.Label != y.Act.Label))))
def UX (g:T5) (x:T2) (k:Nat):Bool := !(x.Again && x.From==g.Start) && ZN (fun y i=>SI x y (decide (k=i))) g.Edges 0
def Zb2 (g:T5):Bool:=ZN (fun x k => !(x.From==g.End) && UX g x k) g.Edges 0
def Pk (g:T5):Bool:=ZN (fun x k=>UX g x k) g.Edges 0
theorem Zgc (k i:Nat):((k:Int) != (i:Int)) = !decide (k=i):=by
 by_cases h:k=i
 ·subst h;simp
 ·rw [dF h];simp;omega
include hN in
theorem ZgQ (g:T5) (hg:g.Edges.length≤4194304):Gk N g=some (Zb2 g):=by
 unfold Gk
 rw [YD (fun x k => !(x.From==g.End) && UX g x k) (xs:=g.Edges) (F:=Ww N g) (e:=some true) (by omega)]
 ·unfold Zb2;cases ZN _ g.Edges 0<;>rfl
 ·intro n k x hk hx
  have inner:Vs g (k:Int) (Ww N g n) x N (0:Int)=bif ZN (fun y i=>SI x y (decide (k=i))) g.Edges 0 then Le (k:Int) (Ww N g n) else some false:=by
   refine YD (fun y i=>SI x y (decide (k=i))) (by omega) ?_ ?_
   ·intro m i y hi hy
    simp only [Vs,ZG hi,Zs,hy,cT,bS,Zgc,Ss,ZA (show i < 4611686018427387904 by omega),SI]
    cases decide (k=i)<;>cases (x.From==y.From)<;>cases ((x.Act.From==y.Act.From) && ((x.Act.To==y.Act.To) && ((x.Act.Label==y.Act.Label) && true)))<;>cases (x.Act.From != y.Act.From)<;>cases x.Again<;>cases (y.To==x.From)<;>cases (x.Act.Label != y.Act.Label)<;>rfl
   ·intro m i hi
    simp only [Vs,ZJ hi,cond_false]
  simp only [Ww,ZG hk,Zs,hx,cT,bS,Mh,inner,Le,ZA (show k < 4611686018427387904 by omega),UX]
  cases (x.From==g.End)<;>cases x.Again<;>cases (x.From==g.Start)<;>cases ZN (fun y i=>SI x y (decide (k=i))) g.Edges 0<;>rfl
 ·intro n k hk
  simp only [Ww,ZJ hk,cond_false,D6]
theorem ZdL (a b:Int):(a != b)=(b != a):=by
 by_cases h:a=b
 ·subst h;rfl
 ·rw [show (a != b)=true by simp [h],show (b != a)=true by simp [Ne.symm h]]
include hN in
theorem Zst (g:T5) (hg:g.Edges.length≤4194304):DP N g=some (Pk g):=by
 unfold DP
 rw [YD (fun x k=>UX g x k) (xs:=g.Edges) (F:=WI N g) (e:=some true) (by omega)]
 ·unfold Pk;cases ZN _ g.Edges 0<;>rfl
 ·intro n k x hk hx
  have inner:VJ g (k:Int) (WI N g n) x N (0:Int)=bif ZN (fun y i=>SI x y (decide (k=i))) g.Edges 0 then HD (k:Int) (WI N g n) else some false:=by
   refine YD (fun y i=>SI x y (decide (k=i))) (by omega) ?_ ?_
   ·intro m i y hi hy
    simp only [VJ,ZG hi,Zs,hy,cT,bS,ZdL (i:Int) (k:Int),Zgc,SH,ZA (show i < 4611686018427387904 by omega),SI,ZdL y.Act.From x.Act.From,ZdL y.Act.Label x.Act.Label]
    cases decide (k=i)<;>cases (x.From==y.From)<;>cases ((x.Act.From==y.Act.From) && ((x.Act.To==y.Act.To) && ((x.Act.Label==y.Act.Label) && true)))<;>cases (x.Act.From != y.Act.From)<;>cases x.Again<;>cases (y.To==x.From)<;>cases (x.Act.Label != y.Act.Label)<;>rfl
   ·intro m i hi
    simp only [VJ,ZJ hi,cond_false]
  simp only [WI,ZG hk,Zs,hx,cT,bS,Hg,inner,HD,ZA (show k < 4611686018427387904 by omega),UX]
  cases x.Again<;>cases (x.From==g.Start)<;>cases ZN (fun y i=>SI x y (decide (k=i))) g.Edges 0<;>rfl
 ·intro n k hk
  simp only [WI,ZJ hk,cond_false,DU]
theorem Zf8 (g:T5):Zb2 g=(Pk g && g.Edges.all fun x => !(x.From==g.End)):=by
 unfold Zb2 Pk
 suffices h:∀ (l:List T2) (k:Nat),ZN (fun x k => !(x.From==g.End) && UX g x k) l k=(ZN (fun x k=>UX g x k) l k && l.all fun x => !(x.From==g.End)) from h _ _
 intro l
 induction l with
 | nil=>intro k;rfl
 | cons x l ih =>
  intro k
  show ((!(x.From==g.End) && UX g x k) && ZN _ l (k+1))=((UX g x k && ZN _ l (k+1)) && _)
  rw [ih,List.all_cons]
  cases (x.From==g.End)<;>cases UX g x k<;>simp
end
section
variable {N:Nat} (hN:4194304 < N)
def Zdh (g:T5) (x:W5):Bool:=match Zm g.Edges x.Else with | some e=>e.From==x.State && !e.Again | none=>false
def Y9 (g:T5) (x:W5):Prop:=1≤x.Ticks∧x.Ticks≤1000∧0≤x.Else∧x.Else < (g.Edges.length:Int)∧Zdh g x=true
instance (g:T5) (x:W5):Decidable (Y9 g x):=by unfold Y9;infer_instance
def Xg (g:T5):Nat→Int
 | 0=>-1
 | k+1=>match g.Timeouts[k]? with | some t=>t.State | none=>-1
def Mp (g:T5):Bool:=ZN (fun x k=>decide (Xg g k < x.State∧Y9 g x)) g.Timeouts 0
theorem ZeY {g:T5} {i:Int} (h0:0≤i) (h1:i < (g.Edges.length:Int)):∃ e,Zm g.Edges i=some e∧e∈g.Edges:=by
 obtain ⟨e,h,_,hm⟩:=(show Vx g i from ⟨h0,h1⟩).get
 exact ⟨e,h,hm⟩
include hN in
theorem Zhr (g:T5) (hg:g.Timeouts.length≤4194304):BF N g=some (Mp g):=by
 unfold BF
 have h:=YD (fun x k=>decide (Xg g k < x.State∧Y9 g x)) (xs:=g.Timeouts) (F:=fun n i=>UP g n (Xg g i.toNat) i) (e:=some true) (n:=N) (by omega) (by
  intro n k x hk hx
  show UP g (n+1) (Xg g k) (k:Int)=bif decide (Xg g k < x.State∧Y9 g x) then UP g n (Xg g (k+1)) ((k+1:Nat):Int) else some false
  have hl:Xg g (k+1)=x.State:=by simp only [Xg,hx]
  rw [hl]
  simp only [UP,ZG hk,Zs,hx,cT,bS,ZA (show k < 4611686018427387904 by omega)]
  by_cases c1:x.State≤Xg g k
  ·rw [dT c1,dF (show ¬ (Xg g k < x.State∧Y9 g x) by omega)];rfl
  by_cases c2:x.Ticks < 1
  ·rw [dF c1,dT c2,dF (show ¬ (Xg g k < x.State∧Y9 g x) by unfold Y9;omega)];rfl
  by_cases c3:x.Ticks > 1000
  ·rw [dF c1,dF c2,dT c3,dF (show ¬ (Xg g k < x.State∧Y9 g x) by unfold Y9;omega)];rfl
  by_cases c4:x.Else < 0
  ·rw [dF c1,dF c2,dF c3,dT c4,dF (show ¬ (Xg g k < x.State∧Y9 g x) by unfold Y9;omega)];rfl
  by_cases c5:x.Else≥(g.Edges.length:Int)
  ·rw [dF c1,dF c2,dF c3,dF c4,dT c5,dF (show ¬ (Xg g k < x.State∧Y9 g x) by unfold Y9;omega)];rfl
  obtain ⟨e,he,_⟩:=ZeY (g:=g) (i:=x.Else) (by omega) (by omega)
  rw [dF c1,dF c2,dF c3,dF c4,dF c5,he]
  have hok:decide (Xg g k < x.State∧Y9 g x)=(e.From==x.State && !e.Again):=by
   rw [Bool.eq_iff_iff,decide_eq_true_iff]
   unfold Y9 Zdh
   rw [he]
   constructor
   ·intro h;exact h.2.2.2.2.2
   ·intro h;exact ⟨by omega,by omega,by omega,by omega,by omega,h⟩
  rw [hok]
  simp only [bS,cond_false]
  cases hf:(e.From==x.State)
  ·rw [show (e.From != x.State)=true by unfold bne;rw [hf];rfl];rfl
  ·rw [show (e.From != x.State)=false by unfold bne;rw [hf];rfl]
   cases e.Again<;>rfl) (by
  intro n k hk
  show UP g (n+1) (Xg g k) (k:Int)=some true
  simp only [UP,ZJ hk,cond_false,Dj])
 have h':UP g N (-1) (0:Int)=bif ZN (fun x k=>decide (Xg g k < x.State∧Y9 g x)) g.Timeouts 0 then some true else some false:=h
 rw [h']
 unfold Mp
 cases ZN _ g.Timeouts 0<;>rfl
theorem Zdf {g:T5} (h:Vo g=true) {x:T2} (hx:x∈g.Edges):Yv g x:=by
 unfold Vo at h
 rw [Zc] at h
 obtain ⟨i,hi⟩:=List.mem_iff_getElem?.mp hx
 exact of_decide_eq_true ((Xc _ _ _).mp h.2 i x hi)
theorem H7 {g:T5} (h:Vo g=true):Xp g:=by
 unfold Vo at h
 rw [Zc] at h
 exact of_decide_eq_true h.1
include hN in
theorem ZrM (g:T5) (hg:g.Timeouts.length≤4194304) (hv:Vo g=true):D8 N g=some (Mp g):=by
  unfold D8
  rw [YD (fun x k=>decide (Xg g k < x.State∧Y9 g x)) (xs:=g.Timeouts) (F:=Te N g) (e:=some true) (by omega)]
  · unfold Mp;cases ZN _ g.Timeouts 0<;>rfl
  · intro n k x hk hx
    simp only [Te,ZG hk,Zs,hx,cT,bS,ZA (show k < 4611686018427387904 by omega),Zb6]
    by_cases c0:0≤x.State∧x.State < g.States
    · rw [dT c0]
      simp only [Zh,cond_false]
      -- the tests behind the order
      have rest:∀ (b:Bool) (hb:b=decide (Xg g k < x.State)),(bif !b then some false else bif decide (x.Ticks < (1:Int)) then (some false)
         else bif decide (x.Ticks > (1000:Int)) then (some false)
         else bif decide (x.Else < (0:Int)) then (some false)
         else bif decide (x.Else≥(g.Edges.length:Int)) then (some false)
         else (Zm g.Edges x.Else).bind fun x116 =>
         bif (x116.From != x.State) then (some false)
         else (Zm g.Edges x.Else).bind fun x117 =>
         bif x117.Again then (some false)
         else Te N g n ((k+1:Nat):Int))=bif decide (Xg g k < x.State∧Y9 g x) then Te N g n ((k+1:Nat):Int) else some false:=by
        intro b hb
        by_cases c1:Xg g k < x.State
        · rw [hb,dT c1]
          by_cases c2:x.Ticks < 1
          · rw [dT c2,dF (show ¬ (Xg g k < x.State∧Y9 g x) by unfold Y9;omega)];rfl
          by_cases c3:x.Ticks > 1000
          · rw [dF c2,dT c3,dF (show ¬ (Xg g k < x.State∧Y9 g x) by unfold Y9;omega)];rfl
          by_cases c4:x.Else < 0
          · rw [dF c2,dF c3,dT c4,dF (show ¬ (Xg g k < x.State∧Y9 g x) by unfold Y9;omega)];rfl
          by_cases c5:x.Else≥(g.Edges.length:Int)
          · rw [dF c2,dF c3,dF c4,dT c5,dF (show ¬ (Xg g k < x.State∧Y9 g x) by unfold Y9;omega)];rfl
          obtain ⟨e,he,_⟩:=ZeY (g:=g) (i:=x.Else) (by omega) (by omega)
          rw [dF c2,dF c3,dF c4,dF c5,he]
          have hok:decide (Xg g k < x.State∧Y9 g x)=(e.From==x.State && !e.Again):=by
            rw [Bool.eq_iff_iff,decide_eq_true_iff]
            unfold Y9 Zdh
            rw [he]
            constructor
            · intro h;exact h.2.2.2.2.2
            · intro h;exact ⟨by omega,by omega,by omega,by omega,by omega,h⟩
          rw [hok]
          simp only [bS,cond_false,Zh]
          cases hf:(e.From==x.State)
          · rw [show (e.From != x.State)=true by unfold bne;rw [hf];rfl];rfl
          · rw [show (e.From != x.State)=false by unfold bne;rw [hf];rfl]
            cases e.Again<;>rfl
        · rw [hb,dF c1,dF (show ¬ (Xg g k < x.State∧Y9 g x) by omega)];rfl
      cases k with
      | zero =>
        have hd:decide (((0:Nat):Int) > 0)=false:=rfl
        rw [hd,cond_false]
        have:=rest true (by rw [dT];show (-1:Int) < x.State;omega)
        simpa using this
      | succ k =>
        have hd:decide (((k+1:Nat):Int) > 0)=true:=by simp
        obtain ⟨p,hp⟩:∃ p,g.Timeouts[k]? = some p:=⟨g.Timeouts[k]'(by omega),Za _⟩
        have hl:Xg g (k+1)=p.State:=by simp only [Xg,hp]
        have hw:Zi (((k+1:Nat):Int)-1)=(k:Int):=by rw [Ym (by omega) (by omega)];omega
        rw [hd,cT,hw,Zs,hp,bS]
        have:=rest (!decide (x.State≤p.State)) (by
          rw [hl]
          by_cases q:x.State≤p.State
          · rw [dT q,dF (by omega)];rfl
          · rw [dF q,dT (by omega)];rfl)
        rw [Bool.not_not] at this
        exact this
    · rw [dF c0]
      have:¬ (Xg g k < x.State∧Y9 g x):=by
        rintro ⟨_,_,_,h3,h4,h5⟩
        obtain ⟨e,he,hm⟩:=ZeY h3 h4
        unfold Zdh at h5
        rw [he] at h5
        simp only [Zc,beq_iff_eq] at h5
        obtain ⟨o1,o2,_⟩:=Zdf hv hm
        rw [h5.1] at o1 o2
        exact c0 ⟨o1,o2⟩
      rw [dF this];rfl
  · intro n k hk
    simp only [Te,ZJ hk,cond_false,G3]
end
section
theorem Td {α:Type} {L:List α} {v:Int} {d:α} (h:Zm L v=some d):0≤v∧v < (L.length:Int):=by
 by_cases h0:0≤v
 ·obtain ⟨k,rfl⟩:∃ k:Nat,v=(k:Int):=⟨v.toNat,by omega⟩
  rw [Zs] at h
  obtain ⟨hk,_⟩:=List.getElem?_eq_some_iff.mp h
  exact ⟨h0,by omega⟩
 ·unfold Zm at h
  rw [dF h0] at h;cases h
theorem Y3 {α:Type} {L:List α} {v:Int} (h0:0≤v) (h1:v < (L.length:Int)):∃ d,Zm L v=some d:=by
 obtain ⟨k,rfl⟩:∃ k:Nat,v=(k:Int):=⟨v.toNat,by omega⟩
 exact ⟨L[k]'(by omega),by rw [Zs,Za]⟩
theorem Pg {α:Type} (L:List α) {b:Int} (d:α) (h0:0≤b):(ZW L b d).length=L.length:=by
 obtain ⟨k,rfl⟩:∃ k:Nat,b=(k:Int):=⟨b.toNat,by omega⟩
 rw [WH];simp
theorem Rt {α:Type} {L:List α} {b:Int} {d:α} (h0:0≤b) (h1:b < (L.length:Int)) (v:Int):Zm (ZW L b d) v=if v=b then some d else Zm L v:=by
 obtain ⟨k,rfl⟩:∃ k:Nat,b=(k:Int):=⟨b.toNat,by omega⟩
 rw [WH]
 by_cases hv:0≤v
 ·obtain ⟨j,rfl⟩:∃ j:Nat,v=(j:Int):=⟨v.toNat,by omega⟩
  rw [Zs,Zs,List.getElem?_set]
  by_cases e:k=j
  ·subst e;simp;omega
  ·rw [if_neg e,if_neg (by omega)]
 ·rw [if_neg (by omega)]
  unfold Zm
  rw [dF hv];rfl
theorem count_set {L:List Int} {b d:Int} (h:Zm L b=some (-1)) (hd:d≠-1):(ZW L b d).count (-1)+1=L.count (-1):=by
 obtain ⟨h0,h1⟩:=Td h
 obtain ⟨k,rfl⟩:∃ k:Nat,b=(k:Int):=⟨b.toNat,by omega⟩
 rw [Zs] at h
 rw [WH]
 obtain ⟨A,x,B,rfl,hl⟩:=ZnX L k (by omega)
 rw [ZeP A x B hl] at h
 cases h
 rw [ZiB A (-1) d B hl]
 simp [List.count_append,List.count_cons,hd]
 omega
def er (back:Bool) (x:T2):Int × Int:=(bif back then x.To else x.From,bif back then x.From else x.To)
def WY (g:T5) (back:Bool):List (Int × Int):=g.Edges.map (er back)
structure Jn (E:List (Int × Int)) (S:Nat) (e da:Int) (out todo:List Int) (mu:Nat):Prop where
 len:out.length=S
 lo:∀ v d,Zm out v=some d→-1≤d∧d≤da+1
 ub:∀ v d,Zm out v=some d→d+(out.count (-1):Nat)+1≤(S:Int)
 root:Zm out e=some 0
 zero:∀ v,Zm out v=some 0→v=e
 pred:∀ v d,Zm out v=some d→0 < d→∃ u,(u,v)∈E∧Zm out u=some (d-1)
 todo_in:∀ v∈todo,∃ d,Zm out v=some d∧da≤d∧0≤d
 sorted:todo.Pairwise (fun x y=>∀ dx dy,Zm out x=some dx→Zm out y=some dy→dx≤dy)
 proc:∀ u v d,(u,v)∈E→Zm out u=some d→0≤d→u ∉ todo→∃ d',Zm out v=some d'∧0≤d'∧d'≤d+1
 mu_eq:out.count (-1)+todo.length=mu
theorem Jn.push {E:List (Int × Int)} {S:Nat} {e da a v:Int} {out todo:List Int} {mu:Nat} (h:Jn E S e da out todo mu) (ha:Zm out a=some da) (ha0:0≤da) (hE:(a,v)∈E) (hv:Zm out v=some (-1)) :
  Jn E S e da (ZW out v (da+1)) (todo++[v]) mu∧∀ w d,Zm out w=some d→0≤d→Zm (ZW out v (da+1)) w=some d:=by
 obtain ⟨v0,v1⟩:=Td hv
 have hset:=fun w=>Rt (L:=out) (d:=da+1) v0 v1 w
 have hcnt:=count_set hv (d:=da+1) (by omega)
 have ext:∀ w d,Zm out w=some d→0≤d→Zm (ZW out v (da+1)) w=some d:=by
  intro w d hw hd
  rw [hset,if_neg]
  ·exact hw
  ·intro hc;subst hc;rw [hv] at hw;cases hw;omega
 refine ⟨⟨?_,?_,?_,ext _ _ h.root (by omega),?_,?_,?_,?_,?_,?_⟩,ext⟩
 ·rw [Pg _ _ v0,h.len]
 ·intro w d hw
  rw [hset] at hw
  split at hw
  ·cases hw;omega
  ·exact h.lo w d hw
 ·intro w d hw
  have:=h.ub a da ha
  rw [hset] at hw
  split at hw
  ·cases hw;omega
  ·have:=h.ub w d hw;omega
 ·intro w hw
  rw [hset] at hw
  split at hw
  ·have:=Option.some.inj hw;omega
  ·exact h.zero w hw
 ·intro w d hw hd
  rw [hset] at hw
  split at hw
  ·rename_i hc
   cases hw
   subst hc
   exact ⟨a,hE,by rw [show da+1-1=da by omega];exact ext a da ha ha0⟩
  ·obtain ⟨u,u1,u2⟩:=h.pred w d hw hd
   exact ⟨u,u1,ext _ _ u2 (by omega)⟩
 ·intro w hw
  rcases List.mem_append.mp hw with hw | hw
  ·obtain ⟨d,d1,d2,d3⟩:=h.todo_in w hw
   exact ⟨d,ext _ _ d1 d3,d2,d3⟩
  ·simp at hw;subst hw
   exact ⟨da+1,by rw [hset,if_pos rfl],by omega,by omega⟩
 ·refine List.pairwise_append.mpr ⟨?_,by simp,?_⟩
  ·refine List.Pairwise.imp_of_mem ?_ h.sorted
   intro x y hx hy hxy dx dy h1 h2
   obtain ⟨d,d1,d2,d3⟩:=h.todo_in x hx
   obtain ⟨f,f1,f2,f3⟩:=h.todo_in y hy
   rw [ext _ _ d1 d3] at h1;rw [ext _ _ f1 f3] at h2
   cases h1;cases h2
   exact hxy _ _ d1 f1
  ·intro x hx y hy dx dy h1 h2
   simp at hy;subst hy
   obtain ⟨d,d1,d2,d3⟩:=h.todo_in x hx
   rw [ext _ _ d1 d3] at h1
   rw [hset,if_pos rfl] at h2
   cases h1;cases h2
   exact (h.lo x _ d1).2
 ·intro p q d hpq hp hd hn
  have hpv:p≠v:=fun hc=>hn (by simp [hc])
  rw [hset,if_neg hpv] at hp
  obtain ⟨d',q1,q2,q3⟩:=h.proc p q d hpq hp hd (fun hc=>hn (by simp [hc]))
  exact ⟨d',ext _ _ q1 q2,q2,q3⟩
 ·have:=h.mu_eq
  simp;omega
variable {N:Nat}
theorem Zl7 (g:T5) (back:Bool) (S:Nat) (hS:S≤4194304) (hg:g.Edges.length≤4194304) (hE:∀ x∈g.Edges,0≤(er back x).1∧(er back x).1 < (S:Int)∧0≤(er back x).2∧(er back x).2 < (S:Int)) (ag:List Int→List Int→Option (List Int)) (e a da:Int) (ha0:0≤da) (mu:Nat) (hmu:mu≤4194304) :
  ∀ (l:List T2) (k n:Nat) (out rest:List Int),g.Edges.drop k=l→l.length < n→Jn (WY g back) S e da out (a::rest) mu→Zm out a=some da →
  (∀ i x,i < k→g.Edges[i]? = some x→(er back x).1=a→∃ d,Zm out (er back x).2=some d∧0≤d) →
  ∃ out' rest',VR g back ag n out (a::rest) (k:Int)=MM ag out' (a::rest')∧Jn (WY g back) S e da out' (a::rest') mu∧Zm out' a=some da ∧
   (∀ x∈g.Edges,(er back x).1=a→∃ d,Zm out' (er back x).2=some d∧0≤d):=by
 intro l
 induction l with
 | nil =>
  intro k n out rest h hn hJ ha hd
  obtain ⟨n,rfl⟩:=pS n (by simp at hn;omega)
  have hk:=XF h
  refine ⟨out,rest,?_,hJ,ha,?_⟩
  ·simp only [VR,ZJ hk,cond_false]
  ·intro x hx hxa
   obtain ⟨i,hi⟩:=List.mem_iff_getElem?.mp hx
   have:i < g.Edges.length:=(List.getElem?_eq_some_iff.mp hi).1
   exact hd i x (by omega) hi hxa
 | cons x l ih =>
  intro k n out rest h hn hJ ha hd
  obtain ⟨n,rfl⟩:=pS n (by simp at hn;omega)
  obtain ⟨hk,hx,hdr⟩:=Xr h
  simp only [Zg] at hn
  have hxm:x∈g.Edges:=Zb hx
  obtain ⟨r1,r2,r3,r4⟩:=hE x hxm
  have wk':Zi ((k:Int)+1)=((k+1:Nat):Int):=ZA (by omega)
  have e0:Zm (a::rest) (0:Int)=some a:=by rw [show (0:Int)=((0:Nat):Int) from rfl,Zs];rfl
  have step:VR g back ag (n+1) out (a::rest) (k:Int)=MC out (a::rest) (k:Int) (VR g back ag n) (er back x).1 (er back x).2:=by
   simp only [VR,ZG hk,Zs,hx,cT,bS,er]
   cases back<;>rfl
  rw [step]
  unfold MC
  rw [e0,bS]
  by_cases hxa:(er back x).1=a
  ·rw [show ((er back x).1==a)=true by simp [hxa],cT]
   obtain ⟨d,hdv⟩:=Y3 (L:=out) r3 (by rw [hJ.len];exact r4)
   rw [hdv,bS]
   by_cases hneg:d < 0
   ·rw [dT hneg,cT,hxa,ha]
    have hm1:d=-1:=by have:=(hJ.lo _ _ hdv).1;omega
    subst hm1
    obtain ⟨hJ',ext⟩:=hJ.push ha ha0 (v:=(er back x).2) (by rw [← hxa];exact List.mem_map.mpr ⟨x,hxm,rfl⟩) hdv
    have hub:=hJ.ub a da ha
    have hml:=hJ.mu_eq
    simp only [Zg] at hml
    simp only [bS,hdv]
    rw [Yl (by simp;omega),bS,Ym (n:=da+1) (by omega) (by omega),wk']
    obtain ⟨out',rest',q1,q2,q3,q4⟩:=ih (k+1) n _ (rest++[(er back x).2]) hdr (by omega) hJ' (ext _ _ ha ha0) (by
     intro i y hi hy hya
     by_cases hik:i=k
     ·subst hik
      rw [hx] at hy;cases hy
      exact ⟨da+1,by rw [Rt r3 (by rw [hJ.len];exact r4),if_pos rfl],by omega⟩
     ·obtain ⟨d',d1,d2⟩:=hd i y (by omega) hy hya
      exact ⟨d',ext _ _ d1 d2,d2⟩)
    exact ⟨out',rest',q1,q2,q3,q4⟩
   ·rw [dF hneg,cond_false,wk']
    exact ih (k+1) n out rest hdr (by omega) hJ ha (by
     intro i y hi hy hya
     by_cases hik:i=k
     ·subst hik
      rw [hx] at hy;cases hy
      exact ⟨d,hdv,by omega⟩
     ·exact hd i y (by omega) hy hya)
  ·rw [show ((er back x).1==a)=false by simp [hxa],cond_false,wk']
   exact ih (k+1) n out rest hdr (by omega) hJ ha (by
    intro i y hi hy hya
    by_cases hik:i=k
    ·subst hik
     rw [hx] at hy;cases hy
     exact absurd hya hxa
    ·exact hd i y (by omega) hy hya)
theorem ZtD (hN:4194304 < N) (g:T5) (back:Bool) (S:Nat) (hS:S≤4194304) (hg:g.Edges.length≤4194304) (hE:∀ x∈g.Edges,0≤(er back x).1∧(er back x).1 < (S:Int)∧0≤(er back x).2∧(er back x).2 < (S:Int)) (e:Int) :
  ∀ (n:Nat) (out todo:List Int) (da:Int) (mu:Nat),mu < n→mu≤4194304→Jn (WY g back) S e da out todo mu →
  ∃ L da' mu',VA N g back n out todo=some L∧Jn (WY g back) S e da' L [] mu':=by
 intro n
 induction n with
 | zero=>intro out todo da mu h;omega
 | succ n ih =>
  intro out todo da mu hn hmu hJ
  cases todo with
  | nil=>exact ⟨out,da,mu,rfl,hJ⟩
  | cons a rest =>
   obtain ⟨d0,ha,ha1,ha2⟩:=hJ.todo_in a (by simp)
   have hJ':Jn (WY g back) S e d0 out (a::rest) mu:=by
    refine ⟨hJ.len,fun v d hv=>⟨(hJ.lo v d hv).1,by have:=(hJ.lo v d hv).2;omega⟩,hJ.ub,hJ.root,hJ.zero,hJ.pred,?_,hJ.sorted,hJ.proc,hJ.mu_eq⟩
    intro v hv
    rcases List.mem_cons.mp hv with hv | hv
    ·subst hv;exact ⟨d0,ha,by omega,ha2⟩
    ·obtain ⟨d,d1,d2,d3⟩:=hJ.todo_in v (by simp [hv])
     exact ⟨d,d1,(List.pairwise_cons.mp hJ.sorted).1 v hv d0 d ha d1,d3⟩
   obtain ⟨out',rest',q1,q2,q3,q4⟩:=Zl7 g back S hS hg hE (VA N g back n) e a d0 ha2 mu hmu g.Edges 0 N out rest rfl (by omega) hJ' ha (by intro i x hi;omega)
   have hd:decide (((a::rest).length:Int) > 0)=true:=by simp
   have hJ2:Jn (WY g back) S e d0 out' rest' (mu-1):=by
    have hm:=q2.mu_eq
    simp only [Zg] at hm
    refine ⟨q2.len,q2.lo,q2.ub,q2.root,q2.zero,q2.pred,fun v hv=>q2.todo_in v (by simp [hv]),(List.pairwise_cons.mp q2.sorted).2,?_,by omega⟩
    intro u v d hE' hu hd' hnt
    by_cases hua:u=a
    ·subst hua
     rw [q3] at hu;cases hu
     obtain ⟨x,hx,hxe⟩:=List.mem_map.mp hE'
     obtain ⟨d',d1,d2⟩:=q4 x hx (by rw [hxe])
     rw [hxe] at d1
     exact ⟨d',d1,d2,(q2.lo _ _ d1).2⟩
    ·exact q2.proc u v d hE' hu hd' (by simp [hua,hnt])
   have hm:=q2.mu_eq
   simp only [Zg] at hm
   obtain ⟨L,da',mu',p1,p2⟩:=ih out' rest' d0 (mu-1) (by omega) (by omega) hJ2
   refine ⟨L,da',mu',?_,p2⟩
   simp only [VA,hd,cT]
   rw [show (0:Int)=((0:Nat):Int) from rfl,q1]
   unfold MM
   rw [show lsl (a::rest') (some (1:Int)) none=some rest' from ZdF (A:=[a]) (B:=rest') rfl rfl,bS,p1]
structure Dist (E:List (Int × Int)) (S:Nat) (e:Int) (L:List Int):Prop where
 len:L.length=S
 lo:∀ v d,Zm L v=some d→-1≤d∧d < (S:Int)
 root:Zm L e=some 0
 zero:∀ v,Zm L v=some 0→v=e
 pred:∀ v d,Zm L v=some d→0 < d→∃ u,(u,v)∈E∧Zm L u=some (d-1)
 succ:∀ u v d,(u,v)∈E→Zm L u=some d→0≤d→∃ d',Zm L v=some d'∧0≤d'∧d'≤d+1
theorem Jn.dist {E:List (Int × Int)} {S:Nat} {e da:Int} {L:List Int} {mu:Nat} (h:Jn E S e da L [] mu):Dist E S e L :=
 ⟨h.len,fun v d hv=>⟨(h.lo v d hv).1,by have:=h.ub v d hv;omega⟩,h.root,h.zero,h.pred,fun u v d hE hu hd=>h.proc u v d hE hu hd (by simp)⟩
end
section
variable {N:Nat}
theorem Zlb (N:Nat) {s:Nat} (hs:s≤200):BM N (wk .u64 (([(-1:Int)]:List Int).length:Int)) (wk .u64 (s:Int))=some ((0:Int),(s:Int)):=by
 have h:∀ s < 201,BM 0 (wk .u64 (([(-1:Int)]:List Int).length:Int)) (wk .u64 ((s:Nat):Int))=some ((0:Int),(s:Int)):=by decide +kernel
 exact h s (by omega)
theorem Zm2 (S:Nat) (hS:S≤200):∀ (n k:Nat),S-k < n→1≤k→k≤S →
  Qq n (List.replicate k (-1)++List.replicate (S-k) 0) (k:Int)=some (List.replicate S (-1)):=by
 intro n
 induction n with
 | zero=>intro k h;omega
 | succ n ih =>
  intro k hn h1 h2
  have hlen:(List.replicate k (-1:Int)++List.replicate (S-k) 0).length=S:=by simp;omega
  by_cases hk:k < S
  ·have hd:decide ((k:Int) < ((List.replicate k (-1:Int)++List.replicate (S-k) 0).length:Int))=true:=by rw [hlen];simp;omega
   have a1:lsl (List.replicate k (-1:Int)++List.replicate (S-k) 0) (some (k:Int)) none=some (List.replicate (S-k) 0):=ZdF rfl (by simp)
   have a2:lsl (List.replicate k (-1:Int)++List.replicate (S-k) 0) none (some (k:Int))=some (List.replicate k (-1)):=LZ rfl (by simp)
   have b1:X4 (some (k:Int)) none (List.replicate k (-1:Int)++List.replicate (S-k) 0).length=some (k,S):=by
    rw [hlen]
    have q1:decide ((0:Int)≤(k:Int))=true:=by simp
    have q2:decide ((k:Int)≤(S:Int))=true:=by simp;omega
    unfold X4
    simp only [Option.getD_some,Option.getD_none,q1,q2,Int.le_refl,decide_true,Bool.and_self,cT]
    simp
   have a3:Vv (List.replicate k (-1:Int)++List.replicate (S-k) 0) (some (k:Int)) none (List.replicate k (-1))=some (List.replicate (k+min k (S-k)) (-1)++List.replicate (S-(k+min k (S-k))) 0,((min k (S-k):Nat):Int)):=by
    unfold Vv
    rw [b1,Option.map_some]
    have e1:(List.replicate k (-1:Int)++List.replicate (S-k) 0).take k=List.replicate k (-1):=by simp
    have e2:(List.replicate k (-1:Int)).length=k:=by simp
    simp only [e1,e2]
    have e3:(List.replicate k (-1:Int)).take (min k (S-k))=List.replicate (min k (S-k)) (-1):=by rw [List.take_replicate];congr 1;omega
    have e4:(List.replicate k (-1:Int)++List.replicate (S-k) 0).drop (k+min k (S-k))=List.replicate (S-(k+min k (S-k))) 0:=by
     rw [List.drop_append,List.length_replicate,List.drop_replicate,List.drop_replicate,show k-(k+min k (S-k))=0 by omega,show S-k-(k+min k (S-k)-k)=S-(k+min k (S-k)) by omega];rfl
    rw [e3,e4,List.replicate_append_replicate]
   have hw:Zi ((k:Int)+((min k (S-k):Nat):Int))=((k+min k (S-k):Nat):Int):=by rw [Ym (by omega) (by omega)];omega
   have hmin:1≤min k (S-k)∧k+min k (S-k)≤S:=by omega
   simp only [Qq,hd,cT,a1,a2,a3,bS,hw]
   exact ih (k+min k (S-k)) (by omega) (by omega) (by omega)
  ·have hks:k=S:=by omega
   subst hks
   have hd:decide ((k:Int) < ((List.replicate k (-1:Int)++List.replicate (k-k) 0).length:Int))=false:=by rw [hlen];simp
   simp only [Qq,hd,cond_false,HK]
   simp
theorem Zrj (hN:4194304 < N) {s:Nat} (h1:1≤s) (h2:s≤200):GD N [(-1:Int)] (s:Int)=some (List.replicate s (-1)):=by
 unfold GD
 have c0:decide ((s:Int) < 0)=false:=by simp
 rw [c0,cond_false,Zlb N h2,bS]
 have c1:decide ((0:Int) > 0)=false:=rfl
 have c2:decide ((s:Int) > 9223372036854775807)=false:=by simp;omega
 simp only [c1,c2,cond_false,Lk]
 have w:Zi (s:Int)=(s:Int):=Ym (by omega) (by omega)
 have m:YG (0:Int) (Zi (s:Int)) (Zi (s:Int))=some (List.replicate s 0):=by
  rw [w];unfold YG
  have q1:decide ((0:Int)≤(s:Int))=true:=by simp
  have q2:decide ((s:Int)≤4294967296)=true:=by simp;omega
  simp only [q1,q2,Int.le_refl,decide_true,Bool.and_self,cT]
  simp
 rw [m,bS]
 have cp:Vv (List.replicate s (0:Int)) none none [(-1:Int)]=some (List.replicate 1 (-1)++List.replicate (s-1) 0,((1:Nat):Int)):=by
  unfold Vv X4
  have q1:decide ((0:Int)≤((List.replicate s (0:Int)).length:Int))=true:=by simp
  simp only [Option.getD_none,q1,Int.le_refl,decide_true,Bool.and_self,cT,Option.map_some]
  have e:min ([(-1:Int)]:List Int).length (((List.replicate s (0:Int)).length:Int).toNat-(0:Int).toNat)=1:=by simp;omega
  rw [e];simp
 rw [cp,bS]
 exact Zm2 s h2 N 1 (by omega) (by omega) h1
theorem Zdq (hN:4194304 < N) (g:T5) (hv:Vo g=true) (back:Bool) (e:Int) (h0:0≤e) (h1:e < g.States):∃ L,MR N g e back=some L∧Dist (WY g back) g.States.toNat e L:=by
 obtain ⟨o1,o2,o3,o4,o5,o6,o7⟩:=H7 hv
 have hS:g.States=(g.States.toNat:Int):=by omega
 generalize hs:g.States.toNat=S at *
 have hE:∀ x∈g.Edges,0≤(er back x).1∧(er back x).1 < (S:Int)∧0≤(er back x).2∧(er back x).2 < (S:Int):=by
  intro x hx
  obtain ⟨a1,a2,a3,a4,_⟩:=Zdf hv hx
  cases back
  ·exact ⟨a1,by rw [← hS];exact a2,a3,by rw [← hS];exact a4⟩
  ·exact ⟨a3,by rw [← hS];exact a4,a1,by rw [← hS];exact a2⟩
 have hrl:(List.replicate S (-1:Int)).length=S:=by simp
 have hri:∀ v:Int,0≤v→v < (S:Int)→Zm (List.replicate S (-1:Int)) v=some (-1):=by
  intro v v0 v1
  obtain ⟨k,rfl⟩:∃ k:Nat,v=(k:Int):=⟨v.toNat,by omega⟩
  rw [Zs,List.getElem?_replicate,if_pos (by omega)]
 have hre:=hri e h0 (by omega)
 have hset:=fun v=>Rt (L:=List.replicate S (-1:Int)) (b:=e) (d:=0) h0 (by rw [hrl];omega) v
 have hall:∀ v d,Zm (ZW (List.replicate S (-1:Int)) e 0) v=some d→(v=e∧d=0)∨(v≠e∧d=-1):=by
  intro v d hd
  rw [hset] at hd
  split at hd
  ·rename_i h;cases hd;exact .inl ⟨h,rfl⟩
  ·rename_i h
   obtain ⟨v0,v1⟩:=Td hd
   rw [hrl] at v1
   rw [hri v v0 v1] at hd
   cases hd;exact .inr ⟨h,rfl⟩
 have hcnt:(ZW (List.replicate S (-1:Int)) e 0).count (-1)+1=S:=by
  rw [count_set hre (by omega)];simp
 have hJ:Jn (WY g back) S e 0 (ZW (List.replicate S (-1:Int)) e 0) [e] S:=by
  refine ⟨by rw [Pg _ _ h0,hrl],?_,?_,by rw [hset,if_pos rfl],?_,?_,?_,by simp,?_,by simp;omega⟩
  ·intro v d hd;rcases hall v d hd with h | h<;>omega
  ·intro v d hd;rcases hall v d hd with h | h<;>omega
  ·intro v hd;rcases hall v 0 hd with h | h
   ·exact h.1
   ·omega
  ·intro v d hd hp;rcases hall v d hd with h | h<;>omega
  ·intro v hv';simp at hv';subst hv';exact ⟨0,by rw [hset,if_pos rfl],by omega,by omega⟩
  ·intro u v d _ hd hp hn
   rcases hall u d hd with h | h
   ·exact absurd (by simp [h.1]) hn
   ·omega
 obtain ⟨L,da',mu',p1,p2⟩:=ZtD hN g back S (by omega) (by omega) hE e N _ [e] 0 S (by omega) (by omega) hJ
 refine ⟨L,?_,p2.dist⟩
 unfold MR
 rw [hS,Zrj hN (by omega) (by omega),bS,hre,bS,p1]
/-! ### The reference's distances -/
def Tr (L M:List Int) (n:Int):Prop:=M.length=L.length∧∀ v d,Zm L v=some d→Zm M v=some (if d≤n then d else -1)
theorem ZqW {S:Nat} {g:T5} {e:Int} {L:List Int} (hD:Dist (WY g true) S e L) (hg:g.Edges.length≤4194304) (hE:∀ x∈g.Edges,Yv g x) (hS:g.States=(S:Int)) (hS2:S≤200) (q:Nat) (hq:q < S) (ag:List Int→Int→Option (List Int)) :
  ∀ (l:List T2) (k n:Nat) (M:List Int),g.Edges.drop k=l→l.length < n→M.length=L.length →
  (∀ v d,Zm L v=some d→Zm M v=some (if d≤(q:Int) then d else -1)∨(d=(q:Int)+1∧Zm M v=some ((q:Int)+1))) →
  (∀ i x,i < k→g.Edges[i]? = some x→Zm L x.To=some (q:Int)→Zm L x.From=some ((q:Int)+1)→Zm M x.From=some ((q:Int)+1)) →
  ∃ M',V5 g (q:Int) ag n M (k:Int)=ag M' ((q+1:Nat):Int)∧Tr L M' ((q:Int)+1):=by
 intro l
 induction l with
 | nil =>
  intro k n M h hn hl hM hd
  obtain ⟨n,rfl⟩:=pS n (by simp at hn;omega)
  have hk:=XF h
  refine ⟨M,?_,hl,?_⟩
  ·simp only [V5,ZJ hk,cond_false,BB]
   rw [ZA (by omega)]
  ·intro v d hv
   by_cases hdq:d=(q:Int)+1
   ·subst hdq
    obtain ⟨u,hu,hul⟩:=hD.pred v _ hv (by omega)
    obtain ⟨x,hx,hxe⟩:=List.mem_map.mp hu
    obtain ⟨i,hi⟩:=List.mem_iff_getElem?.mp hx
    have hil:i < g.Edges.length:=(List.getElem?_eq_some_iff.mp hi).1
    have e1:x.To=u:=congrArg Prod.fst hxe
    have e2:x.From=v:=congrArg Prod.snd hxe
    have:=hd i x (by omega) hi (by rw [e1,hul];congr 1;omega) (by rw [e2,hv])
    rw [e2] at this
    rw [this,if_pos (Int.le_refl _)]
   ·rcases hM v d hv with h | ⟨h,_⟩
    ·rw [h]
     by_cases hc:d≤(q:Int)
     ·rw [if_pos hc,if_pos (by omega)]
     ·rw [if_neg hc,if_neg (by omega)]
    ·exact absurd h hdq
 | cons x l ih =>
  intro k n M h hn hl hM hd
  obtain ⟨n,rfl⟩:=pS n (by simp at hn;omega)
  obtain ⟨hk,hx,hdr⟩:=Xr h
  simp only [Zg] at hn
  have hxm:x∈g.Edges:=Zb hx
  obtain ⟨r1,r2,r3,r4,_⟩:=hE x hxm
  obtain ⟨dt,hdt⟩:=Y3 (L:=L) r3 (by rw [hD.len,← hS];exact r4)
  obtain ⟨df,hdf⟩:=Y3 (L:=L) r1 (by rw [hD.len,← hS];exact r2)
  obtain ⟨mt,hmt⟩:=Y3 (L:=M) r3 (by rw [hl,hD.len,← hS];exact r4)
  obtain ⟨mf,hmf⟩:=Y3 (L:=M) r1 (by rw [hl,hD.len,← hS];exact r2)
  have wk':Zi ((k:Int)+1)=((k+1:Nat):Int):=ZA (by omega)
  have hmt2:mt=(q:Int)↔dt=(q:Int):=by
   rcases hM _ _ hdt with h | ⟨h1,h2⟩
   ·rw [hmt] at h
    have h:=Option.some.inj h
    split at h<;>omega
   ·rw [hmt] at h2
    have h2:=Option.some.inj h2
    omega
  have keep:∀ (hne:dt=(q:Int)→Zm L x.From=some ((q:Int)+1)→Zm M x.From=some ((q:Int)+1)),
    ∃ M',V5 g (q:Int) ag n M ((k+1:Nat):Int)=ag M' ((q+1:Nat):Int)∧Tr L M' ((q:Int)+1):=by
   intro hne
   refine ih (k+1) n M hdr (by omega) hl hM ?_
   intro i y hi hy hyt hyf
   by_cases hik:i=k
   ·subst hik
    rw [hx] at hy;cases hy
    rw [hdt] at hyt
    exact hne (Option.some.inj hyt) hyf
   ·exact hd i y (by omega) hy hyt hyf
  by_cases hc:dt=(q:Int)
  ·have hb:(mt==(q:Int))=true:=by simp [hmt2.mpr hc]
   obtain ⟨d',d1,d2,d3⟩:=hD.succ x.To x.From dt (List.mem_map.mpr ⟨x,hxm,rfl⟩) hdt (by omega)
   rw [hdf] at d1
   have d1:=Option.some.inj d1
   by_cases hneg:mf < 0
   ·have hdq:df=(q:Int)+1:=by
     rcases hM _ _ hdf with h | ⟨h1,_⟩
     ·rw [hmf] at h
      have h:=Option.some.inj h
      split at h<;>omega
     ·exact h1
    have hset:=fun v=>Rt (L:=M) (b:=x.From) (d:=(q:Int)+1) r1 (by rw [hl,hD.len,← hS];exact r2) v
    simp only [V5,ZG hk,cT,Zs,hx,bS,hmt,hb,hmf,dT hneg,wk']
    rw [Ym (n:=(q:Int)+1) (by omega) (by omega)]
    refine ih (k+1) n _ hdr (by omega) (by rw [Pg _ _ r1,hl]) ?_ ?_
    ·intro v d hv
     rw [hset]
     by_cases hvf:v=x.From
     ·subst hvf
      rw [hdf] at hv;cases hv
      exact .inr ⟨hdq,by rw [if_pos rfl]⟩
     ·rw [if_neg hvf];exact hM v d hv
    ·intro i y hi hy hyt hyf
     rw [hset]
     by_cases hvf:y.From=x.From
     ·rw [if_pos hvf]
     ·rw [if_neg hvf]
      by_cases hik:i=k
      ·subst hik
       rw [hx] at hy;cases hy
       exact absurd rfl hvf
      ·exact hd i y (by omega) hy hyt hyf
   ·simp only [V5,ZG hk,cT,Zs,hx,bS,hmt,hb,hmf,dF hneg,cond_false,wk']
    refine keep ?_
    intro _ hlf
    rw [hdf] at hlf
    have hlf:=Option.some.inj hlf
    rcases hM _ _ hdf with h | ⟨_,h⟩
    ·rw [hmf] at h
     have h:=Option.some.inj h
     rw [if_neg (by omega)] at h
     omega
    ·exact h
  ·have hb:(mt==(q:Int))=false:=by simp;omega
   simp only [V5,ZG hk,cT,Zs,hx,bS,hmt,hb,cond_false,wk']
   exact keep (fun h=>absurd h hc)
theorem Znl (hN:4194304 < N) {S:Nat} {g:T5} {e:Int} {L:List Int} (hD:Dist (WY g true) S e L) (hg:g.Edges.length≤4194304) (hE:∀ x∈g.Edges,Yv g x) (hS:g.States=(S:Int)) (hS2:S≤200) :
  ∀ (n q:Nat) (M:List Int),S-q < n→q≤S→Tr L M (q:Int)→Ub N g n M (q:Int)=some L:=by
 intro n
 induction n with
 | zero=>intro q M h;omega
 | succ n ih =>
  intro q M hn hq hT
  by_cases hlt:q < S
  ·have hd:decide ((q:Int) < g.States)=true:=by rw [hS];simp;omega
   obtain ⟨M',m1,m2⟩:=ZqW hD hg hE hS hS2 q hlt (Ub N g n) g.Edges 0 N M rfl (by omega) hT.1 (fun v d hv=>.inl (hT.2 v d hv)) (by intro i x hi;omega)
   simp only [Ub,hd,cT]
   rw [show (0:Int)=((0:Nat):Int) from rfl,m1]
   exact ih (q+1) M' (by omega) (by omega) (by rw [show ((q+1:Nat):Int)=(q:Int)+1 by omega];exact m2)
  ·have hqs:q=S:=by omega
   subst hqs
   have hd:decide ((q:Int) < g.States)=false:=by rw [hS];simp
   simp only [Ub,hd,cond_false,GA]
   congr 1
   refine List.ext_getElem? fun i=>?_
   by_cases hi:i < L.length
   ·obtain ⟨d,hdv⟩:=Y3 (L:=L) (v:=(i:Int)) (by omega) (by omega)
    have:=hT.2 _ _ hdv
    rw [if_pos (by have:=(hD.lo _ _ hdv).2;omega)] at this
    rw [Zs] at this hdv
    rw [this,hdv]
   ·rw [List.getElem?_eq_none (by rw [hT.1];omega),List.getElem?_eq_none (by omega)]
theorem ZrC {S:Nat} {g:T5} (hS:g.States=(S:Int)) (hS2:S≤200):∀ (n k:Nat) (M:List Int),S-k < n→k≤S→M.length=S→(∀ i:Nat,i < k→M[i]? = some (-1)) →
  QR N g n M (k:Int)=Hf N g (List.replicate S (-1)):=by
 intro n
 induction n with
 | zero=>intro k M h;omega
 | succ n ih =>
  intro k M hn hk hl hM
  by_cases hlt:k < S
  ·have hd:decide ((k:Int) < g.States)=true:=by rw [hS];simp;omega
   obtain ⟨d,hdv⟩:=Y3 (L:=M) (v:=(k:Int)) (by omega) (by omega)
   simp only [QR,hd,cT,hdv,bS]
   rw [ZA (by omega)]
   refine ih (k+1) _ (by omega) (by omega) (by rw [Pg _ _ (by omega),hl]) ?_
   intro i hi
   rw [WH,List.getElem?_set]
   by_cases hik:k=i
   ·subst hik;simp;omega
   ·rw [if_neg hik];exact hM i (by omega)
  ·have hks:k=S:=by omega
   subst hks
   have hd:decide ((k:Int) < g.States)=false:=by rw [hS];simp
   simp only [QR,hd,cond_false]
   congr 1
   refine List.ext_getElem? fun i=>?_
   rw [List.getElem?_replicate]
   by_cases hi:i < k
   ·rw [if_pos hi];exact hM i hi
   ·rw [if_neg hi];exact List.getElem?_eq_none (by omega)
theorem ZnL (hN:4194304 < N) (g:T5) (hv:Vo g=true) {L:List Int} (hD:Dist (WY g true) g.States.toNat g.End L):Bn N g=some L:=by
 obtain ⟨o1,o2,o3,o4,o5,o6,o7⟩:=H7 hv
 have hS:g.States=(g.States.toNat:Int):=by omega
 generalize hs:g.States.toNat=S at *
 have m:YG (0:Int) g.States g.States=some (List.replicate S 0):=by
  rw [hS];unfold YG
  have q1:decide ((0:Int)≤(S:Int))=true:=by simp
  have q2:decide ((S:Int)≤4294967296)=true:=by simp;omega
  simp only [q1,q2,Int.le_refl,decide_true,Bool.and_self,cT]
  simp
 unfold Bn
 rw [m,bS,show (0:Int)=((0:Nat):Int) from rfl,ZrC hS (by omega) N 0 _ (by omega) (by omega) (by simp) (by intro i hi;omega)]
 unfold Hf
 have hrl:(List.replicate S (-1:Int)).length=S:=by simp
 have hri:∀ v:Int,0≤v→v < (S:Int)→Zm (List.replicate S (-1:Int)) v=some (-1):=by
  intro v v0 v1
  obtain ⟨k,rfl⟩:∃ k:Nat,v=(k:Int):=⟨v.toNat,by omega⟩
  rw [Zs,List.getElem?_replicate,if_pos (by omega)]
 rw [hri g.End o5 (by omega),bS]
 refine Znl hN hD (by omega) (fun x hx=>Zdf hv hx) hS (by omega) N 0 _ (by omega) (by omega) ?_
 refine ⟨by rw [Pg _ _ o5,hrl,hD.len],?_⟩
 intro v d hdv
 have hr:=Td hdv
 rw [hD.len] at hr
 rw [Rt o5 (by rw [hrl];omega)]
 have hlo:=hD.lo v d hdv
 by_cases hve:v=g.End
 ·subst hve
  rw [hD.root] at hdv;cases hdv
  rw [if_pos rfl];rfl
 ·rw [if_neg hve,hri v hr.1 hr.2]
  by_cases h0:d≤((0:Nat):Int)
  ·rw [if_pos h0]
   have:d≠0:=by intro hc;subst hc;exact hve (hD.zero v hdv)
   congr 1;omega
  ·rw [if_neg h0]
end
section
variable {N:Nat}
def Wu (L:List Int):Bool := !(L.any fun d=>d==-1)
theorem Zgu {E:List (Int × Int)} {S:Nat} {e:Int} {L:List Int} (h:Dist E S e L):Wu L=true↔∀ v d,Zm L v=some d→0≤d:=by
 unfold Wu
 rw [Bool.not_eq_true',List.any_eq_false]
 constructor
 ·intro h1 v d hv
  obtain ⟨v0,v1⟩:=Td hv
  obtain ⟨k,rfl⟩:∃ k:Nat,v=(k:Int):=⟨v.toNat,by omega⟩
  have hl:=(h.lo _ _ hv).1
  rw [Zs] at hv
  have:=h1 d (Zb hv)
  simp at this
  omega
 ·intro h1 d hd
  obtain ⟨k,hk⟩:=List.mem_iff_getElem?.mp hd
  have:=h1 (k:Int) d (by rw [Zs,hk])
  simp;omega
theorem Zbw (hN:4194304 < N) (l:List Int) (hl:l.length≤4194304) (v:Int):Ht N l v=some (l.any fun d=>d==v):=by
 unfold Ht ZbT
 rw [Zl l hl (fun x k r=>bif x==v then some k else r) (Rl l v) (some (-1)) hN]
 ·obtain ⟨i,h1,h2⟩:=HN (fun x=>x==v) l 0
  rw [h1,bS,h2]
 ·intro n k x hk hx
  simp only [Rl,ZG hk,Zs,hx,cT,bS]
  rw [show (v==x)=(x==v) by rw [Bool.eq_iff_iff,beq_iff_eq,beq_iff_eq];exact ⟨Eq.symm,Eq.symm⟩]
 ·intro n k hk
  simp only [Rl,ZJ hk,cond_false,BN]
structure Rc (S:Nat) (F:List Int) (n:Int) (R:List Bool):Prop where
 len:R.length=S
 sound:∀ v,Zm R v=some true→∃ d,Zm F v=some d∧0≤d
 full:∀ v d,Zm F v=some d→0≤d→d≤n→Zm R v=some true
theorem Rc.set {S:Nat} {F:List Int} {n:Int} {R:List Bool} (h:Rc S F n R) {v:Int} {b:Bool} (v0:0≤v) (v1:v < (S:Int)) (hb:b=true→∃ d,Zm F v=some d∧0≤d) (hm:Zm R v=some true→b=true):Rc S F n (ZW R v b):=by
 have hset:=fun w=>Rt (L:=R) (d:=b) v0 (by rw [h.len];exact v1) w
 refine ⟨by rw [Pg _ _ v0,h.len],?_,?_⟩
 ·intro w hw
  rw [hset] at hw
  split at hw
  ·rename_i hc;subst hc;exact hb (Option.some.inj hw)
  ·exact h.sound w hw
 ·intro w d hw h0 h1
  rw [hset]
  split
  ·rename_i hc;subst hc
   rw [hm (h.full _ _ hw h0 h1)]
  ·exact h.full w d hw h0 h1
theorem Ztl {S:Nat} {g:T5} {e:Int} {F:List Int} (hD:Dist (WY g false) S e F) (hg:g.Edges.length≤4194304) (hE:∀ x∈g.Edges,Yv g x) (hS:g.States=(S:Int)) (hS2:S≤200) (q:Nat) (hq:q < S) (ag:List Bool→Int→Option Bool) :
  ∀ (l:List T2) (k n:Nat) (R:List Bool),g.Edges.drop k=l→l.length < n→Rc S F (q:Int) R →
  (∀ i x,i < k→g.Edges[i]? = some x→Zm F x.From=some (q:Int)→Zm R x.To=some true) →
  ∃ R',Ty g (q:Int) ag n R (k:Int)=ag R' ((q+1:Nat):Int)∧Rc S F ((q:Int)+1) R':=by
 intro l
 induction l with
 | nil =>
  intro k n R h hn hR hd
  obtain ⟨n,rfl⟩:=pS n (by simp at hn;omega)
  have hk:=XF h
  refine ⟨R,?_,hR.len,hR.sound,?_⟩
  ·simp only [Ty,ZJ hk,cond_false,GY]
   rw [ZA (by omega)]
  ·intro v d hv h0 h1
   by_cases hdq:d=(q:Int)+1
   ·subst hdq
    obtain ⟨u,hu,hul⟩:=hD.pred v _ hv (by omega)
    obtain ⟨x,hx,hxe⟩:=List.mem_map.mp hu
    obtain ⟨i,hi⟩:=List.mem_iff_getElem?.mp hx
    have hil:i < g.Edges.length:=(List.getElem?_eq_some_iff.mp hi).1
    have e1:x.From=u:=congrArg Prod.fst hxe
    have e2:x.To=v:=congrArg Prod.snd hxe
    rw [← e2]
    exact hd i x (by omega) hi (by rw [e1,hul];congr 1;omega)
   ·exact hR.full v d hv h0 (by omega)
 | cons x l ih =>
  intro k n R h hn hR hd
  obtain ⟨n,rfl⟩:=pS n (by simp at hn;omega)
  obtain ⟨hk,hx,hdr⟩:=Xr h
  simp only [Zg] at hn
  have hxm:x∈g.Edges:=Zb hx
  obtain ⟨r1,r2,r3,r4,_⟩:=hE x hxm
  obtain ⟨mt,hmt⟩:=Y3 (L:=R) r3 (by rw [hR.len,← hS];exact r4)
  obtain ⟨mf,hmf⟩:=Y3 (L:=R) r1 (by rw [hR.len,← hS];exact r2)
  have wk':Zi ((k:Int)+1)=((k+1:Nat):Int):=ZA (by omega)
  have hset:=fun (b:Bool) w=>Rt (L:=R) (b:=x.To) (d:=b) r3 (by rw [hR.len,← hS];exact r4) w
  -- the new list, whatever is written
  have go:∀ b:Bool,(b=true→∃ d,Zm F x.To=some d∧0≤d)→(Zm R x.To=some true→b=true)→(Zm F x.From=some (q:Int)→b=true) →
    ∃ R',Ty g (q:Int) ag n (ZW R x.To b) ((k+1:Nat):Int)=ag R' ((q+1:Nat):Int)∧Rc S F ((q:Int)+1) R':=by
   intro b hb hm hf
   refine ih (k+1) n _ hdr (by omega) (hR.set r3 (by rw [← hS];exact r4) hb hm) ?_
   intro i y hi hy hyf
   rw [hset]
   by_cases hik:i=k
   ·subst hik
    rw [hx] at hy;cases hy
    rw [if_pos rfl,hf hyf]
   ·split
    ·rename_i hc
     have:=hd i y (by omega) hy hyf
     rw [hc] at this
     rw [hm this]
    ·exact hd i y (by omega) hy hyf
  cases mt with
  | true =>
   simp only [Ty,ZG hk,cT,Zs,hx,bS,hmt,wk']
   exact go true (fun _=>hR.sound _ hmt) (fun _=>rfl) (fun _=>rfl)
  | false =>
   simp only [Ty,ZG hk,cT,cond_false,Zs,hx,bS,hmt,hmf,wk']
   refine go mf ?_ (fun h=>by rw [hmt] at h;cases h) ?_
   ·intro hm
    subst hm
    obtain ⟨d,d1,d2⟩:=hR.sound _ hmf
    obtain ⟨d',e1,e2,_⟩:=hD.succ x.From x.To d (List.mem_map.mpr ⟨x,hxm,rfl⟩) d1 d2
    exact ⟨d',e1,e2⟩
   ·intro hf
    have:=hR.full _ _ hf (by omega) (Int.le_refl _)
    rw [hmf] at this
    exact Option.some.inj this
theorem ZoR (hN:4194304 < N) {S:Nat} {g:T5} {e:Int} {F:List Int} (hD:Dist (WY g false) S e F) (hg:g.Edges.length≤4194304) (hE:∀ x∈g.Edges,Yv g x) (hS:g.States=(S:Int)) (hS2:S≤200) :
  ∀ (n q:Nat) (R:List Bool),S-q < n→q≤S→Rc S F (q:Int) R→∃ R',VV N g n R (q:Int)=Hp N g R'∧Rc S F (S:Int) R':=by
 intro n
 induction n with
 | zero=>intro q R h;omega
 | succ n ih =>
  intro q R hn hq hR
  by_cases hlt:q < S
  ·have hd:decide ((q:Int) < g.States)=true:=by rw [hS];simp;omega
   obtain ⟨R',m1,m2⟩:=Ztl hD hg hE hS hS2 q hlt (VV N g n) g.Edges 0 N R rfl (by omega) hR (by intro i x hi;omega)
   simp only [VV,hd,cT]
   rw [show (0:Int)=((0:Nat):Int) from rfl,m1]
   exact ih (q+1) R' (by omega) (by omega) (by rw [show ((q+1:Nat):Int)=(q:Int)+1 by omega];exact m2)
  ·have hqs:q=S:=by omega
   subst hqs
   have hd:decide ((q:Int) < g.States)=false:=by rw [hS];simp
   exact ⟨R,by simp only [VV,hd,cond_false],hR⟩
theorem ZgS (g:T5) (s:Int):∀ (l:List T2) (k:Nat),((VI g s l k).length==0)=l.all fun x => !(x.From==s)
 | [],k=>rfl
 | x::l,k=>by
  unfold VI
  rw [List.all_cons]
  by_cases h:x.From=s
  ·rw [if_pos h,show (x.From==s)=true by simp [h]];rfl
  ·rw [if_neg h,show (x.From==s)=false by simp [h],ZgS g s l (k+1)];rfl
theorem Zm0 (hN:4194304 < N) (g:T5) (hv:Vo g=true) (hn:Uh g) {L F:List Int} (hL:Dist (WY g true) g.States.toNat g.End L) (hF:Dist (WY g false) g.States.toNat g.Start F) :
  BQ N g=some (Wu F && Wu L && g.Edges.all fun x => !(x.From==g.End)):=by
 have hends:=ZnL hN g hv hL
 obtain ⟨o1,o2,o3,o4,o5,o6,o7⟩:=H7 hv
 have hS:g.States=(g.States.toNat:Int):=by omega
 generalize hs:g.States.toNat=S at *
 have m:YG false g.States g.States=some (List.replicate S false):=by
  rw [hS];unfold YG
  have q1:decide ((0:Int)≤(S:Int))=true:=by simp
  have q2:decide ((S:Int)≤4294967296)=true:=by simp;omega
  simp only [q1,q2,Int.le_refl,decide_true,Bool.and_self,cT]
  simp
 have hrl:(List.replicate S false).length=S:=by simp
 have hri:∀ v b,Zm (List.replicate S false) v=some b→b=false:=by
  intro v b hb
  obtain ⟨v0,v1⟩:=Td hb
  obtain ⟨k,rfl⟩:∃ k:Nat,v=(k:Int):=⟨v.toNat,by omega⟩
  rw [Zs,List.getElem?_replicate,if_pos (by omega)] at hb
  exact (Option.some.inj hb).symm
 obtain ⟨b0,hb0⟩:=Y3 (L:=List.replicate S false) o3 (by rw [hrl];omega)
 have hset:=fun w=>Rt (L:=List.replicate S false) (b:=g.Start) (d:=true) o3 (by rw [hrl];omega) w
 have rc0:Rc S F ((0:Nat):Int) (ZW (List.replicate S false) g.Start true):=by
  refine ⟨by rw [Pg _ _ o3,hrl],?_,?_⟩
  ·intro v hv'
   rw [hset] at hv'
   split at hv'
   ·rename_i hc;subst hc;exact ⟨0,hF.root,by omega⟩
   ·have h9:=hri _ _ hv'
    cases h9
  ·intro v d hv' h0 h1
   have h9:d=0:=by omega
   subst h9
   rw [hset,if_pos (hF.zero v hv')]
 unfold BQ
 rw [m,bS,hb0,bS]
 obtain ⟨R,r1,r2⟩:=ZoR hN hF (by omega) (fun x hx=>Zdf hv hx) hS (by omega) N 0 (ZW (List.replicate S false) g.Start true) (by omega) (by omega)
  rc0
 rw [show (0:Int)=((0:Nat):Int) from rfl,r1]
 unfold Hp
 rw [hends,bS,YD (fun d k=>(R[k]?.getD false) && !(decide (d < 0))) (xs:=L) (F:=Q1 N g R L) (e:=Md N g) (by rw [hL.len];omega)]
 ·obtain ⟨Z,z1,z2⟩:=Zo9 hN g (by omega) hn g.End
  have hk1:Md N g=some (g.Edges.all fun x => !(x.From==g.End)):=by
   unfold Md
   rw [z2,bS,← ZgS g g.End g.Edges 0,← z1.1.length_eq]
   congr 1
   rw [Bool.eq_iff_iff,beq_iff_eq,beq_iff_eq];omega
  rw [hk1]
  have hall:ZN (fun d k=>(R[k]?.getD false) && !(decide (d < 0))) L 0=(Wu F && Wu L):=by
   rw [Bool.eq_iff_iff,Zc,Zgu hF,Zgu hL,Xc]
   constructor
   ·intro h
    constructor
    ·intro v d hv'
     obtain ⟨v0,v1⟩:=Td hv'
     obtain ⟨k,rfl⟩:∃ k:Nat,v=(k:Int):=⟨v.toNat,by omega⟩
     rw [hF.len] at v1
     have hkL:k < L.length:=by rw [hL.len];omega
     have:=h k _ (Za hkL)
     rw [Zc,Nat.zero_add] at this
     have hkR:k < R.length:=by rw [r2.len];omega
     rw [Za hkR,Option.getD_some] at this
     obtain ⟨d',d1,d2⟩:=r2.sound (k:Int) (by rw [Zs,Za hkR,this.1])
     rw [hv'] at d1
     cases d1;exact d2
    ·intro v d hv'
     obtain ⟨v0,v1⟩:=Td hv'
     obtain ⟨k,rfl⟩:∃ k:Nat,v=(k:Int):=⟨v.toNat,by omega⟩
     rw [Zs] at hv'
     have:=h k d hv'
     simp at this
     omega
   ·rintro ⟨h1,h2⟩ i d hi
    rw [Nat.zero_add]
    have hkL:i < L.length:=(List.getElem?_eq_some_iff.mp hi).1
    obtain ⟨f,hf⟩:=Y3 (L:=F) (v:=(i:Int)) (by omega) (by rw [hF.len,← hL.len];omega)
    have:=r2.full (i:Int) f hf (h1 _ _ hf) (by have:=(hF.lo _ _ hf).2;omega)
    rw [Zs] at this
    rw [this]
    have:=h2 (i:Int) d (by rw [Zs,hi])
    simp;omega
  rw [hall]
  cases (Wu F && Wu L)<;>rfl
 ·intro n k x hk hx
  have hkR:k < R.length:=by rw [r2.len,← hL.len];omega
  have hd:decide ((k:Int) < g.States)=true:=by rw [hS];simp;rw [← hL.len];omega
  simp only [Q1,hd,Zs,hx,cT,bS,Za hkR,Option.getD_some,ZA (show k < 4611686018427387904 by rw [hL.len] at hk;omega)]
  cases R[k]<;>cases decide (x < 0)<;>rfl
 ·intro n k hk
  have hd:decide ((k:Int) < g.States)=false:=by rw [hS];simp;rw [← hL.len];omega
  simp only [Q1,hd,cond_false]
end
section
def YA (l:List UInt8):ByteArray:=⟨l.toArray⟩
theorem Vc (l:List UInt8):bs (YA l)=l:=by simp [bs,YA]
theorem ZlC (s:ByteArray):YA (bs s)=s:=Di (Vc _)
theorem Zmk (s:ByteArray) (a b:Nat):bs (s.extract a b)=((bs s).take b).drop a:=by
 unfold bs
 rw [ByteArray.data_extract,Array.toList_extract]
 simp [List.extract,List.drop_take]
theorem ZaN {s:ByteArray} {x y z:List UInt8} {i j:Int} (h:bs s=x++(y++z)) (hi:i=(x.length:Int)) (hj:j=((x.length+y.length:Nat):Int)):ssl s (some i) (some j)=some (YA y):=by
 subst hi hj
 have q1:decide ((0:Int)≤(x.length:Int))=true:=by simp
 have q2:decide ((x.length:Int)≤((x.length+y.length:Nat):Int))=true:=by simp;omega
 have q3:decide (((x.length+y.length:Nat):Int)≤(s.size:Int))=true:=by rw [YU,h];simp;omega
 unfold ssl X4
 simp only [Option.getD_some,q1,q2,q3,Bool.and_self,cT,Option.map_some,Int.toNat_natCast]
 congr 1
 apply Di
 rw [Zmk,Vc,h,← aA,List.take_append_of_le_length (by simp),List.take_of_length_le (by simp)]
 simp
theorem Zk5 {s:ByteArray} {x y:List UInt8} {j:Int} (h:bs s=x++y) (hj:j=(x.length:Int)):ssl s none (some j)=some (YA x):=by
 have e:ssl s none (some j)=ssl s (some 0) (some j):=rfl
 rw [e]
 exact ZaN (x:=[]) (y:=x) (z:=y) (by rw [h];rfl) rfl (by rw [hj];simp)
theorem Zmc {s:ByteArray} {x y:List UInt8} {i:Int} (h:bs s=x++y) (hi:i=(x.length:Int)):ssl s (some i) none=some (YA y):=by
 have e:ssl s (some i) none=ssl s (some i) (some (s.size:Int)):=rfl
 rw [e]
 exact ZaN (x:=x) (y:=y) (z:=[]) (by rw [h];simp) hi (by rw [YU,h];simp)
theorem Zp0 {l:List UInt8} {c:UInt8} (h:0 < l.count c):∃ p q,l=p++c::q∧p.count c=0∧Go.Lib.indexByte l c=(p.length:Int):=by
 induction l with
 | nil=>simp at h
 | cons b l ih =>
  cases hc:(b==c)
  ·rw [List.count_cons,hc] at h
   obtain ⟨p,q,h1,h2,h3⟩:=ih (by simpa using h)
   refine ⟨b::p,q,by rw [h1];rfl,by rw [List.count_cons,h2,hc];rfl,?_⟩
   unfold Go.Lib.indexByte
   rw [hc,h3,show ((p.length:Int)==-1)=false by simp]
   simp
  ·have:b=c:=by simpa using hc
   subst this
   exact ⟨[],l,rfl,by simp,by unfold Go.Lib.indexByte;rw [hc];rfl⟩
def Xb (acc:List UInt8):List UInt8→List (List UInt8)
 | []=>[acc]
 | c::l=>if c=46 then acc::Xb [] l else Xb (acc++[c]) l
theorem Mr (acc:List UInt8) (c:UInt8) (l:List UInt8):Xb acc (c::l)=if c=46 then acc::Xb [] l else Xb (acc++[c]) l:=rfl
theorem ZkL:∀ (l acc:List UInt8),l.count 46=0→Xb acc l=[acc++l]
 | [],acc,_=>by simp [Xb]
 | c::l,acc,h=>by
  rw [List.count_cons] at h
  have hc:¬ c=46:=by intro hc;subst hc;simp at h
  rw [Mr,if_neg hc,ZkL l _ (by omega)];simp
theorem Zhf:∀ (p acc q:List UInt8),p.count 46=0→Xb acc (p++46::q)=(acc++p)::Xb [] q
 | [],acc,q,_=>by rw [List.nil_append,Mr,if_pos rfl,List.append_nil]
 | c::p,acc,q,h=>by
  rw [List.count_cons] at h
  have hc:¬ c=46:=by intro hc;subst hc;simp at h
  show Xb acc (c::(p++46::q))=_
  rw [Mr,if_neg hc,Zhf p _ q (by omega)];simp
theorem ZeL:∀ (l acc:List UInt8),(Xb acc l).length=l.count 46+1
 | [],acc=>by simp [Xb]
 | c::l,acc=>by
  rw [Mr,List.count_cons]
  split
  ·rename_i h;subst h
   rw [Zg,ZeL l];simp
  ·rename_i h
   rw [ZeL l];simp [h]
variable {N:Nat}
theorem ZsR (s:ByteArray):Hu N s (str [46])=some (Go.Lib.indexByte (bs s) 46):=by
 unfold Hu ZbX
 have h1:(((str [46]).size:Int)==0)=false:=rfl
 have h2:(((str [46]).size:Int)==1)=true:=rfl
 have h3:Xq (str [46]) (0:Int)=some 46:=by
  rw [show (0:Int)=((0:Nat):Int) from rfl,PC];rfl
 rw [h1,h2,h3]
 simp only [cT,cond_false,bS,ZaW]
 have hf:ZdA s 46=Go.Lib.indexByte (bs s) 46:=Go.Lib.firstIdx_eq s 46
 rw [hf,XS,XS]
 cases he:(bs (str [46])==bs s)
 ·rfl
 ·have he:bs (str [46])=bs s:=eq_of_beq he
  rw [← he];rfl
theorem Zt8 (s:ByteArray):Dk N s (str [46])=some (((bs s).count 46:Nat):Int):=by
 unfold Dk
 have h1:(((str [46]).size:Int)==0)=false:=rfl
 have h2:(((str [46]).size:Int)==1)=true:=rfl
 have h3:Xq (str [46]) (0:Int)=some 46:=by
  rw [show (0:Int)=((0:Nat):Int) from rfl,PC];rfl
 rw [h1,h2,h3]
 simp only [cT,cond_false,bS]
 congr 1
 unfold Zbe
 rw [show s.foldl (fun (n:Int) x=>if x==Kx.byteOf 46 then n+1 else n) ((0:Nat):Int)=(bs s).foldl (fun (n:Int) x=>if x==Kx.byteOf 46 then n+1 else n) ((0:Nat):Int) from Go.Lib.foldl_data _ _ _,Go.Lib.count_foldl]
 simp [Go.Lib.countByte,Kx.byteOf]
theorem Zoh (s sep:ByteArray) (hsep:sep=str [46]) (Xt:Nat) (hc:Xt≤s.size) (hs:s.size≤4194304) :
  ∀ (n:Nat) (cur:ByteArray) (D R:List ByteArray),(bs cur).count 46 < n→(bs cur).length≤4194304→D.length+(bs cur).count 46=Xt→R.length=(bs cur).count 46+1 →
  Su N s sep (0:Int) ((Xt+1:Nat):Int) n cur (D++R) (D.length:Int)=some (D++(Xb [] (bs cur)).map YA):=by
 subst hsep
 intro n
 induction n with
 | zero=>intro cur D R h;omega
 | succ n ih =>
  intro cur D R hn hcur hD hR
  have hw:Zi ((s.size:Int)+1)=((s.size+1:Nat):Int):=ZA (by omega)
  have hmin:Z1 ((Xt+1:Nat):Int) ((s.size+1:Nat):Int)=((Xt+1:Nat):Int):=by unfold Z1;rw [if_neg (by omega)]
  have hw2:Zi (((Xt+1:Nat):Int)-1)=(Xt:Int):=by rw [Ym (by omega) (by omega)];omega
  have fin:(bs cur).count 46=0→P9 cur (D++R) (D.length:Int)=some (D++(Xb [] (bs cur)).map YA):=by
   intro h0
   rw [h0] at hR
   obtain ⟨r,rfl⟩:=List.length_eq_one_iff.mp hR
   unfold P9
   rw [Zdw (A:=D) (x:=r) (B:=[]) rfl rfl,bS,Zia (A:=D) (x:=r) (B:=[]) rfl rfl,ZA (by omega),LZ (A:=D++[cur]) (B:=[]) (by simp) (by simp),ZkL _ _ h0]
   simp [ZlC]
  by_cases hlt:D.length < Xt
  ·have hd:decide ((D.length:Int) < (Xt:Int))=true:=by simp;omega
   obtain ⟨p,q,e1,e2,e3⟩:=Zp0 (l:=bs cur) (c:=46) (by omega)
   have hlen:(bs cur).length=p.length+(q.length+1):=by rw [e1];simp
   have hcnt:(bs cur).count 46=q.count 46+1:=by rw [e1,List.count_append,List.count_cons,e2];simp
   obtain ⟨r,R',rfl⟩:∃ r R',R=r::R':=by
    cases R with
    | nil=>simp at hR
    | cons r R'=>exact ⟨r,R',rfl⟩
   simp only [Zg] at hR
   have hneg:decide ((p.length:Int) < 0)=false:=by simp
   have wp:Zi ((p.length:Int)+0)=(p.length:Int):=by rw [Ym (by omega) (by omega)];omega
   have wp1:Zi ((p.length:Int)+((str [46]).size:Int))=((p++[46]:List UInt8).length:Int):=by
    rw [show ((str [46]).size:Int)=1 from rfl,ZA (by omega)];simp
   simp only [Su,hw,hmin,hw2,hd,cT,ZsR,e3,bS,hneg,cond_false,wp,wp1]
   rw [Zk5 e1 rfl,bS,Zdw (A:=D) (x:=r) (B:=R') rfl rfl,bS,Zmc (x:=p++[46]) (y:=q) (by rw [e1];simp) rfl,bS,Zia (A:=D) (x:=r) (B:=R') rfl rfl,ZA (by omega)]
   have:=ih (YA q) (D++[YA p]) R' (by rw [Vc];omega) (by rw [Vc];omega) (by rw [Vc];simp;omega) (by rw [Vc];omega)
   rw [Vc] at this
   rw [show ((D.length+1:Nat):Int)=((D++[YA p]).length:Int) by simp,show D++YA p::R'=(D++[YA p])++R' by simp,this,e1,Zhf _ _ _ e2]
   simp
  ·have hd:decide ((D.length:Int) < (Xt:Int))=false:=by simp;omega
   simp only [Su,hw,hmin,hw2,hd,cond_false]
   exact fin (by omega)
theorem Zoa (hN:4194304 < N) (s:ByteArray) (hs:s.size≤1000000):HV N s (str [46])=some ((Xb [] (bs s)).map YA):=by
 unfold HV Zco
 have h0:((-1:Int)==0)=false:=rfl
 have h1:((str [46]).toList==(str []).toList)=false:=by rw [XS,XS];rfl
 have h2:decide ((-1:Int) < 0)=true:=rfl
 have hcl:(bs s).count 46≤(bs s).length:=List.count_le_length
 rw [h0,h1,h2,Zt8]
 simp only [cT,cond_false,bS,Hw]
 rw [YU] at hs
 rw [ZA (by omega)]
 have hw:Zi ((s.size:Int)+1)=((s.size+1:Nat):Int):=ZA (by rw [YU];omega)
 have hmin:Z1 (((bs s).count 46+1:Nat):Int) ((s.size+1:Nat):Int)=(((bs s).count 46+1:Nat):Int):=by unfold Z1;rw [if_neg (by rw [YU];omega)]
 have m:YG (str []) (((bs s).count 46+1:Nat):Int) (((bs s).count 46+1:Nat):Int)=some (List.replicate ((bs s).count 46+1) (str [])):=by
  unfold YG
  have q1:decide ((0:Int)≤(((bs s).count 46+1:Nat):Int))=true:=by simp;omega
  have q2:decide ((((bs s).count 46+1:Nat):Int)≤4294967296)=true:=by simp;omega
  simp only [q1,q2,Int.le_refl,decide_true,Bool.and_self,cT]
  simp
 rw [hw,hmin,m,bS]
 have:=Zoh (N:=N) s (str [46]) rfl ((bs s).count 46) (by rw [YU];omega) (by rw [YU];omega) N s [] (List.replicate ((bs s).count 46+1) (str [])) (by omega) (by omega) (by simp) (by simp)
 rw [List.nil_append] at this
 have this':Su N s (str [46]) (0:Int) (((bs s).count 46+1:Nat):Int) N s (List.replicate ((bs s).count 46+1) (str [])) (0:Int)=some ([]++(Xb [] (bs s)).map YA):=this
 rw [this'];simp
def MD (s:ByteArray):Bool:=decide (s.size≤50) && (Xb [] (bs s)).all fun p=>XN (YA p)
theorem Zez:∀ (l acc:List UInt8),∀ p∈Xb acc l,p.length≤acc.length+l.length
 | [],acc,p,h=>by simp [Xb] at h;subst h;simp
 | c::l,acc,p,h=>by
  rw [Mr] at h
  split at h
  ·rcases List.mem_cons.mp h with h | h
   ·subst h;simp
   ·have:=Zez l [] p h;simp at this;simp;omega
  ·have:=Zez l _ p h;simp at this;simp;omega
theorem Znh (hN:4194304 < N) (s:ByteArray):BZ N s=some (MD s):=by
 unfold BZ MD
 by_cases h:s.size≤50
 ·rw [dT (show (s.size:Int)≤50 by omega),dT h,cT,Zoa hN s (by omega),bS]
  unfold Zbu Zdl
  have hl:(Xb [] (bs s)).length≤51:=by
   rw [ZeL]
   have:(bs s).count 46≤(bs s).length:=List.count_le_length
   rw [YU] at h;omega
  rw [Zl ((Xb [] (bs s)).map YA) (by simp;omega) (fun x k r=>bif !(XN x) then some k else r) (R3 N ((Xb [] (bs s)).map YA)) (some (-1)) hN]
  ·obtain ⟨i,h1,h2⟩:=HN (fun x => !(XN x)) ((Xb [] (bs s)).map YA) 0
   rw [h1,bS,h2,bS,List.any_map,List.not_any_eq_all_not]
   simp [Function.comp_def]
  ·intro n k x hk hx
   have hx':=Zb hx
   obtain ⟨p,hp,rfl⟩:=List.mem_map.mp hx'
   have hpl:=Zez _ _ p hp
   have hw:=(R7 hN (YA p) (by rw [YU,Vc];rw [YU] at h;simp at hpl;omega)).1
   simp only [R3,ZG hk,Zs,hx,cT,bS,Zax,hw]
  ·intro n k hk
   simp only [R3,ZJ hk,cond_false,GG]
 ·rw [dF (show ¬ (s.size:Int)≤50 by omega),dF h];rfl
theorem ZsB (hN:4194304 < N) (s:ByteArray) (hs:s.size≤4194304):∀ (n:Nat) (x acc l:List UInt8) (i j:Int),l.length+1 < n→bs s=x++(acc++l)→i=(x.length:Int)→j=((x.length+acc.length:Nat):Int) →
  UR N s n i j=bif (Xb acc l).all fun p=>XN (YA p) then Ld s else some false:=by
 intro n
 induction n with
 | zero=>intro x acc l i j h;omega
 | succ n ih =>
  intro x acc l i j hn he hi hj
  have hsz:s.size=x.length+(acc.length+l.length):=by rw [YU,he];simp
  have hle:decide (j≤(s.size:Int))=true:=by simp;omega
  have hw:=(R7 hN (YA acc) (by rw [YU,Vc];omega)).2
  have wj:Zi (j+1)=((x.length+acc.length+1:Nat):Int):=by rw [hj];exact ZA (by omega)
  cases l with
  | nil =>
   have hend:(j==(s.size:Int))=true:=by simp at hsz;simp;omega
   obtain ⟨n,rfl⟩:=pS n (by simp at hn;omega)
   have hgt:decide (Zi (j+1)≤(s.size:Int))=false:=by rw [wj];simp at hsz;simp;omega
   unfold UR
   rw [hle,cT,hend,cT]
   unfold RM
   rw [cT,ZaN he hi hj,bS]
   unfold D4
   rw [hw]
   simp only [bS,Xb,List.all_cons,List.all_nil,Bool.and_true]
   cases XN (YA acc)
   ·rfl
   ·simp only [Zh,cond_false,cT]
    unfold UR
    rw [hgt];rfl
  | cons c l =>
   have hne:(j==(s.size:Int))=false:=by simp at hsz;simp;omega
   have hgc:Xq s j=some (c.toNat:Int):=by
    rw [hj,PC,Znm (A:=x++acc) (x:=c) (B:=l) (by rw [he];simp) (by simp)];rfl
   unfold UR
   rw [hle,cT,hne,cond_false,hgc,bS]
   by_cases hc:c=46
   ·subst hc
    have hb:(((46:UInt8).toNat:Int)==46)=true:=rfl
    rw [hb]
    unfold RM
    rw [cT,ZaN he hi hj,bS]
    unfold D4
    rw [hw]
    have e0:Xb acc (46::l)=acc::Xb [] l:=by rw [Mr,if_pos rfl]
    rw [e0,List.all_cons]
    simp only [bS]
    cases XN (YA acc)
    ·rfl
    ·simp only [Zh,cond_false,Bool.true_and]
     rw [wj]
     exact ih (x++acc++[46]) [] l _ _ (by simp at hn;omega) (by rw [he];simp) (by simp;omega) (by simp;omega)
   ·have hb:((c.toNat:Int)==46)=false:=by
     rw [beq_eq_false_iff_ne]
     intro h
     apply hc
     apply UInt8.toNat_inj.mp
     show c.toNat=46
     omega
    rw [hb]
    unfold RM
    have e0:Xb acc (c::l)=Xb (acc++[c]) l:=by rw [Mr,if_neg hc]
    rw [cond_false,wj,e0]
    exact ih x (acc++[c]) l _ _ (by simp at hn;omega) (by rw [he];simp) hi (by simp;omega)
theorem ZtV (hN:4194304 < N) (s:ByteArray) (hs:s.size≤4000000):Dn N s=some (MD s):=by
 unfold Dn
 rw [ZsB hN s (by omega) N [] [] (bs s) (0:Int) (0:Int) (by rw [YU] at hs;omega) rfl rfl rfl]
 unfold Ld MD
 by_cases h:s.size≤50
 ·rw [dT (show (s.size:Int)≤50 by omega),dT h]
  cases (Xb [] (bs s)).all fun p=>XN (YA p)<;>rfl
 ·rw [dF (show ¬ (s.size:Int)≤50 by omega),dF h]
  cases (Xb [] (bs s)).all fun p=>XN (YA p)<;>rfl
end
section
variable {N:Nat}
def Zx (l:List T0):List T4:=(l.map fun d=>d.Fields).flatten
theorem QE (x:T0) (l:List T0):Zx (x::l)=x.Fields++Zx l:=rfl
theorem TJ (a b:List T0):Zx (a++b)=Zx a++Zx b:=by simp [Zx]
theorem GB (l:List T0) (h:∀ d∈l,Wk d):(Zx l).length≤l.length * 4194304:=by
 induction l with
 | nil=>simp [Zx]
 | cons x l ih =>
  rw [QE,lA,Zg]
  have:=(h x (by simp)).f
  have:=ih (fun d hd=>h d (by simp [hd]))
  omega
theorem ZkB {α:Type} {xs l:List α} {k:Nat} {x:α} (h:xs.drop k=x::l):xs.take (k+1)=xs.take k++[x]:=by
 obtain ⟨a,c,d⟩:=Xr h
 rw [List.take_add_one,c];rfl
theorem Znf (l:List T0) (hs:(Zx l).length≤4294967296) (hl:l.length≤4194304) :
  ∀ (m:List T0) (k n:Nat) (acc:List T4),l.drop k=m→m.length < n→acc=Zx (l.take k)→Qk l n acc (k:Int)=some (Zx l):=by
 intro m
 induction m with
 | nil =>
  intro k n acc h hn ha
  obtain ⟨n,rfl⟩:=pS n (by simp at hn;omega)
  have hk:=XF h
  simp only [Qk,ZJ hk,cond_false,Gl]
  rw [ha,List.take_of_length_le hk]
 | cons x m ih =>
  intro k n acc h hn ha
  obtain ⟨n,rfl⟩:=pS n (by simp at hn;omega)
  obtain ⟨a,c,d⟩:=Xr h
  have ht:=ZkB h
  have hcut:Zx l=Zx (l.take (k+1))++Zx (l.drop (k+1)):=by rw [← TJ,List.take_append_drop]
  have hle:acc.length+x.Fields.length≤4294967296:=by
   rw [hcut,ht,TJ,lA,lA,← ha] at hs
   have:(Zx [x]).length=x.Fields.length:=by simp [Zx]
   omega
  simp only [Qk,ZG a,cT,Zs,c,bS]
  rw [Yl hle,bS,ZA (by omega)]
  refine ih (k+1) n _ d (by simp at hn;omega) ?_
  rw [ht,TJ,← ha];simp [Zx]
theorem Zh1 (hN:4194304 < N) (l:List T0) (hl:l.length≤1000) (hd:∀ d∈l,Wk d):HC N l=some (Zx l):=by
 unfold HC
 exact Znf l (by have:=GB l hd;omega) (by omega) l 0 N [] rfl (by omega) rfl
theorem Zpm (l:List T0) (hs:(Zx l).length≤4294967296) (hl:l.length≤4194304) :
  ∀ (m:List T0) (k n:Nat) (acc:Int),l.drop k=m→m.length < n→acc=((Zx (l.take k)).length:Int)→Rw l n acc (k:Int)=some ((Zx l).length:Int):=by
 intro m
 induction m with
 | nil =>
  intro k n acc h hn ha
  obtain ⟨n,rfl⟩:=pS n (by simp at hn;omega)
  have hk:=XF h
  simp only [Rw,ZJ hk,cond_false,Do]
  rw [ha,List.take_of_length_le hk]
 | cons x m ih =>
  intro k n acc h hn ha
  obtain ⟨n,rfl⟩:=pS n (by simp at hn;omega)
  obtain ⟨a,c,d⟩:=Xr h
  have ht:=ZkB h
  have hcut:Zx l=Zx (l.take (k+1))++Zx (l.drop (k+1)):=by rw [← TJ,List.take_append_drop]
  have hx:(Zx [x]).length=x.Fields.length:=by simp [Zx]
  have hle:(Zx (l.take k)).length+x.Fields.length≤4294967296:=by
   rw [hcut,ht,TJ,lA,lA] at hs
   omega
  simp only [Rw,ZG a,cT,Zs,c,bS]
  rw [ZA (by omega),Ym (by omega) (by omega)]
  refine ih (k+1) n _ d (by simp at hn;omega) ?_
  rw [ht,TJ,lA,hx,ha];simp
theorem Zci (hN:4194304 < N) (l:List T0) (hl:l.length≤1000) (hd:∀ d∈l,Wk d):Q5 N l=some ((Zx l).length:Int):=by
 unfold Q5
 exact Zpm l (by have:=GB l hd;omega) (by omega) l 0 N 0 rfl (by omega) rfl
theorem Zhp (l:List T0) (hl:l.length≤4194304) (hd:∀ d∈l,Wk d) :
  ∀ (m:List T0) (k n i:Nat),l.drop k=m→m.length < n→i < (Zx m).length→i≤4294967296→P1 l n (i:Int) (k:Int)=(Zx m)[i]? := by
 intro m
 induction m with
 | nil=>intro k n i h hn hi;simp [Zx] at hi
 | cons x m ih =>
  intro k n i h hn hi hi2
  obtain ⟨n,rfl⟩:=pS n (by simp at hn;omega)
  obtain ⟨a,c,d⟩:=Xr h
  rw [QE]
  simp only [P1,ZG a,cT,Zs,c,bS]
  by_cases hlt:i < x.Fields.length
  ·rw [ZG hlt,cT,List.getElem?_append_left hlt,Za hlt];rfl
  ·rw [ZJ (by omega),cond_false,ZA (by omega),List.getElem?_append_right (by omega)]
   have hf:=(hd x (Zb c)).f
   have hw:Zi ((i:Int)-(x.Fields.length:Int))=((i-x.Fields.length:Nat):Int):=by rw [Ym (by omega) (by omega)];omega
   rw [hw]
   exact ih (k+1) n _ d (by simp at hn;omega) (by rw [QE,lA] at hi;omega) (by omega)
def Y8 (fl:List T4) (x:Int):Bool:=match Zm fl x with | some f=>f.Sort'.Kind==2 | none=>false
theorem Zdk {α:Type} {L:List α} {v:Int} (h:¬ (0≤v∧v < (L.length:Int))):Zm L v=none:=by
 cases hc:Zm L v with
 | none=>rfl
 | some d=>exact absurd (Td hc) h
theorem Ztn (hN:4194304 < N) (l:List T0) (hl:l.length≤1000) (hd:∀ d∈l,Wk d) (x:Int):LD N l x=some (Y8 (Zx l) x):=by
 have hfl:=GB l hd
 unfold LD Y8
 rw [Zci hN l hl hd]
 by_cases h0:x≥0
 ·rw [dT h0,cT,bS]
  by_cases h1:x < ((Zx l).length:Int)
  ·obtain ⟨k,rfl⟩:∃ k:Nat,x=(k:Int):=⟨x.toNat,by omega⟩
   have hk:k < (Zx l).length:=by omega
   have hf:MX N l (k:Int)=(Zx l)[k]? := Zhp l (by omega) hd l 0 N k rfl (by omega) hk (by omega)
   rw [dT h1,cT,hf,Zs,Za hk];rfl
  ·rw [dF h1,Zdk (by omega)];rfl
 ·rw [dF h0,Zdk (by omega)];rfl
def YV (n:Int) (d:T1):Prop:=-1≤d.X∧d.X < n∧-1≤d.Y∧d.Y < n∧-20000≤d.C∧d.C≤20000
instance (n:Int) (d:T1):Decidable (YV n d):=by unfold YV;infer_instance
def Z3 (fl:List T4) (g:T6):Bool :=
 decide (g.Diffs.length≤20∧g.Equals.length≤20) && (ZN (fun d _=>decide (YV (fl.length:Int) d)) g.Diffs 0 && ZN (fun e _=>Y8 fl e.1 && Y8 fl e.2) g.Equals 0)
theorem ZlT (hN:4194304 < N) (g:T6) (fl:List T4):Gm N g fl=some (Z3 fl g):=by
 unfold Gm Z3
 by_cases c1:(g.Diffs.length:Int) > 20
 ·rw [dT c1,dF (show ¬ (g.Diffs.length≤20∧g.Equals.length≤20) by omega)];rfl
 by_cases c2:(g.Equals.length:Int) > 20
 ·rw [dF c1,dT c2,dF (show ¬ (g.Diffs.length≤20∧g.Equals.length≤20) by omega)];rfl
 rw [dF c1,dF c2,dT (show g.Diffs.length≤20∧g.Equals.length≤20 by omega)]
 simp only [cond_false,Bool.true_and]
 rw [YD (fun d _=>decide (YV (fl.length:Int) d)) (xs:=g.Diffs) (F:=QG N g fl) (e:=LQ N g fl) (by omega)]
 ·unfold LQ
  rw [YD (fun e _=>Y8 fl e.1 && Y8 fl e.2) (xs:=g.Equals) (F:=VC N g fl) (e:=some true) (by omega)]
  ·cases ZN (fun d _=>decide (YV (fl.length:Int) d)) g.Diffs 0<;>cases ZN (fun e _=>Y8 fl e.1 && Y8 fl e.2) g.Equals 0<;>rfl
  ·intro n k x hk hx
   obtain ⟨m,rfl⟩:∃ m,N=m+3:=⟨N-3,by omega⟩
   have e0:Zm ([x.1,x.2]:List Int) (0:Int)=some x.1:=rfl
   have e1:Zm ([x.1,x.2]:List Int) (1:Int)=some x.2:=rfl
   have w0:Zi ((0:Int)+1)=1:=by decide
   have w1:Zi ((1:Int)+1)=2:=by decide
   have l0:decide ((0:Int) < 2)=true:=rfl
   have l1:decide ((1:Int) < 2)=true:=rfl
   have l2:decide ((2:Int) < 2)=false:=rfl
   have one:∀ (v:Int) (r:Option Bool),(bif decide (v < (0:Int)) then some false else bif decide (v≥(fl.length:Int)) then some false else (Zm fl v).bind fun x143=>bif (x143.Sort'.Kind != (2:Int)) then some false else r)=bif Y8 fl v then r else some false:=by
    intro v r
    unfold Y8
    by_cases h0:v < 0
    ·rw [dT h0,Zdk (by omega)];rfl
    by_cases h1:v≥(fl.length:Int)
    ·rw [dF h0,dT h1,Zdk (by omega)];rfl
    obtain ⟨f,hf⟩:=Y3 (L:=fl) (v:=v) (by omega) (by omega)
    rw [dF h0,dF h1,hf]
    simp only [cond_false,bS]
    unfold bne
    cases (f.Sort'.Kind==2)<;>rfl
   have inner:P3 fl (k:Int) (VC (m+3) g fl n) x (m+3) (0:Int)=bif Y8 fl x.1 && Y8 fl x.2 then MH (k:Int) (VC (m+3) g fl n) else some false:=by
    simp only [P3,e0,e1,w0,w1,l0,l1,l2,cT,cond_false,bS]
    rw [one,one]
    cases Y8 fl x.1<;>cases Y8 fl x.2<;>rfl
   simp only [VC,ZG hk,cT,Zs,hx,bS,inner,MH]
   rw [ZA (by omega)]
  ·intro n k hk
   simp only [VC,ZJ hk,cond_false,Bt]
 ·intro n k x hk hx
  simp only [QG,ZG hk,Zs,hx,cT,bS,ZA (show k < 4611686018427387904 by omega)]
  by_cases d1:Z1 x.X x.Y < -1
  ·rw [dT d1,dF (show ¬ YV (fl.length:Int) x by rw [Uy] at d1;unfold YV;omega)];rfl
  by_cases d2:ZX x.X x.Y≥(fl.length:Int)
  ·rw [dF d1,dT d2,dF (show ¬ YV (fl.length:Int) x by rw [Mc] at d2;unfold YV;omega)];rfl
  by_cases d3:x.C < -20000
  ·rw [dF d1,dF d2,dT d3,dF (show ¬ YV (fl.length:Int) x by unfold YV;omega)];rfl
  by_cases d4:x.C > 20000
  ·rw [dF d1,dF d2,dF d3,dT d4,dF (show ¬ YV (fl.length:Int) x by unfold YV;omega)];rfl
  rw [dF d1,dF d2,dF d3,dF d4,dT (show YV (fl.length:Int) x by rw [Uy] at d1;rw [Mc] at d2;unfold YV;omega)];rfl
 ·intro n k hk
  simp only [QG,ZJ hk,cond_false]
theorem ZtA (hN:4194304 < N) (l:List T0) (hl:l.length≤1000) (hd:∀ d∈l,Wk d) (g:T6) (h1:g.Diffs.length≤4194304) (h2:g.Equals.length≤4194304):HM N l g=some (Z3 (Zx l) g):=by
 unfold HM Z3
 rw [Zci hN l hl hd,bS]
 rw [YD (fun d _=>decide (YV ((Zx l).length:Int) d)) (xs:=g.Diffs) (F:=Rm N l g ((Zx l).length:Int)) (e:=Hj N l g) (by omega)]
 ·unfold Hj
  rw [YD (fun e _=>Y8 (Zx l) e.1 && Y8 (Zx l) e.2) (xs:=g.Equals) (F:=Pa N l g) (e:=Pu g) (by omega)]
  ·have hk1:Pu g=some (decide (g.Diffs.length≤20∧g.Equals.length≤20)):=by
    unfold Pu
    by_cases c1:(g.Diffs.length:Int)≤20
    ·rw [dT c1,cT]
     congr 1
     rw [decide_eq_decide];omega
    ·rw [dF c1,dF (show ¬ (g.Diffs.length≤20∧g.Equals.length≤20) by omega)];rfl
   rw [hk1]
   cases ZN (fun d _=>decide (YV ((Zx l).length:Int) d)) g.Diffs 0<;>cases ZN (fun e _=>Y8 (Zx l) e.1 && Y8 (Zx l) e.2) g.Equals 0<;>cases decide (g.Diffs.length≤20∧g.Equals.length≤20)<;>rfl
  ·intro n k x hk hx
   simp only [Pa,ZG hk,cT,Zs,hx,bS,Ztn hN l hl hd,ZA (show k < 4611686018427387904 by omega)]
   cases Y8 (Zx l) x.1<;>cases Y8 (Zx l) x.2<;>rfl
  ·intro n k hk
   simp only [Pa,ZJ hk,cond_false]
 ·intro n k x hk hx
  simp only [Rm,ZG hk,Zs,hx,cT,bS,ZA (show k < 4611686018427387904 by omega)]
  by_cases d1:x.X < -1
  ·rw [dT d1,dF (show ¬ YV ((Zx l).length:Int) x by unfold YV;omega)];rfl
  by_cases d2:x.X≥((Zx l).length:Int)
  ·rw [dF d1,dT d2,dF (show ¬ YV ((Zx l).length:Int) x by unfold YV;omega)];rfl
  by_cases d3:x.Y < -1
  ·rw [dF d1,dF d2,dT d3,dF (show ¬ YV ((Zx l).length:Int) x by unfold YV;omega)];rfl
  by_cases d4:x.Y≥((Zx l).length:Int)
  ·rw [dF d1,dF d2,dF d3,dT d4,dF (show ¬ YV ((Zx l).length:Int) x by unfold YV;omega)];rfl
  by_cases d5:x.C < -20000
  ·rw [dF d1,dF d2,dF d3,dF d4,dT d5,dF (show ¬ YV ((Zx l).length:Int) x by unfold YV;omega)];rfl
  by_cases d6:x.C > 20000
  ·rw [dF d1,dF d2,dF d3,dF d4,dF d5,dT d6,dF (show ¬ YV ((Zx l).length:Int) x by unfold YV;omega)];rfl
  rw [dF d1,dF d2,dF d3,dF d4,dF d5,dF d6,dT (show YV ((Zx l).length:Int) x by unfold YV;omega)];rfl
 ·intro n k hk
  simp only [Rm,ZJ hk,cond_false]
def Xm (s:Yg):Prop:=(s.Kind=1∧-1000≤s.Lo∧s.Lo≤s.Hi∧s.Hi≤1000)∨(s.Kind=2∧0≤s.Lo∧s.Lo≤s.Hi∧s.Hi≤40)
instance (s:Yg):Decidable (Xm s):=by unfold Xm;infer_instance
theorem ZaR (a b c:Prop) [Decidable a] [Decidable b] [Decidable c]:(bif decide a then (bif decide b then some (decide c) else some false) else some false)=some (decide (a∧b∧c)):=by
 by_cases ha:a<;>by_cases hb:b<;>simp [ha,hb]
theorem Zq1 (s:Yg):HS N s=some (decide (Xm s)):=by
 unfold HS
 rw [ZaR,ZaR]
 by_cases h1:s.Kind=1
 ·rw [show (s.Kind==1)=true by simp [h1],cT];congr 1;rw [decide_eq_decide];unfold Xm;omega
 ·rw [show (s.Kind==1)=false by simp [h1],cond_false]
  by_cases h2:s.Kind=2
  ·rw [show (s.Kind==2)=true by simp [h2],cT];congr 1;rw [decide_eq_decide];unfold Xm;omega
  ·rw [show (s.Kind==2)=false by simp [h2],cond_false,dF (show ¬ Xm s by unfold Xm;omega)]
theorem Zrh (s:Yg):GN N s=some (decide (Xm s)):=by
 unfold GN M9
 rw [ZaR,ZaR]
 by_cases h1:s.Kind=1
 ·rw [show (s.Kind==1)=true by simp [h1],show (s.Kind==2)=false by simp [h1]];simp only [cT,cond_false];congr 1;rw [decide_eq_decide];unfold Xm;omega
 ·rw [show (s.Kind==1)=false by simp [h1]]
  by_cases h2:s.Kind=2
  ·rw [show (s.Kind==2)=true by simp [h2]];simp only [cT,cond_false];congr 1;rw [decide_eq_decide];unfold Xm;omega
  ·rw [show (s.Kind==2)=false by simp [h2]];simp only [cond_false];rw [dF (show ¬ Xm s by unfold Xm;omega)]
end
section
variable {N:Nat}
structure TN (x:T0):Prop where
 n:x.Name.size≤4000000
 f:∀ f∈x.Fields,f.Name.size≤4000000
def UK (x:T0) (f:T4) (j:Nat):Bool:=XN f.Name && (decide (Xm f.Sort') && !((x.Fields.take j).any fun y=>Yi y.Name f.Name))
def X5 (fl:List T4) (l:List T0) (x:T0) (k:Nat):Bool :=
 MD x.Name && (decide (x.Fields.length≤4) && (decide (x.First=((Zx (l.take k)).length:Int)) && (!((l.take k).any fun y=>Yi y.Name x.Name) && (ZN (UK x) x.Fields 0 && Z3 fl x.Guard))))
def YO (l:List T0):Bool:=decide (l.length≤40) && (decide ((Zx l).length≤24) && ZN (X5 (Zx l) l) l 0)
theorem ZoY (hN:4194304 < N) (l:List T0) (hl:l.length≤4194304) (x:T0):Bw N l x=some (l.any fun y=>Yi y.Name x.Name):=by
 unfold Bw Zb8
 rw [Zl l hl (fun y k r=>bif Yi y.Name x.Name then some k else r) (RI N l x) (some (-1)) hN]
 ·obtain ⟨i,h1,h2⟩:=HN (fun y:T0=>Yi y.Name x.Name) l 0
  rw [h1,bS,h2]
 ·intro n k y hk hy
  simp only [RI,ZG hk,Zs,hy,cT,bS,ZcR,Yi]
 ·intro n k hk
  simp only [RI,ZJ hk,cond_false,GZ]
theorem ZoO (hN:4194304 < N) (l:List T4) (hl:l.length≤4194304) (x:T4):B4 N l x=some (l.any fun y=>Yi y.Name x.Name):=by
 unfold B4 Zcv
 rw [Zl l hl (fun y k r=>bif Yi y.Name x.Name then some k else r) (RO N l x) (some (-1)) hN]
 ·obtain ⟨i,h1,h2⟩:=HN (fun y:T4=>Yi y.Name x.Name) l 0
  rw [h1,bS,h2]
 ·intro n k y hk hy
  simp only [RO,ZG hk,Zs,hy,cT,bS,ZcF,Yi]
 ·intro n k hk
  simp only [RO,ZJ hk,cond_false,Bq]
theorem ZeT {l:List T0} {k:Nat} {x:T0} (h:l[k]? = some x):(Zx (l.take (k+1))).length=(Zx (l.take k)).length+x.Fields.length:=by
 rw [List.take_add_one,h]
 show (Zx (l.take k++[x])).length=_
 rw [TJ,lA];simp [Zx]
theorem Zed (l:List T0) (k:Nat):(Zx (l.take k)).length≤(Zx l).length:=by
 have:Zx l=Zx (l.take k)++Zx (l.drop k):=by rw [← TJ,List.take_append_drop]
 rw [this,lA];omega
theorem ZiX (hN:4194304 < N) (l:List T0) (hl:l.length≤4194304) (hd:∀ d∈l,Wk d) (hn:∀ d∈l,TN d):Lu N l=some (YO l):=by
 unfold Lu YO
 by_cases c1:(l.length:Int) > 40
 ·rw [dT c1,dF (show ¬ l.length≤40 by omega)];rfl
 rw [dF c1,dT (show l.length≤40 by omega),Zh1 hN l (by omega) hd]
 simp only [cond_false,bS,Bool.true_and]
 by_cases c2:((Zx l).length:Int) > 24
 ·rw [dT c2,dF (show ¬ (Zx l).length≤24 by omega)];rfl
 rw [dF c2,dT (show (Zx l).length≤24 by omega)]
 simp only [cond_false,Bool.true_and]
 have hfl:=GB l hd
 have h:=YD (X5 (Zx l) l) (xs:=l) (F:=fun n i=>WR N l (Zx l) n ((Zx (l.take i.toNat)).length:Int) i) (e:=some true) (n:=N) (by omega) (by
  intro n k x hk hx
  show WR N l (Zx l) (n+1) ((Zx (l.take k)).length:Int) (k:Int)=bif X5 (Zx l) l x k then WR N l (Zx l) n ((Zx (l.take (k+1))).length:Int) ((k+1:Nat):Int) else some false
  have hxm:x∈l:=Zb hx
  have sx:=hd x hxm
  have nx:=hn x hxm
  have ht:lsl l none (some (k:Int))=some (l.take k):=LZ (A:=l.take k) (B:=l.drop k) (List.take_append_drop k l).symm (by simp;omega)
  have hft:=Zed l k
  have hnext:Zi (((Zx (l.take k)).length:Int)+(x.Fields.length:Int))=((Zx (l.take (k+1))).length:Int):=by rw [ZeT hx,Ym (by have:=sx.f;omega) (by have:=sx.f;omega)];omega
  have inner:RG N (Zx l) ((Zx (l.take k)).length:Int) (k:Int) (WR N l (Zx l) n) x N (0:Int)=bif ZN (UK x) x.Fields 0 then Li N (Zx l) ((Zx (l.take k)).length:Int) (k:Int) (WR N l (Zx l) n) x else some false:=by
   refine YD (UK x) (by have:=sx.f;omega) ?_ ?_
   ·intro m j f hj hf
    have sf:=sx.f
    have hw:=(R7 hN f.Name (by have:=nx.f f (Zb hf);omega)).1
    have ht':lsl x.Fields none (some (j:Int))=some (x.Fields.take j):=LZ (A:=x.Fields.take j) (B:=x.Fields.drop j) (List.take_append_drop j _).symm (by simp;omega)
    have hc:=ZoO hN (x.Fields.take j) (by simp;omega) f
    simp only [RG,ZG hj,cT,Zs,hf,bS,hw,Zq1,ht',hc,UK]
    rw [ZA (by omega)]
    cases XN f.Name<;>cases decide (Xm f.Sort')<;>cases ((x.Fields.take j).any fun y=>Yi y.Name f.Name)<;>rfl
   ·intro m j hj
    simp only [RG,ZJ hj,cond_false]
  have hc:=ZoY hN (l.take k) (by simp;omega) x
  simp only [WR,ZG hk,cT,Zs,hx,bS,Znh hN,ht,hc,inner,Li,ZlT hN,X5,hnext]
  rw [ZA (by omega)]
  have e1:decide ((x.Fields.length:Int) > 4) = !decide (x.Fields.length≤4):=by
   by_cases q:x.Fields.length≤4
   ·rw [dT q,dF (by omega)];rfl
   ·rw [dF q,dT (by omega)];rfl
  have e2:(x.First != ((Zx (l.take k)).length:Int)) = !decide (x.First=((Zx (l.take k)).length:Int)):=by
   by_cases q:x.First=((Zx (l.take k)).length:Int)
   ·rw [dT q];simp [q]
   ·rw [dF q];simp [q]
  rw [e1,e2]
  cases MD x.Name<;>cases decide (x.Fields.length≤4)<;>cases decide (x.First=((Zx (l.take k)).length:Int))<;>cases ((l.take k).any fun y=>Yi y.Name x.Name)<;>cases ZN (UK x) x.Fields 0<;>cases Z3 (Zx l) x.Guard<;>rfl) (by
  intro n k hk
  show WR N l (Zx l) (n+1) ((Zx (l.take k)).length:Int) (k:Int)=some true
  simp only [WR,ZJ hk,cond_false,HQ])
 have h':WR N l (Zx l) N (0:Int) (0:Int)=bif ZN (X5 (Zx l) l) l 0 then some true else some false:=h
 rw [h']
 cases ZN (X5 (Zx l) l) l 0<;>rfl
theorem ZbP {α:Type} (f:α→Bool):∀ (l:List α) (k:Nat),ZN (fun y _ => !f y) l k = !(l.any f)
 | [],_=>rfl
 | x::l,k=>by
  show (!f x && ZN _ l (k+1))=_
  rw [ZbP f l,List.any_cons]
  cases f x<;>rfl
theorem Zi0 {α:Type} {l:List α} {k i:Nat} {x:α} (h:(l.take k)[i]? = some x):l[i]? = some x∧i < k:=by
 rw [List.getElem?_take] at h
 split at h
 ·exact ⟨h,by assumption⟩
 ·cases h
theorem ZjA (hN:4194304 < N) (l:List T0) (hl:l.length≤4194304) (hd:∀ d∈l,Wk d) (hn:∀ d∈l,TN d):L2 N l=some (YO l):=by
 unfold L2 YO
 by_cases c1:(l.length:Int) > 40
 ·rw [dT c1,dF (show ¬ l.length≤40 by omega)];rfl
 rw [dF c1,dT (show l.length≤40 by omega),Zci hN l (by omega) hd]
 simp only [cond_false,bS,Bool.true_and]
 by_cases c2:((Zx l).length:Int) > 24
 ·rw [dT c2,dF (show ¬ (Zx l).length≤24 by omega)];rfl
 rw [dF c2,dT (show (Zx l).length≤24 by omega)]
 simp only [cond_false,Bool.true_and]
 have hfl:=GB l hd
 have h:=YD (X5 (Zx l) l) (xs:=l) (F:=fun n i=>Xi N l n ((Zx (l.take i.toNat)).length:Int) i) (e:=some true) (n:=N) (by omega) (by
  intro n k x hk hx
  show Xi N l (n+1) ((Zx (l.take k)).length:Int) (k:Int)=bif X5 (Zx l) l x k then Xi N l n ((Zx (l.take (k+1))).length:Int) ((k+1:Nat):Int) else some false
  have hxm:x∈l:=Zb hx
  have sx:=hd x hxm
  have nx:=hn x hxm
  have hft:=Zed l k
  have hnext:Zi (((Zx (l.take k)).length:Int)+(x.Fields.length:Int))=((Zx (l.take (k+1))).length:Int):=by rw [ZeT hx,Ym (by have:=sx.f;omega) (by have:=sx.f;omega)];omega
  have inner8:Pc N l ((Zx (l.take k)).length:Int) (k:Int) (Xi N l n) x N (0:Int)=bif ZN (fun y _ => !Yi y.Name x.Name) (l.take k) 0 then L3 N l ((Zx (l.take k)).length:Int) (k:Int) (Xi N l n) x else some false:=by
   refine YD (fun (y:T0) _ => !Yi y.Name x.Name) (by simp;omega) ?_ ?_
   ·intro m j y hj hy
    obtain ⟨hy',hjk⟩:=Zi0 hy
    simp only [Pc,ZG hjk,cT,Zs,hy',bS,Yi]
    rw [ZA (by omega)]
    cases (y.Name.toList==x.Name.toList)<;>rfl
   ·intro m j hj
    have:k≤j:=by simp at hj;omega
    simp only [Pc,ZJ this,cond_false]
  have inner4:VE N l ((Zx (l.take k)).length:Int) (k:Int) (Xi N l n) x N (0:Int)=bif ZN (UK x) x.Fields 0 then Lw N l ((Zx (l.take k)).length:Int) (k:Int) (Xi N l n) x else some false:=by
   refine YD (UK x) (by have:=sx.f;omega) ?_ ?_
   ·intro m j f hj hf
    have sf:=sx.f
    have hw:=(R7 hN f.Name (by have:=nx.f f (Zb hf);omega)).2
    have inner6:Qx x (j:Int) (VE N l ((Zx (l.take k)).length:Int) (k:Int) (Xi N l n) x m) N (0:Int)=bif ZN (fun y _ => !Yi y.Name f.Name) (x.Fields.take j) 0 then Lf (j:Int) (VE N l ((Zx (l.take k)).length:Int) (k:Int) (Xi N l n) x m) else some false:=by
     refine YD (fun (y:T4) _ => !Yi y.Name f.Name) (by simp;omega) ?_ ?_
     ·intro p i y hi hy
      obtain ⟨hy',hij⟩:=Zi0 hy
      simp only [Qx,ZG hij,cT,Zs,hy',hf,bS,Yi]
      rw [ZA (by omega)]
      cases (y.Name.toList==f.Name.toList)<;>rfl
     ·intro p i hi
      have:j≤i:=by simp at hi;omega
      simp only [Qx,ZJ this,cond_false]
    simp only [VE,ZG hj,cT,Zs,hf,bS,hw,Zrh,inner6,UK,Lf,ZbP]
    rw [ZA (by omega)]
    cases XN f.Name<;>cases decide (Xm f.Sort')<;>cases ((x.Fields.take j).any fun y=>Yi y.Name f.Name)<;>rfl
   ·intro m j hj
    simp only [VE,ZJ hj,cond_false]
  have hg:=ZtA hN l (by omega) hd x.Guard sx.d sx.e
  simp only [Xi,ZG hk,cT,Zs,hx,bS,inner8,inner4,L3,Lw,ZtV hN x.Name nx.n,hg,X5,hnext,ZbP]
  rw [ZA (by omega)]
  have e1:decide ((x.Fields.length:Int) > 4) = !decide (x.Fields.length≤4):=by
   by_cases q:x.Fields.length≤4
   ·rw [dT q,dF (by omega)];rfl
   ·rw [dF q,dT (by omega)];rfl
  have e2:(x.First != ((Zx (l.take k)).length:Int)) = !decide (x.First=((Zx (l.take k)).length:Int)):=by
   by_cases q:x.First=((Zx (l.take k)).length:Int)
   ·rw [dT q];simp [q]
   ·rw [dF q];simp [q]
  rw [e1,e2]
  cases MD x.Name<;>cases decide (x.Fields.length≤4)<;>cases decide (x.First=((Zx (l.take k)).length:Int))<;>cases ((l.take k).any fun y=>Yi y.Name x.Name)<;>cases ZN (UK x) x.Fields 0<;>cases Z3 (Zx l) x.Guard<;>rfl) (by
  intro n k hk
  show Xi N l (n+1) ((Zx (l.take k)).length:Int) (k:Int)=some true
  simp only [Xi,ZJ hk,cond_false,Dh])
 have h':Xi N l N (0:Int) (0:Int)=bif ZN (X5 (Zx l) l) l 0 then some true else some false:=h
 rw [h']
 cases ZN (X5 (Zx l) l) l 0<;>rfl
end
section
variable {N:Nat}
theorem Dist.le {E:List (Int × Int)} {S:Nat} {e:Int} {L M:List Int} (hL:Dist E S e L) (hM:Dist E S e M):∀ (k:Nat) (v:Int),Zm L v=some (k:Int)→∃ m,Zm M v=some m∧0≤m∧m≤(k:Int):=by
 intro k
 induction k with
 | zero =>
  intro v hv
  have:=hL.zero v hv
  subst this
  exact ⟨0,hM.root,by omega,by omega⟩
 | succ k ih =>
  intro v hv
  obtain ⟨u,hu,hl⟩:=hL.pred v _ hv (by omega)
  obtain ⟨m,m1,m2,m3⟩:=ih u (by rw [hl];congr 1;omega)
  obtain ⟨d,d1,d2,d3⟩:=hM.succ u v m hu m1 m2
  exact ⟨d,d1,d2,by omega⟩
theorem Dist.uniq {E:List (Int × Int)} {S:Nat} {e:Int} {L M:List Int} (hL:Dist E S e L) (hM:Dist E S e M):L=M:=by
 refine List.ext_getElem? fun i=>?_
 by_cases hi:i < S
 ·obtain ⟨d,hd⟩:=Y3 (L:=L) (v:=(i:Int)) (by omega) (by rw [hL.len];omega)
  obtain ⟨m,hm⟩:=Y3 (L:=M) (v:=(i:Int)) (by omega) (by rw [hM.len];omega)
  have a:=(hL.lo _ _ hd).1
  have b:=(hM.lo _ _ hm).1
  have one:0≤d→0≤m∧m≤d:=by
   intro h
   obtain ⟨x,x1,x2,x3⟩:=hL.le hM d.toNat (i:Int) (by rw [hd];congr 1;omega)
   rw [hm] at x1;cases x1;exact ⟨x2,by omega⟩
  have two:0≤m→0≤d∧d≤m:=by
   intro h
   obtain ⟨x,x1,x2,x3⟩:=hM.le hL m.toNat (i:Int) (by rw [hm];congr 1;omega)
   rw [hd] at x1;cases x1;exact ⟨x2,by omega⟩
  rw [Zs] at hd hm
  rw [hd,hm]
  congr 1
  by_cases h:0≤d
  ·have:=one h;have:=two this.1;omega
  ·by_cases h':0≤m
   ·have:=two h';omega
   ·omega
 ·rw [List.getElem?_eq_none (by rw [hL.len];omega),List.getElem?_eq_none (by rw [hM.len];omega)]
structure VX (g:T5):Prop where
 n:g.Name.size≤4000000
 r:∀ s∈g.Roles,s.size≤4000000
 d:∀ x∈g.Decls,TN x
def Sw (g:T5) (s:ByteArray) (i:Nat):Bool:=XN s && !((g.Roles.take i).any fun y=>Yi y s)
def Mv (g:T5):Bool:=XN g.Name && (decide (1≤g.Roles.length∧g.Roles.length≤6) && ZN (Sw g) g.Roles 0)
theorem Zjh (hN:4194304 < N) (g:T5) (hg:Ua g) (hs:VX g):Dy N g=some (Mv g):=by
 unfold Dy Mv
 rw [(R7 hN g.Name (by have:=hs.n;omega)).1]
 have hr:=hg.r
 rw [YD (Sw g) (xs:=g.Roles) (F:=QZ N g) (e:=some true) (by omega)]
 ·simp only [bS]
  by_cases c1:(g.Roles.length:Int) < 1
  ·rw [dT c1,dF (show ¬ (1≤g.Roles.length∧g.Roles.length≤6) by omega)];cases XN g.Name<;>rfl
  by_cases c2:(g.Roles.length:Int) > 6
  ·rw [dF c1,dT c2,dF (show ¬ (1≤g.Roles.length∧g.Roles.length≤6) by omega)];cases XN g.Name<;>rfl
  rw [dF c1,dF c2,dT (show 1≤g.Roles.length∧g.Roles.length≤6 by omega)]
  cases XN g.Name<;>cases ZN (Sw g) g.Roles 0<;>rfl
 ·intro n k x hk hx
  have hw:=(R7 hN x (by have:=hs.r x (Zb hx);omega)).1
  have ht:lsl g.Roles none (some (k:Int))=some (g.Roles.take k):=LZ (A:=g.Roles.take k) (B:=g.Roles.drop k) (List.take_append_drop k _).symm (by simp;omega)
  have hc:=Zjr hN (g.Roles.take k) (by simp;omega) x
  simp only [QZ,ZG hk,cT,Zs,hx,bS,hw,ht,hc,Sw]
  rw [ZA (by omega)]
  cases XN x<;>cases ((g.Roles.take k).any fun y=>Yi y x)<;>rfl
 ·intro n k hk
  simp only [QZ,ZJ hk,cond_false,De]
theorem Zjd {α:Type} (f:α→Bool):∀ (l:List α) (k i:Nat) (x:α),l[i]? = some x→f x=true→∃ j,lv (fun x (k:Nat) r=>bif f x then some (k:Int) else r) (some (-1)) l k=some j∧decide (j < ((k+i:Nat):Int))=(l.take i).any f
 | [],k,i,x,h,_=>by simp at h
 | y::l,k,i,x,h,hf=>by
  show ∃ j,(bif f y then some (k:Int) else lv _ _ l (k+1))=some j∧_
  cases i with
  | zero =>
   simp at h;subst h
   rw [hf]
   exact ⟨k,rfl,by simp⟩
  | succ i =>
   rw [List.take_succ_cons,List.any_cons]
   cases hy:f y
   ·obtain ⟨j,j1,j2⟩:=Zjd f l (k+1) i x (by simpa using h) hf
    exact ⟨j,j1,by rw [show k+(i+1)=k+1+i by omega,j2];rfl⟩
   ·exact ⟨k,rfl,by simp;omega⟩
theorem ZoQ (hN:4194304 < N) (g:T5) (hg:Ua g) (hs:VX g):GK N g=some (Mv g && YO g.Decls):=by
 unfold GK Mv
 have hr:=hg.r
 rw [YD (Sw g) (xs:=g.Roles) (F:=RW N g) (e:=LP N g) (by omega)]
 ·unfold LP
  rw [(R7 hN g.Name (by have:=hs.n;omega)).2,ZjA hN g.Decls hg.d hg.dd hs.d]
  simp only [bS]
  by_cases c1:(g.Roles.length:Int)≥1
  ·by_cases c2:(g.Roles.length:Int)≤6
   ·rw [dT c1,dT c2,dT (show 1≤g.Roles.length∧g.Roles.length≤6 by omega)]
    cases XN g.Name<;>cases ZN (Sw g) g.Roles 0<;>rfl
   ·rw [dT c1,dF c2,dF (show ¬ (1≤g.Roles.length∧g.Roles.length≤6) by omega)]
    cases XN g.Name<;>cases ZN (Sw g) g.Roles 0<;>rfl
  ·rw [dF c1,dF (show ¬ (1≤g.Roles.length∧g.Roles.length≤6) by omega)]
   cases XN g.Name<;>cases ZN (Sw g) g.Roles 0<;>rfl
 ·intro n k x hk hx
  have hw:=(R7 hN x (by have:=hs.r x (Zb hx);omega)).2
  obtain ⟨j,j1,j2⟩:=Zjd (fun y=>Yi y x) g.Roles 0 k x hx (Zeh x)
  have hi:LC N g.Roles x=some j:=by rw [Zmt hN g.Roles hr];exact j1
  rw [Nat.zero_add] at j2
  simp only [RW,ZG hk,cT,Zs,hx,bS,hw,hi,j2,Sw]
  rw [ZA (by omega)]
  cases XN x<;>cases ((g.Roles.take k).any fun y=>Yi y x)<;>rfl
 ·intro n k hk
  simp only [RW,ZJ hk,cond_false]
theorem ZlS (d:T0) (hd:d.Guard.Equals.length≤4194304):∀ (l:List (Int × Int)) (k n:Nat) (acc:List T1),d.Guard.Equals.drop k=l→l.length < n→acc.length+2 * l.length≤4294967296→∃ r,Rr d n acc (k:Int)=some r:=by
 intro l
 induction l with
 | nil =>
  intro k n acc h hn _
  obtain ⟨n,rfl⟩:=pS n (by simp at hn;omega)
  exact ⟨acc,by simp only [Rr,ZJ (XF h),cond_false,DA]⟩
 | cons x l ih =>
  intro k n acc h hn ha
  obtain ⟨n,rfl⟩:=pS n (by simp at hn;omega)
  obtain ⟨a,c,e⟩:=Xr h
  simp only [Zg] at ha hn
  simp only [Rr,ZG a,cT,Zs,c,bS]
  rw [Yl (by simp;omega),bS,ZA (by omega)]
  exact ih (k+1) n _ e (by omega) (by simp;omega)
theorem Zub (hN:4194304 < N) (d:T0) (hd:Wk d):∀ (l:List T4) (k n:Nat) (acc:List T1),d.Fields.drop k=l→l.length < n→acc.length+2 * l.length≤16777216→∃ r,Rs N d n acc (k:Int)=some r:=by
 intro l
 have h1:=hd.f
 have h2:=hd.d
 have h3:=hd.e
 induction l with
 | nil =>
  intro k n acc h hn ha
  obtain ⟨n,rfl⟩:=pS n (by simp at hn;omega)
  simp only [Rs,ZJ (XF h),cond_false,Ga]
  simp at ha
  rw [Yl (by omega),bS]
  exact ZlS d h3 d.Guard.Equals 0 N _ rfl (by omega) (by simp;omega)
 | cons x l ih =>
  intro k n acc h hn ha
  obtain ⟨n,rfl⟩:=pS n (by simp at hn;omega)
  obtain ⟨a,c,e⟩:=Xr h
  simp only [Zg] at ha hn
  simp only [Rs,ZG a,cT,Zs,c,bS]
  rw [Yl (by simp;omega),bS,ZA (by omega)]
  exact ih (k+1) n _ e (by omega) (by simp;omega)
theorem Zhv (hN:4194304 < N) (l:List T0) (hl:l.length≤4194304) (hd:∀ d∈l,Wk d) (hn:∀ d∈l,TN d):DF N l=some (YO l):=by
 unfold DF
 cases l with
 | nil=>rfl
 | cons x l =>
  have h0:(((x::l).length:Int)==0)=false:=by simp;omega
  have h1:decide ((0:Int) < 0)=false:=rfl
  have h2:decide ((0:Int)≥((x::l).length:Int))=false:=by simp
  have e0:Zm (x::l) (0:Int)=some x:=by rw [show (0:Int)=((0:Nat):Int) from rfl,Zs];rfl
  have hb:∃ r,Zdb N x=some r:=Zub hN x (hd x (by simp)) x.Fields 0 N [] rfl (by have:=(hd x (by simp)).f;omega) (by have:=(hd x (by simp)).f;simp;omega)
  obtain ⟨r,hr⟩:=hb
  unfold Zam
  rw [h0,h1,h2,ZiX hN (x::l) hl hd hn,e0]
  simp only [cond_false,bS,hr]
  cases YO (x::l)<;>rfl
structure Zkv (g:T5):Prop where
 named:Mv g=true
 num:Vo g=true
 decls:YO g.Decls=true
 apart:Pk g=true
 noEnd:(g.Edges.all fun x => !(x.From==g.End))=true
 time:Mp g=true
 reach:∃ F,Dist (WY g false) g.States.toNat g.Start F∧Wu F=true
 ends:∃ L,Dist (WY g true) g.States.toNat g.End L∧Wu L=true
theorem Zg4 (hN:4194304 < N) (g:T5) (hg:Ua g) (hs:VX g) (hn:Uh g):∃ b,Mo N g=some b∧Ls N g=some b∧(b=true↔Zkv g):=by
 unfold Mo Ls
 rw [Zjh hN g hg hs,Zgh hN g hg.e,Zhv hN g.Decls hg.d hg.dd hs.d,ZgQ hN g hg.e,Zhr hN g hg.t,ZoQ hN g hg hs,Zmh hN g hg.e,Zst hN g hg.e]
 simp only [bS]
 cases h1:Mv g
 ·exact ⟨false,by simp,by simp,by simp;intro h;have:=h.named;rw [h1] at this;cases this⟩
 cases h2:Vo g
 ·refine ⟨false,by simp,?_,by simp;intro h;have:=h.num;rw [h2] at this;cases this⟩
  cases YO g.Decls<;>rfl
 cases h3:YO g.Decls
 ·exact ⟨false,by simp,by simp,by simp;intro h;have:=h.decls;rw [h3] at this;cases this⟩
 rw [Zf8]
 obtain ⟨o1,o2,o3,o4,o5,o6,o7⟩:=H7 h2
 obtain ⟨F,f1,f2⟩:=Zdq hN g h2 false g.Start o3 o4
 obtain ⟨L,l1,l2⟩:=Zdq hN g h2 true g.End o5 o6
 rw [f1,l1,Zm0 hN g h2 hn l2 f2,ZrM hN g hg.t h2]
 have cF:=Zbw hN F (by rw [f2.len];omega) (-1)
 have cL:=Zbw hN L (by rw [l2.len];omega) (-1)
 have pF:(F.any fun d=>d==-1) = !Wu F:=by unfold Wu;rw [Bool.not_not]
 have pL:(L.any fun d=>d==-1) = !Wu L:=by unfold Wu;rw [Bool.not_not]
 rw [pF] at cF
 rw [pL] at cL
 simp only [bS,cF,cL]
 cases h4:Pk g
 ·exact ⟨false,by simp,by simp,by simp;intro h;have:=h.apart;rw [h4] at this;cases this⟩
 cases h5:(g.Edges.all fun x => !(x.From==g.End))
 ·refine ⟨false,by simp,?_,?_⟩
  ·cases Wu F<;>cases Wu L<;>rfl
  ·simp only [Bool.false_eq_true,false_iff]
   intro h;have:=h.noEnd;rw [h5] at this;cases this
 cases h6:Mp g
 ·refine ⟨false,by simp,?_,?_⟩
  ·cases Wu F<;>cases Wu L<;>rfl
  ·simp only [Bool.false_eq_true,false_iff]
   intro h;have:=h.time;rw [h6] at this;cases this
 cases h7:Wu F
 ·refine ⟨false,by simp,by simp,?_⟩
  simp only [Bool.false_eq_true,false_iff]
  intro h
  obtain ⟨F',a,b⟩:=h.reach
  rw [a.uniq f2,h7] at b;cases b
 cases h8:Wu L
 ·refine ⟨false,by simp,by simp,?_⟩
  simp only [Bool.false_eq_true,false_iff]
  intro h
  obtain ⟨L',a,b⟩:=h.ends
  rw [a.uniq l2,h8] at b;cases b
 exact ⟨true,by simp,by simp,by simp;exact ⟨h1,h2,h3,h4,h5,h6,⟨F,f2,h7⟩,⟨L,l2,h8⟩⟩⟩
end
section
variable {N:Nat}
theorem Zsb (l:List T0) (hl:l.length≤4194304):∀ (r:List T0) (n k:Nat) (a:Int),l.drop k=r→r.length < n→∃ b,Qa l n a (k:Int)=some b∧(b=true→l.length≤60):=by
 intro r
 induction r with
 | nil =>
  intro n k a h hn
  obtain ⟨n,rfl⟩:=pS n (by simp at hn;omega)
  unfold Qa
  rw [ZJ (XF h)]
  simp only [cond_false,Bx]
  by_cases h1:l.length≤60
  ·have:decide ((l.length:Int)≤60)=true:=by simp;omega
   rw [this]
   exact ⟨_,rfl,fun _=>h1⟩
  ·have:decide ((l.length:Int)≤60)=false:=by simp;omega
   rw [this]
   exact ⟨false,rfl,fun h=>by cases h⟩
 | cons x r ih =>
  intro n k a h hn
  obtain ⟨n,rfl⟩:=pS n (by simp at hn;omega)
  obtain ⟨h1,h2,h3⟩:=Xr h
  unfold Qa
  rw [ZG h1,ZA (by omega)]
  simp only [cT,Zs,h2,bS]
  exact ih n (k+1) _ h3 (by simp at hn;omega)
end
section
variable {N:Nat}
def Yw (b:UInt8):Bool:=decide (b.toNat < 32) || decide (126 < b.toNat)
def Ye (v:Zk):Int:=bif v.Kind==2 then (v.S.size:Int) else v.N
def Xv (s:Yg) (v:Zk):Bool :=
 v.Kind==s.Kind && (decide (s.Lo≤Ye v) && (decide (Ye v≤s.Hi) && (bif v.Kind==1 then v.S.toList==(str []).toList else v.N==0 && !((bs v.S).any Yw))))
theorem Zhw (s:ByteArray) (i:Nat) (h:i < (bs s).length):s.get! i=(bs s)[i]:=by
 have h':i < s.data.size:=by simpa [bs] using h
 show s.data[i]! = _
 rw [getElem!_pos s.data i h']
 simp [bs]
theorem Zj5 (s:ByteArray) (i:Nat) (b:UInt8) (h:(bs s)[i]? = some b) (hb:b.toNat < 128):Utf8.decode s i=(b.toNat,1):=by
 obtain ⟨hi,he⟩:=List.getElem?_eq_some_iff.1 h
 have h0:s.get! (i+0)=b:=by rw [Nat.add_zero,Zhw s i hi,he]
 unfold Utf8.decode
 simp only [h0,hb,if_true]
theorem ZhP (s:ByteArray) (i:Nat) (b:UInt8) (h:(bs s)[i]? = some b) (hb:¬ b.toNat < 128):126 < (Utf8.decode s i).1:=by
 obtain ⟨hi,he⟩:=List.getElem?_eq_some_iff.1 h
 have h0:s.get! (i+0)=b:=by rw [Nat.add_zero,Zhw s i hi,he]
 unfold Utf8.decode Utf8.runeError
 simp only [h0,hb,if_false]
 split
 ·split
  ·simp only [];omega
  ·simp only [];omega
 ·split
  ·split
   ·rename_i hc
    simp only [Zc,decide_eq_true_eq] at hc
    have:=hc.1
    simp only [] at *;omega
   ·simp only [];omega
  ·split
   ·split
    ·rename_i hc
     simp only [Zc,decide_eq_true_eq] at hc
     have:=hc.1
     simp only [] at *;omega
    ·simp only [];omega
   ·simp only [];omega
theorem Zrc (s:ByteArray):∀ (r:List UInt8) (n i:Nat),(bs s).drop i=r→r.length < n→∃ z,Qc N s true n i=some z∧decide (z≥0)=r.any Yw:=by
 intro r
 induction r with
 | nil =>
  intro n i h hn
  obtain ⟨n,rfl⟩:=pS n (by simp at hn;omega)
  have hi:=XF h
  unfold Qc
  have:decide (i < s.size)=false:=by rw [YU];simp;omega
  rw [this]
  exact ⟨-1,rfl,rfl⟩
 | cons b r ih =>
  intro n i h hn
  obtain ⟨n,rfl⟩:=pS n (by simp at hn;omega)
  obtain ⟨h1,h2,h3⟩:=Xr h
  simp only [Zg] at hn
  unfold Qc
  have:decide (i < s.size)=true:=by rw [YU];simp;omega
  rw [this,List.any_cons]
  simp only [cT,Zav]
  by_cases hb:b.toNat < 128
  ·rw [Zj5 s i b h2 hb]
   by_cases c1:b.toNat < 32
   ·have e1:decide (((b.toNat:Nat):Int) < 32)=true:=by simp;omega
    have e2:Yw b=true:=by simp [Yw,c1]
    rw [e1,e2]
    exact ⟨(i:Int),rfl,by simp⟩
   ·have e1:decide (((b.toNat:Nat):Int) < 32)=false:=by simp;omega
    rw [e1]
    simp only [cond_false,bS]
    by_cases c2:126 < b.toNat
    ·have e3:decide (((b.toNat:Nat):Int) > 126)=true:=by simp;omega
     have e2:Yw b=true:=by simp [Yw,c2]
     rw [e3,e2]
     exact ⟨(i:Int),rfl,by simp⟩
    ·have e3:decide (((b.toNat:Nat):Int) > 126)=false:=by simp;omega
     have e2:Yw b=false:=by simp [Yw];omega
     rw [e3,e2]
     exact ih n (i+1) h3 (by omega)
  ·have hd:=ZhP s i b h2 hb
   have e2:Yw b=true:=by simp [Yw];omega
   generalize (Utf8.decode s i).1=c at hd ⊢
   have e1:decide ((c:Int) < 32)=false:=by simp;omega
   have e3:decide ((c:Int) > 126)=true:=by simp;omega
   rw [e1,e2]
   simp only [cond_false,bS]
   rw [e3]
   exact ⟨(i:Int),rfl,by simp⟩
theorem Zmn (hN:4194304 < N) (s:ByteArray) (hs:s.size≤4194304):H3 N s=some ((bs s).any Yw):=by
 obtain ⟨z,h1,h2⟩:=Zrc (N:=N) s (bs s) N 0 rfl (by rw [YU] at hs;omega)
 unfold H3 ZcD ZbM
 rw [h1]
 simp only [bS]
 rw [h2]
theorem ZbK (v:Zk):Mk N v=some (Ye v):=by
 unfold Mk Ye
 cases (v.Kind==2)<;>rfl
theorem PP (v:Zk):Rv N v=some (Ye v):=ZbK (N:=N) v
theorem Zii (hN:4194304 < N) (s:Yg) (v:Zk) (hv:v.S.size≤4194304):MW N s v=some (Xv s v):=by
 unfold MW Xv
 rw [ZbK]
 simp only [bS,bne]
 cases h1:v.Kind==s.Kind with
 | false=>rfl
 | true =>
  simp only [Zh,cond_false,Bool.true_and]
  by_cases h2:Ye v < s.Lo
  ·rw [dT h2,dF (show ¬ s.Lo≤Ye v by omega)];rfl
  ·rw [dF h2,dT (show s.Lo≤Ye v by omega)]
   simp only [cond_false,Bool.true_and]
   by_cases h3:Ye v > s.Hi
   ·rw [dT h3,dF (show ¬ Ye v≤s.Hi by omega)];rfl
   ·rw [dF h3,dT (show Ye v≤s.Hi by omega)]
    simp only [cond_false,Bool.true_and]
    cases h4:v.Kind==1 with
    | true=>rfl
    | false =>
     simp only [cond_false]
     cases h5:v.N==0 with
     | false=>rfl
     | true =>
      simp only [cT,Bool.true_and]
      rw [Zmn hN v.S hv];rfl
theorem ZsS (s:Yg) (v:Zk) (hv:v.S.size≤4194304):∀ (r:List UInt8) (n k:Nat),(bs v.S).drop k=r→r.length < n→Qi N s v n (k:Int)=bif r.any Yw then some false else Pw N s v:=by
 intro r
 induction r with
 | nil =>
  intro n k h hn
  obtain ⟨n,rfl⟩:=pS n (by simp at hn;omega)
  unfold Qi
  rw [ZkC (XF h)];rfl
 | cons b r ih =>
  intro n k h hn
  obtain ⟨n,rfl⟩:=pS n (by simp at hn;omega)
  obtain ⟨h1,h2,h3⟩:=Xr h
  simp only [Zg] at hn
  unfold Qi
  have hk:k < 4194304:=by rw [YU] at hv;omega
  rw [Zi2 h1,PC,h2,ZA (by omega),List.any_cons]
  simp only [cT,Option.map_some,bS]
  by_cases c1:b.toNat < 32
  ·rw [dT (show ((b.toNat:Nat):Int) < 32 by omega)]
   have:Yw b=true:=by simp [Yw,c1]
   rw [this];rfl
  ·rw [dF (show ¬ ((b.toNat:Nat):Int) < 32 by omega)]
   by_cases c2:126 < b.toNat
   ·rw [dT (show ((b.toNat:Nat):Int) > 126 by omega)]
    have:Yw b=true:=by simp [Yw,c2]
    rw [this];rfl
   ·rw [dF (show ¬ ((b.toNat:Nat):Int) > 126 by omega)]
    have:Yw b=false:=by simp [Yw];omega
    rw [this]
    simp only [cond_false,Bool.false_or]
    exact ih n (k+1) h3 (by omega)
theorem ZtN (s:ByteArray) (h:(s.toList==(str []).toList)=true):(bs s).any Yw=false:=by
 have h:=beq_iff_eq.1 h
 rw [XS,XS,M8] at h
 rw [h];rfl
theorem ZhK (hN:4194304 < N) (s:Yg) (hs:s.Kind=1∨s.Kind=2) (v:Zk) (hv:v.S.size≤4194304):Hr N s v=some (Xv s v):=by
 have hl:=ZsS (N:=N) s v hv (bs v.S) N 0 rfl (by rw [YU] at hv;omega)
 have hl:Hr N s v=bif (bs v.S).any Yw then some false else Pw N s v:=hl
 rw [hl]
 have k1:∀ b,Sc N s v b=some (!b && (v.Kind==s.Kind && (decide (s.Lo≤Ye v) && decide (Ye v≤s.Hi)))):=fun b=>by
  unfold Sc
  rw [PP]
  simp only [bS,ge_iff_le]
  cases b<;>cases (v.Kind==s.Kind)<;>cases decide (s.Lo≤Ye v)<;>rfl
 unfold Pw Xv
 rw [k1,k1,k1]
 cases hA:(bs v.S).any Yw with
 | true =>
  simp only [cT,Zh,Bool.and_false]
  cases h4:v.Kind==1 with
  | false=>simp
  | true =>
   cases h5:v.S.toList==(str []).toList with
   | false=>simp
   | true=>rw [ZtN v.S h5] at hA;cases hA
 | false =>
  simp only [cond_false,Bool.not_false,Bool.and_true]
  by_cases q2:v.Kind=2
  ·have e1:(v.Kind==1)=false:=by rw [q2];rfl
   have e2:(v.Kind==2)=true:=by rw [q2];rfl
   rw [e1,e2]
   simp only [bne]
   cases (v.N==0)<;>cases (v.Kind==s.Kind)<;>cases decide (s.Lo≤Ye v)<;>cases decide (Ye v≤s.Hi)<;>rfl
  ·have e2:(v.Kind==2)=false:=by simp [q2]
   rw [e2]
   by_cases q1:v.Kind=1
   ·have e1:(v.Kind==1)=true:=by rw [q1];rfl
    rw [e1]
    simp only [cond_false,cT]
    cases (v.S.toList==(str []).toList)<;>cases (v.Kind==s.Kind)<;>cases decide (s.Lo≤Ye v)<;>cases decide (Ye v≤s.Hi)<;>rfl
   ·have e1:(v.Kind==1)=false:=by simp [q1]
    have e3:(v.Kind==s.Kind)=false:=by
     rw [beq_eq_false_iff_ne]
     intro e;rcases hs with h | h<;>rw [h] at e
     ·exact q1 e
     ·exact q2 e
    rw [e1,e3];rfl
def X7 (v:Zk):Bool:=(v.Kind==0) && ((v.N==0) && ((v.S.toList==(str []).toList) && true))
def XD (fl:List T4) (v:Zk) (i:Nat):Bool:=match fl[i]? with
 | some f=>Xv f.Sort' v
 | none=>false
def Vp (fl:List T4) (ks:List Zk):Bool:=decide (fl.length=ks.length) && ZN (fun v i=>X7 v || XD fl v i) ks 0
def Uj (d:List T0) (label:Int) (ks:List Zk):Bool:=decide (0≤label∧label < (d.length:Int)) && (YO d && Vp (Zx d) ks)
def XP (fs:List T4) (vs:List Zk):Bool:=decide (fs.length=vs.length) && ZN (fun v i=>XD fs v i) vs 0
theorem Zcu (a b:Nat):((a:Int) != (b:Int)) = !decide (a=b):=by
 by_cases h:a=b
 ·subst h;simp
 ·simp [h];omega
theorem ZlW (hN:4194304 < N) (fl:List T4) (ks:List Zk) (hl:fl.length=ks.length) (hk:ks.length≤4194304) (hs:∀ v∈ks,v.S.size≤4194304):Sn N ks fl N (0:Int)=some (ZN (fun v i=>X7 v || XD fl v i) ks 0):=by
 have h:=YD (fun (v:Zk) i=>X7 v || XD fl v i) (xs:=ks) (F:=Sn N ks fl) (e:=some true) (n:=N) (by omega) (by
  intro n k x hk' hx
  obtain ⟨f,hf⟩:∃ f,fl[k]? = some f:=⟨fl[k],by simp [hl,hk']⟩
  rw [Sn,ZG hk',ZA (by omega)]
  simp only [cT,Zs,hx,bS,hf,XD]
  rw [Zii hN _ _ (hs x (Zb hx))]
  show (bif !(X7 x) then _ else _)=_
  cases X7 x<;>cases Xv f.Sort' x<;>rfl) (by
  intro n k hk'
  unfold Sn
  rw [ZJ hk'];rfl)
 rw [h]
 cases ZN (fun (v:Zk) i=>X7 v || XD fl v i) ks 0<;>rfl
theorem ZkR (hN:4194304 < N) (d:List T0) (hl:d.length≤1000) (hd:∀ x∈d,Wk x) (hn:∀ x∈d,TN x) (label:Int) (ks:List Zk) (hk:ks.length≤4194304) (hs:∀ v∈ks,v.S.size≤4194304) :
  LO N d label ks=some (Uj d label ks):=by
 unfold LO Uj
 rw [ZiX hN d (by omega) hd hn,Zh1 hN d hl hd]
 by_cases c1:label < 0
 ·rw [dT c1,dF (show ¬ (0≤label∧label < (d.length:Int)) by omega)];rfl
 ·rw [dF c1]
  by_cases c2:label≥(d.length:Int)
  ·rw [dT c2,dF (show ¬ (0≤label∧label < (d.length:Int)) by omega)];rfl
  ·rw [dF c2,dT (show (0≤label∧label < (d.length:Int)) by omega)]
   cases YO d with
   | false=>rfl
   | true =>
    simp only [cond_false,bS,Zh,Bool.true_and,Vp]
    rw [Zcu]
    by_cases c3:(Zx d).length=ks.length
    ·rw [dT c3]
     simp only [Zh,cond_false,Bool.true_and]
     exact ZlW hN _ _ c3 hk hs
    ·rw [dF c3];rfl
theorem Zjl (hN:4194304 < N) (fs:List T4) (vs:List Zk) (hk:vs.length≤4194304) (hs:∀ v∈vs,v.S.size≤4194304):M6 N fs vs=some (XP fs vs):=by
 unfold M6 XP
 rw [Zcu]
 by_cases c3:fs.length=vs.length
 ·rw [dT c3]
  simp only [Zh,cond_false,Bool.true_and]
  have h:=YD (fun (f:T4) i=>match vs[i]? with | some v=>Xv f.Sort' v | none=>false) (xs:=fs) (F:=RY N fs vs) (e:=some true) (n:=N) (by omega) (by
   intro n k x hk' hx
   obtain ⟨v,hv⟩:∃ v,vs[k]? = some v:=⟨vs[k],by simp [← c3,hk']⟩
   rw [RY,ZG hk',ZA (by omega)]
   simp only [cT,Zs,hx,bS,hv]
   rw [Zii hN _ _ (hs v (Zb hv))]
   cases Xv x.Sort' v<;>rfl) (by
   intro n k hk'
   unfold RY
   rw [ZJ hk'];rfl)
  rw [h]
  have e:ZN (fun (f:T4) i=>match vs[i]? with | some v=>Xv f.Sort' v | none=>false) fs 0=ZN (fun v i=>XD fs v i) vs 0:=by
   rw [Bool.eq_iff_iff,Xc,Xc]
   constructor
   ·intro q i v hv
    obtain ⟨f,hf⟩:∃ f,fs[i]? = some f:=⟨fs[i]'(by rw [c3];exact (List.getElem?_eq_some_iff.1 hv).1),by simp⟩
    have:=q i f hf
    simp only [Nat.zero_add] at this ⊢
    rw [hv] at this
    unfold XD;rw [hf];exact this
   ·intro q i f hf
    obtain ⟨v,hv⟩:∃ v,vs[i]? = some v:=⟨vs[i]'(by rw [← c3];exact (List.getElem?_eq_some_iff.1 hf).1),by simp⟩
    have:=q i v hv
    simp only [Nat.zero_add] at this ⊢
    unfold XD at this;rw [hf] at this
    rw [hv];exact this
  rw [e]
  cases ZN (fun v i=>XD fs v i) vs 0<;>rfl
 ·rw [dF c3];rfl
def Yj (first:Nat) (vs ks:List Zk):List Zk:=ks.take first++vs++ks.drop (first+vs.length)
theorem Zka (x:T0) (vs ks:List Zk) (first:Nat) (hf:x.First=(first:Int)) (hle:first+vs.length≤ks.length) (hk:ks.length≤4194304):LJ N x vs ks=some (Yj first vs ks):=by
 unfold LJ Mu
 rw [Yl (by simp;omega)]
 simp only [bS,List.nil_append]
 have hb:X4 (some x.First) none ks.length=some (first,ks.length):=by
  unfold X4
  rw [hf]
  have h1:decide ((0:Int)≤(first:Int))=true:=by simp
  have h2:decide ((first:Int)≤(ks.length:Int))=true:=by simp;omega
  simp only [Option.getD_some,Option.getD_none,h1,h2,Bool.and_true,Bool.true_and,cT]
  simp
 unfold lsl Vv
 rw [hb]
 simp only [Option.map_some,bS]
 have hm:min vs.length (ks.length-first)=vs.length:=by omega
 rw [hm,List.take_length];rfl
theorem HX (first:Nat) (vs ks:List Zk) (hle:first+vs.length≤ks.length):(Yj first vs ks).length=ks.length:=by
 unfold Yj;simp;omega
theorem PH (first:Nat) (vs ks:List Zk) (hle:first+vs.length≤ks.length) (i:Nat):(Yj first vs ks)[i]? = if first≤i∧i < first+vs.length then vs[i-first]? else ks[i]? := by
 unfold Yj
 have ht:(ks.take first).length=first:=by rw [List.length_take];omega
 by_cases c1:i < first
 ·rw [if_neg (by omega),aA,List.getElem?_append_left (by omega),List.getElem?_take,if_pos c1]
 ·by_cases c2:i < first+vs.length
  ·rw [if_pos ⟨by omega,c2⟩,List.getElem?_append_left (by rw [lA,ht];omega),List.getElem?_append_right (by omega),ht]
  ·rw [if_neg (by omega),List.getElem?_append_right (by rw [lA,ht];omega),lA,ht,List.getElem?_drop]
   congr 1;omega
theorem Pn {d:List T0} (hv:YO d=true) {i:Nat} {x:T0} (hx:d[i]? = some x):∃ first:Nat,x.First=(first:Int)∧first+x.Fields.length≤(Zx d).length∧d.length≤40∧(Zx d).length≤24∧X5 (Zx d) d x i=true:=by
 unfold YO at hv
 simp only [Zc,decide_eq_true_eq] at hv
 obtain ⟨h1,h2,h3⟩:=hv
 rw [Xc] at h3
 have hd:=h3 i x hx
 rw [Nat.zero_add] at hd
 have hd0:=hd
 unfold X5 at hd
 simp only [Zc,decide_eq_true_eq] at hd
 refine ⟨(Zx (d.take i)).length,hd.2.2.1,?_,h1,h2,hd0⟩
 have:=ZeT hx
 have:=Zed d (i+1)
 omega
end
section
variable {N:Nat}
structure Ze6 (vs ks:List Zk):Prop where
 v:∀ v∈vs,v.S.size≤4194304
 k:∀ v∈ks,v.S.size≤4194304
theorem MV {α:Type} {L:List α} {v:Int} {x:α} (h:Zm L v=some x):∃ i:Nat,v=(i:Int)∧L[i]? = some x:=by
 obtain ⟨h0,h1⟩:=Td h
 obtain ⟨i,rfl⟩:=Ze h0
 exact ⟨i,rfl,by rw [← Zs];exact h⟩
theorem Zdv (hN:4194304 < N) (d:List T0) (hl:d.length≤1000) (hd:∀ x∈d,Wk x) (hn:∀ x∈d,TN x) (label:Int) (vs ks:List Zk) (hv:vs.length≤4194304) (hk:ks.length≤4194304) (hs:Ze6 vs ks) :
  (Uj d label ks=false∧z50 N d label vs ks=some ([],1))∨(Uj d label ks=true∧∃ i x first,label=((i:Nat):Int)∧d[i]? = some x∧x.First=((first:Nat):Int)∧X5 (Zx d) d x i=true ∧
   ((XP x.Fields vs=false∧z50 N d label vs ks=some ([],11))∨(XP x.Fields vs=true∧first+vs.length≤ks.length∧z50 N d label vs ks=some (Yj first vs ks,0)))):=by
 unfold z50
 rw [ZkR hN d hl hd hn label ks hk hs.k]
 cases hp:Uj d label ks with
 | false=>exact .inl ⟨rfl,rfl⟩
 | true =>
  right
  refine ⟨rfl,?_⟩
  have hp0:=hp
  unfold Uj at hp
  simp only [Zc,decide_eq_true_eq] at hp
  obtain ⟨⟨p1,p2⟩,p3,p4⟩:=hp
  obtain ⟨x,hx⟩:=Y3 p1 p2
  obtain ⟨i,rfl,hi⟩:=MV hx
  obtain ⟨first,f1,f2,f3,f4,f5⟩:=Pn p3 hi
  refine ⟨i,x,first,rfl,hi,f1,f5,?_⟩
  simp only [bS,Zh,cond_false]
  rw [hx]
  simp only [bS]
  rw [Zjl hN _ _ hv hs.v]
  cases hf:XP x.Fields vs with
  | false=>exact .inl ⟨rfl,rfl⟩
  | true =>
   right
   have hlen:x.Fields.length=vs.length:=by
    unfold XP at hf
    simp only [Zc,decide_eq_true_eq] at hf
    exact hf.1
   have hkl:(Zx d).length=ks.length:=by
    unfold Vp at p4
    simp only [Zc,decide_eq_true_eq] at p4
    exact p4.1
   refine ⟨rfl,by omega,?_⟩
   simp only [bS,Zh,cond_false]
   rw [Zka x vs ks first f1 (by omega) hk]
   rfl
end
section
variable {N:Nat}
def XZ (l:List Zk) (x:Int):Int:=bif decide (x < 0) then 0 else match Zm l x with
 | some v=>Ye v
 | none=>0
def UF (l:List Zk) (x:Int):Bool:=bif decide (x < 0) then false else match Zm l x with
 | some v=>v.Kind==0
 | none=>true
def Vz (l:List Zk) (d:T1):Bool := !(UF l d.X) && (!(UF l d.Y) && !(decide (Zi (XZ l d.X-XZ l d.Y) > d.C)))
def Uz (l:List Zk) (e:Int × Int):Bool:=match Zm l e.1 with
 | some a=>match Zm l e.2 with
  | some b => !(a.Kind==0) && (!(b.Kind==0) && (a.S.toList==b.S.toList))
  | none=>false
 | none=>false
def W8 (g:T6) (l:List Zk):Bool:=ZN (fun d _=>Vz l d) g.Diffs 0 && ZN (fun e _=>Uz l e) g.Equals 0
structure Sv (n:Nat) (g:T6):Prop where
 d:∀ d∈g.Diffs,d.X < (n:Int)∧d.Y < (n:Int)
 e:∀ e∈g.Equals,(0≤e.1∧e.1 < (n:Int))∧(0≤e.2∧e.2 < (n:Int))
 dl:g.Diffs.length≤20
 el:g.Equals.length≤20
theorem Zi1 {fl:List T4} {x:Int} (h:Y8 fl x=true):0≤x∧x < (fl.length:Int):=by
 unfold Y8 at h
 cases hc:Zm fl x with
 | none=>rw [hc] at h;cases h
 | some f=>exact Td hc
theorem ZdB {fl:List T4} {g:T6} (h:Z3 fl g=true):Sv fl.length g:=by
 unfold Z3 at h
 simp only [Zc,decide_eq_true_eq] at h
 obtain ⟨⟨h1,h2⟩,h3,h4⟩:=h
 rw [Xc] at h3 h4
 refine ⟨fun d hd=>?_,fun e he=>?_,h1,h2⟩
 ·obtain ⟨i,hi⟩:=List.mem_iff_getElem?.1 hd
  have:=of_decide_eq_true (h3 i d hi)
  exact ⟨this.2.1,this.2.2.2.1⟩
 ·obtain ⟨i,hi⟩:=List.mem_iff_getElem?.1 he
  have:=h4 i e hi
  simp only [Zc] at this
  exact ⟨Zi1 this.1,Zi1 this.2⟩
theorem Lv (l:List Zk) {x:Int} (hx:x < (l.length:Int)):(decide (x < 0)=true∧decide (x≥0)=false∧UF l x=false∧XZ l x=0) ∨
  (decide (x < 0)=false∧decide (x≥0)=true∧∃ v,Zm l x=some v∧UF l x=(v.Kind==0)∧XZ l x=Ye v):=by
 by_cases h:x < 0
 ·left
  have e:decide (x < 0)=true:=dT h
  refine ⟨e,dF (by omega),?_,?_⟩
  ·unfold UF;rw [e];rfl
  ·unfold XZ;rw [e];rfl
 ·right
  have e:decide (x < 0)=false:=dF h
  obtain ⟨v,hv⟩:=Y3 (L:=l) (v:=x) (by omega) hx
  refine ⟨e,dT (by omega),v,hv,?_,?_⟩
  ·unfold UF;rw [e,hv];rfl
  ·unfold XZ;rw [e,hv];rfl
theorem ZoD (l:List Zk) (k:Int) (ag:Int→Option Bool) (d:T1) (hX:d.X < (l.length:Int)) (hY:d.Y < (l.length:Int)) (n:Nat) :
  VT N l k ag d (n+3) 0 0 0=bif Vz l d then ag (Zi (k+1)) else some false:=by
 have w1:Zi ((0:Int)+1)=1:=rfl
 have w2:Zi ((1:Int)+1)=2:=rfl
 have i0:Zm ([d.X,d.Y]:List Int) 0=some d.X:=rfl
 have i1:Zm ([d.X,d.Y]:List Int) 1=some d.Y:=rfl
 have d0:decide ((0:Int) < 2)=true:=rfl
 have d1:decide ((1:Int) < 2)=true:=rfl
 have d2:decide ((2:Int) < 2)=false:=rfl
 have b0:((0:Int)==0)=true:=rfl
 have b1:((1:Int)==0)=false:=rfl
 have b2:((1:Int)==1)=true:=rfl
 have fin:∀ a b:Int,VT N l k ag d (n+1) a b 2=bif !(decide (Zi (a-b) > d.C)) then ag (Zi (k+1)) else some false:=fun a b=>by
  rw [VT,d2]
  simp only [cond_false,BH]
  cases decide (Zi (a-b) > d.C)<;>rfl
 have sec:∀ a:Int,VT N l k ag d (n+2) a 0 1=bif !(UF l d.Y) && !(decide (Zi (a-XZ l d.Y) > d.C)) then ag (Zi (k+1)) else some false:=fun a=>by
  rw [VT,d1]
  simp only [cT,i1,bS,w2]
  rcases Lv l hY with ⟨h1,_,h3,h4⟩ | ⟨h1,_,v,hv,h3,h4⟩
  ·rw [h1,h3,h4]
   simp only [cT]
   rw [fin]
   rfl
  ·rw [h1,h3,h4,hv]
   simp only [cond_false,bS]
   cases v.Kind==0 with
   | true=>rfl
   | false =>
    simp only [cond_false,ZbK,bS,b1,b2,cT]
    rw [fin]
    rfl
 rw [VT,d0]
 simp only [cT,i0,bS,w1]
 unfold Vz
 rcases Lv l hX with ⟨h1,_,h3,h4⟩ | ⟨h1,_,v,hv,h3,h4⟩
 ·rw [h1,h3,h4]
  simp only [cT]
  rw [sec]
  rfl
 ·rw [h1,h3,h4,hv]
  simp only [cond_false,bS]
  cases v.Kind==0 with
  | true=>rfl
  | false =>
   simp only [cond_false,ZbK,bS,b0,cT]
   rw [sec]
   rfl
theorem Zmi (hN:4194304 < N) (g:T6) (l:List Zk) (hg:Sv l.length g):Rg g l N (0:Int)=some (ZN (fun e _=>Uz l e) g.Equals 0):=by
 have hel:=hg.el
 have h:=YD (fun (e:Int × Int) _=>Uz l e) (xs:=g.Equals) (F:=Rg g l) (e:=some true) (n:=N) (by omega) (by
  intro n k e hk he
  obtain ⟨⟨a1,a2⟩,a3,a4⟩:=hg.e e (Zb he)
  obtain ⟨a,ha⟩:=Y3 (L:=l) a1 a2
  obtain ⟨b,hb⟩:=Y3 (L:=l) a3 a4
  rw [Rg,ZG hk,ZA (by omega)]
  simp only [cT,Zs,he,bS,ha,hb,Uz]
  cases (a.Kind==0)<;>cases (b.Kind==0)<;>cases (a.S.toList==b.S.toList)<;>rfl) (by
  intro n k hk
  rw [Rg,ZJ hk];rfl)
 rw [h]
 cases ZN (fun (e:Int × Int) _=>Uz l e) g.Equals 0<;>rfl
theorem ZmX (hN:4194304 < N) (g:T6) (l:List Zk) (hg:Sv l.length g):H5 N g l=some (W8 g l):=by
 have hdl:=hg.dl
 have h:=YD (fun (d:T1) _=>Vz l d) (xs:=g.Diffs) (F:=Ui N g l) (e:=BL N g l) (n:=N) (by omega) (by
  intro n k d hk hd
  obtain ⟨a1,a2⟩:=hg.d d (Zb hd)
  rw [Ui,ZG hk]
  simp only [cT,Zs,hd,bS]
  have:=ZoD (N:=N) l (k:Int) (Ui N g l n) d a1 a2 (N-3)
  rw [show N-3+3=N by omega] at this
  rw [this,ZA (by omega)]) (by
  intro n k hk
  rw [Ui,ZJ hk];rfl)
 unfold H5 W8
 rw [h]
 cases ZN (fun (d:T1) _=>Vz l d) g.Diffs 0 with
 | false=>rfl
 | true=>exact Zmi hN g l hg
theorem ZrS (l:List Zk) (k:Int) (ag:Int→Option Bool) (d:T1) (hX:d.X < (l.length:Int)) (hY:d.Y < (l.length:Int)) :
  PS l k ag d (XZ l d.X) (XZ l d.Y)=bif Vz l d then ag (Zi (k+1)) else some false:=by
 unfold PS Vz
 rcases Lv l hX with ⟨_,h2,h3,_⟩ | ⟨_,h2,v,hv,h3,_⟩<;>rcases Lv l hY with ⟨_,q2,q3,_⟩ | ⟨_,q2,u,hu,q3,_⟩
 ·rw [h2,q2,h3,q3]
  cases decide (Zi (XZ l d.X-XZ l d.Y) > d.C)<;>rfl
 ·rw [h2,q2,h3,q3,hu]
  simp only [cond_false,cT,bS]
  cases u.Kind==0<;>cases decide (Zi (XZ l d.X-XZ l d.Y) > d.C)<;>rfl
 ·rw [h2,q2,h3,q3,hv]
  simp only [cond_false,cT,bS]
  cases v.Kind==0<;>cases decide (Zi (XZ l d.X-XZ l d.Y) > d.C)<;>rfl
 ·rw [h2,q2,h3,q3,hv,hu]
  simp only [cond_false,cT,bS]
  cases v.Kind==0<;>cases u.Kind==0<;>cases decide (Zi (XZ l d.X-XZ l d.Y) > d.C)<;>rfl
theorem ZqF (l:List Zk) (k:Int) (ag:Int→Option Bool) (d:T1) (hX:d.X < (l.length:Int)) (hY:d.Y < (l.length:Int)) :
  Mb N l k ag d (XZ l d.X)=bif Vz l d then ag (Zi (k+1)) else some false:=by
 unfold Mb
 have:=ZrS l k ag d hX hY
 rcases Lv l hY with ⟨_,q2,_,q4⟩ | ⟨_,q2,u,hu,_,q4⟩
 ·rw [q2];rw [q4] at this;exact this
 ·rw [q2,hu];rw [q4] at this
  simp only [cT,bS,PP]
  exact this
theorem Zg2 (hN:4194304 < N) (g:T6) (l:List Zk) (hg:Sv l.length g):MI N g l=some (W8 g l):=by
 have hdl:=hg.dl
 have hel:=hg.el
 have h2:=YD (fun (e:Int × Int) _=>Uz l e) (xs:=g.Equals) (F:=SF g l) (e:=some true) (n:=N) (by omega) (by
  intro n k e hk he
  obtain ⟨⟨a1,a2⟩,a3,a4⟩:=hg.e e (Zb he)
  obtain ⟨a,ha⟩:=Y3 (L:=l) a1 a2
  obtain ⟨b,hb⟩:=Y3 (L:=l) a3 a4
  rw [SF,ZG hk,ZA (by omega)]
  simp only [cT,Zs,he,bS,ha,hb,Uz]
  cases (a.Kind==0)<;>cases (b.Kind==0)<;>cases (a.S.toList==b.S.toList)<;>rfl) (by
  intro n k hk
  rw [SF,ZJ hk];rfl)
 have h:=YD (fun (d:T1) _=>Vz l d) (xs:=g.Diffs) (F:=Vt N g l) (e:=DE N g l) (n:=N) (by omega) (by
  intro n k d hk hd
  obtain ⟨a1,a2⟩:=hg.d d (Zb hd)
  have hk6:=ZqF (N:=N) l (k:Int) (Vt N g l n) d a1 a2
  rw [ZA (by omega)] at hk6
  rw [Vt,ZG hk]
  simp only [cT,Zs,hd,bS]
  rcases Lv l a1 with ⟨_,q2,_,q4⟩ | ⟨_,q2,u,hu,_,q4⟩
  ·rw [q2];rw [q4] at hk6;exact hk6
  ·rw [q2,hu];rw [q4] at hk6
   simp only [cT,bS,PP]
   exact hk6) (by
  intro n k hk
  rw [Vt,ZJ hk];rfl)
 unfold MI W8
 rw [h]
 cases ZN (fun (d:T1) _=>Vz l d) g.Diffs 0 with
 | false=>rfl
 | true =>
  show SF g l N (0:Int)=_
  rw [h2]
  cases ZN (fun (e:Int × Int) _=>Uz l e) g.Equals 0<;>rfl
def Xa (d:List T0) (label:Int) (vs ks:List Zk):Bool:=Uj d label ks && (match Zm d label with
 | some x=>XP x.Fields vs && W8 x.Guard (Yj x.First.toNat vs ks)
 | none=>false)
theorem DI {fl:List T4} {d:List T0} {x:T0} {i:Nat} (h:X5 fl d x i=true):Z3 fl x.Guard=true:=by
 unfold X5 at h
 simp only [Zc] at h
 exact h.2.2.2.2.2
theorem ZeI {fl:List T4} {ks:List Zk} (h:Vp fl ks=true):fl.length=ks.length:=by
 unfold Vp at h
 simp only [Zc,decide_eq_true_eq] at h
 exact h.1
theorem Zew {fl:List T4} {ks:List Zk} (h:XP fl ks=true):fl.length=ks.length:=by
 unfold XP at h
 simp only [Zc,decide_eq_true_eq] at h
 exact h.1
theorem Zj2 (hN:4194304 < N) (d:List T0) (hl:d.length≤1000) (hd:∀ x∈d,Wk x) (hn:∀ x∈d,TN x) (label:Int) (vs ks:List Zk) (hv:vs.length≤4194304) (hk:ks.length≤4194304) (hs:Ze6 vs ks) :
  Dv N d label vs ks=some (Xa d label vs ks):=by
 unfold Dv Xa
 rw [ZkR hN d hl hd hn label ks hk hs.k]
 cases hp:Uj d label ks with
 | false=>rfl
 | true =>
  unfold Uj at hp
  simp only [Zc,decide_eq_true_eq] at hp
  obtain ⟨⟨p1,p2⟩,p3,p4⟩:=hp
  obtain ⟨x,hx⟩:=Y3 p1 p2
  obtain ⟨i,rfl,hi⟩:=MV hx
  obtain ⟨first,f1,f2,f3,f4,f5⟩:=Pn p3 hi
  simp only [bS,Zh,cond_false]
  rw [hx]
  simp only [bS]
  rw [Zjl hN _ _ hv hs.v]
  cases hf:XP x.Fields vs with
  | false=>rfl
  | true =>
   have e1:=Zew hf
   have e2:=ZeI p4
   simp only [bS,Zh,cond_false,Bool.true_and]
   rw [Zka x vs ks first f1 (by omega) hk]
   simp only [bS]
   have ef:x.First.toNat=first:=by omega
   rw [ef,ZmX hN x.Guard _ (by rw [HX first vs ks (by omega),← e2];exact ZdB (DI f5))]
   rfl
end
end Gp
section
namespace Gp
open Go Go.Kx Gx
variable {N:Nat}
theorem Zhy {d:List T0} (hv:YO d=true) {x:T0} (hx:x∈d) {f:T4} (hf:f∈x.Fields):f.Sort'.Kind=1∨f.Sort'.Kind=2:=by
 obtain ⟨i,hi⟩:=List.mem_iff_getElem?.1 hx
 obtain ⟨first,_,_,_,_,h⟩:=Pn hv hi
 unfold X5 at h
 simp only [Zc] at h
 have h:=h.2.2.2.2.1
 rw [Xc] at h
 obtain ⟨k,hk⟩:=List.mem_iff_getElem?.1 hf
 have:=h k f hk
 unfold UK at this
 simp only [Zc,decide_eq_true_eq] at this
 have:=this.2.1
 unfold Xm at this
 rcases this with h | h
 ·exact .inl h.1
 ·exact .inr h.1
theorem ZnC {d:List T0} (hv:YO d=true) {f:T4} (hf:f∈Zx d):f.Sort'.Kind=1∨f.Sort'.Kind=2:=by
 unfold Zx at hf
 obtain ⟨l,hl,hfl⟩:=List.mem_flatten.1 hf
 obtain ⟨x,hx,rfl⟩:=List.mem_map.1 hl
 exact Zhy hv hx hfl
theorem B6 (hN:4194304 < N) (d:List T0) (hl:d.length≤1000) (hd:∀ x∈d,Wk x) (hv:YO d=true) (ks:List Zk) (hk:ks.length≤4194304) (hs:∀ v∈ks,v.S.size≤4194304) :
  So N d ks=some (Vp (Zx d) ks):=by
 unfold So Vp
 rw [Zci hN d hl hd]
 simp only [bS]
 rw [Zcu]
 by_cases c:(Zx d).length=ks.length
 ·rw [dT c,dT c.symm]
  simp only [Zh,cond_false,Bool.true_and]
  have h:=YD (fun (v:Zk) i=>X7 v || XD (Zx d) v i) (xs:=ks) (F:=S6 N d ks) (e:=some true) (n:=N) (by omega) (by
   intro n k x hk' hx
   have hkf:k < (Zx d).length:=by omega
   have hf:MX N d (k:Int)=(Zx d)[k]? := Zhp d (by omega) hd d 0 N k rfl (by omega) hkf (by omega)
   obtain ⟨f,hf2⟩:∃ f,(Zx d)[k]? = some f:=⟨(Zx d)[k],by simp [hkf]⟩
   rw [S6,ZG hk',ZA (by omega),hf,hf2]
   simp only [cT,Zs,hx,bS,hf2,XD]
   rw [ZhK hN _ (ZnC hv (Zb hf2)) _ (hs x (Zb hx))]
   show (bif !(X7 x) then _ else _)=_
   cases X7 x<;>cases Xv f.Sort' x<;>rfl) (by
   intro n k hk'
   rw [S6,ZJ hk'];rfl)
  rw [h]
  cases ZN (fun (v:Zk) i=>X7 v || XD (Zx d) v i) ks 0<;>rfl
 ·rw [dF c,dF (fun e=>c e.symm)];rfl
theorem Zqc (hN:4194304 < N) (x:T0) (hx:Wk x) (hso:∀ f∈x.Fields,f.Sort'.Kind=1∨f.Sort'.Kind=2) (vs:List Zk) (hk:vs.length≤4194304) (hs:∀ v∈vs,v.S.size≤4194304):LX N x vs=some (XP x.Fields vs):=by
 have hxf:=hx.f
 have ZR:∀ (r:List Zk) (n k:Nat),vs.drop k=r→r.length < n→k≤x.Fields.length→Rf N x vs n (k:Int)=some (decide (x.Fields.length=vs.length) && ZN (fun v i=>XD x.Fields v i) r k) ∨
   (Rf N x vs n (k:Int)=some false∧(decide (x.Fields.length=vs.length) && ZN (fun v i=>XD x.Fields v i) r k)=false):=by
  intro r
  induction r with
  | nil =>
   intro n k h hn hkf
   obtain ⟨n,rfl⟩:=pS n (by simp at hn;omega)
   left
   rw [Rf,ZJ (XF h)]
   simp only [cond_false,PE,ZN,Bool.and_true]
   congr 1
   by_cases c:x.Fields.length=vs.length
   ·rw [dT c,c];simp
   ·rw [dF c,beq_eq_false_iff_ne];omega
  | cons v r ih =>
   intro n k h hn hkf
   obtain ⟨n,rfl⟩:=pS n (by simp at hn;omega)
   obtain ⟨h1,h2,h3⟩:=Xr h
   simp only [Zg] at hn
   rw [Rf,ZG h1,ZA (by omega)]
   by_cases c:k < x.Fields.length
   ·obtain ⟨f,hf⟩:∃ f,x.Fields[k]? = some f:=⟨x.Fields[k],by simp [c]⟩
    rw [ZG c]
    simp only [cT,Zs,hf,h2,bS]
    rw [ZhK hN _ (hso f (Zb hf)) _ (hs v (Zb h2))]
    have e:ZN (fun v i=>XD x.Fields v i) (v::r) k=(Xv f.Sort' v && ZN (fun v i=>XD x.Fields v i) r (k+1)):=by
     show (XD x.Fields v k && _)=_
     unfold XD;rw [hf]
    rw [e]
    cases Xv f.Sort' v with
    | false=>right;exact ⟨rfl,by simp⟩
    | true =>
     simp only [bS,Zh,cond_false,Bool.true_and]
     exact ih n (k+1) h3 (by omega) (by omega)
   ·rw [ZJ (by omega)]
    have hne:¬ x.Fields.length=vs.length:=by omega
    right
    simp only [cT,cond_false,PE]
    refine ⟨?_,by rw [dF hne];rfl⟩
    congr 1
    rw [beq_eq_false_iff_ne];omega
 unfold LX XP
 rcases ZR vs N 0 rfl (by omega) (by omega) with h | ⟨h,h2⟩
 ·exact h
 ·rw [h2];exact h
theorem Zjz (hN:4194304 < N) (x:T0) (vs ks:List Zk) (first:Nat) (hf:x.First=(first:Int)) (hle:first+vs.length≤ks.length) (hk:ks.length≤4194304):PU N x vs ks=some (Yj first vs ks):=by
 have ZR:∀ (r:List Zk) (n k:Nat),vs.drop k=r→r.length < n→k≤vs.length→QO x vs n (Yj first (vs.take k) ks) (k:Int)=some (Yj first vs ks):=by
  intro r
  induction r with
  | nil =>
   intro n k h hn hkv
   obtain ⟨n,rfl⟩:=pS n (by simp at hn;omega)
   rw [QO,ZJ (XF h)]
   have:vs.take k=vs:=List.take_of_length_le (XF h)
   rw [this];rfl
  | cons v r ih =>
   intro n k h hn hkv
   obtain ⟨n,rfl⟩:=pS n (by simp at hn;omega)
   obtain ⟨h1,h2,h3⟩:=Xr h
   simp only [Zg] at hn
   have hw:Zi (x.First+(k:Int))=((first+k:Nat):Int):=by rw [hf,Ym (by omega) (by omega)];omega
   have htl:(vs.take k).length=k:=by rw [List.length_take];omega
   rw [QO,ZG h1,ZA (by omega),hw]
   simp only [cT,Zs,h2,bS]
   have hg:=PH first (vs.take k) ks (by rw [htl];omega) (first+k)
   rw [htl,if_neg (by omega)] at hg
   obtain ⟨u,hu⟩:∃ u,ks[first+k]? = some u:=⟨ks[first+k]'(by omega),by simp⟩
   rw [hg,hu]
   simp only [bS,WH]
   have e:(Yj first (vs.take k) ks).set (first+k) v=Yj first (vs.take (k+1)) ks:=by
    apply List.ext_getElem?
    intro i
    have hl1:=HX first (vs.take k) ks (by rw [htl];omega)
    have htl2:(vs.take (k+1)).length=k+1:=by rw [List.length_take];omega
    rw [List.getElem?_set,PH first (vs.take (k+1)) ks (by rw [htl2];omega),PH first (vs.take k) ks (by rw [htl];omega),htl,htl2,hl1]
    by_cases c1:first+k=i
    ·subst c1
     rw [if_pos rfl,if_pos (by omega),if_pos (by omega)]
     rw [show first+k-first=k by omega,List.getElem?_take,if_pos (by omega),h2]
    ·rw [if_neg c1]
     by_cases c2:first≤i∧i < first+k
     ·rw [if_pos c2,if_pos (by omega),List.getElem?_take,List.getElem?_take,if_pos (by omega),if_pos (by omega)]
     ·rw [if_neg c2,if_neg (by omega)]
   rw [e]
   exact ih n (k+1) h3 (by omega) (by omega)
 unfold PU
 rw [Yl (by simp;omega)]
 simp only [bS,List.nil_append]
 have h0:Yj first (vs.take 0) ks=ks:=by unfold Yj;simp
 have:=ZR vs N 0 rfl (by omega) (by omega)
 rw [h0] at this
 exact this
end Gp
end
end
namespace Gp
open Go Go.Kx Gx
section
variable {N:Nat}
theorem ZlI (hN:4194304 < N) (g:T5) (hg:Ua g) (hs:VX g):∃ b,Mo N g=some b∧(b=true→YO g.Decls=true):=by
 unfold Mo
 rw [Zjh hN g hg hs,Zgh hN g hg.e,Zhv hN g.Decls hg.d hg.dd hs.d,ZgQ hN g hg.e,Zhr hN g hg.t]
 simp only [bS]
 cases h1:Mv g
 ·exact ⟨false,by simp,fun h=>by cases h⟩
 cases h2:Vo g
 ·exact ⟨false,by simp,fun h=>by cases h⟩
 cases h3:YO g.Decls
 ·exact ⟨false,by simp,fun h=>by cases h⟩
 rw [Zf8]
 obtain ⟨o1,o2,o3,o4,o5,o6,o7⟩:=H7 h2
 obtain ⟨F,f1,f2⟩:=Zdq hN g h2 false g.Start o3 o4
 obtain ⟨L,l1,l2⟩:=Zdq hN g h2 true g.End o5 o6
 rw [f1,l1]
 have cF:=Zbw hN F (by rw [f2.len];omega) (-1)
 have cL:=Zbw hN L (by rw [l2.len];omega) (-1)
 simp only [bS,cF,cL]
 cases Pk g<;>cases (g.Edges.all fun x => !(x.From==g.End))<;>cases Mp g<;>cases (F.any fun d=>d==-1)<;>cases (L.any fun d=>d==-1)<;>exact ⟨_,rfl,fun _=>by first | trivial | rfl⟩
end
section
variable {N:Nat}
def V7 (m:T8) (n:Int):Bool:=decide (n≥0) && decide (n < m.States)
theorem Zgq (m:T8) (n:Int):P0 N m n=some (V7 m n):=by
 unfold P0 V7
 cases decide (n≥0)<;>rfl
def moveM (m:T8) (x:T9):Bool:=V7 m x.From && (V7 m x.To && (!decide (x.Peer < 0) && (!decide (x.Peer≥6) && (!(x.Peer==m.Role) && (!decide (x.Label < 0) && !decide (x.Label≥40))))))
def R6 (m:T8):Bool := !decide (m.Role < 0) && (!decide (m.Role≥6) && (!decide (m.States < 1) && (!decide (m.States > 200) && (V7 m m.Start && (!((m.Finals.length:Int) != m.States) && (!decide ((m.Moves.length:Int) > 400) && ZN (fun x _=>moveM m x) m.Moves 0))))))
theorem Zho (hN:4194304 < N) (m:T8):Dd N m=some (R6 m):=by
 unfold Dd R6
 rw [Zgq]
 cases decide (m.Role < 0)
 case true=>rfl
 cases decide (m.Role≥6)
 case true=>rfl
 cases decide (m.States < 1)
 case true=>rfl
 cases decide (m.States > 200)
 case true=>rfl
 cases V7 m m.Start
 case false=>rfl
 cases ((m.Finals.length:Int) != m.States)
 case true=>rfl
 cases h:decide ((m.Moves.length:Int) > 400)
 case true=>rfl
 simp only [decide_eq_false_iff_not] at h
 have:=YD (fun (x:T9) _=>moveM m x) (xs:=m.Moves) (F:=Re N m) (e:=some true) (n:=N) (by omega) (by
  intro n k x hk hx
  rw [Re,ZG hk,ZA (by omega)]
  simp only [cT,Zs,hx,bS,Zgq]
  unfold moveM
  cases V7 m x.From
  case false=>rfl
  cases V7 m x.To
  case false=>rfl
  cases decide (x.Peer < 0)
  case true=>rfl
  cases decide (x.Peer≥6)
  case true=>rfl
  cases (x.Peer==m.Role)
  case true=>rfl
  cases decide (x.Label < 0)
  case true=>rfl
  cases decide (x.Label≥40)<;>rfl) (by
  intro n k hk
  rw [Re,ZJ hk]
  rfl)
 show Re N m N 0=_
 rw [this]
 cases ZN (fun (x:T9) _=>moveM m x) m.Moves 0<;>rfl
structure XL (m:T8):Prop where
 r0:0≤m.Role
 r1:m.Role < 6
 s0:1≤m.States
 s1:m.States≤200
 b0:0≤m.Start
 b1:m.Start < m.States
 f:(m.Finals.length:Int)=m.States
 n:m.Moves.length≤400
 mv:∀ x∈m.Moves,(0≤x.From∧x.From < m.States)∧(0≤x.To∧x.To < m.States)∧(0≤x.Peer∧x.Peer < 6)∧x.Peer≠m.Role∧0≤x.Label∧x.Label < 40
theorem ZhG (m:T8):R6 m=true↔XL m:=by
 unfold R6 V7
 simp only [Zc,Bool.not_eq_true',decide_eq_false_iff_not,decide_eq_true_eq,bne_eq_false_iff_eq,Xc]
 constructor
 ·rintro ⟨h1,h2,h3,h4,⟨h5,h6⟩,h7,h8,h9⟩
  refine ⟨by omega,by omega,by omega,by omega,by omega,h6,h7,by omega,fun x hx=>?_⟩
  obtain ⟨i,hi⟩:=List.getElem?_of_mem hx
  have:=h9 i x hi
  unfold moveM V7 at this
  simp only [Zc,Bool.not_eq_true',decide_eq_false_iff_not,decide_eq_true_eq,beq_eq_false_iff_ne,ne_eq] at this
  obtain ⟨⟨a1,a2⟩,⟨a3,a4⟩,a5,a6,a7,a8,a9⟩:=this
  exact ⟨⟨by omega,a2⟩,⟨by omega,a4⟩,⟨by omega,by omega⟩,a7,by omega,by omega⟩
 ·intro h
  have:=h.n
  refine ⟨by have:=h.r0;omega,by have:=h.r1;omega,by have:=h.s0;omega,by have:=h.s1;omega,⟨by have:=h.b0;omega,h.b1⟩,h.f,by omega,fun i x hx=>?_⟩
  obtain ⟨⟨a1,a2⟩,⟨a3,a4⟩,⟨a5,a6⟩,a7,a8,a9⟩:=h.mv x (Zb hx)
  unfold moveM V7
  simp only [Zc,Bool.not_eq_true',decide_eq_false_iff_not,decide_eq_true_eq,beq_eq_false_iff_ne,ne_eq]
  exact ⟨⟨by omega,a2⟩,⟨by omega,a4⟩,by omega,by omega,a7,by omega,by omega⟩
def cI (x y:Int):Int:=bif decide (x < y) then -1 else bif decide (x > y) then 1 else 0
def PD (x y:T9):Int:=bif !(x.Send==y.Send) then (bif x.Send then -1 else 1) else bif (cI x.Peer y.Peer != 0) then cI x.Peer y.Peer else bif (cI x.Label y.Label != 0) then cI x.Label y.Label else 0
theorem Ry (x y:Int):Rb N x y=some (cI x y):=by
 unfold Rb HO cI
 simp only [bS,bne_self_eq_false,cond_false]
 cases decide (x < y)<;>cases decide (x > y)<;>rfl
theorem Zn2 (hN:4194304 < N) (a b:Int):TQ N [a,b]=some (bif (a != 0) then a else bif (b != 0) then b else 0):=by
 obtain ⟨n,rfl⟩:∃ n,N=n+3:=⟨N-3,by omega⟩
 unfold TQ
 rw [WO,WO,WO]
 have w0:Zi ((0:Int)+1)=1:=by decide
 have w1:Zi ((1:Int)+1)=2:=by decide
 rw [w0,w1]
 have i0:Zm [a,b] 0=some a:=rfl
 have i1:Zm [a,b] 1=some b:=rfl
 rw [i0,i1]
 have l0:decide ((0:Int) < (([a,b]:List Int).length:Int))=true:=rfl
 have l1:decide ((1:Int) < (([a,b]:List Int).length:Int))=true:=rfl
 have l2:decide ((2:Int) < (([a,b]:List Int).length:Int))=false:=rfl
 rw [l0,l1,l2]
 simp only [cT,cond_false,bS]
 cases (a != 0)<;>cases (b != 0)<;>rfl
theorem Zny (hN:4194304 < N) (x y:T9):Bl N ⟨x.Send,x.Peer,x.Label⟩ ⟨y.Send,y.Peer,y.Label⟩=some (PD x y):=by
 unfold Bl PD
 rw [Ry,Ry]
 simp only [bS,Zn2 hN]
 cases (x.Send==y.Send)
 ·cases x.Send<;>rfl
 ·cases (cI x.Peer y.Peer != 0)<;>cases (cI x.Label y.Label != 0)<;>rfl
def Wt (x y:T9):Prop:=(x.Send=true∧y.Send=false)∨(x.Send=y.Send∧(x.Peer < y.Peer∨(x.Peer=y.Peer∧x.Label < y.Label)))
theorem Zac (x y:Int):(x < y∧cI x y=-1)∨(x > y∧cI x y=1)∨(x=y∧cI x y=0):=by
 unfold cI
 by_cases h1:x < y
 ·exact .inl ⟨h1,by rw [dT h1];rfl⟩
 ·by_cases h2:x > y
  ·exact .inr (.inl ⟨h2,by rw [dF h1,dT h2];rfl⟩)
  ·exact .inr (.inr ⟨by omega,by rw [dF h1,dF h2];rfl⟩)
theorem ZkT (x y:T9):PD x y < 0↔Wt x y:=by
 unfold PD Wt
 rcases Zac x.Peer y.Peer with ⟨p,hp⟩ | ⟨p,hp⟩ | ⟨p,hp⟩<;>rcases Zac x.Label y.Label with ⟨q,hq⟩ | ⟨q,hq⟩ | ⟨q,hq⟩<;>rw [hp,hq] <;>
  cases x.Send<;>cases y.Send<;>simp<;>omega
theorem ZkJ (hN:4194304 < N) (m:T8) {i k:Nat} {x y:T9} (hi:m.Moves[i]? = some x) (hk:m.Moves[k]? = some y):Mm N (i:Int) (k:Int) m=some (PD x y):=by
 unfold Mm
 simp only [Zs,hi,hk,bS,S1,Zny hN]
end
section
variable {N:Nat}
def TS (m:T8) (s k:Nat):Bool:=match m.Moves[k]? with
 | some x=>x.From==(s:Int)
 | none=>false
def YY (m:T8) (n s:Nat):List Int:=((List.range n).filter (TS m s)).map fun (k:Nat)=>(k:Int)
theorem Zg3 (m:T8) (n s:Nat):YY m (n+1) s=YY m n s++(if TS m s n=true then [(n:Int)] else []):=by
 unfold YY
 rw [List.range_succ,List.filter_append,List.map_append]
 congr 1
 by_cases h:TS m s n=true
 ·simp [h]
 ·simp [h]
theorem Zct {m:T8} {n s:Nat} {i:Int} (h:i∈YY m n s):∃ k x,i=((k:Nat):Int)∧k < n∧m.Moves[k]? = some x∧x.From=(s:Int):=by
 unfold YY at h
 obtain ⟨k,hk,rfl⟩:=List.mem_map.1 h
 obtain ⟨h1,h2⟩:=List.mem_filter.1 hk
 unfold TS at h2
 split at h2
 ·rename_i x hx;exact ⟨k,x,rfl,List.mem_range.1 h1,hx,eq_of_beq h2⟩
 ·cases h2
theorem Zrx {m:T8} {n s k:Nat} {x:T9} (hk:k < n) (hx:m.Moves[k]? = some x) (hf:x.From=(s:Int)):(k:Int)∈YY m n s:=by
 unfold YY
 refine List.mem_map.2 ⟨k,List.mem_filter.2 ⟨List.mem_range.2 hk,?_⟩,rfl⟩
 unfold TS
 rw [hx]
 show (x.From==(s:Int))=true
 rw [hf];simp
theorem ZdR (m:T8) (n s:Nat):(YY m n s).length≤n:=by
 unfold YY
 rw [List.length_map]
 have:=List.length_filter_le (TS m s) (List.range n)
 rw [List.length_range] at this
 exact this
def Th (N:Nat) (m:T8):Int→Int→Int:=XT N m
theorem ZpG (hN:4194304 < N) (m:T8) {i k:Nat} {x y:T9} (hi:m.Moves[i]? = some x) (hk:m.Moves[k]? = some y):Th N m (i:Int) (k:Int)=PD x y:=by
 unfold Th XT
 rw [ZkJ hN m hi hk];rfl
theorem ZsQ (x:T9):¬ Wt x x:=by
 unfold Wt
 cases x.Send<;>simp
theorem ZjX {x y z:T9} (h1:Wt x y) (h2:Wt y z):Wt x z:=by
 unfold Wt at *
 revert h1 h2
 cases x.Send<;>cases y.Send<;>cases z.Send<;>simp<;>omega
theorem Zti {x y z:T9} (h1:¬ Wt x y) (h2:¬ Wt y z):¬ Wt x z:=by
 unfold Wt at *
 revert h1 h2
 cases x.Send<;>cases y.Send<;>cases z.Send<;>simp<;>omega
theorem Zhd (hN:4194304 < N) (m:T8) (n s:Nat) (hn:n≤m.Moves.length) (hb:n≤4194304):Gw N m (YY m n s)=true:=by
 unfold Gw
 have hc:∀ a b,a∈YY m n s→b∈YY m n s→∃ x y,Mm N a b m=some (PD x y)∧m.Moves[a.toNat]? = some x∧m.Moves[b.toNat]? = some y:=fun a b ha hb=>by
  obtain ⟨k,x,rfl,_,hx,_⟩:=Zct ha
  obtain ⟨l,y,rfl,_,hy,_⟩:=Zct hb
  exact ⟨x,y,ZkJ hN m hx hy,by simpa using hx,by simpa using hy⟩
 have hl:∀ a b x y,a∈YY m n s→b∈YY m n s→m.Moves[a.toNat]? = some x→m.Moves[b.toNat]? = some y→(decide (XT N m a b < 0)=true↔Wt x y):=fun a b x y ha hb hx hy=>by
  obtain ⟨x',y',h,hx',hy'⟩:=hc a b ha hb
  rw [hx] at hx';rw [hy] at hy'
  cases hx';cases hy'
  unfold XT
  rw [h,decide_eq_true_eq]
  exact ZkT x y
 have hm:∀ a,a∈YY m n s→∃ x,m.Moves[a.toNat]? = some x:=fun a ha=>by obtain ⟨x,_,_,h,_⟩:=hc a a ha ha;exact ⟨x,h⟩
 rw [Zc,Zc]
 refine ⟨List.all_eq_true.2 fun a ha=>List.all_eq_true.2 fun b hb=>?_,?_,?_⟩
 ·obtain ⟨x,y,h,_⟩:=hc a b ha hb
  rw [h];rfl
 ·unfold Dp
  refine List.all_eq_true.2 fun a ha=>?_
  obtain ⟨x,hx⟩:=hm a ha
  rw [Zc]
  refine ⟨?_,List.all_eq_true.2 fun b hb=>List.all_eq_true.2 fun c hc'=>?_⟩
  ·have:=hl a a x x ha ha hx hx
   show (!decide (XT N m a a < 0))=true
   cases hd:decide (XT N m a a < 0)
   ·rfl
   ·exact absurd (this.1 hd) (ZsQ x)
  ·obtain ⟨y,hy⟩:=hm b hb
   obtain ⟨z,hz⟩:=hm c hc'
   have l1:=hl a b x y ha hb hx hy
   have l2:=hl b c y z hb hc' hy hz
   have l3:=hl a c x z ha hc' hx hz
   show ((!(decide (XT N m a b < 0) && decide (XT N m b c < 0)) || decide (XT N m a c < 0)) && (decide (XT N m a b < 0) || decide (XT N m b c < 0) || !decide (XT N m a c < 0)))=true
   cases d1:decide (XT N m a b < 0)<;>cases d2:decide (XT N m b c < 0)<;>cases d3:decide (XT N m a c < 0)<;>try rfl
   ·exfalso
    rw [d1] at l1;rw [d2] at l2;rw [d3] at l3
    exact Zti (fun h=>by have:=l1.2 h;cases this) (fun h=>by have:=l2.2 h;cases this) (l3.1 rfl)
   ·exfalso
    rw [d1] at l1;rw [d2] at l2;rw [d3] at l3
    have:=l3.2 (ZjX (l1.1 rfl) (l2.1 rfl))
    cases this
 ·rw [decide_eq_true_eq]
  have:=ZdR m n s
  omega
def WX (m:T8) (n:Nat):List (List Int):=(List.range m.States.toNat).map (YY m n)
theorem Zeo (m:T8) (n s:Nat) (hs:s < m.States.toNat):(WX m n)[s]? = some (YY m n s):=by
 unfold WX
 rw [List.getElem?_map,List.getElem?_range hs];rfl
theorem Zlw (hN:4194304 < N) (m:T8) (hm:XL m):∀ (r:List T9) (n k:Nat),m.Moves.drop k=r→r.length < n→QS N m n (WX m k) (k:Int)=TR N m N (WX m m.Moves.length) 0:=by
  intro r
  induction r with
  | nil =>
    intro n k hr hn
    have hk:m.Moves.length≤k:=List.drop_eq_nil_iff.1 hr
    obtain ⟨n,rfl⟩:=pS n (by simp at hn;omega)
    rw [QS,ZJ hk]
    show TR N m N (WX m k) 0=_
    congr 1
    unfold WX
    refine List.map_congr_left fun s _=>?_
    obtain ⟨d,rfl⟩:=Nat.le.dest hk
    clear hr hk hn
    induction d with
    | zero=>rfl
    | succ d ih =>
      rw [show m.Moves.length+(d+1)=m.Moves.length+d+1 by omega,Zg3,ih]
      have:TS m s (m.Moves.length+d)=false:=by
        unfold TS
        rw [List.getElem?_eq_none (by omega)]
      rw [this];simp
  | cons x r ih =>
    intro n k hr hn
    obtain ⟨n,rfl⟩:=pS n (by simp at hn;omega)
    have hk:k < m.Moves.length:=by
      refine Nat.not_le.1 fun h=>?_
      rw [List.drop_eq_nil_iff.2 h] at hr;cases hr
    have hx:m.Moves[k]? = some x:=by
      have:=congrArg (·[0]?) hr
      simpa using this
    have hnm:=hm.n
    obtain ⟨⟨f0,f1⟩,_⟩:=hm.mv x (Zb hx)
    obtain ⟨j,hj⟩:=Ze f0
    have hjs:j < m.States.toNat:=by omega
    rw [QS,ZG hk,Zs,hx,ZA (by omega)]
    simp only [cT,bS]
    rw [hj,Zs,Zeo m k j hjs]
    simp only [bS]
    rw [Yl (by have:=ZdR m k j;simp;omega)]
    simp only [bS,Int.toNat_natCast]
    have e:(WX m k).set j (YY m k j++[(k:Int)])=WX m (k+1):=by
      apply List.ext_getElem?
      intro s
      rw [List.getElem?_set]
      by_cases hs:s < m.States.toNat
      · rw [Zeo m (k+1) s hs,Zg3]
        have hb:TS m s k=decide (j=s):=by
          unfold TS
          rw [hx]
          show (x.From==(s:Int))=_
          rw [hj]
          by_cases e:j=s
          · subst e;simp
          · simp [e];omega
        rw [hb]
        by_cases e:j=s
        · subst e
          have:j < (WX m k).length:=by unfold WX;simpa using hjs
          simp [this]
        · simp only [e,if_false,decide_false,Bool.false_eq_true,List.append_nil]
          exact Zeo m k s hs
      · have l1:(WX m (k+1))[s]? = none:=by unfold WX;rw [List.getElem?_eq_none];simp;omega
        rw [l1]
        have:¬ j=s:=by omega
        simp only [this,if_false]
        unfold WX;rw [List.getElem?_eq_none];simp;omega
    rw [e]
    refine ih n (k+1) ?_ (by simp at hn;omega)
    have:=congrArg (List.drop 1) hr
    simpa [List.drop_drop,Nat.add_comm] using this
def Vw (N:Nat) (m:T8) (j:Nat):List (List Int):=(List.range m.States.toNat).map fun s=>bif decide (s < j) then X3 (Th N m) (YY m m.Moves.length s) else YY m m.Moves.length s
def Wj (N:Nat) (m:T8):List (List Int):=(List.range m.States.toNat).map fun s=>X3 (Th N m) (YY m m.Moves.length s)
theorem ZoX (hN:4194304 < N) (m:T8) (hm:XL m):∀ (d n j:Nat),m.States.toNat-j=d→d < n→TR N m n (Vw N m j) (j:Int)=some ⟨m,Wj N m⟩:=by
 intro d
 have hlen:∀ j,(Vw N m j).length=m.States.toNat:=fun j=>by unfold Vw;simp
 have hs1:=hm.s1
 have hnm:=hm.n
 induction d with
 | zero =>
  intro n j hd hn
  obtain ⟨n,rfl⟩:=pS n (by omega)
  rw [TR,ZJ (by rw [hlen];omega)]
  show some (⟨m,Vw N m j⟩:YF)=_
  congr 2
  unfold Vw Wj
  refine List.map_congr_left fun s hs=>?_
  have:=List.mem_range.1 hs
  rw [dT (by omega:s < j)];rfl
 | succ d ih =>
  intro n j hd hn
  obtain ⟨n,rfl⟩:=pS n (by omega)
  have hj:j < m.States.toNat:=by omega
  have hg:(Vw N m j)[j]? = some (YY m m.Moves.length j):=by
   unfold Vw
   rw [List.getElem?_map,List.getElem?_range hj]
   simp
  rw [TR,ZG (by rw [hlen];exact hj),Zs,hg,ZA (by omega)]
  simp only [cT,bS,Zhd hN m m.Moves.length j (Nat.le_refl _) (by omega),Int.toNat_natCast]
  have e:(Vw N m j).set j (X3 (XT N m) (YY m m.Moves.length j))=Vw N m (j+1):=by
   apply List.ext_getElem?
   intro s
   rw [List.getElem?_set]
   by_cases hs:s < m.States.toNat
   ·have g:∀ q,(Vw N m q)[s]? = some (bif decide (s < q) then X3 (Th N m) (YY m m.Moves.length s) else YY m m.Moves.length s):=fun q=>by
     unfold Vw;rw [List.getElem?_map,List.getElem?_range hs];rfl
    rw [g,g]
    by_cases e:j=s
    ·subst e
     rw [dT (Nat.lt_succ_self _)]
     simp [hlen,hj,Th]
    ·simp only [e,if_false]
     by_cases h:s < j
     ·rw [dT h,dT (by omega:s < j+1)]
     ·rw [dF h,dF (by omega:¬ s < j+1)]
   ·have l1:∀ q,(Vw N m q)[s]? = none:=fun q=>by rw [List.getElem?_eq_none];rw [hlen];omega
    rw [l1,l1]
    have:¬ j=s:=by omega
    simp only [this,if_false]
  rw [e]
  exact ih n (j+1) (by omega) (by omega)
theorem ZiZ (hN:4194304 < N) (m:T8) (hm:XL m):Br N m=some ⟨m,Wj N m⟩:=by
 unfold Br
 have h0:=hm.s0
 have h1:=hm.s1
 have e:YG () m.States m.States=some (List.replicate m.States.toNat ()):=by
  unfold YG
  rw [dT (by omega:0≤m.States),dT (by omega:m.States≤m.States),dT (by omega:m.States≤4294967296)];rfl
 rw [e]
 simp only [bS,List.length_replicate]
 have e2:(List.replicate m.States.toNat ()).isEmpty=false:=by
  rw [List.isEmpty_eq_false_iff]
  intro h
  have:=congrArg List.length h
  simp at this;omega
 rw [e2]
 simp only [cond_false]
 have e3:List.replicate m.States.toNat ([]:List Int)=WX m 0:=by
  unfold WX YY
  apply List.ext_getElem?
  intro s
  rw [List.getElem?_replicate,List.getElem?_map]
  by_cases hs:s < m.States.toNat
  ·rw [if_pos hs,List.getElem?_range hs];rfl
  ·rw [if_neg hs,List.getElem?_eq_none (by simpa using hs)];rfl
 have:=Zlw hN m hm m.Moves N 0 rfl (by have:=hm.n;omega)
 rw [e3]
 rw [show ((0:Nat):Int)=0 from rfl] at this
 rw [this]
 have e4:WX m m.Moves.length=Vw N m 0:=by
  unfold WX Vw
  refine List.map_congr_left fun s _=>?_
  simp
 rw [e4]
 exact ZoX hN m hm m.States.toNat N 0 rfl (by omega)
theorem ZjW (N:Nat) (m:T8) (s:Nat) (hs:s < m.States.toNat):(Wj N m)[s]? = some (X3 (Th N m) (YY m m.Moves.length s)):=by
 unfold Wj
 rw [List.getElem?_map,List.getElem?_range hs];rfl
theorem Zfr (N:Nat) (m:T8):(Wj N m).length=m.States.toNat:=by unfold Wj;simp
theorem Zkp (hN:4194304 < N) (m:T8) (hm:XL m) (s:Nat):(X3 (Th N m) (YY m m.Moves.length s)).Perm (YY m m.Moves.length s) ∧
  ∀ (i j:Nat) (a b:Int),i < j→(X3 (Th N m) (YY m m.Moves.length s))[i]? = some a→(X3 (Th N m) (YY m m.Moves.length s))[j]? = some b→¬ Th N m b a < 0:=by
 have h:=Zhd hN m m.Moves.length s (Nat.le_refl _) (by have:=hm.n;omega)
 unfold Gw at h
 rw [Zc,Zc] at h
 exact ZlG _ _ (ZgM h.2.1)
end
end Gp
