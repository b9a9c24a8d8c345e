/- The plain law, part 1: what the functions compute answers as the statement says. -/
import Derived.Lib.Bytealg
import Derived.Test.YtdlhgdfjpilcjaaGreatDoorExplainPermitsPure
set_option linter.all false
section
section
namespace Gp
open Go Go.Kx
theorem dF {p:Prop} [Decidable p] (h:¬p):decide p=false:=decide_eq_false h
theorem dT {p:Prop} [Decidable p] (h:p):decide p=true:=decide_eq_true h
theorem bS {α β:Type _} (a:α) (f:α→Option β):(some a).bind f=f a:=rfl
theorem cT {α:Sort _} {a b:α}:(bif true then a else b)=a:=rfl
theorem aA {α:Type _} (a b c:List α):(a++b)++c=a++(b++c):=List.append_assoc a b c
theorem lA {α:Type _} {a b:List α}:(a++b).length=a.length+b.length:=List.length_append
theorem w64_id {n:Int} (h1:-9223372036854775808≤n) (h2:n≤9223372036854775807):w64 n=n:=by
 show IntKind.i64.wrap n=n
 simp [IntKind.wrap,IntKind.signed,IntKind.bits]
 omega
theorem w64_succ {n:Nat} (h:n < 4611686018427387904):w64 ((n:Int)+1)=((n+1:Nat):Int):=by rw [w64_id (by omega) (by omega)];omega
theorem idx_nat {α:Type} (xs:List α) (k:Nat):idx xs (k:Int)=xs[k]? := by
 unfold idx
 have:decide (0≤(k:Int))=true:=by simp
 rw [this];simp
theorem idx_int {α:Type} {xs:List α} {i:Int} {k:Nat} (h:i=k):idx xs i=xs[k]? := by rw [h,idx_nat]
theorem setL'_nat {α:Type} (xs:List α) (k:Nat) (e:α):setL' xs (k:Int) e=xs.set k e:=by unfold setL';simp
theorem setL'_int {α:Type} {xs:List α} {i:Int} {k:Nat} (h:i=k) (e:α):setL' xs i e=xs.set k e:=by rw [h,setL'_nat]
theorem get_mid {α:Type} (A:List α) (x:α) (B:List α) {k:Nat} (h:A.length=k):(A++x::B)[k]? = some x:=by
 subst h;simp
theorem set_mid {α:Type} (A:List α) (x y:α) (B:List α) {k:Nat} (h:A.length=k):(A++x::B).set k y=A++y::B:=by
 subst h;simp
theorem idx_mid {α:Type} {L A:List α} {x:α} {B:List α} {i:Int} (hL:L=A++x::B) (h:i=(A.length:Int)):idx L i=some x:=by
 rw [idx_int h,hL];exact get_mid A x B rfl
theorem setL'_mid {α:Type} {L A:List α} {x:α} {B:List α} {i:Int} (hL:L=A++x::B) (h:i=(A.length:Int)) (y:α):setL' L i y=A++y::B:=by
 rw [setL'_int h,hL];exact set_mid A x y B rfl
theorem appL_some {α:Type} {xs ys:List α} (h:xs.length+ys.length≤4294967296):appL xs ys=some (xs++ys):=by
 unfold appL
 have:Nat.ble (xs.length+ys.length) lim=true:=Nat.ble_eq_true_of_le h
 rw [this];rfl
theorem drop_cons {α:Type} {xs:List α} {k:Nat} {x:α} {l:List α} (h:xs.drop k=x::l):k < xs.length∧xs[k]? = some x∧xs.drop (k+1)=l:=by
 have hlt:k < xs.length:=by
  rcases Nat.lt_or_ge k xs.length with h' | h'
  ·exact h'
  ·rw [List.drop_eq_nil_of_le h'] at h;cases h
 rw [List.drop_eq_getElem_cons hlt] at h
 simp only [List.cons.injEq] at h
 exact ⟨hlt,by rw [List.getElem?_eq_getElem hlt,h.1],h.2⟩
theorem drop_nil {α:Type} {xs:List α} {k:Nat} (h:xs.drop k=[]):xs.length≤k:=by simpa using h
def lv {α γ:Type} (b:α→Nat→γ→γ) (e:γ):List α→Nat→γ
 | [],_=>e
 | x::l,k=>b x k (lv b e l (k+1))
theorem lv_of {α γ:Type} (xs:List α) (F:Nat→Int→γ) (b:α→Nat→γ→γ) (e:γ)
  (h1:∀ n k x,k < xs.length→xs[k]? = some x→F (n+1) (k:Int)=b x k (F n ((k+1:Nat):Int)))
  (h2:∀ n k,xs.length≤k→F (n+1) (k:Int)=e) :
  ∀ (l:List α) (k n:Nat),xs.drop k=l→l.length < n→F n (k:Int)=lv b e l k:=by
 intro l
 induction l with
 | nil =>
  intro k n h hn
  obtain ⟨n,rfl⟩:∃ m,n=m+1:=⟨n-1,by simp at hn;omega⟩
  exact h2 n k (drop_nil h)
 | cons x l ih =>
  intro k n h hn
  obtain ⟨n,rfl⟩:∃ m,n=m+1:=⟨n-1,by simp at hn;omega⟩
  obtain ⟨a,c,d⟩:=drop_cons h
  rw [h1 n k x a c,ih (k+1) n d (by simp at hn;omega)];rfl
theorem lv_from {α γ:Type} {xs:List α} {F:Nat→Int→γ} {b:α→Nat→γ→γ} {e:γ} {n:Nat} {i:Int} (hn:xs.length < n) (hi:i=((0:Nat):Int))
  (h1:∀ n k x,k < xs.length→xs[k]? = some x→F (n+1) (k:Int)=b x k (F n ((k+1:Nat):Int)))
  (h2:∀ n k,xs.length≤k→F (n+1) (k:Int)=e):F n i=lv b e xs 0:=by
 rw [hi];exact lv_of xs F b e h1 h2 xs 0 n rfl hn
theorem lt_t {k n:Nat} (h:k < n):decide ((k:Int) < (n:Int))=true:=by simp [h]
theorem lt_f {k n:Nat} (h:n≤k):decide ((k:Int) < (n:Int))=false:=by simp;omega
end Gp
end
section
namespace Gp
open Go Go.Kx
def Lt {α:Type} (K:α→Int) (r:α→α→Prop) (x y:α):Prop:=K x < K y∨(K x=K y∧r x y)
def Srt {α:Type} (K:α→Int) (r:α→α→Prop) (l:List α):Prop:=l.Pairwise (Lt K r)
variable {α:Type} {K:α→Int} {r:α→α→Prop}
theorem Lt.le {x y:α} (h:Lt K r x y):K x≤K y:=by rcases h with h | h<;>omega
theorem srt_app {A B:List α}:Srt K r (A++B)↔Srt K r A∧Srt K r B∧∀ x∈A,∀ y∈B,Lt K r x y:=by
 unfold Srt;exact List.pairwise_append
theorem srt_cons {x:α} {B:List α}:Srt K r (x::B)↔(∀ y∈B,Lt K r x y)∧Srt K r B:=by
 unfold Srt;exact List.pairwise_cons
theorem srt_nil:Srt K r ([]:List α):=List.Pairwise.nil
theorem cut_at (L:List α) (k:Nat) (h:k≤L.length):∃ A B,L=A++B∧A.length=k :=
 ⟨L.take k,L.drop k,(List.take_append_drop k L).symm,by simp;omega⟩
theorem cut_one (L:List α) (k:Nat) (h:k < L.length):∃ A x B,L=A++x::B∧A.length=k:=by
 obtain ⟨A,B,e,hl⟩:=cut_at L k (by omega)
 cases B with
 | nil=>have:=congrArg List.length e;simp at this;omega
 | cons x B=>exact ⟨A,x,B,e,hl⟩
theorem get_at {L A:List α} {x:α} {B:List α} {k:Nat} (hL:L=A++x::B) (h:A.length=k):L[k]? = some x:=by rw [hL];exact get_mid A x B h
theorem srt_uniq (has:∀ x y,Lt K r x y→¬ Lt K r y x):∀ (A B:List α),A.Perm B→Srt K r A→Srt K r B→A=B
 | [],B,h,_,_=>by simpa using h.symm
 | x::A,B,h,ha,hb=>by
  cases B with
  | nil=>exact absurd h.length_eq (by simp)
  | cons y B =>
   by_cases hxy:x=y
   ·subst hxy
    rw [srt_uniq has A B ((List.perm_cons x).mp h) (srt_cons.mp ha).2 (srt_cons.mp hb).2]
   ·exfalso
    have h1:x∈y::B:=h.mem_iff.mp (by simp)
    have h2:y∈x::A:=h.mem_iff.mpr (by simp)
    have h3:x∈B:=by rcases List.mem_cons.mp h1 with h | h;exact absurd h hxy;exact h
    have h4:y∈A:=by rcases List.mem_cons.mp h2 with h | h;exact absurd h.symm hxy;exact h
    exact has _ _ ((srt_cons.mp ha).1 y h4) ((srt_cons.mp hb).1 x h3)
inductive Bk (K:α→Int) (r:α→α→Prop) (n:Nat):List α→List α→Prop
 | last (o c:List α):c.length≤n→c.Perm o→Srt K r c→Bk K r n o c
 | cons (o1 c1 o2 c2:List α):c1.length=n→c1.Perm o1→Srt K r c1→Bk K r n o2 c2→Bk K r n (o1++o2) (c1++c2)
theorem Bk.two {n:Nat} {o c:List α} (h:Bk K r n o c) (hn:0 < n) (hc:2 * n≤c.length) :
  ∃ o1 o2 o3 c1 c2 c3,o=o1++(o2++o3)∧c=c1++(c2++c3)∧c1.length=n∧c2.length=n∧c1.Perm o1∧c2.Perm o2∧Srt K r c1∧Srt K r c2∧Bk K r n o3 c3:=by
 cases h with
 | last _ _ h1 h2 h3=>omega
 | cons o1 c1 o2 c2 h1 h2 h3 h4 =>
  cases h4 with
  | last _ _ g1 g2 g3 =>
   simp at hc
   exact ⟨o1,o2,[],c1,c2,[],by simp,by simp,h1,by omega,h2,g2,h3,g3,.last _ _ (by simp) (by simp) srt_nil⟩
  | cons p1 d1 p2 d2 g1 g2 g3 g4=>exact ⟨o1,p1,p2,c1,d1,d2,rfl,rfl,h1,g1,h2,g2,h3,g3,g4⟩
theorem Bk.few {n:Nat} {o c:List α} (h:Bk K r n o c) (hn:0 < n) (hc:c.length < 2 * n) :
  (c.length≤n∧c.Perm o∧Srt K r c)∨∃ o1 o2 c1 c2,o=o1++o2∧c=c1++c2∧c1.length=n∧0 < c2.length∧c2.length≤n∧c1.Perm o1∧c2.Perm o2∧Srt K r c1∧Srt K r c2:=by
 cases h with
 | last _ _ h1 h2 h3=>exact .inl ⟨h1,h2,h3⟩
 | cons o1 c1 o2 c2 h1 h2 h3 h4 =>
  cases h4 with
  | last _ _ g1 g2 g3 =>
   rcases Nat.eq_zero_or_pos c2.length with h0 | h0
   ·have:c2=[]:=List.length_eq_zero_iff.mp h0
    subst this
    have:o2=[]:=by simpa using g2.symm
    subst this
    exact .inl ⟨by simp;omega,by simpa using h2,by simpa using h3⟩
   ·exact .inr ⟨o1,o2,c1,c2,rfl,rfl,h1,h0,g1,h2,g2,h3,g3⟩
  | cons p1 d1 p2 d2 g1 g2 g3 g4=>simp at hc;omega
theorem Bk.all {n:Nat} {o c:List α} (h:Bk K r n o c) (hn:0 < n) (hc:c.length≤n):c.Perm o∧Srt K r c:=by
 rcases h.few hn (by omega) with h | ⟨o1,o2,c1,c2,h1,h2,h3,h4,_⟩
 ·exact h.2
 ·subst h2;simp at hc;omega
end Gp
end
section
namespace Gp
open Go Go.Kx Gx
theorem look {α γ:Type} (xs:List α) (hs:xs.length≤4194304) (b:α→Int→γ→γ) (F:Nat→Int→γ) (e:γ) {n:Nat} (hn:4194304 < n)
  (h1:∀ n k x,k < xs.length→xs[k]? = some x→F (n+1) (k:Int)=b x k (F n (w64 ((k:Int)+1))))
  (h2:∀ n k,xs.length≤k→F (n+1) (k:Int)=e):F n (0:Int)=lv (fun x (k:Nat) r=>b x (k:Int) r) e xs 0 :=
 lv_from (by omega) rfl (fun n k x hk hx=>by rw [h1 n k x hk hx,w64_succ (by omega)]) h2
def eqStr (a b:ByteArray):Bool:=a.toList==b.toList
theorem eqStr_refl (a:ByteArray):eqStr a a=true:=by simp [eqStr]
structure SizeD (x:T0):Prop where
 f:x.Fields.length≤4194304
 d:x.Guard.Diffs.length≤4194304
 e:x.Guard.Equals.length≤4194304
structure SizeG (g:T5):Prop where
 r:g.Roles.length≤4194304
 d:g.Decls.length≤4194304
 dd:∀ x∈g.Decls,SizeD x
 e:g.Edges.length≤4194304
 t:g.Timeouts.length≤4194304
variable {N:Nat} (hN:4194304 < N)
end Gp
end
section
namespace Gp
open Go Go.Kx Gx
variable {N:Nat} (hN:4194304 < N)
def whereV {α:Type} (f:α→Bool) (l:List α):Option Int:=lv (fun x (k:Nat) r=>bif f x then some (k:Int) else r) (some (-1)) l 0
theorem bcomm (a b:ByteArray):(a.toList==b.toList)=(b.toList==a.toList):=by
 rw [Bool.eq_iff_iff,beq_iff_eq,beq_iff_eq];exact ⟨Eq.symm,Eq.symm⟩
include hN in
theorem Index_eq (l:List ByteArray) (hl:l.length≤4194304) (v:ByteArray):z264 N l v=whereV (fun x=>eqStr x v) l:=by
 unfold z264 whereV
 refine look l hl (fun x k r=>bif eqStr x v then some k else r) (z264_l2 l v) _ hN ?_ ?_
 ·intro n k x hk hx
  simp only [z264_l2,lt_t hk,idx_nat,hx,cT,bS,eqStr,bcomm v x]
 ·intro n k hk
  simp only [z264_l2,lt_f hk,cond_false,z264_k1]
include hN in
theorem refIndex_eq (l:List ByteArray) (hl:l.length≤4194304) (v:ByteArray):ref18_index N l v=whereV (fun x=>eqStr x v) l:=by
 unfold ref18_index whereV
 refine look l hl (fun x k r=>bif eqStr x v then some k else r) (ref18_index_l2 l v) _ hN ?_ ?_
 ·intro n k x hk hx
  simp only [ref18_index_l2,lt_t hk,idx_nat,hx,cT,bS,eqStr]
 ·intro n k hk
  simp only [ref18_index_l2,lt_f hk,cond_false,ref18_index_k1]
end Gp
end
section
namespace Gp
open Go Go.Kx Gx
def I64 (n:Int):Prop:=-9223372036854775808≤n∧n≤9223372036854775807
def ekey (e:T2):Int:=e.Act.To * 1180591620717411303424+e.Act.Label
def key (g:T5) (x:Int):Int:=match g.Edges[x.toNat]? with | some e=>ekey e | none=>0
def Vx (g:T5) (x:Int):Prop:=0≤x∧x < (g.Edges.length:Int)
def NumE (g:T5):Prop:=∀ e∈g.Edges,I64 e.Act.To∧I64 e.Act.Label
theorem Vx.get {g:T5} {x:Int} (h:Vx g x):∃ e,idx g.Edges x=some e∧key g x=ekey e∧e∈g.Edges:=by
 obtain ⟨h0,h1⟩:=h
 obtain ⟨k,rfl⟩:∃ k:Nat,x=(k:Int):=⟨x.toNat,by omega⟩
 have hk:k < g.Edges.length:=by omega
 refine ⟨g.Edges[k],by rw [idx_nat,List.getElem?_eq_getElem hk],?_,List.getElem_mem hk⟩
 unfold key
 rw [show (k:Int).toNat=k by simp,List.getElem?_eq_getElem hk]
def placesOf (g:T5) (s:Int):List T2→Nat→List Int
 | [],_=>[]
 | x::l,k=>if x.From=s then (k:Int)::placesOf g s l (k+1) else placesOf g s l (k+1)
theorem placesOf_len (g:T5) (s:Int):∀ (l:List T2) (k:Nat),(placesOf g s l k).length≤l.length
 | [],k=>by simp [placesOf]
 | x::l,k=>by
  unfold placesOf
  have:=placesOf_len g s l (k+1)
  split<;>simp<;>omega
def EdgesAre (g:T5) (s:Int) (L:List Int):Prop:=L.Perm (placesOf g s g.Edges 0)∧Srt (key g) (· < ·) L
theorem before_eq {N:Nat} (g:T5) (hn:NumE g) (x y:Int) (hx:Vx g x) (hy:Vx g y):∃ b,ref18_before N g x y=some b∧(b=true↔Lt (key g) (· < ·) x y):=by
  obtain ⟨e,e1,e2,e3⟩:=hx.get
  obtain ⟨f,f1,f2,f3⟩:=hy.get
  obtain ⟨⟨a1,a2⟩,a3,a4⟩:=hn e e3
  obtain ⟨⟨b1,b2⟩,b3,b4⟩:=hn f f3
  unfold ref18_before
  rw [e1,f1]
  simp only [bS]
  unfold Lt
  rw [e2,f2]
  unfold ekey
  by_cases c1:e.Act.To=f.Act.To
  · rw [show (e.Act.To != f.Act.To)=false by simp [c1],cond_false]
    by_cases c2:e.Act.Label=f.Act.Label
    · rw [show (e.Act.Label != f.Act.Label)=false by simp [c2],cond_false]
      exact ⟨_,rfl,by rw [decide_eq_true_iff];omega⟩
    · rw [show (e.Act.Label != f.Act.Label)=true by simp [c2],cT]
      exact ⟨_,rfl,by rw [decide_eq_true_iff];omega⟩
  · rw [show (e.Act.To != f.Act.To)=true by simp [c1],cT]
    exact ⟨_,rfl,by rw [decide_eq_true_iff];omega⟩
theorem lt_as {g:T5} (x y:Int) (h:Lt (key g) (· < ·) x y):¬ Lt (key g) (· < ·) y x:=by
  unfold Lt at *;omega
theorem lt_tr {g:T5} {x y z:Int} (h:Lt (key g) (· < ·) x y) (h':Lt (key g) (· < ·) y z):Lt (key g) (· < ·) x z:=by
  unfold Lt at *;omega
theorem lt_tot {g:T5} {x y:Int} (h:¬ Lt (key g) (· < ·) x y) (hne:x≠y):Lt (key g) (· < ·) y x:=by
  unfold Lt at *;omega
theorem EdgesAre.uniq {g:T5} {s:Int} {A B:List Int} (ha:EdgesAre g s A) (hb:EdgesAre g s B):A=B :=
 srt_uniq lt_as A B (ha.1.trans hb.1.symm) ha.2 hb.2
theorem refEdges_in {N:Nat} (g:T5) (hn:NumE g) (acc:List Int) (hacc:∀ y∈acc,Vx g y) (hal:acc.length≤4194304) (v:Int) (hv:Vx g v) (ag:List Int→Int→Option (List Int)) :
    ∀ (n:Nat) (A B:List Int) (j:Int),B.length < n→acc=A++B→j=(A.length:Int)→(∀ y∈A,Lt (key g) (· < ·) y v) →
    ∃ A B,acc=A++B∧(∀ y∈A,Lt (key g) (· < ·) y v)∧(∀ y C,B=y::C→¬ Lt (key g) (· < ·) y v)∧ref18_Edges_l4 N g acc v ag n j=ref18_Edges_k3 acc v ag (A.length:Int):=by
  intro n
  induction n with
  | zero=>intro A B j h;omega
  | succ n ih =>
    intro A B j hn' he hj hA
    cases B with
    | nil =>
      have hd:decide (j < (acc.length:Int))=false:=by rw [he];simp;omega
      refine ⟨A,[],he,hA,by simp,?_⟩
      simp only [ref18_Edges_l4,hd,cond_false]
      rw [hj]
    | cons y B =>
      have hd:decide (j < (acc.length:Int))=true:=by rw [he];simp;omega
      have e1:idx acc j=some y:=idx_mid he hj
      obtain ⟨b,b1,b2⟩:=before_eq (N:=N) g hn y v (hacc y (by rw [he];simp)) hv
      cases b with
      | true =>
        have hl:acc.length=A.length+(B.length+1):=by rw [he];simp
        obtain ⟨A',B',p1,p2,p3,p4⟩:=ih (A++[y]) B (w64 (j+1)) (by simp at hn';omega) (by rw [he];simp) (by rw [hj,w64_succ (by omega)];simp)
          (by
            intro z hz
            rcases List.mem_append.mp hz with hz | hz
            · exact hA z hz
            · simp at hz;subst hz;exact b2.mp rfl)
        refine ⟨A',B',p1,p2,p3,?_⟩
        simp only [ref18_Edges_l4,hd,cT,e1,bS,b1]
        exact p4
      | false =>
        refine ⟨A,y::B,he,hA,?_,?_⟩
        · intro z C hz
          have:=(List.cons.inj hz).1
          subst this
          intro h
          have:=b2.mpr h
          cases this
        · simp only [ref18_Edges_l4,hd,cT,e1,bS,b1,cond_false]
          rw [hj]
end Gp
end
section
namespace Gp
open Go Go.Kx Gx
theorem lsl_to {α:Type} {L A B:List α} {i:Int} (hL:L=A++B) (hi:i=(A.length:Int)):lsl L none (some i)=some A:=by
 subst hL hi
 have h:decide ((A.length:Int)≤((A++B).length:Int))=true:=by simp;omega
 have h2:decide ((0:Int)≤(A.length:Int))=true:=by simp
 unfold lsl bnd
 simp only [Option.getD_some,Option.getD_none,h,h2]
 simp
theorem lsl_from {α:Type} {L A B:List α} {i:Int} (hL:L=A++B) (hi:i=(A.length:Int)):lsl L (some i) none=some B:=by
 subst hL hi
 have h:decide ((A.length:Int)≤((A++B).length:Int))=true:=by simp;omega
 have h2:decide ((0:Int)≤(A.length:Int))=true:=by simp
 unfold lsl bnd
 simp only [Option.getD_some,Option.getD_none,h,h2,Int.le_refl,decide_true,Bool.and_self,cT,Option.map_some,Int.toNat_natCast,List.take_length]
 simp
theorem refEdges_loop {N:Nat} (g:T5) (s:Int) (hn:NumE g) (hg:g.Edges.length≤4194304) (hN:4194304 < N) :
    ∀ (l:List T2) (k n:Nat) (acc pre:List Int),g.Edges.drop k=l→l.length < n→placesOf g s g.Edges 0=pre++placesOf g s l k→(∀ y∈pre,0≤y∧y < (k:Int))→acc.Perm pre→Srt (key g) (· < ·) acc →
    ∃ L,EdgesAre g s L∧ref18_Edges_l2 N g s n acc (k:Int)=some L:=by
  intro l
  induction l with
  | nil =>
    intro k n acc pre h hn' he hp hperm hs
    obtain ⟨n,rfl⟩:∃ m,n=m+1:=⟨n-1,by simp at hn';omega⟩
    refine ⟨acc,⟨by rw [he];simpa [placesOf] using hperm,hs⟩,?_⟩
    simp only [ref18_Edges_l2,lt_f (drop_nil h),cond_false,ref18_Edges_k1]
  | cons x l ih =>
    intro k n acc pre h hn' he hp hperm hs
    obtain ⟨n,rfl⟩:∃ m,n=m+1:=⟨n-1,by simp at hn';omega⟩
    obtain ⟨a,c,d⟩:=drop_cons h
    simp only [List.length_cons] at hn'
    have e0:placesOf g s (x::l) k=if x.From=s then (k:Int)::placesOf g s l (k+1) else placesOf g s l (k+1):=rfl
    rw [e0] at he
    by_cases hf:x.From=s
    · rw [if_pos hf] at he
      have hpl:pre.length≤g.Edges.length:=by
        have h1:=placesOf_len g s g.Edges 0
        have h2:=congrArg List.length he
        simp at h2;omega
      have hal:acc.length≤g.Edges.length:=by rw [hperm.length_eq];exact hpl
      have hk:Vx g (k:Int):=⟨by omega,by omega⟩
      obtain ⟨A,B,p1,p2,p3,p4⟩:=refEdges_in (N:=N) g hn acc (fun y hy=>by have:=hp y (hperm.mem_iff.mp hy);exact ⟨by omega,by omega⟩) (by omega) (k:Int) hk (ref18_Edges_l2 N g s n) N [] acc (0:Int) (by omega) rfl (by simp) (by simp)
      have hl:acc.length=A.length+B.length:=by rw [p1];simp
      have hB:∀ y∈B,Lt (key g) (· < ·) (k:Int) y:=by
        cases B with
        | nil=>simp
        | cons z B =>
          have hz:z∈pre:=hperm.mem_iff.mp (by rw [p1];simp)
          have hzk:=hp z hz
          have h1:Lt (key g) (· < ·) (k:Int) z:=lt_tot (p3 z B rfl) (by omega)
          intro y hy
          rcases List.mem_cons.mp hy with hy | hy
          · subst hy;exact h1
          · rw [p1] at hs
            exact lt_tr h1 ((srt_cons.mp (srt_app.mp hs).2.1).1 y hy)
      have hs':Srt (key g) (· < ·) (A++(k:Int)::B):=by
        rw [p1] at hs
        obtain ⟨s1,s2,s3⟩:=srt_app.mp hs
        refine srt_app.mpr ⟨s1,srt_cons.mpr ⟨hB,s2⟩,?_⟩
        intro y hy z hz
        rcases List.mem_cons.mp hz with hz | hz
        · subst hz;exact p2 y hy
        · exact s3 y hy z hz
      have hperm':(A++(k:Int)::B).Perm (pre++[(k:Int)]):=by
        refine List.perm_middle.trans ?_
        rw [p1] at hperm
        exact (List.Perm.cons _ hperm).trans (List.perm_append_singleton _ pre).symm
      obtain ⟨L,q1,q2⟩:=ih (k+1) n (A++(k:Int)::B) (pre++[(k:Int)]) d (by omega) (by rw [he];simp)
        (by
          intro y hy
          rcases List.mem_append.mp hy with hy | hy
          · have:=hp y hy;omega
          · simp at hy;omega) hperm' hs'
      refine ⟨L,q1,?_⟩
      simp only [ref18_Edges_l2,lt_t a,cT,idx_nat,c,bS,show (x.From != s)=false by simp [hf],cond_false,p4,ref18_Edges_k3]
      rw [lsl_to p1 rfl,lsl_from p1 rfl]
      simp only [bS]
      rw [appL_some (by simp;omega)]
      simp only [bS]
      rw [appL_some (by simp;omega)]
      simp only [bS]
      rw [w64_succ (by omega)]
      exact q2
    · rw [if_neg hf] at he
      obtain ⟨L,q1,q2⟩:=ih (k+1) n acc pre d (by omega) he (fun y hy=>by have:=hp y hy;omega) hperm hs
      refine ⟨L,q1,?_⟩
      simp only [ref18_Edges_l2,lt_t a,cT,idx_nat,c,bS,show (x.From != s)=true by simp [hf]]
      rw [w64_succ (by omega)]
      exact q2
theorem refEdges_eq {N:Nat} (hN:4194304 < N) (g:T5) (hg:g.Edges.length≤4194304) (hn:NumE g) (s:Int):∃ L,EdgesAre g s L∧ref18_Edges N g s=some L:=by
 unfold ref18_Edges
 exact refEdges_loop g s hn hg hN g.Edges 0 N [] [] rfl (by omega) (by simp) (by simp) (.refl _) srt_nil
end Gp
end
section
namespace Gp
open Go Go.Kx Gx
def allV {α:Type} (p:α→Nat→Bool):List α→Nat→Bool
 | [],_=>true
 | x::l,k=>p x k && allV p l (k+1)
theorem allV_of {α:Type} (p:α→Nat→Bool) (xs:List α) (F:Nat→Int→Option Bool) (e:Option Bool)
  (h1:∀ n k x,k < xs.length→xs[k]? = some x→F (n+1) (k:Int)=bif p x k then F n ((k+1:Nat):Int) else some false)
  (h2:∀ n k,xs.length≤k→F (n+1) (k:Int)=e) :
  ∀ (l:List α) (k n:Nat),xs.drop k=l→l.length < n→F n (k:Int)=bif allV p l k then e else some false:=by
 intro l
 induction l with
 | nil =>
  intro k n h hn
  obtain ⟨n,rfl⟩:∃ m,n=m+1:=⟨n-1,by simp at hn;omega⟩
  exact h2 n k (drop_nil h)
 | cons x l ih =>
  intro k n h hn
  obtain ⟨n,rfl⟩:∃ m,n=m+1:=⟨n-1,by simp at hn;omega⟩
  obtain ⟨a,c,d⟩:=drop_cons h
  rw [h1 n k x a c,ih (k+1) n d (by simp at hn;omega)]
  show _=bif (p x k && allV p l (k+1)) then e else some false
  cases p x k<;>rfl
theorem allV_from {α:Type} (p:α→Nat→Bool) {xs:List α} {F:Nat→Int→Option Bool} {e:Option Bool} {n:Nat} (hn:xs.length < n)
  (h1:∀ n k x,k < xs.length→xs[k]? = some x→F (n+1) (k:Int)=bif p x k then F n ((k+1:Nat):Int) else some false)
  (h2:∀ n k,xs.length≤k→F (n+1) (k:Int)=e):F n (0:Int)=bif allV p xs 0 then e else some false :=
 allV_of p xs F e h1 h2 xs 0 n rfl hn
theorem allV_iff {α:Type} (p:α→Nat→Bool):∀ (l:List α) (k:Nat),allV p l k=true↔∀ i x,l[i]? = some x→p x (k+i)=true
 | [],k=>by simp [allV]
 | x::l,k=>by
  show (p x k && allV p l (k+1))=true↔_
  rw [Bool.and_eq_true,allV_iff p l (k+1)]
  constructor
  ·rintro ⟨h0,h1⟩ i y hy
   cases i with
   | zero=>simp at hy;subst hy;exact h0
   | succ i=>have:=h1 i y (by simpa using hy);rw [show k+(i+1)=k+1+i by omega];exact this
  ·intro h
   exact ⟨by simpa using h 0 x (by simp),fun i y hy=>by rw [show k+1+i=k+(i+1) by omega];exact h (i+1) y (by simpa using hy)⟩
def bs (s:ByteArray):List UInt8:=s.data.toList
theorem size_bs (s:ByteArray):s.size=(bs s).length:=rfl
theorem slt_t {s:ByteArray} {k:Nat} (h:k < (bs s).length):decide ((k:Int) < (s.size:Int))=true:=lt_t h
theorem slt_f {s:ByteArray} {k:Nat} (h:(bs s).length≤k):decide ((k:Int) < (s.size:Int))=false:=lt_f h
theorem toList_bs (s:ByteArray):s.toList=bs s:=ByteArray.toList_eq s
theorem bs_inj {a b:ByteArray} (h:bs a=bs b):a=b:=by
 cases a with | mk a=>cases b with | mk b=>simpa [bs] using h
theorem sidx_bs (s:ByteArray) (k:Nat):sidx s (k:Int)=(bs s)[k]?.map (fun b=>(b.toNat:Int)):=by
 unfold sidx
 have h:decide (0≤(k:Int))=true:=by simp
 rw [h,cT]
 have e:s[(k:Int).toNat]? = (bs s)[k]? := by
  simp [getElem?_def,bs]
  split<;>simp_all
  rfl
 rw [e]
variable {N:Nat} (hN:4194304 < N)
def letterV (c:Int):Bool:=(decide (97≤c) && decide (c≤122)) || (decide (65≤c) && decide (c≤90))
def innerV (c:Int):Bool:=letterV c || ((decide (48≤c) && decide (c≤57)) || c==95)
theorem letter_eq (N:Nat) (c:Int):z262 N c=some (letterV c):=by
 unfold z262 letterV
 cases decide (97≤c)<;>cases decide (c≤122)<;>cases decide (65≤c)<;>rfl
theorem refLetter_eq (N:Nat) (c:Int):ref09_letter N c=some (letterV c):=letter_eq N c
theorem inner_eq (N:Nat) (c:Int):z263 N c=some (innerV c):=by
 unfold z263 innerV z284
 rw [letter_eq]
 simp only [bS]
 cases letterV c
 ·cases decide (48≤c)<;>cases decide (c≤57)<;>rfl
 ·rfl
def isName (s:ByteArray):Bool :=
 match bs s with
 | []=>false
 | x::l=>letterV (x.toNat:Int) && (decide (l.length < 16) && allV (fun (c:UInt8) _=>innerV (c.toNat:Int)) (x::l) 0)
def keywords:List ByteArray:=[(str [97,103,97,105,110]),(str [97,110,100]),(str [97,115]),(str [97,116]),(str [99,97,108,108]),(str [99,104,111,105,99,101]),(str [101,108,115,101]),(str [102,114,111,109]),(str [105,102]),(str [105,110,116]),(str [108,101,110]),(str [108,111,111,112]),(str [109,101,115,115,97,103,101]),(str [111,102]),(str [111,102,102,101,114]),(str [111,110]),(str [111,114]),(str [112,97,114]),(str [112,108,97,121,115]),(str [112,114,111,116,111,99,111,108]),(str [115,101,114,118,105,99,101]),(str [116,101,120,116]),(str [116,105,109,101,115]),(str [116,111]),(str [118,97,114]),(str [119,104,101,114,101]),(str [119,104,105,108,101]),(str [119,105,116,104,105,110])]
def isWord (s:ByteArray):Bool:=isName s && !(keywords.any fun k=>eqStr k s)
include hN in
theorem nameL (s:ByteArray) (hs:s.size≤4194304):z220_l2 N s N (0:Int)=some (allV (fun (c:UInt8) _=>innerV (c.toNat:Int)) (bs s) 0):=by
 rw [size_bs] at hs
 rw [allV_from (xs:=bs s) (fun (c:UInt8) _=>innerV (c.toNat:Int)) (F:=z220_l2 N s) (e:=some true) (by omega)]
 ·cases allV (fun (c:UInt8) _=>innerV (c.toNat:Int)) (bs s) 0<;>rfl
 ·intro n k x hk hx
  simp only [z220_l2,slt_t hk,cT,sidx_bs,hx,Option.map_some,bS,inner_eq,w64_succ (show k < 4611686018427387904 by omega)]
  cases innerV (x.toNat:Int)<;>rfl
 ·intro n k hk
  simp only [z220_l2,slt_f hk,cond_false,z220_k1]
theorem nameL_ref (s:ByteArray):∀ n k,ref09_IsName_l2 N s n k=z220_l2 N s n k
 | 0,_=>rfl
 | n+1,k=>by
  simp only [ref09_IsName_l2,z220_l2,nameL_ref s n]
  rfl
theorem bs_nil:bs (str [])=[]:=rfl
include hN in
theorem name_eq (s:ByteArray) (hs:s.size≤4194304):z220 N s=some (isName s)∧ref09_IsName N s=some (isName s):=by
 unfold z220 ref09_IsName
 rw [nameL_ref,nameL hN s hs,toList_bs,toList_bs,bs_nil,size_bs,show sidx s (0:Int)=sidx s ((0:Nat):Int) from rfl,sidx_bs]
 unfold isName
 cases h:bs s with
 | nil=>exact ⟨rfl,rfl⟩
 | cons x l =>
  have e:(x::l==([]:List UInt8))=false:=rfl
  rw [e]
  simp only [cond_false,List.getElem?_cons_zero,Option.map_some,bS,letter_eq,refLetter_eq]
  have d:decide (((x::l).length:Int) > 16) = !decide (l.length < 16):=by
   by_cases q:l.length < 16
   ·rw [dT q];simp;omega
   ·rw [dF q];simp;omega
  rw [d]
  cases letterV (x.toNat:Int)<;>cases decide (l.length < 16)<;>exact ⟨rfl,rfl⟩
theorem whereV_any {α:Type} (f:α→Bool) (l:List α) (k:Nat):∃ i,lv (fun x (k:Nat) r=>bif f x then some (k:Int) else r) (some (-1)) l k=some i∧decide (i≥0)=l.any f:=by
 induction l generalizing k with
 | nil=>exact ⟨-1,rfl,rfl⟩
 | cons x l ih =>
  show ∃ i,(bif f x then some (k:Int) else lv _ _ l (k+1))=some i∧_
  rw [List.any_cons]
  cases f x
  ·exact ih (k+1)
  ·exact ⟨k,rfl,by simp⟩
include hN in
theorem contains_eq (l:List ByteArray) (hl:l.length≤4194304) (v:ByteArray):z221 N l v=some (l.any fun x=>eqStr x v):=by
 unfold z221
 rw [Index_eq hN l hl]
 obtain ⟨i,h1,h2⟩:=whereV_any (fun x=>eqStr x v) l 0
 unfold whereV
 rw [h1,bS,h2]
include hN in
theorem refIn_eq (l:List ByteArray) (hl:l.length≤4194304) (v:ByteArray):ref09_in N l v=some (l.any fun x=>eqStr x v):=by
 unfold ref09_in
 rw [look l hl (fun x k r=>bif eqStr x v then some true else r) (ref09_in_l2 l v) (some false) hN]
 ·generalize (0:Nat)=k
  induction l generalizing k with
  | nil=>rfl
  | cons x l ih =>
   show (bif eqStr x v then some true else lv _ _ l (k+1))=_
   rw [List.any_cons,ih (by simp at hl;omega)]
   cases eqStr x v<;>rfl
 ·intro n k x hk hx
  simp only [ref09_in_l2,lt_t hk,idx_nat,hx,cT,bS,eqStr]
 ·intro n k hk
  simp only [ref09_in_l2,lt_f hk,cond_false,ref09_in_k1]
include hN in
theorem word_eq (s:ByteArray) (hs:s.size≤4194304):z146 N s=some (isWord s)∧ref09_IsWord N s=some (isWord s):=by
 obtain ⟨h1,h2⟩:=name_eq hN s hs
 unfold z146 ref09_IsWord ref09_Keywords
 rw [h1,h2]
 simp only [bS]
 have c1:=contains_eq hN keywords (by decide) s
 have c2:=refIn_eq hN keywords (by decide) s
 unfold keywords at c1 c2
 rw [c1,c2]
 unfold isWord keywords
 simp only [bS]
 cases isName s<;>exact ⟨rfl,rfl⟩
end Gp
end
section
namespace Gp
open Go Go.Kx Gx
theorem minI_lt {a b n:Int}:minI a b < n↔a < n∨b < n:=by unfold minI;split<;>omega
theorem maxI_ge {a b n:Int}:maxI a b≥n↔a≥n∨b≥n:=by unfold maxI;split<;>omega
variable {N:Nat} (hN:4194304 < N)
def okE (g:T5) (x:T2):Prop :=
 0≤x.From∧x.From < g.States∧0≤x.To∧x.To < g.States∧0≤x.Act.From∧x.Act.From < (g.Roles.length:Int)∧0≤x.Act.To∧x.Act.To < (g.Roles.length:Int)∧x.Act.From≠x.Act.To∧0≤x.Act.Label∧x.Act.Label < (g.Decls.length:Int)
instance (g:T5) (x:T2):Decidable (okE g x):=by unfold okE;infer_instance
def okH (g:T5):Prop :=
 1≤g.States∧g.States≤200∧0≤g.Start∧g.Start < g.States∧0≤g.End∧g.End < g.States∧g.Edges.length≤400
instance (g:T5):Decidable (okH g):=by unfold okH;infer_instance
def numV (g:T5):Bool:=decide (okH g) && allV (fun x _=>decide (okE g x)) g.Edges 0
include hN in
theorem numbered_eq (g:T5) (hg:g.Edges.length≤4194304):z209 N g=some (numV g):=by
 unfold z209
 rw [allV_from (fun x _=>decide (okE g x)) (xs:=g.Edges) (F:=z209_l2 g) (e:=some true) (by omega)]
 ·unfold numV
  by_cases c1:g.States < 1
  ·rw [dT c1,dF (show ¬ okH g by unfold okH;omega)];rfl
  by_cases c2:g.States > 200
  ·rw [dF c1,dT c2,dF (show ¬ okH g by unfold okH;omega)];rfl
  by_cases c3:minI g.Start g.End < 0
  ·rw [dF c1,dF c2,dT c3,dF (show ¬ okH g by rw [minI_lt] at c3;unfold okH;omega)];rfl
  by_cases c4:maxI g.Start g.End≥g.States
  ·rw [dF c1,dF c2,dF c3,dT c4,dF (show ¬ okH g by rw [maxI_ge] at c4;unfold okH;omega)];rfl
  by_cases c5:(g.Edges.length:Int) > 400
  ·rw [dF c1,dF c2,dF c3,dF c4,dT c5,dF (show ¬ okH g by unfold okH;omega)];rfl
  rw [dF c1,dF c2,dF c3,dF c4,dF c5,dT (show okH g by rw [minI_lt] at c3;rw [maxI_ge] at c4;unfold okH;omega)]
  cases allV (fun x _=>decide (okE g x)) g.Edges 0<;>rfl
 ·intro n k x hk hx
  simp only [z209_l2,lt_t hk,idx_nat,hx,cT,bS,w64_succ (show k < 4611686018427387904 by omega)]
  by_cases c1:minI (minI (minI (minI x.From x.To) x.Act.From) x.Act.To) x.Act.Label < 0
  ·rw [dT c1,dF (show ¬ okE g x by rw [minI_lt,minI_lt,minI_lt,minI_lt] at c1;unfold okE;omega)];rfl
  by_cases c2:maxI x.From x.To≥g.States
  ·rw [dF c1,dT c2,dF (show ¬ okE g x by rw [maxI_ge] at c2;unfold okE;omega)];rfl
  by_cases c3:maxI x.Act.From x.Act.To≥(g.Roles.length:Int)
  ·rw [dF c1,dF c2,dT c3,dF (show ¬ okE g x by rw [maxI_ge] at c3;unfold okE;omega)];rfl
  by_cases c4:x.Act.From=x.Act.To
  ·rw [dF c1,dF c2,dF c3,show (x.Act.From==x.Act.To)=true by simp [c4],dF (show ¬ okE g x by unfold okE;omega)];rfl
  by_cases c5:x.Act.Label≥(g.Decls.length:Int)
  ·rw [dF c1,dF c2,dF c3,show (x.Act.From==x.Act.To)=false by simp [c4],dT c5,dF (show ¬ okE g x by unfold okE;omega)];rfl
  rw [dF c1,dF c2,dF c3,show (x.Act.From==x.Act.To)=false by simp [c4],dF c5,dT (show okE g x by rw [minI_lt,minI_lt,minI_lt,minI_lt] at c1;rw [maxI_ge] at c2 c3;unfold okE;omega)]
  rfl
 ·intro n k hk
  simp only [z209_l2,lt_f hk,cond_false,z209_k1]
theorem refState_eq (N:Nat) (g:T5) (s:Int):ref18_state N g s=some (decide (0≤s∧s < g.States)):=by
 unfold ref18_state
 by_cases c1:s≥0
 ·by_cases c2:s < g.States
  ·rw [dT c1,dT c2,dT ⟨c1,c2⟩];rfl
  ·rw [dT c1,dF c2,dF (show ¬ (0≤s∧s < g.States) by omega)];rfl
 ·rw [dF c1,dF (show ¬ (0≤s∧s < g.States) by omega)];rfl
include hN in
theorem numbers_eq (g:T5) (hg:g.Edges.length≤4194304):ref18_numbers N g=some (numV g):=by
 unfold ref18_numbers
 rw [allV_from (fun x _=>decide (okE g x)) (xs:=g.Edges) (F:=ref18_numbers_l2 N g) (e:=ref18_numbers_k1 N g) (by omega)]
 ·unfold numV ref18_numbers_k1
  rw [refState_eq,refState_eq]
  simp only [bS]
  cases allV (fun x _=>decide (okE g x)) g.Edges 0
  ·simp
  by_cases c1:g.States≥1
  ·by_cases c2:g.States≤200
   ·by_cases c3:0≤g.Start∧g.Start < g.States
    ·by_cases c4:0≤g.End∧g.End < g.States
     ·by_cases c5:(g.Edges.length:Int)≤400
      ·rw [dT c1,dT c2,dT c3,dT c4,dT c5,dT (show okH g by unfold okH;omega)];rfl
      ·rw [dT c1,dT c2,dT c3,dT c4,dF c5,dF (show ¬ okH g by unfold okH;omega)];rfl
     ·rw [dT c1,dT c2,dT c3,dF c4,dF (show ¬ okH g by unfold okH;omega)];rfl
    ·rw [dT c1,dT c2,dF c3,dF (show ¬ okH g by unfold okH;omega)];rfl
   ·rw [dT c1,dF c2,dF (show ¬ okH g by unfold okH;omega)];rfl
  ·rw [dF c1,dF (show ¬ okH g by unfold okH;omega)];rfl
 ·intro n k x hk hx
  simp only [ref18_numbers_l2,lt_t hk,idx_nat,hx,cT,bS,w64_succ (show k < 4611686018427387904 by omega),refState_eq]
  by_cases c1:0≤x.From∧x.From < g.States
  ·by_cases c2:0≤x.To∧x.To < g.States
   ·by_cases c3:x.Act.From < 0
    ·rw [dT c1,dT c2,dT c3,dF (show ¬ okE g x by unfold okE;omega)];rfl
    by_cases c4:x.Act.From≥(g.Roles.length:Int)
    ·rw [dT c1,dT c2,dF c3,dT c4,dF (show ¬ okE g x by unfold okE;omega)];rfl
    by_cases c5:x.Act.To < 0
    ·rw [dT c1,dT c2,dF c3,dF c4,dT c5,dF (show ¬ okE g x by unfold okE;omega)];rfl
    by_cases c6:x.Act.To≥(g.Roles.length:Int)
    ·rw [dT c1,dT c2,dF c3,dF c4,dF c5,dT c6,dF (show ¬ okE g x by unfold okE;omega)];rfl
    by_cases c7:x.Act.From=x.Act.To
    ·rw [dT c1,dT c2,dF c3,dF c4,dF c5,dF c6,show (x.Act.From==x.Act.To)=true by simp [c7],dF (show ¬ okE g x by unfold okE;omega)];rfl
    by_cases c8:x.Act.Label < 0
    ·rw [dT c1,dT c2,dF c3,dF c4,dF c5,dF c6,show (x.Act.From==x.Act.To)=false by simp [c7],dT c8,dF (show ¬ okE g x by unfold okE;omega)];rfl
    by_cases c9:x.Act.Label≥(g.Decls.length:Int)
    ·rw [dT c1,dT c2,dF c3,dF c4,dF c5,dF c6,show (x.Act.From==x.Act.To)=false by simp [c7],dF c8,dT c9,dF (show ¬ okE g x by unfold okE;omega)];rfl
    rw [dT c1,dT c2,dF c3,dF c4,dF c5,dF c6,show (x.Act.From==x.Act.To)=false by simp [c7],dF c8,dF c9,dT (show okE g x by unfold okE;omega)];rfl
   ·rw [dT c1,dF c2,dF (show ¬ okE g x by unfold okE;omega)];rfl
  ·rw [dF c1,dF (show ¬ okE g x by unfold okE;omega)];rfl
 ·intro n k hk
  simp only [ref18_numbers_l2,lt_f hk,cond_false]
def apartP (x y:T2) (same:Bool):Bool :=
 !((!same && (x.From==y.From && ((((x.Act.From==y.Act.From) && ((x.Act.To==y.Act.To) && ((x.Act.Label==y.Act.Label) && true)))) || (x.Act.From != y.Act.From || x.Again)))) || (x.Again && (y.To==x.From && (x.Act.From != y.Act.From || x.Act.Label != y.Act.Label))))
def apartE (g:T5) (x:T2) (k:Nat):Bool := !(x.Again && x.From==g.Start) && allV (fun y i=>apartP x y (decide (k=i))) g.Edges 0
def orderV (g:T5):Bool:=allV (fun x k => !(x.From==g.End) && apartE g x k) g.Edges 0
def apartV (g:T5):Bool:=allV (fun x k=>apartE g x k) g.Edges 0
theorem bne_nat (k i:Nat):((k:Int) != (i:Int)) = !decide (k=i):=by
 by_cases h:k=i
 ·subst h;simp
 ·rw [dF h];simp;omega
include hN in
theorem ordered_eq (g:T5) (hg:g.Edges.length≤4194304):z211 N g=some (orderV g):=by
 unfold z211
 rw [allV_from (fun x k => !(x.From==g.End) && apartE g x k) (xs:=g.Edges) (F:=z211_l2 N g) (e:=some true) (by omega)]
 ·unfold orderV;cases allV _ g.Edges 0<;>rfl
 ·intro n k x hk hx
  have inner:z211_l4 g (k:Int) (z211_l2 N g n) x N (0:Int)=bif allV (fun y i=>apartP x y (decide (k=i))) g.Edges 0 then z211_k3 (k:Int) (z211_l2 N g n) else some false:=by
   refine allV_from (fun y i=>apartP x y (decide (k=i))) (by omega) ?_ ?_
   ·intro m i y hi hy
    simp only [z211_l4,lt_t hi,idx_nat,hy,cT,bS,bne_nat,z211_k5,w64_succ (show i < 4611686018427387904 by omega),apartP]
    cases decide (k=i)<;>cases (x.From==y.From)<;>cases ((x.Act.From==y.Act.From) && ((x.Act.To==y.Act.To) && ((x.Act.Label==y.Act.Label) && true)))<;>cases (x.Act.From != y.Act.From)<;>cases x.Again<;>cases (y.To==x.From)<;>cases (x.Act.Label != y.Act.Label)<;>rfl
   ·intro m i hi
    simp only [z211_l4,lt_f hi,cond_false]
  simp only [z211_l2,lt_t hk,idx_nat,hx,cT,bS,z211_k6,inner,z211_k3,w64_succ (show k < 4611686018427387904 by omega),apartE]
  cases (x.From==g.End)<;>cases x.Again<;>cases (x.From==g.Start)<;>cases allV (fun y i=>apartP x y (decide (k=i))) g.Edges 0<;>rfl
 ·intro n k hk
  simp only [z211_l2,lt_f hk,cond_false,z211_k1]
theorem ibne_comm (a b:Int):(a != b)=(b != a):=by
 by_cases h:a=b
 ·subst h;rfl
 ·rw [show (a != b)=true by simp [h],show (b != a)=true by simp [Ne.symm h]]
include hN in
theorem apart_eq (g:T5) (hg:g.Edges.length≤4194304):ref18_apart N g=some (apartV g):=by
 unfold ref18_apart
 rw [allV_from (fun x k=>apartE g x k) (xs:=g.Edges) (F:=ref18_apart_l2 N g) (e:=some true) (by omega)]
 ·unfold apartV;cases allV _ g.Edges 0<;>rfl
 ·intro n k x hk hx
  have inner:ref18_apart_l4 g (k:Int) (ref18_apart_l2 N g n) x N (0:Int)=bif allV (fun y i=>apartP x y (decide (k=i))) g.Edges 0 then ref18_apart_k3 (k:Int) (ref18_apart_l2 N g n) else some false:=by
   refine allV_from (fun y i=>apartP x y (decide (k=i))) (by omega) ?_ ?_
   ·intro m i y hi hy
    simp only [ref18_apart_l4,lt_t hi,idx_nat,hy,cT,bS,ibne_comm (i:Int) (k:Int),bne_nat,ref18_apart_k5,w64_succ (show i < 4611686018427387904 by omega),apartP,ibne_comm y.Act.From x.Act.From,ibne_comm y.Act.Label x.Act.Label]
    cases decide (k=i)<;>cases (x.From==y.From)<;>cases ((x.Act.From==y.Act.From) && ((x.Act.To==y.Act.To) && ((x.Act.Label==y.Act.Label) && true)))<;>cases (x.Act.From != y.Act.From)<;>cases x.Again<;>cases (y.To==x.From)<;>cases (x.Act.Label != y.Act.Label)<;>rfl
   ·intro m i hi
    simp only [ref18_apart_l4,lt_f hi,cond_false]
  simp only [ref18_apart_l2,lt_t hk,idx_nat,hx,cT,bS,ref18_apart_k6,inner,ref18_apart_k3,w64_succ (show k < 4611686018427387904 by omega),apartE]
  cases x.Again<;>cases (x.From==g.Start)<;>cases allV (fun y i=>apartP x y (decide (k=i))) g.Edges 0<;>rfl
 ·intro n k hk
  simp only [ref18_apart_l2,lt_f hk,cond_false,ref18_apart_k1]
theorem orderV_eq (g:T5):orderV g=(apartV g && g.Edges.all fun x => !(x.From==g.End)):=by
 unfold orderV apartV
 suffices h:∀ (l:List T2) (k:Nat),allV (fun x k => !(x.From==g.End) && apartE g x k) l k=(allV (fun x k=>apartE g x k) l k && l.all fun x => !(x.From==g.End)) from h _ _
 intro l
 induction l with
 | nil=>intro k;rfl
 | cons x l ih =>
  intro k
  show ((!(x.From==g.End) && apartE g x k) && allV _ l (k+1))=((apartE g x k && allV _ l (k+1)) && _)
  rw [ih,List.all_cons]
  cases (x.From==g.End)<;>cases apartE g x k<;>simp
end Gp
end
section
namespace Gp
open Go Go.Kx Gx
variable {N:Nat} (hN:4194304 < N)
def elseOk (g:T5) (x:T11):Bool:=match idx g.Edges x.Else with | some e=>e.From==x.State && !e.Again | none=>false
def okT (g:T5) (x:T11):Prop:=1≤x.Ticks∧x.Ticks≤1000∧0≤x.Else∧x.Else < (g.Edges.length:Int)∧elseOk g x=true
instance (g:T5) (x:T11):Decidable (okT g x):=by unfold okT;infer_instance
def lastV (g:T5):Nat→Int
 | 0=>-1
 | k+1=>match g.Timeouts[k]? with | some t=>t.State | none=>-1
def timeV (g:T5):Bool:=allV (fun x k=>decide (lastV g k < x.State∧okT g x)) g.Timeouts 0
theorem else_some {g:T5} {i:Int} (h0:0≤i) (h1:i < (g.Edges.length:Int)):∃ e,idx g.Edges i=some e∧e∈g.Edges:=by
 obtain ⟨e,h,_,hm⟩:=(show Vx g i from ⟨h0,h1⟩).get
 exact ⟨e,h,hm⟩
include hN in
theorem timed_eq (g:T5) (hg:g.Timeouts.length≤4194304):z212 N g=some (timeV g):=by
 unfold z212
 have h:=allV_from (fun x k=>decide (lastV g k < x.State∧okT g x)) (xs:=g.Timeouts) (F:=fun n i=>z212_l2 g n (lastV g i.toNat) i) (e:=some true) (n:=N) (by omega) (by
  intro n k x hk hx
  show z212_l2 g (n+1) (lastV g k) (k:Int)=bif decide (lastV g k < x.State∧okT g x) then z212_l2 g n (lastV g (k+1)) ((k+1:Nat):Int) else some false
  have hl:lastV g (k+1)=x.State:=by simp only [lastV,hx]
  rw [hl]
  simp only [z212_l2,lt_t hk,idx_nat,hx,cT,bS,w64_succ (show k < 4611686018427387904 by omega)]
  by_cases c1:x.State≤lastV g k
  ·rw [dT c1,dF (show ¬ (lastV g k < x.State∧okT g x) by omega)];rfl
  by_cases c2:x.Ticks < 1
  ·rw [dF c1,dT c2,dF (show ¬ (lastV g k < x.State∧okT g x) by unfold okT;omega)];rfl
  by_cases c3:x.Ticks > 1000
  ·rw [dF c1,dF c2,dT c3,dF (show ¬ (lastV g k < x.State∧okT g x) by unfold okT;omega)];rfl
  by_cases c4:x.Else < 0
  ·rw [dF c1,dF c2,dF c3,dT c4,dF (show ¬ (lastV g k < x.State∧okT g x) by unfold okT;omega)];rfl
  by_cases c5:x.Else≥(g.Edges.length:Int)
  ·rw [dF c1,dF c2,dF c3,dF c4,dT c5,dF (show ¬ (lastV g k < x.State∧okT g x) by unfold okT;omega)];rfl
  obtain ⟨e,he,_⟩:=else_some (g:=g) (i:=x.Else) (by omega) (by omega)
  rw [dF c1,dF c2,dF c3,dF c4,dF c5,he]
  have hok:decide (lastV g k < x.State∧okT g x)=(e.From==x.State && !e.Again):=by
   rw [Bool.eq_iff_iff,decide_eq_true_iff]
   unfold okT elseOk
   rw [he]
   constructor
   ·intro h;exact h.2.2.2.2.2
   ·intro h;exact ⟨by omega,by omega,by omega,by omega,by omega,h⟩
  rw [hok]
  simp only [bS,cond_false]
  cases hf:(e.From==x.State)
  ·rw [show (e.From != x.State)=true by unfold bne;rw [hf];rfl];rfl
  ·rw [show (e.From != x.State)=false by unfold bne;rw [hf];rfl]
   cases e.Again<;>rfl) (by
  intro n k hk
  show z212_l2 g (n+1) (lastV g k) (k:Int)=some true
  simp only [z212_l2,lt_f hk,cond_false,z212_k1])
 have h':z212_l2 g N (-1) (0:Int)=bif allV (fun x k=>decide (lastV g k < x.State∧okT g x)) g.Timeouts 0 then some true else some false:=h
 rw [h']
 unfold timeV
 cases allV _ g.Timeouts 0<;>rfl
theorem numV_edge {g:T5} (h:numV g=true) {x:T2} (hx:x∈g.Edges):okE g x:=by
 unfold numV at h
 rw [Bool.and_eq_true] at h
 obtain ⟨i,hi⟩:=List.mem_iff_getElem?.mp hx
 exact of_decide_eq_true ((allV_iff _ _ _).mp h.2 i x hi)
theorem numV_head {g:T5} (h:numV g=true):okH g:=by
 unfold numV at h
 rw [Bool.and_eq_true] at h
 exact of_decide_eq_true h.1
include hN in
theorem refTimed_eq (g:T5) (hg:g.Timeouts.length≤4194304) (hv:numV g=true):ref18_timed N g=some (timeV g):=by
  unfold ref18_timed
  rw [allV_from (fun x k=>decide (lastV g k < x.State∧okT g x)) (xs:=g.Timeouts) (F:=ref18_timed_l2 N g) (e:=some true) (by omega)]
  · unfold timeV;cases allV _ g.Timeouts 0<;>rfl
  · intro n k x hk hx
    simp only [ref18_timed_l2,lt_t hk,idx_nat,hx,cT,bS,w64_succ (show k < 4611686018427387904 by omega),refState_eq]
    by_cases c0:0≤x.State∧x.State < g.States
    · rw [dT c0]
      simp only [Bool.not_true,cond_false]
      -- the tests behind the order
      have rest:∀ (b:Bool) (hb:b=decide (lastV g k < x.State)),(bif !b then some false else bif decide (x.Ticks < (1:Int)) then (some false)
         else bif decide (x.Ticks > (1000:Int)) then (some false)
         else bif decide (x.Else < (0:Int)) then (some false)
         else bif decide (x.Else≥(g.Edges.length:Int)) then (some false)
         else (idx g.Edges x.Else).bind fun x116 =>
         bif (x116.From != x.State) then (some false)
         else (idx g.Edges x.Else).bind fun x117 =>
         bif x117.Again then (some false)
         else ref18_timed_l2 N g n ((k+1:Nat):Int))=bif decide (lastV g k < x.State∧okT g x) then ref18_timed_l2 N g n ((k+1:Nat):Int) else some false:=by
        intro b hb
        by_cases c1:lastV g k < x.State
        · rw [hb,dT c1]
          by_cases c2:x.Ticks < 1
          · rw [dT c2,dF (show ¬ (lastV g k < x.State∧okT g x) by unfold okT;omega)];rfl
          by_cases c3:x.Ticks > 1000
          · rw [dF c2,dT c3,dF (show ¬ (lastV g k < x.State∧okT g x) by unfold okT;omega)];rfl
          by_cases c4:x.Else < 0
          · rw [dF c2,dF c3,dT c4,dF (show ¬ (lastV g k < x.State∧okT g x) by unfold okT;omega)];rfl
          by_cases c5:x.Else≥(g.Edges.length:Int)
          · rw [dF c2,dF c3,dF c4,dT c5,dF (show ¬ (lastV g k < x.State∧okT g x) by unfold okT;omega)];rfl
          obtain ⟨e,he,_⟩:=else_some (g:=g) (i:=x.Else) (by omega) (by omega)
          rw [dF c2,dF c3,dF c4,dF c5,he]
          have hok:decide (lastV g k < x.State∧okT g x)=(e.From==x.State && !e.Again):=by
            rw [Bool.eq_iff_iff,decide_eq_true_iff]
            unfold okT elseOk
            rw [he]
            constructor
            · intro h;exact h.2.2.2.2.2
            · intro h;exact ⟨by omega,by omega,by omega,by omega,by omega,h⟩
          rw [hok]
          simp only [bS,cond_false,Bool.not_true]
          cases hf:(e.From==x.State)
          · rw [show (e.From != x.State)=true by unfold bne;rw [hf];rfl];rfl
          · rw [show (e.From != x.State)=false by unfold bne;rw [hf];rfl]
            cases e.Again<;>rfl
        · rw [hb,dF c1,dF (show ¬ (lastV g k < x.State∧okT g x) by omega)];rfl
      cases k with
      | zero =>
        have hd:decide (((0:Nat):Int) > 0)=false:=rfl
        rw [hd,cond_false]
        have:=rest true (by rw [dT];show (-1:Int) < x.State;omega)
        simpa using this
      | succ k =>
        have hd:decide (((k+1:Nat):Int) > 0)=true:=by simp
        obtain ⟨p,hp⟩:∃ p,g.Timeouts[k]? = some p:=⟨g.Timeouts[k]'(by omega),List.getElem?_eq_getElem _⟩
        have hl:lastV g (k+1)=p.State:=by simp only [lastV,hp]
        have hw:w64 (((k+1:Nat):Int)-1)=(k:Int):=by rw [w64_id (by omega) (by omega)];omega
        rw [hd,cT,hw,idx_nat,hp,bS]
        have:=rest (!decide (x.State≤p.State)) (by
          rw [hl]
          by_cases q:x.State≤p.State
          · rw [dT q,dF (by omega)];rfl
          · rw [dF q,dT (by omega)];rfl)
        rw [Bool.not_not] at this
        exact this
    · rw [dF c0]
      have:¬ (lastV g k < x.State∧okT g x):=by
        rintro ⟨_,_,_,h3,h4,h5⟩
        obtain ⟨e,he,hm⟩:=else_some h3 h4
        unfold elseOk at h5
        rw [he] at h5
        simp only [Bool.and_eq_true,beq_iff_eq] at h5
        obtain ⟨o1,o2,_⟩:=numV_edge hv hm
        rw [h5.1] at o1 o2
        exact c0 ⟨o1,o2⟩
      rw [dF this];rfl
  · intro n k hk
    simp only [ref18_timed_l2,lt_f hk,cond_false,ref18_timed_k1]
end Gp
end
section
namespace Gp
open Go Go.Kx Gx
theorem idx_some {α:Type} {L:List α} {v:Int} {d:α} (h:idx L v=some d):0≤v∧v < (L.length:Int):=by
 by_cases h0:0≤v
 ·obtain ⟨k,rfl⟩:∃ k:Nat,v=(k:Int):=⟨v.toNat,by omega⟩
  rw [idx_nat] at h
  obtain ⟨hk,_⟩:=List.getElem?_eq_some_iff.mp h
  exact ⟨h0,by omega⟩
 ·unfold idx at h
  rw [dF h0] at h;cases h
theorem idx_lt {α:Type} {L:List α} {v:Int} (h0:0≤v) (h1:v < (L.length:Int)):∃ d,idx L v=some d:=by
 obtain ⟨k,rfl⟩:∃ k:Nat,v=(k:Int):=⟨v.toNat,by omega⟩
 exact ⟨L[k]'(by omega),by rw [idx_nat,List.getElem?_eq_getElem]⟩
theorem setL_len {α:Type} (L:List α) {b:Int} (d:α) (h0:0≤b):(setL' L b d).length=L.length:=by
 obtain ⟨k,rfl⟩:∃ k:Nat,b=(k:Int):=⟨b.toNat,by omega⟩
 rw [setL'_nat];simp
theorem idx_set {α:Type} {L:List α} {b:Int} {d:α} (h0:0≤b) (h1:b < (L.length:Int)) (v:Int):idx (setL' L b d) v=if v=b then some d else idx L v:=by
 obtain ⟨k,rfl⟩:∃ k:Nat,b=(k:Int):=⟨b.toNat,by omega⟩
 rw [setL'_nat]
 by_cases hv:0≤v
 ·obtain ⟨j,rfl⟩:∃ j:Nat,v=(j:Int):=⟨v.toNat,by omega⟩
  rw [idx_nat,idx_nat,List.getElem?_set]
  by_cases e:k=j
  ·subst e;simp;omega
  ·rw [if_neg e,if_neg (by omega)]
 ·rw [if_neg (by omega)]
  unfold idx
  rw [dF hv];rfl
theorem count_set {L:List Int} {b d:Int} (h:idx L b=some (-1)) (hd:d≠-1):(setL' L b d).count (-1)+1=L.count (-1):=by
 obtain ⟨h0,h1⟩:=idx_some h
 obtain ⟨k,rfl⟩:∃ k:Nat,b=(k:Int):=⟨b.toNat,by omega⟩
 rw [idx_nat] at h
 rw [setL'_nat]
 obtain ⟨A,x,B,rfl,hl⟩:=cut_one L k (by omega)
 rw [get_mid A x B hl] at h
 cases h
 rw [set_mid A (-1) d B hl]
 simp [List.count_append,List.count_cons,hd]
 omega
def er (back:Bool) (x:T2):Int × Int:=(bif back then x.To else x.From,bif back then x.From else x.To)
def ers (g:T5) (back:Bool):List (Int × Int):=g.Edges.map (er back)
structure Jn (E:List (Int × Int)) (S:Nat) (e da:Int) (out todo:List Int) (mu:Nat):Prop where
 len:out.length=S
 lo:∀ v d,idx out v=some d→-1≤d∧d≤da+1
 ub:∀ v d,idx out v=some d→d+(out.count (-1):Nat)+1≤(S:Int)
 root:idx out e=some 0
 zero:∀ v,idx out v=some 0→v=e
 pred:∀ v d,idx out v=some d→0 < d→∃ u,(u,v)∈E∧idx out u=some (d-1)
 todo_in:∀ v∈todo,∃ d,idx out v=some d∧da≤d∧0≤d
 sorted:todo.Pairwise (fun x y=>∀ dx dy,idx out x=some dx→idx out y=some dy→dx≤dy)
 proc:∀ u v d,(u,v)∈E→idx out u=some d→0≤d→u ∉ todo→∃ d',idx out v=some d'∧0≤d'∧d'≤d+1
 mu_eq:out.count (-1)+todo.length=mu
theorem Jn.push {E:List (Int × Int)} {S:Nat} {e da a v:Int} {out todo:List Int} {mu:Nat} (h:Jn E S e da out todo mu) (ha:idx out a=some da) (ha0:0≤da) (hE:(a,v)∈E) (hv:idx out v=some (-1)) :
  Jn E S e da (setL' out v (da+1)) (todo++[v]) mu∧∀ w d,idx out w=some d→0≤d→idx (setL' out v (da+1)) w=some d:=by
 obtain ⟨v0,v1⟩:=idx_some hv
 have hset:=fun w=>idx_set (L:=out) (d:=da+1) v0 v1 w
 have hcnt:=count_set hv (d:=da+1) (by omega)
 have ext:∀ w d,idx out w=some d→0≤d→idx (setL' out v (da+1)) w=some d:=by
  intro w d hw hd
  rw [hset,if_neg]
  ·exact hw
  ·intro hc;subst hc;rw [hv] at hw;cases hw;omega
 refine ⟨⟨?_,?_,?_,ext _ _ h.root (by omega),?_,?_,?_,?_,?_,?_⟩,ext⟩
 ·rw [setL_len _ _ v0,h.len]
 ·intro w d hw
  rw [hset] at hw
  split at hw
  ·cases hw;omega
  ·exact h.lo w d hw
 ·intro w d hw
  have:=h.ub a da ha
  rw [hset] at hw
  split at hw
  ·cases hw;omega
  ·have:=h.ub w d hw;omega
 ·intro w hw
  rw [hset] at hw
  split at hw
  ·have:=Option.some.inj hw;omega
  ·exact h.zero w hw
 ·intro w d hw hd
  rw [hset] at hw
  split at hw
  ·rename_i hc
   cases hw
   subst hc
   exact ⟨a,hE,by rw [show da+1-1=da by omega];exact ext a da ha ha0⟩
  ·obtain ⟨u,u1,u2⟩:=h.pred w d hw hd
   exact ⟨u,u1,ext _ _ u2 (by omega)⟩
 ·intro w hw
  rcases List.mem_append.mp hw with hw | hw
  ·obtain ⟨d,d1,d2,d3⟩:=h.todo_in w hw
   exact ⟨d,ext _ _ d1 d3,d2,d3⟩
  ·simp at hw;subst hw
   exact ⟨da+1,by rw [hset,if_pos rfl],by omega,by omega⟩
 ·refine List.pairwise_append.mpr ⟨?_,by simp,?_⟩
  ·refine List.Pairwise.imp_of_mem ?_ h.sorted
   intro x y hx hy hxy dx dy h1 h2
   obtain ⟨d,d1,d2,d3⟩:=h.todo_in x hx
   obtain ⟨f,f1,f2,f3⟩:=h.todo_in y hy
   rw [ext _ _ d1 d3] at h1;rw [ext _ _ f1 f3] at h2
   cases h1;cases h2
   exact hxy _ _ d1 f1
  ·intro x hx y hy dx dy h1 h2
   simp at hy;subst hy
   obtain ⟨d,d1,d2,d3⟩:=h.todo_in x hx
   rw [ext _ _ d1 d3] at h1
   rw [hset,if_pos rfl] at h2
   cases h1;cases h2
   exact (h.lo x _ d1).2
 ·intro p q d hpq hp hd hn
  have hpv:p≠v:=fun hc=>hn (by simp [hc])
  rw [hset,if_neg hpv] at hp
  obtain ⟨d',q1,q2,q3⟩:=h.proc p q d hpq hp hd (fun hc=>hn (by simp [hc]))
  exact ⟨d',ext _ _ q1 q2,q2,q3⟩
 ·have:=h.mu_eq
  simp;omega
variable {N:Nat}
theorem spread_in (g:T5) (back:Bool) (S:Nat) (hS:S≤4194304) (hg:g.Edges.length≤4194304) (hE:∀ x∈g.Edges,0≤(er back x).1∧(er back x).1 < (S:Int)∧0≤(er back x).2∧(er back x).2 < (S:Int)) (ag:List Int→List Int→Option (List Int)) (e a da:Int) (ha0:0≤da) (mu:Nat) (hmu:mu≤4194304) :
  ∀ (l:List T2) (k n:Nat) (out rest:List Int),g.Edges.drop k=l→l.length < n→Jn (ers g back) S e da out (a::rest) mu→idx out a=some da →
  (∀ i x,i < k→g.Edges[i]? = some x→(er back x).1=a→∃ d,idx out (er back x).2=some d∧0≤d) →
  ∃ out' rest',z214_l4 g back ag n out (a::rest) (k:Int)=z214_k3 ag out' (a::rest')∧Jn (ers g back) S e da out' (a::rest') mu∧idx out' a=some da ∧
   (∀ x∈g.Edges,(er back x).1=a→∃ d,idx out' (er back x).2=some d∧0≤d):=by
 intro l
 induction l with
 | nil =>
  intro k n out rest h hn hJ ha hd
  obtain ⟨n,rfl⟩:∃ m,n=m+1:=⟨n-1,by simp at hn;omega⟩
  have hk:=drop_nil h
  refine ⟨out,rest,?_,hJ,ha,?_⟩
  ·simp only [z214_l4,lt_f hk,cond_false]
  ·intro x hx hxa
   obtain ⟨i,hi⟩:=List.mem_iff_getElem?.mp hx
   have:i < g.Edges.length:=(List.getElem?_eq_some_iff.mp hi).1
   exact hd i x (by omega) hi hxa
 | cons x l ih =>
  intro k n out rest h hn hJ ha hd
  obtain ⟨n,rfl⟩:∃ m,n=m+1:=⟨n-1,by simp at hn;omega⟩
  obtain ⟨hk,hx,hdr⟩:=drop_cons h
  simp only [List.length_cons] at hn
  have hxm:x∈g.Edges:=List.mem_of_getElem? hx
  obtain ⟨r1,r2,r3,r4⟩:=hE x hxm
  have wk':w64 ((k:Int)+1)=((k+1:Nat):Int):=w64_succ (by omega)
  have e0:idx (a::rest) (0:Int)=some a:=by rw [show (0:Int)=((0:Nat):Int) from rfl,idx_nat];rfl
  have step:z214_l4 g back ag (n+1) out (a::rest) (k:Int)=z214_k5 out (a::rest) (k:Int) (z214_l4 g back ag n) (er back x).1 (er back x).2:=by
   simp only [z214_l4,lt_t hk,idx_nat,hx,cT,bS,er]
   cases back<;>rfl
  rw [step]
  unfold z214_k5
  rw [e0,bS]
  by_cases hxa:(er back x).1=a
  ·rw [show ((er back x).1==a)=true by simp [hxa],cT]
   obtain ⟨d,hdv⟩:=idx_lt (L:=out) r3 (by rw [hJ.len];exact r4)
   rw [hdv,bS]
   by_cases hneg:d < 0
   ·rw [dT hneg,cT,hxa,ha]
    have hm1:d=-1:=by have:=(hJ.lo _ _ hdv).1;omega
    subst hm1
    obtain ⟨hJ',ext⟩:=hJ.push ha ha0 (v:=(er back x).2) (by rw [← hxa];exact List.mem_map.mpr ⟨x,hxm,rfl⟩) hdv
    have hub:=hJ.ub a da ha
    have hml:=hJ.mu_eq
    simp only [List.length_cons] at hml
    simp only [bS,hdv]
    rw [appL_some (by simp;omega),bS,w64_id (n:=da+1) (by omega) (by omega),wk']
    obtain ⟨out',rest',q1,q2,q3,q4⟩:=ih (k+1) n _ (rest++[(er back x).2]) hdr (by omega) hJ' (ext _ _ ha ha0) (by
     intro i y hi hy hya
     by_cases hik:i=k
     ·subst hik
      rw [hx] at hy;cases hy
      exact ⟨da+1,by rw [idx_set r3 (by rw [hJ.len];exact r4),if_pos rfl],by omega⟩
     ·obtain ⟨d',d1,d2⟩:=hd i y (by omega) hy hya
      exact ⟨d',ext _ _ d1 d2,d2⟩)
    exact ⟨out',rest',q1,q2,q3,q4⟩
   ·rw [dF hneg,cond_false,wk']
    exact ih (k+1) n out rest hdr (by omega) hJ ha (by
     intro i y hi hy hya
     by_cases hik:i=k
     ·subst hik
      rw [hx] at hy;cases hy
      exact ⟨d,hdv,by omega⟩
     ·exact hd i y (by omega) hy hya)
  ·rw [show ((er back x).1==a)=false by simp [hxa],cond_false,wk']
   exact ih (k+1) n out rest hdr (by omega) hJ ha (by
    intro i y hi hy hya
    by_cases hik:i=k
    ·subst hik
     rw [hx] at hy;cases hy
     exact absurd hya hxa
    ·exact hd i y (by omega) hy hya)
theorem spread_out (hN:4194304 < N) (g:T5) (back:Bool) (S:Nat) (hS:S≤4194304) (hg:g.Edges.length≤4194304) (hE:∀ x∈g.Edges,0≤(er back x).1∧(er back x).1 < (S:Int)∧0≤(er back x).2∧(er back x).2 < (S:Int)) (e:Int) :
  ∀ (n:Nat) (out todo:List Int) (da:Int) (mu:Nat),mu < n→mu≤4194304→Jn (ers g back) S e da out todo mu →
  ∃ L da' mu',z214_l2 N g back n out todo=some L∧Jn (ers g back) S e da' L [] mu':=by
 intro n
 induction n with
 | zero=>intro out todo da mu h;omega
 | succ n ih =>
  intro out todo da mu hn hmu hJ
  cases todo with
  | nil=>exact ⟨out,da,mu,rfl,hJ⟩
  | cons a rest =>
   obtain ⟨d0,ha,ha1,ha2⟩:=hJ.todo_in a (by simp)
   have hJ':Jn (ers g back) S e d0 out (a::rest) mu:=by
    refine ⟨hJ.len,fun v d hv=>⟨(hJ.lo v d hv).1,by have:=(hJ.lo v d hv).2;omega⟩,hJ.ub,hJ.root,hJ.zero,hJ.pred,?_,hJ.sorted,hJ.proc,hJ.mu_eq⟩
    intro v hv
    rcases List.mem_cons.mp hv with hv | hv
    ·subst hv;exact ⟨d0,ha,by omega,ha2⟩
    ·obtain ⟨d,d1,d2,d3⟩:=hJ.todo_in v (by simp [hv])
     exact ⟨d,d1,(List.pairwise_cons.mp hJ.sorted).1 v hv d0 d ha d1,d3⟩
   obtain ⟨out',rest',q1,q2,q3,q4⟩:=spread_in g back S hS hg hE (z214_l2 N g back n) e a d0 ha2 mu hmu g.Edges 0 N out rest rfl (by omega) hJ' ha (by intro i x hi;omega)
   have hd:decide (((a::rest).length:Int) > 0)=true:=by simp
   have hJ2:Jn (ers g back) S e d0 out' rest' (mu-1):=by
    have hm:=q2.mu_eq
    simp only [List.length_cons] at hm
    refine ⟨q2.len,q2.lo,q2.ub,q2.root,q2.zero,q2.pred,fun v hv=>q2.todo_in v (by simp [hv]),(List.pairwise_cons.mp q2.sorted).2,?_,by omega⟩
    intro u v d hE' hu hd' hnt
    by_cases hua:u=a
    ·subst hua
     rw [q3] at hu;cases hu
     obtain ⟨x,hx,hxe⟩:=List.mem_map.mp hE'
     obtain ⟨d',d1,d2⟩:=q4 x hx (by rw [hxe])
     rw [hxe] at d1
     exact ⟨d',d1,d2,(q2.lo _ _ d1).2⟩
    ·exact q2.proc u v d hE' hu hd' (by simp [hua,hnt])
   have hm:=q2.mu_eq
   simp only [List.length_cons] at hm
   obtain ⟨L,da',mu',p1,p2⟩:=ih out' rest' d0 (mu-1) (by omega) (by omega) hJ2
   refine ⟨L,da',mu',?_,p2⟩
   simp only [z214_l2,hd,cT]
   rw [show (0:Int)=((0:Nat):Int) from rfl,q1]
   unfold z214_k3
   rw [show lsl (a::rest') (some (1:Int)) none=some rest' from lsl_from (A:=[a]) (B:=rest') rfl rfl,bS,p1]
structure Dist (E:List (Int × Int)) (S:Nat) (e:Int) (L:List Int):Prop where
 len:L.length=S
 lo:∀ v d,idx L v=some d→-1≤d∧d < (S:Int)
 root:idx L e=some 0
 zero:∀ v,idx L v=some 0→v=e
 pred:∀ v d,idx L v=some d→0 < d→∃ u,(u,v)∈E∧idx L u=some (d-1)
 succ:∀ u v d,(u,v)∈E→idx L u=some d→0≤d→∃ d',idx L v=some d'∧0≤d'∧d'≤d+1
theorem Jn.dist {E:List (Int × Int)} {S:Nat} {e da:Int} {L:List Int} {mu:Nat} (h:Jn E S e da L [] mu):Dist E S e L :=
 ⟨h.len,fun v d hv=>⟨(h.lo v d hv).1,by have:=h.ub v d hv;omega⟩,h.root,h.zero,h.pred,fun u v d hE hu hd=>h.proc u v d hE hu hd (by simp)⟩
end Gp
end
section
namespace Gp
open Go Go.Kx Gx
variable {N:Nat}
theorem mul_small (N:Nat) {s:Nat} (hs:s≤200):z201 N (wk .u64 (([(-1:Int)]:List Int).length:Int)) (wk .u64 (s:Int))=some ((0:Int),(s:Int)):=by
 have h:∀ s < 201,z201 0 (wk .u64 (([(-1:Int)]:List Int).length:Int)) (wk .u64 ((s:Nat):Int))=some ((0:Int),(s:Int)):=by decide +kernel
 exact h s (by omega)
theorem rep_loop (S:Nat) (hS:S≤200):∀ (n k:Nat),S-k < n→1≤k→k≤S →
  z255_l2 n (List.replicate k (-1)++List.replicate (S-k) 0) (k:Int)=some (List.replicate S (-1)):=by
 intro n
 induction n with
 | zero=>intro k h;omega
 | succ n ih =>
  intro k hn h1 h2
  have hlen:(List.replicate k (-1:Int)++List.replicate (S-k) 0).length=S:=by simp;omega
  by_cases hk:k < S
  ·have hd:decide ((k:Int) < ((List.replicate k (-1:Int)++List.replicate (S-k) 0).length:Int))=true:=by rw [hlen];simp;omega
   have a1:lsl (List.replicate k (-1:Int)++List.replicate (S-k) 0) (some (k:Int)) none=some (List.replicate (S-k) 0):=lsl_from rfl (by simp)
   have a2:lsl (List.replicate k (-1:Int)++List.replicate (S-k) 0) none (some (k:Int))=some (List.replicate k (-1)):=lsl_to rfl (by simp)
   have b1:bnd (some (k:Int)) none (List.replicate k (-1:Int)++List.replicate (S-k) 0).length=some (k,S):=by
    rw [hlen]
    have q1:decide ((0:Int)≤(k:Int))=true:=by simp
    have q2:decide ((k:Int)≤(S:Int))=true:=by simp;omega
    unfold bnd
    simp only [Option.getD_some,Option.getD_none,q1,q2,Int.le_refl,decide_true,Bool.and_self,cT]
    simp
   have a3:cpL (List.replicate k (-1:Int)++List.replicate (S-k) 0) (some (k:Int)) none (List.replicate k (-1))=some (List.replicate (k+min k (S-k)) (-1)++List.replicate (S-(k+min k (S-k))) 0,((min k (S-k):Nat):Int)):=by
    unfold cpL
    rw [b1,Option.map_some]
    have e1:(List.replicate k (-1:Int)++List.replicate (S-k) 0).take k=List.replicate k (-1):=by simp
    have e2:(List.replicate k (-1:Int)).length=k:=by simp
    simp only [e1,e2]
    have e3:(List.replicate k (-1:Int)).take (min k (S-k))=List.replicate (min k (S-k)) (-1):=by rw [List.take_replicate];congr 1;omega
    have e4:(List.replicate k (-1:Int)++List.replicate (S-k) 0).drop (k+min k (S-k))=List.replicate (S-(k+min k (S-k))) 0:=by
     rw [List.drop_append,List.length_replicate,List.drop_replicate,List.drop_replicate,show k-(k+min k (S-k))=0 by omega,show S-k-(k+min k (S-k)-k)=S-(k+min k (S-k)) by omega];rfl
    rw [e3,e4,List.replicate_append_replicate]
   have hw:w64 ((k:Int)+((min k (S-k):Nat):Int))=((k+min k (S-k):Nat):Int):=by rw [w64_id (by omega) (by omega)];omega
   have hmin:1≤min k (S-k)∧k+min k (S-k)≤S:=by omega
   simp only [z255_l2,hd,cT,a1,a2,a3,bS,hw]
   exact ih (k+min k (S-k)) (by omega) (by omega) (by omega)
  ·have hks:k=S:=by omega
   subst hks
   have hd:decide ((k:Int) < ((List.replicate k (-1:Int)++List.replicate (k-k) 0).length:Int))=false:=by rw [hlen];simp
   simp only [z255_l2,hd,cond_false,z255_k1]
   simp
theorem repeat_eq (hN:4194304 < N) {s:Nat} (h1:1≤s) (h2:s≤200):z255 N [(-1:Int)] (s:Int)=some (List.replicate s (-1)):=by
 unfold z255
 have c0:decide ((s:Int) < 0)=false:=by simp
 rw [c0,cond_false,mul_small N h2,bS]
 have c1:decide ((0:Int) > 0)=false:=rfl
 have c2:decide ((s:Int) > 9223372036854775807)=false:=by simp;omega
 simp only [c1,c2,cond_false,z255_k3]
 have w:w64 (s:Int)=(s:Int):=w64_id (by omega) (by omega)
 have m:mkL (0:Int) (w64 (s:Int)) (w64 (s:Int))=some (List.replicate s 0):=by
  rw [w];unfold mkL
  have q1:decide ((0:Int)≤(s:Int))=true:=by simp
  have q2:decide ((s:Int)≤4294967296)=true:=by simp;omega
  simp only [q1,q2,Int.le_refl,decide_true,Bool.and_self,cT]
  simp
 rw [m,bS]
 have cp:cpL (List.replicate s (0:Int)) none none [(-1:Int)]=some (List.replicate 1 (-1)++List.replicate (s-1) 0,((1:Nat):Int)):=by
  unfold cpL bnd
  have q1:decide ((0:Int)≤((List.replicate s (0:Int)).length:Int))=true:=by simp
  simp only [Option.getD_none,q1,Int.le_refl,decide_true,Bool.and_self,cT,Option.map_some]
  have e:min ([(-1:Int)]:List Int).length (((List.replicate s (0:Int)).length:Int).toNat-(0:Int).toNat)=1:=by simp;omega
  rw [e];simp
 rw [cp,bS]
 exact rep_loop s h2 N 1 (by omega) (by omega) h1
theorem spread_eq (hN:4194304 < N) (g:T5) (hv:numV g=true) (back:Bool) (e:Int) (h0:0≤e) (h1:e < g.States):∃ L,z214 N g e back=some L∧Dist (ers g back) g.States.toNat e L:=by
 obtain ⟨o1,o2,o3,o4,o5,o6,o7⟩:=numV_head hv
 have hS:g.States=(g.States.toNat:Int):=by omega
 generalize hs:g.States.toNat=S at *
 have hE:∀ x∈g.Edges,0≤(er back x).1∧(er back x).1 < (S:Int)∧0≤(er back x).2∧(er back x).2 < (S:Int):=by
  intro x hx
  obtain ⟨a1,a2,a3,a4,_⟩:=numV_edge hv hx
  cases back
  ·exact ⟨a1,by rw [← hS];exact a2,a3,by rw [← hS];exact a4⟩
  ·exact ⟨a3,by rw [← hS];exact a4,a1,by rw [← hS];exact a2⟩
 have hrl:(List.replicate S (-1:Int)).length=S:=by simp
 have hri:∀ v:Int,0≤v→v < (S:Int)→idx (List.replicate S (-1:Int)) v=some (-1):=by
  intro v v0 v1
  obtain ⟨k,rfl⟩:∃ k:Nat,v=(k:Int):=⟨v.toNat,by omega⟩
  rw [idx_nat,List.getElem?_replicate,if_pos (by omega)]
 have hre:=hri e h0 (by omega)
 have hset:=fun v=>idx_set (L:=List.replicate S (-1:Int)) (b:=e) (d:=0) h0 (by rw [hrl];omega) v
 have hall:∀ v d,idx (setL' (List.replicate S (-1:Int)) e 0) v=some d→(v=e∧d=0)∨(v≠e∧d=-1):=by
  intro v d hd
  rw [hset] at hd
  split at hd
  ·rename_i h;cases hd;exact .inl ⟨h,rfl⟩
  ·rename_i h
   obtain ⟨v0,v1⟩:=idx_some hd
   rw [hrl] at v1
   rw [hri v v0 v1] at hd
   cases hd;exact .inr ⟨h,rfl⟩
 have hcnt:(setL' (List.replicate S (-1:Int)) e 0).count (-1)+1=S:=by
  rw [count_set hre (by omega)];simp
 have hJ:Jn (ers g back) S e 0 (setL' (List.replicate S (-1:Int)) e 0) [e] S:=by
  refine ⟨by rw [setL_len _ _ h0,hrl],?_,?_,by rw [hset,if_pos rfl],?_,?_,?_,by simp,?_,by simp;omega⟩
  ·intro v d hd;rcases hall v d hd with h | h<;>omega
  ·intro v d hd;rcases hall v d hd with h | h<;>omega
  ·intro v hd;rcases hall v 0 hd with h | h
   ·exact h.1
   ·omega
  ·intro v d hd hp;rcases hall v d hd with h | h<;>omega
  ·intro v hv';simp at hv';subst hv';exact ⟨0,by rw [hset,if_pos rfl],by omega,by omega⟩
  ·intro u v d _ hd hp hn
   rcases hall u d hd with h | h
   ·exact absurd (by simp [h.1]) hn
   ·omega
 obtain ⟨L,da',mu',p1,p2⟩:=spread_out hN g back S (by omega) (by omega) hE e N _ [e] 0 S (by omega) (by omega) hJ
 refine ⟨L,?_,p2.dist⟩
 unfold z214
 rw [hS,repeat_eq hN (by omega) (by omega),bS,hre,bS,p1]
/-! ### The reference's distances -/
def Tr (L M:List Int) (n:Int):Prop:=M.length=L.length∧∀ v d,idx L v=some d→idx M v=some (if d≤n then d else -1)
theorem ends_in {S:Nat} {g:T5} {e:Int} {L:List Int} (hD:Dist (ers g true) S e L) (hg:g.Edges.length≤4194304) (hE:∀ x∈g.Edges,okE g x) (hS:g.States=(S:Int)) (hS2:S≤200) (q:Nat) (hq:q < S) (ag:List Int→Int→Option (List Int)) :
  ∀ (l:List T2) (k n:Nat) (M:List Int),g.Edges.drop k=l→l.length < n→M.length=L.length →
  (∀ v d,idx L v=some d→idx M v=some (if d≤(q:Int) then d else -1)∨(d=(q:Int)+1∧idx M v=some ((q:Int)+1))) →
  (∀ i x,i < k→g.Edges[i]? = some x→idx L x.To=some (q:Int)→idx L x.From=some ((q:Int)+1)→idx M x.From=some ((q:Int)+1)) →
  ∃ M',ref18_ends_l4 g (q:Int) ag n M (k:Int)=ag M' ((q+1:Nat):Int)∧Tr L M' ((q:Int)+1):=by
 intro l
 induction l with
 | nil =>
  intro k n M h hn hl hM hd
  obtain ⟨n,rfl⟩:∃ m,n=m+1:=⟨n-1,by simp at hn;omega⟩
  have hk:=drop_nil h
  refine ⟨M,?_,hl,?_⟩
  ·simp only [ref18_ends_l4,lt_f hk,cond_false,ref18_ends_k3]
   rw [w64_succ (by omega)]
  ·intro v d hv
   by_cases hdq:d=(q:Int)+1
   ·subst hdq
    obtain ⟨u,hu,hul⟩:=hD.pred v _ hv (by omega)
    obtain ⟨x,hx,hxe⟩:=List.mem_map.mp hu
    obtain ⟨i,hi⟩:=List.mem_iff_getElem?.mp hx
    have hil:i < g.Edges.length:=(List.getElem?_eq_some_iff.mp hi).1
    have e1:x.To=u:=congrArg Prod.fst hxe
    have e2:x.From=v:=congrArg Prod.snd hxe
    have:=hd i x (by omega) hi (by rw [e1,hul];congr 1;omega) (by rw [e2,hv])
    rw [e2] at this
    rw [this,if_pos (Int.le_refl _)]
   ·rcases hM v d hv with h | ⟨h,_⟩
    ·rw [h]
     by_cases hc:d≤(q:Int)
     ·rw [if_pos hc,if_pos (by omega)]
     ·rw [if_neg hc,if_neg (by omega)]
    ·exact absurd h hdq
 | cons x l ih =>
  intro k n M h hn hl hM hd
  obtain ⟨n,rfl⟩:∃ m,n=m+1:=⟨n-1,by simp at hn;omega⟩
  obtain ⟨hk,hx,hdr⟩:=drop_cons h
  simp only [List.length_cons] at hn
  have hxm:x∈g.Edges:=List.mem_of_getElem? hx
  obtain ⟨r1,r2,r3,r4,_⟩:=hE x hxm
  obtain ⟨dt,hdt⟩:=idx_lt (L:=L) r3 (by rw [hD.len,← hS];exact r4)
  obtain ⟨df,hdf⟩:=idx_lt (L:=L) r1 (by rw [hD.len,← hS];exact r2)
  obtain ⟨mt,hmt⟩:=idx_lt (L:=M) r3 (by rw [hl,hD.len,← hS];exact r4)
  obtain ⟨mf,hmf⟩:=idx_lt (L:=M) r1 (by rw [hl,hD.len,← hS];exact r2)
  have wk':w64 ((k:Int)+1)=((k+1:Nat):Int):=w64_succ (by omega)
  have hmt2:mt=(q:Int)↔dt=(q:Int):=by
   rcases hM _ _ hdt with h | ⟨h1,h2⟩
   ·rw [hmt] at h
    have h:=Option.some.inj h
    split at h<;>omega
   ·rw [hmt] at h2
    have h2:=Option.some.inj h2
    omega
  have keep:∀ (hne:dt=(q:Int)→idx L x.From=some ((q:Int)+1)→idx M x.From=some ((q:Int)+1)),
    ∃ M',ref18_ends_l4 g (q:Int) ag n M ((k+1:Nat):Int)=ag M' ((q+1:Nat):Int)∧Tr L M' ((q:Int)+1):=by
   intro hne
   refine ih (k+1) n M hdr (by omega) hl hM ?_
   intro i y hi hy hyt hyf
   by_cases hik:i=k
   ·subst hik
    rw [hx] at hy;cases hy
    rw [hdt] at hyt
    exact hne (Option.some.inj hyt) hyf
   ·exact hd i y (by omega) hy hyt hyf
  by_cases hc:dt=(q:Int)
  ·have hb:(mt==(q:Int))=true:=by simp [hmt2.mpr hc]
   obtain ⟨d',d1,d2,d3⟩:=hD.succ x.To x.From dt (List.mem_map.mpr ⟨x,hxm,rfl⟩) hdt (by omega)
   rw [hdf] at d1
   have d1:=Option.some.inj d1
   by_cases hneg:mf < 0
   ·have hdq:df=(q:Int)+1:=by
     rcases hM _ _ hdf with h | ⟨h1,_⟩
     ·rw [hmf] at h
      have h:=Option.some.inj h
      split at h<;>omega
     ·exact h1
    have hset:=fun v=>idx_set (L:=M) (b:=x.From) (d:=(q:Int)+1) r1 (by rw [hl,hD.len,← hS];exact r2) v
    simp only [ref18_ends_l4,lt_t hk,cT,idx_nat,hx,bS,hmt,hb,hmf,dT hneg,wk']
    rw [w64_id (n:=(q:Int)+1) (by omega) (by omega)]
    refine ih (k+1) n _ hdr (by omega) (by rw [setL_len _ _ r1,hl]) ?_ ?_
    ·intro v d hv
     rw [hset]
     by_cases hvf:v=x.From
     ·subst hvf
      rw [hdf] at hv;cases hv
      exact .inr ⟨hdq,by rw [if_pos rfl]⟩
     ·rw [if_neg hvf];exact hM v d hv
    ·intro i y hi hy hyt hyf
     rw [hset]
     by_cases hvf:y.From=x.From
     ·rw [if_pos hvf]
     ·rw [if_neg hvf]
      by_cases hik:i=k
      ·subst hik
       rw [hx] at hy;cases hy
       exact absurd rfl hvf
      ·exact hd i y (by omega) hy hyt hyf
   ·simp only [ref18_ends_l4,lt_t hk,cT,idx_nat,hx,bS,hmt,hb,hmf,dF hneg,cond_false,wk']
    refine keep ?_
    intro _ hlf
    rw [hdf] at hlf
    have hlf:=Option.some.inj hlf
    rcases hM _ _ hdf with h | ⟨_,h⟩
    ·rw [hmf] at h
     have h:=Option.some.inj h
     rw [if_neg (by omega)] at h
     omega
    ·exact h
  ·have hb:(mt==(q:Int))=false:=by simp;omega
   simp only [ref18_ends_l4,lt_t hk,cT,idx_nat,hx,bS,hmt,hb,cond_false,wk']
   exact keep (fun h=>absurd h hc)
theorem ends_rounds (hN:4194304 < N) {S:Nat} {g:T5} {e:Int} {L:List Int} (hD:Dist (ers g true) S e L) (hg:g.Edges.length≤4194304) (hE:∀ x∈g.Edges,okE g x) (hS:g.States=(S:Int)) (hS2:S≤200) :
  ∀ (n q:Nat) (M:List Int),S-q < n→q≤S→Tr L M (q:Int)→ref18_ends_l2 N g n M (q:Int)=some L:=by
 intro n
 induction n with
 | zero=>intro q M h;omega
 | succ n ih =>
  intro q M hn hq hT
  by_cases hlt:q < S
  ·have hd:decide ((q:Int) < g.States)=true:=by rw [hS];simp;omega
   obtain ⟨M',m1,m2⟩:=ends_in hD hg hE hS hS2 q hlt (ref18_ends_l2 N g n) g.Edges 0 N M rfl (by omega) hT.1 (fun v d hv=>.inl (hT.2 v d hv)) (by intro i x hi;omega)
   simp only [ref18_ends_l2,hd,cT]
   rw [show (0:Int)=((0:Nat):Int) from rfl,m1]
   exact ih (q+1) M' (by omega) (by omega) (by rw [show ((q+1:Nat):Int)=(q:Int)+1 by omega];exact m2)
  ·have hqs:q=S:=by omega
   subst hqs
   have hd:decide ((q:Int) < g.States)=false:=by rw [hS];simp
   simp only [ref18_ends_l2,hd,cond_false,ref18_ends_k1]
   congr 1
   refine List.ext_getElem? fun i=>?_
   by_cases hi:i < L.length
   ·obtain ⟨d,hdv⟩:=idx_lt (L:=L) (v:=(i:Int)) (by omega) (by omega)
    have:=hT.2 _ _ hdv
    rw [if_pos (by have:=(hD.lo _ _ hdv).2;omega)] at this
    rw [idx_nat] at this hdv
    rw [this,hdv]
   ·rw [List.getElem?_eq_none (by rw [hT.1];omega),List.getElem?_eq_none (by omega)]
theorem ends_fill {S:Nat} {g:T5} (hS:g.States=(S:Int)) (hS2:S≤200):∀ (n k:Nat) (M:List Int),S-k < n→k≤S→M.length=S→(∀ i:Nat,i < k→M[i]? = some (-1)) →
  ref18_ends_l6 N g n M (k:Int)=ref18_ends_k5 N g (List.replicate S (-1)):=by
 intro n
 induction n with
 | zero=>intro k M h;omega
 | succ n ih =>
  intro k M hn hk hl hM
  by_cases hlt:k < S
  ·have hd:decide ((k:Int) < g.States)=true:=by rw [hS];simp;omega
   obtain ⟨d,hdv⟩:=idx_lt (L:=M) (v:=(k:Int)) (by omega) (by omega)
   simp only [ref18_ends_l6,hd,cT,hdv,bS]
   rw [w64_succ (by omega)]
   refine ih (k+1) _ (by omega) (by omega) (by rw [setL_len _ _ (by omega),hl]) ?_
   intro i hi
   rw [setL'_nat,List.getElem?_set]
   by_cases hik:k=i
   ·subst hik;simp;omega
   ·rw [if_neg hik];exact hM i (by omega)
  ·have hks:k=S:=by omega
   subst hks
   have hd:decide ((k:Int) < g.States)=false:=by rw [hS];simp
   simp only [ref18_ends_l6,hd,cond_false]
   congr 1
   refine List.ext_getElem? fun i=>?_
   rw [List.getElem?_replicate]
   by_cases hi:i < k
   ·rw [if_pos hi];exact hM i hi
   ·rw [if_neg hi];exact List.getElem?_eq_none (by omega)
theorem ends_eq (hN:4194304 < N) (g:T5) (hv:numV g=true) {L:List Int} (hD:Dist (ers g true) g.States.toNat g.End L):ref18_ends N g=some L:=by
 obtain ⟨o1,o2,o3,o4,o5,o6,o7⟩:=numV_head hv
 have hS:g.States=(g.States.toNat:Int):=by omega
 generalize hs:g.States.toNat=S at *
 have m:mkL (0:Int) g.States g.States=some (List.replicate S 0):=by
  rw [hS];unfold mkL
  have q1:decide ((0:Int)≤(S:Int))=true:=by simp
  have q2:decide ((S:Int)≤4294967296)=true:=by simp;omega
  simp only [q1,q2,Int.le_refl,decide_true,Bool.and_self,cT]
  simp
 unfold ref18_ends
 rw [m,bS,show (0:Int)=((0:Nat):Int) from rfl,ends_fill hS (by omega) N 0 _ (by omega) (by omega) (by simp) (by intro i hi;omega)]
 unfold ref18_ends_k5
 have hrl:(List.replicate S (-1:Int)).length=S:=by simp
 have hri:∀ v:Int,0≤v→v < (S:Int)→idx (List.replicate S (-1:Int)) v=some (-1):=by
  intro v v0 v1
  obtain ⟨k,rfl⟩:∃ k:Nat,v=(k:Int):=⟨v.toNat,by omega⟩
  rw [idx_nat,List.getElem?_replicate,if_pos (by omega)]
 rw [hri g.End o5 (by omega),bS]
 refine ends_rounds hN hD (by omega) (fun x hx=>numV_edge hv hx) hS (by omega) N 0 _ (by omega) (by omega) ?_
 refine ⟨by rw [setL_len _ _ o5,hrl,hD.len],?_⟩
 intro v d hdv
 have hr:=idx_some hdv
 rw [hD.len] at hr
 rw [idx_set o5 (by rw [hrl];omega)]
 have hlo:=hD.lo v d hdv
 by_cases hve:v=g.End
 ·subst hve
  rw [hD.root] at hdv;cases hdv
  rw [if_pos rfl];rfl
 ·rw [if_neg hve,hri v hr.1 hr.2]
  by_cases h0:d≤((0:Nat):Int)
  ·rw [if_pos h0]
   have:d≠0:=by intro hc;subst hc;exact hve (hD.zero v hdv)
   congr 1;omega
  ·rw [if_neg h0]
end Gp
end
section
namespace Gp
open Go Go.Kx Gx
variable {N:Nat}
def posV (L:List Int):Bool := !(L.any fun d=>d==-1)
theorem posV_iff {E:List (Int × Int)} {S:Nat} {e:Int} {L:List Int} (h:Dist E S e L):posV L=true↔∀ v d,idx L v=some d→0≤d:=by
 unfold posV
 rw [Bool.not_eq_true',List.any_eq_false]
 constructor
 ·intro h1 v d hv
  obtain ⟨v0,v1⟩:=idx_some hv
  obtain ⟨k,rfl⟩:∃ k:Nat,v=(k:Int):=⟨v.toNat,by omega⟩
  have hl:=(h.lo _ _ hv).1
  rw [idx_nat] at hv
  have:=h1 d (List.mem_of_getElem? hv)
  simp at this
  omega
 ·intro h1 d hd
  obtain ⟨k,hk⟩:=List.mem_iff_getElem?.mp hd
  have:=h1 (k:Int) d (by rw [idx_nat,hk])
  simp;omega
theorem containsInt_eq (hN:4194304 < N) (l:List Int) (hl:l.length≤4194304) (v:Int):z213 N l v=some (l.any fun d=>d==v):=by
 unfold z213 z254
 rw [look l hl (fun x k r=>bif x==v then some k else r) (z254_l2 l v) (some (-1)) hN]
 ·obtain ⟨i,h1,h2⟩:=whereV_any (fun x=>x==v) l 0
  rw [h1,bS,h2]
 ·intro n k x hk hx
  simp only [z254_l2,lt_t hk,idx_nat,hx,cT,bS]
  rw [show (v==x)=(x==v) by rw [Bool.eq_iff_iff,beq_iff_eq,beq_iff_eq];exact ⟨Eq.symm,Eq.symm⟩]
 ·intro n k hk
  simp only [z254_l2,lt_f hk,cond_false,z254_k1]
structure Rc (S:Nat) (F:List Int) (n:Int) (R:List Bool):Prop where
 len:R.length=S
 sound:∀ v,idx R v=some true→∃ d,idx F v=some d∧0≤d
 full:∀ v d,idx F v=some d→0≤d→d≤n→idx R v=some true
theorem Rc.set {S:Nat} {F:List Int} {n:Int} {R:List Bool} (h:Rc S F n R) {v:Int} {b:Bool} (v0:0≤v) (v1:v < (S:Int)) (hb:b=true→∃ d,idx F v=some d∧0≤d) (hm:idx R v=some true→b=true):Rc S F n (setL' R v b):=by
 have hset:=fun w=>idx_set (L:=R) (d:=b) v0 (by rw [h.len];exact v1) w
 refine ⟨by rw [setL_len _ _ v0,h.len],?_,?_⟩
 ·intro w hw
  rw [hset] at hw
  split at hw
  ·rename_i hc;subst hc;exact hb (Option.some.inj hw)
  ·exact h.sound w hw
 ·intro w d hw h0 h1
  rw [hset]
  split
  ·rename_i hc;subst hc
   rw [hm (h.full _ _ hw h0 h1)]
  ·exact h.full w d hw h0 h1
theorem reach_in {S:Nat} {g:T5} {e:Int} {F:List Int} (hD:Dist (ers g false) S e F) (hg:g.Edges.length≤4194304) (hE:∀ x∈g.Edges,okE g x) (hS:g.States=(S:Int)) (hS2:S≤200) (q:Nat) (hq:q < S) (ag:List Bool→Int→Option Bool) :
  ∀ (l:List T2) (k n:Nat) (R:List Bool),g.Edges.drop k=l→l.length < n→Rc S F (q:Int) R →
  (∀ i x,i < k→g.Edges[i]? = some x→idx F x.From=some (q:Int)→idx R x.To=some true) →
  ∃ R',ref18_connected_l6 g (q:Int) ag n R (k:Int)=ag R' ((q+1:Nat):Int)∧Rc S F ((q:Int)+1) R':=by
 intro l
 induction l with
 | nil =>
  intro k n R h hn hR hd
  obtain ⟨n,rfl⟩:∃ m,n=m+1:=⟨n-1,by simp at hn;omega⟩
  have hk:=drop_nil h
  refine ⟨R,?_,hR.len,hR.sound,?_⟩
  ·simp only [ref18_connected_l6,lt_f hk,cond_false,ref18_connected_k5]
   rw [w64_succ (by omega)]
  ·intro v d hv h0 h1
   by_cases hdq:d=(q:Int)+1
   ·subst hdq
    obtain ⟨u,hu,hul⟩:=hD.pred v _ hv (by omega)
    obtain ⟨x,hx,hxe⟩:=List.mem_map.mp hu
    obtain ⟨i,hi⟩:=List.mem_iff_getElem?.mp hx
    have hil:i < g.Edges.length:=(List.getElem?_eq_some_iff.mp hi).1
    have e1:x.From=u:=congrArg Prod.fst hxe
    have e2:x.To=v:=congrArg Prod.snd hxe
    rw [← e2]
    exact hd i x (by omega) hi (by rw [e1,hul];congr 1;omega)
   ·exact hR.full v d hv h0 (by omega)
 | cons x l ih =>
  intro k n R h hn hR hd
  obtain ⟨n,rfl⟩:∃ m,n=m+1:=⟨n-1,by simp at hn;omega⟩
  obtain ⟨hk,hx,hdr⟩:=drop_cons h
  simp only [List.length_cons] at hn
  have hxm:x∈g.Edges:=List.mem_of_getElem? hx
  obtain ⟨r1,r2,r3,r4,_⟩:=hE x hxm
  obtain ⟨mt,hmt⟩:=idx_lt (L:=R) r3 (by rw [hR.len,← hS];exact r4)
  obtain ⟨mf,hmf⟩:=idx_lt (L:=R) r1 (by rw [hR.len,← hS];exact r2)
  have wk':w64 ((k:Int)+1)=((k+1:Nat):Int):=w64_succ (by omega)
  have hset:=fun (b:Bool) w=>idx_set (L:=R) (b:=x.To) (d:=b) r3 (by rw [hR.len,← hS];exact r4) w
  -- the new list, whatever is written
  have go:∀ b:Bool,(b=true→∃ d,idx F x.To=some d∧0≤d)→(idx R x.To=some true→b=true)→(idx F x.From=some (q:Int)→b=true) →
    ∃ R',ref18_connected_l6 g (q:Int) ag n (setL' R x.To b) ((k+1:Nat):Int)=ag R' ((q+1:Nat):Int)∧Rc S F ((q:Int)+1) R':=by
   intro b hb hm hf
   refine ih (k+1) n _ hdr (by omega) (hR.set r3 (by rw [← hS];exact r4) hb hm) ?_
   intro i y hi hy hyf
   rw [hset]
   by_cases hik:i=k
   ·subst hik
    rw [hx] at hy;cases hy
    rw [if_pos rfl,hf hyf]
   ·split
    ·rename_i hc
     have:=hd i y (by omega) hy hyf
     rw [hc] at this
     rw [hm this]
    ·exact hd i y (by omega) hy hyf
  cases mt with
  | true =>
   simp only [ref18_connected_l6,lt_t hk,cT,idx_nat,hx,bS,hmt,wk']
   exact go true (fun _=>hR.sound _ hmt) (fun _=>rfl) (fun _=>rfl)
  | false =>
   simp only [ref18_connected_l6,lt_t hk,cT,cond_false,idx_nat,hx,bS,hmt,hmf,wk']
   refine go mf ?_ (fun h=>by rw [hmt] at h;cases h) ?_
   ·intro hm
    subst hm
    obtain ⟨d,d1,d2⟩:=hR.sound _ hmf
    obtain ⟨d',e1,e2,_⟩:=hD.succ x.From x.To d (List.mem_map.mpr ⟨x,hxm,rfl⟩) d1 d2
    exact ⟨d',e1,e2⟩
   ·intro hf
    have:=hR.full _ _ hf (by omega) (Int.le_refl _)
    rw [hmf] at this
    exact Option.some.inj this
theorem reach_rounds (hN:4194304 < N) {S:Nat} {g:T5} {e:Int} {F:List Int} (hD:Dist (ers g false) S e F) (hg:g.Edges.length≤4194304) (hE:∀ x∈g.Edges,okE g x) (hS:g.States=(S:Int)) (hS2:S≤200) :
  ∀ (n q:Nat) (R:List Bool),S-q < n→q≤S→Rc S F (q:Int) R→∃ R',ref18_connected_l4 N g n R (q:Int)=ref18_connected_k3 N g R'∧Rc S F (S:Int) R':=by
 intro n
 induction n with
 | zero=>intro q R h;omega
 | succ n ih =>
  intro q R hn hq hR
  by_cases hlt:q < S
  ·have hd:decide ((q:Int) < g.States)=true:=by rw [hS];simp;omega
   obtain ⟨R',m1,m2⟩:=reach_in hD hg hE hS hS2 q hlt (ref18_connected_l4 N g n) g.Edges 0 N R rfl (by omega) hR (by intro i x hi;omega)
   simp only [ref18_connected_l4,hd,cT]
   rw [show (0:Int)=((0:Nat):Int) from rfl,m1]
   exact ih (q+1) R' (by omega) (by omega) (by rw [show ((q+1:Nat):Int)=(q:Int)+1 by omega];exact m2)
  ·have hqs:q=S:=by omega
   subst hqs
   have hd:decide ((q:Int) < g.States)=false:=by rw [hS];simp
   exact ⟨R,by simp only [ref18_connected_l4,hd,cond_false],hR⟩
theorem noEdges (g:T5) (s:Int):∀ (l:List T2) (k:Nat),((placesOf g s l k).length==0)=l.all fun x => !(x.From==s)
 | [],k=>rfl
 | x::l,k=>by
  unfold placesOf
  rw [List.all_cons]
  by_cases h:x.From=s
  ·rw [if_pos h,show (x.From==s)=true by simp [h]];rfl
  ·rw [if_neg h,show (x.From==s)=false by simp [h],noEdges g s l (k+1)];rfl
theorem connected_eq (hN:4194304 < N) (g:T5) (hv:numV g=true) (hn:NumE g) {L F:List Int} (hL:Dist (ers g true) g.States.toNat g.End L) (hF:Dist (ers g false) g.States.toNat g.Start F) :
  ref18_connected N g=some (posV F && posV L && g.Edges.all fun x => !(x.From==g.End)):=by
 have hends:=ends_eq hN g hv hL
 obtain ⟨o1,o2,o3,o4,o5,o6,o7⟩:=numV_head hv
 have hS:g.States=(g.States.toNat:Int):=by omega
 generalize hs:g.States.toNat=S at *
 have m:mkL false g.States g.States=some (List.replicate S false):=by
  rw [hS];unfold mkL
  have q1:decide ((0:Int)≤(S:Int))=true:=by simp
  have q2:decide ((S:Int)≤4294967296)=true:=by simp;omega
  simp only [q1,q2,Int.le_refl,decide_true,Bool.and_self,cT]
  simp
 have hrl:(List.replicate S false).length=S:=by simp
 have hri:∀ v b,idx (List.replicate S false) v=some b→b=false:=by
  intro v b hb
  obtain ⟨v0,v1⟩:=idx_some hb
  obtain ⟨k,rfl⟩:∃ k:Nat,v=(k:Int):=⟨v.toNat,by omega⟩
  rw [idx_nat,List.getElem?_replicate,if_pos (by omega)] at hb
  exact (Option.some.inj hb).symm
 obtain ⟨b0,hb0⟩:=idx_lt (L:=List.replicate S false) o3 (by rw [hrl];omega)
 have hset:=fun w=>idx_set (L:=List.replicate S false) (b:=g.Start) (d:=true) o3 (by rw [hrl];omega) w
 have rc0:Rc S F ((0:Nat):Int) (setL' (List.replicate S false) g.Start true):=by
  refine ⟨by rw [setL_len _ _ o3,hrl],?_,?_⟩
  ·intro v hv'
   rw [hset] at hv'
   split at hv'
   ·rename_i hc;subst hc;exact ⟨0,hF.root,by omega⟩
   ·have h9:=hri _ _ hv'
    cases h9
  ·intro v d hv' h0 h1
   have h9:d=0:=by omega
   subst h9
   rw [hset,if_pos (hF.zero v hv')]
 unfold ref18_connected
 rw [m,bS,hb0,bS]
 obtain ⟨R,r1,r2⟩:=reach_rounds hN hF (by omega) (fun x hx=>numV_edge hv hx) hS (by omega) N 0 (setL' (List.replicate S false) g.Start true) (by omega) (by omega)
  rc0
 rw [show (0:Int)=((0:Nat):Int) from rfl,r1]
 unfold ref18_connected_k3
 rw [hends,bS,allV_from (fun d k=>(R[k]?.getD false) && !(decide (d < 0))) (xs:=L) (F:=ref18_connected_l2 N g R L) (e:=ref18_connected_k1 N g) (by rw [hL.len];omega)]
 ·obtain ⟨Z,z1,z2⟩:=refEdges_eq hN g (by omega) hn g.End
  have hk1:ref18_connected_k1 N g=some (g.Edges.all fun x => !(x.From==g.End)):=by
   unfold ref18_connected_k1
   rw [z2,bS,← noEdges g g.End g.Edges 0,← z1.1.length_eq]
   congr 1
   rw [Bool.eq_iff_iff,beq_iff_eq,beq_iff_eq];omega
  rw [hk1]
  have hall:allV (fun d k=>(R[k]?.getD false) && !(decide (d < 0))) L 0=(posV F && posV L):=by
   rw [Bool.eq_iff_iff,Bool.and_eq_true,posV_iff hF,posV_iff hL,allV_iff]
   constructor
   ·intro h
    constructor
    ·intro v d hv'
     obtain ⟨v0,v1⟩:=idx_some hv'
     obtain ⟨k,rfl⟩:∃ k:Nat,v=(k:Int):=⟨v.toNat,by omega⟩
     rw [hF.len] at v1
     have hkL:k < L.length:=by rw [hL.len];omega
     have:=h k _ (List.getElem?_eq_getElem hkL)
     rw [Bool.and_eq_true,Nat.zero_add] at this
     have hkR:k < R.length:=by rw [r2.len];omega
     rw [List.getElem?_eq_getElem hkR,Option.getD_some] at this
     obtain ⟨d',d1,d2⟩:=r2.sound (k:Int) (by rw [idx_nat,List.getElem?_eq_getElem hkR,this.1])
     rw [hv'] at d1
     cases d1;exact d2
    ·intro v d hv'
     obtain ⟨v0,v1⟩:=idx_some hv'
     obtain ⟨k,rfl⟩:∃ k:Nat,v=(k:Int):=⟨v.toNat,by omega⟩
     rw [idx_nat] at hv'
     have:=h k d hv'
     simp at this
     omega
   ·rintro ⟨h1,h2⟩ i d hi
    rw [Nat.zero_add]
    have hkL:i < L.length:=(List.getElem?_eq_some_iff.mp hi).1
    obtain ⟨f,hf⟩:=idx_lt (L:=F) (v:=(i:Int)) (by omega) (by rw [hF.len,← hL.len];omega)
    have:=r2.full (i:Int) f hf (h1 _ _ hf) (by have:=(hF.lo _ _ hf).2;omega)
    rw [idx_nat] at this
    rw [this]
    have:=h2 (i:Int) d (by rw [idx_nat,hi])
    simp;omega
  rw [hall]
  cases (posV F && posV L)<;>rfl
 ·intro n k x hk hx
  have hkR:k < R.length:=by rw [r2.len,← hL.len];omega
  have hd:decide ((k:Int) < g.States)=true:=by rw [hS];simp;rw [← hL.len];omega
  simp only [ref18_connected_l2,hd,idx_nat,hx,cT,bS,List.getElem?_eq_getElem hkR,Option.getD_some,w64_succ (show k < 4611686018427387904 by rw [hL.len] at hk;omega)]
  cases R[k]<;>cases decide (x < 0)<;>rfl
 ·intro n k hk
  have hd:decide ((k:Int) < g.States)=false:=by rw [hS];simp;rw [← hL.len];omega
  simp only [ref18_connected_l2,hd,cond_false]
end Gp
end
section
namespace Gp
open Go Go.Kx Gx
def mkB (l:List UInt8):ByteArray:=⟨l.toArray⟩
theorem bs_mkB (l:List UInt8):bs (mkB l)=l:=by simp [bs,mkB]
theorem mkB_bs (s:ByteArray):mkB (bs s)=s:=bs_inj (bs_mkB _)
theorem bs_extract (s:ByteArray) (a b:Nat):bs (s.extract a b)=((bs s).take b).drop a:=by
 unfold bs
 rw [ByteArray.data_extract,Array.toList_extract]
 simp [List.extract,List.drop_take]
theorem ssl_mid {s:ByteArray} {x y z:List UInt8} {i j:Int} (h:bs s=x++(y++z)) (hi:i=(x.length:Int)) (hj:j=((x.length+y.length:Nat):Int)):ssl s (some i) (some j)=some (mkB y):=by
 subst hi hj
 have q1:decide ((0:Int)≤(x.length:Int))=true:=by simp
 have q2:decide ((x.length:Int)≤((x.length+y.length:Nat):Int))=true:=by simp;omega
 have q3:decide (((x.length+y.length:Nat):Int)≤(s.size:Int))=true:=by rw [size_bs,h];simp;omega
 unfold ssl bnd
 simp only [Option.getD_some,q1,q2,q3,Bool.and_self,cT,Option.map_some,Int.toNat_natCast]
 congr 1
 apply bs_inj
 rw [bs_extract,bs_mkB,h,← aA,List.take_append_of_le_length (by simp),List.take_of_length_le (by simp)]
 simp
theorem ssl_to {s:ByteArray} {x y:List UInt8} {j:Int} (h:bs s=x++y) (hj:j=(x.length:Int)):ssl s none (some j)=some (mkB x):=by
 have e:ssl s none (some j)=ssl s (some 0) (some j):=rfl
 rw [e]
 exact ssl_mid (x:=[]) (y:=x) (z:=y) (by rw [h];rfl) rfl (by rw [hj];simp)
theorem ssl_from {s:ByteArray} {x y:List UInt8} {i:Int} (h:bs s=x++y) (hi:i=(x.length:Int)):ssl s (some i) none=some (mkB y):=by
 have e:ssl s (some i) none=ssl s (some i) (some (s.size:Int)):=rfl
 rw [e]
 exact ssl_mid (x:=x) (y:=y) (z:=[]) (by rw [h];simp) hi (by rw [size_bs,h];simp)
theorem indexB_some {l:List UInt8} {c:UInt8} (h:0 < l.count c):∃ p q,l=p++c::q∧p.count c=0∧Go.Lib.indexByte l c=(p.length:Int):=by
 induction l with
 | nil=>simp at h
 | cons b l ih =>
  cases hc:(b==c)
  ·rw [List.count_cons,hc] at h
   obtain ⟨p,q,h1,h2,h3⟩:=ih (by simpa using h)
   refine ⟨b::p,q,by rw [h1];rfl,by rw [List.count_cons,h2,hc];rfl,?_⟩
   unfold Go.Lib.indexByte
   rw [hc,h3,show ((p.length:Int)==-1)=false by simp]
   simp
  ·have:b=c:=by simpa using hc
   subst this
   exact ⟨[],l,rfl,by simp,by unfold Go.Lib.indexByte;rw [hc];rfl⟩
def splitA (acc:List UInt8):List UInt8→List (List UInt8)
 | []=>[acc]
 | c::l=>if c=46 then acc::splitA [] l else splitA (acc++[c]) l
theorem splitA_cons (acc:List UInt8) (c:UInt8) (l:List UInt8):splitA acc (c::l)=if c=46 then acc::splitA [] l else splitA (acc++[c]) l:=rfl
theorem splitA_none:∀ (l acc:List UInt8),l.count 46=0→splitA acc l=[acc++l]
 | [],acc,_=>by simp [splitA]
 | c::l,acc,h=>by
  rw [List.count_cons] at h
  have hc:¬ c=46:=by intro hc;subst hc;simp at h
  rw [splitA_cons,if_neg hc,splitA_none l _ (by omega)];simp
theorem splitA_some:∀ (p acc q:List UInt8),p.count 46=0→splitA acc (p++46::q)=(acc++p)::splitA [] q
 | [],acc,q,_=>by rw [List.nil_append,splitA_cons,if_pos rfl,List.append_nil]
 | c::p,acc,q,h=>by
  rw [List.count_cons] at h
  have hc:¬ c=46:=by intro hc;subst hc;simp at h
  show splitA acc (c::(p++46::q))=_
  rw [splitA_cons,if_neg hc,splitA_some p _ q (by omega)];simp
theorem splitA_len:∀ (l acc:List UInt8),(splitA acc l).length=l.count 46+1
 | [],acc=>by simp [splitA]
 | c::l,acc=>by
  rw [splitA_cons,List.count_cons]
  split
  ·rename_i h;subst h
   rw [List.length_cons,splitA_len l];simp
  ·rename_i h
   rw [splitA_len l];simp [h]
variable {N:Nat}
theorem index_eq (s:ByteArray):z283 N s (str [46])=some (Go.Lib.indexByte (bs s) 46):=by
 unfold z283 z300
 have h1:(((str [46]).size:Int)==0)=false:=rfl
 have h2:(((str [46]).size:Int)==1)=true:=rfl
 have h3:sidx (str [46]) (0:Int)=some 46:=by
  rw [show (0:Int)=((0:Nat):Int) from rfl,sidx_bs];rfl
 rw [h1,h2,h3]
 simp only [cT,cond_false,bS,z307]
 have hf:firstB s 46=Go.Lib.indexByte (bs s) 46:=Go.Lib.firstIdx_eq s 46
 rw [hf,toList_bs,toList_bs]
 cases he:(bs (str [46])==bs s)
 ·rfl
 ·have he:bs (str [46])=bs s:=eq_of_beq he
  rw [← he];rfl
theorem count_eq (s:ByteArray):z282 N s (str [46])=some (((bs s).count 46:Nat):Int):=by
 unfold z282
 have h1:(((str [46]).size:Int)==0)=false:=rfl
 have h2:(((str [46]).size:Int)==1)=true:=rfl
 have h3:sidx (str [46]) (0:Int)=some 46:=by
  rw [show (0:Int)=((0:Nat):Int) from rfl,sidx_bs];rfl
 rw [h1,h2,h3]
 simp only [cT,cond_false,bS]
 congr 1
 unfold countB
 rw [show s.foldl (fun (n:Int) x=>if x==Kx.byteOf 46 then n+1 else n) ((0:Nat):Int)=(bs s).foldl (fun (n:Int) x=>if x==Kx.byteOf 46 then n+1 else n) ((0:Nat):Int) from Go.Lib.foldl_data _ _ _,Go.Lib.count_foldl]
 simp [Go.Lib.countByte,Kx.byteOf]
theorem gen_loop (s sep:ByteArray) (hsep:sep=str [46]) (cnt:Nat) (hc:cnt≤s.size) (hs:s.size≤4194304) :
  ∀ (n:Nat) (cur:ByteArray) (D R:List ByteArray),(bs cur).count 46 < n→(bs cur).length≤4194304→D.length+(bs cur).count 46=cnt→R.length=(bs cur).count 46+1 →
  z261_l2 N s sep (0:Int) ((cnt+1:Nat):Int) n cur (D++R) (D.length:Int)=some (D++(splitA [] (bs cur)).map mkB):=by
 subst hsep
 intro n
 induction n with
 | zero=>intro cur D R h;omega
 | succ n ih =>
  intro cur D R hn hcur hD hR
  have hw:w64 ((s.size:Int)+1)=((s.size+1:Nat):Int):=w64_succ (by omega)
  have hmin:minI ((cnt+1:Nat):Int) ((s.size+1:Nat):Int)=((cnt+1:Nat):Int):=by unfold minI;rw [if_neg (by omega)]
  have hw2:w64 (((cnt+1:Nat):Int)-1)=(cnt:Int):=by rw [w64_id (by omega) (by omega)];omega
  have fin:(bs cur).count 46=0→z261_k1 cur (D++R) (D.length:Int)=some (D++(splitA [] (bs cur)).map mkB):=by
   intro h0
   rw [h0] at hR
   obtain ⟨r,rfl⟩:=List.length_eq_one_iff.mp hR
   unfold z261_k1
   rw [idx_mid (A:=D) (x:=r) (B:=[]) rfl rfl,bS,setL'_mid (A:=D) (x:=r) (B:=[]) rfl rfl,w64_succ (by omega),lsl_to (A:=D++[cur]) (B:=[]) (by simp) (by simp),splitA_none _ _ h0]
   simp [mkB_bs]
  by_cases hlt:D.length < cnt
  ·have hd:decide ((D.length:Int) < (cnt:Int))=true:=by simp;omega
   obtain ⟨p,q,e1,e2,e3⟩:=indexB_some (l:=bs cur) (c:=46) (by omega)
   have hlen:(bs cur).length=p.length+(q.length+1):=by rw [e1];simp
   have hcnt:(bs cur).count 46=q.count 46+1:=by rw [e1,List.count_append,List.count_cons,e2];simp
   obtain ⟨r,R',rfl⟩:∃ r R',R=r::R':=by
    cases R with
    | nil=>simp at hR
    | cons r R'=>exact ⟨r,R',rfl⟩
   simp only [List.length_cons] at hR
   have hneg:decide ((p.length:Int) < 0)=false:=by simp
   have wp:w64 ((p.length:Int)+0)=(p.length:Int):=by rw [w64_id (by omega) (by omega)];omega
   have wp1:w64 ((p.length:Int)+((str [46]).size:Int))=((p++[46]:List UInt8).length:Int):=by
    rw [show ((str [46]).size:Int)=1 from rfl,w64_succ (by omega)];simp
   simp only [z261_l2,hw,hmin,hw2,hd,cT,index_eq,e3,bS,hneg,cond_false,wp,wp1]
   rw [ssl_to e1 rfl,bS,idx_mid (A:=D) (x:=r) (B:=R') rfl rfl,bS,ssl_from (x:=p++[46]) (y:=q) (by rw [e1];simp) rfl,bS,setL'_mid (A:=D) (x:=r) (B:=R') rfl rfl,w64_succ (by omega)]
   have:=ih (mkB q) (D++[mkB p]) R' (by rw [bs_mkB];omega) (by rw [bs_mkB];omega) (by rw [bs_mkB];simp;omega) (by rw [bs_mkB];omega)
   rw [bs_mkB] at this
   rw [show ((D.length+1:Nat):Int)=((D++[mkB p]).length:Int) by simp,show D++mkB p::R'=(D++[mkB p])++R' by simp,this,e1,splitA_some _ _ _ e2]
   simp
  ·have hd:decide ((D.length:Int) < (cnt:Int))=false:=by simp;omega
   simp only [z261_l2,hw,hmin,hw2,hd,cond_false]
   exact fin (by omega)
theorem split_eq (hN:4194304 < N) (s:ByteArray) (hs:s.size≤1000000):z217 N s (str [46])=some ((splitA [] (bs s)).map mkB):=by
 unfold z217 z261
 have h0:((-1:Int)==0)=false:=rfl
 have h1:((str [46]).toList==(str []).toList)=false:=by rw [toList_bs,toList_bs];rfl
 have h2:decide ((-1:Int) < 0)=true:=rfl
 have hcl:(bs s).count 46≤(bs s).length:=List.count_le_length
 rw [h0,h1,h2,count_eq]
 simp only [cT,cond_false,bS,z261_k3]
 rw [size_bs] at hs
 rw [w64_succ (by omega)]
 have hw:w64 ((s.size:Int)+1)=((s.size+1:Nat):Int):=w64_succ (by rw [size_bs];omega)
 have hmin:minI (((bs s).count 46+1:Nat):Int) ((s.size+1:Nat):Int)=(((bs s).count 46+1:Nat):Int):=by unfold minI;rw [if_neg (by rw [size_bs];omega)]
 have m:mkL (str []) (((bs s).count 46+1:Nat):Int) (((bs s).count 46+1:Nat):Int)=some (List.replicate ((bs s).count 46+1) (str [])):=by
  unfold mkL
  have q1:decide ((0:Int)≤(((bs s).count 46+1:Nat):Int))=true:=by simp;omega
  have q2:decide ((((bs s).count 46+1:Nat):Int)≤4294967296)=true:=by simp;omega
  simp only [q1,q2,Int.le_refl,decide_true,Bool.and_self,cT]
  simp
 rw [hw,hmin,m,bS]
 have:=gen_loop (N:=N) s (str [46]) rfl ((bs s).count 46) (by rw [size_bs];omega) (by rw [size_bs];omega) N s [] (List.replicate ((bs s).count 46+1) (str [])) (by omega) (by omega) (by simp) (by simp)
 rw [List.nil_append] at this
 have this':z261_l2 N s (str [46]) (0:Int) (((bs s).count 46+1:Nat):Int) N s (List.replicate ((bs s).count 46+1) (str [])) (0:Int)=some ([]++(splitA [] (bs s)).map mkB):=this
 rw [this'];simp
def pathV (s:ByteArray):Bool:=decide (s.size≤50) && (splitA [] (bs s)).all fun p=>isWord (mkB p)
theorem piece_len:∀ (l acc:List UInt8),∀ p∈splitA acc l,p.length≤acc.length+l.length
 | [],acc,p,h=>by simp [splitA] at h;subst h;simp
 | c::l,acc,p,h=>by
  rw [splitA_cons] at h
  split at h
  ·rcases List.mem_cons.mp h with h | h
   ·subst h;simp
   ·have:=piece_len l [] p h;simp at this;simp;omega
  ·have:=piece_len l _ p h;simp at this;simp;omega
theorem path_eq (hN:4194304 < N) (s:ByteArray):z143 N s=some (pathV s):=by
 unfold z143 pathV
 by_cases h:s.size≤50
 ·rw [dT (show (s.size:Int)≤50 by omega),dT h,cT,split_eq hN s (by omega),bS]
  unfold z216_1 z260_0
  have hl:(splitA [] (bs s)).length≤51:=by
   rw [splitA_len]
   have:(bs s).count 46≤(bs s).length:=List.count_le_length
   rw [size_bs] at h;omega
  rw [look ((splitA [] (bs s)).map mkB) (by simp;omega) (fun x k r=>bif !(isWord x) then some k else r) (z260_0_l2 N ((splitA [] (bs s)).map mkB)) (some (-1)) hN]
  ·obtain ⟨i,h1,h2⟩:=whereV_any (fun x => !(isWord x)) ((splitA [] (bs s)).map mkB) 0
   rw [h1,bS,h2,bS,List.any_map,List.not_any_eq_all_not]
   simp [Function.comp_def]
  ·intro n k x hk hx
   have hx':=List.mem_of_getElem? hx
   obtain ⟨p,hp,rfl⟩:=List.mem_map.mp hx'
   have hpl:=piece_len _ _ p hp
   have hw:=(word_eq hN (mkB p) (by rw [size_bs,bs_mkB];rw [size_bs] at h;simp at hpl;omega)).1
   simp only [z260_0_l2,lt_t hk,idx_nat,hx,cT,bS,z218,hw]
  ·intro n k hk
   simp only [z260_0_l2,lt_f hk,cond_false,z260_0_k1]
 ·rw [dF (show ¬ (s.size:Int)≤50 by omega),dF h];rfl
theorem refPath_loop (hN:4194304 < N) (s:ByteArray) (hs:s.size≤4194304):∀ (n:Nat) (x acc l:List UInt8) (i j:Int),l.length+1 < n→bs s=x++(acc++l)→i=(x.length:Int)→j=((x.length+acc.length:Nat):Int) →
  ref10_IsPath_l2 N s n i j=bif (splitA acc l).all fun p=>isWord (mkB p) then ref10_IsPath_k1 s else some false:=by
 intro n
 induction n with
 | zero=>intro x acc l i j h;omega
 | succ n ih =>
  intro x acc l i j hn he hi hj
  have hsz:s.size=x.length+(acc.length+l.length):=by rw [size_bs,he];simp
  have hle:decide (j≤(s.size:Int))=true:=by simp;omega
  have hw:=(word_eq hN (mkB acc) (by rw [size_bs,bs_mkB];omega)).2
  have wj:w64 (j+1)=((x.length+acc.length+1:Nat):Int):=by rw [hj];exact w64_succ (by omega)
  cases l with
  | nil =>
   have hend:(j==(s.size:Int))=true:=by simp at hsz;simp;omega
   obtain ⟨n,rfl⟩:∃ m,n=m+1:=⟨n-1,by simp at hn;omega⟩
   have hgt:decide (w64 (j+1)≤(s.size:Int))=false:=by rw [wj];simp at hsz;simp;omega
   unfold ref10_IsPath_l2
   rw [hle,cT,hend,cT]
   unfold ref10_IsPath_k3
   rw [cT,ssl_mid he hi hj,bS]
   unfold ref10_word
   rw [hw]
   simp only [bS,splitA,List.all_cons,List.all_nil,Bool.and_true]
   cases isWord (mkB acc)
   ·rfl
   ·simp only [Bool.not_true,cond_false,cT]
    unfold ref10_IsPath_l2
    rw [hgt];rfl
  | cons c l =>
   have hne:(j==(s.size:Int))=false:=by simp at hsz;simp;omega
   have hgc:sidx s j=some (c.toNat:Int):=by
    rw [hj,sidx_bs,get_at (A:=x++acc) (x:=c) (B:=l) (by rw [he];simp) (by simp)];rfl
   unfold ref10_IsPath_l2
   rw [hle,cT,hne,cond_false,hgc,bS]
   by_cases hc:c=46
   ·subst hc
    have hb:(((46:UInt8).toNat:Int)==46)=true:=rfl
    rw [hb]
    unfold ref10_IsPath_k3
    rw [cT,ssl_mid he hi hj,bS]
    unfold ref10_word
    rw [hw]
    have e0:splitA acc (46::l)=acc::splitA [] l:=by rw [splitA_cons,if_pos rfl]
    rw [e0,List.all_cons]
    simp only [bS]
    cases isWord (mkB acc)
    ·rfl
    ·simp only [Bool.not_true,cond_false,Bool.true_and]
     rw [wj]
     exact ih (x++acc++[46]) [] l _ _ (by simp at hn;omega) (by rw [he];simp) (by simp;omega) (by simp;omega)
   ·have hb:((c.toNat:Int)==46)=false:=by
     rw [beq_eq_false_iff_ne]
     intro h
     apply hc
     apply UInt8.toNat_inj.mp
     show c.toNat=46
     omega
    rw [hb]
    unfold ref10_IsPath_k3
    have e0:splitA acc (c::l)=splitA (acc++[c]) l:=by rw [splitA_cons,if_neg hc]
    rw [cond_false,wj,e0]
    exact ih x (acc++[c]) l _ _ (by simp at hn;omega) (by rw [he];simp) hi (by simp;omega)
theorem refPath_eq (hN:4194304 < N) (s:ByteArray) (hs:s.size≤4000000):ref10_IsPath N s=some (pathV s):=by
 unfold ref10_IsPath
 rw [refPath_loop hN s (by omega) N [] [] (bs s) (0:Int) (0:Int) (by rw [size_bs] at hs;omega) rfl rfl rfl]
 unfold ref10_IsPath_k1 pathV
 by_cases h:s.size≤50
 ·rw [dT (show (s.size:Int)≤50 by omega),dT h]
  cases (splitA [] (bs s)).all fun p=>isWord (mkB p)<;>rfl
 ·rw [dF (show ¬ (s.size:Int)≤50 by omega),dF h]
  cases (splitA [] (bs s)).all fun p=>isWord (mkB p)<;>rfl
end Gp
end
section
namespace Gp
open Go Go.Kx Gx
variable {N:Nat}
def flat (l:List T0):List T4:=(l.map fun d=>d.Fields).flatten
theorem flat_cons (x:T0) (l:List T0):flat (x::l)=x.Fields++flat l:=rfl
theorem flat_app (a b:List T0):flat (a++b)=flat a++flat b:=by simp [flat]
theorem flat_le (l:List T0) (h:∀ d∈l,SizeD d):(flat l).length≤l.length * 4194304:=by
 induction l with
 | nil=>simp [flat]
 | cons x l ih =>
  rw [flat_cons,lA,List.length_cons]
  have:=(h x (by simp)).f
  have:=ih (fun d hd=>h d (by simp [hd]))
  omega
theorem take_drop_cons {α:Type} {xs l:List α} {k:Nat} {x:α} (h:xs.drop k=x::l):xs.take (k+1)=xs.take k++[x]:=by
 obtain ⟨a,c,d⟩:=drop_cons h
 rw [List.take_add_one,c];rfl
theorem fields_loop (l:List T0) (hs:(flat l).length≤4294967296) (hl:l.length≤4194304) :
  ∀ (m:List T0) (k n:Nat) (acc:List T4),l.drop k=m→m.length < n→acc=flat (l.take k)→z142_l2 l n acc (k:Int)=some (flat l):=by
 intro m
 induction m with
 | nil =>
  intro k n acc h hn ha
  obtain ⟨n,rfl⟩:∃ m,n=m+1:=⟨n-1,by simp at hn;omega⟩
  have hk:=drop_nil h
  simp only [z142_l2,lt_f hk,cond_false,z142_k1]
  rw [ha,List.take_of_length_le hk]
 | cons x m ih =>
  intro k n acc h hn ha
  obtain ⟨n,rfl⟩:∃ m,n=m+1:=⟨n-1,by simp at hn;omega⟩
  obtain ⟨a,c,d⟩:=drop_cons h
  have ht:=take_drop_cons h
  have hcut:flat l=flat (l.take (k+1))++flat (l.drop (k+1)):=by rw [← flat_app,List.take_append_drop]
  have hle:acc.length+x.Fields.length≤4294967296:=by
   rw [hcut,ht,flat_app,lA,lA,← ha] at hs
   have:(flat [x]).length=x.Fields.length:=by simp [flat]
   omega
  simp only [z142_l2,lt_t a,cT,idx_nat,c,bS]
  rw [appL_some hle,bS,w64_succ (by omega)]
  refine ih (k+1) n _ d (by simp at hn;omega) ?_
  rw [ht,flat_app,← ha];simp [flat]
theorem fields_eq (hN:4194304 < N) (l:List T0) (hl:l.length≤1000) (hd:∀ d∈l,SizeD d):z142 N l=some (flat l):=by
 unfold z142
 exact fields_loop l (by have:=flat_le l hd;omega) (by omega) l 0 N [] rfl (by omega) rfl
theorem vars_loop (l:List T0) (hs:(flat l).length≤4294967296) (hl:l.length≤4194304) :
  ∀ (m:List T0) (k n:Nat) (acc:Int),l.drop k=m→m.length < n→acc=((flat (l.take k)).length:Int)→ref14_Vars_l2 l n acc (k:Int)=some ((flat l).length:Int):=by
 intro m
 induction m with
 | nil =>
  intro k n acc h hn ha
  obtain ⟨n,rfl⟩:∃ m,n=m+1:=⟨n-1,by simp at hn;omega⟩
  have hk:=drop_nil h
  simp only [ref14_Vars_l2,lt_f hk,cond_false,ref14_Vars_k1]
  rw [ha,List.take_of_length_le hk]
 | cons x m ih =>
  intro k n acc h hn ha
  obtain ⟨n,rfl⟩:∃ m,n=m+1:=⟨n-1,by simp at hn;omega⟩
  obtain ⟨a,c,d⟩:=drop_cons h
  have ht:=take_drop_cons h
  have hcut:flat l=flat (l.take (k+1))++flat (l.drop (k+1)):=by rw [← flat_app,List.take_append_drop]
  have hx:(flat [x]).length=x.Fields.length:=by simp [flat]
  have hle:(flat (l.take k)).length+x.Fields.length≤4294967296:=by
   rw [hcut,ht,flat_app,lA,lA] at hs
   omega
  simp only [ref14_Vars_l2,lt_t a,cT,idx_nat,c,bS]
  rw [w64_succ (by omega),w64_id (by omega) (by omega)]
  refine ih (k+1) n _ d (by simp at hn;omega) ?_
  rw [ht,flat_app,lA,hx,ha];simp
theorem vars_eq (hN:4194304 < N) (l:List T0) (hl:l.length≤1000) (hd:∀ d∈l,SizeD d):ref14_Vars N l=some ((flat l).length:Int):=by
 unfold ref14_Vars
 exact vars_loop l (by have:=flat_le l hd;omega) (by omega) l 0 N 0 rfl (by omega) rfl
theorem field_loop (l:List T0) (hl:l.length≤4194304) (hd:∀ d∈l,SizeD d) :
  ∀ (m:List T0) (k n i:Nat),l.drop k=m→m.length < n→i < (flat m).length→i≤4294967296→ref14_Field_l2 l n (i:Int) (k:Int)=(flat m)[i]? := by
 intro m
 induction m with
 | nil=>intro k n i h hn hi;simp [flat] at hi
 | cons x m ih =>
  intro k n i h hn hi hi2
  obtain ⟨n,rfl⟩:∃ m,n=m+1:=⟨n-1,by simp at hn;omega⟩
  obtain ⟨a,c,d⟩:=drop_cons h
  rw [flat_cons]
  simp only [ref14_Field_l2,lt_t a,cT,idx_nat,c,bS]
  by_cases hlt:i < x.Fields.length
  ·rw [lt_t hlt,cT,List.getElem?_append_left hlt,List.getElem?_eq_getElem hlt];rfl
  ·rw [lt_f (by omega),cond_false,w64_succ (by omega),List.getElem?_append_right (by omega)]
   have hf:=(hd x (List.mem_of_getElem? c)).f
   have hw:w64 ((i:Int)-(x.Fields.length:Int))=((i-x.Fields.length:Nat):Int):=by rw [w64_id (by omega) (by omega)];omega
   rw [hw]
   exact ih (k+1) n _ d (by simp at hn;omega) (by rw [flat_cons,lA] at hi;omega) (by omega)
def textV (fl:List T4) (x:Int):Bool:=match idx fl x with | some f=>f.Sort'.Kind==2 | none=>false
theorem idx_none {α:Type} {L:List α} {v:Int} (h:¬ (0≤v∧v < (L.length:Int))):idx L v=none:=by
 cases hc:idx L v with
 | none=>rfl
 | some d=>exact absurd (idx_some hc) h
theorem text_eq (hN:4194304 < N) (l:List T0) (hl:l.length≤1000) (hd:∀ d∈l,SizeD d) (x:Int):ref14_text N l x=some (textV (flat l) x):=by
 have hfl:=flat_le l hd
 unfold ref14_text textV
 rw [vars_eq hN l hl hd]
 by_cases h0:x≥0
 ·rw [dT h0,cT,bS]
  by_cases h1:x < ((flat l).length:Int)
  ·obtain ⟨k,rfl⟩:∃ k:Nat,x=(k:Int):=⟨x.toNat,by omega⟩
   have hk:k < (flat l).length:=by omega
   have hf:ref14_Field N l (k:Int)=(flat l)[k]? := field_loop l (by omega) hd l 0 N k rfl (by omega) hk (by omega)
   rw [dT h1,cT,hf,idx_nat,List.getElem?_eq_getElem hk];rfl
  ·rw [dF h1,idx_none (by omega)];rfl
 ·rw [dF h0,idx_none (by omega)];rfl
def diffOk (n:Int) (d:T1):Prop:=-1≤d.X∧d.X < n∧-1≤d.Y∧d.Y < n∧-20000≤d.C∧d.C≤20000
instance (n:Int) (d:T1):Decidable (diffOk n d):=by unfold diffOk;infer_instance
def guardV (fl:List T4) (g:T6):Bool :=
 decide (g.Diffs.length≤20∧g.Equals.length≤20) && (allV (fun d _=>decide (diffOk (fl.length:Int) d)) g.Diffs 0 && allV (fun e _=>textV fl e.1 && textV fl e.2) g.Equals 0)
theorem guarded_eq (hN:4194304 < N) (g:T6) (fl:List T4):z150 N g fl=some (guardV fl g):=by
 unfold z150 guardV
 by_cases c1:(g.Diffs.length:Int) > 20
 ·rw [dT c1,dF (show ¬ (g.Diffs.length≤20∧g.Equals.length≤20) by omega)];rfl
 by_cases c2:(g.Equals.length:Int) > 20
 ·rw [dF c1,dT c2,dF (show ¬ (g.Diffs.length≤20∧g.Equals.length≤20) by omega)];rfl
 rw [dF c1,dF c2,dT (show g.Diffs.length≤20∧g.Equals.length≤20 by omega)]
 simp only [cond_false,Bool.true_and]
 rw [allV_from (fun d _=>decide (diffOk (fl.length:Int) d)) (xs:=g.Diffs) (F:=z150_l6 N g fl) (e:=z150_k5 N g fl) (by omega)]
 ·unfold z150_k5
  rw [allV_from (fun e _=>textV fl e.1 && textV fl e.2) (xs:=g.Equals) (F:=z150_l2 N g fl) (e:=some true) (by omega)]
  ·cases allV (fun d _=>decide (diffOk (fl.length:Int) d)) g.Diffs 0<;>cases allV (fun e _=>textV fl e.1 && textV fl e.2) g.Equals 0<;>rfl
  ·intro n k x hk hx
   obtain ⟨m,rfl⟩:∃ m,N=m+3:=⟨N-3,by omega⟩
   have e0:idx ([x.1,x.2]:List Int) (0:Int)=some x.1:=rfl
   have e1:idx ([x.1,x.2]:List Int) (1:Int)=some x.2:=rfl
   have w0:w64 ((0:Int)+1)=1:=by decide
   have w1:w64 ((1:Int)+1)=2:=by decide
   have l0:decide ((0:Int) < 2)=true:=rfl
   have l1:decide ((1:Int) < 2)=true:=rfl
   have l2:decide ((2:Int) < 2)=false:=rfl
   have one:∀ (v:Int) (r:Option Bool),(bif decide (v < (0:Int)) then some false else bif decide (v≥(fl.length:Int)) then some false else (idx fl v).bind fun x143=>bif (x143.Sort'.Kind != (2:Int)) then some false else r)=bif textV fl v then r else some false:=by
    intro v r
    unfold textV
    by_cases h0:v < 0
    ·rw [dT h0,idx_none (by omega)];rfl
    by_cases h1:v≥(fl.length:Int)
    ·rw [dF h0,dT h1,idx_none (by omega)];rfl
    obtain ⟨f,hf⟩:=idx_lt (L:=fl) (v:=v) (by omega) (by omega)
    rw [dF h0,dF h1,hf]
    simp only [cond_false,bS]
    unfold bne
    cases (f.Sort'.Kind==2)<;>rfl
   have inner:z150_l4 fl (k:Int) (z150_l2 (m+3) g fl n) x (m+3) (0:Int)=bif textV fl x.1 && textV fl x.2 then z150_k3 (k:Int) (z150_l2 (m+3) g fl n) else some false:=by
    simp only [z150_l4,e0,e1,w0,w1,l0,l1,l2,cT,cond_false,bS]
    rw [one,one]
    cases textV fl x.1<;>cases textV fl x.2<;>rfl
   simp only [z150_l2,lt_t hk,cT,idx_nat,hx,bS,inner,z150_k3]
   rw [w64_succ (by omega)]
  ·intro n k hk
   simp only [z150_l2,lt_f hk,cond_false,z150_k1]
 ·intro n k x hk hx
  simp only [z150_l6,lt_t hk,idx_nat,hx,cT,bS,w64_succ (show k < 4611686018427387904 by omega)]
  by_cases d1:minI x.X x.Y < -1
  ·rw [dT d1,dF (show ¬ diffOk (fl.length:Int) x by rw [minI_lt] at d1;unfold diffOk;omega)];rfl
  by_cases d2:maxI x.X x.Y≥(fl.length:Int)
  ·rw [dF d1,dT d2,dF (show ¬ diffOk (fl.length:Int) x by rw [maxI_ge] at d2;unfold diffOk;omega)];rfl
  by_cases d3:x.C < -20000
  ·rw [dF d1,dF d2,dT d3,dF (show ¬ diffOk (fl.length:Int) x by unfold diffOk;omega)];rfl
  by_cases d4:x.C > 20000
  ·rw [dF d1,dF d2,dF d3,dT d4,dF (show ¬ diffOk (fl.length:Int) x by unfold diffOk;omega)];rfl
  rw [dF d1,dF d2,dF d3,dF d4,dT (show diffOk (fl.length:Int) x by rw [minI_lt] at d1;rw [maxI_ge] at d2;unfold diffOk;omega)];rfl
 ·intro n k hk
  simp only [z150_l6,lt_f hk,cond_false]
theorem goodGuard_eq (hN:4194304 < N) (l:List T0) (hl:l.length≤1000) (hd:∀ d∈l,SizeD d) (g:T6) (h1:g.Diffs.length≤4194304) (h2:g.Equals.length≤4194304):ref14_goodGuard N l g=some (guardV (flat l) g):=by
 unfold ref14_goodGuard guardV
 rw [vars_eq hN l hl hd,bS]
 rw [allV_from (fun d _=>decide (diffOk ((flat l).length:Int) d)) (xs:=g.Diffs) (F:=ref14_goodGuard_l4 N l g ((flat l).length:Int)) (e:=ref14_goodGuard_k3 N l g) (by omega)]
 ·unfold ref14_goodGuard_k3
  rw [allV_from (fun e _=>textV (flat l) e.1 && textV (flat l) e.2) (xs:=g.Equals) (F:=ref14_goodGuard_l2 N l g) (e:=ref14_goodGuard_k1 g) (by omega)]
  ·have hk1:ref14_goodGuard_k1 g=some (decide (g.Diffs.length≤20∧g.Equals.length≤20)):=by
    unfold ref14_goodGuard_k1
    by_cases c1:(g.Diffs.length:Int)≤20
    ·rw [dT c1,cT]
     congr 1
     rw [decide_eq_decide];omega
    ·rw [dF c1,dF (show ¬ (g.Diffs.length≤20∧g.Equals.length≤20) by omega)];rfl
   rw [hk1]
   cases allV (fun d _=>decide (diffOk ((flat l).length:Int) d)) g.Diffs 0<;>cases allV (fun e _=>textV (flat l) e.1 && textV (flat l) e.2) g.Equals 0<;>cases decide (g.Diffs.length≤20∧g.Equals.length≤20)<;>rfl
  ·intro n k x hk hx
   simp only [ref14_goodGuard_l2,lt_t hk,cT,idx_nat,hx,bS,text_eq hN l hl hd,w64_succ (show k < 4611686018427387904 by omega)]
   cases textV (flat l) x.1<;>cases textV (flat l) x.2<;>rfl
  ·intro n k hk
   simp only [ref14_goodGuard_l2,lt_f hk,cond_false]
 ·intro n k x hk hx
  simp only [ref14_goodGuard_l4,lt_t hk,idx_nat,hx,cT,bS,w64_succ (show k < 4611686018427387904 by omega)]
  by_cases d1:x.X < -1
  ·rw [dT d1,dF (show ¬ diffOk ((flat l).length:Int) x by unfold diffOk;omega)];rfl
  by_cases d2:x.X≥((flat l).length:Int)
  ·rw [dF d1,dT d2,dF (show ¬ diffOk ((flat l).length:Int) x by unfold diffOk;omega)];rfl
  by_cases d3:x.Y < -1
  ·rw [dF d1,dF d2,dT d3,dF (show ¬ diffOk ((flat l).length:Int) x by unfold diffOk;omega)];rfl
  by_cases d4:x.Y≥((flat l).length:Int)
  ·rw [dF d1,dF d2,dF d3,dT d4,dF (show ¬ diffOk ((flat l).length:Int) x by unfold diffOk;omega)];rfl
  by_cases d5:x.C < -20000
  ·rw [dF d1,dF d2,dF d3,dF d4,dT d5,dF (show ¬ diffOk ((flat l).length:Int) x by unfold diffOk;omega)];rfl
  by_cases d6:x.C > 20000
  ·rw [dF d1,dF d2,dF d3,dF d4,dF d5,dT d6,dF (show ¬ diffOk ((flat l).length:Int) x by unfold diffOk;omega)];rfl
  rw [dF d1,dF d2,dF d3,dF d4,dF d5,dF d6,dT (show diffOk ((flat l).length:Int) x by unfold diffOk;omega)];rfl
 ·intro n k hk
  simp only [ref14_goodGuard_l4,lt_f hk,cond_false]
def sortOk (s:T10):Prop:=(s.Kind=1∧-1000≤s.Lo∧s.Lo≤s.Hi∧s.Hi≤1000)∨(s.Kind=2∧0≤s.Lo∧s.Lo≤s.Hi∧s.Hi≤40)
instance (s:T10):Decidable (sortOk s):=by unfold sortOk;infer_instance
theorem three (a b c:Prop) [Decidable a] [Decidable b] [Decidable c]:(bif decide a then (bif decide b then some (decide c) else some false) else some false)=some (decide (a∧b∧c)):=by
 by_cases ha:a<;>by_cases hb:b<;>simp [ha,hb]
theorem sorted_eq (s:T10):z147 N s=some (decide (sortOk s)):=by
 unfold z147
 rw [three,three]
 by_cases h1:s.Kind=1
 ·rw [show (s.Kind==1)=true by simp [h1],cT];congr 1;rw [decide_eq_decide];unfold sortOk;omega
 ·rw [show (s.Kind==1)=false by simp [h1],cond_false]
  by_cases h2:s.Kind=2
  ·rw [show (s.Kind==2)=true by simp [h2],cT];congr 1;rw [decide_eq_decide];unfold sortOk;omega
  ·rw [show (s.Kind==2)=false by simp [h2],cond_false,dF (show ¬ sortOk s by unfold sortOk;omega)]
theorem goodSort_eq (s:T10):ref14_goodSort N s=some (decide (sortOk s)):=by
 unfold ref14_goodSort ref14_goodSort_k1
 rw [three,three]
 by_cases h1:s.Kind=1
 ·rw [show (s.Kind==1)=true by simp [h1],show (s.Kind==2)=false by simp [h1]];simp only [cT,cond_false];congr 1;rw [decide_eq_decide];unfold sortOk;omega
 ·rw [show (s.Kind==1)=false by simp [h1]]
  by_cases h2:s.Kind=2
  ·rw [show (s.Kind==2)=true by simp [h2]];simp only [cT,cond_false];congr 1;rw [decide_eq_decide];unfold sortOk;omega
  ·rw [show (s.Kind==2)=false by simp [h2]];simp only [cond_false];rw [dF (show ¬ sortOk s by unfold sortOk;omega)]
end Gp
end
section
namespace Gp
open Go Go.Kx Gx
variable {N:Nat}
structure NameD (x:T0):Prop where
 n:x.Name.size≤4000000
 f:∀ f∈x.Fields,f.Name.size≤4000000
def fieldV (x:T0) (f:T4) (j:Nat):Bool:=isWord f.Name && (decide (sortOk f.Sort') && !((x.Fields.take j).any fun y=>eqStr y.Name f.Name))
def declV (fl:List T4) (l:List T0) (x:T0) (k:Nat):Bool :=
 pathV x.Name && (decide (x.Fields.length≤4) && (decide (x.First=((flat (l.take k)).length:Int)) && (!((l.take k).any fun y=>eqStr y.Name x.Name) && (allV (fieldV x) x.Fields 0 && guardV fl x.Guard))))
def validD (l:List T0):Bool:=decide (l.length≤40) && (decide ((flat l).length≤24) && allV (declV (flat l) l) l 0)
theorem containsD_eq (hN:4194304 < N) (l:List T0) (hl:l.length≤4194304) (x:T0):z144_4 N l x=some (l.any fun y=>eqStr y.Name x.Name):=by
 unfold z144_4 z219_3
 rw [look l hl (fun y k r=>bif eqStr y.Name x.Name then some k else r) (z219_3_l2 N l x) (some (-1)) hN]
 ·obtain ⟨i,h1,h2⟩:=whereV_any (fun y:T0=>eqStr y.Name x.Name) l 0
  rw [h1,bS,h2]
 ·intro n k y hk hy
  simp only [z219_3_l2,lt_t hk,idx_nat,hy,cT,bS,z145_2,eqStr]
 ·intro n k hk
  simp only [z219_3_l2,lt_f hk,cond_false,z219_3_k1]
theorem containsF_eq (hN:4194304 < N) (l:List T4) (hl:l.length≤4194304) (x:T4):z148_7 N l x=some (l.any fun y=>eqStr y.Name x.Name):=by
 unfold z148_7 z222_6
 rw [look l hl (fun y k r=>bif eqStr y.Name x.Name then some k else r) (z222_6_l2 N l x) (some (-1)) hN]
 ·obtain ⟨i,h1,h2⟩:=whereV_any (fun y:T4=>eqStr y.Name x.Name) l 0
  rw [h1,bS,h2]
 ·intro n k y hk hy
  simp only [z222_6_l2,lt_t hk,idx_nat,hy,cT,bS,z149_5,eqStr]
 ·intro n k hk
  simp only [z222_6_l2,lt_f hk,cond_false,z222_6_k1]
theorem flat_next {l:List T0} {k:Nat} {x:T0} (h:l[k]? = some x):(flat (l.take (k+1))).length=(flat (l.take k)).length+x.Fields.length:=by
 rw [List.take_add_one,h]
 show (flat (l.take k++[x])).length=_
 rw [flat_app,lA];simp [flat]
theorem flat_take_le (l:List T0) (k:Nat):(flat (l.take k)).length≤(flat l).length:=by
 have:flat l=flat (l.take k)++flat (l.drop k):=by rw [← flat_app,List.take_append_drop]
 rw [this,lA];omega
theorem valid_eq (hN:4194304 < N) (l:List T0) (hl:l.length≤4194304) (hd:∀ d∈l,SizeD d) (hn:∀ d∈l,NameD d):z71 N l=some (validD l):=by
 unfold z71 validD
 by_cases c1:(l.length:Int) > 40
 ·rw [dT c1,dF (show ¬ l.length≤40 by omega)];rfl
 rw [dF c1,dT (show l.length≤40 by omega),fields_eq hN l (by omega) hd]
 simp only [cond_false,bS,Bool.true_and]
 by_cases c2:((flat l).length:Int) > 24
 ·rw [dT c2,dF (show ¬ (flat l).length≤24 by omega)];rfl
 rw [dF c2,dT (show (flat l).length≤24 by omega)]
 simp only [cond_false,Bool.true_and]
 have hfl:=flat_le l hd
 have h:=allV_from (declV (flat l) l) (xs:=l) (F:=fun n i=>z71_l2 N l (flat l) n ((flat (l.take i.toNat)).length:Int) i) (e:=some true) (n:=N) (by omega) (by
  intro n k x hk hx
  show z71_l2 N l (flat l) (n+1) ((flat (l.take k)).length:Int) (k:Int)=bif declV (flat l) l x k then z71_l2 N l (flat l) n ((flat (l.take (k+1))).length:Int) ((k+1:Nat):Int) else some false
  have hxm:x∈l:=List.mem_of_getElem? hx
  have sx:=hd x hxm
  have nx:=hn x hxm
  have ht:lsl l none (some (k:Int))=some (l.take k):=lsl_to (A:=l.take k) (B:=l.drop k) (List.take_append_drop k l).symm (by simp;omega)
  have hft:=flat_take_le l k
  have hnext:w64 (((flat (l.take k)).length:Int)+(x.Fields.length:Int))=((flat (l.take (k+1))).length:Int):=by rw [flat_next hx,w64_id (by have:=sx.f;omega) (by have:=sx.f;omega)];omega
  have inner:z71_l4 N (flat l) ((flat (l.take k)).length:Int) (k:Int) (z71_l2 N l (flat l) n) x N (0:Int)=bif allV (fieldV x) x.Fields 0 then z71_k3 N (flat l) ((flat (l.take k)).length:Int) (k:Int) (z71_l2 N l (flat l) n) x else some false:=by
   refine allV_from (fieldV x) (by have:=sx.f;omega) ?_ ?_
   ·intro m j f hj hf
    have sf:=sx.f
    have hw:=(word_eq hN f.Name (by have:=nx.f f (List.mem_of_getElem? hf);omega)).1
    have ht':lsl x.Fields none (some (j:Int))=some (x.Fields.take j):=lsl_to (A:=x.Fields.take j) (B:=x.Fields.drop j) (List.take_append_drop j _).symm (by simp;omega)
    have hc:=containsF_eq hN (x.Fields.take j) (by simp;omega) f
    simp only [z71_l4,lt_t hj,cT,idx_nat,hf,bS,hw,sorted_eq,ht',hc,fieldV]
    rw [w64_succ (by omega)]
    cases isWord f.Name<;>cases decide (sortOk f.Sort')<;>cases ((x.Fields.take j).any fun y=>eqStr y.Name f.Name)<;>rfl
   ·intro m j hj
    simp only [z71_l4,lt_f hj,cond_false]
  have hc:=containsD_eq hN (l.take k) (by simp;omega) x
  simp only [z71_l2,lt_t hk,cT,idx_nat,hx,bS,path_eq hN,ht,hc,inner,z71_k3,guarded_eq hN,declV,hnext]
  rw [w64_succ (by omega)]
  have e1:decide ((x.Fields.length:Int) > 4) = !decide (x.Fields.length≤4):=by
   by_cases q:x.Fields.length≤4
   ·rw [dT q,dF (by omega)];rfl
   ·rw [dF q,dT (by omega)];rfl
  have e2:(x.First != ((flat (l.take k)).length:Int)) = !decide (x.First=((flat (l.take k)).length:Int)):=by
   by_cases q:x.First=((flat (l.take k)).length:Int)
   ·rw [dT q];simp [q]
   ·rw [dF q];simp [q]
  rw [e1,e2]
  cases pathV x.Name<;>cases decide (x.Fields.length≤4)<;>cases decide (x.First=((flat (l.take k)).length:Int))<;>cases ((l.take k).any fun y=>eqStr y.Name x.Name)<;>cases allV (fieldV x) x.Fields 0<;>cases guardV (flat l) x.Guard<;>rfl) (by
  intro n k hk
  show z71_l2 N l (flat l) (n+1) ((flat (l.take k)).length:Int) (k:Int)=some true
  simp only [z71_l2,lt_f hk,cond_false,z71_k1])
 have h':z71_l2 N l (flat l) N (0:Int) (0:Int)=bif allV (declV (flat l) l) l 0 then some true else some false:=h
 rw [h']
 cases allV (declV (flat l) l) l 0<;>rfl
theorem allV_not_any {α:Type} (f:α→Bool):∀ (l:List α) (k:Nat),allV (fun y _ => !f y) l k = !(l.any f)
 | [],_=>rfl
 | x::l,k=>by
  show (!f x && allV _ l (k+1))=_
  rw [allV_not_any f l,List.any_cons]
  cases f x<;>rfl
theorem take_get {α:Type} {l:List α} {k i:Nat} {x:α} (h:(l.take k)[i]? = some x):l[i]? = some x∧i < k:=by
 rw [List.getElem?_take] at h
 split at h
 ·exact ⟨h,by assumption⟩
 ·cases h
theorem refValid_eq (hN:4194304 < N) (l:List T0) (hl:l.length≤4194304) (hd:∀ d∈l,SizeD d) (hn:∀ d∈l,NameD d):ref14_Valid N l=some (validD l):=by
 unfold ref14_Valid validD
 by_cases c1:(l.length:Int) > 40
 ·rw [dT c1,dF (show ¬ l.length≤40 by omega)];rfl
 rw [dF c1,dT (show l.length≤40 by omega),vars_eq hN l (by omega) hd]
 simp only [cond_false,bS,Bool.true_and]
 by_cases c2:((flat l).length:Int) > 24
 ·rw [dT c2,dF (show ¬ (flat l).length≤24 by omega)];rfl
 rw [dF c2,dT (show (flat l).length≤24 by omega)]
 simp only [cond_false,Bool.true_and]
 have hfl:=flat_le l hd
 have h:=allV_from (declV (flat l) l) (xs:=l) (F:=fun n i=>ref14_Valid_l2 N l n ((flat (l.take i.toNat)).length:Int) i) (e:=some true) (n:=N) (by omega) (by
  intro n k x hk hx
  show ref14_Valid_l2 N l (n+1) ((flat (l.take k)).length:Int) (k:Int)=bif declV (flat l) l x k then ref14_Valid_l2 N l n ((flat (l.take (k+1))).length:Int) ((k+1:Nat):Int) else some false
  have hxm:x∈l:=List.mem_of_getElem? hx
  have sx:=hd x hxm
  have nx:=hn x hxm
  have hft:=flat_take_le l k
  have hnext:w64 (((flat (l.take k)).length:Int)+(x.Fields.length:Int))=((flat (l.take (k+1))).length:Int):=by rw [flat_next hx,w64_id (by have:=sx.f;omega) (by have:=sx.f;omega)];omega
  have inner8:ref14_Valid_l8 N l ((flat (l.take k)).length:Int) (k:Int) (ref14_Valid_l2 N l n) x N (0:Int)=bif allV (fun y _ => !eqStr y.Name x.Name) (l.take k) 0 then ref14_Valid_k7 N l ((flat (l.take k)).length:Int) (k:Int) (ref14_Valid_l2 N l n) x else some false:=by
   refine allV_from (fun (y:T0) _ => !eqStr y.Name x.Name) (by simp;omega) ?_ ?_
   ·intro m j y hj hy
    obtain ⟨hy',hjk⟩:=take_get hy
    simp only [ref14_Valid_l8,lt_t hjk,cT,idx_nat,hy',bS,eqStr]
    rw [w64_succ (by omega)]
    cases (y.Name.toList==x.Name.toList)<;>rfl
   ·intro m j hj
    have:k≤j:=by simp at hj;omega
    simp only [ref14_Valid_l8,lt_f this,cond_false]
  have inner4:ref14_Valid_l4 N l ((flat (l.take k)).length:Int) (k:Int) (ref14_Valid_l2 N l n) x N (0:Int)=bif allV (fieldV x) x.Fields 0 then ref14_Valid_k3 N l ((flat (l.take k)).length:Int) (k:Int) (ref14_Valid_l2 N l n) x else some false:=by
   refine allV_from (fieldV x) (by have:=sx.f;omega) ?_ ?_
   ·intro m j f hj hf
    have sf:=sx.f
    have hw:=(word_eq hN f.Name (by have:=nx.f f (List.mem_of_getElem? hf);omega)).2
    have inner6:ref14_Valid_l6 x (j:Int) (ref14_Valid_l4 N l ((flat (l.take k)).length:Int) (k:Int) (ref14_Valid_l2 N l n) x m) N (0:Int)=bif allV (fun y _ => !eqStr y.Name f.Name) (x.Fields.take j) 0 then ref14_Valid_k5 (j:Int) (ref14_Valid_l4 N l ((flat (l.take k)).length:Int) (k:Int) (ref14_Valid_l2 N l n) x m) else some false:=by
     refine allV_from (fun (y:T4) _ => !eqStr y.Name f.Name) (by simp;omega) ?_ ?_
     ·intro p i y hi hy
      obtain ⟨hy',hij⟩:=take_get hy
      simp only [ref14_Valid_l6,lt_t hij,cT,idx_nat,hy',hf,bS,eqStr]
      rw [w64_succ (by omega)]
      cases (y.Name.toList==f.Name.toList)<;>rfl
     ·intro p i hi
      have:j≤i:=by simp at hi;omega
      simp only [ref14_Valid_l6,lt_f this,cond_false]
    simp only [ref14_Valid_l4,lt_t hj,cT,idx_nat,hf,bS,hw,goodSort_eq,inner6,fieldV,ref14_Valid_k5,allV_not_any]
    rw [w64_succ (by omega)]
    cases isWord f.Name<;>cases decide (sortOk f.Sort')<;>cases ((x.Fields.take j).any fun y=>eqStr y.Name f.Name)<;>rfl
   ·intro m j hj
    simp only [ref14_Valid_l4,lt_f hj,cond_false]
  have hg:=goodGuard_eq hN l (by omega) hd x.Guard sx.d sx.e
  simp only [ref14_Valid_l2,lt_t hk,cT,idx_nat,hx,bS,inner8,inner4,ref14_Valid_k7,ref14_Valid_k3,refPath_eq hN x.Name nx.n,hg,declV,hnext,allV_not_any]
  rw [w64_succ (by omega)]
  have e1:decide ((x.Fields.length:Int) > 4) = !decide (x.Fields.length≤4):=by
   by_cases q:x.Fields.length≤4
   ·rw [dT q,dF (by omega)];rfl
   ·rw [dF q,dT (by omega)];rfl
  have e2:(x.First != ((flat (l.take k)).length:Int)) = !decide (x.First=((flat (l.take k)).length:Int)):=by
   by_cases q:x.First=((flat (l.take k)).length:Int)
   ·rw [dT q];simp [q]
   ·rw [dF q];simp [q]
  rw [e1,e2]
  cases pathV x.Name<;>cases decide (x.Fields.length≤4)<;>cases decide (x.First=((flat (l.take k)).length:Int))<;>cases ((l.take k).any fun y=>eqStr y.Name x.Name)<;>cases allV (fieldV x) x.Fields 0<;>cases guardV (flat l) x.Guard<;>rfl) (by
  intro n k hk
  show ref14_Valid_l2 N l (n+1) ((flat (l.take k)).length:Int) (k:Int)=some true
  simp only [ref14_Valid_l2,lt_f hk,cond_false,ref14_Valid_k1])
 have h':ref14_Valid_l2 N l N (0:Int) (0:Int)=bif allV (declV (flat l) l) l 0 then some true else some false:=h
 rw [h']
 cases allV (declV (flat l) l) l 0<;>rfl
end Gp
end
section
namespace Gp
open Go Go.Kx Gx
variable {N:Nat}
theorem Dist.le {E:List (Int × Int)} {S:Nat} {e:Int} {L M:List Int} (hL:Dist E S e L) (hM:Dist E S e M):∀ (k:Nat) (v:Int),idx L v=some (k:Int)→∃ m,idx M v=some m∧0≤m∧m≤(k:Int):=by
 intro k
 induction k with
 | zero =>
  intro v hv
  have:=hL.zero v hv
  subst this
  exact ⟨0,hM.root,by omega,by omega⟩
 | succ k ih =>
  intro v hv
  obtain ⟨u,hu,hl⟩:=hL.pred v _ hv (by omega)
  obtain ⟨m,m1,m2,m3⟩:=ih u (by rw [hl];congr 1;omega)
  obtain ⟨d,d1,d2,d3⟩:=hM.succ u v m hu m1 m2
  exact ⟨d,d1,d2,by omega⟩
theorem Dist.uniq {E:List (Int × Int)} {S:Nat} {e:Int} {L M:List Int} (hL:Dist E S e L) (hM:Dist E S e M):L=M:=by
 refine List.ext_getElem? fun i=>?_
 by_cases hi:i < S
 ·obtain ⟨d,hd⟩:=idx_lt (L:=L) (v:=(i:Int)) (by omega) (by rw [hL.len];omega)
  obtain ⟨m,hm⟩:=idx_lt (L:=M) (v:=(i:Int)) (by omega) (by rw [hM.len];omega)
  have a:=(hL.lo _ _ hd).1
  have b:=(hM.lo _ _ hm).1
  have one:0≤d→0≤m∧m≤d:=by
   intro h
   obtain ⟨x,x1,x2,x3⟩:=hL.le hM d.toNat (i:Int) (by rw [hd];congr 1;omega)
   rw [hm] at x1;cases x1;exact ⟨x2,by omega⟩
  have two:0≤m→0≤d∧d≤m:=by
   intro h
   obtain ⟨x,x1,x2,x3⟩:=hM.le hL m.toNat (i:Int) (by rw [hm];congr 1;omega)
   rw [hd] at x1;cases x1;exact ⟨x2,by omega⟩
  rw [idx_nat] at hd hm
  rw [hd,hm]
  congr 1
  by_cases h:0≤d
  ·have:=one h;have:=two this.1;omega
  ·by_cases h':0≤m
   ·have:=two h';omega
   ·omega
 ·rw [List.getElem?_eq_none (by rw [hL.len];omega),List.getElem?_eq_none (by rw [hM.len];omega)]
structure SizeN (g:T5):Prop where
 n:g.Name.size≤4000000
 r:∀ s∈g.Roles,s.size≤4000000
 d:∀ x∈g.Decls,NameD x
def roleV (g:T5) (s:ByteArray) (i:Nat):Bool:=isWord s && !((g.Roles.take i).any fun y=>eqStr y s)
def namedV (g:T5):Bool:=isWord g.Name && (decide (1≤g.Roles.length∧g.Roles.length≤6) && allV (roleV g) g.Roles 0)
theorem named_eq (hN:4194304 < N) (g:T5) (hg:SizeG g) (hs:SizeN g):z208 N g=some (namedV g):=by
 unfold z208 namedV
 rw [(word_eq hN g.Name (by have:=hs.n;omega)).1]
 have hr:=hg.r
 rw [allV_from (roleV g) (xs:=g.Roles) (F:=z208_l2 N g) (e:=some true) (by omega)]
 ·simp only [bS]
  by_cases c1:(g.Roles.length:Int) < 1
  ·rw [dT c1,dF (show ¬ (1≤g.Roles.length∧g.Roles.length≤6) by omega)];cases isWord g.Name<;>rfl
  by_cases c2:(g.Roles.length:Int) > 6
  ·rw [dF c1,dT c2,dF (show ¬ (1≤g.Roles.length∧g.Roles.length≤6) by omega)];cases isWord g.Name<;>rfl
  rw [dF c1,dF c2,dT (show 1≤g.Roles.length∧g.Roles.length≤6 by omega)]
  cases isWord g.Name<;>cases allV (roleV g) g.Roles 0<;>rfl
 ·intro n k x hk hx
  have hw:=(word_eq hN x (by have:=hs.r x (List.mem_of_getElem? hx);omega)).1
  have ht:lsl g.Roles none (some (k:Int))=some (g.Roles.take k):=lsl_to (A:=g.Roles.take k) (B:=g.Roles.drop k) (List.take_append_drop k _).symm (by simp;omega)
  have hc:=contains_eq hN (g.Roles.take k) (by simp;omega) x
  simp only [z208_l2,lt_t hk,cT,idx_nat,hx,bS,hw,ht,hc,roleV]
  rw [w64_succ (by omega)]
  cases isWord x<;>cases ((g.Roles.take k).any fun y=>eqStr y x)<;>rfl
 ·intro n k hk
  simp only [z208_l2,lt_f hk,cond_false,z208_k1]
theorem first_before {α:Type} (f:α→Bool):∀ (l:List α) (k i:Nat) (x:α),l[i]? = some x→f x=true→∃ j,lv (fun x (k:Nat) r=>bif f x then some (k:Int) else r) (some (-1)) l k=some j∧decide (j < ((k+i:Nat):Int))=(l.take i).any f
 | [],k,i,x,h,_=>by simp at h
 | y::l,k,i,x,h,hf=>by
  show ∃ j,(bif f y then some (k:Int) else lv _ _ l (k+1))=some j∧_
  cases i with
  | zero =>
   simp at h;subst h
   rw [hf]
   exact ⟨k,rfl,by simp⟩
  | succ i =>
   rw [List.take_succ_cons,List.any_cons]
   cases hy:f y
   ·obtain ⟨j,j1,j2⟩:=first_before f l (k+1) i x (by simpa using h) hf
    exact ⟨j,j1,by rw [show k+(i+1)=k+1+i by omega,j2];rfl⟩
   ·exact ⟨k,rfl,by simp;omega⟩
theorem names_eq (hN:4194304 < N) (g:T5) (hg:SizeG g) (hs:SizeN g):ref18_names N g=some (namedV g && validD g.Decls):=by
 unfold ref18_names namedV
 have hr:=hg.r
 rw [allV_from (roleV g) (xs:=g.Roles) (F:=ref18_names_l2 N g) (e:=ref18_names_k1 N g) (by omega)]
 ·unfold ref18_names_k1
  rw [(word_eq hN g.Name (by have:=hs.n;omega)).2,refValid_eq hN g.Decls hg.d hg.dd hs.d]
  simp only [bS]
  by_cases c1:(g.Roles.length:Int)≥1
  ·by_cases c2:(g.Roles.length:Int)≤6
   ·rw [dT c1,dT c2,dT (show 1≤g.Roles.length∧g.Roles.length≤6 by omega)]
    cases isWord g.Name<;>cases allV (roleV g) g.Roles 0<;>rfl
   ·rw [dT c1,dF c2,dF (show ¬ (1≤g.Roles.length∧g.Roles.length≤6) by omega)]
    cases isWord g.Name<;>cases allV (roleV g) g.Roles 0<;>rfl
  ·rw [dF c1,dF (show ¬ (1≤g.Roles.length∧g.Roles.length≤6) by omega)]
   cases isWord g.Name<;>cases allV (roleV g) g.Roles 0<;>rfl
 ·intro n k x hk hx
  have hw:=(word_eq hN x (by have:=hs.r x (List.mem_of_getElem? hx);omega)).2
  obtain ⟨j,j1,j2⟩:=first_before (fun y=>eqStr y x) g.Roles 0 k x hx (eqStr_refl x)
  have hi:ref18_index N g.Roles x=some j:=by rw [refIndex_eq hN g.Roles hr];exact j1
  rw [Nat.zero_add] at j2
  simp only [ref18_names_l2,lt_t hk,cT,idx_nat,hx,bS,hw,hi,j2,roleV]
  rw [w64_succ (by omega)]
  cases isWord x<;>cases ((g.Roles.take k).any fun y=>eqStr y x)<;>rfl
 ·intro n k hk
  simp only [ref18_names_l2,lt_f hk,cond_false]
theorem bounds_l2 (d:T0) (hd:d.Guard.Equals.length≤4194304):∀ (l:List (Int × Int)) (k n:Nat) (acc:List T1),d.Guard.Equals.drop k=l→l.length < n→acc.length+2 * l.length≤4294967296→∃ r,z72_l2 d n acc (k:Int)=some r:=by
 intro l
 induction l with
 | nil =>
  intro k n acc h hn _
  obtain ⟨n,rfl⟩:∃ m,n=m+1:=⟨n-1,by simp at hn;omega⟩
  exact ⟨acc,by simp only [z72_l2,lt_f (drop_nil h),cond_false,z72_k1]⟩
 | cons x l ih =>
  intro k n acc h hn ha
  obtain ⟨n,rfl⟩:∃ m,n=m+1:=⟨n-1,by simp at hn;omega⟩
  obtain ⟨a,c,e⟩:=drop_cons h
  simp only [List.length_cons] at ha hn
  simp only [z72_l2,lt_t a,cT,idx_nat,c,bS]
  rw [appL_some (by simp;omega),bS,w64_succ (by omega)]
  exact ih (k+1) n _ e (by omega) (by simp;omega)
theorem bounds_l4 (hN:4194304 < N) (d:T0) (hd:SizeD d):∀ (l:List T4) (k n:Nat) (acc:List T1),d.Fields.drop k=l→l.length < n→acc.length+2 * l.length≤16777216→∃ r,z72_l4 N d n acc (k:Int)=some r:=by
 intro l
 have h1:=hd.f
 have h2:=hd.d
 have h3:=hd.e
 induction l with
 | nil =>
  intro k n acc h hn ha
  obtain ⟨n,rfl⟩:∃ m,n=m+1:=⟨n-1,by simp at hn;omega⟩
  simp only [z72_l4,lt_f (drop_nil h),cond_false,z72_k3]
  simp at ha
  rw [appL_some (by omega),bS]
  exact bounds_l2 d h3 d.Guard.Equals 0 N _ rfl (by omega) (by simp;omega)
 | cons x l ih =>
  intro k n acc h hn ha
  obtain ⟨n,rfl⟩:∃ m,n=m+1:=⟨n-1,by simp at hn;omega⟩
  obtain ⟨a,c,e⟩:=drop_cons h
  simp only [List.length_cons] at ha hn
  simp only [z72_l4,lt_t a,cT,idx_nat,c,bS]
  rw [appL_some (by simp;omega),bS,w64_succ (by omega)]
  exact ih (k+1) n _ e (by omega) (by simp;omega)
theorem declared_eq (hN:4194304 < N) (l:List T0) (hl:l.length≤4194304) (hd:∀ d∈l,SizeD d) (hn:∀ d∈l,NameD d):z210 N l=some (validD l):=by
 unfold z210
 cases l with
 | nil=>rfl
 | cons x l =>
  have h0:(((x::l).length:Int)==0)=false:=by simp;omega
  have h1:decide ((0:Int) < 0)=false:=rfl
  have h2:decide ((0:Int)≥((x::l).length:Int))=false:=by simp
  have e0:idx (x::l) (0:Int)=some x:=by rw [show (0:Int)=((0:Nat):Int) from rfl,idx_nat];rfl
  have hb:∃ r,z72 N x=some r:=bounds_l4 hN x (hd x (by simp)) x.Fields 0 N [] rfl (by have:=(hd x (by simp)).f;omega) (by have:=(hd x (by simp)).f;simp;omega)
  obtain ⟨r,hr⟩:=hb
  unfold z37
  rw [h0,h1,h2,valid_eq hN (x::l) hl hd hn,e0]
  simp only [cond_false,bS,hr]
  cases validD (x::l)<;>rfl
structure ValidG (g:T5):Prop where
 named:namedV g=true
 num:numV g=true
 decls:validD g.Decls=true
 apart:apartV g=true
 noEnd:(g.Edges.all fun x => !(x.From==g.End))=true
 time:timeV g=true
 reach:∃ F,Dist (ers g false) g.States.toNat g.Start F∧posV F=true
 ends:∃ L,Dist (ers g true) g.States.toNat g.End L∧posV L=true
theorem Valid_both (hN:4194304 < N) (g:T5) (hg:SizeG g) (hs:SizeN g) (hn:NumE g):∃ b,z133 N g=some b∧ref18_Valid N g=some b∧(b=true↔ValidG g):=by
 unfold z133 ref18_Valid
 rw [named_eq hN g hg hs,numbered_eq hN g hg.e,declared_eq hN g.Decls hg.d hg.dd hs.d,ordered_eq hN g hg.e,timed_eq hN g hg.t,names_eq hN g hg hs,numbers_eq hN g hg.e,apart_eq hN g hg.e]
 simp only [bS]
 cases h1:namedV g
 ·exact ⟨false,by simp,by simp,by simp;intro h;have:=h.named;rw [h1] at this;cases this⟩
 cases h2:numV g
 ·refine ⟨false,by simp,?_,by simp;intro h;have:=h.num;rw [h2] at this;cases this⟩
  cases validD g.Decls<;>rfl
 cases h3:validD g.Decls
 ·exact ⟨false,by simp,by simp,by simp;intro h;have:=h.decls;rw [h3] at this;cases this⟩
 rw [orderV_eq]
 obtain ⟨o1,o2,o3,o4,o5,o6,o7⟩:=numV_head h2
 obtain ⟨F,f1,f2⟩:=spread_eq hN g h2 false g.Start o3 o4
 obtain ⟨L,l1,l2⟩:=spread_eq hN g h2 true g.End o5 o6
 rw [f1,l1,connected_eq hN g h2 hn l2 f2,refTimed_eq hN g hg.t h2]
 have cF:=containsInt_eq hN F (by rw [f2.len];omega) (-1)
 have cL:=containsInt_eq hN L (by rw [l2.len];omega) (-1)
 have pF:(F.any fun d=>d==-1) = !posV F:=by unfold posV;rw [Bool.not_not]
 have pL:(L.any fun d=>d==-1) = !posV L:=by unfold posV;rw [Bool.not_not]
 rw [pF] at cF
 rw [pL] at cL
 simp only [bS,cF,cL]
 cases h4:apartV g
 ·exact ⟨false,by simp,by simp,by simp;intro h;have:=h.apart;rw [h4] at this;cases this⟩
 cases h5:(g.Edges.all fun x => !(x.From==g.End))
 ·refine ⟨false,by simp,?_,?_⟩
  ·cases posV F<;>cases posV L<;>rfl
  ·simp only [Bool.false_eq_true,false_iff]
   intro h;have:=h.noEnd;rw [h5] at this;cases this
 cases h6:timeV g
 ·refine ⟨false,by simp,?_,?_⟩
  ·cases posV F<;>cases posV L<;>rfl
  ·simp only [Bool.false_eq_true,false_iff]
   intro h;have:=h.time;rw [h6] at this;cases this
 cases h7:posV F
 ·refine ⟨false,by simp,by simp,?_⟩
  simp only [Bool.false_eq_true,false_iff]
  intro h
  obtain ⟨F',a,b⟩:=h.reach
  rw [a.uniq f2,h7] at b;cases b
 cases h8:posV L
 ·refine ⟨false,by simp,by simp,?_⟩
  simp only [Bool.false_eq_true,false_iff]
  intro h
  obtain ⟨L',a,b⟩:=h.ends
  rw [a.uniq l2,h8] at b;cases b
 exact ⟨true,by simp,by simp,by simp;exact ⟨h1,h2,h3,h4,h5,h6,⟨F,f2,h7⟩,⟨L,l2,h8⟩⟩⟩
end Gp
end
section
namespace Gp
open Go Go.Kx Gx
variable {N:Nat}
theorem few_loop (l:List T0) (hl:l.length≤4194304):∀ (r:List T0) (n k:Nat) (a:Int),l.drop k=r→r.length < n→∃ b,z62_l2 l n a (k:Int)=some b∧(b=true→l.length≤60):=by
 intro r
 induction r with
 | nil =>
  intro n k a h hn
  obtain ⟨n,rfl⟩:∃ m,n=m+1:=⟨n-1,by simp at hn;omega⟩
  unfold z62_l2
  rw [lt_f (drop_nil h)]
  simp only [cond_false,z62_k1]
  by_cases h1:l.length≤60
  ·have:decide ((l.length:Int)≤60)=true:=by simp;omega
   rw [this]
   exact ⟨_,rfl,fun _=>h1⟩
  ·have:decide ((l.length:Int)≤60)=false:=by simp;omega
   rw [this]
   exact ⟨false,rfl,fun h=>by cases h⟩
 | cons x r ih =>
  intro n k a h hn
  obtain ⟨n,rfl⟩:∃ m,n=m+1:=⟨n-1,by simp at hn;omega⟩
  obtain ⟨h1,h2,h3⟩:=drop_cons h
  unfold z62_l2
  rw [lt_t h1,w64_succ (by omega)]
  simp only [cT,idx_nat,h2,bS]
  exact ih n (k+1) _ h3 (by simp at hn;omega)
end Gp
end
section
namespace Gp
open Go Go.Kx Gx
variable {N:Nat}
def badB (b:UInt8):Bool:=decide (b.toNat < 32) || decide (126 < b.toNat)
def vnum (v:T12):Int:=bif v.Kind==2 then (v.S.size:Int) else v.N
def fitsV (s:T10) (v:T12):Bool :=
 v.Kind==s.Kind && (decide (s.Lo≤vnum v) && (decide (vnum v≤s.Hi) && (bif v.Kind==1 then v.S.toList==(str []).toList else v.N==0 && !((bs v.S).any badB))))
theorem get_bs (s:ByteArray) (i:Nat) (h:i < (bs s).length):s.get! i=(bs s)[i]:=by
 have h':i < s.data.size:=by simpa [bs] using h
 show s.data[i]! = _
 rw [getElem!_pos s.data i h']
 simp [bs]
theorem decode_lo (s:ByteArray) (i:Nat) (b:UInt8) (h:(bs s)[i]? = some b) (hb:b.toNat < 128):Utf8.decode s i=(b.toNat,1):=by
 obtain ⟨hi,he⟩:=List.getElem?_eq_some_iff.1 h
 have h0:s.get! (i+0)=b:=by rw [Nat.add_zero,get_bs s i hi,he]
 unfold Utf8.decode
 simp only [h0,hb,if_true]
theorem decode_hi (s:ByteArray) (i:Nat) (b:UInt8) (h:(bs s)[i]? = some b) (hb:¬ b.toNat < 128):126 < (Utf8.decode s i).1:=by
 obtain ⟨hi,he⟩:=List.getElem?_eq_some_iff.1 h
 have h0:s.get! (i+0)=b:=by rw [Nat.add_zero,get_bs s i hi,he]
 unfold Utf8.decode Utf8.runeError
 simp only [h0,hb,if_false]
 split
 ·split
  ·simp only [];omega
  ·simp only [];omega
 ·split
  ·split
   ·rename_i hc
    simp only [Bool.and_eq_true,decide_eq_true_eq] at hc
    have:=hc.1
    simp only [] at *;omega
   ·simp only [];omega
  ·split
   ·split
    ·rename_i hc
     simp only [Bool.and_eq_true,decide_eq_true_eq] at hc
     have:=hc.1
     simp only [] at *;omega
    ·simp only [];omega
   ·simp only [];omega
theorem runes_loop (s:ByteArray):∀ (r:List UInt8) (n i:Nat),(bs s).drop i=r→r.length < n→∃ z,z294_21_l2 N s true n i=some z∧decide (z≥0)=r.any badB:=by
 intro r
 induction r with
 | nil =>
  intro n i h hn
  obtain ⟨n,rfl⟩:∃ m,n=m+1:=⟨n-1,by simp at hn;omega⟩
  have hi:=drop_nil h
  unfold z294_21_l2
  have:decide (i < s.size)=false:=by rw [size_bs];simp;omega
  rw [this]
  exact ⟨-1,rfl,rfl⟩
 | cons b r ih =>
  intro n i h hn
  obtain ⟨n,rfl⟩:∃ m,n=m+1:=⟨n-1,by simp at hn;omega⟩
  obtain ⟨h1,h2,h3⟩:=drop_cons h
  simp only [List.length_cons] at hn
  unfold z294_21_l2
  have:decide (i < s.size)=true:=by rw [size_bs];simp;omega
  rw [this,List.any_cons]
  simp only [cT,z247]
  by_cases hb:b.toNat < 128
  ·rw [decode_lo s i b h2 hb]
   by_cases c1:b.toNat < 32
   ·have e1:decide (((b.toNat:Nat):Int) < 32)=true:=by simp;omega
    have e2:badB b=true:=by simp [badB,c1]
    rw [e1,e2]
    exact ⟨(i:Int),rfl,by simp⟩
   ·have e1:decide (((b.toNat:Nat):Int) < 32)=false:=by simp;omega
    rw [e1]
    simp only [cond_false,bS]
    by_cases c2:126 < b.toNat
    ·have e3:decide (((b.toNat:Nat):Int) > 126)=true:=by simp;omega
     have e2:badB b=true:=by simp [badB,c2]
     rw [e3,e2]
     exact ⟨(i:Int),rfl,by simp⟩
    ·have e3:decide (((b.toNat:Nat):Int) > 126)=false:=by simp;omega
     have e2:badB b=false:=by simp [badB];omega
     rw [e3,e2]
     exact ih n (i+1) h3 (by omega)
  ·have hd:=decode_hi s i b h2 hb
   have e2:badB b=true:=by simp [badB];omega
   generalize (Utf8.decode s i).1=c at hd ⊢
   have e1:decide ((c:Int) < 32)=false:=by simp;omega
   have e3:decide ((c:Int) > 126)=true:=by simp;omega
   rw [e1,e2]
   simp only [cond_false,bS]
   rw [e3]
   exact ⟨(i:Int),rfl,by simp⟩
theorem runes_eq (hN:4194304 < N) (s:ByteArray) (hs:s.size≤4194304):z246_23 N s=some ((bs s).any badB):=by
 obtain ⟨z,h1,h2⟩:=runes_loop (N:=N) s (bs s) N 0 rfl (by rw [size_bs] at hs;omega)
 unfold z246_23 z275_22 z294_21
 rw [h1]
 simp only [bS]
 rw [h2]
theorem number_eq (v:T12):z110 N v=some (vnum v):=by
 unfold z110 vnum
 cases (v.Kind==2)<;>rfl
theorem refNumber_eq (v:T12):ref14_Number N v=some (vnum v):=number_eq (N:=N) v
theorem fits_eq (hN:4194304 < N) (s:T10) (v:T12) (hv:v.S.size≤4194304):z194 N s v=some (fitsV s v):=by
 unfold z194 fitsV
 rw [number_eq]
 simp only [bS,bne]
 cases h1:v.Kind==s.Kind with
 | false=>rfl
 | true =>
  simp only [Bool.not_true,cond_false,Bool.true_and]
  by_cases h2:vnum v < s.Lo
  ·rw [dT h2,dF (show ¬ s.Lo≤vnum v by omega)];rfl
  ·rw [dF h2,dT (show s.Lo≤vnum v by omega)]
   simp only [cond_false,Bool.true_and]
   by_cases h3:vnum v > s.Hi
   ·rw [dT h3,dF (show ¬ vnum v≤s.Hi by omega)];rfl
   ·rw [dF h3,dT (show vnum v≤s.Hi by omega)]
    simp only [cond_false,Bool.true_and]
    cases h4:v.Kind==1 with
    | true=>rfl
    | false =>
     simp only [cond_false]
     cases h5:v.N==0 with
     | false=>rfl
     | true =>
      simp only [cT,Bool.true_and]
      rw [runes_eq hN v.S hv];rfl
theorem refBytes_loop (s:T10) (v:T12) (hv:v.S.size≤4194304):∀ (r:List UInt8) (n k:Nat),(bs v.S).drop k=r→r.length < n→ref14_Fits_l3 N s v n (k:Int)=bif r.any badB then some false else ref14_Fits_k2 N s v:=by
 intro r
 induction r with
 | nil =>
  intro n k h hn
  obtain ⟨n,rfl⟩:∃ m,n=m+1:=⟨n-1,by simp at hn;omega⟩
  unfold ref14_Fits_l3
  rw [slt_f (drop_nil h)];rfl
 | cons b r ih =>
  intro n k h hn
  obtain ⟨n,rfl⟩:∃ m,n=m+1:=⟨n-1,by simp at hn;omega⟩
  obtain ⟨h1,h2,h3⟩:=drop_cons h
  simp only [List.length_cons] at hn
  unfold ref14_Fits_l3
  have hk:k < 4194304:=by rw [size_bs] at hv;omega
  rw [slt_t h1,sidx_bs,h2,w64_succ (by omega),List.any_cons]
  simp only [cT,Option.map_some,bS]
  by_cases c1:b.toNat < 32
  ·rw [dT (show ((b.toNat:Nat):Int) < 32 by omega)]
   have:badB b=true:=by simp [badB,c1]
   rw [this];rfl
  ·rw [dF (show ¬ ((b.toNat:Nat):Int) < 32 by omega)]
   by_cases c2:126 < b.toNat
   ·rw [dT (show ((b.toNat:Nat):Int) > 126 by omega)]
    have:badB b=true:=by simp [badB,c2]
    rw [this];rfl
   ·rw [dF (show ¬ ((b.toNat:Nat):Int) > 126 by omega)]
    have:badB b=false:=by simp [badB];omega
    rw [this]
    simp only [cond_false,Bool.false_or]
    exact ih n (k+1) h3 (by omega)
theorem empty_any (s:ByteArray) (h:(s.toList==(str []).toList)=true):(bs s).any badB=false:=by
 have h:=beq_iff_eq.1 h
 rw [toList_bs,toList_bs,bs_nil] at h
 rw [h];rfl
theorem refFits_eq (hN:4194304 < N) (s:T10) (hs:s.Kind=1∨s.Kind=2) (v:T12) (hv:v.S.size≤4194304):ref14_Fits N s v=some (fitsV s v):=by
 have hl:=refBytes_loop (N:=N) s v hv (bs v.S) N 0 rfl (by rw [size_bs] at hv;omega)
 have hl:ref14_Fits N s v=bif (bs v.S).any badB then some false else ref14_Fits_k2 N s v:=hl
 rw [hl]
 have k1:∀ b,ref14_Fits_k1 N s v b=some (!b && (v.Kind==s.Kind && (decide (s.Lo≤vnum v) && decide (vnum v≤s.Hi)))):=fun b=>by
  unfold ref14_Fits_k1
  rw [refNumber_eq]
  simp only [bS,ge_iff_le]
  cases b<;>cases (v.Kind==s.Kind)<;>cases decide (s.Lo≤vnum v)<;>rfl
 unfold ref14_Fits_k2 fitsV
 rw [k1,k1,k1]
 cases hA:(bs v.S).any badB with
 | true =>
  simp only [cT,Bool.not_true,Bool.and_false]
  cases h4:v.Kind==1 with
  | false=>simp
  | true =>
   cases h5:v.S.toList==(str []).toList with
   | false=>simp
   | true=>rw [empty_any v.S h5] at hA;cases hA
 | false =>
  simp only [cond_false,Bool.not_false,Bool.and_true]
  by_cases q2:v.Kind=2
  ·have e1:(v.Kind==1)=false:=by rw [q2];rfl
   have e2:(v.Kind==2)=true:=by rw [q2];rfl
   rw [e1,e2]
   simp only [bne]
   cases (v.N==0)<;>cases (v.Kind==s.Kind)<;>cases decide (s.Lo≤vnum v)<;>cases decide (vnum v≤s.Hi)<;>rfl
  ·have e2:(v.Kind==2)=false:=by simp [q2]
   rw [e2]
   by_cases q1:v.Kind=1
   ·have e1:(v.Kind==1)=true:=by rw [q1];rfl
    rw [e1]
    simp only [cond_false,cT]
    cases (v.S.toList==(str []).toList)<;>cases (v.Kind==s.Kind)<;>cases decide (s.Lo≤vnum v)<;>cases decide (vnum v≤s.Hi)<;>rfl
   ·have e1:(v.Kind==1)=false:=by simp [q1]
    have e3:(v.Kind==s.Kind)=false:=by
     rw [beq_eq_false_iff_ne]
     intro e;rcases hs with h | h<;>rw [h] at e
     ·exact q1 e
     ·exact q2 e
    rw [e1,e3];rfl
def zeroV (v:T12):Bool:=(v.Kind==0) && ((v.N==0) && ((v.S.toList==(str []).toList) && true))
def fitAt (fl:List T4) (v:T12) (i:Nat):Bool:=match fl[i]? with
 | some f=>fitsV f.Sort' v
 | none=>false
def knownV (fl:List T4) (ks:List T12):Bool:=decide (fl.length=ks.length) && allV (fun v i=>zeroV v || fitAt fl v i) ks 0
def properV (d:List T0) (label:Int) (ks:List T12):Bool:=decide (0≤label∧label < (d.length:Int)) && (validD d && knownV (flat d) ks)
def fitV (fs:List T4) (vs:List T12):Bool:=decide (fs.length=vs.length) && allV (fun v i=>fitAt fs v i) vs 0
theorem len_ne (a b:Nat):((a:Int) != (b:Int)) = !decide (a=b):=by
 by_cases h:a=b
 ·subst h;simp
 ·simp [h];omega
theorem proper_loop (hN:4194304 < N) (fl:List T4) (ks:List T12) (hl:fl.length=ks.length) (hk:ks.length≤4194304) (hs:∀ v∈ks,v.S.size≤4194304):z108_l2 N ks fl N (0:Int)=some (allV (fun v i=>zeroV v || fitAt fl v i) ks 0):=by
 have h:=allV_from (fun (v:T12) i=>zeroV v || fitAt fl v i) (xs:=ks) (F:=z108_l2 N ks fl) (e:=some true) (n:=N) (by omega) (by
  intro n k x hk' hx
  obtain ⟨f,hf⟩:∃ f,fl[k]? = some f:=⟨fl[k],by simp [hl,hk']⟩
  rw [z108_l2,lt_t hk',w64_succ (by omega)]
  simp only [cT,idx_nat,hx,bS,hf,fitAt]
  rw [fits_eq hN _ _ (hs x (List.mem_of_getElem? hx))]
  show (bif !(zeroV x) then _ else _)=_
  cases zeroV x<;>cases fitsV f.Sort' x<;>rfl) (by
  intro n k hk'
  unfold z108_l2
  rw [lt_f hk'];rfl)
 rw [h]
 cases allV (fun (v:T12) i=>zeroV v || fitAt fl v i) ks 0<;>rfl
theorem proper_eq (hN:4194304 < N) (d:List T0) (hl:d.length≤1000) (hd:∀ x∈d,SizeD x) (hn:∀ x∈d,NameD x) (label:Int) (ks:List T12) (hk:ks.length≤4194304) (hs:∀ v∈ks,v.S.size≤4194304) :
  z108 N d label ks=some (properV d label ks):=by
 unfold z108 properV
 rw [valid_eq hN d (by omega) hd hn,fields_eq hN d hl hd]
 by_cases c1:label < 0
 ·rw [dT c1,dF (show ¬ (0≤label∧label < (d.length:Int)) by omega)];rfl
 ·rw [dF c1]
  by_cases c2:label≥(d.length:Int)
  ·rw [dT c2,dF (show ¬ (0≤label∧label < (d.length:Int)) by omega)];rfl
  ·rw [dF c2,dT (show (0≤label∧label < (d.length:Int)) by omega)]
   cases validD d with
   | false=>rfl
   | true =>
    simp only [cond_false,bS,Bool.not_true,Bool.true_and,knownV]
    rw [len_ne]
    by_cases c3:(flat d).length=ks.length
    ·rw [dT c3]
     simp only [Bool.not_true,cond_false,Bool.true_and]
     exact proper_loop hN _ _ c3 hk hs
    ·rw [dF c3];rfl
theorem fit_eq (hN:4194304 < N) (fs:List T4) (vs:List T12) (hk:vs.length≤4194304) (hs:∀ v∈vs,v.S.size≤4194304):z117 N fs vs=some (fitV fs vs):=by
 unfold z117 fitV
 rw [len_ne]
 by_cases c3:fs.length=vs.length
 ·rw [dT c3]
  simp only [Bool.not_true,cond_false,Bool.true_and]
  have h:=allV_from (fun (f:T4) i=>match vs[i]? with | some v=>fitsV f.Sort' v | none=>false) (xs:=fs) (F:=z117_l2 N fs vs) (e:=some true) (n:=N) (by omega) (by
   intro n k x hk' hx
   obtain ⟨v,hv⟩:∃ v,vs[k]? = some v:=⟨vs[k],by simp [← c3,hk']⟩
   rw [z117_l2,lt_t hk',w64_succ (by omega)]
   simp only [cT,idx_nat,hx,bS,hv]
   rw [fits_eq hN _ _ (hs v (List.mem_of_getElem? hv))]
   cases fitsV x.Sort' v<;>rfl) (by
   intro n k hk'
   unfold z117_l2
   rw [lt_f hk'];rfl)
  rw [h]
  have e:allV (fun (f:T4) i=>match vs[i]? with | some v=>fitsV f.Sort' v | none=>false) fs 0=allV (fun v i=>fitAt fs v i) vs 0:=by
   rw [Bool.eq_iff_iff,allV_iff,allV_iff]
   constructor
   ·intro q i v hv
    obtain ⟨f,hf⟩:∃ f,fs[i]? = some f:=⟨fs[i]'(by rw [c3];exact (List.getElem?_eq_some_iff.1 hv).1),by simp⟩
    have:=q i f hf
    simp only [Nat.zero_add] at this ⊢
    rw [hv] at this
    unfold fitAt;rw [hf];exact this
   ·intro q i f hf
    obtain ⟨v,hv⟩:∃ v,vs[i]? = some v:=⟨vs[i]'(by rw [← c3];exact (List.getElem?_eq_some_iff.1 hf).1),by simp⟩
    have:=q i v hv
    simp only [Nat.zero_add] at this ⊢
    unfold fitAt at this;rw [hf] at this
    rw [hv];exact this
  rw [e]
  cases allV (fun v i=>fitAt fs v i) vs 0<;>rfl
 ·rw [dF c3];rfl
def behindV (first:Nat) (vs ks:List T12):List T12:=ks.take first++vs++ks.drop (first+vs.length)
theorem behind_eq (x:T0) (vs ks:List T12) (first:Nat) (hf:x.First=(first:Int)) (hle:first+vs.length≤ks.length) (hk:ks.length≤4194304):z114 N x vs ks=some (behindV first vs ks):=by
 unfold z114 z55
 rw [appL_some (by simp;omega)]
 simp only [bS,List.nil_append]
 have hb:bnd (some x.First) none ks.length=some (first,ks.length):=by
  unfold bnd
  rw [hf]
  have h1:decide ((0:Int)≤(first:Int))=true:=by simp
  have h2:decide ((first:Int)≤(ks.length:Int))=true:=by simp;omega
  simp only [Option.getD_some,Option.getD_none,h1,h2,Bool.and_true,Bool.true_and,cT]
  simp
 unfold lsl cpL
 rw [hb]
 simp only [Option.map_some,bS]
 have hm:min vs.length (ks.length-first)=vs.length:=by omega
 rw [hm,List.take_length];rfl
theorem behind_len (first:Nat) (vs ks:List T12) (hle:first+vs.length≤ks.length):(behindV first vs ks).length=ks.length:=by
 unfold behindV;simp;omega
theorem behind_get (first:Nat) (vs ks:List T12) (hle:first+vs.length≤ks.length) (i:Nat):(behindV first vs ks)[i]? = if first≤i∧i < first+vs.length then vs[i-first]? else ks[i]? := by
 unfold behindV
 have ht:(ks.take first).length=first:=by rw [List.length_take];omega
 by_cases c1:i < first
 ·rw [if_neg (by omega),aA,List.getElem?_append_left (by omega),List.getElem?_take,if_pos c1]
 ·by_cases c2:i < first+vs.length
  ·rw [if_pos ⟨by omega,c2⟩,List.getElem?_append_left (by rw [lA,ht];omega),List.getElem?_append_right (by omega),ht]
  ·rw [if_neg (by omega),List.getElem?_append_right (by rw [lA,ht];omega),lA,ht,List.getElem?_drop]
   congr 1;omega
theorem valid_at {d:List T0} (hv:validD d=true) {i:Nat} {x:T0} (hx:d[i]? = some x):∃ first:Nat,x.First=(first:Int)∧first+x.Fields.length≤(flat d).length∧d.length≤40∧(flat d).length≤24∧declV (flat d) d x i=true:=by
 unfold validD at hv
 simp only [Bool.and_eq_true,decide_eq_true_eq] at hv
 obtain ⟨h1,h2,h3⟩:=hv
 rw [allV_iff] at h3
 have hd:=h3 i x hx
 rw [Nat.zero_add] at hd
 have hd0:=hd
 unfold declV at hd
 simp only [Bool.and_eq_true,decide_eq_true_eq] at hd
 refine ⟨(flat (d.take i)).length,hd.2.2.1,?_,h1,h2,hd0⟩
 have:=flat_next hx
 have:=flat_take_le d (i+1)
 omega
end Gp
end
section
namespace Gp
open Go Go.Kx Gx
variable {N:Nat}
structure SizeC (vs ks:List T12):Prop where
 v:∀ v∈vs,v.S.size≤4194304
 k:∀ v∈ks,v.S.size≤4194304
theorem idx_mem {α:Type} {L:List α} {v:Int} {x:α} (h:idx L v=some x):∃ i:Nat,v=(i:Int)∧L[i]? = some x:=by
 obtain ⟨h0,h1⟩:=idx_some h
 obtain ⟨i,rfl⟩:=Int.eq_ofNat_of_zero_le h0
 exact ⟨i,rfl,by rw [← idx_nat];exact h⟩
theorem learn_eq (hN:4194304 < N) (d:List T0) (hl:d.length≤1000) (hd:∀ x∈d,SizeD x) (hn:∀ x∈d,NameD x) (label:Int) (vs ks:List T12) (hv:vs.length≤4194304) (hk:ks.length≤4194304) (hs:SizeC vs ks) :
  (properV d label ks=false∧z96 N d label vs ks=some ([],1))∨(properV d label ks=true∧∃ i x first,label=((i:Nat):Int)∧d[i]? = some x∧x.First=((first:Nat):Int)∧declV (flat d) d x i=true ∧
   ((fitV x.Fields vs=false∧z96 N d label vs ks=some ([],11))∨(fitV x.Fields vs=true∧first+vs.length≤ks.length∧z96 N d label vs ks=some (behindV first vs ks,0)))):=by
 unfold z96
 rw [proper_eq hN d hl hd hn label ks hk hs.k]
 cases hp:properV d label ks with
 | false=>exact .inl ⟨rfl,rfl⟩
 | true =>
  right
  refine ⟨rfl,?_⟩
  have hp0:=hp
  unfold properV at hp
  simp only [Bool.and_eq_true,decide_eq_true_eq] at hp
  obtain ⟨⟨p1,p2⟩,p3,p4⟩:=hp
  obtain ⟨x,hx⟩:=idx_lt p1 p2
  obtain ⟨i,rfl,hi⟩:=idx_mem hx
  obtain ⟨first,f1,f2,f3,f4,f5⟩:=valid_at p3 hi
  refine ⟨i,x,first,rfl,hi,f1,f5,?_⟩
  simp only [bS,Bool.not_true,cond_false]
  rw [hx]
  simp only [bS]
  rw [fit_eq hN _ _ hv hs.v]
  cases hf:fitV x.Fields vs with
  | false=>exact .inl ⟨rfl,rfl⟩
  | true =>
   right
   have hlen:x.Fields.length=vs.length:=by
    unfold fitV at hf
    simp only [Bool.and_eq_true,decide_eq_true_eq] at hf
    exact hf.1
   have hkl:(flat d).length=ks.length:=by
    unfold knownV at p4
    simp only [Bool.and_eq_true,decide_eq_true_eq] at p4
    exact p4.1
   refine ⟨rfl,by omega,?_⟩
   simp only [bS,Bool.not_true,cond_false]
   rw [behind_eq x vs ks first f1 (by omega) hk]
   rfl
end Gp
end
section
namespace Gp
open Go Go.Kx Gx
variable {N:Nat}
def nvV (l:List T12) (x:Int):Int:=bif decide (x < 0) then 0 else match idx l x with
 | some v=>vnum v
 | none=>0
def unkV (l:List T12) (x:Int):Bool:=bif decide (x < 0) then false else match idx l x with
 | some v=>v.Kind==0
 | none=>true
def diffV (l:List T12) (d:T1):Bool := !(unkV l d.X) && (!(unkV l d.Y) && !(decide (w64 (nvV l d.X-nvV l d.Y) > d.C)))
def eqV (l:List T12) (e:Int × Int):Bool:=match idx l e.1 with
 | some a=>match idx l e.2 with
  | some b => !(a.Kind==0) && (!(b.Kind==0) && (a.S.toList==b.S.toList))
  | none=>false
 | none=>false
def keepsV (g:T6) (l:List T12):Bool:=allV (fun d _=>diffV l d) g.Diffs 0 && allV (fun e _=>eqV l e) g.Equals 0
structure InG (n:Nat) (g:T6):Prop where
 d:∀ d∈g.Diffs,d.X < (n:Int)∧d.Y < (n:Int)
 e:∀ e∈g.Equals,(0≤e.1∧e.1 < (n:Int))∧(0≤e.2∧e.2 < (n:Int))
 dl:g.Diffs.length≤20
 el:g.Equals.length≤20
theorem textV_in {fl:List T4} {x:Int} (h:textV fl x=true):0≤x∧x < (fl.length:Int):=by
 unfold textV at h
 cases hc:idx fl x with
 | none=>rw [hc] at h;cases h
 | some f=>exact idx_some hc
theorem inG_of {fl:List T4} {g:T6} (h:guardV fl g=true):InG fl.length g:=by
 unfold guardV at h
 simp only [Bool.and_eq_true,decide_eq_true_eq] at h
 obtain ⟨⟨h1,h2⟩,h3,h4⟩:=h
 rw [allV_iff] at h3 h4
 refine ⟨fun d hd=>?_,fun e he=>?_,h1,h2⟩
 ·obtain ⟨i,hi⟩:=List.mem_iff_getElem?.1 hd
  have:=of_decide_eq_true (h3 i d hi)
  exact ⟨this.2.1,this.2.2.2.1⟩
 ·obtain ⟨i,hi⟩:=List.mem_iff_getElem?.1 he
  have:=h4 i e hi
  simp only [Bool.and_eq_true] at this
  exact ⟨textV_in this.1,textV_in this.2⟩
theorem side (l:List T12) {x:Int} (hx:x < (l.length:Int)):(decide (x < 0)=true∧decide (x≥0)=false∧unkV l x=false∧nvV l x=0) ∨
  (decide (x < 0)=false∧decide (x≥0)=true∧∃ v,idx l x=some v∧unkV l x=(v.Kind==0)∧nvV l x=vnum v):=by
 by_cases h:x < 0
 ·left
  have e:decide (x < 0)=true:=dT h
  refine ⟨e,dF (by omega),?_,?_⟩
  ·unfold unkV;rw [e];rfl
  ·unfold nvV;rw [e];rfl
 ·right
  have e:decide (x < 0)=false:=dF h
  obtain ⟨v,hv⟩:=idx_lt (L:=l) (v:=x) (by omega) hx
  refine ⟨e,dT (by omega),v,hv,?_,?_⟩
  ·unfold unkV;rw [e,hv];rfl
  ·unfold nvV;rw [e,hv];rfl
theorem l6_eq (l:List T12) (k:Int) (ag:Int→Option Bool) (d:T1) (hX:d.X < (l.length:Int)) (hY:d.Y < (l.length:Int)) (n:Nat) :
  z116_l6 N l k ag d (n+3) 0 0 0=bif diffV l d then ag (w64 (k+1)) else some false:=by
 have w1:w64 ((0:Int)+1)=1:=rfl
 have w2:w64 ((1:Int)+1)=2:=rfl
 have i0:idx ([d.X,d.Y]:List Int) 0=some d.X:=rfl
 have i1:idx ([d.X,d.Y]:List Int) 1=some d.Y:=rfl
 have d0:decide ((0:Int) < 2)=true:=rfl
 have d1:decide ((1:Int) < 2)=true:=rfl
 have d2:decide ((2:Int) < 2)=false:=rfl
 have b0:((0:Int)==0)=true:=rfl
 have b1:((1:Int)==0)=false:=rfl
 have b2:((1:Int)==1)=true:=rfl
 have fin:∀ a b:Int,z116_l6 N l k ag d (n+1) a b 2=bif !(decide (w64 (a-b) > d.C)) then ag (w64 (k+1)) else some false:=fun a b=>by
  rw [z116_l6,d2]
  simp only [cond_false,z116_k5]
  cases decide (w64 (a-b) > d.C)<;>rfl
 have sec:∀ a:Int,z116_l6 N l k ag d (n+2) a 0 1=bif !(unkV l d.Y) && !(decide (w64 (a-nvV l d.Y) > d.C)) then ag (w64 (k+1)) else some false:=fun a=>by
  rw [z116_l6,d1]
  simp only [cT,i1,bS,w2]
  rcases side l hY with ⟨h1,_,h3,h4⟩ | ⟨h1,_,v,hv,h3,h4⟩
  ·rw [h1,h3,h4]
   simp only [cT]
   rw [fin]
   rfl
  ·rw [h1,h3,h4,hv]
   simp only [cond_false,bS]
   cases v.Kind==0 with
   | true=>rfl
   | false =>
    simp only [cond_false,number_eq,bS,b1,b2,cT]
    rw [fin]
    rfl
 rw [z116_l6,d0]
 simp only [cT,i0,bS,w1]
 unfold diffV
 rcases side l hX with ⟨h1,_,h3,h4⟩ | ⟨h1,_,v,hv,h3,h4⟩
 ·rw [h1,h3,h4]
  simp only [cT]
  rw [sec]
  rfl
 ·rw [h1,h3,h4,hv]
  simp only [cond_false,bS]
  cases v.Kind==0 with
  | true=>rfl
  | false =>
   simp only [cond_false,number_eq,bS,b0,cT]
   rw [sec]
   rfl
theorem equals_eq (hN:4194304 < N) (g:T6) (l:List T12) (hg:InG l.length g):z116_l2 g l N (0:Int)=some (allV (fun e _=>eqV l e) g.Equals 0):=by
 have hel:=hg.el
 have h:=allV_from (fun (e:Int × Int) _=>eqV l e) (xs:=g.Equals) (F:=z116_l2 g l) (e:=some true) (n:=N) (by omega) (by
  intro n k e hk he
  obtain ⟨⟨a1,a2⟩,a3,a4⟩:=hg.e e (List.mem_of_getElem? he)
  obtain ⟨a,ha⟩:=idx_lt (L:=l) a1 a2
  obtain ⟨b,hb⟩:=idx_lt (L:=l) a3 a4
  rw [z116_l2,lt_t hk,w64_succ (by omega)]
  simp only [cT,idx_nat,he,bS,ha,hb,eqV]
  cases (a.Kind==0)<;>cases (b.Kind==0)<;>cases (a.S.toList==b.S.toList)<;>rfl) (by
  intro n k hk
  rw [z116_l2,lt_f hk];rfl)
 rw [h]
 cases allV (fun (e:Int × Int) _=>eqV l e) g.Equals 0<;>rfl
theorem fulfils_eq (hN:4194304 < N) (g:T6) (l:List T12) (hg:InG l.length g):z116 N g l=some (keepsV g l):=by
 have hdl:=hg.dl
 have h:=allV_from (fun (d:T1) _=>diffV l d) (xs:=g.Diffs) (F:=z116_l4 N g l) (e:=z116_k3 N g l) (n:=N) (by omega) (by
  intro n k d hk hd
  obtain ⟨a1,a2⟩:=hg.d d (List.mem_of_getElem? hd)
  rw [z116_l4,lt_t hk]
  simp only [cT,idx_nat,hd,bS]
  have:=l6_eq (N:=N) l (k:Int) (z116_l4 N g l n) d a1 a2 (N-3)
  rw [show N-3+3=N by omega] at this
  rw [this,w64_succ (by omega)]) (by
  intro n k hk
  rw [z116_l4,lt_f hk];rfl)
 unfold z116 keepsV
 rw [h]
 cases allV (fun (d:T1) _=>diffV l d) g.Diffs 0 with
 | false=>rfl
 | true=>exact equals_eq hN g l hg
theorem k5_eq (l:List T12) (k:Int) (ag:Int→Option Bool) (d:T1) (hX:d.X < (l.length:Int)) (hY:d.Y < (l.length:Int)) :
  ref14_keeps_k5 l k ag d (nvV l d.X) (nvV l d.Y)=bif diffV l d then ag (w64 (k+1)) else some false:=by
 unfold ref14_keeps_k5 diffV
 rcases side l hX with ⟨_,h2,h3,_⟩ | ⟨_,h2,v,hv,h3,_⟩<;>rcases side l hY with ⟨_,q2,q3,_⟩ | ⟨_,q2,u,hu,q3,_⟩
 ·rw [h2,q2,h3,q3]
  cases decide (w64 (nvV l d.X-nvV l d.Y) > d.C)<;>rfl
 ·rw [h2,q2,h3,q3,hu]
  simp only [cond_false,cT,bS]
  cases u.Kind==0<;>cases decide (w64 (nvV l d.X-nvV l d.Y) > d.C)<;>rfl
 ·rw [h2,q2,h3,q3,hv]
  simp only [cond_false,cT,bS]
  cases v.Kind==0<;>cases decide (w64 (nvV l d.X-nvV l d.Y) > d.C)<;>rfl
 ·rw [h2,q2,h3,q3,hv,hu]
  simp only [cond_false,cT,bS]
  cases v.Kind==0<;>cases u.Kind==0<;>cases decide (w64 (nvV l d.X-nvV l d.Y) > d.C)<;>rfl
theorem k6_eq (l:List T12) (k:Int) (ag:Int→Option Bool) (d:T1) (hX:d.X < (l.length:Int)) (hY:d.Y < (l.length:Int)) :
  ref14_keeps_k6 N l k ag d (nvV l d.X)=bif diffV l d then ag (w64 (k+1)) else some false:=by
 unfold ref14_keeps_k6
 have:=k5_eq l k ag d hX hY
 rcases side l hY with ⟨_,q2,_,q4⟩ | ⟨_,q2,u,hu,_,q4⟩
 ·rw [q2];rw [q4] at this;exact this
 ·rw [q2,hu];rw [q4] at this
  simp only [cT,bS,refNumber_eq]
  exact this
theorem keeps_eq (hN:4194304 < N) (g:T6) (l:List T12) (hg:InG l.length g):ref14_keeps N g l=some (keepsV g l):=by
 have hdl:=hg.dl
 have hel:=hg.el
 have h2:=allV_from (fun (e:Int × Int) _=>eqV l e) (xs:=g.Equals) (F:=ref14_keeps_l2 g l) (e:=some true) (n:=N) (by omega) (by
  intro n k e hk he
  obtain ⟨⟨a1,a2⟩,a3,a4⟩:=hg.e e (List.mem_of_getElem? he)
  obtain ⟨a,ha⟩:=idx_lt (L:=l) a1 a2
  obtain ⟨b,hb⟩:=idx_lt (L:=l) a3 a4
  rw [ref14_keeps_l2,lt_t hk,w64_succ (by omega)]
  simp only [cT,idx_nat,he,bS,ha,hb,eqV]
  cases (a.Kind==0)<;>cases (b.Kind==0)<;>cases (a.S.toList==b.S.toList)<;>rfl) (by
  intro n k hk
  rw [ref14_keeps_l2,lt_f hk];rfl)
 have h:=allV_from (fun (d:T1) _=>diffV l d) (xs:=g.Diffs) (F:=ref14_keeps_l4 N g l) (e:=ref14_keeps_k3 N g l) (n:=N) (by omega) (by
  intro n k d hk hd
  obtain ⟨a1,a2⟩:=hg.d d (List.mem_of_getElem? hd)
  have hk6:=k6_eq (N:=N) l (k:Int) (ref14_keeps_l4 N g l n) d a1 a2
  rw [w64_succ (by omega)] at hk6
  rw [ref14_keeps_l4,lt_t hk]
  simp only [cT,idx_nat,hd,bS]
  rcases side l a1 with ⟨_,q2,_,q4⟩ | ⟨_,q2,u,hu,_,q4⟩
  ·rw [q2];rw [q4] at hk6;exact hk6
  ·rw [q2,hu];rw [q4] at hk6
   simp only [cT,bS,refNumber_eq]
   exact hk6) (by
  intro n k hk
  rw [ref14_keeps_l4,lt_f hk];rfl)
 unfold ref14_keeps keepsV
 rw [h]
 cases allV (fun (d:T1) _=>diffV l d) g.Diffs 0 with
 | false=>rfl
 | true =>
  show ref14_keeps_l2 g l N (0:Int)=_
  rw [h2]
  cases allV (fun (e:Int × Int) _=>eqV l e) g.Equals 0<;>rfl
def checkV (d:List T0) (label:Int) (vs ks:List T12):Bool:=properV d label ks && (match idx d label with
 | some x=>fitV x.Fields vs && keepsV x.Guard (behindV x.First.toNat vs ks)
 | none=>false)
theorem guard_of {fl:List T4} {d:List T0} {x:T0} {i:Nat} (h:declV fl d x i=true):guardV fl x.Guard=true:=by
 unfold declV at h
 simp only [Bool.and_eq_true] at h
 exact h.2.2.2.2.2
theorem known_len {fl:List T4} {ks:List T12} (h:knownV fl ks=true):fl.length=ks.length:=by
 unfold knownV at h
 simp only [Bool.and_eq_true,decide_eq_true_eq] at h
 exact h.1
theorem fit_len {fl:List T4} {ks:List T12} (h:fitV fl ks=true):fl.length=ks.length:=by
 unfold fitV at h
 simp only [Bool.and_eq_true,decide_eq_true_eq] at h
 exact h.1
theorem check_eq (hN:4194304 < N) (d:List T0) (hl:d.length≤1000) (hd:∀ x∈d,SizeD x) (hn:∀ x∈d,NameD x) (label:Int) (vs ks:List T12) (hv:vs.length≤4194304) (hk:ks.length≤4194304) (hs:SizeC vs ks) :
  z56 N d label vs ks=some (checkV d label vs ks):=by
 unfold z56 checkV
 rw [proper_eq hN d hl hd hn label ks hk hs.k]
 cases hp:properV d label ks with
 | false=>rfl
 | true =>
  unfold properV at hp
  simp only [Bool.and_eq_true,decide_eq_true_eq] at hp
  obtain ⟨⟨p1,p2⟩,p3,p4⟩:=hp
  obtain ⟨x,hx⟩:=idx_lt p1 p2
  obtain ⟨i,rfl,hi⟩:=idx_mem hx
  obtain ⟨first,f1,f2,f3,f4,f5⟩:=valid_at p3 hi
  simp only [bS,Bool.not_true,cond_false]
  rw [hx]
  simp only [bS]
  rw [fit_eq hN _ _ hv hs.v]
  cases hf:fitV x.Fields vs with
  | false=>rfl
  | true =>
   have e1:=fit_len hf
   have e2:=known_len p4
   simp only [bS,Bool.not_true,cond_false,Bool.true_and]
   rw [behind_eq x vs ks first f1 (by omega) hk]
   simp only [bS]
   have ef:x.First.toNat=first:=by omega
   rw [ef,fulfils_eq hN x.Guard _ (by rw [behind_len first vs ks (by omega),← e2];exact inG_of (guard_of f5))]
   rfl
end Gp
end
section
namespace Gp
open Go Go.Kx Gx
variable {N:Nat}
theorem sort_of {d:List T0} (hv:validD d=true) {x:T0} (hx:x∈d) {f:T4} (hf:f∈x.Fields):f.Sort'.Kind=1∨f.Sort'.Kind=2:=by
 obtain ⟨i,hi⟩:=List.mem_iff_getElem?.1 hx
 obtain ⟨first,_,_,_,_,h⟩:=valid_at hv hi
 unfold declV at h
 simp only [Bool.and_eq_true] at h
 have h:=h.2.2.2.2.1
 rw [allV_iff] at h
 obtain ⟨k,hk⟩:=List.mem_iff_getElem?.1 hf
 have:=h k f hk
 unfold fieldV at this
 simp only [Bool.and_eq_true,decide_eq_true_eq] at this
 have:=this.2.1
 unfold sortOk at this
 rcases this with h | h
 ·exact .inl h.1
 ·exact .inr h.1
theorem sort_flat {d:List T0} (hv:validD d=true) {f:T4} (hf:f∈flat d):f.Sort'.Kind=1∨f.Sort'.Kind=2:=by
 unfold flat at hf
 obtain ⟨l,hl,hfl⟩:=List.mem_flatten.1 hf
 obtain ⟨x,hx,rfl⟩:=List.mem_map.1 hl
 exact sort_of hv hx hfl
theorem refKnown_eq (hN:4194304 < N) (d:List T0) (hl:d.length≤1000) (hd:∀ x∈d,SizeD x) (hv:validD d=true) (ks:List T12) (hk:ks.length≤4194304) (hs:∀ v∈ks,v.S.size≤4194304) :
  ref14_Known N d ks=some (knownV (flat d) ks):=by
 unfold ref14_Known knownV
 rw [vars_eq hN d hl hd]
 simp only [bS]
 rw [len_ne]
 by_cases c:(flat d).length=ks.length
 ·rw [dT c,dT c.symm]
  simp only [Bool.not_true,cond_false,Bool.true_and]
  have h:=allV_from (fun (v:T12) i=>zeroV v || fitAt (flat d) v i) (xs:=ks) (F:=ref14_Known_l2 N d ks) (e:=some true) (n:=N) (by omega) (by
   intro n k x hk' hx
   have hkf:k < (flat d).length:=by omega
   have hf:ref14_Field N d (k:Int)=(flat d)[k]? := field_loop d (by omega) hd d 0 N k rfl (by omega) hkf (by omega)
   obtain ⟨f,hf2⟩:∃ f,(flat d)[k]? = some f:=⟨(flat d)[k],by simp [hkf]⟩
   rw [ref14_Known_l2,lt_t hk',w64_succ (by omega),hf,hf2]
   simp only [cT,idx_nat,hx,bS,hf2,fitAt]
   rw [refFits_eq hN _ (sort_flat hv (List.mem_of_getElem? hf2)) _ (hs x (List.mem_of_getElem? hx))]
   show (bif !(zeroV x) then _ else _)=_
   cases zeroV x<;>cases fitsV f.Sort' x<;>rfl) (by
   intro n k hk'
   rw [ref14_Known_l2,lt_f hk'];rfl)
  rw [h]
  cases allV (fun (v:T12) i=>zeroV v || fitAt (flat d) v i) ks 0<;>rfl
 ·rw [dF c,dF (fun e=>c e.symm)];rfl
theorem refFit_eq (hN:4194304 < N) (x:T0) (hx:SizeD x) (hso:∀ f∈x.Fields,f.Sort'.Kind=1∨f.Sort'.Kind=2) (vs:List T12) (hk:vs.length≤4194304) (hs:∀ v∈vs,v.S.size≤4194304):ref14_fit N x vs=some (fitV x.Fields vs):=by
 have hxf:=hx.f
 have key:∀ (r:List T12) (n k:Nat),vs.drop k=r→r.length < n→k≤x.Fields.length→ref14_fit_l2 N x vs n (k:Int)=some (decide (x.Fields.length=vs.length) && allV (fun v i=>fitAt x.Fields v i) r k) ∨
   (ref14_fit_l2 N x vs n (k:Int)=some false∧(decide (x.Fields.length=vs.length) && allV (fun v i=>fitAt x.Fields v i) r k)=false):=by
  intro r
  induction r with
  | nil =>
   intro n k h hn hkf
   obtain ⟨n,rfl⟩:∃ m,n=m+1:=⟨n-1,by simp at hn;omega⟩
   left
   rw [ref14_fit_l2,lt_f (drop_nil h)]
   simp only [cond_false,ref14_fit_k1,allV,Bool.and_true]
   congr 1
   by_cases c:x.Fields.length=vs.length
   ·rw [dT c,c];simp
   ·rw [dF c,beq_eq_false_iff_ne];omega
  | cons v r ih =>
   intro n k h hn hkf
   obtain ⟨n,rfl⟩:∃ m,n=m+1:=⟨n-1,by simp at hn;omega⟩
   obtain ⟨h1,h2,h3⟩:=drop_cons h
   simp only [List.length_cons] at hn
   rw [ref14_fit_l2,lt_t h1,w64_succ (by omega)]
   by_cases c:k < x.Fields.length
   ·obtain ⟨f,hf⟩:∃ f,x.Fields[k]? = some f:=⟨x.Fields[k],by simp [c]⟩
    rw [lt_t c]
    simp only [cT,idx_nat,hf,h2,bS]
    rw [refFits_eq hN _ (hso f (List.mem_of_getElem? hf)) _ (hs v (List.mem_of_getElem? h2))]
    have e:allV (fun v i=>fitAt x.Fields v i) (v::r) k=(fitsV f.Sort' v && allV (fun v i=>fitAt x.Fields v i) r (k+1)):=by
     show (fitAt x.Fields v k && _)=_
     unfold fitAt;rw [hf]
    rw [e]
    cases fitsV f.Sort' v with
    | false=>right;exact ⟨rfl,by simp⟩
    | true =>
     simp only [bS,Bool.not_true,cond_false,Bool.true_and]
     exact ih n (k+1) h3 (by omega) (by omega)
   ·rw [lt_f (by omega)]
    have hne:¬ x.Fields.length=vs.length:=by omega
    right
    simp only [cT,cond_false,ref14_fit_k1]
    refine ⟨?_,by rw [dF hne];rfl⟩
    congr 1
    rw [beq_eq_false_iff_ne];omega
 unfold ref14_fit fitV
 rcases key vs N 0 rfl (by omega) (by omega) with h | ⟨h,h2⟩
 ·exact h
 ·rw [h2];exact h
theorem learned_eq (hN:4194304 < N) (x:T0) (vs ks:List T12) (first:Nat) (hf:x.First=(first:Int)) (hle:first+vs.length≤ks.length) (hk:ks.length≤4194304):ref14_learned N x vs ks=some (behindV first vs ks):=by
 have key:∀ (r:List T12) (n k:Nat),vs.drop k=r→r.length < n→k≤vs.length→ref14_learned_l2 x vs n (behindV first (vs.take k) ks) (k:Int)=some (behindV first vs ks):=by
  intro r
  induction r with
  | nil =>
   intro n k h hn hkv
   obtain ⟨n,rfl⟩:∃ m,n=m+1:=⟨n-1,by simp at hn;omega⟩
   rw [ref14_learned_l2,lt_f (drop_nil h)]
   have:vs.take k=vs:=List.take_of_length_le (drop_nil h)
   rw [this];rfl
  | cons v r ih =>
   intro n k h hn hkv
   obtain ⟨n,rfl⟩:∃ m,n=m+1:=⟨n-1,by simp at hn;omega⟩
   obtain ⟨h1,h2,h3⟩:=drop_cons h
   simp only [List.length_cons] at hn
   have hw:w64 (x.First+(k:Int))=((first+k:Nat):Int):=by rw [hf,w64_id (by omega) (by omega)];omega
   have htl:(vs.take k).length=k:=by rw [List.length_take];omega
   rw [ref14_learned_l2,lt_t h1,w64_succ (by omega),hw]
   simp only [cT,idx_nat,h2,bS]
   have hg:=behind_get first (vs.take k) ks (by rw [htl];omega) (first+k)
   rw [htl,if_neg (by omega)] at hg
   obtain ⟨u,hu⟩:∃ u,ks[first+k]? = some u:=⟨ks[first+k]'(by omega),by simp⟩
   rw [hg,hu]
   simp only [bS,setL'_nat]
   have e:(behindV first (vs.take k) ks).set (first+k) v=behindV first (vs.take (k+1)) ks:=by
    apply List.ext_getElem?
    intro i
    have hl1:=behind_len first (vs.take k) ks (by rw [htl];omega)
    have htl2:(vs.take (k+1)).length=k+1:=by rw [List.length_take];omega
    rw [List.getElem?_set,behind_get first (vs.take (k+1)) ks (by rw [htl2];omega),behind_get first (vs.take k) ks (by rw [htl];omega),htl,htl2,hl1]
    by_cases c1:first+k=i
    ·subst c1
     rw [if_pos rfl,if_pos (by omega),if_pos (by omega)]
     rw [show first+k-first=k by omega,List.getElem?_take,if_pos (by omega),h2]
    ·rw [if_neg c1]
     by_cases c2:first≤i∧i < first+k
     ·rw [if_pos c2,if_pos (by omega),List.getElem?_take,List.getElem?_take,if_pos (by omega),if_pos (by omega)]
     ·rw [if_neg c2,if_neg (by omega)]
   rw [e]
   exact ih n (k+1) h3 (by omega) (by omega)
 unfold ref14_learned
 rw [appL_some (by simp;omega)]
 simp only [bS,List.nil_append]
 have h0:behindV first (vs.take 0) ks=ks:=by unfold behindV;simp
 have:=key vs N 0 rfl (by omega) (by omega)
 rw [h0] at this
 exact this
end Gp
end
end
section
namespace Gp
open Go Go.Kx Gx
variable {N:Nat}
theorem gValid_some (hN:4194304 < N) (g:T5) (hg:SizeG g) (hs:SizeN g):∃ b,z133 N g=some b∧(b=true→validD g.Decls=true):=by
 unfold z133
 rw [named_eq hN g hg hs,numbered_eq hN g hg.e,declared_eq hN g.Decls hg.d hg.dd hs.d,ordered_eq hN g hg.e,timed_eq hN g hg.t]
 simp only [bS]
 cases h1:namedV g
 ·exact ⟨false,by simp,fun h=>by cases h⟩
 cases h2:numV g
 ·exact ⟨false,by simp,fun h=>by cases h⟩
 cases h3:validD g.Decls
 ·exact ⟨false,by simp,fun h=>by cases h⟩
 rw [orderV_eq]
 obtain ⟨o1,o2,o3,o4,o5,o6,o7⟩:=numV_head h2
 obtain ⟨F,f1,f2⟩:=spread_eq hN g h2 false g.Start o3 o4
 obtain ⟨L,l1,l2⟩:=spread_eq hN g h2 true g.End o5 o6
 rw [f1,l1]
 have cF:=containsInt_eq hN F (by rw [f2.len];omega) (-1)
 have cL:=containsInt_eq hN L (by rw [l2.len];omega) (-1)
 simp only [bS,cF,cL]
 cases apartV g<;>cases (g.Edges.all fun x => !(x.From==g.End))<;>cases timeV g<;>cases (F.any fun d=>d==-1)<;>cases (L.any fun d=>d==-1)<;>exact ⟨_,rfl,fun _=>by first | trivial | rfl⟩
end Gp
end
section
namespace Gp
open Go Go.Kx Gx
variable {N:Nat}
def stM (m:T8) (n:Int):Bool:=decide (n≥0) && decide (n < m.States)
theorem state_eq (m:T8) (n:Int):z241 N m n=some (stM m n):=by
 unfold z241 stM
 cases decide (n≥0)<;>rfl
def moveM (m:T8) (x:T9):Bool:=stM m x.From && (stM m x.To && (!decide (x.Peer < 0) && (!decide (x.Peer≥6) && (!(x.Peer==m.Role) && (!decide (x.Label < 0) && !decide (x.Label≥40))))))
def numM (m:T8):Bool := !decide (m.Role < 0) && (!decide (m.Role≥6) && (!decide (m.States < 1) && (!decide (m.States > 200) && (stM m m.Start && (!((m.Finals.length:Int) != m.States) && (!decide ((m.Moves.length:Int) > 400) && allV (fun x _=>moveM m x) m.Moves 0))))))
theorem mnum_eq (hN:4194304 < N) (m:T8):z188 N m=some (numM m):=by
 unfold z188 numM
 rw [state_eq]
 cases decide (m.Role < 0)
 case true=>rfl
 cases decide (m.Role≥6)
 case true=>rfl
 cases decide (m.States < 1)
 case true=>rfl
 cases decide (m.States > 200)
 case true=>rfl
 cases stM m m.Start
 case false=>rfl
 cases ((m.Finals.length:Int) != m.States)
 case true=>rfl
 cases h:decide ((m.Moves.length:Int) > 400)
 case true=>rfl
 simp only [decide_eq_false_iff_not] at h
 have:=allV_from (fun (x:T9) _=>moveM m x) (xs:=m.Moves) (F:=z188_l2 N m) (e:=some true) (n:=N) (by omega) (by
  intro n k x hk hx
  rw [z188_l2,lt_t hk,w64_succ (by omega)]
  simp only [cT,idx_nat,hx,bS,state_eq]
  unfold moveM
  cases stM m x.From
  case false=>rfl
  cases stM m x.To
  case false=>rfl
  cases decide (x.Peer < 0)
  case true=>rfl
  cases decide (x.Peer≥6)
  case true=>rfl
  cases (x.Peer==m.Role)
  case true=>rfl
  cases decide (x.Label < 0)
  case true=>rfl
  cases decide (x.Label≥40)<;>rfl) (by
  intro n k hk
  rw [z188_l2,lt_f hk]
  rfl)
 show z188_l2 N m N 0=_
 rw [this]
 cases allV (fun (x:T9) _=>moveM m x) m.Moves 0<;>rfl
structure NumM (m:T8):Prop where
 r0:0≤m.Role
 r1:m.Role < 6
 s0:1≤m.States
 s1:m.States≤200
 b0:0≤m.Start
 b1:m.Start < m.States
 f:(m.Finals.length:Int)=m.States
 n:m.Moves.length≤400
 mv:∀ x∈m.Moves,(0≤x.From∧x.From < m.States)∧(0≤x.To∧x.To < m.States)∧(0≤x.Peer∧x.Peer < 6)∧x.Peer≠m.Role∧0≤x.Label∧x.Label < 40
theorem numM_iff (m:T8):numM m=true↔NumM m:=by
 unfold numM stM
 simp only [Bool.and_eq_true,Bool.not_eq_true',decide_eq_false_iff_not,decide_eq_true_eq,bne_eq_false_iff_eq,allV_iff]
 constructor
 ·rintro ⟨h1,h2,h3,h4,⟨h5,h6⟩,h7,h8,h9⟩
  refine ⟨by omega,by omega,by omega,by omega,by omega,h6,h7,by omega,fun x hx=>?_⟩
  obtain ⟨i,hi⟩:=List.getElem?_of_mem hx
  have:=h9 i x hi
  unfold moveM stM at this
  simp only [Bool.and_eq_true,Bool.not_eq_true',decide_eq_false_iff_not,decide_eq_true_eq,beq_eq_false_iff_ne,ne_eq] at this
  obtain ⟨⟨a1,a2⟩,⟨a3,a4⟩,a5,a6,a7,a8,a9⟩:=this
  exact ⟨⟨by omega,a2⟩,⟨by omega,a4⟩,⟨by omega,by omega⟩,a7,by omega,by omega⟩
 ·intro h
  have:=h.n
  refine ⟨by have:=h.r0;omega,by have:=h.r1;omega,by have:=h.s0;omega,by have:=h.s1;omega,⟨by have:=h.b0;omega,h.b1⟩,h.f,by omega,fun i x hx=>?_⟩
  obtain ⟨⟨a1,a2⟩,⟨a3,a4⟩,⟨a5,a6⟩,a7,a8,a9⟩:=h.mv x (List.mem_of_getElem? hx)
  unfold moveM stM
  simp only [Bool.and_eq_true,Bool.not_eq_true',decide_eq_false_iff_not,decide_eq_true_eq,beq_eq_false_iff_ne,ne_eq]
  exact ⟨⟨by omega,a2⟩,⟨by omega,a4⟩,by omega,by omega,a7,by omega,by omega⟩
def cI (x y:Int):Int:=bif decide (x < y) then -1 else bif decide (x > y) then 1 else 0
def cmpM (x y:T9):Int:=bif !(x.Send==y.Send) then (bif x.Send then -1 else 1) else bif (cI x.Peer y.Peer != 0) then cI x.Peer y.Peer else bif (cI x.Label y.Label != 0) then cI x.Label y.Label else 0
theorem cI_eq (x y:Int):z232 N x y=some (cI x y):=by
 unfold z232 z270 cI
 simp only [bS,bne_self_eq_false,cond_false]
 cases decide (x < y)<;>cases decide (x > y)<;>rfl
theorem or_eq (hN:4194304 < N) (a b:Int):z231 N [a,b]=some (bif (a != 0) then a else bif (b != 0) then b else 0):=by
 obtain ⟨n,rfl⟩:∃ n,N=n+3:=⟨N-3,by omega⟩
 unfold z231
 rw [z231_l2,z231_l2,z231_l2]
 have w0:w64 ((0:Int)+1)=1:=by decide
 have w1:w64 ((1:Int)+1)=2:=by decide
 rw [w0,w1]
 have i0:idx [a,b] 0=some a:=rfl
 have i1:idx [a,b] 1=some b:=rfl
 rw [i0,i1]
 have l0:decide ((0:Int) < (([a,b]:List Int).length:Int))=true:=rfl
 have l1:decide ((1:Int) < (([a,b]:List Int).length:Int))=true:=rfl
 have l2:decide ((2:Int) < (([a,b]:List Int).length:Int))=false:=rfl
 rw [l0,l1,l2]
 simp only [cT,cond_false,bS]
 cases (a != 0)<;>cases (b != 0)<;>rfl
theorem ecmp_eq (hN:4194304 < N) (x y:T9):z245 N ⟨x.Send,x.Peer,x.Label⟩ ⟨y.Send,y.Peer,y.Label⟩=some (cmpM x y):=by
 unfold z245 cmpM
 rw [cI_eq,cI_eq]
 simp only [bS,or_eq hN]
 cases (x.Send==y.Send)
 ·cases x.Send<;>rfl
 ·cases (cI x.Peer y.Peer != 0)<;>cases (cI x.Label y.Label != 0)<;>rfl
def ltM (x y:T9):Prop:=(x.Send=true∧y.Send=false)∨(x.Send=y.Send∧(x.Peer < y.Peer∨(x.Peer=y.Peer∧x.Label < y.Label)))
theorem cI_cases (x y:Int):(x < y∧cI x y=-1)∨(x > y∧cI x y=1)∨(x=y∧cI x y=0):=by
 unfold cI
 by_cases h1:x < y
 ·exact .inl ⟨h1,by rw [dT h1];rfl⟩
 ·by_cases h2:x > y
  ·exact .inr (.inl ⟨h2,by rw [dF h1,dT h2];rfl⟩)
  ·exact .inr (.inr ⟨by omega,by rw [dF h1,dF h2];rfl⟩)
theorem cmpM_lt (x y:T9):cmpM x y < 0↔ltM x y:=by
 unfold cmpM ltM
 rcases cI_cases x.Peer y.Peer with ⟨p,hp⟩ | ⟨p,hp⟩ | ⟨p,hp⟩<;>rcases cI_cases x.Label y.Label with ⟨q,hq⟩ | ⟨q,hq⟩ | ⟨q,hq⟩<;>rw [hp,hq] <;>
  cases x.Send<;>cases y.Send<;>simp<;>omega
theorem cmpM_eq (x y:T9):cmpM x y=0↔x.Send=y.Send∧x.Peer=y.Peer∧x.Label=y.Label:=by
 unfold cmpM
 rcases cI_cases x.Peer y.Peer with ⟨p,hp⟩ | ⟨p,hp⟩ | ⟨p,hp⟩<;>rcases cI_cases x.Label y.Label with ⟨q,hq⟩ | ⟨q,hq⟩ | ⟨q,hq⟩<;>rw [hp,hq] <;>
  cases x.Send<;>cases y.Send<;>simp<;>omega
theorem cmp1_eq (hN:4194304 < N) (m:T8) {i k:Nat} {x y:T9} (hi:m.Moves[i]? = some x) (hk:m.Moves[k]? = some y):z243_8 N (i:Int) (k:Int) m=some (cmpM x y):=by
 unfold z243_8
 simp only [idx_nat,hi,hk,bS,z244,ecmp_eq hN]
end Gp
end
