/- The plain law, part 1: what the functions compute answers as the statement says. -/
import Derived.Lib.Bytealg
import Derived.Test.YtenajajnbmfijaaGreatDoorGlobalCodePure
set_option linter.all false
section
namespace Gp
open Go Go.Kx
theorem dF {p:Prop} [Decidable p] (h:¬p):decide p=false:=decide_eq_false h
theorem dT {p:Prop} [Decidable p] (h:p):decide p=true:=decide_eq_true h
theorem bS {α β:Type _} (a:α) (f:α→Option β):(some a).bind f=f a:=rfl
theorem cT {α:Sort _} {a b:α}:(bif true then a else b)=a:=rfl
theorem aA {α:Type _} (a b c:List α):(a++b)++c=a++(b++c):=List.append_assoc a b c
theorem w64_id {n:Int} (h1:-9223372036854775808≤n) (h2:n≤9223372036854775807):w64 n=n:=by
 show IntKind.i64.wrap n=n
 simp [IntKind.wrap,IntKind.signed,IntKind.bits]
 omega
theorem w64_succ {n:Nat} (h:n < 4611686018427387904):w64 ((n:Int)+1)=((n+1:Nat):Int):=by rw [w64_id (by omega) (by omega)];omega
theorem idx_nat {α:Type} (xs:List α) (k:Nat):idx xs (k:Int)=xs[k]? := by
 unfold idx
 have:decide (0≤(k:Int))=true:=by simp
 rw [this];simp
theorem idx_int {α:Type} {xs:List α} {i:Int} {k:Nat} (h:i=k):idx xs i=xs[k]? := by rw [h,idx_nat]
theorem setL'_nat {α:Type} (xs:List α) (k:Nat) (e:α):setL' xs (k:Int) e=xs.set k e:=by unfold setL';simp
theorem setL'_int {α:Type} {xs:List α} {i:Int} {k:Nat} (h:i=k) (e:α):setL' xs i e=xs.set k e:=by rw [h,setL'_nat]
theorem get_mid {α:Type} (A:List α) (x:α) (B:List α) {k:Nat} (h:A.length=k):(A++x::B)[k]? = some x:=by
 subst h;simp
theorem set_mid {α:Type} (A:List α) (x y:α) (B:List α) {k:Nat} (h:A.length=k):(A++x::B).set k y=A++y::B:=by
 subst h;simp
theorem idx_mid {α:Type} {L A:List α} {x:α} {B:List α} {i:Int} (hL:L=A++x::B) (h:i=(A.length:Int)):idx L i=some x:=by
 rw [idx_int h,hL];exact get_mid A x B rfl
theorem setL'_mid {α:Type} {L A:List α} {x:α} {B:List α} {i:Int} (hL:L=A++x::B) (h:i=(A.length:Int)) (y:α):setL' L i y=A++y::B:=by
 rw [setL'_int h,hL];exact set_mid A x y B rfl
theorem appL_some {α:Type} {xs ys:List α} (h:xs.length+ys.length≤4294967296):appL xs ys=some (xs++ys):=by
 unfold appL
 have:Nat.ble (xs.length+ys.length) lim=true:=Nat.ble_eq_true_of_le h
 rw [this];rfl
theorem drop_cons {α:Type} {xs:List α} {k:Nat} {x:α} {l:List α} (h:xs.drop k=x::l):k < xs.length∧xs[k]? = some x∧xs.drop (k+1)=l:=by
 have hlt:k < xs.length:=by
  rcases Nat.lt_or_ge k xs.length with h' | h'
  ·exact h'
  ·rw [List.drop_eq_nil_of_le h'] at h;cases h
 rw [List.drop_eq_getElem_cons hlt] at h
 simp only [List.cons.injEq] at h
 exact ⟨hlt,by rw [List.getElem?_eq_getElem hlt,h.1],h.2⟩
theorem drop_nil {α:Type} {xs:List α} {k:Nat} (h:xs.drop k=[]):xs.length≤k:=by simpa using h
theorem half {a b:Nat} (h:a+b < 4611686018427387904) {i j:Int} (hi:i=a) (hj:j=b):binO .shr .u64 (wk .u64 (w64 (i+j))) (1:Int)=some (((a+b) / 2:Nat):Int):=by
 subst hi hj
 rw [w64_id (by omega) (by omega)]
 have h1:wk .u64 ((a:Int)+b)=(a:Int)+b:=by
  show IntKind.u64.wrap _=_
  simp [IntKind.wrap,IntKind.signed,IntKind.bits]
  omega
 rw [h1]
 show some (((a:Int)+b).fdiv (2 ^ 1))=_
 rw [Int.fdiv_eq_ediv_of_nonneg _ (by decide)]
 simp
def lv {α γ:Type} (b:α→Nat→γ→γ) (e:γ):List α→Nat→γ
 | [],_=>e
 | x::l,k=>b x k (lv b e l (k+1))
theorem lv_of {α γ:Type} (xs:List α) (F:Nat→Int→γ) (b:α→Nat→γ→γ) (e:γ)
  (h1:∀ n k x,k < xs.length→xs[k]? = some x→F (n+1) (k:Int)=b x k (F n ((k+1:Nat):Int)))
  (h2:∀ n k,xs.length≤k→F (n+1) (k:Int)=e) :
  ∀ (l:List α) (k n:Nat),xs.drop k=l→l.length < n→F n (k:Int)=lv b e l k:=by
 intro l
 induction l with
 | nil =>
  intro k n h hn
  obtain ⟨n,rfl⟩:∃ m,n=m+1:=⟨n-1,by simp at hn;omega⟩
  exact h2 n k (drop_nil h)
 | cons x l ih =>
  intro k n h hn
  obtain ⟨n,rfl⟩:∃ m,n=m+1:=⟨n-1,by simp at hn;omega⟩
  obtain ⟨a,c,d⟩:=drop_cons h
  rw [h1 n k x a c,ih (k+1) n d (by simp at hn;omega)];rfl
theorem lv_from {α γ:Type} {xs:List α} {F:Nat→Int→γ} {b:α→Nat→γ→γ} {e:γ} {n:Nat} {i:Int} (hn:xs.length < n) (hi:i=((0:Nat):Int))
  (h1:∀ n k x,k < xs.length→xs[k]? = some x→F (n+1) (k:Int)=b x k (F n ((k+1:Nat):Int)))
  (h2:∀ n k,xs.length≤k→F (n+1) (k:Int)=e):F n i=lv b e xs 0:=by
 rw [hi];exact lv_of xs F b e h1 h2 xs 0 n rfl hn
theorem lt_t {k n:Nat} (h:k < n):decide ((k:Int) < (n:Int))=true:=by simp [h]
theorem lt_f {k n:Nat} (h:n≤k):decide ((k:Int) < (n:Int))=false:=by simp;omega
end Gp
end
section
namespace Gp
open Go Go.Kx
def Lt {α:Type} (K:α→Int) (r:α→α→Prop) (x y:α):Prop:=K x < K y∨(K x=K y∧r x y)
def Srt {α:Type} (K:α→Int) (r:α→α→Prop) (l:List α):Prop:=l.Pairwise (Lt K r)
def Cross {α:Type} (r:α→α→Prop) (A B:List α):Prop:=∀ x∈A,∀ y∈B,r x y
variable {α:Type} {K:α→Int} {r:α→α→Prop}
theorem Lt.le {x y:α} (h:Lt K r x y):K x≤K y:=by rcases h with h | h<;>omega
theorem Lt.of {x y:α} (h:K x≤K y) (hr:r x y):Lt K r x y:=by
 rcases Int.lt_or_eq_of_le h with h | h
 ·exact .inl h
 ·exact .inr ⟨h,hr⟩
theorem srt_app {A B:List α}:Srt K r (A++B)↔Srt K r A∧Srt K r B∧∀ x∈A,∀ y∈B,Lt K r x y:=by
 unfold Srt;exact List.pairwise_append
theorem srt_cons {x:α} {B:List α}:Srt K r (x::B)↔(∀ y∈B,Lt K r x y)∧Srt K r B:=by
 unfold Srt;exact List.pairwise_cons
theorem srt_nil:Srt K r ([]:List α):=List.Pairwise.nil
theorem srt_one (x:α):Srt K r [x]:=by simp [Srt]
theorem srt_last {A:List α} {y:α} (h:Srt K r (A++[y])):∀ x∈A++[y],K x≤K y:=by
 intro x hx
 rcases List.mem_append.mp hx with hx | hx
 ·exact ((srt_app.mp h).2.2 x hx y (by simp)).le
 ·simp at hx;subst hx;exact Int.le_refl _
theorem srt_first {A:List α} {y:α} (h:Srt K r (y::A)):∀ x∈y::A,K y≤K x:=by
 intro x hx
 rcases List.mem_cons.mp hx with hx | hx
 ·subst hx;exact Int.le_refl _
 ·exact ((srt_cons.mp h).1 x hx).le
theorem cross_perm {A A' B B':List α} (h:Cross r A B) (ha:A'.Perm A) (hb:B'.Perm B):Cross r A' B' :=
 fun x hx y hy=>h x (ha.mem_iff.mp hx) y (hb.mem_iff.mp hy)
theorem srt_ins {A1 A2:List α} {x:α} (h:Srt K r (A1++A2)) (h1:∀ y∈A1,K y≤K x) (h1r:∀ y∈A1,r y x) (h2:∀ y∈A2,K x < K y):Srt K r (A1++x::A2):=by
 obtain ⟨a,b,c⟩:=srt_app.mp h
 refine srt_app.mpr ⟨a,srt_cons.mpr ⟨fun y hy=>.inl (h2 y hy),b⟩,?_⟩
 intro y hy z hz
 rcases List.mem_cons.mp hz with hz | hz
 ·subst hz;exact Lt.of (h1 y hy) (h1r y hy)
 ·exact c y hy z hz
theorem srt_ins' {A1 A2:List α} {x:α} (h:Srt K r (A1++A2)) (h1:∀ y∈A1,K y < K x) (h2:∀ y∈A2,K x≤K y) (h2r:∀ y∈A2,r x y):Srt K r (A1++x::A2):=by
 obtain ⟨a,b,c⟩:=srt_app.mp h
 refine srt_app.mpr ⟨a,srt_cons.mpr ⟨fun y hy=>Lt.of (h2 y hy) (h2r y hy),b⟩,?_⟩
 intro y hy z hz
 rcases List.mem_cons.mp hz with hz | hz
 ·subst hz;exact .inl (h1 y hy)
 ·exact c y hy z hz
theorem cut_at (L:List α) (k:Nat) (h:k≤L.length):∃ A B,L=A++B∧A.length=k :=
 ⟨L.take k,L.drop k,(List.take_append_drop k L).symm,by simp;omega⟩
theorem cut_end (L:List α) (k:Nat) (h:k≤L.length):∃ A B,L=A++B∧B.length=k:=by
 obtain ⟨A,B,e,hl⟩:=cut_at L (L.length-k) (by omega)
 refine ⟨A,B,e,?_⟩
 have:=congrArg List.length e
 simp at this;omega
theorem cut_one (L:List α) (k:Nat) (h:k < L.length):∃ A x B,L=A++x::B∧A.length=k:=by
 obtain ⟨A,B,e,hl⟩:=cut_at L k (by omega)
 cases B with
 | nil=>have:=congrArg List.length e;simp at this;omega
 | cons x B=>exact ⟨A,x,B,e,hl⟩
theorem get_at {L A:List α} {x:α} {B:List α} {k:Nat} (hL:L=A++x::B) (h:A.length=k):L[k]? = some x:=by rw [hL];exact get_mid A x B h
theorem srt_uniq (has:∀ x y,Lt K r x y→¬ Lt K r y x):∀ (A B:List α),A.Perm B→Srt K r A→Srt K r B→A=B
 | [],B,h,_,_=>by simpa using h.symm
 | x::A,B,h,ha,hb=>by
  cases B with
  | nil=>exact absurd h.length_eq (by simp)
  | cons y B =>
   by_cases hxy:x=y
   ·subst hxy
    rw [srt_uniq has A B ((List.perm_cons x).mp h) (srt_cons.mp ha).2 (srt_cons.mp hb).2]
   ·exfalso
    have h1:x∈y::B:=h.mem_iff.mp (by simp)
    have h2:y∈x::A:=h.mem_iff.mpr (by simp)
    have h3:x∈B:=by rcases List.mem_cons.mp h1 with h | h;exact absurd h hxy;exact h
    have h4:y∈A:=by rcases List.mem_cons.mp h2 with h | h;exact absurd h.symm hxy;exact h
    exact has _ _ ((srt_cons.mp ha).1 y h4) ((srt_cons.mp hb).1 x h3)
inductive Bk (K:α→Int) (r:α→α→Prop) (n:Nat):List α→List α→Prop
 | last (o c:List α):c.length≤n→c.Perm o→Srt K r c→Bk K r n o c
 | cons (o1 c1 o2 c2:List α):c1.length=n→c1.Perm o1→Srt K r c1→Bk K r n o2 c2→Bk K r n (o1++o2) (c1++c2)
theorem Bk.two {n:Nat} {o c:List α} (h:Bk K r n o c) (hn:0 < n) (hc:2 * n≤c.length) :
  ∃ o1 o2 o3 c1 c2 c3,o=o1++(o2++o3)∧c=c1++(c2++c3)∧c1.length=n∧c2.length=n∧c1.Perm o1∧c2.Perm o2∧Srt K r c1∧Srt K r c2∧Bk K r n o3 c3:=by
 cases h with
 | last _ _ h1 h2 h3=>omega
 | cons o1 c1 o2 c2 h1 h2 h3 h4 =>
  cases h4 with
  | last _ _ g1 g2 g3 =>
   simp at hc
   exact ⟨o1,o2,[],c1,c2,[],by simp,by simp,h1,by omega,h2,g2,h3,g3,.last _ _ (by simp) (by simp) srt_nil⟩
  | cons p1 d1 p2 d2 g1 g2 g3 g4=>exact ⟨o1,p1,p2,c1,d1,d2,rfl,rfl,h1,g1,h2,g2,h3,g3,g4⟩
theorem Bk.few {n:Nat} {o c:List α} (h:Bk K r n o c) (hn:0 < n) (hc:c.length < 2 * n) :
  (c.length≤n∧c.Perm o∧Srt K r c)∨∃ o1 o2 c1 c2,o=o1++o2∧c=c1++c2∧c1.length=n∧0 < c2.length∧c2.length≤n∧c1.Perm o1∧c2.Perm o2∧Srt K r c1∧Srt K r c2:=by
 cases h with
 | last _ _ h1 h2 h3=>exact .inl ⟨h1,h2,h3⟩
 | cons o1 c1 o2 c2 h1 h2 h3 h4 =>
  cases h4 with
  | last _ _ g1 g2 g3 =>
   rcases Nat.eq_zero_or_pos c2.length with h0 | h0
   ·have:c2=[]:=List.length_eq_zero_iff.mp h0
    subst this
    have:o2=[]:=by simpa using g2.symm
    subst this
    exact .inl ⟨by simp;omega,by simpa using h2,by simpa using h3⟩
   ·exact .inr ⟨o1,o2,c1,c2,rfl,rfl,h1,h0,g1,h2,g2,h3,g3⟩
  | cons p1 d1 p2 d2 g1 g2 g3 g4=>simp at hc;omega
theorem Bk.all {n:Nat} {o c:List α} (h:Bk K r n o c) (hn:0 < n) (hc:c.length≤n):c.Perm o∧Srt K r c:=by
 rcases h.few hn (by omega) with h | ⟨o1,o2,c1,c2,h1,h2,h3,h4,_⟩
 ·exact h.2
 ·subst h2;simp at hc;omega
theorem Bk.perm {n:Nat} {o c:List α} (h:Bk K r n o c):c.Perm o:=by
 induction h with
 | last _ _ _ h _=>exact h
 | cons _ _ _ _ _ h _ _ ih=>exact h.append ih
end Gp
end
section
namespace Gp
open Go Go.Kx Gx
variable {K:Int→Int} {r:Int→Int→Prop} {V:Int→Prop} {g:T4}
def e_Cmp (K:Int→Int) (V:Int→Prop) (g:T4):Prop:=∀ N x y,4≤N→V x→V y→∃ c,z48_8 N x y g=some c∧(decide (c < 0)=decide (K x < K y))
theorem e_ins_in (hc:e_Cmp K V g) {N:Nat} (hN:4≤N) (P:List Int) (x:Int) (hx:V x) (a v8:Int) (ag:List Int→Int→Option (List Int)) (ha:a=(P.length:Int)) :
  ∀ (n:Nat) (A T:List Int) (L:List Int) (j:Int),A.length < n→(∀ y∈A,V y)→P.length+A.length≤4194304→L=P++(A++x::T)→j=((P.length+A.length:Nat):Int) →
  ∃ A1 A2,A=A1++A2∧(∀ y∈A2,K x < K y)∧(∀ B y,A1=B++[y]→K y≤K x)∧z146_9_l4 N a g v8 ag n L j=z146_9_k3 v8 ag (P++(A1++x::(A2++T))):=by
 intro n
 induction n with
 | zero=>intro A T L j h;omega
 | succ n ih =>
  intro A T L j hn hV hs hL hj
  rcases List.eq_nil_or_concat A with hA | ⟨A',y,hA⟩
  ·subst hA
   refine ⟨[],[],rfl,by simp,by simp,?_⟩
   have:decide (j > a)=false:=by simp at hj;simp;omega
   simp only [z146_9_l4,this,cond_false,hL]
   rfl
  ·rw [List.concat_eq_append] at hA
   subst hA
   simp only [List.length_append,List.length_cons,List.length_nil] at hj hs hn
   have h1:decide (j > a)=true:=by simp;omega
   have hw:w64 (j-1)=((P.length+A'.length:Nat):Int):=by rw [w64_id (by omega) (by omega)];omega
   have e1:idx L j=some x:=idx_mid (A:=P++(A'++[y])) (B:=T) (by rw [hL];simp) (by rw [hj];simp)
   have e2:idx L (w64 (j-1))=some y:=idx_mid (A:=P++A') (B:=x::T) (by rw [hL];simp) (by rw [hw];simp)
   obtain ⟨c,hc1,hc2⟩:=hc N x y hN hx (hV y (by simp))
   by_cases hxy:K x < K y
   ·have e3:setL' L j y=(P++(A'++[y]))++y::T:=setL'_mid (A:=P++(A'++[y])) (x:=x) (by rw [hL];simp) (by rw [hj];simp) y
    have e4:idx (setL' L j y) (w64 (j-1))=some y:=idx_mid (A:=P++A') (B:=y::T) (by rw [e3];simp) (by rw [hw];simp)
    have e5:setL' (setL' L j y) (w64 (j-1)) x=(P++A')++x::(y::T):=setL'_mid (A:=P++A') (x:=y) (by rw [e3];simp) (by rw [hw];simp) x
    obtain ⟨A1,A2,p1,p2,p3,p4⟩:=ih A' (y::T) (setL' (setL' L j y) (w64 (j-1)) x) _ (by omega) (fun z hz=>hV z (by simp [hz])) (by omega) (by rw [e5];simp) hw
    refine ⟨A1,A2++[y],by rw [p1];simp,?_,p3,?_⟩
    ·intro z hz
     rcases List.mem_append.mp hz with hz | hz
     ·exact p2 z hz
     ·simp at hz;subst hz;exact hxy
    ·simp only [z146_9_l4,h1,cT,e1,e2,bS,hc1,hc2,dT hxy,e4]
     rw [p4];simp
   ·refine ⟨A'++[y],[],by simp,by simp,?_,?_⟩
    ·intro B z hz
     have:=(List.append_inj' hz rfl).2
     simp at this;subst this;omega
    ·simp only [z146_9_l4,h1,cT,e1,e2,bS,hc1,hc2,dF hxy,cond_false]
     rw [hL];simp
theorem e_ins_out (hc:e_Cmp K V g) {N:Nat} (P Q:List Int) (a b:Int) (ha:a=(P.length:Int)) :
  ∀ (n:Nat) (D C R:List Int) (L:List Int) (i:Int),R.length < n→P.length+(D.length+R.length)+4 < N→P.length+(D.length+R.length)≤4194304→(∀ y∈D,V y)→(∀ y∈R,V y) →
  C.Perm D→Srt K r C→(D++R).Pairwise r→L=P++(C++(R++Q))→i=((P.length+D.length:Nat):Int)→b=((P.length+(D.length+R.length):Nat):Int) →
  ∃ C',C'.Perm (D++R)∧Srt K r C'∧z146_9_l2 N a b g n L i=some (P++(C'++Q)):=by
 intro n
 induction n with
 | zero=>intro D C R L i h;omega
 | succ n ih =>
  intro D C R L i hn hN hs hVD hVR hp hS hr hL hi hb
  cases R with
  | nil =>
   have:decide (i < b)=false:=by simp at hb;simp;omega
   exact ⟨C,by simpa using hp,hS,by simp only [z146_9_l2,this,cond_false,hL];simp [z146_9_k1]⟩
  | cons x R =>
   simp only [List.length_cons] at hn hN hs hb
   have h1:decide (i < b)=true:=by simp;omega
   have hl:=hp.length_eq
   obtain ⟨A1,A2,p1,p2,p3,p4⟩:=e_ins_in hc (N:=N) (by omega) P x (hVR x (by simp)) a i (z146_9_l2 N a b g n) ha N C (R++Q) L i (by omega)
    (fun y hy=>hVD y (hp.mem_iff.mp hy)) (by omega) (by rw [hL];simp) (by rw [hi,hl])
   subst p1
   have hS':=hS
   obtain ⟨s1,s2,s3⟩:=srt_app.mp hS
   have hD:∀ y∈A1,y∈D:=fun y hy=>hp.mem_iff.mp (by simp [hy])
   have hrx:∀ y∈D,r y x:=fun y hy=>(List.pairwise_append.mp hr).2.2 y hy x (by simp)
   have hins:Srt K r (A1++x::A2):=by
    refine srt_ins hS ?_ (fun y hy=>hrx y (hD y hy)) p2
    rcases List.eq_nil_or_concat A1 with h | ⟨B,z,h⟩
    ·subst h;simp
    ·rw [List.concat_eq_append] at h
     subst h
     intro y hy
     exact Int.le_trans (srt_last s1 y hy) (p3 B z rfl)
   have hperm:(A1++x::A2).Perm (D++[x]):=by
    refine List.perm_middle.trans ?_
    refine (List.Perm.cons x hp).trans ?_
    exact (List.perm_append_singleton x D).symm
   obtain ⟨C',q1,q2,q3⟩:=ih (D++[x]) (A1++x::A2) R _ ((w64 (i+1))) (by omega) (by simp;omega) (by simp;omega)
    (by intro y hy;rcases List.mem_append.mp hy with h | h;exact hVD y h;simp at h;subst h;exact hVR y (by simp))
    (fun y hy=>hVR y (by simp [hy])) hperm hins (by simpa using hr) rfl
    (by rw [hi,w64_succ (by omega)];simp;omega) (by rw [hb];simp;omega)
   refine ⟨C',by simpa using q1,q2,?_⟩
   simp only [z146_9_l2,h1,cT,p4,z146_9_k3]
   rw [← q3];simp
theorem e_ins (hc:e_Cmp K V g) {N:Nat} (P D Q:List Int) (a b:Int) (L:List Int) (hN:P.length+D.length+8 < N) (hs:P.length+D.length≤4194304) (hV:∀ y∈D,V y)
  (hr:D.Pairwise r) (hL:L=P++(D++Q)) (ha:a=(P.length:Int)) (hb:b=((P.length+D.length:Nat):Int)) :
  ∃ C,C.Perm D∧Srt K r C∧z146_9 N L a b g=some (P++(C++Q)):=by
 cases D with
 | nil =>
  refine ⟨[],.refl _,srt_nil,?_⟩
  have hw:w64 (a+1)=a+1:=w64_id (by omega) (by simp at hs;omega)
  obtain ⟨n,rfl⟩:∃ m,N=m+1:=⟨N-1,by omega⟩
  have:decide (a+1 < b)=false:=by simp at hb;simp;omega
  simp only [z146_9,hw,z146_9_l2,this,cond_false,hL,z146_9_k1]
 | cons x D =>
  simp only [List.length_cons] at hs hN hb
  obtain ⟨C,q1,q2,q3⟩:=e_ins_out (r:=r) hc (N:=N) P Q a b ha N [x] [x] D L (w64 (a+1)) (by omega) (by simp;omega) (by simp;omega)
   (by intro y hy;simp at hy;subst hy;exact hV y (by simp)) (fun y hy=>hV y (by simp [hy])) (.refl _) (srt_one x) (by simpa using hr) (by rw [hL];simp)
   (by rw [ha,w64_succ (by omega)];simp) (by rw [hb];simp;omega)
  exact ⟨C,by simpa using q1,q2,by simpa [z146_9] using q3⟩
theorem e_swp_in (a b m:Int):∀ (n:Nat) (X Y P Q T L:List Int) (i:Int),X.length < n→X.length=Y.length→P.length+X.length+Q.length+Y.length≤4194304→0≤i→m≤4194304 →
  L=P++(X++(Q++(Y++T)))→a+i=(P.length:Int)→b+i=((P.length+(X.length+Q.length):Nat):Int)→m-i=(X.length:Int) →
  z183_10_l2 a b m n L i=some (P++(Y++(Q++(X++T)))):=by
 intro n
 induction n with
 | zero=>intro X Y P Q T L i h;omega
 | succ n ih =>
  intro X Y P Q T L i hn hl hs hi0 hi hL ha hb hm
  cases X with
  | nil =>
   have:Y=[]:=by simpa using hl.symm
   subst this
   have:decide (i < m)=false:=by simp at hm;simp;omega
   simp only [z183_10_l2,this,cond_false,hL,z183_10_k1]
  | cons x X =>
   cases Y with
   | nil=>simp at hl
   | cons y Y =>
    simp only [List.length_cons] at hn hl hs hb hm
    have h1:decide (i < m)=true:=by simp;omega
    have wa:w64 (a+i)=(P.length:Int):=by rw [w64_id (by omega) (by omega)];omega
    have wb:w64 (b+i)=((P.length+(X.length+1+Q.length):Nat):Int):=by rw [w64_id (by omega) (by omega)];omega
    have wi:w64 (i+1)=i+1:=w64_id (by omega) (by omega)
    have e1:idx L (w64 (b+i))=some y:=idx_mid (A:=P++(x::X++Q)) (B:=Y++T) (by rw [hL];simp) (by rw [wb];simp;omega)
    have e2:idx L (w64 (a+i))=some x:=idx_mid (A:=P) (B:=X++(Q++(y::Y++T))) (by rw [hL];simp) (by rw [wa])
    have e3:setL' L (w64 (a+i)) y=P++y::(X++(Q++(y::Y++T))):=setL'_mid (x:=x) (by rw [hL];simp) (by rw [wa]) y
    have e4:idx (setL' L (w64 (a+i)) y) (w64 (b+i))=some y:=idx_mid (A:=P++(y::X++Q)) (B:=Y++T) (by rw [e3];simp) (by rw [wb];simp;omega)
    have e5:setL' (setL' L (w64 (a+i)) y) (w64 (b+i)) x=(P++(y::X++Q))++x::(Y++T):=setL'_mid (x:=y) (by rw [e3];simp) (by rw [wb];simp;omega) x
    simp only [z183_10_l2,h1,cT,e1,e2,bS,e4]
    rw [e5,wi,ih X Y (P++[y]) (Q++[x]) T _ (i+1) (by omega) (by omega) (by simp;omega) (by omega) (by omega) (by simp) (by simp;omega) (by simp;omega) (by omega)]
    simp
theorem e_swp {N:Nat} (X Y P Q T L:List Int) (a b m:Int) (hN:X.length < N) (hl:X.length=Y.length) (hs:P.length+X.length+Q.length+Y.length≤4194304)
  (hL:L=P++(X++(Q++(Y++T)))) (ha:a=(P.length:Int)) (hb:b=((P.length+(X.length+Q.length):Nat):Int)) (hm:m=(X.length:Int)) :
  z183_10 N L a b m g=some (P++(Y++(Q++(X++T)))):=by
 unfold z183_10
 exact e_swp_in a b m N X Y P Q T L 0 hN hl hs (by omega) (by omega) hL (by omega) (by omega) (by omega)
theorem e_rot_in {N:Nat} (m:Int):∀ (n:Nat) (X Y P T L:List Int) (i j:Int),X.length+Y.length < n→X.length < N→Y.length < N→P.length+X.length+Y.length≤4194304→0 < X.length→0 < Y.length →
  L=P++(X++(Y++T))→m=((P.length+X.length:Nat):Int)→i=(X.length:Int)→j=(Y.length:Int) →
  z168_11_l2 N m g n L i j=some (P++(Y++(X++T))):=by
 intro n
 induction n with
 | zero=>intro X Y P T L i j h;omega
 | succ n ih =>
  intro X Y P T L i j hn hX hY hs hX0 hY0 hL hm hi hj
  have wmi:w64 (m-i)=(P.length:Int):=by rw [w64_id (by omega) (by omega)];omega
  rcases Nat.lt_trichotomy X.length Y.length with h | h | h
  ·have h1:(i != j)=true:=by simp;omega
   have h2:decide (i > j)=false:=by simp;omega
   have wj:w64 (w64 (m+j)-i)=((P.length+Y.length:Nat):Int):=by rw [w64_id (n:=m+j) (by omega) (by omega),w64_id (by omega) (by omega)];omega
   have wji:w64 (j-i)=j-i:=w64_id (by omega) (by omega)
   obtain ⟨Y1,Y2,hY12,hl2⟩:=cut_end Y X.length (by omega)
   have hYl:Y.length=Y1.length+Y2.length:=by rw [hY12];simp
   have hsw:=e_swp (g:=g) (N:=N) X Y2 P Y1 T L (w64 (m-i)) (w64 (w64 (m+j)-i)) i hX hl2.symm (by omega) (by rw [hL,hY12];simp) (by rw [wmi]) (by rw [wj,hYl];omega) hi
   simp only [z168_11_l2,h1,h2,cT,cond_false,hsw,bS]
   rw [wji,ih Y2 Y1 P (X++T) _ i (j-i) (by omega) (by omega) (by omega) (by omega) (by omega) (by omega) rfl (by omega) (by omega) (by omega),hY12]
   simp
  ·have h1:(i != j)=false:=by simp;omega
   have hsw:=e_swp (g:=g) (N:=N) X Y P [] T L (w64 (m-i)) m i hX h (by simp;omega) (by rw [hL];simp) (by rw [wmi]) (by rw [hm];simp) hi
   simp only [z168_11_l2,h1,cond_false,z168_11_k1,hsw,bS]
   simp
  ·have h1:(i != j)=true:=by simp;omega
   have h2:decide (i > j)=true:=by simp;omega
   have wij:w64 (i-j)=i-j:=w64_id (by omega) (by omega)
   obtain ⟨X1,X2,hX12,hl1⟩:=cut_at X Y.length (by omega)
   have hXl:X.length=X1.length+X2.length:=by rw [hX12];simp
   have hsw:=e_swp (g:=g) (N:=N) X1 Y P X2 T L (w64 (m-i)) m j (by omega) hl1 (by omega) (by rw [hL,hX12];simp) (by rw [wmi]) (by rw [hm,hXl]) (by omega)
   simp only [z168_11_l2,h1,h2,cT,hsw,bS]
   rw [wij,ih X2 X1 (P++Y) T _ (i-j) j (by omega) (by omega) (by omega) (by simp;omega) (by omega) (by omega) (by simp) (by simp;omega) (by omega) (by omega),hX12]
   simp
theorem e_rot {N:Nat} (X Y P T L:List Int) (a m b:Int) (hN:X.length+Y.length < N) (hs:P.length+X.length+Y.length≤4194304) (hX:0 < X.length) (hY:0 < Y.length)
  (hL:L=P++(X++(Y++T))) (ha:a=(P.length:Int)) (hm:m=((P.length+X.length:Nat):Int)) (hb:b=((P.length+(X.length+Y.length):Nat):Int)) :
  z168_11 N L a m b g=some (P++(Y++(X++T))):=by
 unfold z168_11
 have w1:w64 (m-a)=(X.length:Int):=by rw [w64_id (by omega) (by omega)];omega
 have w2:w64 (b-m)=(Y.length:Int):=by rw [w64_id (by omega) (by omega)];omega
 rw [w1,w2]
 exact e_rot_in m N X Y P T L _ _ hN (by omega) (by omega) hs hX hY hL hm rfl rfl
end Gp
end
section
namespace Gp
open Go Go.Kx Gx
variable {K:Int→Int} {r:Int→Int→Prop} {V:Int→Prop} {g:T4}
theorem e_fwd (v:Int):∀ (n:Nat) (B P R L:List Int) (x:Int) (k:Int),B.length < n→P.length+B.length≤4194304→L=P++x::(B++R)→k=(P.length:Int)→v=((P.length+(B.length+1):Nat):Int) →
  z147_12_l2 v n L k=some (P++(B++x::R)):=by
 intro n
 induction n with
 | zero=>intro B P R L x k h;omega
 | succ n ih =>
  intro B P R L x k hn hs hL hk hv
  have wv:w64 (v-1)=v-1:=w64_id (by omega) (by omega)
  cases B with
  | nil =>
   have:decide (k < w64 (v-1))=false:=by rw [wv];simp at hv;simp;omega
   simp only [z147_12_l2,this,cond_false,z147_12_k1,hL];rfl
  | cons y B =>
   simp only [List.length_cons] at hn hs hv
   have h1:decide (k < w64 (v-1))=true:=by rw [wv];simp;omega
   have wk':w64 (k+1)=((P.length+1:Nat):Int):=by rw [w64_id (by omega) (by omega)];omega
   have e1:idx L (w64 (k+1))=some y:=idx_mid (A:=P++[x]) (B:=B++R) (by rw [hL];simp) (by rw [wk'];simp)
   have e2:idx L k=some x:=idx_mid (A:=P) (B:=y::B++R) (by rw [hL]) hk
   have e3:setL' L k y=P++y::(y::B++R):=setL'_mid (x:=x) (by rw [hL]) hk y
   have e4:idx (setL' L k y) (w64 (k+1))=some y:=idx_mid (A:=P++[y]) (B:=B++R) (by rw [e3];simp) (by rw [wk'];simp)
   have e5:setL' (setL' L k y) (w64 (k+1)) x=(P++[y])++x::(B++R):=setL'_mid (x:=y) (by rw [e3];simp) (by rw [wk'];simp) x
   simp only [z147_12_l2,h1,cT,e1,e2,bS,e4]
   rw [e5,ih B (P++[y]) R _ x (w64 (k+1)) (by omega) (by simp;omega) rfl (by rw [wk'];simp) (by rw [hv];simp;omega)]
   simp
theorem e_bwd (v:Int):∀ (n:Nat) (A P R L:List Int) (y:Int) (k:Int),A.length < n→P.length+A.length≤4194304→L=P++(A++y::R)→k=((P.length+A.length:Nat):Int)→v=(P.length:Int) →
  z147_12_l6 v n L k=some (P++y::(A++R)):=by
 intro n
 induction n with
 | zero=>intro A P R L y k h;omega
 | succ n ih =>
  intro A P R L y k hn hs hL hk hv
  rcases List.eq_nil_or_concat A with hA | ⟨A',x,hA⟩
  ·subst hA
   have:decide (k > v)=false:=by simp at hk;simp;omega
   simp only [z147_12_l6,this,cond_false,z147_12_k5,hL];rfl
  ·rw [List.concat_eq_append] at hA
   subst hA
   simp only [List.length_append,List.length_cons,List.length_nil] at hn hs hk
   have h1:decide (k > v)=true:=by simp;omega
   have wk':w64 (k-1)=((P.length+A'.length:Nat):Int):=by rw [w64_id (by omega) (by omega)];omega
   have e1:idx L (w64 (k-1))=some x:=idx_mid (A:=P++A') (B:=y::R) (by rw [hL];simp) (by rw [wk'];simp)
   have e2:idx L k=some y:=idx_mid (A:=P++(A'++[x])) (B:=R) (by rw [hL];simp) (by rw [hk];simp)
   have e3:setL' L k x=(P++(A'++[x]))++x::R:=setL'_mid (x:=y) (by rw [hL];simp) (by rw [hk];simp) x
   have e4:idx (setL' L k x) (w64 (k-1))=some x:=idx_mid (A:=P++A') (B:=x::R) (by rw [e3];simp) (by rw [wk'];simp)
   have e5:setL' (setL' L k x) (w64 (k-1)) y=(P++A')++y::(x::R):=setL'_mid (x:=x) (by rw [e3];simp) (by rw [wk'];simp) y
   simp only [z147_12_l6,h1,cT,e1,e2,bS,e4]
   rw [e5,ih A' P (x::R) _ y (w64 (k-1)) (by omega) (by omega) (by simp) wk' hv]
   simp
theorem e_find1 (hc:e_Cmp K V g) {N:Nat} (hN:4≤N) (P Q L B:List Int) (x:Int) (a:Int) (hV:∀ y∈L,V y) (hS:Srt K r B) (hL:L=P++x::(B++Q)) (ha:a=(P.length:Int)) (hs:P.length+B.length+1≤4194304) :
  ∀ (n:Nat) (B1 M B2:List Int) (i j:Int),M.length < n→B=B1++(M++B2)→(∀ y∈B1,K y < K x)→(∀ y∈B2,K x≤K y)→i=((P.length+1+B1.length:Nat):Int)→j=((P.length+1+(B1.length+M.length):Nat):Int) →
  ∃ B1 B2,B=B1++B2∧(∀ y∈B1,K y < K x)∧(∀ y∈B2,K x≤K y)∧z147_12_l4 N L a g n i j=z147_12_k3 N L a ((P.length+1+B1.length:Nat):Int):=by
 intro n
 induction n with
 | zero=>intro B1 M B2 i j h;omega
 | succ n ih =>
  intro B1 M B2 i j hn hB h1 h2 hi hj
  have hBl:B.length=B1.length+(M.length+B2.length):=by rw [hB];simp
  rcases Nat.eq_zero_or_pos M.length with h0 | h0
  ·have:M=[]:=List.length_eq_zero_iff.mp h0
   subst this
   have:decide (i < j)=false:=by simp at hj;simp;omega
   refine ⟨B1,B2,by simpa using hB,h1,h2,?_⟩
   simp only [z147_12_l4,this,cond_false]
   rw [hi]
  ·have hlt:decide (i < j)=true:=by simp;omega
   have hh:=half (a:=P.length+1+B1.length) (b:=P.length+1+(B1.length+M.length)) (by omega) hi hj
   obtain ⟨M1,y,M2,hM,hk⟩:=cut_one M ((P.length+1+B1.length+(P.length+1+(B1.length+M.length))) / 2-(P.length+1+B1.length)) (by omega)
   have hMl:M.length=M1.length+(1+M2.length):=by rw [hM];simp;omega
   generalize hhv:(P.length+1+B1.length+(P.length+1+(B1.length+M.length))) / 2=h at hh hk
   have hhe:h=P.length+1+(B1.length+M1.length):=by omega
   have wh:w64 (h:Int)=(h:Int):=w64_id (by omega) (by omega)
   have whs:w64 ((h:Int)+1)=((h+1:Nat):Int):=w64_succ (by omega)
   have hLe:L=(P++x::(B1++M1))++y::(M2++(B2++Q)):=by rw [hL,hB,hM];simp
   have e1:idx L (w64 (h:Int))=some y:=idx_mid hLe (by rw [wh,hhe];simp;omega)
   have e2:idx L a=some x:=idx_mid (A:=P) (B:=B++Q) hL ha
   obtain ⟨c,c1,c2⟩:=hc N y x hN (hV y (by rw [hLe];simp)) (hV x (by rw [hL];simp))
   have hSM:Srt K r (M1++(y::M2)):=by
    have:=hS;rw [hB,hM] at this
    exact (srt_app.mp (srt_app.mp this).2.1).1
   by_cases hxy:K y < K x
   ·obtain ⟨C1,C2,q1,q2,q3,q4⟩:=ih (B1++(M1++[y])) M2 B2 (w64 (w64 (h:Int)+1)) j (by omega) (by rw [hB,hM];simp)
     (by
      intro z hz
      rcases List.mem_append.mp hz with hz | hz
      ·exact h1 z hz
      ·have hS':Srt K r ((M1++[y])++M2):=by simpa using hSM
       exact Int.lt_of_le_of_lt (srt_last (srt_app.mp hS').1 z hz) hxy) h2 (by rw [wh,whs,hhe];simp;omega) (by rw [hj,hMl];simp;omega)
    refine ⟨C1,C2,q1,q2,q3,?_⟩
    simp only [z147_12_l4,hlt,cT,hh,bS,e1,e2,c1,c2,dT hxy]
    exact q4
   ·obtain ⟨C1,C2,q1,q2,q3,q4⟩:=ih B1 M1 (y::M2++B2) i (w64 (h:Int)) (by omega) (by rw [hB,hM];simp) h1
     (by
      intro z hz
      rcases List.mem_append.mp hz with hz | hz
      ·exact Int.le_trans (by omega) (srt_first (srt_app.mp hSM).2.1 z hz)
      ·exact h2 z hz) hi (by rw [wh,hhe])
    refine ⟨C1,C2,q1,q2,q3,?_⟩
    simp only [z147_12_l4,hlt,cT,hh,bS,e1,e2,c1,c2,dF hxy,cond_false]
    exact q4
theorem e_find2 (hc:e_Cmp K V g) {N:Nat} (hN:4≤N) (P Q L A:List Int) (y:Int) (m:Int) (hV:∀ y∈L,V y) (hS:Srt K r A) (hL:L=P++(A++y::Q)) (hm:m=((P.length+A.length:Nat):Int)) (hs:P.length+A.length+1≤4194304) :
  ∀ (n:Nat) (A1 M A2:List Int) (i j:Int),M.length < n→A=A1++(M++A2)→(∀ z∈A1,K z≤K y)→(∀ z∈A2,K y < K z)→i=((P.length+A1.length:Nat):Int)→j=((P.length+(A1.length+M.length):Nat):Int) →
  ∃ A1 A2,A=A1++A2∧(∀ z∈A1,K z≤K y)∧(∀ z∈A2,K y < K z)∧z147_12_l8 N L m g n i j=z147_12_k7 N L m ((P.length+A1.length:Nat):Int):=by
 intro n
 induction n with
 | zero=>intro A1 M A2 i j h;omega
 | succ n ih =>
  intro A1 M A2 i j hn hA h1 h2 hi hj
  have hAl:A.length=A1.length+(M.length+A2.length):=by rw [hA];simp
  rcases Nat.eq_zero_or_pos M.length with h0 | h0
  ·have:M=[]:=List.length_eq_zero_iff.mp h0
   subst this
   have:decide (i < j)=false:=by simp at hj;simp;omega
   refine ⟨A1,A2,by simpa using hA,h1,h2,?_⟩
   simp only [z147_12_l8,this,cond_false]
   rw [hi]
  ·have hlt:decide (i < j)=true:=by simp;omega
   have hh:=half (a:=P.length+A1.length) (b:=P.length+(A1.length+M.length)) (by omega) hi hj
   obtain ⟨M1,z,M2,hM,hk⟩:=cut_one M ((P.length+A1.length+(P.length+(A1.length+M.length))) / 2-(P.length+A1.length)) (by omega)
   have hMl:M.length=M1.length+(1+M2.length):=by rw [hM];simp;omega
   generalize hhv:(P.length+A1.length+(P.length+(A1.length+M.length))) / 2=h at hh hk
   have hhe:h=P.length+(A1.length+M1.length):=by omega
   have wh:w64 (h:Int)=(h:Int):=w64_id (by omega) (by omega)
   have whs:w64 ((h:Int)+1)=((h+1:Nat):Int):=w64_succ (by omega)
   have hLe:L=(P++(A1++M1))++z::(M2++(A2++y::Q)):=by rw [hL,hA,hM];simp
   have e1:idx L (w64 (h:Int))=some z:=idx_mid hLe (by rw [wh,hhe];simp)
   have e2:idx L m=some y:=idx_mid (A:=P++A) (B:=Q) (by rw [hL];simp) (by rw [hm];simp)
   obtain ⟨c,c1,c2⟩:=hc N y z hN (hV y (by rw [hL];simp)) (hV z (by rw [hLe];simp))
   have hSM:Srt K r (M1++(z::M2)):=by
    have:=hS;rw [hA,hM] at this
    exact (srt_app.mp (srt_app.mp this).2.1).1
   by_cases hxy:K y < K z
   ·obtain ⟨C1,C2,q1,q2,q3,q4⟩:=ih A1 M1 (z::M2++A2) i (w64 (h:Int)) (by omega) (by rw [hA,hM];simp) h1
     (by
      intro w hw
      rcases List.mem_append.mp hw with hw | hw
      ·exact Int.lt_of_lt_of_le hxy (srt_first (srt_app.mp hSM).2.1 w hw)
      ·exact h2 w hw) hi (by rw [wh,hhe])
    refine ⟨C1,C2,q1,q2,q3,?_⟩
    simp only [z147_12_l8,hlt,cT,hh,bS,e1,e2,c1,c2,dT hxy,Bool.not_true,cond_false]
    exact q4
   ·obtain ⟨C1,C2,q1,q2,q3,q4⟩:=ih (A1++(M1++[z])) M2 A2 (w64 (w64 (h:Int)+1)) j (by omega) (by rw [hA,hM];simp)
     (by
      intro w hw
      rcases List.mem_append.mp hw with hw | hw
      ·exact h1 w hw
      ·have hS':Srt K r ((M1++[z])++M2):=by simpa using hSM
       exact Int.le_trans (srt_last (srt_app.mp hS').1 w hw) (by omega)) h2 (by rw [wh,whs,hhe];simp;omega) (by rw [hj,hMl];simp;omega)
    refine ⟨C1,C2,q1,q2,q3,?_⟩
    simp only [z147_12_l8,hlt,cT,hh,bS,e1,e2,c1,c2,dF hxy,Bool.not_false]
    exact q4
theorem e_find3 (hc:e_Cmp K V g) {N:Nat} (hN:4≤N) (rc:List Int→Int→Int→Int→T4→Option (List Int)) (L:List Int) (a m b x:Int) (lo hi mm mid:Nat) (hV:∀ y∈L,V y)
  (hx:x=(mid:Int)) (hm:m=(mm:Int)) (hlm:L.length≤4194304) (hhi:hi≤mm) (hhm:hi≤mid) (hmm:mm≤L.length) (hn:mid+mm≤lo+L.length) :
  ∀ (n:Nat) (s t:Nat) (i j:Int),t-s < n→lo≤s→s≤t→t≤hi→i=(s:Int)→j=(t:Int)→(s=lo∨∀ u v,L[s-1]? = some u→L[mid+mm-s]? = some v→K u≤K v)→(t=hi∨∀ u v,L[t]? = some u→L[mid+mm-1-t]? = some v→K v < K u) →
  ∃ s,lo≤s∧s≤hi∧(s=lo∨∀ u v,L[s-1]? = some u→L[mid+mm-s]? = some v→K u≤K v)∧(s=hi∨∀ u v,L[s]? = some u→L[mid+mm-1-s]? = some v→K v < K u) ∧
   z147_12_l14 N rc L a m b g x n i j=z147_12_k13 N rc L a m b g x (s:Int):=by
 intro n
 induction n with
 | zero=>intro s t i j h;omega
 | succ n ih =>
  intro s t i j hn h1 h2 h3 hi hj p1 p2
  by_cases hst:s < t
  ·have hlt:decide (i < j)=true:=by simp;omega
   have hh:=half (a:=s) (b:=t) (by omega) hi hj
   generalize hhv:(s+t) / 2=h at hh
   have wh:w64 (h:Int)=(h:Int):=w64_id (by omega) (by omega)
   have whs:w64 ((h:Int)+1)=((h+1:Nat):Int):=w64_succ (by omega)
   have wx:w64 x=(mid:Int):=by rw [w64_id (by omega) (by omega)];exact hx
   have wn:w64 (w64 x+m)=((mid+mm:Nat):Int):=by rw [wx,w64_id (by omega) (by omega)];omega
   have wn1:w64 (w64 (w64 x+m)-1)=((mid+mm-1:Nat):Int):=by rw [wn,w64_id (by omega) (by omega)];omega
   have wp:w64 (w64 (w64 (w64 x+m)-1)-w64 (h:Int))=((mid+mm-1-h:Nat):Int):=by rw [wn1,wh,w64_id (by omega) (by omega)];omega
   obtain ⟨u,hu⟩:∃ u,L[h]? = some u:=⟨L[h]'(by omega),List.getElem?_eq_getElem _⟩
   obtain ⟨v,hv⟩:∃ v,L[mid+mm-1-h]? = some v:=⟨L[mid+mm-1-h]'(by omega),List.getElem?_eq_getElem _⟩
   have e1:idx L (w64 (w64 (w64 (w64 x+m)-1)-w64 (h:Int)))=some v:=by rw [wp,idx_nat,hv]
   have e2:idx L (w64 (h:Int))=some u:=by rw [wh,idx_nat,hu]
   obtain ⟨c,c1,c2⟩:=hc N v u hN (hV v (List.mem_of_getElem? hv)) (hV u (List.mem_of_getElem? hu))
   by_cases hvu:K v < K u
   ·obtain ⟨s',q1,q2,q3,q4,q5⟩:=ih s h i (w64 (h:Int)) (by omega) h1 (by omega) (by omega) hi wh p1 (by
     right;intro u' v' hu' hv'
     rw [hu] at hu';rw [hv] at hv'
     cases hu';cases hv';exact hvu)
    refine ⟨s',q1,q2,q3,q4,?_⟩
    simp only [z147_12_l14,hlt,cT,hh,bS,e1,e2,c1,c2,dT hvu,Bool.not_true,cond_false]
    exact q5
   ·obtain ⟨s',q1,q2,q3,q4,q5⟩:=ih (h+1) t (w64 (w64 (h:Int)+1)) j (by omega) (by omega) (by omega) (by omega) (by rw [wh,whs]) hj (by
     right;intro u' v' hu' hv'
     rw [show h+1-1=h by omega,hu] at hu';rw [show mid+mm-(h+1)=mid+mm-1-h by omega,hv] at hv'
     cases hu';cases hv';omega) p2
    refine ⟨s',q1,q2,q3,q4,?_⟩
    simp only [z147_12_l14,hlt,cT,hh,bS,e1,e2,c1,c2,dF hvu,Bool.not_false]
    exact q5
  ·have:s=t:=by omega
   subst this
   have hlt:decide (i < j)=false:=by simp;omega
   refine ⟨s,h1,h3,p1,p2,?_⟩
   simp only [z147_12_l14,hlt,cond_false]
   rw [hi]
theorem perm4 {α:Type} {A1 A2 B1 B2 C1 C2:List α} (h1:C1.Perm (A1++B1)) (h2:C2.Perm (A2++B2)):(C1++C2).Perm ((A1++A2)++(B1++B2)):=by
 refine (h1.append h2).trans ?_
 rw [aA,aA]
 refine List.Perm.append_left A1 ?_
 rw [← aA,← aA]
 exact List.Perm.append_right B2 List.perm_append_comm
def e_Mrg (K:Int→Int) (r:Int→Int→Prop) (V:Int→Prop) (g:T4) (f:List Int→Int→Int→Int→T4→Option (List Int)) (w:Nat):Prop :=
 ∀ (P A B Q L:List Int) (a m b:Int),A.length+B.length+L.length+8≤w→L.length≤4194304→(∀ y∈L,V y)→0 < A.length→0 < B.length→Srt K r A→Srt K r B→Cross r A B→L=P++(A++(B++Q)) →
  a=(P.length:Int)→m=((P.length+A.length:Nat):Int)→b=((P.length+(A.length+B.length):Nat):Int) →
  ∃ C,C.Perm (A++B)∧Srt K r C∧f L a m b g=some (P++(C++Q))
theorem e_halves {N:Nat} (rc:List Int→Int→Int→Int→T4→Option (List Int)) (P A1 A2 B1 B2 Q L:List Int) (a m b x:Int)
  (hr:e_Mrg K r V g rc N) (hN:(A1.length+A2.length)+(B1.length+B2.length)+L.length+8≤N+1) (hlm:L.length≤4194304) (hV:∀ y∈L,V y)
  (hA0:0 < A1.length+A2.length) (hB0:0 < B1.length+B2.length) (h2:0 < A2.length+B2.length) (h1:0 < A1.length+B1.length)
  (hA:Srt K r (A1++A2)) (hB:Srt K r (B1++B2)) (hX:Cross r (A1++A2) (B1++B2)) (hL:L=P++((A1++A2)++((B1++B2)++Q)))
  (ha:a=(P.length:Int)) (hm:m=((P.length+(A1.length+A2.length):Nat):Int)) (hb:b=((P.length+(A1.length+A2.length+(B1.length+B2.length)):Nat):Int))
  (hx:x=((P.length+(A1.length+B1.length):Nat):Int)) (k1:∀ u∈A1,∀ v∈B2,K u≤K v) (k2:∀ v∈B1,∀ u∈A2,K v < K u) :
  ∃ C,C.Perm ((A1++A2)++(B1++B2))∧Srt K r C∧z147_12_k13 N rc L a m b g x ((P.length+A1.length:Nat):Int)=some (P++(C++Q)):=by
 have hLl:L.length=P.length+(A1.length+A2.length+(B1.length+B2.length+Q.length)):=by rw [hL];simp;omega
 have wx:w64 x=x:=w64_id (by omega) (by omega)
 have we:w64 (w64 (w64 x+m)-((P.length+A1.length:Nat):Int))=((P.length+(A1.length+A2.length+B1.length):Nat):Int):=by
  rw [wx,w64_id (n:=x+m) (by omega) (by omega),w64_id (by omega) (by omega)];omega
 -- the exchange
 have rotd:z147_12_k13 N rc L a m b g x ((P.length+A1.length:Nat):Int)=z147_12_k11 rc a m b g x ((P.length+A1.length:Nat):Int) (P++(A1++(B1++(A2++(B2++Q))))):=by
  rcases Nat.eq_zero_or_pos A2.length with h0 | h0
  ·have:A2=[]:=List.length_eq_zero_iff.mp h0
   subst this
   have hf:decide (((P.length+A1.length:Nat):Int) < m)=false:=by simp at hm;simp;omega
   simp only [z147_12_k13,hf,cond_false,z147_12_k12]
   rw [hL];simp
  ·have hf:decide (((P.length+A1.length:Nat):Int) < m)=true:=by simp;omega
   rcases Nat.eq_zero_or_pos B1.length with g0 | g0
   ·have:B1=[]:=List.length_eq_zero_iff.mp g0
    subst this
    have hf2:decide (m < w64 (w64 (w64 x+m)-((P.length+A1.length:Nat):Int)))=false:=by rw [we];simp;simp at hm;omega
    simp only [z147_12_k13,hf,cT,hf2,cond_false,z147_12_k12]
    rw [hL];simp
   ·have hf2:decide (m < w64 (w64 (w64 x+m)-((P.length+A1.length:Nat):Int)))=true:=by rw [we];simp;omega
    have hrot:=e_rot (g:=g) (N:=N) A2 B1 (P++A1) (B2++Q) L ((P.length+A1.length:Nat):Int) m (w64 (w64 (w64 x+m)-((P.length+A1.length:Nat):Int))) (by omega) (by simp;omega) h0 g0
     (by rw [hL];simp) (by simp) (by rw [hm];simp;omega) (by rw [we];simp;omega)
    simp only [z147_12_k13,hf,hf2,cT,z147_12_k12,hrot,bS]
    simp
 rw [rotd]
 obtain ⟨a1,a2,a3⟩:=srt_app.mp hA
 obtain ⟨b1,b2,b3⟩:=srt_app.mp hB
 have hX1:Cross r A1 B1:=fun u hu v hv=>hX u (by simp [hu]) v (by simp [hv])
 have hX2:Cross r A2 B2:=fun u hu v hv=>hX u (by simp [hu]) v (by simp [hv])
 have hVm:∀ y,(y∈P∨y∈A1∨y∈A2∨y∈B1∨y∈B2∨y∈Q)→V y:=by
  intro y hy;apply hV;rw [hL];simp;rcases hy with h | h | h | h | h | h<;>simp [h]
 -- the first half
 have first:∃ C1,C1.Perm (A1++B1)∧Srt K r C1∧z147_12_k11 rc a m b g x ((P.length+A1.length:Nat):Int) (P++(A1++(B1++(A2++(B2++Q)))))=z147_12_k9 rc m b g x ((P.length+A1.length:Nat):Int) (P++(C1++(A2++(B2++Q)))):=by
  rcases Nat.eq_zero_or_pos A1.length with h0 | h0
  ·have:A1=[]:=List.length_eq_zero_iff.mp h0
   subst this
   have hf:decide (a < ((P.length+([]:List Int).length:Nat):Int))=false:=by simp;omega
   exact ⟨B1,.refl _,b1,by simp only [z147_12_k11,hf,cond_false,z147_12_k10];rfl⟩
  ·have hf:decide (a < ((P.length+A1.length:Nat):Int))=true:=by simp;omega
   rcases Nat.eq_zero_or_pos B1.length with g0 | g0
   ·have:B1=[]:=List.length_eq_zero_iff.mp g0
    subst this
    have hf2:decide (((P.length+A1.length:Nat):Int) < w64 x)=false:=by rw [wx,hx];simp
    exact ⟨A1,by simp,a1,by simp only [z147_12_k11,hf,cT,hf2,cond_false,z147_12_k10];simp⟩
   ·have hf2:decide (((P.length+A1.length:Nat):Int) < w64 x)=true:=by rw [wx,hx];simp;omega
    obtain ⟨C1,c1,c2,c3⟩:=hr P A1 B1 (A2++(B2++Q)) _ a ((P.length+A1.length:Nat):Int) (w64 x) (by simp;omega) (by simp;omega) (by intro y hy;apply hVm;simp at hy;rcases hy with h | h | h | h | h | h<;>simp [h]) h0 g0 a1 b1 hX1 rfl ha rfl (by rw [wx,hx])
    exact ⟨C1,c1,c2,by simp only [z147_12_k11,hf,cT,hf2,z147_12_k10,c3,bS]⟩
 obtain ⟨C1,c1,c2,c3⟩:=first
 have hC1:C1.length=A1.length+B1.length:=by rw [c1.length_eq];simp
 have second:∃ C2,C2.Perm (A2++B2)∧Srt K r C2∧z147_12_k9 rc m b g x ((P.length+A1.length:Nat):Int) (P++(C1++(A2++(B2++Q))))=some (P++(C1++(C2++Q))):=by
  rcases Nat.eq_zero_or_pos A2.length with h0 | h0
  ·have:A2=[]:=List.length_eq_zero_iff.mp h0
   subst this
   have hf:decide (w64 x < w64 (w64 (w64 x+m)-((P.length+A1.length:Nat):Int)))=false:=by rw [we,wx,hx];simp
   exact ⟨B2,.refl _,b2,by simp only [z147_12_k9,hf,cond_false];simp⟩
  ·have hf:decide (w64 x < w64 (w64 (w64 x+m)-((P.length+A1.length:Nat):Int)))=true:=by rw [we,wx,hx];simp;omega
   rcases Nat.eq_zero_or_pos B2.length with g0 | g0
   ·have:B2=[]:=List.length_eq_zero_iff.mp g0
    subst this
    have hf2:decide (w64 (w64 (w64 x+m)-((P.length+A1.length:Nat):Int)) < b)=false:=by rw [we,hb];simp
    exact ⟨A2,by simp,a2,by simp only [z147_12_k9,hf,cT,hf2,cond_false];simp⟩
   ·have hf2:decide (w64 (w64 (w64 x+m)-((P.length+A1.length:Nat):Int)) < b)=true:=by rw [we,hb];simp;omega
    obtain ⟨C2,d1,d2,d3⟩:=hr (P++C1) A2 B2 Q (P++(C1++(A2++(B2++Q)))) (w64 x) (w64 (w64 (w64 x+m)-((P.length+A1.length:Nat):Int))) b (by simp;omega) (by simp;omega)
     (by
      intro y hy;apply hVm;simp at hy
      rcases hy with h | h | h | h | h
      ·simp [h]
      ·have:=c1.mem_iff.mp h;simp at this;rcases this with h | h<;>simp [h]
      ·simp [h]
      ·simp [h]
      ·simp [h]) h0 g0 a2 b2 hX2 (by simp) (by rw [wx,hx];simp;omega) (by rw [we];simp;omega) (by rw [hb];simp;omega)
    exact ⟨C2,d1,d2,by simp only [z147_12_k9,hf,hf2,cT,d3,bS];simp⟩
 obtain ⟨C2,d1,d2,d3⟩:=second
 refine ⟨C1++C2,perm4 c1 d1,srt_app.mpr ⟨c2,d2,?_⟩,by rw [c3,d3];simp⟩
 intro u hu v hv
 have hu:=c1.mem_iff.mp hu
 have hv:=d1.mem_iff.mp hv
 rcases List.mem_append.mp hu with hu | hu<;>rcases List.mem_append.mp hv with hv | hv
 ·exact a3 u hu v hv
 ·exact Lt.of (k1 u hu v hv) (hX u (by simp [hu]) v (by simp [hv]))
 ·exact .inl (k2 u hu v hv)
 ·exact b3 u hu v hv
end Gp
end
section
namespace Gp
open Go Go.Kx Gx
variable {K:Int→Int} {r:Int→Int→Prop} {V:Int→Prop} {g:T4}
theorem e_mrg_one (hc:e_Cmp K V g) (w:Nat) (rc:List Int→Int→Int→Int→T4→Option (List Int)) (P B Q L:List Int) (x:Int) (a m b:Int) (hN:1+B.length+L.length+7≤w) (hlm:L.length≤4194304) (hV:∀ y∈L,V y)
  (hB:Srt K r B) (hX:Cross r [x] B) (hL:L=P++([x]++(B++Q))) (ha:a=(P.length:Int)) (hm:m=((P.length+1:Nat):Int)) (hb:b=((P.length+(1+B.length):Nat):Int)) :
  ∃ C,C.Perm ([x]++B)∧Srt K r C∧z147_12_b w rc L a m b g=some (P++(C++Q)):=by
 have hLl:L.length=P.length+(1+(B.length+Q.length)):=by rw [hL];simp;omega
 have h1:(w64 (m-a)==(1:Int))=true:=by rw [w64_id (by omega) (by omega)];simp;omega
 obtain ⟨B1,B2,q1,q2,q3,q4⟩:=e_find1 hc (N:=w) (by omega) P Q L B x a hV hB (by rw [hL];simp) ha (by omega) w [] B [] m b (by omega) (by simp) (by simp) (by simp) (by rw [hm];simp) (by rw [hb];simp;omega)
 subst q1
 simp only [List.length_append] at hN hLl hb
 have hf:=e_fwd (v:=((P.length+1+B1.length:Nat):Int)) w B1 P (B2++Q) L x a (by omega) (by omega) (by rw [hL];simp) ha (by omega)
 refine ⟨B1++x::B2,?_,srt_ins' hB q2 q3 (fun y hy=>hX x (by simp) y (by simp [hy])),?_⟩
 ·exact List.perm_middle
 ·simp only [z147_12_b,h1,cT,q4,z147_12_k3,hf];simp
theorem e_mrg_two (hc:e_Cmp K V g) (w:Nat) (rc:List Int→Int→Int→Int→T4→Option (List Int)) (P A Q L:List Int) (y:Int) (a m b:Int) (hN:A.length+1+L.length+7≤w) (hlm:L.length≤4194304) (hV:∀ y∈L,V y) (hA1:A.length≠1)
  (hA:Srt K r A) (hX:Cross r A [y]) (hL:L=P++(A++([y]++Q))) (ha:a=(P.length:Int)) (hm:m=((P.length+A.length:Nat):Int)) (hb:b=((P.length+(A.length+1):Nat):Int)) :
  ∃ C,C.Perm (A++[y])∧Srt K r C∧z147_12_b w rc L a m b g=some (P++(C++Q)):=by
 have hLl:L.length=P.length+(A.length+(1+Q.length)):=by rw [hL];simp;omega
 have h1:(w64 (m-a)==(1:Int))=false:=by rw [w64_id (by omega) (by omega)];simp;omega
 have h2:(w64 (b-m)==(1:Int))=true:=by rw [w64_id (by omega) (by omega)];simp;omega
 obtain ⟨A1,A2,q1,q2,q3,q4⟩:=e_find2 hc (N:=w) (by omega) P Q L A y m hV hA (by rw [hL];simp) hm (by omega) w [] A [] a m (by omega) (by simp) (by simp) (by simp) (by rw [ha];simp) (by rw [hm];simp)
 subst q1
 simp only [List.length_append] at hN hLl hb hm
 have hf:=e_bwd (v:=((P.length+A1.length:Nat):Int)) w A2 (P++A1) Q L y m (by omega) (by simp;omega) (by rw [hL];simp) (by rw [hm];simp;omega) (by simp)
 refine ⟨A1++y::A2,?_,srt_ins hA q2 (fun z hz=>hX z (by simp [hz]) y (by simp)) q3,?_⟩
 ·rw [aA]
  refine List.Perm.append_left A1 ?_
  exact (List.perm_append_singleton y A2).symm
 ·simp only [z147_12_b,h1,cond_false,h2,cT,q4,z147_12_k7,hf];simp
theorem e_mrg_many (hc:e_Cmp K V g) (w:Nat) (rc:List Int→Int→Int→Int→T4→Option (List Int)) (hr:e_Mrg K r V g rc w) (P A B Q L:List Int) (a m b:Int) (hN:A.length+B.length+L.length+8≤w+1) (hlm:L.length≤4194304) (hV:∀ y∈L,V y) (hA1:2≤A.length) (hB1:2≤B.length)
  (hA:Srt K r A) (hB:Srt K r B) (hX:Cross r A B) (hL:L=P++(A++(B++Q))) (ha:a=(P.length:Int)) (hm:m=((P.length+A.length:Nat):Int)) (hb:b=((P.length+(A.length+B.length):Nat):Int)) :
  ∃ C,C.Perm (A++B)∧Srt K r C∧z147_12_b w rc L a m b g=some (P++(C++Q)):=by
 have hLl:L.length=P.length+(A.length+(B.length+Q.length)):=by rw [hL];simp
 have h1:(w64 (m-a)==(1:Int))=false:=by rw [w64_id (by omega) (by omega)];simp;omega
 have h2:(w64 (b-m)==(1:Int))=false:=by rw [w64_id (by omega) (by omega)];simp;omega
 have hh:=half (a:=P.length) (b:=P.length+(A.length+B.length)) (by omega) ha hb
 generalize hhv:(P.length+(P.length+(A.length+B.length))) / 2=mid at hh
 have wmid:w64 (mid:Int)=(mid:Int):=w64_id (by omega) (by omega)
 have wn:w64 (w64 (mid:Int)+m)=((mid+(P.length+A.length):Nat):Int):=by rw [wmid,w64_id (by omega) (by omega)];omega
 -- the common place
 have place:∃ s lo hi:Nat,lo≤s∧s≤hi∧hi≤P.length+A.length∧hi≤mid∧P.length≤lo∧mid+(P.length+A.length)≤lo+(P.length+(A.length+B.length))∧(lo=P.length∨lo+(P.length+(A.length+B.length))=mid+(P.length+A.length))∧(hi=mid∨hi=P.length+A.length) ∧
   (s=lo∨∀ u v,L[s-1]? = some u→L[mid+(P.length+A.length)-s]? = some v→K u≤K v)∧(s=hi∨∀ u v,L[s]? = some u→L[mid+(P.length+A.length)-1-s]? = some v→K v < K u) ∧
   z147_12_b w rc L a m b g=z147_12_k13 w rc L a m b g (mid:Int) (s:Int):=by
  by_cases hmid:mid < P.length+A.length
  ·have hd:decide (m > w64 (mid:Int))=true:=by rw [wmid];simp;omega
   have ws:w64 (w64 (w64 (mid:Int)+m)-b)=((mid+(P.length+A.length)-(P.length+(A.length+B.length)):Nat):Int):=by rw [wn,w64_id (by omega) (by omega)];omega
   obtain ⟨s,p1,p2,p3,p4,p5⟩:=e_find3 hc (N:=w) (by omega) rc L a m b (mid:Int) (mid+(P.length+A.length)-(P.length+(A.length+B.length))) mid (P.length+A.length) mid hV rfl hm hlm (by omega) (by omega) (by omega) (by omega)
    w _ mid _ (w64 (mid:Int)) (by omega) (Nat.le_refl _) (by omega) (by omega) ws wmid (.inl rfl) (.inl rfl)
   refine ⟨s,_,mid,p1,p2,by omega,by omega,by omega,by omega,by omega,.inl rfl,p3,p4,?_⟩
   simp only [z147_12_b,h1,h2,cond_false,hh,bS,hd,cT,z147_12_k15]
   exact p5
  ·have hd:decide (m > w64 (mid:Int))=false:=by rw [wmid];simp;omega
   obtain ⟨s,p1,p2,p3,p4,p5⟩:=e_find3 hc (N:=w) (by omega) rc L a m b (mid:Int) P.length (P.length+A.length) (P.length+A.length) mid hV rfl hm hlm (by omega) (by omega) (by omega) (by omega)
    w P.length (P.length+A.length) a m (by omega) (Nat.le_refl _) (by omega) (by omega) ha hm (.inl rfl) (.inl rfl)
   refine ⟨s,P.length,_,p1,p2,by omega,by omega,by omega,by omega,.inl rfl,.inr rfl,p3,p4,?_⟩
   simp only [z147_12_b,h1,h2,cond_false,hh,bS,hd,z147_12_k15]
   exact p5
 obtain ⟨s,lo,hi,p1,p2,p3,p4,p5,p6,p7,p8,p9,p10,p11⟩:=place
 obtain ⟨A1,A2,eA,lA⟩:=cut_at A (s-P.length) (by omega)
 obtain ⟨B1,B2,eB,lB⟩:=cut_at B (mid-s) (by omega)
 subst eA eB
 simp only [List.length_append] at *
 have hs:s=P.length+A1.length:=by omega
 have k1:∀ u∈A1,∀ v∈B2,K u≤K v:=by
  intro u hu v hv
  rcases List.eq_nil_or_concat A1 with h | ⟨A1',u0,h⟩
  ·subst h;simp at hu
  ·rw [List.concat_eq_append] at h
   cases B2 with
   | nil=>simp at hv
   | cons v0 B2' =>
    subst h
    simp only [List.length_append,List.length_cons,List.length_nil] at *
    rcases p9 with p9 | p9
    ·omega
    ·have h1:=p9 u0 v0 (get_at (A:=P++A1') (B:=A2++(B1++(v0::B2')++Q)) (by rw [hL];simp) (by simp;omega))
      (get_at (A:=P++(A1'++[u0]++A2)++B1) (B:=B2'++Q) (by rw [hL];simp) (by simp;omega))
     exact Int.le_trans (srt_last (srt_app.mp hA).1 u hu) (Int.le_trans h1 (srt_first (srt_app.mp hB).2.1 v hv))
 have k2:∀ v∈B1,∀ u∈A2,K v < K u:=by
  intro v hv u hu
  rcases List.eq_nil_or_concat B1 with h | ⟨B1',v0,h⟩
  ·subst h;simp at hv
  ·rw [List.concat_eq_append] at h
   cases A2 with
   | nil=>simp at hu
   | cons u0 A2' =>
    subst h
    simp only [List.length_append,List.length_cons,List.length_nil] at *
    rcases p10 with p10 | p10
    ·omega
    ·have h1:=p10 u0 v0 (get_at (A:=P++A1) (B:=A2'++(B1'++[v0]++B2++Q)) (by rw [hL];simp) (by simp;omega))
      (get_at (A:=P++(A1++u0::A2')++B1') (B:=B2++Q) (by rw [hL];simp) (by simp;omega))
     exact Int.lt_of_le_of_lt (srt_last (srt_app.mp hB).1 v hv) (Int.lt_of_lt_of_le h1 (srt_first (srt_app.mp hA).2.1 u hu))
 rw [p11,hs]
 exact e_halves rc P A1 A2 B1 B2 Q L a m b (mid:Int) hr (by omega) hlm hV (by omega) (by omega) (by omega) (by omega) hA hB hX hL ha hm hb (by omega) k1 k2
theorem e_mrg (hc:e_Cmp K V g):∀ w,e_Mrg K r V g (z147_12_r w) w:=by
 intro w
 induction w with
 | zero=>intro P A B Q L a m b h;omega
 | succ w ih =>
  intro P A B Q L a m b hN hlm hV hA0 hB0 hA hB hX hL ha hm hb
  show ∃ C,C.Perm (A++B)∧Srt K r C∧z147_12_b w (z147_12_r w) L a m b g=some (P++(C++Q))
  by_cases hA1:A.length=1
  ·obtain ⟨x,rfl⟩:=List.length_eq_one_iff.mp hA1
   exact e_mrg_one hc w _ P B Q L x a m b (by simp at hN;omega) hlm hV hB hX hL ha hm hb
  ·by_cases hB1:B.length=1
   ·obtain ⟨y,rfl⟩:=List.length_eq_one_iff.mp hB1
    exact e_mrg_two hc w _ P A Q L y a m b (by simp at hN;omega) hlm hV hA1 hA hX hL ha hm hb
   ·exact e_mrg_many hc w _ ih P A B Q L a m b (by omega) hlm hV (by omega) (by omega) hA hB hX hL ha hm hb
end Gp
end
section
namespace Gp
open Go Go.Kx Gx
variable {K:Int→Int} {r:Int→Int→Prop} {V:Int→Prop} {g:T4}
theorem e_stb_ins (hc:e_Cmp K V g) {N:Nat} (n:Int) (T:Nat) (hT:T≤4194304) (hN:T+8 < N) (hn:n=(T:Int)) :
  ∀ (f:Nat) (P R L:List Int) (a b:Int),R.length < f→P.length+R.length=T→(∀ y∈R,V y)→R.Pairwise r→L=P++R→a=(P.length:Int)→b=((P.length+20:Nat):Int) →
  ∃ C,Bk K r 20 R C∧z110_13_l6 N n g f L a b=z110_13_l2 N n g N (P++C) (20:Int):=by
 intro f
 induction f with
 | zero=>intro P R L a b h;omega
 | succ f ih =>
  intro P R L a b hf hPR hV hr hL ha hb
  by_cases h:20≤R.length
  ·have hd:decide (b≤n)=true:=by simp;omega
   obtain ⟨R1,R2,eR,lR⟩:=cut_at R 20 h
   subst eR
   simp only [List.length_append] at *
   obtain ⟨C1,c1,c2,c3⟩:=e_ins (r:=r) hc (N:=N) P R1 R2 a b L (by omega) (by omega) (fun y hy=>hV y (by simp [hy])) (List.pairwise_append.mp hr).1 (by rw [hL]) ha (by rw [hb,lR])
   have lC:C1.length=20:=by rw [c1.length_eq,lR]
   obtain ⟨C2,d1,d2⟩:=ih (P++C1) R2 (P++(C1++R2)) b (w64 (b+20)) (by omega) (by simp;omega) (fun y hy=>hV y (by simp [hy])) (List.pairwise_append.mp hr).2.1 (by simp)
    (by rw [hb];simp;omega) (by rw [w64_id (by omega) (by omega),hb];simp;omega)
   refine ⟨C1++C2,.cons R1 C1 R2 C2 lC c1 c2 d1,?_⟩
   simp only [z110_13_l6,hd,cT,c3,bS]
   rw [d2];simp
  ·have hd:decide (b≤n)=false:=by simp;omega
   obtain ⟨C1,c1,c2,c3⟩:=e_ins (r:=r) hc (N:=N) P R [] a n L (by omega) (by omega) hV hr (by rw [hL];simp) ha (by rw [hn,← hPR])
   refine ⟨C1,.last R C1 (by rw [c1.length_eq];omega) c1 c2,?_⟩
   simp only [z110_13_l6,hd,cond_false,z110_13_k5,c3,bS]
   simp
theorem e_stb_pass (hc:e_Cmp K V g) {N:Nat} (n:Int) (T:Nat) (hT:T≤4194304) (hN:T+T+8≤N) (hn:n=(T:Int)) (bs:Nat) (hbs:0 < bs) (hbT:bs≤4194304) (ag:List Int→Int→Option (List Int)) (v:Int) (hv:v=(bs:Int)) :
  ∀ (f:Nat) (P o c L:List Int) (a b:Int),c.length < f→P.length+c.length=T→(∀ y∈L,V y)→o.Pairwise r→Bk K r bs o c→L=P++c→a=(P.length:Int)→b=((P.length+2 * bs:Nat):Int) →
  ∃ c',Bk K r (2 * bs) o c'∧z110_13_l4 N n g v ag f L a b=ag (P++c') (w64 (v * 2)):=by
 intro f
 induction f with
 | zero=>intro P o c L a b h;omega
 | succ f ih =>
  intro P o c L a b hf hPc hV hr hB hL ha hb
  have wab:w64 (a+v)=((P.length+bs:Nat):Int):=by rw [w64_id (by omega) (by omega)];omega
  have hLl:L.length=T:=by rw [hL];simpa using hPc
  by_cases h:2 * bs≤c.length
  ·have hd:decide (b≤n)=true:=by simp;omega
   obtain ⟨o1,o2,o3,c1,c2,c3,eo,ec,l1,l2,p1,p2,s1,s2,hB3⟩:=hB.two hbs h
   subst eo ec
   simp only [List.length_append] at *
   have hcr:Cross r c1 c2:=cross_perm (A:=o1) (B:=o2) (fun x hx y hy=>(List.pairwise_append.mp hr).2.2 x hx y (by simp [hy])) p1 p2
   obtain ⟨C,q1,q2,q3⟩:=e_mrg (K:=K) (r:=r) hc N P c1 c2 c3 L a (w64 (a+v)) b (by omega) (by omega) hV (by omega) (by omega) s1 s2 hcr (by rw [hL]) ha (by rw [wab,l1]) (by rw [hb];omega)
   have q3':z147_12 N L a (w64 (a+v)) b g=some (P++(C++c3)):=q3
   have lC:C.length=2 * bs:=by rw [q1.length_eq];simp;omega
   have w2:w64 (2 * v)=2 * v:=w64_id (by omega) (by omega)
   obtain ⟨c',d1,d2⟩:=ih (P++C) o3 c3 (P++(C++c3)) b (w64 (b+w64 (2 * v))) (by omega) (by simp;omega)
    (by
     intro y hy
     apply hV
     rw [hL]
     simp at hy ⊢
     rcases hy with h | h | h
     ·simp [h]
     ·have:=q1.mem_iff.mp h;simp at this;rcases this with h | h<;>simp [h]
     ·simp [h])
    (List.pairwise_append.mp (List.pairwise_append.mp hr).2.1).2.1 hB3 (by simp) (by rw [hb];simp;omega) (by rw [w2,w64_id (by omega) (by omega),hb];simp;omega)
   refine ⟨C++c',?_,?_⟩
   ·rw [← aA]
    exact .cons (o1++o2) C o3 c' lC (q1.trans (p1.append p2)) q2 d1
   ·simp only [z110_13_l4,hd,cT,q3',bS]
    rw [d2];simp
  ·have hd:decide (b≤n)=false:=by simp;omega
   rcases hB.few hbs (by omega) with ⟨h1,h2,h3⟩ | ⟨o1,o2,c1,c2,eo,ec,l1,l2,l3,p1,p2,s1,s2⟩
   ·have hk:decide (w64 (a+v) < n)=false:=by rw [wab];simp;omega
    refine ⟨c,.last o c (by omega) h2 h3,?_⟩
    simp only [z110_13_l4,hd,cond_false,z110_13_k3,hk]
    rw [hL]
   ·subst eo ec
    simp only [List.length_append] at *
    have hk:decide (w64 (a+v) < n)=true:=by rw [wab];simp;omega
    have hcr:Cross r c1 c2:=cross_perm (A:=o1) (B:=o2) (fun x hx y hy=>(List.pairwise_append.mp hr).2.2 x hx y hy) p1 p2
    obtain ⟨C,q1,q2,q3⟩:=e_mrg (K:=K) (r:=r) hc N P c1 c2 [] L a (w64 (a+v)) n (by omega) (by omega) hV (by omega) (by omega) s1 s2 hcr (by rw [hL];simp) ha (by rw [wab,l1]) (by rw [hn];omega)
    have q3':z147_12 N L a (w64 (a+v)) n g=some (P++(C++[])):=q3
    refine ⟨C,.last _ C (by rw [q1.length_eq];simp;omega) (q1.trans (p1.append p2)) q2,?_⟩
    simp only [z110_13_l4,hd,cond_false,z110_13_k3,hk,cT,q3',bS]
    simp
theorem e_stb_loop (hc:e_Cmp K V g) {N:Nat} (n:Int) (T:Nat) (hT:T≤4194304) (hN:T+T+8≤N) (hn:n=(T:Int)) :
  ∀ (f:Nat) (o c:List Int) (bs:Nat) (v:Int),T-bs < f→0 < bs→bs≤2 * 4194304→c.length=T→(∀ y∈c,V y)→o.Pairwise r→Bk K r bs o c→v=(bs:Int) →
  ∃ c',c'.Perm o∧Srt K r c'∧z110_13_l2 N n g f c v=some c':=by
 intro f
 induction f with
 | zero=>intro o c bs v h;omega
 | succ f ih =>
  intro o c bs v hf hbs hbl hcl hV hr hB hv
  by_cases h:bs < T
  ·have hd:decide (v < n)=true:=by simp;omega
   have w2:w64 (2 * v)=2 * v:=w64_id (by omega) (by omega)
   have w2':w64 (v * 2)=((2 * bs:Nat):Int):=by rw [w64_id (by omega) (by omega)];omega
   obtain ⟨c',d1,d2⟩:=e_stb_pass (K:=K) (r:=r) hc (N:=N) n T hT hN hn bs hbs (by omega) (z110_13_l2 N n g f) v hv N [] o c c (0:Int) (w64 (2 * v)) (by omega) (by simpa using hcl) hV hr hB (by simp) (by simp) (by rw [w2,hv];simp)
   obtain ⟨C,q1,q2,q3⟩:=ih o c' (2 * bs) (w64 (v * 2)) (by omega) (by omega) (by omega) (by rw [← hcl,d1.perm.length_eq,hB.perm.length_eq])
    (fun y hy=>hV y (hB.perm.mem_iff.mpr (d1.perm.mem_iff.mp hy))) hr d1 w2'
   refine ⟨C,q1,q2,?_⟩
   simp only [z110_13_l2,hd,cT,d2]
   simpa using q3
  ·have hd:decide (v < n)=false:=by simp;omega
   obtain ⟨p,s⟩:=hB.all hbs (by omega)
   exact ⟨c,p,s,by simp only [z110_13_l2,hd,cond_false,z110_13_k1]⟩
theorem e_sort (hc:e_Cmp K V g) {N:Nat} (L:List Int) (hT:L.length≤4194304) (hN:L.length+L.length+64≤N) (hV:∀ y∈L,V y) (hr:L.Pairwise r) :
  ∃ C,C.Perm L∧Srt K r C∧z47_14 N L g=some C:=by
 obtain ⟨C1,c1,c2⟩:=e_stb_ins (K:=K) (r:=r) hc (N:=N) (L.length:Int) L.length hT (by omega) rfl N [] L L (0:Int) (20:Int) (by omega) (by simp) hV hr (by simp) (by simp) (by simp)
 obtain ⟨C,q1,q2,q3⟩:=e_stb_loop (K:=K) (r:=r) hc (N:=N) (L.length:Int) L.length hT (by omega) rfl N L C1 20 (20:Int) (by omega) (by omega) (by omega) c1.perm.length_eq
  (fun y hy=>hV y (c1.perm.mem_iff.mp hy)) hr c1 (by simp)
 refine ⟨C,q1,q2,?_⟩
 simp only [z47_14,z110_13,c2]
 rw [List.nil_append,q3];rfl
end Gp
end
section
namespace Gp
open Go Go.Kx Gx
def alleq {α:Type} (f:α→α→Bool):List α→List α→Bool
 | [],[]=>true
 | x::l,y::m=>f x y && alleq f l m
 | _,_=>false
theorem alleq_len {α:Type} (f:α→α→Bool):∀ (l m:List α),l.length≠m.length→alleq f l m=false
 | [],[],h=>absurd rfl h
 | [],_::_,_=>rfl
 | _::_,[],_=>rfl
 | x::l,y::m,h=>by
  show (f x y && alleq f l m)=false
  rw [alleq_len f l m (by simpa using h)];simp
theorem alleq_refl {α:Type} (f:α→α→Bool) (hf:∀ x,f x x=true):∀ (l:List α),alleq f l l=true
 | []=>rfl
 | x::l=>by show (f x x && alleq f l l)=true;rw [hf,alleq_refl f hf l];rfl
theorem eq_loop_at {α:Type} (f:α→α→Bool) (xs ys:List α) (hl:xs.length=ys.length) (hs:xs.length≤4194304)
  (F:Nat→Int→Option Bool) (e:Option Bool)
  (h1:∀ n k x y,k < xs.length→xs[k]? = some x→ys[k]? = some y→F (n+1) (k:Int)=bif !(f x y) then some false else F n ((k+1:Nat):Int))
  (h2:∀ n k,xs.length≤k→F (n+1) (k:Int)=e) :
  ∀ (l m:List α) (k n:Nat),xs.drop k=l→ys.drop k=m→l.length < n→F n (k:Int)=bif alleq f l m then e else some false:=by
 intro l
 induction l with
 | nil =>
  intro m k n h hm hn
  obtain ⟨n,rfl⟩:∃ m,n=m+1:=⟨n-1,by simp at hn;omega⟩
  have hk:=drop_nil h
  have:m=[]:=by rw [← hm];exact List.drop_eq_nil_of_le (by omega)
  subst this
  exact h2 n k hk
 | cons x l ih =>
  intro m k n h hm hn
  obtain ⟨n,rfl⟩:∃ m,n=m+1:=⟨n-1,by simp at hn;omega⟩
  obtain ⟨a,c,d⟩:=drop_cons h
  cases m with
  | nil=>have:=drop_nil hm;omega
  | cons y m =>
   obtain ⟨a',c',d'⟩:=drop_cons hm
   rw [h1 n k x y a c c',ih m (k+1) n d d' (by simp at hn;omega)]
   show _=bif (f x y && alleq f l m) then e else some false
   cases f x y<;>rfl
theorem eq_loop {α:Type} (f:α→α→Bool) (xs ys:List α) (hl:xs.length=ys.length) (hs:xs.length≤4194304)
  (F:Nat→Int→Option Bool) (e:Option Bool) {n:Nat} (hn:4194304 < n)
  (h:∀ n k,F (n+1) k=bif decide (k < (xs.length:Int)) then ((idx xs k).bind fun x=>(idx ys k).bind fun y=>bif !(f x y) then some false else F n (w64 (k+1))) else e) :
  F n (0:Int)=bif alleq f xs ys then e else some false:=by
 refine eq_loop_at f xs ys hl hs F e ?_ ?_ xs ys 0 n rfl rfl (by omega)
 ·intro n k x y hk hx hy
  rw [h,lt_t hk,idx_nat,idx_nat,hx,hy]
  simp only [cT,bS]
  rw [w64_succ (by omega)]
 ·intro n k hk
  rw [h,lt_f hk];rfl
theorem eq_all {α:Type} (f:α→α→Bool) (xs ys:List α) (hs:xs.length≤4194304)
  (F:Nat→Int→Option Bool) {n:Nat} (hn:4194304 < n)
  (h:∀ n k,F (n+1) k=bif decide (k < (xs.length:Int)) then ((idx xs k).bind fun x=>(idx ys k).bind fun y=>bif !(f x y) then some false else F n (w64 (k+1))) else some true) :
  (bif ((xs.length:Int) != (ys.length:Int)) then (some false) else F n (0:Int))=some (alleq f xs ys):=by
 by_cases hl:xs.length=ys.length
 ·have:((xs.length:Int) != (ys.length:Int))=false:=by simp [hl]
  rw [this,cond_false,eq_loop f xs ys hl hs F (some true) hn h]
  cases alleq f xs ys<;>rfl
 ·have:((xs.length:Int) != (ys.length:Int))=true:=by simp;omega
  rw [this,alleq_len f xs ys hl];rfl
theorem look {α γ:Type} (xs:List α) (hs:xs.length≤4194304) (b:α→Int→γ→γ) (F:Nat→Int→γ) (e:γ) {n:Nat} (hn:4194304 < n)
  (h1:∀ n k x,k < xs.length→xs[k]? = some x→F (n+1) (k:Int)=b x k (F n (w64 ((k:Int)+1))))
  (h2:∀ n k,xs.length≤k→F (n+1) (k:Int)=e):F n (0:Int)=lv (fun x (k:Nat) r=>b x (k:Int) r) e xs 0 :=
 lv_from (by omega) rfl (fun n k x hk hx=>by rw [h1 n k x hk hx,w64_succ (by omega)]) h2
def eqEdge (a b:T2):Bool:=(a.From==b.From) && (((a.Act.From==b.Act.From) && ((a.Act.To==b.Act.To) && ((a.Act.Label==b.Act.Label) && true))) && ((a.To==b.To) && ((a.Again==b.Again) && true)))
def eqTimeout (a b:T8):Bool:=(a.State==b.State) && ((a.Ticks==b.Ticks) && ((a.Else==b.Else) && true))
def eqField (a b:T3):Bool:=(a.Name.toList==b.Name.toList) && (((a.Sort'.Kind==b.Sort'.Kind) && ((a.Sort'.Lo==b.Sort'.Lo) && ((a.Sort'.Hi==b.Sort'.Hi) && true))) && true)
def eqDiff (a b:T1):Bool:=(a.X==b.X) && ((a.Y==b.Y) && ((a.C==b.C) && true))
def eqPair (a b:Int × Int):Bool:=(a.1==b.1) && ((a.2==b.2) && true)
def eqStr (a b:ByteArray):Bool:=a.toList==b.toList
def eqDecl (a b:T0):Bool:=eqStr a.Name b.Name && (a.First==b.First && (alleq eqField a.Fields b.Fields && (alleq eqDiff a.Guard.Diffs b.Guard.Diffs && alleq eqPair a.Guard.Equals b.Guard.Equals)))
def eqGlobal (a b:T4):Bool:=eqStr a.Name b.Name && (alleq eqStr a.Roles b.Roles && (alleq eqDecl a.Decls b.Decls && (a.States==b.States && (a.Start==b.Start && (a.End==b.End && (alleq eqEdge a.Edges b.Edges && alleq eqTimeout a.Timeouts b.Timeouts))))))
theorem eqStr_refl (a:ByteArray):eqStr a a=true:=by simp [eqStr]
theorem eqDecl_refl (a:T0):eqDecl a a=true:=by
 unfold eqDecl
 rw [eqStr_refl,alleq_refl _ (by simp [eqField]),alleq_refl _ (by simp [eqDiff]),alleq_refl _ (by simp [eqPair])];simp
theorem eqGlobal_refl (a:T4):eqGlobal a a=true:=by
 unfold eqGlobal
 rw [eqStr_refl,alleq_refl _ eqStr_refl,alleq_refl _ eqDecl_refl,alleq_refl _ (by simp [eqEdge]),alleq_refl _ (by simp [eqTimeout])];simp
structure SizeD (x:T0):Prop where
 f:x.Fields.length≤4194304
 d:x.Guard.Diffs.length≤4194304
 e:x.Guard.Equals.length≤4194304
structure SizeG (g:T4):Prop where
 r:g.Roles.length≤4194304
 d:g.Decls.length≤4194304
 dd:∀ x∈g.Decls,SizeD x
 e:g.Edges.length≤4194304
 t:g.Timeouts.length≤4194304
variable {N:Nat} (hN:4194304 < N)
theorem mem_get {α:Type} {xs:List α} {k:Nat} {x:α} (h:xs[k]? = some x):x∈xs:=List.mem_of_getElem? h
include hN in
theorem refSame_eq (a b:List T0) (ha:a.length≤4194304) (hd:∀ d∈a,SizeD d):z79 N a b=some (alleq eqDecl a b):=by
 unfold z79
 by_cases hl:a.length=b.length
 ·have:((a.length:Int) != (b.length:Int))=false:=by simp [hl]
  rw [this,cond_false]
  have hx:=eq_loop_at eqDecl a b hl ha (z79_l2 N a b) (some true) (by
   intro n k x y hk hx hy
   have sz:=hd x (mem_get hx)
   simp only [z79_l2,lt_t hk,idx_nat,hx,hy,cT,bS]
   unfold z128
   rw [eq_all eqDiff _ _ sz.d (z128_l2 x.Guard.Diffs y.Guard.Diffs) hN (fun n k=>rfl)]
   simp only [bS]
   unfold eqDecl eqStr
   cases hA:(x.Name.toList==y.Name.toList)
   ·rfl
   by_cases hB:x.First=y.First
   ·rw [show (x.First==y.First)=true by simp [hB],show (x.First != y.First)=false by simp [hB]]
    by_cases hC:x.Fields.length=y.Fields.length
    ·rw [show ((x.Fields.length:Int) != (y.Fields.length:Int))=false by simp [hC]]
     cases hD:alleq eqDiff x.Guard.Diffs y.Guard.Diffs
     ·simp
     by_cases hE:x.Guard.Equals.length=y.Guard.Equals.length
     ·rw [show ((x.Guard.Equals.length:Int) != (y.Guard.Equals.length:Int))=false by simp [hE]]
      simp only [Bool.not_true,cond_false,Bool.true_and]
      rw [eq_loop eqField _ _ hC sz.f (z79_l6 N k (z79_l2 N a b n) x y) (z79_k5 N k (z79_l2 N a b n) x y) hN (fun n k=>rfl)]
      unfold z79_k5
      rw [eq_loop eqPair _ _ hE sz.e (z79_l4 k (z79_l2 N a b n) x y) (z79_k3 k (z79_l2 N a b n)) hN (fun n k=>rfl)]
      unfold z79_k3
      rw [w64_succ (by omega)]
      cases alleq eqField x.Fields y.Fields<;>cases alleq eqPair x.Guard.Equals y.Guard.Equals<;>rfl
     ·rw [show ((x.Guard.Equals.length:Int) != (y.Guard.Equals.length:Int))=true by simp;omega,alleq_len eqPair _ _ hE]
      simp
    ·rw [show ((x.Fields.length:Int) != (y.Fields.length:Int))=true by simp;omega,alleq_len eqField _ _ hC]
     simp
   ·rw [show (x.First==y.First)=false by simp [hB],show (x.First != y.First)=true by simp [hB]]
    simp) (by
   intro n k hk
   simp only [z79_l2,lt_f hk,cond_false];rfl) a b 0 N rfl rfl (by omega)
  rw [show (0:Int)=((0:Nat):Int) from rfl,hx]
  cases alleq eqDecl a b<;>rfl
 ·have:((a.length:Int) != (b.length:Int))=true:=by simp;omega
  rw [this,alleq_len eqDecl a b hl];rfl
include hN in
theorem refEqual_eq (a b:T4) (ha:SizeG a):z33 N a b=some (eqGlobal a b):=by
 unfold z33
 rw [refSame_eq hN _ _ ha.d ha.dd]
 simp only [bS]
 unfold eqGlobal
 rw [show eqStr a.Name b.Name=(a.Name.toList==b.Name.toList) from rfl]
 cases hA:(a.Name.toList==b.Name.toList)
 ·rfl
 by_cases hR:a.Roles.length=b.Roles.length
 ·rw [show ((a.Roles.length:Int) != (b.Roles.length:Int))=false by simp [hR]]
  cases hB:alleq eqDecl a.Decls b.Decls
  ·simp
  by_cases h1:a.States=b.States
  ·by_cases h2:a.Start=b.Start
   ·by_cases h3:a.End=b.End
    ·rw [show (a.States==b.States)=true by simp [h1],show (a.States != b.States)=false by simp [h1],show (a.Start==b.Start)=true by simp [h2],show (a.Start != b.Start)=false by simp [h2],show (a.End==b.End)=true by simp [h3],show (a.End != b.End)=false by simp [h3]]
     by_cases hE:a.Edges.length=b.Edges.length
     ·rw [show ((a.Edges.length:Int) != (b.Edges.length:Int))=false by simp [hE]]
      by_cases hT:a.Timeouts.length=b.Timeouts.length
      ·rw [show ((a.Timeouts.length:Int) != (b.Timeouts.length:Int))=false by simp [hT]]
       simp only [Bool.not_true,cond_false,Bool.true_and]
       rw [eq_loop eqStr _ _ hR ha.r (z33_l6 N a b) (z33_k5 N a b) hN (fun n k=>rfl)]
       unfold z33_k5
       rw [eq_loop eqEdge _ _ hE ha.e (z33_l4 N a b) (z33_k3 N a b) hN (fun n k=>rfl)]
       unfold z33_k3
       rw [eq_loop eqTimeout _ _ hT ha.t (z33_l2 a b) (z33_k1) hN (fun n k=>rfl)]
       cases alleq eqStr a.Roles b.Roles<;>cases alleq eqEdge a.Edges b.Edges<;>cases alleq eqTimeout a.Timeouts b.Timeouts<;>rfl
      ·rw [show ((a.Timeouts.length:Int) != (b.Timeouts.length:Int))=true by simp;omega,alleq_len eqTimeout _ _ hT]
       simp
     ·rw [show ((a.Edges.length:Int) != (b.Edges.length:Int))=true by simp;omega,alleq_len eqEdge _ _ hE]
      simp
    ·rw [show (a.End==b.End)=false by simp [h3],show (a.End != b.End)=true by simp [h3]]
     cases (a.States != b.States)<;>cases (a.Start != b.Start)<;>simp
   ·rw [show (a.Start==b.Start)=false by simp [h2],show (a.Start != b.Start)=true by simp [h2]]
    cases (a.States != b.States)<;>simp
  ·rw [show (a.States==b.States)=false by simp [h1],show (a.States != b.States)=true by simp [h1]]
   simp
 ·rw [show ((a.Roles.length:Int) != (b.Roles.length:Int))=true by simp;omega,alleq_len eqStr _ _ hR]
  simp
end Gp
end
section
namespace Gp
open Go Go.Kx Gx
variable {N:Nat} (hN:4194304 < N)
include hN in
theorem few14_some (l:List T0) (hl:l.length≤4194304):∃ r,z44 N l=some r:=by
 unfold z44
 suffices h:∀ (m:List T0) (k n:Nat) (s:Int),l.drop k=m→m.length < n→∃ r,z44_l2 l n s (k:Int)=some r from h l 0 N 0 rfl (by omega)
 intro m
 induction m with
 | nil =>
  intro k n s h hn
  obtain ⟨n,rfl⟩:∃ m,n=m+1:=⟨n-1,by simp at hn;omega⟩
  simp only [z44_l2,lt_f (drop_nil h),cond_false,z44_k1]
  cases decide ((l.length:Int)≤60)<;>exact ⟨_,rfl⟩
 | cons x m ih =>
  intro k n s h hn
  obtain ⟨n,rfl⟩:∃ m,n=m+1:=⟨n-1,by simp at hn;omega⟩
  obtain ⟨a,c,d⟩:=drop_cons h
  simp only [z44_l2,lt_t a,cT,idx_nat,c,bS,w64_succ (show k < 4611686018427387904 by omega)]
  exact ih (k+1) n _ d (by simp at hn;omega)
include hN in
theorem few18_some (g:T4) (hg:SizeG g):∃ r,z13 N g=some r∧(r=true→g.States≤40∧g.Edges.length≤80∧g.Timeouts.length≤40∧g.Roles.length≤10∧z44 N g.Decls=some true):=by
 obtain ⟨r,hr⟩:=few14_some hN g.Decls hg.d
 unfold z13
 rw [hr]
 by_cases h1:g.States≤40
 ·by_cases h2:(g.Edges.length:Int)≤80
  ·by_cases h3:(g.Timeouts.length:Int)≤40
   ·by_cases h4:(g.Roles.length:Int)≤10
    ·refine ⟨r,?_,?_⟩
     ·rw [dT h1,dT h2,dT h3,dT h4];rfl
     ·intro hh;subst hh;exact ⟨h1,by omega,by omega,by omega,rfl⟩
    ·exact ⟨false,by rw [dT h1,dT h2,dT h3,dF h4];rfl,fun h=>by cases h⟩
   ·exact ⟨false,by rw [dT h1,dT h2,dF h3];rfl,fun h=>by cases h⟩
  ·exact ⟨false,by rw [dT h1,dF h2];rfl,fun h=>by cases h⟩
 ·exact ⟨false,by rw [dF h1];rfl,fun h=>by cases h⟩
def nextB (s:Int) (a:T6) (x:T2) (_:Int) (r:Option (Int × Bool)):Option (Int × Bool) :=
 bif x.From==s then (bif ((x.Act.From==a.From) && ((x.Act.To==a.To) && ((x.Act.Label==a.Label) && true))) then some (x.To,true) else r) else r
def nextV (g:T4) (s:Int) (a:T6):Option (Int × Bool) :=
 lv (fun x (k:Nat) r=>nextB s a x k r) (some ((0:Int),false)) g.Edges 0
def whereV {α:Type} (f:α→Bool) (l:List α):Option Int:=lv (fun x (k:Nat) r=>bif f x then some (k:Int) else r) (some (-1)) l 0
theorem bcomm (a b:ByteArray):(a.toList==b.toList)=(b.toList==a.toList):=by
 rw [Bool.eq_iff_iff,beq_iff_eq,beq_iff_eq];exact ⟨Eq.symm,Eq.symm⟩
include hN in
theorem Index_eq (l:List ByteArray) (hl:l.length≤4194304) (v:ByteArray):z75 N l v=whereV (fun x=>eqStr x v) l:=by
 unfold z75 whereV
 refine look l hl (fun x k r=>bif eqStr x v then some k else r) (z75_l2 l v) _ hN ?_ ?_
 ·intro n k x hk hx
  simp only [z75_l2,lt_t hk,idx_nat,hx,cT,bS,eqStr,bcomm v x]
 ·intro n k hk
  simp only [z75_l2,lt_f hk,cond_false,z75_k1]
include hN in
theorem refIndex_eq (l:List ByteArray) (hl:l.length≤4194304) (v:ByteArray):z76 N l v=whereV (fun x=>eqStr x v) l:=by
 unfold z76 whereV
 refine look l hl (fun x k r=>bif eqStr x v then some k else r) (z76_l2 l v) _ hN ?_ ?_
 ·intro n k x hk hx
  simp only [z76_l2,lt_t hk,idx_nat,hx,cT,bS,eqStr]
 ·intro n k hk
  simp only [z76_l2,lt_f hk,cond_false,z76_k1]
end Gp
end
section
namespace Gp
open Go Go.Kx Gx
def I64 (n:Int):Prop:=-9223372036854775808≤n∧n≤9223372036854775807
theorem I64.of {n:Int} (h:(Lit.int .i64 n).wf=true):I64 n:=by
 simp [Lit.wf,IntKind.min,IntKind.max,IntKind.signed,IntKind.bits] at h
 constructor<;>omega
def ekey (e:T2):Int:=e.Act.To * 1180591620717411303424+e.Act.Label
def key (g:T4) (x:Int):Int:=match g.Edges[x.toNat]? with | some e=>ekey e | none=>0
def Vx (g:T4) (x:Int):Prop:=0≤x∧x < (g.Edges.length:Int)
def NumE (g:T4):Prop:=∀ e∈g.Edges,I64 e.Act.To∧I64 e.Act.Label
theorem Vx.get {g:T4} {x:Int} (h:Vx g x):∃ e,idx g.Edges x=some e∧key g x=ekey e∧e∈g.Edges:=by
 obtain ⟨h0,h1⟩:=h
 obtain ⟨k,rfl⟩:∃ k:Nat,x=(k:Int):=⟨x.toNat,by omega⟩
 have hk:k < g.Edges.length:=by omega
 refine ⟨g.Edges[k],by rw [idx_nat,List.getElem?_eq_getElem hk],?_,List.getElem_mem hk⟩
 unfold key
 rw [show (k:Int).toNat=k by simp,List.getElem?_eq_getElem hk]
def sgn (x y:Int):Int:=if x < y then -1 else if y < x then 1 else 0
theorem sgn_cases (x y:Int):(sgn x y=-1∧x < y)∨(sgn x y=1∧y < x)∨(sgn x y=0∧x=y):=by
 unfold sgn
 by_cases h:x < y
 ·exact .inl ⟨if_pos h,h⟩
 ·by_cases h':y < x
  ·exact .inr (.inl ⟨by rw [if_neg h,if_pos h'],h'⟩)
  ·exact .inr (.inr ⟨by rw [if_neg h,if_neg h'],by omega⟩)
theorem compare_eq (N:Nat) (x y:Int):z50 N x y=some (sgn x y):=by
 unfold z50 z111 sgn
 rw [show (x != x)=false by simp,show (y != y)=false by simp]
 simp only [bS,cond_false]
 by_cases h:x < y
 ·simp [h]
 ·by_cases h':y < x
  ·simp [h,h']
  ·simp [h,h']
theorem or_eq {N:Nat} (hN:3≤N) (x y:Int):z49 N [x,y]=some (if x=0 then y else x):=by
 obtain ⟨n,rfl⟩:∃ n,N=n+3:=⟨N-3,by omega⟩
 unfold z49
 have h1:w64 ((0:Int)+1)=1:=by decide
 have h2:w64 ((1:Int)+1)=2:=by decide
 have e0:idx [x,y] 0=some x:=rfl
 have e1:idx [x,y] 1=some y:=rfl
 have d0:decide ((0:Int) < (([x,y]:List Int).length:Int))=true:=by simp
 have d1:decide ((1:Int) < (([x,y]:List Int).length:Int))=true:=by simp
 have d2:decide ((2:Int) < (([x,y]:List Int).length:Int))=false:=by simp
 simp only [z49_l2,d0,d1,d2,h1,h2,e0,e1,bS,cT,cond_false,z49_k1]
 by_cases hx:x=0
 ·subst hx
  by_cases hy:y=0
  ·subst hy;rfl
  ·rw [show (y != (0:Int))=true by simp [hy]];rfl
 ·rw [show (x != (0:Int))=true by simp [hx],if_neg hx];rfl
theorem e_cmp (g:T4) (hg:NumE g):e_Cmp (key g) (Vx g) g:=by
 intro N x y hN hx hy
 obtain ⟨e,e1,e2,e3⟩:=hx.get
 obtain ⟨f,f1,f2,f3⟩:=hy.get
 obtain ⟨⟨a1,a2⟩,a3,a4⟩:=hg e e3
 obtain ⟨⟨b1,b2⟩,b3,b4⟩:=hg f f3
 refine ⟨if sgn e.Act.To f.Act.To=0 then sgn e.Act.Label f.Act.Label else sgn e.Act.To f.Act.To,?_,?_⟩
 ·unfold z48_8
  rw [e1,f1]
  simp only [bS,compare_eq]
  rw [or_eq (by omega)];rfl
 ·rw [e2,f2]
  unfold ekey
  rw [decide_eq_decide]
  rcases sgn_cases e.Act.To f.Act.To with ⟨h,h'⟩ | ⟨h,h'⟩ | ⟨h,h'⟩<;>rcases sgn_cases e.Act.Label f.Act.Label with ⟨k,k'⟩ | ⟨k,k'⟩ | ⟨k,k'⟩<;>rw [h,k]<;>simp<;>omega
def placesOf (g:T4) (s:Int):List T2→Nat→List Int
 | [],_=>[]
 | x::l,k=>if x.From=s then (k:Int)::placesOf g s l (k+1) else placesOf g s l (k+1)
theorem placesOf_ge (g:T4) (s:Int):∀ (l:List T2) (k:Nat),∀ y∈placesOf g s l k,(k:Int)≤y∧y < (k+l.length:Nat)
 | [],k,y,h=>by simp [placesOf] at h
 | x::l,k,y,h=>by
  unfold placesOf at h
  split at h
  ·rcases List.mem_cons.mp h with h | h
   ·subst h;simp;omega
   ·have:=placesOf_ge g s l (k+1) y h;simp;omega
  ·have:=placesOf_ge g s l (k+1) y h;simp;omega
theorem placesOf_up (g:T4) (s:Int):∀ (l:List T2) (k:Nat),(placesOf g s l k).Pairwise (· < ·)
  | [],k=>by simp [placesOf]
  | x::l,k=>by
    unfold placesOf
    split
    · refine List.pairwise_cons.mpr ⟨?_,placesOf_up g s l (k+1)⟩
      intro y hy
      have:=placesOf_ge g s l (k+1) y hy
      omega
    · exact placesOf_up g s l (k+1)
theorem placesOf_len (g:T4) (s:Int):∀ (l:List T2) (k:Nat),(placesOf g s l k).length≤l.length
 | [],k=>by simp [placesOf]
 | x::l,k=>by
  unfold placesOf
  have:=placesOf_len g s l (k+1)
  split<;>simp<;>omega
theorem edges_loop {N:Nat} (g:T4) (s:Int) (hg:g.Edges.length≤4194304) :
  ∀ (l:List T2) (k n:Nat) (acc:List Int),g.Edges.drop k=l→l.length < n→acc.length≤k→z18_l2 N g s n acc (k:Int)=z18_k1 N g (acc++placesOf g s l k):=by
 intro l
 induction l with
 | nil =>
  intro k n acc h hn ha
  obtain ⟨n,rfl⟩:∃ m,n=m+1:=⟨n-1,by simp at hn;omega⟩
  simp only [z18_l2,lt_f (drop_nil h),cond_false,placesOf,List.append_nil]
 | cons x l ih =>
  intro k n acc h hn ha
  obtain ⟨n,rfl⟩:∃ m,n=m+1:=⟨n-1,by simp at hn;omega⟩
  obtain ⟨a,c,d⟩:=drop_cons h
  simp only [List.length_cons] at hn
  simp only [z18_l2,lt_t a,cT,idx_nat,c,bS,w64_succ (show k < 4611686018427387904 by omega),placesOf]
  by_cases hs:x.From=s
  ·rw [show (x.From==s)=true by simp [hs],cT,appL_some (by simp;omega),bS,ih (k+1) n _ d (by omega) (by simp;omega),if_pos hs]
   simp
  ·rw [show (x.From==s)=false by simp [hs],cond_false,ih (k+1) n _ d (by omega) (by omega),if_neg hs]
def EdgesAre (g:T4) (s:Int) (L:List Int):Prop:=L.Perm (placesOf g s g.Edges 0)∧Srt (key g) (· < ·) L
theorem Edges_eq {N:Nat} (hN:16777216 < N) (g:T4) (hg:g.Edges.length≤4194304) (hn:NumE g) (s:Int):∃ L,EdgesAre g s L∧z18 N g s=some L:=by
  have hl:=placesOf_len g s g.Edges 0
  obtain ⟨C,c1,c2,c3⟩:=e_sort (r:=(· < ·)) (e_cmp g hn) (N:=N) (placesOf g s g.Edges 0) (by omega) (by omega)
    (fun y hy=>by have:=placesOf_ge g s g.Edges 0 y hy;exact ⟨by omega,by omega⟩) (placesOf_up g s g.Edges 0)
  refine ⟨C,⟨c1,c2⟩,?_⟩
  unfold z18
  have h:=edges_loop (N:=N) g s hg g.Edges 0 N [] rfl (by omega) (by simp)
  rw [show (0:Int)=((0:Nat):Int) from rfl,h]
  unfold z18_k1
  rw [List.nil_append,c3];rfl
theorem before_eq {N:Nat} (g:T4) (hn:NumE g) (x y:Int) (hx:Vx g x) (hy:Vx g y):∃ b,z74 N g x y=some b∧(b=true↔Lt (key g) (· < ·) x y):=by
  obtain ⟨e,e1,e2,e3⟩:=hx.get
  obtain ⟨f,f1,f2,f3⟩:=hy.get
  obtain ⟨⟨a1,a2⟩,a3,a4⟩:=hn e e3
  obtain ⟨⟨b1,b2⟩,b3,b4⟩:=hn f f3
  unfold z74
  rw [e1,f1]
  simp only [bS]
  unfold Lt
  rw [e2,f2]
  unfold ekey
  by_cases c1:e.Act.To=f.Act.To
  · rw [show (e.Act.To != f.Act.To)=false by simp [c1],cond_false]
    by_cases c2:e.Act.Label=f.Act.Label
    · rw [show (e.Act.Label != f.Act.Label)=false by simp [c2],cond_false]
      exact ⟨_,rfl,by rw [decide_eq_true_iff];omega⟩
    · rw [show (e.Act.Label != f.Act.Label)=true by simp [c2],cT]
      exact ⟨_,rfl,by rw [decide_eq_true_iff];omega⟩
  · rw [show (e.Act.To != f.Act.To)=true by simp [c1],cT]
    exact ⟨_,rfl,by rw [decide_eq_true_iff];omega⟩
theorem lt_as {g:T4} (x y:Int) (h:Lt (key g) (· < ·) x y):¬ Lt (key g) (· < ·) y x:=by
  unfold Lt at *;omega
theorem lt_tr {g:T4} {x y z:Int} (h:Lt (key g) (· < ·) x y) (h':Lt (key g) (· < ·) y z):Lt (key g) (· < ·) x z:=by
  unfold Lt at *;omega
theorem lt_tot {g:T4} {x y:Int} (h:¬ Lt (key g) (· < ·) x y) (hne:x≠y):Lt (key g) (· < ·) y x:=by
  unfold Lt at *;omega
theorem EdgesAre.uniq {g:T4} {s:Int} {A B:List Int} (ha:EdgesAre g s A) (hb:EdgesAre g s B):A=B :=
 srt_uniq lt_as A B (ha.1.trans hb.1.symm) ha.2 hb.2
theorem refEdges_in {N:Nat} (g:T4) (hn:NumE g) (acc:List Int) (hacc:∀ y∈acc,Vx g y) (hal:acc.length≤4194304) (v:Int) (hv:Vx g v) (ag:List Int→Int→Option (List Int)) :
    ∀ (n:Nat) (A B:List Int) (j:Int),B.length < n→acc=A++B→j=(A.length:Int)→(∀ y∈A,Lt (key g) (· < ·) y v) →
    ∃ A B,acc=A++B∧(∀ y∈A,Lt (key g) (· < ·) y v)∧(∀ y C,B=y::C→¬ Lt (key g) (· < ·) y v)∧z28_l4 N g acc v ag n j=z28_k3 acc v ag (A.length:Int):=by
  intro n
  induction n with
  | zero=>intro A B j h;omega
  | succ n ih =>
    intro A B j hn' he hj hA
    cases B with
    | nil =>
      have hd:decide (j < (acc.length:Int))=false:=by rw [he];simp;omega
      refine ⟨A,[],he,hA,by simp,?_⟩
      simp only [z28_l4,hd,cond_false]
      rw [hj]
    | cons y B =>
      have hd:decide (j < (acc.length:Int))=true:=by rw [he];simp;omega
      have e1:idx acc j=some y:=idx_mid he hj
      obtain ⟨b,b1,b2⟩:=before_eq (N:=N) g hn y v (hacc y (by rw [he];simp)) hv
      cases b with
      | true =>
        have hl:acc.length=A.length+(B.length+1):=by rw [he];simp
        obtain ⟨A',B',p1,p2,p3,p4⟩:=ih (A++[y]) B (w64 (j+1)) (by simp at hn';omega) (by rw [he];simp) (by rw [hj,w64_succ (by omega)];simp)
          (by
            intro z hz
            rcases List.mem_append.mp hz with hz | hz
            · exact hA z hz
            · simp at hz;subst hz;exact b2.mp rfl)
        refine ⟨A',B',p1,p2,p3,?_⟩
        simp only [z28_l4,hd,cT,e1,bS,b1]
        exact p4
      | false =>
        refine ⟨A,y::B,he,hA,?_,?_⟩
        · intro z C hz
          have:=(List.cons.inj hz).1
          subst this
          intro h
          have:=b2.mpr h
          cases this
        · simp only [z28_l4,hd,cT,e1,bS,b1,cond_false]
          rw [hj]
end Gp
end
section
namespace Gp
open Go Go.Kx Gx
theorem lsl_to {α:Type} {L A B:List α} {i:Int} (hL:L=A++B) (hi:i=(A.length:Int)):lsl L none (some i)=some A:=by
 subst hL hi
 have h:decide ((A.length:Int)≤((A++B).length:Int))=true:=by simp;omega
 have h2:decide ((0:Int)≤(A.length:Int))=true:=by simp
 unfold lsl bnd
 simp only [Option.getD_some,Option.getD_none,h,h2]
 simp
theorem lsl_from {α:Type} {L A B:List α} {i:Int} (hL:L=A++B) (hi:i=(A.length:Int)):lsl L (some i) none=some B:=by
 subst hL hi
 have h:decide ((A.length:Int)≤((A++B).length:Int))=true:=by simp;omega
 have h2:decide ((0:Int)≤(A.length:Int))=true:=by simp
 unfold lsl bnd
 simp only [Option.getD_some,Option.getD_none,h,h2,Int.le_refl,decide_true,Bool.and_self,cT,Option.map_some,Int.toNat_natCast,List.take_length]
 simp
theorem refEdges_loop {N:Nat} (g:T4) (s:Int) (hn:NumE g) (hg:g.Edges.length≤4194304) (hN:4194304 < N) :
    ∀ (l:List T2) (k n:Nat) (acc pre:List Int),g.Edges.drop k=l→l.length < n→placesOf g s g.Edges 0=pre++placesOf g s l k→(∀ y∈pre,0≤y∧y < (k:Int))→acc.Perm pre→Srt (key g) (· < ·) acc →
    ∃ L,EdgesAre g s L∧z28_l2 N g s n acc (k:Int)=some L:=by
  intro l
  induction l with
  | nil =>
    intro k n acc pre h hn' he hp hperm hs
    obtain ⟨n,rfl⟩:∃ m,n=m+1:=⟨n-1,by simp at hn';omega⟩
    refine ⟨acc,⟨by rw [he];simpa [placesOf] using hperm,hs⟩,?_⟩
    simp only [z28_l2,lt_f (drop_nil h),cond_false,z28_k1]
  | cons x l ih =>
    intro k n acc pre h hn' he hp hperm hs
    obtain ⟨n,rfl⟩:∃ m,n=m+1:=⟨n-1,by simp at hn';omega⟩
    obtain ⟨a,c,d⟩:=drop_cons h
    simp only [List.length_cons] at hn'
    have e0:placesOf g s (x::l) k=if x.From=s then (k:Int)::placesOf g s l (k+1) else placesOf g s l (k+1):=rfl
    rw [e0] at he
    by_cases hf:x.From=s
    · rw [if_pos hf] at he
      have hpl:pre.length≤g.Edges.length:=by
        have h1:=placesOf_len g s g.Edges 0
        have h2:=congrArg List.length he
        simp at h2;omega
      have hal:acc.length≤g.Edges.length:=by rw [hperm.length_eq];exact hpl
      have hk:Vx g (k:Int):=⟨by omega,by omega⟩
      obtain ⟨A,B,p1,p2,p3,p4⟩:=refEdges_in (N:=N) g hn acc (fun y hy=>by have:=hp y (hperm.mem_iff.mp hy);exact ⟨by omega,by omega⟩) (by omega) (k:Int) hk (z28_l2 N g s n) N [] acc (0:Int) (by omega) rfl (by simp) (by simp)
      have hl:acc.length=A.length+B.length:=by rw [p1];simp
      have hB:∀ y∈B,Lt (key g) (· < ·) (k:Int) y:=by
        cases B with
        | nil=>simp
        | cons z B =>
          have hz:z∈pre:=hperm.mem_iff.mp (by rw [p1];simp)
          have hzk:=hp z hz
          have h1:Lt (key g) (· < ·) (k:Int) z:=lt_tot (p3 z B rfl) (by omega)
          intro y hy
          rcases List.mem_cons.mp hy with hy | hy
          · subst hy;exact h1
          · rw [p1] at hs
            exact lt_tr h1 ((srt_cons.mp (srt_app.mp hs).2.1).1 y hy)
      have hs':Srt (key g) (· < ·) (A++(k:Int)::B):=by
        rw [p1] at hs
        obtain ⟨s1,s2,s3⟩:=srt_app.mp hs
        refine srt_app.mpr ⟨s1,srt_cons.mpr ⟨hB,s2⟩,?_⟩
        intro y hy z hz
        rcases List.mem_cons.mp hz with hz | hz
        · subst hz;exact p2 y hy
        · exact s3 y hy z hz
      have hperm':(A++(k:Int)::B).Perm (pre++[(k:Int)]):=by
        refine List.perm_middle.trans ?_
        rw [p1] at hperm
        exact (List.Perm.cons _ hperm).trans (List.perm_append_singleton _ pre).symm
      obtain ⟨L,q1,q2⟩:=ih (k+1) n (A++(k:Int)::B) (pre++[(k:Int)]) d (by omega) (by rw [he];simp)
        (by
          intro y hy
          rcases List.mem_append.mp hy with hy | hy
          · have:=hp y hy;omega
          · simp at hy;omega) hperm' hs'
      refine ⟨L,q1,?_⟩
      simp only [z28_l2,lt_t a,cT,idx_nat,c,bS,show (x.From != s)=false by simp [hf],cond_false,p4,z28_k3]
      rw [lsl_to p1 rfl,lsl_from p1 rfl]
      simp only [bS]
      rw [appL_some (by simp;omega)]
      simp only [bS]
      rw [appL_some (by simp;omega)]
      simp only [bS]
      rw [w64_succ (by omega)]
      exact q2
    · rw [if_neg hf] at he
      obtain ⟨L,q1,q2⟩:=ih (k+1) n acc pre d (by omega) he (fun y hy=>by have:=hp y hy;omega) hperm hs
      refine ⟨L,q1,?_⟩
      simp only [z28_l2,lt_t a,cT,idx_nat,c,bS,show (x.From != s)=true by simp [hf]]
      rw [w64_succ (by omega)]
      exact q2
theorem refEdges_eq {N:Nat} (hN:4194304 < N) (g:T4) (hg:g.Edges.length≤4194304) (hn:NumE g) (s:Int):∃ L,EdgesAre g s L∧z28 N g s=some L:=by
 unfold z28
 exact refEdges_loop g s hn hg hN g.Edges 0 N [] [] rfl (by omega) (by simp) (by simp) (.refl _) srt_nil
theorem Edges_both {N:Nat} (hN:16777216 < N) (g:T4) (hg:g.Edges.length≤4194304) (hn:NumE g) (s:Int):∃ L,EdgesAre g s L∧z18 N g s=some L∧z28 N g s=some L:=by
 obtain ⟨A,a1,a2⟩:=Edges_eq hN g hg hn s
 obtain ⟨B,b1,b2⟩:=refEdges_eq (N:=N) (by omega) g hg hn s
 have:=a1.uniq b1
 subst this
 exact ⟨A,a1,a2,b2⟩
end Gp
end
section
namespace Gp
open Go Go.Kx Gx
def allV {α:Type} (p:α→Nat→Bool):List α→Nat→Bool
 | [],_=>true
 | x::l,k=>p x k && allV p l (k+1)
theorem allV_of {α:Type} (p:α→Nat→Bool) (xs:List α) (F:Nat→Int→Option Bool) (e:Option Bool)
  (h1:∀ n k x,k < xs.length→xs[k]? = some x→F (n+1) (k:Int)=bif p x k then F n ((k+1:Nat):Int) else some false)
  (h2:∀ n k,xs.length≤k→F (n+1) (k:Int)=e) :
  ∀ (l:List α) (k n:Nat),xs.drop k=l→l.length < n→F n (k:Int)=bif allV p l k then e else some false:=by
 intro l
 induction l with
 | nil =>
  intro k n h hn
  obtain ⟨n,rfl⟩:∃ m,n=m+1:=⟨n-1,by simp at hn;omega⟩
  exact h2 n k (drop_nil h)
 | cons x l ih =>
  intro k n h hn
  obtain ⟨n,rfl⟩:∃ m,n=m+1:=⟨n-1,by simp at hn;omega⟩
  obtain ⟨a,c,d⟩:=drop_cons h
  rw [h1 n k x a c,ih (k+1) n d (by simp at hn;omega)]
  show _=bif (p x k && allV p l (k+1)) then e else some false
  cases p x k<;>rfl
theorem allV_from {α:Type} (p:α→Nat→Bool) {xs:List α} {F:Nat→Int→Option Bool} {e:Option Bool} {n:Nat} (hn:xs.length < n)
  (h1:∀ n k x,k < xs.length→xs[k]? = some x→F (n+1) (k:Int)=bif p x k then F n ((k+1:Nat):Int) else some false)
  (h2:∀ n k,xs.length≤k→F (n+1) (k:Int)=e):F n (0:Int)=bif allV p xs 0 then e else some false :=
 allV_of p xs F e h1 h2 xs 0 n rfl hn
theorem allV_iff {α:Type} (p:α→Nat→Bool):∀ (l:List α) (k:Nat),allV p l k=true↔∀ i x,l[i]? = some x→p x (k+i)=true
 | [],k=>by simp [allV]
 | x::l,k=>by
  show (p x k && allV p l (k+1))=true↔_
  rw [Bool.and_eq_true,allV_iff p l (k+1)]
  constructor
  ·rintro ⟨h0,h1⟩ i y hy
   cases i with
   | zero=>simp at hy;subst hy;exact h0
   | succ i=>have:=h1 i y (by simpa using hy);rw [show k+(i+1)=k+1+i by omega];exact this
  ·intro h
   exact ⟨by simpa using h 0 x (by simp),fun i y hy=>by rw [show k+1+i=k+(i+1) by omega];exact h (i+1) y (by simpa using hy)⟩
def bs (s:ByteArray):List UInt8:=s.data.toList
theorem size_bs (s:ByteArray):s.size=(bs s).length:=rfl
theorem slt_t {s:ByteArray} {k:Nat} (h:k < (bs s).length):decide ((k:Int) < (s.size:Int))=true:=lt_t h
theorem slt_f {s:ByteArray} {k:Nat} (h:(bs s).length≤k):decide ((k:Int) < (s.size:Int))=false:=lt_f h
theorem toList_bs (s:ByteArray):s.toList=bs s:=ByteArray.toList_eq s
theorem bs_inj {a b:ByteArray} (h:bs a=bs b):a=b:=by
 cases a with | mk a=>cases b with | mk b=>simpa [bs] using h
theorem sidx_bs (s:ByteArray) (k:Nat):sidx s (k:Int)=(bs s)[k]?.map (fun b=>(b.toNat:Int)):=by
 unfold sidx
 have h:decide (0≤(k:Int))=true:=by simp
 rw [h,cT]
 have e:s[(k:Int).toNat]? = (bs s)[k]? := by
  simp [getElem?_def,bs]
  split<;>simp_all
  rfl
 rw [e]
variable {N:Nat} (hN:4194304 < N)
def letterV (c:Int):Bool:=(decide (97≤c) && decide (c≤122)) || (decide (65≤c) && decide (c≤90))
def innerV (c:Int):Bool:=letterV c || ((decide (48≤c) && decide (c≤57)) || c==95)
theorem letter_eq (N:Nat) (c:Int):z173 N c=some (letterV c):=by
 unfold z173 letterV
 cases decide (97≤c)<;>cases decide (c≤122)<;>cases decide (65≤c)<;>rfl
theorem refLetter_eq (N:Nat) (c:Int):z169 N c=some (letterV c):=letter_eq N c
theorem inner_eq (N:Nat) (c:Int):z174 N c=some (innerV c):=by
 unfold z174 innerV z186
 rw [letter_eq]
 simp only [bS]
 cases letterV c
 ·cases decide (48≤c)<;>cases decide (c≤57)<;>rfl
 ·rfl
def isName (s:ByteArray):Bool :=
 match bs s with
 | []=>false
 | x::l=>letterV (x.toNat:Int) && (decide (l.length < 16) && allV (fun (c:UInt8) _=>innerV (c.toNat:Int)) (x::l) 0)
def keywords:List ByteArray:=[(str [97,103,97,105,110]),(str [97,110,100]),(str [97,115]),(str [97,116]),(str [99,97,108,108]),(str [99,104,111,105,99,101]),(str [101,108,115,101]),(str [102,114,111,109]),(str [105,102]),(str [105,110,116]),(str [108,101,110]),(str [108,111,111,112]),(str [109,101,115,115,97,103,101]),(str [111,102]),(str [111,102,102,101,114]),(str [111,110]),(str [111,114]),(str [112,97,114]),(str [112,108,97,121,115]),(str [112,114,111,116,111,99,111,108]),(str [115,101,114,118,105,99,101]),(str [116,101,120,116]),(str [116,105,109,101,115]),(str [116,111]),(str [118,97,114]),(str [119,104,101,114,101]),(str [119,104,105,108,101]),(str [119,105,116,104,105,110])]
def isWord (s:ByteArray):Bool:=isName s && !(keywords.any fun k=>eqStr k s)
include hN in
theorem nameL (s:ByteArray) (hs:s.size≤4194304):z157_l2 N s N (0:Int)=some (allV (fun (c:UInt8) _=>innerV (c.toNat:Int)) (bs s) 0):=by
 rw [size_bs] at hs
 rw [allV_from (xs:=bs s) (fun (c:UInt8) _=>innerV (c.toNat:Int)) (F:=z157_l2 N s) (e:=some true) (by omega)]
 ·cases allV (fun (c:UInt8) _=>innerV (c.toNat:Int)) (bs s) 0<;>rfl
 ·intro n k x hk hx
  simp only [z157_l2,slt_t hk,cT,sidx_bs,hx,Option.map_some,bS,inner_eq,w64_succ (show k < 4611686018427387904 by omega)]
  cases innerV (x.toNat:Int)<;>rfl
 ·intro n k hk
  simp only [z157_l2,slt_f hk,cond_false,z157_k1]
theorem nameL_ref (s:ByteArray):∀ n k,z148_l2 N s n k=z157_l2 N s n k
 | 0,_=>rfl
 | n+1,k=>by
  simp only [z148_l2,z157_l2,nameL_ref s n]
  rfl
theorem bs_nil:bs (str [])=[]:=rfl
include hN in
theorem name_eq (s:ByteArray) (hs:s.size≤4194304):z157 N s=some (isName s)∧z148 N s=some (isName s):=by
 unfold z157 z148
 rw [nameL_ref,nameL hN s hs,toList_bs,toList_bs,bs_nil,size_bs,show sidx s (0:Int)=sidx s ((0:Nat):Int) from rfl,sidx_bs]
 unfold isName
 cases h:bs s with
 | nil=>exact ⟨rfl,rfl⟩
 | cons x l =>
  have e:(x::l==([]:List UInt8))=false:=rfl
  rw [e]
  simp only [cond_false,List.getElem?_cons_zero,Option.map_some,bS,letter_eq,refLetter_eq]
  have d:decide (((x::l).length:Int) > 16) = !decide (l.length < 16):=by
   by_cases q:l.length < 16
   ·rw [dT q];simp;omega
   ·rw [dF q];simp;omega
  rw [d]
  cases letterV (x.toNat:Int)<;>cases decide (l.length < 16)<;>exact ⟨rfl,rfl⟩
theorem whereV_any {α:Type} (f:α→Bool) (l:List α) (k:Nat):∃ i,lv (fun x (k:Nat) r=>bif f x then some (k:Int) else r) (some (-1)) l k=some i∧decide (i≥0)=l.any f:=by
 induction l generalizing k with
 | nil=>exact ⟨-1,rfl,rfl⟩
 | cons x l ih =>
  show ∃ i,(bif f x then some (k:Int) else lv _ _ l (k+1))=some i∧_
  rw [List.any_cons]
  cases f x
  ·exact ih (k+1)
  ·exact ⟨k,rfl,by simp⟩
include hN in
theorem contains_eq (l:List ByteArray) (hl:l.length≤4194304) (v:ByteArray):z121 N l v=some (l.any fun x=>eqStr x v):=by
 unfold z121
 rw [Index_eq hN l hl]
 obtain ⟨i,h1,h2⟩:=whereV_any (fun x=>eqStr x v) l 0
 unfold whereV
 rw [h1,bS,h2]
include hN in
theorem refIn_eq (l:List ByteArray) (hl:l.length≤4194304) (v:ByteArray):z149 N l v=some (l.any fun x=>eqStr x v):=by
 unfold z149
 rw [look l hl (fun x k r=>bif eqStr x v then some true else r) (z149_l2 l v) (some false) hN]
 ·generalize (0:Nat)=k
  induction l generalizing k with
  | nil=>rfl
  | cons x l ih =>
   show (bif eqStr x v then some true else lv _ _ l (k+1))=_
   rw [List.any_cons,ih (by simp at hl;omega)]
   cases eqStr x v<;>rfl
 ·intro n k x hk hx
  simp only [z149_l2,lt_t hk,idx_nat,hx,cT,bS,eqStr]
 ·intro n k hk
  simp only [z149_l2,lt_f hk,cond_false,z149_k1]
include hN in
theorem word_eq (s:ByteArray) (hs:s.size≤4194304):z120 N s=some (isWord s)∧z112 N s=some (isWord s):=by
 obtain ⟨h1,h2⟩:=name_eq hN s hs
 unfold z120 z112 z150
 rw [h1,h2]
 simp only [bS]
 have c1:=contains_eq hN keywords (by decide) s
 have c2:=refIn_eq hN keywords (by decide) s
 unfold keywords at c1 c2
 rw [c1,c2]
 unfold isWord keywords
 simp only [bS]
 cases isName s<;>exact ⟨rfl,rfl⟩
end Gp
end
section
namespace Gp
open Go Go.Kx Gx
theorem minI_lt {a b n:Int}:minI a b < n↔a < n∨b < n:=by unfold minI;split<;>omega
theorem maxI_ge {a b n:Int}:maxI a b≥n↔a≥n∨b≥n:=by unfold maxI;split<;>omega
variable {N:Nat} (hN:4194304 < N)
def okE (g:T4) (x:T2):Prop :=
 0≤x.From∧x.From < g.States∧0≤x.To∧x.To < g.States∧0≤x.Act.From∧x.Act.From < (g.Roles.length:Int)∧0≤x.Act.To∧x.Act.To < (g.Roles.length:Int)∧x.Act.From≠x.Act.To∧0≤x.Act.Label∧x.Act.Label < (g.Decls.length:Int)
instance (g:T4) (x:T2):Decidable (okE g x):=by unfold okE;infer_instance
def okH (g:T4):Prop :=
 1≤g.States∧g.States≤200∧0≤g.Start∧g.Start < g.States∧0≤g.End∧g.End < g.States∧g.Edges.length≤400
instance (g:T4):Decidable (okH g):=by unfold okH;infer_instance
def numV (g:T4):Bool:=decide (okH g) && allV (fun x _=>decide (okE g x)) g.Edges 0
include hN in
theorem numbered_eq (g:T4) (hg:g.Edges.length≤4194304):z62 N g=some (numV g):=by
 unfold z62
 rw [allV_from (fun x _=>decide (okE g x)) (xs:=g.Edges) (F:=z62_l2 g) (e:=some true) (by omega)]
 ·unfold numV
  by_cases c1:g.States < 1
  ·rw [dT c1,dF (show ¬ okH g by unfold okH;omega)];rfl
  by_cases c2:g.States > 200
  ·rw [dF c1,dT c2,dF (show ¬ okH g by unfold okH;omega)];rfl
  by_cases c3:minI g.Start g.End < 0
  ·rw [dF c1,dF c2,dT c3,dF (show ¬ okH g by rw [minI_lt] at c3;unfold okH;omega)];rfl
  by_cases c4:maxI g.Start g.End≥g.States
  ·rw [dF c1,dF c2,dF c3,dT c4,dF (show ¬ okH g by rw [maxI_ge] at c4;unfold okH;omega)];rfl
  by_cases c5:(g.Edges.length:Int) > 400
  ·rw [dF c1,dF c2,dF c3,dF c4,dT c5,dF (show ¬ okH g by unfold okH;omega)];rfl
  rw [dF c1,dF c2,dF c3,dF c4,dF c5,dT (show okH g by rw [minI_lt] at c3;rw [maxI_ge] at c4;unfold okH;omega)]
  cases allV (fun x _=>decide (okE g x)) g.Edges 0<;>rfl
 ·intro n k x hk hx
  simp only [z62_l2,lt_t hk,idx_nat,hx,cT,bS,w64_succ (show k < 4611686018427387904 by omega)]
  by_cases c1:minI (minI (minI (minI x.From x.To) x.Act.From) x.Act.To) x.Act.Label < 0
  ·rw [dT c1,dF (show ¬ okE g x by rw [minI_lt,minI_lt,minI_lt,minI_lt] at c1;unfold okE;omega)];rfl
  by_cases c2:maxI x.From x.To≥g.States
  ·rw [dF c1,dT c2,dF (show ¬ okE g x by rw [maxI_ge] at c2;unfold okE;omega)];rfl
  by_cases c3:maxI x.Act.From x.Act.To≥(g.Roles.length:Int)
  ·rw [dF c1,dF c2,dT c3,dF (show ¬ okE g x by rw [maxI_ge] at c3;unfold okE;omega)];rfl
  by_cases c4:x.Act.From=x.Act.To
  ·rw [dF c1,dF c2,dF c3,show (x.Act.From==x.Act.To)=true by simp [c4],dF (show ¬ okE g x by unfold okE;omega)];rfl
  by_cases c5:x.Act.Label≥(g.Decls.length:Int)
  ·rw [dF c1,dF c2,dF c3,show (x.Act.From==x.Act.To)=false by simp [c4],dT c5,dF (show ¬ okE g x by unfold okE;omega)];rfl
  rw [dF c1,dF c2,dF c3,show (x.Act.From==x.Act.To)=false by simp [c4],dF c5,dT (show okE g x by rw [minI_lt,minI_lt,minI_lt,minI_lt] at c1;rw [maxI_ge] at c2 c3;unfold okE;omega)]
  rfl
 ·intro n k hk
  simp only [z62_l2,lt_f hk,cond_false,z62_k1]
theorem refState_eq (N:Nat) (g:T4) (s:Int):z114 N g s=some (decide (0≤s∧s < g.States)):=by
 unfold z114
 by_cases c1:s≥0
 ·by_cases c2:s < g.States
  ·rw [dT c1,dT c2,dT ⟨c1,c2⟩];rfl
  ·rw [dT c1,dF c2,dF (show ¬ (0≤s∧s < g.States) by omega)];rfl
 ·rw [dF c1,dF (show ¬ (0≤s∧s < g.States) by omega)];rfl
include hN in
theorem numbers_eq (g:T4) (hg:g.Edges.length≤4194304):z52 N g=some (numV g):=by
 unfold z52
 rw [allV_from (fun x _=>decide (okE g x)) (xs:=g.Edges) (F:=z52_l2 N g) (e:=z52_k1 N g) (by omega)]
 ·unfold numV z52_k1
  rw [refState_eq,refState_eq]
  simp only [bS]
  cases allV (fun x _=>decide (okE g x)) g.Edges 0
  ·simp
  by_cases c1:g.States≥1
  ·by_cases c2:g.States≤200
   ·by_cases c3:0≤g.Start∧g.Start < g.States
    ·by_cases c4:0≤g.End∧g.End < g.States
     ·by_cases c5:(g.Edges.length:Int)≤400
      ·rw [dT c1,dT c2,dT c3,dT c4,dT c5,dT (show okH g by unfold okH;omega)];rfl
      ·rw [dT c1,dT c2,dT c3,dT c4,dF c5,dF (show ¬ okH g by unfold okH;omega)];rfl
     ·rw [dT c1,dT c2,dT c3,dF c4,dF (show ¬ okH g by unfold okH;omega)];rfl
    ·rw [dT c1,dT c2,dF c3,dF (show ¬ okH g by unfold okH;omega)];rfl
   ·rw [dT c1,dF c2,dF (show ¬ okH g by unfold okH;omega)];rfl
  ·rw [dF c1,dF (show ¬ okH g by unfold okH;omega)];rfl
 ·intro n k x hk hx
  simp only [z52_l2,lt_t hk,idx_nat,hx,cT,bS,w64_succ (show k < 4611686018427387904 by omega),refState_eq]
  by_cases c1:0≤x.From∧x.From < g.States
  ·by_cases c2:0≤x.To∧x.To < g.States
   ·by_cases c3:x.Act.From < 0
    ·rw [dT c1,dT c2,dT c3,dF (show ¬ okE g x by unfold okE;omega)];rfl
    by_cases c4:x.Act.From≥(g.Roles.length:Int)
    ·rw [dT c1,dT c2,dF c3,dT c4,dF (show ¬ okE g x by unfold okE;omega)];rfl
    by_cases c5:x.Act.To < 0
    ·rw [dT c1,dT c2,dF c3,dF c4,dT c5,dF (show ¬ okE g x by unfold okE;omega)];rfl
    by_cases c6:x.Act.To≥(g.Roles.length:Int)
    ·rw [dT c1,dT c2,dF c3,dF c4,dF c5,dT c6,dF (show ¬ okE g x by unfold okE;omega)];rfl
    by_cases c7:x.Act.From=x.Act.To
    ·rw [dT c1,dT c2,dF c3,dF c4,dF c5,dF c6,show (x.Act.From==x.Act.To)=true by simp [c7],dF (show ¬ okE g x by unfold okE;omega)];rfl
    by_cases c8:x.Act.Label < 0
    ·rw [dT c1,dT c2,dF c3,dF c4,dF c5,dF c6,show (x.Act.From==x.Act.To)=false by simp [c7],dT c8,dF (show ¬ okE g x by unfold okE;omega)];rfl
    by_cases c9:x.Act.Label≥(g.Decls.length:Int)
    ·rw [dT c1,dT c2,dF c3,dF c4,dF c5,dF c6,show (x.Act.From==x.Act.To)=false by simp [c7],dF c8,dT c9,dF (show ¬ okE g x by unfold okE;omega)];rfl
    rw [dT c1,dT c2,dF c3,dF c4,dF c5,dF c6,show (x.Act.From==x.Act.To)=false by simp [c7],dF c8,dF c9,dT (show okE g x by unfold okE;omega)];rfl
   ·rw [dT c1,dF c2,dF (show ¬ okE g x by unfold okE;omega)];rfl
  ·rw [dF c1,dF (show ¬ okE g x by unfold okE;omega)];rfl
 ·intro n k hk
  simp only [z52_l2,lt_f hk,cond_false]
def apartP (x y:T2) (same:Bool):Bool :=
 !((!same && (x.From==y.From && ((((x.Act.From==y.Act.From) && ((x.Act.To==y.Act.To) && ((x.Act.Label==y.Act.Label) && true)))) || (x.Act.From != y.Act.From || x.Again)))) || (x.Again && (y.To==x.From && (x.Act.From != y.Act.From || x.Act.Label != y.Act.Label))))
def apartE (g:T4) (x:T2) (k:Nat):Bool := !(x.Again && x.From==g.Start) && allV (fun y i=>apartP x y (decide (k=i))) g.Edges 0
def orderV (g:T4):Bool:=allV (fun x k => !(x.From==g.End) && apartE g x k) g.Edges 0
def apartV (g:T4):Bool:=allV (fun x k=>apartE g x k) g.Edges 0
theorem bne_nat (k i:Nat):((k:Int) != (i:Int)) = !decide (k=i):=by
 by_cases h:k=i
 ·subst h;simp
 ·rw [dF h];simp;omega
include hN in
theorem ordered_eq (g:T4) (hg:g.Edges.length≤4194304):z64 N g=some (orderV g):=by
 unfold z64
 rw [allV_from (fun x k => !(x.From==g.End) && apartE g x k) (xs:=g.Edges) (F:=z64_l2 N g) (e:=some true) (by omega)]
 ·unfold orderV;cases allV _ g.Edges 0<;>rfl
 ·intro n k x hk hx
  have inner:z64_l4 g (k:Int) (z64_l2 N g n) x N (0:Int)=bif allV (fun y i=>apartP x y (decide (k=i))) g.Edges 0 then z64_k3 (k:Int) (z64_l2 N g n) else some false:=by
   refine allV_from (fun y i=>apartP x y (decide (k=i))) (by omega) ?_ ?_
   ·intro m i y hi hy
    simp only [z64_l4,lt_t hi,idx_nat,hy,cT,bS,bne_nat,z64_k5,w64_succ (show i < 4611686018427387904 by omega),apartP]
    cases decide (k=i)<;>cases (x.From==y.From)<;>cases ((x.Act.From==y.Act.From) && ((x.Act.To==y.Act.To) && ((x.Act.Label==y.Act.Label) && true)))<;>cases (x.Act.From != y.Act.From)<;>cases x.Again<;>cases (y.To==x.From)<;>cases (x.Act.Label != y.Act.Label)<;>rfl
   ·intro m i hi
    simp only [z64_l4,lt_f hi,cond_false]
  simp only [z64_l2,lt_t hk,idx_nat,hx,cT,bS,z64_k6,inner,z64_k3,w64_succ (show k < 4611686018427387904 by omega),apartE]
  cases (x.From==g.End)<;>cases x.Again<;>cases (x.From==g.Start)<;>cases allV (fun y i=>apartP x y (decide (k=i))) g.Edges 0<;>rfl
 ·intro n k hk
  simp only [z64_l2,lt_f hk,cond_false,z64_k1]
theorem ibne_comm (a b:Int):(a != b)=(b != a):=by
 by_cases h:a=b
 ·subst h;rfl
 ·rw [show (a != b)=true by simp [h],show (b != a)=true by simp [Ne.symm h]]
include hN in
theorem apart_eq (g:T4) (hg:g.Edges.length≤4194304):z53 N g=some (apartV g):=by
 unfold z53
 rw [allV_from (fun x k=>apartE g x k) (xs:=g.Edges) (F:=z53_l2 N g) (e:=some true) (by omega)]
 ·unfold apartV;cases allV _ g.Edges 0<;>rfl
 ·intro n k x hk hx
  have inner:z53_l4 g (k:Int) (z53_l2 N g n) x N (0:Int)=bif allV (fun y i=>apartP x y (decide (k=i))) g.Edges 0 then z53_k3 (k:Int) (z53_l2 N g n) else some false:=by
   refine allV_from (fun y i=>apartP x y (decide (k=i))) (by omega) ?_ ?_
   ·intro m i y hi hy
    simp only [z53_l4,lt_t hi,idx_nat,hy,cT,bS,ibne_comm (i:Int) (k:Int),bne_nat,z53_k5,w64_succ (show i < 4611686018427387904 by omega),apartP,ibne_comm y.Act.From x.Act.From,ibne_comm y.Act.Label x.Act.Label]
    cases decide (k=i)<;>cases (x.From==y.From)<;>cases ((x.Act.From==y.Act.From) && ((x.Act.To==y.Act.To) && ((x.Act.Label==y.Act.Label) && true)))<;>cases (x.Act.From != y.Act.From)<;>cases x.Again<;>cases (y.To==x.From)<;>cases (x.Act.Label != y.Act.Label)<;>rfl
   ·intro m i hi
    simp only [z53_l4,lt_f hi,cond_false]
  simp only [z53_l2,lt_t hk,idx_nat,hx,cT,bS,z53_k6,inner,z53_k3,w64_succ (show k < 4611686018427387904 by omega),apartE]
  cases x.Again<;>cases (x.From==g.Start)<;>cases allV (fun y i=>apartP x y (decide (k=i))) g.Edges 0<;>rfl
 ·intro n k hk
  simp only [z53_l2,lt_f hk,cond_false,z53_k1]
theorem orderV_eq (g:T4):orderV g=(apartV g && g.Edges.all fun x => !(x.From==g.End)):=by
 unfold orderV apartV
 suffices h:∀ (l:List T2) (k:Nat),allV (fun x k => !(x.From==g.End) && apartE g x k) l k=(allV (fun x k=>apartE g x k) l k && l.all fun x => !(x.From==g.End)) from h _ _
 intro l
 induction l with
 | nil=>intro k;rfl
 | cons x l ih =>
  intro k
  show ((!(x.From==g.End) && apartE g x k) && allV _ l (k+1))=((apartE g x k && allV _ l (k+1)) && _)
  rw [ih,List.all_cons]
  cases (x.From==g.End)<;>cases apartE g x k<;>simp
end Gp
end
section
namespace Gp
open Go Go.Kx Gx
variable {N:Nat} (hN:4194304 < N)
def elseOk (g:T4) (x:T8):Bool:=match idx g.Edges x.Else with | some e=>e.From==x.State && !e.Again | none=>false
def okT (g:T4) (x:T8):Prop:=1≤x.Ticks∧x.Ticks≤1000∧0≤x.Else∧x.Else < (g.Edges.length:Int)∧elseOk g x=true
instance (g:T4) (x:T8):Decidable (okT g x):=by unfold okT;infer_instance
def lastV (g:T4):Nat→Int
 | 0=>-1
 | k+1=>match g.Timeouts[k]? with | some t=>t.State | none=>-1
def timeV (g:T4):Bool:=allV (fun x k=>decide (lastV g k < x.State∧okT g x)) g.Timeouts 0
theorem else_some {g:T4} {i:Int} (h0:0≤i) (h1:i < (g.Edges.length:Int)):∃ e,idx g.Edges i=some e∧e∈g.Edges:=by
 obtain ⟨e,h,_,hm⟩:=(show Vx g i from ⟨h0,h1⟩).get
 exact ⟨e,h,hm⟩
include hN in
theorem timed_eq (g:T4) (hg:g.Timeouts.length≤4194304):z65 N g=some (timeV g):=by
 unfold z65
 have h:=allV_from (fun x k=>decide (lastV g k < x.State∧okT g x)) (xs:=g.Timeouts) (F:=fun n i=>z65_l2 g n (lastV g i.toNat) i) (e:=some true) (n:=N) (by omega) (by
  intro n k x hk hx
  show z65_l2 g (n+1) (lastV g k) (k:Int)=bif decide (lastV g k < x.State∧okT g x) then z65_l2 g n (lastV g (k+1)) ((k+1:Nat):Int) else some false
  have hl:lastV g (k+1)=x.State:=by simp only [lastV,hx]
  rw [hl]
  simp only [z65_l2,lt_t hk,idx_nat,hx,cT,bS,w64_succ (show k < 4611686018427387904 by omega)]
  by_cases c1:x.State≤lastV g k
  ·rw [dT c1,dF (show ¬ (lastV g k < x.State∧okT g x) by omega)];rfl
  by_cases c2:x.Ticks < 1
  ·rw [dF c1,dT c2,dF (show ¬ (lastV g k < x.State∧okT g x) by unfold okT;omega)];rfl
  by_cases c3:x.Ticks > 1000
  ·rw [dF c1,dF c2,dT c3,dF (show ¬ (lastV g k < x.State∧okT g x) by unfold okT;omega)];rfl
  by_cases c4:x.Else < 0
  ·rw [dF c1,dF c2,dF c3,dT c4,dF (show ¬ (lastV g k < x.State∧okT g x) by unfold okT;omega)];rfl
  by_cases c5:x.Else≥(g.Edges.length:Int)
  ·rw [dF c1,dF c2,dF c3,dF c4,dT c5,dF (show ¬ (lastV g k < x.State∧okT g x) by unfold okT;omega)];rfl
  obtain ⟨e,he,_⟩:=else_some (g:=g) (i:=x.Else) (by omega) (by omega)
  rw [dF c1,dF c2,dF c3,dF c4,dF c5,he]
  have hok:decide (lastV g k < x.State∧okT g x)=(e.From==x.State && !e.Again):=by
   rw [Bool.eq_iff_iff,decide_eq_true_iff]
   unfold okT elseOk
   rw [he]
   constructor
   ·intro h;exact h.2.2.2.2.2
   ·intro h;exact ⟨by omega,by omega,by omega,by omega,by omega,h⟩
  rw [hok]
  simp only [bS,cond_false]
  cases hf:(e.From==x.State)
  ·rw [show (e.From != x.State)=true by unfold bne;rw [hf];rfl];rfl
  ·rw [show (e.From != x.State)=false by unfold bne;rw [hf];rfl]
   cases e.Again<;>rfl) (by
  intro n k hk
  show z65_l2 g (n+1) (lastV g k) (k:Int)=some true
  simp only [z65_l2,lt_f hk,cond_false,z65_k1])
 have h':z65_l2 g N (-1) (0:Int)=bif allV (fun x k=>decide (lastV g k < x.State∧okT g x)) g.Timeouts 0 then some true else some false:=h
 rw [h']
 unfold timeV
 cases allV _ g.Timeouts 0<;>rfl
theorem numV_edge {g:T4} (h:numV g=true) {x:T2} (hx:x∈g.Edges):okE g x:=by
 unfold numV at h
 rw [Bool.and_eq_true] at h
 obtain ⟨i,hi⟩:=List.mem_iff_getElem?.mp hx
 exact of_decide_eq_true ((allV_iff _ _ _).mp h.2 i x hi)
theorem numV_head {g:T4} (h:numV g=true):okH g:=by
 unfold numV at h
 rw [Bool.and_eq_true] at h
 exact of_decide_eq_true h.1
include hN in
theorem refTimed_eq (g:T4) (hg:g.Timeouts.length≤4194304) (hv:numV g=true):z55 N g=some (timeV g):=by
  unfold z55
  rw [allV_from (fun x k=>decide (lastV g k < x.State∧okT g x)) (xs:=g.Timeouts) (F:=z55_l2 N g) (e:=some true) (by omega)]
  · unfold timeV;cases allV _ g.Timeouts 0<;>rfl
  · intro n k x hk hx
    simp only [z55_l2,lt_t hk,idx_nat,hx,cT,bS,w64_succ (show k < 4611686018427387904 by omega),refState_eq]
    by_cases c0:0≤x.State∧x.State < g.States
    · rw [dT c0]
      simp only [Bool.not_true,cond_false]
      -- the tests behind the order
      have rest:∀ (b:Bool) (hb:b=decide (lastV g k < x.State)),(bif !b then some false else bif decide (x.Ticks < (1:Int)) then (some false)
         else bif decide (x.Ticks > (1000:Int)) then (some false)
         else bif decide (x.Else < (0:Int)) then (some false)
         else bif decide (x.Else≥(g.Edges.length:Int)) then (some false)
         else (idx g.Edges x.Else).bind fun x116 =>
         bif (x116.From != x.State) then (some false)
         else (idx g.Edges x.Else).bind fun x117 =>
         bif x117.Again then (some false)
         else z55_l2 N g n ((k+1:Nat):Int))=bif decide (lastV g k < x.State∧okT g x) then z55_l2 N g n ((k+1:Nat):Int) else some false:=by
        intro b hb
        by_cases c1:lastV g k < x.State
        · rw [hb,dT c1]
          by_cases c2:x.Ticks < 1
          · rw [dT c2,dF (show ¬ (lastV g k < x.State∧okT g x) by unfold okT;omega)];rfl
          by_cases c3:x.Ticks > 1000
          · rw [dF c2,dT c3,dF (show ¬ (lastV g k < x.State∧okT g x) by unfold okT;omega)];rfl
          by_cases c4:x.Else < 0
          · rw [dF c2,dF c3,dT c4,dF (show ¬ (lastV g k < x.State∧okT g x) by unfold okT;omega)];rfl
          by_cases c5:x.Else≥(g.Edges.length:Int)
          · rw [dF c2,dF c3,dF c4,dT c5,dF (show ¬ (lastV g k < x.State∧okT g x) by unfold okT;omega)];rfl
          obtain ⟨e,he,_⟩:=else_some (g:=g) (i:=x.Else) (by omega) (by omega)
          rw [dF c2,dF c3,dF c4,dF c5,he]
          have hok:decide (lastV g k < x.State∧okT g x)=(e.From==x.State && !e.Again):=by
            rw [Bool.eq_iff_iff,decide_eq_true_iff]
            unfold okT elseOk
            rw [he]
            constructor
            · intro h;exact h.2.2.2.2.2
            · intro h;exact ⟨by omega,by omega,by omega,by omega,by omega,h⟩
          rw [hok]
          simp only [bS,cond_false,Bool.not_true]
          cases hf:(e.From==x.State)
          · rw [show (e.From != x.State)=true by unfold bne;rw [hf];rfl];rfl
          · rw [show (e.From != x.State)=false by unfold bne;rw [hf];rfl]
            cases e.Again<;>rfl
        · rw [hb,dF c1,dF (show ¬ (lastV g k < x.State∧okT g x) by omega)];rfl
      cases k with
      | zero =>
        have hd:decide (((0:Nat):Int) > 0)=false:=rfl
        rw [hd,cond_false]
        have:=rest true (by rw [dT];show (-1:Int) < x.State;omega)
        simpa using this
      | succ k =>
        have hd:decide (((k+1:Nat):Int) > 0)=true:=by simp
        obtain ⟨p,hp⟩:∃ p,g.Timeouts[k]? = some p:=⟨g.Timeouts[k]'(by omega),List.getElem?_eq_getElem _⟩
        have hl:lastV g (k+1)=p.State:=by simp only [lastV,hp]
        have hw:w64 (((k+1:Nat):Int)-1)=(k:Int):=by rw [w64_id (by omega) (by omega)];omega
        rw [hd,cT,hw,idx_nat,hp,bS]
        have:=rest (!decide (x.State≤p.State)) (by
          rw [hl]
          by_cases q:x.State≤p.State
          · rw [dT q,dF (by omega)];rfl
          · rw [dF q,dT (by omega)];rfl)
        rw [Bool.not_not] at this
        exact this
    · rw [dF c0]
      have:¬ (lastV g k < x.State∧okT g x):=by
        rintro ⟨_,_,_,h3,h4,h5⟩
        obtain ⟨e,he,hm⟩:=else_some h3 h4
        unfold elseOk at h5
        rw [he] at h5
        simp only [Bool.and_eq_true,beq_iff_eq] at h5
        obtain ⟨o1,o2,_⟩:=numV_edge hv hm
        rw [h5.1] at o1 o2
        exact c0 ⟨o1,o2⟩
      rw [dF this];rfl
  · intro n k hk
    simp only [z55_l2,lt_f hk,cond_false,z55_k1]
end Gp
end
section
namespace Gp
open Go Go.Kx Gx
theorem idx_some {α:Type} {L:List α} {v:Int} {d:α} (h:idx L v=some d):0≤v∧v < (L.length:Int):=by
 by_cases h0:0≤v
 ·obtain ⟨k,rfl⟩:∃ k:Nat,v=(k:Int):=⟨v.toNat,by omega⟩
  rw [idx_nat] at h
  obtain ⟨hk,_⟩:=List.getElem?_eq_some_iff.mp h
  exact ⟨h0,by omega⟩
 ·unfold idx at h
  rw [dF h0] at h;cases h
theorem idx_lt {α:Type} {L:List α} {v:Int} (h0:0≤v) (h1:v < (L.length:Int)):∃ d,idx L v=some d:=by
 obtain ⟨k,rfl⟩:∃ k:Nat,v=(k:Int):=⟨v.toNat,by omega⟩
 exact ⟨L[k]'(by omega),by rw [idx_nat,List.getElem?_eq_getElem]⟩
theorem setL_len {α:Type} (L:List α) {b:Int} (d:α) (h0:0≤b):(setL' L b d).length=L.length:=by
 obtain ⟨k,rfl⟩:∃ k:Nat,b=(k:Int):=⟨b.toNat,by omega⟩
 rw [setL'_nat];simp
theorem idx_set {α:Type} {L:List α} {b:Int} {d:α} (h0:0≤b) (h1:b < (L.length:Int)) (v:Int):idx (setL' L b d) v=if v=b then some d else idx L v:=by
 obtain ⟨k,rfl⟩:∃ k:Nat,b=(k:Int):=⟨b.toNat,by omega⟩
 rw [setL'_nat]
 by_cases hv:0≤v
 ·obtain ⟨j,rfl⟩:∃ j:Nat,v=(j:Int):=⟨v.toNat,by omega⟩
  rw [idx_nat,idx_nat,List.getElem?_set]
  by_cases e:k=j
  ·subst e;simp;omega
  ·rw [if_neg e,if_neg (by omega)]
 ·rw [if_neg (by omega)]
  unfold idx
  rw [dF hv];rfl
theorem count_set {L:List Int} {b d:Int} (h:idx L b=some (-1)) (hd:d≠-1):(setL' L b d).count (-1)+1=L.count (-1):=by
 obtain ⟨h0,h1⟩:=idx_some h
 obtain ⟨k,rfl⟩:∃ k:Nat,b=(k:Int):=⟨b.toNat,by omega⟩
 rw [idx_nat] at h
 rw [setL'_nat]
 obtain ⟨A,x,B,rfl,hl⟩:=cut_one L k (by omega)
 rw [get_mid A x B hl] at h
 cases h
 rw [set_mid A (-1) d B hl]
 simp [List.count_append,List.count_cons,hd]
 omega
def er (back:Bool) (x:T2):Int × Int:=(bif back then x.To else x.From,bif back then x.From else x.To)
def ers (g:T4) (back:Bool):List (Int × Int):=g.Edges.map (er back)
structure Jn (E:List (Int × Int)) (S:Nat) (e da:Int) (out todo:List Int) (mu:Nat):Prop where
 len:out.length=S
 lo:∀ v d,idx out v=some d→-1≤d∧d≤da+1
 ub:∀ v d,idx out v=some d→d+(out.count (-1):Nat)+1≤(S:Int)
 root:idx out e=some 0
 zero:∀ v,idx out v=some 0→v=e
 pred:∀ v d,idx out v=some d→0 < d→∃ u,(u,v)∈E∧idx out u=some (d-1)
 todo_in:∀ v∈todo,∃ d,idx out v=some d∧da≤d∧0≤d
 sorted:todo.Pairwise (fun x y=>∀ dx dy,idx out x=some dx→idx out y=some dy→dx≤dy)
 proc:∀ u v d,(u,v)∈E→idx out u=some d→0≤d→u ∉ todo→∃ d',idx out v=some d'∧0≤d'∧d'≤d+1
 mu_eq:out.count (-1)+todo.length=mu
theorem Jn.push {E:List (Int × Int)} {S:Nat} {e da a v:Int} {out todo:List Int} {mu:Nat} (h:Jn E S e da out todo mu) (ha:idx out a=some da) (ha0:0≤da) (hE:(a,v)∈E) (hv:idx out v=some (-1)) :
  Jn E S e da (setL' out v (da+1)) (todo++[v]) mu∧∀ w d,idx out w=some d→0≤d→idx (setL' out v (da+1)) w=some d:=by
 obtain ⟨v0,v1⟩:=idx_some hv
 have hset:=fun w=>idx_set (L:=out) (d:=da+1) v0 v1 w
 have hcnt:=count_set hv (d:=da+1) (by omega)
 have ext:∀ w d,idx out w=some d→0≤d→idx (setL' out v (da+1)) w=some d:=by
  intro w d hw hd
  rw [hset,if_neg]
  ·exact hw
  ·intro hc;subst hc;rw [hv] at hw;cases hw;omega
 refine ⟨⟨?_,?_,?_,ext _ _ h.root (by omega),?_,?_,?_,?_,?_,?_⟩,ext⟩
 ·rw [setL_len _ _ v0,h.len]
 ·intro w d hw
  rw [hset] at hw
  split at hw
  ·cases hw;omega
  ·exact h.lo w d hw
 ·intro w d hw
  have:=h.ub a da ha
  rw [hset] at hw
  split at hw
  ·cases hw;omega
  ·have:=h.ub w d hw;omega
 ·intro w hw
  rw [hset] at hw
  split at hw
  ·have:=Option.some.inj hw;omega
  ·exact h.zero w hw
 ·intro w d hw hd
  rw [hset] at hw
  split at hw
  ·rename_i hc
   cases hw
   subst hc
   exact ⟨a,hE,by rw [show da+1-1=da by omega];exact ext a da ha ha0⟩
  ·obtain ⟨u,u1,u2⟩:=h.pred w d hw hd
   exact ⟨u,u1,ext _ _ u2 (by omega)⟩
 ·intro w hw
  rcases List.mem_append.mp hw with hw | hw
  ·obtain ⟨d,d1,d2,d3⟩:=h.todo_in w hw
   exact ⟨d,ext _ _ d1 d3,d2,d3⟩
  ·simp at hw;subst hw
   exact ⟨da+1,by rw [hset,if_pos rfl],by omega,by omega⟩
 ·refine List.pairwise_append.mpr ⟨?_,by simp,?_⟩
  ·refine List.Pairwise.imp_of_mem ?_ h.sorted
   intro x y hx hy hxy dx dy h1 h2
   obtain ⟨d,d1,d2,d3⟩:=h.todo_in x hx
   obtain ⟨f,f1,f2,f3⟩:=h.todo_in y hy
   rw [ext _ _ d1 d3] at h1;rw [ext _ _ f1 f3] at h2
   cases h1;cases h2
   exact hxy _ _ d1 f1
  ·intro x hx y hy dx dy h1 h2
   simp at hy;subst hy
   obtain ⟨d,d1,d2,d3⟩:=h.todo_in x hx
   rw [ext _ _ d1 d3] at h1
   rw [hset,if_pos rfl] at h2
   cases h1;cases h2
   exact (h.lo x _ d1).2
 ·intro p q d hpq hp hd hn
  have hpv:p≠v:=fun hc=>hn (by simp [hc])
  rw [hset,if_neg hpv] at hp
  obtain ⟨d',q1,q2,q3⟩:=h.proc p q d hpq hp hd (fun hc=>hn (by simp [hc]))
  exact ⟨d',ext _ _ q1 q2,q2,q3⟩
 ·have:=h.mu_eq
  simp;omega
variable {N:Nat}
theorem spread_in (g:T4) (back:Bool) (S:Nat) (hS:S≤4194304) (hg:g.Edges.length≤4194304) (hE:∀ x∈g.Edges,0≤(er back x).1∧(er back x).1 < (S:Int)∧0≤(er back x).2∧(er back x).2 < (S:Int)) (ag:List Int→List Int→Option (List Int)) (e a da:Int) (ha0:0≤da) (mu:Nat) (hmu:mu≤4194304) :
  ∀ (l:List T2) (k n:Nat) (out rest:List Int),g.Edges.drop k=l→l.length < n→Jn (ers g back) S e da out (a::rest) mu→idx out a=some da →
  (∀ i x,i < k→g.Edges[i]? = some x→(er back x).1=a→∃ d,idx out (er back x).2=some d∧0≤d) →
  ∃ out' rest',z67_l4 g back ag n out (a::rest) (k:Int)=z67_k3 ag out' (a::rest')∧Jn (ers g back) S e da out' (a::rest') mu∧idx out' a=some da ∧
   (∀ x∈g.Edges,(er back x).1=a→∃ d,idx out' (er back x).2=some d∧0≤d):=by
 intro l
 induction l with
 | nil =>
  intro k n out rest h hn hJ ha hd
  obtain ⟨n,rfl⟩:∃ m,n=m+1:=⟨n-1,by simp at hn;omega⟩
  have hk:=drop_nil h
  refine ⟨out,rest,?_,hJ,ha,?_⟩
  ·simp only [z67_l4,lt_f hk,cond_false]
  ·intro x hx hxa
   obtain ⟨i,hi⟩:=List.mem_iff_getElem?.mp hx
   have:i < g.Edges.length:=(List.getElem?_eq_some_iff.mp hi).1
   exact hd i x (by omega) hi hxa
 | cons x l ih =>
  intro k n out rest h hn hJ ha hd
  obtain ⟨n,rfl⟩:∃ m,n=m+1:=⟨n-1,by simp at hn;omega⟩
  obtain ⟨hk,hx,hdr⟩:=drop_cons h
  simp only [List.length_cons] at hn
  have hxm:x∈g.Edges:=List.mem_of_getElem? hx
  obtain ⟨r1,r2,r3,r4⟩:=hE x hxm
  have wk':w64 ((k:Int)+1)=((k+1:Nat):Int):=w64_succ (by omega)
  have e0:idx (a::rest) (0:Int)=some a:=by rw [show (0:Int)=((0:Nat):Int) from rfl,idx_nat];rfl
  have step:z67_l4 g back ag (n+1) out (a::rest) (k:Int)=z67_k5 out (a::rest) (k:Int) (z67_l4 g back ag n) (er back x).1 (er back x).2:=by
   simp only [z67_l4,lt_t hk,idx_nat,hx,cT,bS,er]
   cases back<;>rfl
  rw [step]
  unfold z67_k5
  rw [e0,bS]
  by_cases hxa:(er back x).1=a
  ·rw [show ((er back x).1==a)=true by simp [hxa],cT]
   obtain ⟨d,hdv⟩:=idx_lt (L:=out) r3 (by rw [hJ.len];exact r4)
   rw [hdv,bS]
   by_cases hneg:d < 0
   ·rw [dT hneg,cT,hxa,ha]
    have hm1:d=-1:=by have:=(hJ.lo _ _ hdv).1;omega
    subst hm1
    obtain ⟨hJ',ext⟩:=hJ.push ha ha0 (v:=(er back x).2) (by rw [← hxa];exact List.mem_map.mpr ⟨x,hxm,rfl⟩) hdv
    have hub:=hJ.ub a da ha
    have hml:=hJ.mu_eq
    simp only [List.length_cons] at hml
    simp only [bS,hdv]
    rw [appL_some (by simp;omega),bS,w64_id (n:=da+1) (by omega) (by omega),wk']
    obtain ⟨out',rest',q1,q2,q3,q4⟩:=ih (k+1) n _ (rest++[(er back x).2]) hdr (by omega) hJ' (ext _ _ ha ha0) (by
     intro i y hi hy hya
     by_cases hik:i=k
     ·subst hik
      rw [hx] at hy;cases hy
      exact ⟨da+1,by rw [idx_set r3 (by rw [hJ.len];exact r4),if_pos rfl],by omega⟩
     ·obtain ⟨d',d1,d2⟩:=hd i y (by omega) hy hya
      exact ⟨d',ext _ _ d1 d2,d2⟩)
    exact ⟨out',rest',q1,q2,q3,q4⟩
   ·rw [dF hneg,cond_false,wk']
    exact ih (k+1) n out rest hdr (by omega) hJ ha (by
     intro i y hi hy hya
     by_cases hik:i=k
     ·subst hik
      rw [hx] at hy;cases hy
      exact ⟨d,hdv,by omega⟩
     ·exact hd i y (by omega) hy hya)
  ·rw [show ((er back x).1==a)=false by simp [hxa],cond_false,wk']
   exact ih (k+1) n out rest hdr (by omega) hJ ha (by
    intro i y hi hy hya
    by_cases hik:i=k
    ·subst hik
     rw [hx] at hy;cases hy
     exact absurd hya hxa
    ·exact hd i y (by omega) hy hya)
theorem spread_out (hN:4194304 < N) (g:T4) (back:Bool) (S:Nat) (hS:S≤4194304) (hg:g.Edges.length≤4194304) (hE:∀ x∈g.Edges,0≤(er back x).1∧(er back x).1 < (S:Int)∧0≤(er back x).2∧(er back x).2 < (S:Int)) (e:Int) :
  ∀ (n:Nat) (out todo:List Int) (da:Int) (mu:Nat),mu < n→mu≤4194304→Jn (ers g back) S e da out todo mu →
  ∃ L da' mu',z67_l2 N g back n out todo=some L∧Jn (ers g back) S e da' L [] mu':=by
 intro n
 induction n with
 | zero=>intro out todo da mu h;omega
 | succ n ih =>
  intro out todo da mu hn hmu hJ
  cases todo with
  | nil=>exact ⟨out,da,mu,rfl,hJ⟩
  | cons a rest =>
   obtain ⟨d0,ha,ha1,ha2⟩:=hJ.todo_in a (by simp)
   have hJ':Jn (ers g back) S e d0 out (a::rest) mu:=by
    refine ⟨hJ.len,fun v d hv=>⟨(hJ.lo v d hv).1,by have:=(hJ.lo v d hv).2;omega⟩,hJ.ub,hJ.root,hJ.zero,hJ.pred,?_,hJ.sorted,hJ.proc,hJ.mu_eq⟩
    intro v hv
    rcases List.mem_cons.mp hv with hv | hv
    ·subst hv;exact ⟨d0,ha,by omega,ha2⟩
    ·obtain ⟨d,d1,d2,d3⟩:=hJ.todo_in v (by simp [hv])
     exact ⟨d,d1,(List.pairwise_cons.mp hJ.sorted).1 v hv d0 d ha d1,d3⟩
   obtain ⟨out',rest',q1,q2,q3,q4⟩:=spread_in g back S hS hg hE (z67_l2 N g back n) e a d0 ha2 mu hmu g.Edges 0 N out rest rfl (by omega) hJ' ha (by intro i x hi;omega)
   have hd:decide (((a::rest).length:Int) > 0)=true:=by simp
   have hJ2:Jn (ers g back) S e d0 out' rest' (mu-1):=by
    have hm:=q2.mu_eq
    simp only [List.length_cons] at hm
    refine ⟨q2.len,q2.lo,q2.ub,q2.root,q2.zero,q2.pred,fun v hv=>q2.todo_in v (by simp [hv]),(List.pairwise_cons.mp q2.sorted).2,?_,by omega⟩
    intro u v d hE' hu hd' hnt
    by_cases hua:u=a
    ·subst hua
     rw [q3] at hu;cases hu
     obtain ⟨x,hx,hxe⟩:=List.mem_map.mp hE'
     obtain ⟨d',d1,d2⟩:=q4 x hx (by rw [hxe])
     rw [hxe] at d1
     exact ⟨d',d1,d2,(q2.lo _ _ d1).2⟩
    ·exact q2.proc u v d hE' hu hd' (by simp [hua,hnt])
   have hm:=q2.mu_eq
   simp only [List.length_cons] at hm
   obtain ⟨L,da',mu',p1,p2⟩:=ih out' rest' d0 (mu-1) (by omega) (by omega) hJ2
   refine ⟨L,da',mu',?_,p2⟩
   simp only [z67_l2,hd,cT]
   rw [show (0:Int)=((0:Nat):Int) from rfl,q1]
   unfold z67_k3
   rw [show lsl (a::rest') (some (1:Int)) none=some rest' from lsl_from (A:=[a]) (B:=rest') rfl rfl,bS,p1]
structure Dist (E:List (Int × Int)) (S:Nat) (e:Int) (L:List Int):Prop where
 len:L.length=S
 lo:∀ v d,idx L v=some d→-1≤d∧d < (S:Int)
 root:idx L e=some 0
 zero:∀ v,idx L v=some 0→v=e
 pred:∀ v d,idx L v=some d→0 < d→∃ u,(u,v)∈E∧idx L u=some (d-1)
 succ:∀ u v d,(u,v)∈E→idx L u=some d→0≤d→∃ d',idx L v=some d'∧0≤d'∧d'≤d+1
theorem Jn.dist {E:List (Int × Int)} {S:Nat} {e da:Int} {L:List Int} {mu:Nat} (h:Jn E S e da L [] mu):Dist E S e L :=
 ⟨h.len,fun v d hv=>⟨(h.lo v d hv).1,by have:=h.ub v d hv;omega⟩,h.root,h.zero,h.pred,fun u v d hE hu hd=>h.proc u v d hE hu hd (by simp)⟩
end Gp
end
section
namespace Gp
open Go Go.Kx Gx
variable {N:Nat}
theorem mul_small (N:Nat) {s:Nat} (hs:s≤200):z119 N (wk .u64 (([(-1:Int)]:List Int).length:Int)) (wk .u64 (s:Int))=some ((0:Int),(s:Int)):=by
 have h:∀ s < 201,z119 0 (wk .u64 (([(-1:Int)]:List Int).length:Int)) (wk .u64 ((s:Nat):Int))=some ((0:Int),(s:Int)):=by decide +kernel
 exact h s (by omega)
theorem rep_loop (S:Nat) (hS:S≤200):∀ (n k:Nat),S-k < n→1≤k→k≤S →
  z58_l2 n (List.replicate k (-1)++List.replicate (S-k) 0) (k:Int)=some (List.replicate S (-1)):=by
 intro n
 induction n with
 | zero=>intro k h;omega
 | succ n ih =>
  intro k hn h1 h2
  have hlen:(List.replicate k (-1:Int)++List.replicate (S-k) 0).length=S:=by simp;omega
  by_cases hk:k < S
  ·have hd:decide ((k:Int) < ((List.replicate k (-1:Int)++List.replicate (S-k) 0).length:Int))=true:=by rw [hlen];simp;omega
   have a1:lsl (List.replicate k (-1:Int)++List.replicate (S-k) 0) (some (k:Int)) none=some (List.replicate (S-k) 0):=lsl_from rfl (by simp)
   have a2:lsl (List.replicate k (-1:Int)++List.replicate (S-k) 0) none (some (k:Int))=some (List.replicate k (-1)):=lsl_to rfl (by simp)
   have b1:bnd (some (k:Int)) none (List.replicate k (-1:Int)++List.replicate (S-k) 0).length=some (k,S):=by
    rw [hlen]
    have q1:decide ((0:Int)≤(k:Int))=true:=by simp
    have q2:decide ((k:Int)≤(S:Int))=true:=by simp;omega
    unfold bnd
    simp only [Option.getD_some,Option.getD_none,q1,q2,Int.le_refl,decide_true,Bool.and_self,cT]
    simp
   have a3:cpL (List.replicate k (-1:Int)++List.replicate (S-k) 0) (some (k:Int)) none (List.replicate k (-1))=some (List.replicate (k+min k (S-k)) (-1)++List.replicate (S-(k+min k (S-k))) 0,((min k (S-k):Nat):Int)):=by
    unfold cpL
    rw [b1,Option.map_some]
    have e1:(List.replicate k (-1:Int)++List.replicate (S-k) 0).take k=List.replicate k (-1):=by simp
    have e2:(List.replicate k (-1:Int)).length=k:=by simp
    simp only [e1,e2]
    have e3:(List.replicate k (-1:Int)).take (min k (S-k))=List.replicate (min k (S-k)) (-1):=by rw [List.take_replicate];congr 1;omega
    have e4:(List.replicate k (-1:Int)++List.replicate (S-k) 0).drop (k+min k (S-k))=List.replicate (S-(k+min k (S-k))) 0:=by
     rw [List.drop_append,List.length_replicate,List.drop_replicate,List.drop_replicate,show k-(k+min k (S-k))=0 by omega,show S-k-(k+min k (S-k)-k)=S-(k+min k (S-k)) by omega];rfl
    rw [e3,e4,List.replicate_append_replicate]
   have hw:w64 ((k:Int)+((min k (S-k):Nat):Int))=((k+min k (S-k):Nat):Int):=by rw [w64_id (by omega) (by omega)];omega
   have hmin:1≤min k (S-k)∧k+min k (S-k)≤S:=by omega
   simp only [z58_l2,hd,cT,a1,a2,a3,bS,hw]
   exact ih (k+min k (S-k)) (by omega) (by omega) (by omega)
  ·have hks:k=S:=by omega
   subst hks
   have hd:decide ((k:Int) < ((List.replicate k (-1:Int)++List.replicate (k-k) 0).length:Int))=false:=by rw [hlen];simp
   simp only [z58_l2,hd,cond_false,z58_k1]
   simp
theorem repeat_eq (hN:4194304 < N) {s:Nat} (h1:1≤s) (h2:s≤200):z58 N [(-1:Int)] (s:Int)=some (List.replicate s (-1)):=by
 unfold z58
 have c0:decide ((s:Int) < 0)=false:=by simp
 rw [c0,cond_false,mul_small N h2,bS]
 have c1:decide ((0:Int) > 0)=false:=rfl
 have c2:decide ((s:Int) > 9223372036854775807)=false:=by simp;omega
 simp only [c1,c2,cond_false,z58_k3]
 have w:w64 (s:Int)=(s:Int):=w64_id (by omega) (by omega)
 have m:mkL (0:Int) (w64 (s:Int)) (w64 (s:Int))=some (List.replicate s 0):=by
  rw [w];unfold mkL
  have q1:decide ((0:Int)≤(s:Int))=true:=by simp
  have q2:decide ((s:Int)≤4294967296)=true:=by simp;omega
  simp only [q1,q2,Int.le_refl,decide_true,Bool.and_self,cT]
  simp
 rw [m,bS]
 have cp:cpL (List.replicate s (0:Int)) none none [(-1:Int)]=some (List.replicate 1 (-1)++List.replicate (s-1) 0,((1:Nat):Int)):=by
  unfold cpL bnd
  have q1:decide ((0:Int)≤((List.replicate s (0:Int)).length:Int))=true:=by simp
  simp only [Option.getD_none,q1,Int.le_refl,decide_true,Bool.and_self,cT,Option.map_some]
  have e:min ([(-1:Int)]:List Int).length (((List.replicate s (0:Int)).length:Int).toNat-(0:Int).toNat)=1:=by simp;omega
  rw [e];simp
 rw [cp,bS]
 exact rep_loop s h2 N 1 (by omega) (by omega) h1
theorem spread_eq (hN:4194304 < N) (g:T4) (hv:numV g=true) (back:Bool) (e:Int) (h0:0≤e) (h1:e < g.States):∃ L,z67 N g e back=some L∧Dist (ers g back) g.States.toNat e L:=by
 obtain ⟨o1,o2,o3,o4,o5,o6,o7⟩:=numV_head hv
 have hS:g.States=(g.States.toNat:Int):=by omega
 generalize hs:g.States.toNat=S at *
 have hE:∀ x∈g.Edges,0≤(er back x).1∧(er back x).1 < (S:Int)∧0≤(er back x).2∧(er back x).2 < (S:Int):=by
  intro x hx
  obtain ⟨a1,a2,a3,a4,_⟩:=numV_edge hv hx
  cases back
  ·exact ⟨a1,by rw [← hS];exact a2,a3,by rw [← hS];exact a4⟩
  ·exact ⟨a3,by rw [← hS];exact a4,a1,by rw [← hS];exact a2⟩
 have hrl:(List.replicate S (-1:Int)).length=S:=by simp
 have hri:∀ v:Int,0≤v→v < (S:Int)→idx (List.replicate S (-1:Int)) v=some (-1):=by
  intro v v0 v1
  obtain ⟨k,rfl⟩:∃ k:Nat,v=(k:Int):=⟨v.toNat,by omega⟩
  rw [idx_nat,List.getElem?_replicate,if_pos (by omega)]
 have hre:=hri e h0 (by omega)
 have hset:=fun v=>idx_set (L:=List.replicate S (-1:Int)) (b:=e) (d:=0) h0 (by rw [hrl];omega) v
 have hall:∀ v d,idx (setL' (List.replicate S (-1:Int)) e 0) v=some d→(v=e∧d=0)∨(v≠e∧d=-1):=by
  intro v d hd
  rw [hset] at hd
  split at hd
  ·rename_i h;cases hd;exact .inl ⟨h,rfl⟩
  ·rename_i h
   obtain ⟨v0,v1⟩:=idx_some hd
   rw [hrl] at v1
   rw [hri v v0 v1] at hd
   cases hd;exact .inr ⟨h,rfl⟩
 have hcnt:(setL' (List.replicate S (-1:Int)) e 0).count (-1)+1=S:=by
  rw [count_set hre (by omega)];simp
 have hJ:Jn (ers g back) S e 0 (setL' (List.replicate S (-1:Int)) e 0) [e] S:=by
  refine ⟨by rw [setL_len _ _ h0,hrl],?_,?_,by rw [hset,if_pos rfl],?_,?_,?_,by simp,?_,by simp;omega⟩
  ·intro v d hd;rcases hall v d hd with h | h<;>omega
  ·intro v d hd;rcases hall v d hd with h | h<;>omega
  ·intro v hd;rcases hall v 0 hd with h | h
   ·exact h.1
   ·omega
  ·intro v d hd hp;rcases hall v d hd with h | h<;>omega
  ·intro v hv';simp at hv';subst hv';exact ⟨0,by rw [hset,if_pos rfl],by omega,by omega⟩
  ·intro u v d _ hd hp hn
   rcases hall u d hd with h | h
   ·exact absurd (by simp [h.1]) hn
   ·omega
 obtain ⟨L,da',mu',p1,p2⟩:=spread_out hN g back S (by omega) (by omega) hE e N _ [e] 0 S (by omega) (by omega) hJ
 refine ⟨L,?_,p2.dist⟩
 unfold z67
 rw [hS,repeat_eq hN (by omega) (by omega),bS,hre,bS,p1]
/-! ### The reference's distances -/
def Tr (L M:List Int) (n:Int):Prop:=M.length=L.length∧∀ v d,idx L v=some d→idx M v=some (if d≤n then d else -1)
theorem ends_in {S:Nat} {g:T4} {e:Int} {L:List Int} (hD:Dist (ers g true) S e L) (hg:g.Edges.length≤4194304) (hE:∀ x∈g.Edges,okE g x) (hS:g.States=(S:Int)) (hS2:S≤200) (q:Nat) (hq:q < S) (ag:List Int→Int→Option (List Int)) :
  ∀ (l:List T2) (k n:Nat) (M:List Int),g.Edges.drop k=l→l.length < n→M.length=L.length →
  (∀ v d,idx L v=some d→idx M v=some (if d≤(q:Int) then d else -1)∨(d=(q:Int)+1∧idx M v=some ((q:Int)+1))) →
  (∀ i x,i < k→g.Edges[i]? = some x→idx L x.To=some (q:Int)→idx L x.From=some ((q:Int)+1)→idx M x.From=some ((q:Int)+1)) →
  ∃ M',z81_l4 g (q:Int) ag n M (k:Int)=ag M' ((q+1:Nat):Int)∧Tr L M' ((q:Int)+1):=by
 intro l
 induction l with
 | nil =>
  intro k n M h hn hl hM hd
  obtain ⟨n,rfl⟩:∃ m,n=m+1:=⟨n-1,by simp at hn;omega⟩
  have hk:=drop_nil h
  refine ⟨M,?_,hl,?_⟩
  ·simp only [z81_l4,lt_f hk,cond_false,z81_k3]
   rw [w64_succ (by omega)]
  ·intro v d hv
   by_cases hdq:d=(q:Int)+1
   ·subst hdq
    obtain ⟨u,hu,hul⟩:=hD.pred v _ hv (by omega)
    obtain ⟨x,hx,hxe⟩:=List.mem_map.mp hu
    obtain ⟨i,hi⟩:=List.mem_iff_getElem?.mp hx
    have hil:i < g.Edges.length:=(List.getElem?_eq_some_iff.mp hi).1
    have e1:x.To=u:=congrArg Prod.fst hxe
    have e2:x.From=v:=congrArg Prod.snd hxe
    have:=hd i x (by omega) hi (by rw [e1,hul];congr 1;omega) (by rw [e2,hv])
    rw [e2] at this
    rw [this,if_pos (Int.le_refl _)]
   ·rcases hM v d hv with h | ⟨h,_⟩
    ·rw [h]
     by_cases hc:d≤(q:Int)
     ·rw [if_pos hc,if_pos (by omega)]
     ·rw [if_neg hc,if_neg (by omega)]
    ·exact absurd h hdq
 | cons x l ih =>
  intro k n M h hn hl hM hd
  obtain ⟨n,rfl⟩:∃ m,n=m+1:=⟨n-1,by simp at hn;omega⟩
  obtain ⟨hk,hx,hdr⟩:=drop_cons h
  simp only [List.length_cons] at hn
  have hxm:x∈g.Edges:=List.mem_of_getElem? hx
  obtain ⟨r1,r2,r3,r4,_⟩:=hE x hxm
  obtain ⟨dt,hdt⟩:=idx_lt (L:=L) r3 (by rw [hD.len,← hS];exact r4)
  obtain ⟨df,hdf⟩:=idx_lt (L:=L) r1 (by rw [hD.len,← hS];exact r2)
  obtain ⟨mt,hmt⟩:=idx_lt (L:=M) r3 (by rw [hl,hD.len,← hS];exact r4)
  obtain ⟨mf,hmf⟩:=idx_lt (L:=M) r1 (by rw [hl,hD.len,← hS];exact r2)
  have wk':w64 ((k:Int)+1)=((k+1:Nat):Int):=w64_succ (by omega)
  have hmt2:mt=(q:Int)↔dt=(q:Int):=by
   rcases hM _ _ hdt with h | ⟨h1,h2⟩
   ·rw [hmt] at h
    have h:=Option.some.inj h
    split at h<;>omega
   ·rw [hmt] at h2
    have h2:=Option.some.inj h2
    omega
  have keep:∀ (hne:dt=(q:Int)→idx L x.From=some ((q:Int)+1)→idx M x.From=some ((q:Int)+1)),
    ∃ M',z81_l4 g (q:Int) ag n M ((k+1:Nat):Int)=ag M' ((q+1:Nat):Int)∧Tr L M' ((q:Int)+1):=by
   intro hne
   refine ih (k+1) n M hdr (by omega) hl hM ?_
   intro i y hi hy hyt hyf
   by_cases hik:i=k
   ·subst hik
    rw [hx] at hy;cases hy
    rw [hdt] at hyt
    exact hne (Option.some.inj hyt) hyf
   ·exact hd i y (by omega) hy hyt hyf
  by_cases hc:dt=(q:Int)
  ·have hb:(mt==(q:Int))=true:=by simp [hmt2.mpr hc]
   obtain ⟨d',d1,d2,d3⟩:=hD.succ x.To x.From dt (List.mem_map.mpr ⟨x,hxm,rfl⟩) hdt (by omega)
   rw [hdf] at d1
   have d1:=Option.some.inj d1
   by_cases hneg:mf < 0
   ·have hdq:df=(q:Int)+1:=by
     rcases hM _ _ hdf with h | ⟨h1,_⟩
     ·rw [hmf] at h
      have h:=Option.some.inj h
      split at h<;>omega
     ·exact h1
    have hset:=fun v=>idx_set (L:=M) (b:=x.From) (d:=(q:Int)+1) r1 (by rw [hl,hD.len,← hS];exact r2) v
    simp only [z81_l4,lt_t hk,cT,idx_nat,hx,bS,hmt,hb,hmf,dT hneg,wk']
    rw [w64_id (n:=(q:Int)+1) (by omega) (by omega)]
    refine ih (k+1) n _ hdr (by omega) (by rw [setL_len _ _ r1,hl]) ?_ ?_
    ·intro v d hv
     rw [hset]
     by_cases hvf:v=x.From
     ·subst hvf
      rw [hdf] at hv;cases hv
      exact .inr ⟨hdq,by rw [if_pos rfl]⟩
     ·rw [if_neg hvf];exact hM v d hv
    ·intro i y hi hy hyt hyf
     rw [hset]
     by_cases hvf:y.From=x.From
     ·rw [if_pos hvf]
     ·rw [if_neg hvf]
      by_cases hik:i=k
      ·subst hik
       rw [hx] at hy;cases hy
       exact absurd rfl hvf
      ·exact hd i y (by omega) hy hyt hyf
   ·simp only [z81_l4,lt_t hk,cT,idx_nat,hx,bS,hmt,hb,hmf,dF hneg,cond_false,wk']
    refine keep ?_
    intro _ hlf
    rw [hdf] at hlf
    have hlf:=Option.some.inj hlf
    rcases hM _ _ hdf with h | ⟨_,h⟩
    ·rw [hmf] at h
     have h:=Option.some.inj h
     rw [if_neg (by omega)] at h
     omega
    ·exact h
  ·have hb:(mt==(q:Int))=false:=by simp;omega
   simp only [z81_l4,lt_t hk,cT,idx_nat,hx,bS,hmt,hb,cond_false,wk']
   exact keep (fun h=>absurd h hc)
theorem ends_rounds (hN:4194304 < N) {S:Nat} {g:T4} {e:Int} {L:List Int} (hD:Dist (ers g true) S e L) (hg:g.Edges.length≤4194304) (hE:∀ x∈g.Edges,okE g x) (hS:g.States=(S:Int)) (hS2:S≤200) :
  ∀ (n q:Nat) (M:List Int),S-q < n→q≤S→Tr L M (q:Int)→z81_l2 N g n M (q:Int)=some L:=by
 intro n
 induction n with
 | zero=>intro q M h;omega
 | succ n ih =>
  intro q M hn hq hT
  by_cases hlt:q < S
  ·have hd:decide ((q:Int) < g.States)=true:=by rw [hS];simp;omega
   obtain ⟨M',m1,m2⟩:=ends_in hD hg hE hS hS2 q hlt (z81_l2 N g n) g.Edges 0 N M rfl (by omega) hT.1 (fun v d hv=>.inl (hT.2 v d hv)) (by intro i x hi;omega)
   simp only [z81_l2,hd,cT]
   rw [show (0:Int)=((0:Nat):Int) from rfl,m1]
   exact ih (q+1) M' (by omega) (by omega) (by rw [show ((q+1:Nat):Int)=(q:Int)+1 by omega];exact m2)
  ·have hqs:q=S:=by omega
   subst hqs
   have hd:decide ((q:Int) < g.States)=false:=by rw [hS];simp
   simp only [z81_l2,hd,cond_false,z81_k1]
   congr 1
   refine List.ext_getElem? fun i=>?_
   by_cases hi:i < L.length
   ·obtain ⟨d,hdv⟩:=idx_lt (L:=L) (v:=(i:Int)) (by omega) (by omega)
    have:=hT.2 _ _ hdv
    rw [if_pos (by have:=(hD.lo _ _ hdv).2;omega)] at this
    rw [idx_nat] at this hdv
    rw [this,hdv]
   ·rw [List.getElem?_eq_none (by rw [hT.1];omega),List.getElem?_eq_none (by omega)]
theorem ends_fill {S:Nat} {g:T4} (hS:g.States=(S:Int)) (hS2:S≤200):∀ (n k:Nat) (M:List Int),S-k < n→k≤S→M.length=S→(∀ i:Nat,i < k→M[i]? = some (-1)) →
  z81_l6 N g n M (k:Int)=z81_k5 N g (List.replicate S (-1)):=by
 intro n
 induction n with
 | zero=>intro k M h;omega
 | succ n ih =>
  intro k M hn hk hl hM
  by_cases hlt:k < S
  ·have hd:decide ((k:Int) < g.States)=true:=by rw [hS];simp;omega
   obtain ⟨d,hdv⟩:=idx_lt (L:=M) (v:=(k:Int)) (by omega) (by omega)
   simp only [z81_l6,hd,cT,hdv,bS]
   rw [w64_succ (by omega)]
   refine ih (k+1) _ (by omega) (by omega) (by rw [setL_len _ _ (by omega),hl]) ?_
   intro i hi
   rw [setL'_nat,List.getElem?_set]
   by_cases hik:k=i
   ·subst hik;simp;omega
   ·rw [if_neg hik];exact hM i (by omega)
  ·have hks:k=S:=by omega
   subst hks
   have hd:decide ((k:Int) < g.States)=false:=by rw [hS];simp
   simp only [z81_l6,hd,cond_false]
   congr 1
   refine List.ext_getElem? fun i=>?_
   rw [List.getElem?_replicate]
   by_cases hi:i < k
   ·rw [if_pos hi];exact hM i hi
   ·rw [if_neg hi];exact List.getElem?_eq_none (by omega)
theorem ends_eq (hN:4194304 < N) (g:T4) (hv:numV g=true) {L:List Int} (hD:Dist (ers g true) g.States.toNat g.End L):z81 N g=some L:=by
 obtain ⟨o1,o2,o3,o4,o5,o6,o7⟩:=numV_head hv
 have hS:g.States=(g.States.toNat:Int):=by omega
 generalize hs:g.States.toNat=S at *
 have m:mkL (0:Int) g.States g.States=some (List.replicate S 0):=by
  rw [hS];unfold mkL
  have q1:decide ((0:Int)≤(S:Int))=true:=by simp
  have q2:decide ((S:Int)≤4294967296)=true:=by simp;omega
  simp only [q1,q2,Int.le_refl,decide_true,Bool.and_self,cT]
  simp
 unfold z81
 rw [m,bS,show (0:Int)=((0:Nat):Int) from rfl,ends_fill hS (by omega) N 0 _ (by omega) (by omega) (by simp) (by intro i hi;omega)]
 unfold z81_k5
 have hrl:(List.replicate S (-1:Int)).length=S:=by simp
 have hri:∀ v:Int,0≤v→v < (S:Int)→idx (List.replicate S (-1:Int)) v=some (-1):=by
  intro v v0 v1
  obtain ⟨k,rfl⟩:∃ k:Nat,v=(k:Int):=⟨v.toNat,by omega⟩
  rw [idx_nat,List.getElem?_replicate,if_pos (by omega)]
 rw [hri g.End o5 (by omega),bS]
 refine ends_rounds hN hD (by omega) (fun x hx=>numV_edge hv hx) hS (by omega) N 0 _ (by omega) (by omega) ?_
 refine ⟨by rw [setL_len _ _ o5,hrl,hD.len],?_⟩
 intro v d hdv
 have hr:=idx_some hdv
 rw [hD.len] at hr
 rw [idx_set o5 (by rw [hrl];omega)]
 have hlo:=hD.lo v d hdv
 by_cases hve:v=g.End
 ·subst hve
  rw [hD.root] at hdv;cases hdv
  rw [if_pos rfl];rfl
 ·rw [if_neg hve,hri v hr.1 hr.2]
  by_cases h0:d≤((0:Nat):Int)
  ·rw [if_pos h0]
   have:d≠0:=by intro hc;subst hc;exact hve (hD.zero v hdv)
   congr 1;omega
  ·rw [if_neg h0]
end Gp
end
section
namespace Gp
open Go Go.Kx Gx
variable {N:Nat}
def posV (L:List Int):Bool := !(L.any fun d=>d==-1)
theorem posV_iff {E:List (Int × Int)} {S:Nat} {e:Int} {L:List Int} (h:Dist E S e L):posV L=true↔∀ v d,idx L v=some d→0≤d:=by
 unfold posV
 rw [Bool.not_eq_true',List.any_eq_false]
 constructor
 ·intro h1 v d hv
  obtain ⟨v0,v1⟩:=idx_some hv
  obtain ⟨k,rfl⟩:∃ k:Nat,v=(k:Int):=⟨v.toNat,by omega⟩
  have hl:=(h.lo _ _ hv).1
  rw [idx_nat] at hv
  have:=h1 d (List.mem_of_getElem? hv)
  simp at this
  omega
 ·intro h1 d hd
  obtain ⟨k,hk⟩:=List.mem_iff_getElem?.mp hd
  have:=h1 (k:Int) d (by rw [idx_nat,hk])
  simp;omega
theorem containsInt_eq (hN:4194304 < N) (l:List Int) (hl:l.length≤4194304) (v:Int):z66 N l v=some (l.any fun d=>d==v):=by
 unfold z66 z123
 rw [look l hl (fun x k r=>bif x==v then some k else r) (z123_l2 l v) (some (-1)) hN]
 ·obtain ⟨i,h1,h2⟩:=whereV_any (fun x=>x==v) l 0
  rw [h1,bS,h2]
 ·intro n k x hk hx
  simp only [z123_l2,lt_t hk,idx_nat,hx,cT,bS]
  rw [show (v==x)=(x==v) by rw [Bool.eq_iff_iff,beq_iff_eq,beq_iff_eq];exact ⟨Eq.symm,Eq.symm⟩]
 ·intro n k hk
  simp only [z123_l2,lt_f hk,cond_false,z123_k1]
structure Rc (S:Nat) (F:List Int) (n:Int) (R:List Bool):Prop where
 len:R.length=S
 sound:∀ v,idx R v=some true→∃ d,idx F v=some d∧0≤d
 full:∀ v d,idx F v=some d→0≤d→d≤n→idx R v=some true
theorem Rc.set {S:Nat} {F:List Int} {n:Int} {R:List Bool} (h:Rc S F n R) {v:Int} {b:Bool} (v0:0≤v) (v1:v < (S:Int)) (hb:b=true→∃ d,idx F v=some d∧0≤d) (hm:idx R v=some true→b=true):Rc S F n (setL' R v b):=by
 have hset:=fun w=>idx_set (L:=R) (d:=b) v0 (by rw [h.len];exact v1) w
 refine ⟨by rw [setL_len _ _ v0,h.len],?_,?_⟩
 ·intro w hw
  rw [hset] at hw
  split at hw
  ·rename_i hc;subst hc;exact hb (Option.some.inj hw)
  ·exact h.sound w hw
 ·intro w d hw h0 h1
  rw [hset]
  split
  ·rename_i hc;subst hc
   rw [hm (h.full _ _ hw h0 h1)]
  ·exact h.full w d hw h0 h1
theorem reach_in {S:Nat} {g:T4} {e:Int} {F:List Int} (hD:Dist (ers g false) S e F) (hg:g.Edges.length≤4194304) (hE:∀ x∈g.Edges,okE g x) (hS:g.States=(S:Int)) (hS2:S≤200) (q:Nat) (hq:q < S) (ag:List Bool→Int→Option Bool) :
  ∀ (l:List T2) (k n:Nat) (R:List Bool),g.Edges.drop k=l→l.length < n→Rc S F (q:Int) R →
  (∀ i x,i < k→g.Edges[i]? = some x→idx F x.From=some (q:Int)→idx R x.To=some true) →
  ∃ R',z54_l6 g (q:Int) ag n R (k:Int)=ag R' ((q+1:Nat):Int)∧Rc S F ((q:Int)+1) R':=by
 intro l
 induction l with
 | nil =>
  intro k n R h hn hR hd
  obtain ⟨n,rfl⟩:∃ m,n=m+1:=⟨n-1,by simp at hn;omega⟩
  have hk:=drop_nil h
  refine ⟨R,?_,hR.len,hR.sound,?_⟩
  ·simp only [z54_l6,lt_f hk,cond_false,z54_k5]
   rw [w64_succ (by omega)]
  ·intro v d hv h0 h1
   by_cases hdq:d=(q:Int)+1
   ·subst hdq
    obtain ⟨u,hu,hul⟩:=hD.pred v _ hv (by omega)
    obtain ⟨x,hx,hxe⟩:=List.mem_map.mp hu
    obtain ⟨i,hi⟩:=List.mem_iff_getElem?.mp hx
    have hil:i < g.Edges.length:=(List.getElem?_eq_some_iff.mp hi).1
    have e1:x.From=u:=congrArg Prod.fst hxe
    have e2:x.To=v:=congrArg Prod.snd hxe
    rw [← e2]
    exact hd i x (by omega) hi (by rw [e1,hul];congr 1;omega)
   ·exact hR.full v d hv h0 (by omega)
 | cons x l ih =>
  intro k n R h hn hR hd
  obtain ⟨n,rfl⟩:∃ m,n=m+1:=⟨n-1,by simp at hn;omega⟩
  obtain ⟨hk,hx,hdr⟩:=drop_cons h
  simp only [List.length_cons] at hn
  have hxm:x∈g.Edges:=List.mem_of_getElem? hx
  obtain ⟨r1,r2,r3,r4,_⟩:=hE x hxm
  obtain ⟨mt,hmt⟩:=idx_lt (L:=R) r3 (by rw [hR.len,← hS];exact r4)
  obtain ⟨mf,hmf⟩:=idx_lt (L:=R) r1 (by rw [hR.len,← hS];exact r2)
  have wk':w64 ((k:Int)+1)=((k+1:Nat):Int):=w64_succ (by omega)
  have hset:=fun (b:Bool) w=>idx_set (L:=R) (b:=x.To) (d:=b) r3 (by rw [hR.len,← hS];exact r4) w
  -- the new list, whatever is written
  have go:∀ b:Bool,(b=true→∃ d,idx F x.To=some d∧0≤d)→(idx R x.To=some true→b=true)→(idx F x.From=some (q:Int)→b=true) →
    ∃ R',z54_l6 g (q:Int) ag n (setL' R x.To b) ((k+1:Nat):Int)=ag R' ((q+1:Nat):Int)∧Rc S F ((q:Int)+1) R':=by
   intro b hb hm hf
   refine ih (k+1) n _ hdr (by omega) (hR.set r3 (by rw [← hS];exact r4) hb hm) ?_
   intro i y hi hy hyf
   rw [hset]
   by_cases hik:i=k
   ·subst hik
    rw [hx] at hy;cases hy
    rw [if_pos rfl,hf hyf]
   ·split
    ·rename_i hc
     have:=hd i y (by omega) hy hyf
     rw [hc] at this
     rw [hm this]
    ·exact hd i y (by omega) hy hyf
  cases mt with
  | true =>
   simp only [z54_l6,lt_t hk,cT,idx_nat,hx,bS,hmt,wk']
   exact go true (fun _=>hR.sound _ hmt) (fun _=>rfl) (fun _=>rfl)
  | false =>
   simp only [z54_l6,lt_t hk,cT,cond_false,idx_nat,hx,bS,hmt,hmf,wk']
   refine go mf ?_ (fun h=>by rw [hmt] at h;cases h) ?_
   ·intro hm
    subst hm
    obtain ⟨d,d1,d2⟩:=hR.sound _ hmf
    obtain ⟨d',e1,e2,_⟩:=hD.succ x.From x.To d (List.mem_map.mpr ⟨x,hxm,rfl⟩) d1 d2
    exact ⟨d',e1,e2⟩
   ·intro hf
    have:=hR.full _ _ hf (by omega) (Int.le_refl _)
    rw [hmf] at this
    exact Option.some.inj this
theorem reach_rounds (hN:4194304 < N) {S:Nat} {g:T4} {e:Int} {F:List Int} (hD:Dist (ers g false) S e F) (hg:g.Edges.length≤4194304) (hE:∀ x∈g.Edges,okE g x) (hS:g.States=(S:Int)) (hS2:S≤200) :
  ∀ (n q:Nat) (R:List Bool),S-q < n→q≤S→Rc S F (q:Int) R→∃ R',z54_l4 N g n R (q:Int)=z54_k3 N g R'∧Rc S F (S:Int) R':=by
 intro n
 induction n with
 | zero=>intro q R h;omega
 | succ n ih =>
  intro q R hn hq hR
  by_cases hlt:q < S
  ·have hd:decide ((q:Int) < g.States)=true:=by rw [hS];simp;omega
   obtain ⟨R',m1,m2⟩:=reach_in hD hg hE hS hS2 q hlt (z54_l4 N g n) g.Edges 0 N R rfl (by omega) hR (by intro i x hi;omega)
   simp only [z54_l4,hd,cT]
   rw [show (0:Int)=((0:Nat):Int) from rfl,m1]
   exact ih (q+1) R' (by omega) (by omega) (by rw [show ((q+1:Nat):Int)=(q:Int)+1 by omega];exact m2)
  ·have hqs:q=S:=by omega
   subst hqs
   have hd:decide ((q:Int) < g.States)=false:=by rw [hS];simp
   exact ⟨R,by simp only [z54_l4,hd,cond_false],hR⟩
theorem noEdges (g:T4) (s:Int):∀ (l:List T2) (k:Nat),((placesOf g s l k).length==0)=l.all fun x => !(x.From==s)
 | [],k=>rfl
 | x::l,k=>by
  unfold placesOf
  rw [List.all_cons]
  by_cases h:x.From=s
  ·rw [if_pos h,show (x.From==s)=true by simp [h]];rfl
  ·rw [if_neg h,show (x.From==s)=false by simp [h],noEdges g s l (k+1)];rfl
theorem connected_eq (hN:4194304 < N) (g:T4) (hv:numV g=true) (hn:NumE g) {L F:List Int} (hL:Dist (ers g true) g.States.toNat g.End L) (hF:Dist (ers g false) g.States.toNat g.Start F) :
  z54 N g=some (posV F && posV L && g.Edges.all fun x => !(x.From==g.End)):=by
 have hends:=ends_eq hN g hv hL
 obtain ⟨o1,o2,o3,o4,o5,o6,o7⟩:=numV_head hv
 have hS:g.States=(g.States.toNat:Int):=by omega
 generalize hs:g.States.toNat=S at *
 have m:mkL false g.States g.States=some (List.replicate S false):=by
  rw [hS];unfold mkL
  have q1:decide ((0:Int)≤(S:Int))=true:=by simp
  have q2:decide ((S:Int)≤4294967296)=true:=by simp;omega
  simp only [q1,q2,Int.le_refl,decide_true,Bool.and_self,cT]
  simp
 have hrl:(List.replicate S false).length=S:=by simp
 have hri:∀ v b,idx (List.replicate S false) v=some b→b=false:=by
  intro v b hb
  obtain ⟨v0,v1⟩:=idx_some hb
  obtain ⟨k,rfl⟩:∃ k:Nat,v=(k:Int):=⟨v.toNat,by omega⟩
  rw [idx_nat,List.getElem?_replicate,if_pos (by omega)] at hb
  exact (Option.some.inj hb).symm
 obtain ⟨b0,hb0⟩:=idx_lt (L:=List.replicate S false) o3 (by rw [hrl];omega)
 have hset:=fun w=>idx_set (L:=List.replicate S false) (b:=g.Start) (d:=true) o3 (by rw [hrl];omega) w
 have rc0:Rc S F ((0:Nat):Int) (setL' (List.replicate S false) g.Start true):=by
  refine ⟨by rw [setL_len _ _ o3,hrl],?_,?_⟩
  ·intro v hv'
   rw [hset] at hv'
   split at hv'
   ·rename_i hc;subst hc;exact ⟨0,hF.root,by omega⟩
   ·have h9:=hri _ _ hv'
    cases h9
  ·intro v d hv' h0 h1
   have h9:d=0:=by omega
   subst h9
   rw [hset,if_pos (hF.zero v hv')]
 unfold z54
 rw [m,bS,hb0,bS]
 obtain ⟨R,r1,r2⟩:=reach_rounds hN hF (by omega) (fun x hx=>numV_edge hv hx) hS (by omega) N 0 (setL' (List.replicate S false) g.Start true) (by omega) (by omega)
  rc0
 rw [show (0:Int)=((0:Nat):Int) from rfl,r1]
 unfold z54_k3
 rw [hends,bS,allV_from (fun d k=>(R[k]?.getD false) && !(decide (d < 0))) (xs:=L) (F:=z54_l2 N g R L) (e:=z54_k1 N g) (by rw [hL.len];omega)]
 ·obtain ⟨Z,z1,z2⟩:=refEdges_eq hN g (by omega) hn g.End
  have hk1:z54_k1 N g=some (g.Edges.all fun x => !(x.From==g.End)):=by
   unfold z54_k1
   rw [z2,bS,← noEdges g g.End g.Edges 0,← z1.1.length_eq]
   congr 1
   rw [Bool.eq_iff_iff,beq_iff_eq,beq_iff_eq];omega
  rw [hk1]
  have hall:allV (fun d k=>(R[k]?.getD false) && !(decide (d < 0))) L 0=(posV F && posV L):=by
   rw [Bool.eq_iff_iff,Bool.and_eq_true,posV_iff hF,posV_iff hL,allV_iff]
   constructor
   ·intro h
    constructor
    ·intro v d hv'
     obtain ⟨v0,v1⟩:=idx_some hv'
     obtain ⟨k,rfl⟩:∃ k:Nat,v=(k:Int):=⟨v.toNat,by omega⟩
     rw [hF.len] at v1
     have hkL:k < L.length:=by rw [hL.len];omega
     have:=h k _ (List.getElem?_eq_getElem hkL)
     rw [Bool.and_eq_true,Nat.zero_add] at this
     have hkR:k < R.length:=by rw [r2.len];omega
     rw [List.getElem?_eq_getElem hkR,Option.getD_some] at this
     obtain ⟨d',d1,d2⟩:=r2.sound (k:Int) (by rw [idx_nat,List.getElem?_eq_getElem hkR,this.1])
     rw [hv'] at d1
     cases d1;exact d2
    ·intro v d hv'
     obtain ⟨v0,v1⟩:=idx_some hv'
     obtain ⟨k,rfl⟩:∃ k:Nat,v=(k:Int):=⟨v.toNat,by omega⟩
     rw [idx_nat] at hv'
     have:=h k d hv'
     simp at this
     omega
   ·rintro ⟨h1,h2⟩ i d hi
    rw [Nat.zero_add]
    have hkL:i < L.length:=(List.getElem?_eq_some_iff.mp hi).1
    obtain ⟨f,hf⟩:=idx_lt (L:=F) (v:=(i:Int)) (by omega) (by rw [hF.len,← hL.len];omega)
    have:=r2.full (i:Int) f hf (h1 _ _ hf) (by have:=(hF.lo _ _ hf).2;omega)
    rw [idx_nat] at this
    rw [this]
    have:=h2 (i:Int) d (by rw [idx_nat,hi])
    simp;omega
  rw [hall]
  cases (posV F && posV L)<;>rfl
 ·intro n k x hk hx
  have hkR:k < R.length:=by rw [r2.len,← hL.len];omega
  have hd:decide ((k:Int) < g.States)=true:=by rw [hS];simp;rw [← hL.len];omega
  simp only [z54_l2,hd,idx_nat,hx,cT,bS,List.getElem?_eq_getElem hkR,Option.getD_some,w64_succ (show k < 4611686018427387904 by rw [hL.len] at hk;omega)]
  cases R[k]<;>cases decide (x < 0)<;>rfl
 ·intro n k hk
  have hd:decide ((k:Int) < g.States)=false:=by rw [hS];simp;rw [← hL.len];omega
  simp only [z54_l2,hd,cond_false]
end Gp
end
section
namespace Gp
open Go Go.Kx Gx
def mkB (l:List UInt8):ByteArray:=⟨l.toArray⟩
theorem bs_mkB (l:List UInt8):bs (mkB l)=l:=by simp [bs,mkB]
theorem mkB_bs (s:ByteArray):mkB (bs s)=s:=bs_inj (bs_mkB _)
theorem bs_extract (s:ByteArray) (a b:Nat):bs (s.extract a b)=((bs s).take b).drop a:=by
 unfold bs
 rw [ByteArray.data_extract,Array.toList_extract]
 simp [List.extract,List.drop_take]
theorem ssl_mid {s:ByteArray} {x y z:List UInt8} {i j:Int} (h:bs s=x++(y++z)) (hi:i=(x.length:Int)) (hj:j=((x.length+y.length:Nat):Int)):ssl s (some i) (some j)=some (mkB y):=by
 subst hi hj
 have q1:decide ((0:Int)≤(x.length:Int))=true:=by simp
 have q2:decide ((x.length:Int)≤((x.length+y.length:Nat):Int))=true:=by simp;omega
 have q3:decide (((x.length+y.length:Nat):Int)≤(s.size:Int))=true:=by rw [size_bs,h];simp;omega
 unfold ssl bnd
 simp only [Option.getD_some,q1,q2,q3,Bool.and_self,cT,Option.map_some,Int.toNat_natCast]
 congr 1
 apply bs_inj
 rw [bs_extract,bs_mkB,h,← aA,List.take_append_of_le_length (by simp),List.take_of_length_le (by simp)]
 simp
theorem ssl_to {s:ByteArray} {x y:List UInt8} {j:Int} (h:bs s=x++y) (hj:j=(x.length:Int)):ssl s none (some j)=some (mkB x):=by
 have e:ssl s none (some j)=ssl s (some 0) (some j):=rfl
 rw [e]
 exact ssl_mid (x:=[]) (y:=x) (z:=y) (by rw [h];rfl) rfl (by rw [hj];simp)
theorem ssl_from {s:ByteArray} {x y:List UInt8} {i:Int} (h:bs s=x++y) (hi:i=(x.length:Int)):ssl s (some i) none=some (mkB y):=by
 have e:ssl s (some i) none=ssl s (some i) (some (s.size:Int)):=rfl
 rw [e]
 exact ssl_mid (x:=x) (y:=y) (z:=[]) (by rw [h];simp) hi (by rw [size_bs,h];simp)
theorem indexB_some {l:List UInt8} {c:UInt8} (h:0 < l.count c):∃ p q,l=p++c::q∧p.count c=0∧Go.Lib.indexByte l c=(p.length:Int):=by
 induction l with
 | nil=>simp at h
 | cons b l ih =>
  cases hc:(b==c)
  ·rw [List.count_cons,hc] at h
   obtain ⟨p,q,h1,h2,h3⟩:=ih (by simpa using h)
   refine ⟨b::p,q,by rw [h1];rfl,by rw [List.count_cons,h2,hc];rfl,?_⟩
   unfold Go.Lib.indexByte
   rw [hc,h3,show ((p.length:Int)==-1)=false by simp]
   simp
  ·have:b=c:=by simpa using hc
   subst this
   exact ⟨[],l,rfl,by simp,by unfold Go.Lib.indexByte;rw [hc];rfl⟩
def splitA (acc:List UInt8):List UInt8→List (List UInt8)
 | []=>[acc]
 | c::l=>if c=46 then acc::splitA [] l else splitA (acc++[c]) l
theorem splitA_cons (acc:List UInt8) (c:UInt8) (l:List UInt8):splitA acc (c::l)=if c=46 then acc::splitA [] l else splitA (acc++[c]) l:=rfl
theorem splitA_none:∀ (l acc:List UInt8),l.count 46=0→splitA acc l=[acc++l]
 | [],acc,_=>by simp [splitA]
 | c::l,acc,h=>by
  rw [List.count_cons] at h
  have hc:¬ c=46:=by intro hc;subst hc;simp at h
  rw [splitA_cons,if_neg hc,splitA_none l _ (by omega)];simp
theorem splitA_some:∀ (p acc q:List UInt8),p.count 46=0→splitA acc (p++46::q)=(acc++p)::splitA [] q
 | [],acc,q,_=>by rw [List.nil_append,splitA_cons,if_pos rfl,List.append_nil]
 | c::p,acc,q,h=>by
  rw [List.count_cons] at h
  have hc:¬ c=46:=by intro hc;subst hc;simp at h
  show splitA acc (c::(p++46::q))=_
  rw [splitA_cons,if_neg hc,splitA_some p _ q (by omega)];simp
theorem splitA_len:∀ (l acc:List UInt8),(splitA acc l).length=l.count 46+1
 | [],acc=>by simp [splitA]
 | c::l,acc=>by
  rw [splitA_cons,List.count_cons]
  split
  ·rename_i h;subst h
   rw [List.length_cons,splitA_len l];simp
  ·rename_i h
   rw [splitA_len l];simp [h]
variable {N:Nat}
theorem index_eq (s:ByteArray):z195 N s (str [46])=some (Go.Lib.indexByte (bs s) 46):=by
 unfold z195 z199
 have h1:(((str [46]).size:Int)==0)=false:=rfl
 have h2:(((str [46]).size:Int)==1)=true:=rfl
 have h3:sidx (str [46]) (0:Int)=some 46:=by
  rw [show (0:Int)=((0:Nat):Int) from rfl,sidx_bs];rfl
 rw [h1,h2,h3]
 simp only [cT,cond_false,bS,z201]
 have hf:firstB s 46=Go.Lib.indexByte (bs s) 46:=Go.Lib.firstIdx_eq s 46
 rw [hf,toList_bs,toList_bs]
 cases he:(bs (str [46])==bs s)
 ·rfl
 ·have he:bs (str [46])=bs s:=eq_of_beq he
  rw [← he];rfl
theorem count_eq (s:ByteArray):z194 N s (str [46])=some (((bs s).count 46:Nat):Int):=by
 unfold z194
 have h1:(((str [46]).size:Int)==0)=false:=rfl
 have h2:(((str [46]).size:Int)==1)=true:=rfl
 have h3:sidx (str [46]) (0:Int)=some 46:=by
  rw [show (0:Int)=((0:Nat):Int) from rfl,sidx_bs];rfl
 rw [h1,h2,h3]
 simp only [cT,cond_false,bS]
 congr 1
 unfold countB
 rw [show s.foldl (fun (n:Int) x=>if x==Kx.byteOf 46 then n+1 else n) ((0:Nat):Int)=(bs s).foldl (fun (n:Int) x=>if x==Kx.byteOf 46 then n+1 else n) ((0:Nat):Int) from Go.Lib.foldl_data _ _ _,Go.Lib.count_foldl]
 simp [Go.Lib.countByte,Kx.byteOf]
theorem gen_loop (s sep:ByteArray) (hsep:sep=str [46]) (cnt:Nat) (hc:cnt≤s.size) (hs:s.size≤4194304) :
  ∀ (n:Nat) (cur:ByteArray) (D R:List ByteArray),(bs cur).count 46 < n→(bs cur).length≤4194304→D.length+(bs cur).count 46=cnt→R.length=(bs cur).count 46+1 →
  z192_l2 N s sep (0:Int) ((cnt+1:Nat):Int) n cur (D++R) (D.length:Int)=some (D++(splitA [] (bs cur)).map mkB):=by
 subst hsep
 intro n
 induction n with
 | zero=>intro cur D R h;omega
 | succ n ih =>
  intro cur D R hn hcur hD hR
  have hw:w64 ((s.size:Int)+1)=((s.size+1:Nat):Int):=w64_succ (by omega)
  have hmin:minI ((cnt+1:Nat):Int) ((s.size+1:Nat):Int)=((cnt+1:Nat):Int):=by unfold minI;rw [if_neg (by omega)]
  have hw2:w64 (((cnt+1:Nat):Int)-1)=(cnt:Int):=by rw [w64_id (by omega) (by omega)];omega
  have fin:(bs cur).count 46=0→z192_k1 cur (D++R) (D.length:Int)=some (D++(splitA [] (bs cur)).map mkB):=by
   intro h0
   rw [h0] at hR
   obtain ⟨r,rfl⟩:=List.length_eq_one_iff.mp hR
   unfold z192_k1
   rw [idx_mid (A:=D) (x:=r) (B:=[]) rfl rfl,bS,setL'_mid (A:=D) (x:=r) (B:=[]) rfl rfl,w64_succ (by omega),lsl_to (A:=D++[cur]) (B:=[]) (by simp) (by simp),splitA_none _ _ h0]
   simp [mkB_bs]
  by_cases hlt:D.length < cnt
  ·have hd:decide ((D.length:Int) < (cnt:Int))=true:=by simp;omega
   obtain ⟨p,q,e1,e2,e3⟩:=indexB_some (l:=bs cur) (c:=46) (by omega)
   have hlen:(bs cur).length=p.length+(q.length+1):=by rw [e1];simp
   have hcnt:(bs cur).count 46=q.count 46+1:=by rw [e1,List.count_append,List.count_cons,e2];simp
   obtain ⟨r,R',rfl⟩:∃ r R',R=r::R':=by
    cases R with
    | nil=>simp at hR
    | cons r R'=>exact ⟨r,R',rfl⟩
   simp only [List.length_cons] at hR
   have hneg:decide ((p.length:Int) < 0)=false:=by simp
   have wp:w64 ((p.length:Int)+0)=(p.length:Int):=by rw [w64_id (by omega) (by omega)];omega
   have wp1:w64 ((p.length:Int)+((str [46]).size:Int))=((p++[46]:List UInt8).length:Int):=by
    rw [show ((str [46]).size:Int)=1 from rfl,w64_succ (by omega)];simp
   simp only [z192_l2,hw,hmin,hw2,hd,cT,index_eq,e3,bS,hneg,cond_false,wp,wp1]
   rw [ssl_to e1 rfl,bS,idx_mid (A:=D) (x:=r) (B:=R') rfl rfl,bS,ssl_from (x:=p++[46]) (y:=q) (by rw [e1];simp) rfl,bS,setL'_mid (A:=D) (x:=r) (B:=R') rfl rfl,w64_succ (by omega)]
   have:=ih (mkB q) (D++[mkB p]) R' (by rw [bs_mkB];omega) (by rw [bs_mkB];omega) (by rw [bs_mkB];simp;omega) (by rw [bs_mkB];omega)
   rw [bs_mkB] at this
   rw [show ((D.length+1:Nat):Int)=((D++[mkB p]).length:Int) by simp,show D++mkB p::R'=(D++[mkB p])++R' by simp,this,e1,splitA_some _ _ _ e2]
   simp
  ·have hd:decide ((D.length:Int) < (cnt:Int))=false:=by simp;omega
   simp only [z192_l2,hw,hmin,hw2,hd,cond_false]
   exact fin (by omega)
theorem split_eq (hN:4194304 < N) (s:ByteArray) (hs:s.size≤1000000):z188 N s (str [46])=some ((splitA [] (bs s)).map mkB):=by
 unfold z188 z192
 have h0:((-1:Int)==0)=false:=rfl
 have h1:((str [46]).toList==(str []).toList)=false:=by rw [toList_bs,toList_bs];rfl
 have h2:decide ((-1:Int) < 0)=true:=rfl
 have hcl:(bs s).count 46≤(bs s).length:=List.count_le_length
 rw [h0,h1,h2,count_eq]
 simp only [cT,cond_false,bS,z192_k3]
 rw [size_bs] at hs
 rw [w64_succ (by omega)]
 have hw:w64 ((s.size:Int)+1)=((s.size+1:Nat):Int):=w64_succ (by rw [size_bs];omega)
 have hmin:minI (((bs s).count 46+1:Nat):Int) ((s.size+1:Nat):Int)=(((bs s).count 46+1:Nat):Int):=by unfold minI;rw [if_neg (by rw [size_bs];omega)]
 have m:mkL (str []) (((bs s).count 46+1:Nat):Int) (((bs s).count 46+1:Nat):Int)=some (List.replicate ((bs s).count 46+1) (str [])):=by
  unfold mkL
  have q1:decide ((0:Int)≤(((bs s).count 46+1:Nat):Int))=true:=by simp;omega
  have q2:decide ((((bs s).count 46+1:Nat):Int)≤4294967296)=true:=by simp;omega
  simp only [q1,q2,Int.le_refl,decide_true,Bool.and_self,cT]
  simp
 rw [hw,hmin,m,bS]
 have:=gen_loop (N:=N) s (str [46]) rfl ((bs s).count 46) (by rw [size_bs];omega) (by rw [size_bs];omega) N s [] (List.replicate ((bs s).count 46+1) (str [])) (by omega) (by omega) (by simp) (by simp)
 rw [List.nil_append] at this
 have this':z192_l2 N s (str [46]) (0:Int) (((bs s).count 46+1:Nat):Int) N s (List.replicate ((bs s).count 46+1) (str [])) (0:Int)=some ([]++(splitA [] (bs s)).map mkB):=this
 rw [this'];simp
def pathV (s:ByteArray):Bool:=decide (s.size≤50) && (splitA [] (bs s)).all fun p=>isWord (mkB p)
theorem piece_len:∀ (l acc:List UInt8),∀ p∈splitA acc l,p.length≤acc.length+l.length
 | [],acc,p,h=>by simp [splitA] at h;subst h;simp
 | c::l,acc,p,h=>by
  rw [splitA_cons] at h
  split at h
  ·rcases List.mem_cons.mp h with h | h
   ·subst h;simp
   ·have:=piece_len l [] p h;simp at this;simp;omega
  ·have:=piece_len l _ p h;simp at this;simp;omega
theorem path_eq (hN:4194304 < N) (s:ByteArray):z176 N s=some (pathV s):=by
 unfold z176 pathV
 by_cases h:s.size≤50
 ·rw [dT (show (s.size:Int)≤50 by omega),dT h,cT,split_eq hN s (by omega),bS]
  unfold z187_1 z191_0
  have hl:(splitA [] (bs s)).length≤51:=by
   rw [splitA_len]
   have:(bs s).count 46≤(bs s).length:=List.count_le_length
   rw [size_bs] at h;omega
  rw [look ((splitA [] (bs s)).map mkB) (by simp;omega) (fun x k r=>bif !(isWord x) then some k else r) (z191_0_l2 N ((splitA [] (bs s)).map mkB)) (some (-1)) hN]
  ·obtain ⟨i,h1,h2⟩:=whereV_any (fun x => !(isWord x)) ((splitA [] (bs s)).map mkB) 0
   rw [h1,bS,h2,bS,List.any_map,List.not_any_eq_all_not]
   simp [Function.comp_def]
  ·intro n k x hk hx
   have hx':=List.mem_of_getElem? hx
   obtain ⟨p,hp,rfl⟩:=List.mem_map.mp hx'
   have hpl:=piece_len _ _ p hp
   have hw:=(word_eq hN (mkB p) (by rw [size_bs,bs_mkB];rw [size_bs] at h;simp at hpl;omega)).1
   simp only [z191_0_l2,lt_t hk,idx_nat,hx,cT,bS,z189,hw]
  ·intro n k hk
   simp only [z191_0_l2,lt_f hk,cond_false,z191_0_k1]
 ·rw [dF (show ¬ (s.size:Int)≤50 by omega),dF h];rfl
theorem refPath_loop (hN:4194304 < N) (s:ByteArray) (hs:s.size≤4194304):∀ (n:Nat) (x acc l:List UInt8) (i j:Int),l.length+1 < n→bs s=x++(acc++l)→i=(x.length:Int)→j=((x.length+acc.length:Nat):Int) →
  z153_l2 N s n i j=bif (splitA acc l).all fun p=>isWord (mkB p) then z153_k1 s else some false:=by
 intro n
 induction n with
 | zero=>intro x acc l i j h;omega
 | succ n ih =>
  intro x acc l i j hn he hi hj
  have hsz:s.size=x.length+(acc.length+l.length):=by rw [size_bs,he];simp
  have hle:decide (j≤(s.size:Int))=true:=by simp;omega
  have hw:=(word_eq hN (mkB acc) (by rw [size_bs,bs_mkB];omega)).2
  have wj:w64 (j+1)=((x.length+acc.length+1:Nat):Int):=by rw [hj];exact w64_succ (by omega)
  cases l with
  | nil =>
   have hend:(j==(s.size:Int))=true:=by simp at hsz;simp;omega
   obtain ⟨n,rfl⟩:∃ m,n=m+1:=⟨n-1,by simp at hn;omega⟩
   have hgt:decide (w64 (j+1)≤(s.size:Int))=false:=by rw [wj];simp at hsz;simp;omega
   unfold z153_l2
   rw [hle,cT,hend,cT]
   unfold z153_k3
   rw [cT,ssl_mid he hi hj,bS]
   unfold z171
   rw [hw]
   simp only [bS,splitA,List.all_cons,List.all_nil,Bool.and_true]
   cases isWord (mkB acc)
   ·rfl
   ·simp only [Bool.not_true,cond_false,cT]
    unfold z153_l2
    rw [hgt];rfl
  | cons c l =>
   have hne:(j==(s.size:Int))=false:=by simp at hsz;simp;omega
   have hgc:sidx s j=some (c.toNat:Int):=by
    rw [hj,sidx_bs,get_at (A:=x++acc) (x:=c) (B:=l) (by rw [he];simp) (by simp)];rfl
   unfold z153_l2
   rw [hle,cT,hne,cond_false,hgc,bS]
   by_cases hc:c=46
   ·subst hc
    have hb:(((46:UInt8).toNat:Int)==46)=true:=rfl
    rw [hb]
    unfold z153_k3
    rw [cT,ssl_mid he hi hj,bS]
    unfold z171
    rw [hw]
    have e0:splitA acc (46::l)=acc::splitA [] l:=by rw [splitA_cons,if_pos rfl]
    rw [e0,List.all_cons]
    simp only [bS]
    cases isWord (mkB acc)
    ·rfl
    ·simp only [Bool.not_true,cond_false,Bool.true_and]
     rw [wj]
     exact ih (x++acc++[46]) [] l _ _ (by simp at hn;omega) (by rw [he];simp) (by simp;omega) (by simp;omega)
   ·have hb:((c.toNat:Int)==46)=false:=by
     rw [beq_eq_false_iff_ne]
     intro h
     apply hc
     apply UInt8.toNat_inj.mp
     show c.toNat=46
     omega
    rw [hb]
    unfold z153_k3
    have e0:splitA acc (c::l)=splitA (acc++[c]) l:=by rw [splitA_cons,if_neg hc]
    rw [cond_false,wj,e0]
    exact ih x (acc++[c]) l _ _ (by simp at hn;omega) (by rw [he];simp) hi (by simp;omega)
theorem refPath_eq (hN:4194304 < N) (s:ByteArray) (hs:s.size≤4000000):z153 N s=some (pathV s):=by
 unfold z153
 rw [refPath_loop hN s (by omega) N [] [] (bs s) (0:Int) (0:Int) (by rw [size_bs] at hs;omega) rfl rfl rfl]
 unfold z153_k1 pathV
 by_cases h:s.size≤50
 ·rw [dT (show (s.size:Int)≤50 by omega),dT h]
  cases (splitA [] (bs s)).all fun p=>isWord (mkB p)<;>rfl
 ·rw [dF (show ¬ (s.size:Int)≤50 by omega),dF h]
  cases (splitA [] (bs s)).all fun p=>isWord (mkB p)<;>rfl
end Gp
end
section
namespace Gp
open Go Go.Kx Gx
variable {N:Nat}
def flat (l:List T0):List T3:=(l.map fun d=>d.Fields).flatten
theorem flat_cons (x:T0) (l:List T0):flat (x::l)=x.Fields++flat l:=rfl
theorem flat_app (a b:List T0):flat (a++b)=flat a++flat b:=by simp [flat]
theorem flat_le (l:List T0) (h:∀ d∈l,SizeD d):(flat l).length≤l.length * 4194304:=by
 induction l with
 | nil=>simp [flat]
 | cons x l ih =>
  rw [flat_cons,List.length_append,List.length_cons]
  have:=(h x (by simp)).f
  have:=ih (fun d hd=>h d (by simp [hd]))
  omega
theorem take_drop_cons {α:Type} {xs l:List α} {k:Nat} {x:α} (h:xs.drop k=x::l):xs.take (k+1)=xs.take k++[x]:=by
 obtain ⟨a,c,d⟩:=drop_cons h
 rw [List.take_add_one,c];rfl
theorem fields_loop (l:List T0) (hs:(flat l).length≤4294967296) (hl:l.length≤4194304) :
  ∀ (m:List T0) (k n:Nat) (acc:List T3),l.drop k=m→m.length < n→acc=flat (l.take k)→z175_l2 l n acc (k:Int)=some (flat l):=by
 intro m
 induction m with
 | nil =>
  intro k n acc h hn ha
  obtain ⟨n,rfl⟩:∃ m,n=m+1:=⟨n-1,by simp at hn;omega⟩
  have hk:=drop_nil h
  simp only [z175_l2,lt_f hk,cond_false,z175_k1]
  rw [ha,List.take_of_length_le hk]
 | cons x m ih =>
  intro k n acc h hn ha
  obtain ⟨n,rfl⟩:∃ m,n=m+1:=⟨n-1,by simp at hn;omega⟩
  obtain ⟨a,c,d⟩:=drop_cons h
  have ht:=take_drop_cons h
  have hcut:flat l=flat (l.take (k+1))++flat (l.drop (k+1)):=by rw [← flat_app,List.take_append_drop]
  have hle:acc.length+x.Fields.length≤4294967296:=by
   rw [hcut,ht,flat_app,List.length_append,List.length_append,← ha] at hs
   have:(flat [x]).length=x.Fields.length:=by simp [flat]
   omega
  simp only [z175_l2,lt_t a,cT,idx_nat,c,bS]
  rw [appL_some hle,bS,w64_succ (by omega)]
  refine ih (k+1) n _ d (by simp at hn;omega) ?_
  rw [ht,flat_app,← ha];simp [flat]
theorem fields_eq (hN:4194304 < N) (l:List T0) (hl:l.length≤1000) (hd:∀ d∈l,SizeD d):z175 N l=some (flat l):=by
 unfold z175
 exact fields_loop l (by have:=flat_le l hd;omega) (by omega) l 0 N [] rfl (by omega) rfl
theorem vars_loop (l:List T0) (hs:(flat l).length≤4294967296) (hl:l.length≤4194304) :
  ∀ (m:List T0) (k n:Nat) (acc:Int),l.drop k=m→m.length < n→acc=((flat (l.take k)).length:Int)→z151_l2 l n acc (k:Int)=some ((flat l).length:Int):=by
 intro m
 induction m with
 | nil =>
  intro k n acc h hn ha
  obtain ⟨n,rfl⟩:∃ m,n=m+1:=⟨n-1,by simp at hn;omega⟩
  have hk:=drop_nil h
  simp only [z151_l2,lt_f hk,cond_false,z151_k1]
  rw [ha,List.take_of_length_le hk]
 | cons x m ih =>
  intro k n acc h hn ha
  obtain ⟨n,rfl⟩:∃ m,n=m+1:=⟨n-1,by simp at hn;omega⟩
  obtain ⟨a,c,d⟩:=drop_cons h
  have ht:=take_drop_cons h
  have hcut:flat l=flat (l.take (k+1))++flat (l.drop (k+1)):=by rw [← flat_app,List.take_append_drop]
  have hx:(flat [x]).length=x.Fields.length:=by simp [flat]
  have hle:(flat (l.take k)).length+x.Fields.length≤4294967296:=by
   rw [hcut,ht,flat_app,List.length_append,List.length_append] at hs
   omega
  simp only [z151_l2,lt_t a,cT,idx_nat,c,bS]
  rw [w64_succ (by omega),w64_id (by omega) (by omega)]
  refine ih (k+1) n _ d (by simp at hn;omega) ?_
  rw [ht,flat_app,List.length_append,hx,ha];simp
theorem vars_eq (hN:4194304 < N) (l:List T0) (hl:l.length≤1000) (hd:∀ d∈l,SizeD d):z151 N l=some ((flat l).length:Int):=by
 unfold z151
 exact vars_loop l (by have:=flat_le l hd;omega) (by omega) l 0 N 0 rfl (by omega) rfl
theorem field_loop (l:List T0) (hl:l.length≤4194304) (hd:∀ d∈l,SizeD d) :
  ∀ (m:List T0) (k n i:Nat),l.drop k=m→m.length < n→i < (flat m).length→i≤4294967296→z185_l2 l n (i:Int) (k:Int)=(flat m)[i]? := by
 intro m
 induction m with
 | nil=>intro k n i h hn hi;simp [flat] at hi
 | cons x m ih =>
  intro k n i h hn hi hi2
  obtain ⟨n,rfl⟩:∃ m,n=m+1:=⟨n-1,by simp at hn;omega⟩
  obtain ⟨a,c,d⟩:=drop_cons h
  rw [flat_cons]
  simp only [z185_l2,lt_t a,cT,idx_nat,c,bS]
  by_cases hlt:i < x.Fields.length
  ·rw [lt_t hlt,cT,List.getElem?_append_left hlt,List.getElem?_eq_getElem hlt];rfl
  ·rw [lt_f (by omega),cond_false,w64_succ (by omega),List.getElem?_append_right (by omega)]
   have hf:=(hd x (List.mem_of_getElem? c)).f
   have hw:w64 ((i:Int)-(x.Fields.length:Int))=((i-x.Fields.length:Nat):Int):=by rw [w64_id (by omega) (by omega)];omega
   rw [hw]
   exact ih (k+1) n _ d (by simp at hn;omega) (by rw [flat_cons,List.length_append] at hi;omega) (by omega)
def textV (fl:List T3) (x:Int):Bool:=match idx fl x with | some f=>f.Sort'.Kind==2 | none=>false
theorem idx_none {α:Type} {L:List α} {v:Int} (h:¬ (0≤v∧v < (L.length:Int))):idx L v=none:=by
 cases hc:idx L v with
 | none=>rfl
 | some d=>exact absurd (idx_some hc) h
theorem text_eq (hN:4194304 < N) (l:List T0) (hl:l.length≤1000) (hd:∀ d∈l,SizeD d) (x:Int):z172 N l x=some (textV (flat l) x):=by
 have hfl:=flat_le l hd
 unfold z172 textV
 rw [vars_eq hN l hl hd]
 by_cases h0:x≥0
 ·rw [dT h0,cT,bS]
  by_cases h1:x < ((flat l).length:Int)
  ·obtain ⟨k,rfl⟩:∃ k:Nat,x=(k:Int):=⟨x.toNat,by omega⟩
   have hk:k < (flat l).length:=by omega
   have hf:z185 N l (k:Int)=(flat l)[k]? := field_loop l (by omega) hd l 0 N k rfl (by omega) hk (by omega)
   rw [dT h1,cT,hf,idx_nat,List.getElem?_eq_getElem hk];rfl
  ·rw [dF h1,idx_none (by omega)];rfl
 ·rw [dF h0,idx_none (by omega)];rfl
def diffOk (n:Int) (d:T1):Prop:=-1≤d.X∧d.X < n∧-1≤d.Y∧d.Y < n∧-20000≤d.C∧d.C≤20000
instance (n:Int) (d:T1):Decidable (diffOk n d):=by unfold diffOk;infer_instance
def guardV (fl:List T3) (g:T5):Bool :=
 decide (g.Diffs.length≤20∧g.Equals.length≤20) && (allV (fun d _=>decide (diffOk (fl.length:Int) d)) g.Diffs 0 && allV (fun e _=>textV fl e.1 && textV fl e.2) g.Equals 0)
theorem guarded_eq (hN:4194304 < N) (g:T5) (fl:List T3):z182 N g fl=some (guardV fl g):=by
 unfold z182 guardV
 by_cases c1:(g.Diffs.length:Int) > 20
 ·rw [dT c1,dF (show ¬ (g.Diffs.length≤20∧g.Equals.length≤20) by omega)];rfl
 by_cases c2:(g.Equals.length:Int) > 20
 ·rw [dF c1,dT c2,dF (show ¬ (g.Diffs.length≤20∧g.Equals.length≤20) by omega)];rfl
 rw [dF c1,dF c2,dT (show g.Diffs.length≤20∧g.Equals.length≤20 by omega)]
 simp only [cond_false,Bool.true_and]
 rw [allV_from (fun d _=>decide (diffOk (fl.length:Int) d)) (xs:=g.Diffs) (F:=z182_l6 N g fl) (e:=z182_k5 N g fl) (by omega)]
 ·unfold z182_k5
  rw [allV_from (fun e _=>textV fl e.1 && textV fl e.2) (xs:=g.Equals) (F:=z182_l2 N g fl) (e:=some true) (by omega)]
  ·cases allV (fun d _=>decide (diffOk (fl.length:Int) d)) g.Diffs 0<;>cases allV (fun e _=>textV fl e.1 && textV fl e.2) g.Equals 0<;>rfl
  ·intro n k x hk hx
   obtain ⟨m,rfl⟩:∃ m,N=m+3:=⟨N-3,by omega⟩
   have e0:idx ([x.1,x.2]:List Int) (0:Int)=some x.1:=rfl
   have e1:idx ([x.1,x.2]:List Int) (1:Int)=some x.2:=rfl
   have w0:w64 ((0:Int)+1)=1:=by decide
   have w1:w64 ((1:Int)+1)=2:=by decide
   have l0:decide ((0:Int) < 2)=true:=rfl
   have l1:decide ((1:Int) < 2)=true:=rfl
   have l2:decide ((2:Int) < 2)=false:=rfl
   have one:∀ (v:Int) (r:Option Bool),(bif decide (v < (0:Int)) then some false else bif decide (v≥(fl.length:Int)) then some false else (idx fl v).bind fun x143=>bif (x143.Sort'.Kind != (2:Int)) then some false else r)=bif textV fl v then r else some false:=by
    intro v r
    unfold textV
    by_cases h0:v < 0
    ·rw [dT h0,idx_none (by omega)];rfl
    by_cases h1:v≥(fl.length:Int)
    ·rw [dF h0,dT h1,idx_none (by omega)];rfl
    obtain ⟨f,hf⟩:=idx_lt (L:=fl) (v:=v) (by omega) (by omega)
    rw [dF h0,dF h1,hf]
    simp only [cond_false,bS]
    unfold bne
    cases (f.Sort'.Kind==2)<;>rfl
   have inner:z182_l4 fl (k:Int) (z182_l2 (m+3) g fl n) x (m+3) (0:Int)=bif textV fl x.1 && textV fl x.2 then z182_k3 (k:Int) (z182_l2 (m+3) g fl n) else some false:=by
    simp only [z182_l4,e0,e1,w0,w1,l0,l1,l2,cT,cond_false,bS]
    rw [one,one]
    cases textV fl x.1<;>cases textV fl x.2<;>rfl
   simp only [z182_l2,lt_t hk,cT,idx_nat,hx,bS,inner,z182_k3]
   rw [w64_succ (by omega)]
  ·intro n k hk
   simp only [z182_l2,lt_f hk,cond_false,z182_k1]
 ·intro n k x hk hx
  simp only [z182_l6,lt_t hk,idx_nat,hx,cT,bS,w64_succ (show k < 4611686018427387904 by omega)]
  by_cases d1:minI x.X x.Y < -1
  ·rw [dT d1,dF (show ¬ diffOk (fl.length:Int) x by rw [minI_lt] at d1;unfold diffOk;omega)];rfl
  by_cases d2:maxI x.X x.Y≥(fl.length:Int)
  ·rw [dF d1,dT d2,dF (show ¬ diffOk (fl.length:Int) x by rw [maxI_ge] at d2;unfold diffOk;omega)];rfl
  by_cases d3:x.C < -20000
  ·rw [dF d1,dF d2,dT d3,dF (show ¬ diffOk (fl.length:Int) x by unfold diffOk;omega)];rfl
  by_cases d4:x.C > 20000
  ·rw [dF d1,dF d2,dF d3,dT d4,dF (show ¬ diffOk (fl.length:Int) x by unfold diffOk;omega)];rfl
  rw [dF d1,dF d2,dF d3,dF d4,dT (show diffOk (fl.length:Int) x by rw [minI_lt] at d1;rw [maxI_ge] at d2;unfold diffOk;omega)];rfl
 ·intro n k hk
  simp only [z182_l6,lt_f hk,cond_false]
theorem goodGuard_eq (hN:4194304 < N) (l:List T0) (hl:l.length≤1000) (hd:∀ d∈l,SizeD d) (g:T5) (h1:g.Diffs.length≤4194304) (h2:g.Equals.length≤4194304):z154 N l g=some (guardV (flat l) g):=by
 unfold z154 guardV
 rw [vars_eq hN l hl hd,bS]
 rw [allV_from (fun d _=>decide (diffOk ((flat l).length:Int) d)) (xs:=g.Diffs) (F:=z154_l4 N l g ((flat l).length:Int)) (e:=z154_k3 N l g) (by omega)]
 ·unfold z154_k3
  rw [allV_from (fun e _=>textV (flat l) e.1 && textV (flat l) e.2) (xs:=g.Equals) (F:=z154_l2 N l g) (e:=z154_k1 g) (by omega)]
  ·have hk1:z154_k1 g=some (decide (g.Diffs.length≤20∧g.Equals.length≤20)):=by
    unfold z154_k1
    by_cases c1:(g.Diffs.length:Int)≤20
    ·rw [dT c1,cT]
     congr 1
     rw [decide_eq_decide];omega
    ·rw [dF c1,dF (show ¬ (g.Diffs.length≤20∧g.Equals.length≤20) by omega)];rfl
   rw [hk1]
   cases allV (fun d _=>decide (diffOk ((flat l).length:Int) d)) g.Diffs 0<;>cases allV (fun e _=>textV (flat l) e.1 && textV (flat l) e.2) g.Equals 0<;>cases decide (g.Diffs.length≤20∧g.Equals.length≤20)<;>rfl
  ·intro n k x hk hx
   simp only [z154_l2,lt_t hk,cT,idx_nat,hx,bS,text_eq hN l hl hd,w64_succ (show k < 4611686018427387904 by omega)]
   cases textV (flat l) x.1<;>cases textV (flat l) x.2<;>rfl
  ·intro n k hk
   simp only [z154_l2,lt_f hk,cond_false]
 ·intro n k x hk hx
  simp only [z154_l4,lt_t hk,idx_nat,hx,cT,bS,w64_succ (show k < 4611686018427387904 by omega)]
  by_cases d1:x.X < -1
  ·rw [dT d1,dF (show ¬ diffOk ((flat l).length:Int) x by unfold diffOk;omega)];rfl
  by_cases d2:x.X≥((flat l).length:Int)
  ·rw [dF d1,dT d2,dF (show ¬ diffOk ((flat l).length:Int) x by unfold diffOk;omega)];rfl
  by_cases d3:x.Y < -1
  ·rw [dF d1,dF d2,dT d3,dF (show ¬ diffOk ((flat l).length:Int) x by unfold diffOk;omega)];rfl
  by_cases d4:x.Y≥((flat l).length:Int)
  ·rw [dF d1,dF d2,dF d3,dT d4,dF (show ¬ diffOk ((flat l).length:Int) x by unfold diffOk;omega)];rfl
  by_cases d5:x.C < -20000
  ·rw [dF d1,dF d2,dF d3,dF d4,dT d5,dF (show ¬ diffOk ((flat l).length:Int) x by unfold diffOk;omega)];rfl
  by_cases d6:x.C > 20000
  ·rw [dF d1,dF d2,dF d3,dF d4,dF d5,dT d6,dF (show ¬ diffOk ((flat l).length:Int) x by unfold diffOk;omega)];rfl
  rw [dF d1,dF d2,dF d3,dF d4,dF d5,dF d6,dT (show diffOk ((flat l).length:Int) x by unfold diffOk;omega)];rfl
 ·intro n k hk
  simp only [z154_l4,lt_f hk,cond_false]
def sortOk (s:T7):Prop:=(s.Kind=1∧-1000≤s.Lo∧s.Lo≤s.Hi∧s.Hi≤1000)∨(s.Kind=2∧0≤s.Lo∧s.Lo≤s.Hi∧s.Hi≤40)
instance (s:T7):Decidable (sortOk s):=by unfold sortOk;infer_instance
theorem three (a b c:Prop) [Decidable a] [Decidable b] [Decidable c]:(bif decide a then (bif decide b then some (decide c) else some false) else some false)=some (decide (a∧b∧c)):=by
 by_cases ha:a<;>by_cases hb:b<;>simp [ha,hb]
theorem sorted_eq (s:T7):z179 N s=some (decide (sortOk s)):=by
 unfold z179
 rw [three,three]
 by_cases h1:s.Kind=1
 ·rw [show (s.Kind==1)=true by simp [h1],cT];congr 1;rw [decide_eq_decide];unfold sortOk;omega
 ·rw [show (s.Kind==1)=false by simp [h1],cond_false]
  by_cases h2:s.Kind=2
  ·rw [show (s.Kind==2)=true by simp [h2],cT];congr 1;rw [decide_eq_decide];unfold sortOk;omega
  ·rw [show (s.Kind==2)=false by simp [h2],cond_false,dF (show ¬ sortOk s by unfold sortOk;omega)]
theorem goodSort_eq (s:T7):z152 N s=some (decide (sortOk s)):=by
 unfold z152 z152_k1
 rw [three,three]
 by_cases h1:s.Kind=1
 ·rw [show (s.Kind==1)=true by simp [h1],show (s.Kind==2)=false by simp [h1]];simp only [cT,cond_false];congr 1;rw [decide_eq_decide];unfold sortOk;omega
 ·rw [show (s.Kind==1)=false by simp [h1]]
  by_cases h2:s.Kind=2
  ·rw [show (s.Kind==2)=true by simp [h2]];simp only [cT,cond_false];congr 1;rw [decide_eq_decide];unfold sortOk;omega
  ·rw [show (s.Kind==2)=false by simp [h2]];simp only [cond_false];rw [dF (show ¬ sortOk s by unfold sortOk;omega)]
end Gp
end
