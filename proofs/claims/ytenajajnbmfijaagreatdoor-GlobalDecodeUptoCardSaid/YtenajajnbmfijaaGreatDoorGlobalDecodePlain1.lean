/- The plain law, part 1: what the functions compute answers as the statement says. -/
import Derived.Lib.Bytealg
import Derived.KernelRfl
import Derived.Test.YtenajajnbmfijaaGreatDoorGlobalDecodePure
set_option linter.all false
section
/- Plain aids: numbers that do not wrap, places in lists, loops over lists. -/
namespace Gp
open Go Go.Kx
theorem w64_id {n:Int} (h1:-9223372036854775808≤n) (h2:n≤9223372036854775807):w64 n=n:=by
 show IntKind.i64.wrap n=n
 simp [IntKind.wrap,IntKind.signed,IntKind.bits]
 omega
theorem w64_succ {n:Nat} (h:n < 4611686018427387904):w64 ((n:Int)+1)=((n+1:Nat):Int):=by rw [w64_id (by omega) (by omega)];omega
theorem idx_nat {α:Type} (xs:List α) (k:Nat):idx xs (k:Int)=xs[k]? := by
 unfold idx
 have:decide (0≤(k:Int))=true:=by simp
 rw [this];simp
theorem idx_int {α:Type} {xs:List α} {i:Int} {k:Nat} (h:i=k):idx xs i=xs[k]? := by rw [h,idx_nat]
theorem setL'_nat {α:Type} (xs:List α) (k:Nat) (e:α):setL' xs (k:Int) e=xs.set k e:=by unfold setL';simp
theorem setL'_int {α:Type} {xs:List α} {i:Int} {k:Nat} (h:i=k) (e:α):setL' xs i e=xs.set k e:=by rw [h,setL'_nat]
theorem get_mid {α:Type} (A:List α) (x:α) (B:List α) {k:Nat} (h:A.length=k):(A++x::B)[k]? = some x:=by
 subst h;simp
theorem set_mid {α:Type} (A:List α) (x y:α) (B:List α) {k:Nat} (h:A.length=k):(A++x::B).set k y=A++y::B:=by
 subst h;simp
theorem idx_mid {α:Type} {L A:List α} {x:α} {B:List α} {i:Int} (hL:L=A++x::B) (h:i=(A.length:Int)):idx L i=some x:=by
 rw [idx_int h,hL];exact get_mid A x B rfl
theorem setL'_mid {α:Type} {L A:List α} {x:α} {B:List α} {i:Int} (hL:L=A++x::B) (h:i=(A.length:Int)) (y:α):setL' L i y=A++y::B:=by
 rw [setL'_int h,hL];exact set_mid A x y B rfl
theorem appL_some {α:Type} {xs ys:List α} (h:xs.length+ys.length≤4294967296):appL xs ys=some (xs++ys):=by
 unfold appL
 have:Nat.ble (xs.length+ys.length) lim=true:=Nat.ble_eq_true_of_le h
 rw [this];rfl
theorem drop_cons {α:Type} {xs:List α} {k:Nat} {x:α} {l:List α} (h:xs.drop k=x::l):k < xs.length∧xs[k]? = some x∧xs.drop (k+1)=l:=by
 have hlt:k < xs.length:=by
  rcases Nat.lt_or_ge k xs.length with h' | h'
  ·exact h'
  ·rw [List.drop_eq_nil_of_le h'] at h;cases h
 rw [List.drop_eq_getElem_cons hlt] at h
 simp only [List.cons.injEq] at h
 exact ⟨hlt,by rw [List.getElem?_eq_getElem hlt,h.1],h.2⟩
theorem drop_nil {α:Type} {xs:List α} {k:Nat} (h:xs.drop k=[]):xs.length≤k:=by simpa using h
/-- The value of a loop over a list, from the back. -/
def lv {α γ:Type} (b:α→Nat→γ→γ) (e:γ):List α→Nat→γ
 | [],_=>e
 | x::l,k=>b x k (lv b e l (k+1))
theorem lv_of {α γ:Type} (xs:List α) (F:Nat→Int→γ) (b:α→Nat→γ→γ) (e:γ)
  (h1:∀ n k x,k < xs.length→xs[k]? = some x→F (n+1) (k:Int)=b x k (F n ((k+1:Nat):Int)))
  (h2:∀ n k,xs.length≤k→F (n+1) (k:Int)=e) :
  ∀ (l:List α) (k n:Nat),xs.drop k=l→l.length < n→F n (k:Int)=lv b e l k:=by
 intro l
 induction l with
 | nil =>
  intro k n h hn
  obtain ⟨n,rfl⟩:∃ m,n=m+1:=⟨n-1,by simp at hn;omega⟩
  exact h2 n k (drop_nil h)
 | cons x l ih =>
  intro k n h hn
  obtain ⟨n,rfl⟩:∃ m,n=m+1:=⟨n-1,by simp at hn;omega⟩
  obtain ⟨a,c,d⟩:=drop_cons h
  rw [h1 n k x a c,ih (k+1) n d (by simp at hn;omega)];rfl
theorem lv_from {α γ:Type} {xs:List α} {F:Nat→Int→γ} {b:α→Nat→γ→γ} {e:γ} {n:Nat} {i:Int} (hn:xs.length < n) (hi:i=((0:Nat):Int))
  (h1:∀ n k x,k < xs.length→xs[k]? = some x→F (n+1) (k:Int)=b x k (F n ((k+1:Nat):Int)))
  (h2:∀ n k,xs.length≤k→F (n+1) (k:Int)=e):F n i=lv b e xs 0:=by
 rw [hi];exact lv_of xs F b e h1 h2 xs 0 n rfl hn
/-- Places below the end. -/
theorem lt_t {k n:Nat} (h:k < n):decide ((k:Int) < (n:Int))=true:=by simp [h]
theorem lt_f {k n:Nat} (h:n≤k):decide ((k:Int) < (n:Int))=false:=by simp;omega
end Gp
end
section
/- Plain lists in the order of a key, equal keys in the order of a relation. -/
namespace Gp
open Go Go.Kx
def Lt {α:Type} (K:α→Int) (r:α→α→Prop) (x y:α):Prop:=K x < K y∨(K x=K y∧r x y)
def Srt {α:Type} (K:α→Int) (r:α→α→Prop) (l:List α):Prop:=l.Pairwise (Lt K r)
variable {α:Type} {K:α→Int} {r:α→α→Prop}
theorem Lt.le {x y:α} (h:Lt K r x y):K x≤K y:=by rcases h with h | h<;>omega
theorem srt_app {A B:List α}:Srt K r (A++B)↔Srt K r A∧Srt K r B∧∀ x∈A,∀ y∈B,Lt K r x y:=by
 unfold Srt;exact List.pairwise_append
theorem srt_cons {x:α} {B:List α}:Srt K r (x::B)↔(∀ y∈B,Lt K r x y)∧Srt K r B:=by
 unfold Srt;exact List.pairwise_cons
theorem srt_nil:Srt K r ([]:List α):=List.Pairwise.nil
/-- A list cut at a place. -/
theorem cut_at (L:List α) (k:Nat) (h:k≤L.length):∃ A B,L=A++B∧A.length=k :=
 ⟨L.take k,L.drop k,(List.take_append_drop k L).symm,by simp;omega⟩
theorem cut_one (L:List α) (k:Nat) (h:k < L.length):∃ A x B,L=A++x::B∧A.length=k:=by
 obtain ⟨A,B,e,hl⟩:=cut_at L k (by omega)
 cases B with
 | nil=>have:=congrArg List.length e;simp at this;omega
 | cons x B=>exact ⟨A,x,B,e,hl⟩
theorem get_at {L A:List α} {x:α} {B:List α} {k:Nat} (hL:L=A++x::B) (h:A.length=k):L[k]? = some x:=by rw [hL];exact get_mid A x B h
/-- Sorted lists of the same elements are one list. -/
theorem srt_uniq (has:∀ x y,Lt K r x y→¬ Lt K r y x):∀ (A B:List α),A.Perm B→Srt K r A→Srt K r B→A=B
 | [],B,h,_,_=>by simpa using h.symm
 | x::A,B,h,ha,hb=>by
  cases B with
  | nil=>exact absurd h.length_eq (by simp)
  | cons y B =>
   by_cases hxy:x=y
   ·subst hxy
    rw [srt_uniq has A B ((List.perm_cons x).mp h) (srt_cons.mp ha).2 (srt_cons.mp hb).2]
   ·exfalso
    have h1:x∈y::B:=h.mem_iff.mp (by simp)
    have h2:y∈x::A:=h.mem_iff.mpr (by simp)
    have h3:x∈B:=by rcases List.mem_cons.mp h1 with h | h;exact absurd h hxy;exact h
    have h4:y∈A:=by rcases List.mem_cons.mp h2 with h | h;exact absurd h.symm hxy;exact h
    exact has _ _ ((srt_cons.mp ha).1 y h4) ((srt_cons.mp hb).1 x h3)
/-- Blocks of one size, each sorted, the last one perhaps shorter. -/
inductive Bk (K:α→Int) (r:α→α→Prop) (n:Nat):List α→List α→Prop
 | last (o c:List α):c.length≤n→c.Perm o→Srt K r c→Bk K r n o c
 | cons (o1 c1 o2 c2:List α):c1.length=n→c1.Perm o1→Srt K r c1→Bk K r n o2 c2→Bk K r n (o1++o2) (c1++c2)
theorem Bk.two {n:Nat} {o c:List α} (h:Bk K r n o c) (hn:0 < n) (hc:2 * n≤c.length) :
  ∃ o1 o2 o3 c1 c2 c3,o=o1++(o2++o3)∧c=c1++(c2++c3)∧c1.length=n∧c2.length=n∧c1.Perm o1∧c2.Perm o2∧Srt K r c1∧Srt K r c2∧Bk K r n o3 c3:=by
 cases h with
 | last _ _ h1 h2 h3=>omega
 | cons o1 c1 o2 c2 h1 h2 h3 h4 =>
  cases h4 with
  | last _ _ g1 g2 g3 =>
   simp at hc
   exact ⟨o1,o2,[],c1,c2,[],by simp,by simp,h1,by omega,h2,g2,h3,g3,.last _ _ (by simp) (by simp) srt_nil⟩
  | cons p1 d1 p2 d2 g1 g2 g3 g4=>exact ⟨o1,p1,p2,c1,d1,d2,rfl,rfl,h1,g1,h2,g2,h3,g3,g4⟩
theorem Bk.few {n:Nat} {o c:List α} (h:Bk K r n o c) (hn:0 < n) (hc:c.length < 2 * n) :
  (c.length≤n∧c.Perm o∧Srt K r c)∨∃ o1 o2 c1 c2,o=o1++o2∧c=c1++c2∧c1.length=n∧0 < c2.length∧c2.length≤n∧c1.Perm o1∧c2.Perm o2∧Srt K r c1∧Srt K r c2:=by
 cases h with
 | last _ _ h1 h2 h3=>exact .inl ⟨h1,h2,h3⟩
 | cons o1 c1 o2 c2 h1 h2 h3 h4 =>
  cases h4 with
  | last _ _ g1 g2 g3 =>
   rcases Nat.eq_zero_or_pos c2.length with h0 | h0
   ·have:c2=[]:=List.length_eq_zero_iff.mp h0
    subst this
    have:o2=[]:=by simpa using g2.symm
    subst this
    exact .inl ⟨by simp;omega,by simpa using h2,by simpa using h3⟩
   ·exact .inr ⟨o1,o2,c1,c2,rfl,rfl,h1,h0,g1,h2,g2,h3,g3⟩
  | cons p1 d1 p2 d2 g1 g2 g3 g4=>simp at hc;omega
theorem Bk.all {n:Nat} {o c:List α} (h:Bk K r n o c) (hn:0 < n) (hc:c.length≤n):c.Perm o∧Srt K r c:=by
 rcases h.few hn (by omega) with h | ⟨o1,o2,c1,c2,h1,h2,h3,h4,_⟩
 ·exact h.2
 ·subst h2;simp at hc;omega
end Gp
end
section
/- Plain law: the library's stable sort, its insertion, exchange and rotation. -/
namespace Gp
open Go Go.Kx Gx
variable {K:Int→Int} {r:Int→Int→Prop} {V:Int→Prop} {g:T4}
end Gp
end
section
/- Plain law: the library's stable sort, its merge. -/
namespace Gp
open Go Go.Kx Gx
variable {K:Int→Int} {r:Int→Int→Prop} {V:Int→Prop} {g:T4}
end Gp
end
section
/- Plain law: the library's stable sort. -/
namespace Gp
open Go Go.Kx Gx
variable {K:Int→Int} {r:Int→Int→Prop} {V:Int→Prop} {g:T4}
end Gp
end
section
/- Plain law: the library's stable sort, block by block. -/
namespace Gp
open Go Go.Kx Gx
variable {K:Int→Int} {r:Int→Int→Prop} {V:Int→Prop} {g:T4}
end Gp
end
section
/- Plain law: searches in lists and the equality of automata. -/
namespace Gp
open Go Go.Kx Gx
/-- Whether two lists agree place by place. -/
def alleq {α:Type} (f:α→α→Bool):List α→List α→Bool
 | [],[]=>true
 | x::l,y::m=>f x y && alleq f l m
 | _,_=>false
theorem alleq_len {α:Type} (f:α→α→Bool):∀ (l m:List α),l.length≠m.length→alleq f l m=false
 | [],[],h=>absurd rfl h
 | [],_::_,_=>rfl
 | _::_,[],_=>rfl
 | x::l,y::m,h=>by
  show (f x y && alleq f l m)=false
  rw [alleq_len f l m (by simpa using h)];simp
theorem alleq_refl {α:Type} (f:α→α→Bool) (hf:∀ x,f x x=true):∀ (l:List α),alleq f l l=true
 | []=>rfl
 | x::l=>by show (f x x && alleq f l l)=true;rw [hf,alleq_refl f hf l];rfl
theorem eq_loop_at {α:Type} (f:α→α→Bool) (xs ys:List α) (hl:xs.length=ys.length) (hs:xs.length≤4194304)
  (F:Nat→Int→Option Bool) (e:Option Bool)
  (h1:∀ n k x y,k < xs.length→xs[k]? = some x→ys[k]? = some y→F (n+1) (k:Int)=bif !(f x y) then some false else F n ((k+1:Nat):Int))
  (h2:∀ n k,xs.length≤k→F (n+1) (k:Int)=e) :
  ∀ (l m:List α) (k n:Nat),xs.drop k=l→ys.drop k=m→l.length < n→F n (k:Int)=bif alleq f l m then e else some false:=by
 intro l
 induction l with
 | nil =>
  intro m k n h hm hn
  obtain ⟨n,rfl⟩:∃ m,n=m+1:=⟨n-1,by simp at hn;omega⟩
  have hk:=drop_nil h
  have:m=[]:=by rw [← hm];exact List.drop_eq_nil_of_le (by omega)
  subst this
  exact h2 n k hk
 | cons x l ih =>
  intro m k n h hm hn
  obtain ⟨n,rfl⟩:∃ m,n=m+1:=⟨n-1,by simp at hn;omega⟩
  obtain ⟨a,c,d⟩:=drop_cons h
  cases m with
  | nil=>have:=drop_nil hm;omega
  | cons y m =>
   obtain ⟨a',c',d'⟩:=drop_cons hm
   rw [h1 n k x y a c c',ih m (k+1) n d d' (by simp at hn;omega)]
   show _=bif (f x y && alleq f l m) then e else some false
   cases f x y<;>rfl
theorem eq_loop {α:Type} (f:α→α→Bool) (xs ys:List α) (hl:xs.length=ys.length) (hs:xs.length≤4194304)
  (F:Nat→Int→Option Bool) (e:Option Bool) {n:Nat} (hn:4194304 < n)
  (h:∀ n k,F (n+1) k=bif decide (k < (xs.length:Int)) then ((idx xs k).bind fun x=>(idx ys k).bind fun y=>bif !(f x y) then some false else F n (w64 (k+1))) else e) :
  F n (0:Int)=bif alleq f xs ys then e else some false:=by
 refine eq_loop_at f xs ys hl hs F e ?_ ?_ xs ys 0 n rfl rfl (by omega)
 ·intro n k x y hk hx hy
  rw [h,lt_t hk,idx_nat,idx_nat,hx,hy]
  simp only [cond_true,Option.bind_some]
  rw [w64_succ (by omega)]
 ·intro n k hk
  rw [h,lt_f hk];rfl
theorem eq_all {α:Type} (f:α→α→Bool) (xs ys:List α) (hs:xs.length≤4194304)
  (F:Nat→Int→Option Bool) {n:Nat} (hn:4194304 < n)
  (h:∀ n k,F (n+1) k=bif decide (k < (xs.length:Int)) then ((idx xs k).bind fun x=>(idx ys k).bind fun y=>bif !(f x y) then some false else F n (w64 (k+1))) else some true) :
  (bif ((xs.length:Int) != (ys.length:Int)) then (some false) else F n (0:Int))=some (alleq f xs ys):=by
 by_cases hl:xs.length=ys.length
 ·have:((xs.length:Int) != (ys.length:Int))=false:=by simp [hl]
  rw [this,cond_false,eq_loop f xs ys hl hs F (some true) hn h]
  cases alleq f xs ys<;>rfl
 ·have:((xs.length:Int) != (ys.length:Int))=true:=by simp;omega
  rw [this,alleq_len f xs ys hl];rfl
/-- A loop that looks at one element after another. -/
theorem look {α γ:Type} (xs:List α) (hs:xs.length≤4194304) (b:α→Int→γ→γ) (F:Nat→Int→γ) (e:γ) {n:Nat} (hn:4194304 < n)
  (h1:∀ n k x,k < xs.length→xs[k]? = some x→F (n+1) (k:Int)=b x k (F n (w64 ((k:Int)+1))))
  (h2:∀ n k,xs.length≤k→F (n+1) (k:Int)=e):F n (0:Int)=lv (fun x (k:Nat) r=>b x (k:Int) r) e xs 0 :=
 lv_from (by omega) rfl (fun n k x hk hx=>by rw [h1 n k x hk hx,w64_succ (by omega)]) h2
def eqEdge (a b:T2):Bool:=(a.From==b.From) && (((a.Act.From==b.Act.From) && ((a.Act.To==b.Act.To) && ((a.Act.Label==b.Act.Label) && true))) && ((a.To==b.To) && ((a.Again==b.Again) && true)))
def eqTimeout (a b:T8):Bool:=(a.State==b.State) && ((a.Ticks==b.Ticks) && ((a.Else==b.Else) && true))
def eqField (a b:T3):Bool:=(a.Name.toList==b.Name.toList) && (((a.Sort'.Kind==b.Sort'.Kind) && ((a.Sort'.Lo==b.Sort'.Lo) && ((a.Sort'.Hi==b.Sort'.Hi) && true))) && true)
def eqDiff (a b:T1):Bool:=(a.X==b.X) && ((a.Y==b.Y) && ((a.C==b.C) && true))
def eqPair (a b:Int × Int):Bool:=(a.1==b.1) && ((a.2==b.2) && true)
def eqStr (a b:ByteArray):Bool:=a.toList==b.toList
def eqDecl (a b:T0):Bool:=eqStr a.Name b.Name && (a.First==b.First && (alleq eqField a.Fields b.Fields && (alleq eqDiff a.Guard.Diffs b.Guard.Diffs && alleq eqPair a.Guard.Equals b.Guard.Equals)))
def eqGlobal (a b:T4):Bool:=eqStr a.Name b.Name && (alleq eqStr a.Roles b.Roles && (alleq eqDecl a.Decls b.Decls && (a.States==b.States && (a.Start==b.Start && (a.End==b.End && (alleq eqEdge a.Edges b.Edges && alleq eqTimeout a.Timeouts b.Timeouts))))))
theorem eqStr_refl (a:ByteArray):eqStr a a=true:=by simp [eqStr]
theorem eqDecl_refl (a:T0):eqDecl a a=true:=by
 unfold eqDecl
 rw [eqStr_refl,alleq_refl _ (by simp [eqField]),alleq_refl _ (by simp [eqDiff]),alleq_refl _ (by simp [eqPair])];simp
theorem eqGlobal_refl (a:T4):eqGlobal a a=true:=by
 unfold eqGlobal
 rw [eqStr_refl,alleq_refl _ eqStr_refl,alleq_refl _ eqDecl_refl,alleq_refl _ (by simp [eqEdge]),alleq_refl _ (by simp [eqTimeout])];simp
/-- The sizes within which the loops end. -/
structure SizeD (x:T0):Prop where
 f:x.Fields.length≤4194304
 d:x.Guard.Diffs.length≤4194304
 e:x.Guard.Equals.length≤4194304
structure SizeG (g:T4):Prop where
 r:g.Roles.length≤4194304
 d:g.Decls.length≤4194304
 dd:∀ x∈g.Decls,SizeD x
 e:g.Edges.length≤4194304
 t:g.Timeouts.length≤4194304
variable {N:Nat} (hN:4194304 < N)
theorem mem_get {α:Type} {xs:List α} {k:Nat} {x:α} (h:xs[k]? = some x):x∈xs:=List.mem_of_getElem? h
include hN in
theorem refSame_eq (a b:List T0) (ha:a.length≤4194304) (hd:∀ d∈a,SizeD d):z79 N a b=some (alleq eqDecl a b):=by
 unfold z79
 by_cases hl:a.length=b.length
 ·have:((a.length:Int) != (b.length:Int))=false:=by simp [hl]
  rw [this,cond_false]
  have hx:=eq_loop_at eqDecl a b hl ha (z79_l2 N a b) (some true) (by
   intro n k x y hk hx hy
   have sz:=hd x (mem_get hx)
   simp only [z79_l2,lt_t hk,idx_nat,hx,hy,cond_true,Option.bind_some]
   unfold z128
   rw [eq_all eqDiff _ _ sz.d (z128_l2 x.Guard.Diffs y.Guard.Diffs) hN (fun n k=>rfl)]
   simp only [Option.bind_some]
   unfold eqDecl eqStr
   cases hA:(x.Name.toList==y.Name.toList)
   ·rfl
   by_cases hB:x.First=y.First
   ·rw [show (x.First==y.First)=true by simp [hB],show (x.First != y.First)=false by simp [hB]]
    by_cases hC:x.Fields.length=y.Fields.length
    ·rw [show ((x.Fields.length:Int) != (y.Fields.length:Int))=false by simp [hC]]
     cases hD:alleq eqDiff x.Guard.Diffs y.Guard.Diffs
     ·simp
     by_cases hE:x.Guard.Equals.length=y.Guard.Equals.length
     ·rw [show ((x.Guard.Equals.length:Int) != (y.Guard.Equals.length:Int))=false by simp [hE]]
      simp only [Bool.not_true,cond_false,Bool.true_and]
      rw [eq_loop eqField _ _ hC sz.f (z79_l6 N k (z79_l2 N a b n) x y) (z79_k5 N k (z79_l2 N a b n) x y) hN (fun n k=>rfl)]
      unfold z79_k5
      rw [eq_loop eqPair _ _ hE sz.e (z79_l4 k (z79_l2 N a b n) x y) (z79_k3 k (z79_l2 N a b n)) hN (fun n k=>rfl)]
      unfold z79_k3
      rw [w64_succ (by omega)]
      cases alleq eqField x.Fields y.Fields<;>cases alleq eqPair x.Guard.Equals y.Guard.Equals<;>rfl
     ·rw [show ((x.Guard.Equals.length:Int) != (y.Guard.Equals.length:Int))=true by simp;omega,alleq_len eqPair _ _ hE]
      simp
    ·rw [show ((x.Fields.length:Int) != (y.Fields.length:Int))=true by simp;omega,alleq_len eqField _ _ hC]
     simp
   ·rw [show (x.First==y.First)=false by simp [hB],show (x.First != y.First)=true by simp [hB]]
    simp) (by
   intro n k hk
   simp only [z79_l2,lt_f hk,cond_false];rfl) a b 0 N rfl rfl (by omega)
  rw [show (0:Int)=((0:Nat):Int) from rfl,hx]
  cases alleq eqDecl a b<;>rfl
 ·have:((a.length:Int) != (b.length:Int))=true:=by simp;omega
  rw [this,alleq_len eqDecl a b hl];rfl
include hN in
theorem refEqual_eq (a b:T4) (ha:SizeG a):z33 N a b=some (eqGlobal a b):=by
 unfold z33
 rw [refSame_eq hN _ _ ha.d ha.dd]
 simp only [Option.bind_some]
 unfold eqGlobal
 rw [show eqStr a.Name b.Name=(a.Name.toList==b.Name.toList) from rfl]
 cases hA:(a.Name.toList==b.Name.toList)
 ·rfl
 by_cases hR:a.Roles.length=b.Roles.length
 ·rw [show ((a.Roles.length:Int) != (b.Roles.length:Int))=false by simp [hR]]
  cases hB:alleq eqDecl a.Decls b.Decls
  ·simp
  by_cases h1:a.States=b.States
  ·by_cases h2:a.Start=b.Start
   ·by_cases h3:a.End=b.End
    ·rw [show (a.States==b.States)=true by simp [h1],show (a.States != b.States)=false by simp [h1],show (a.Start==b.Start)=true by simp [h2],show (a.Start != b.Start)=false by simp [h2],show (a.End==b.End)=true by simp [h3],show (a.End != b.End)=false by simp [h3]]
     by_cases hE:a.Edges.length=b.Edges.length
     ·rw [show ((a.Edges.length:Int) != (b.Edges.length:Int))=false by simp [hE]]
      by_cases hT:a.Timeouts.length=b.Timeouts.length
      ·rw [show ((a.Timeouts.length:Int) != (b.Timeouts.length:Int))=false by simp [hT]]
       simp only [Bool.not_true,cond_false,Bool.true_and]
       rw [eq_loop eqStr _ _ hR ha.r (z33_l6 N a b) (z33_k5 N a b) hN (fun n k=>rfl)]
       unfold z33_k5
       rw [eq_loop eqEdge _ _ hE ha.e (z33_l4 N a b) (z33_k3 N a b) hN (fun n k=>rfl)]
       unfold z33_k3
       rw [eq_loop eqTimeout _ _ hT ha.t (z33_l2 a b) (z33_k1) hN (fun n k=>rfl)]
       cases alleq eqStr a.Roles b.Roles<;>cases alleq eqEdge a.Edges b.Edges<;>cases alleq eqTimeout a.Timeouts b.Timeouts<;>rfl
      ·rw [show ((a.Timeouts.length:Int) != (b.Timeouts.length:Int))=true by simp;omega,alleq_len eqTimeout _ _ hT]
       simp
     ·rw [show ((a.Edges.length:Int) != (b.Edges.length:Int))=true by simp;omega,alleq_len eqEdge _ _ hE]
      simp
    ·rw [show (a.End==b.End)=false by simp [h3],show (a.End != b.End)=true by simp [h3]]
     cases (a.States != b.States)<;>cases (a.Start != b.Start)<;>simp
   ·rw [show (a.Start==b.Start)=false by simp [h2],show (a.Start != b.Start)=true by simp [h2]]
    cases (a.States != b.States)<;>simp
  ·rw [show (a.States==b.States)=false by simp [h1],show (a.States != b.States)=true by simp [h1]]
   simp
 ·rw [show ((a.Roles.length:Int) != (b.Roles.length:Int))=true by simp;omega,alleq_len eqStr _ _ hR]
  simp
end Gp
end
section
/- Plain law: whether an automaton is small, the next state, and the places of names. -/
namespace Gp
open Go Go.Kx Gx
variable {N:Nat} (hN:4194304 < N)
/-- The first place of an element, plainly. -/
def whereV {α:Type} (f:α→Bool) (l:List α):Option Int:=lv (fun x (k:Nat) r=>bif f x then some (k:Int) else r) (some (-1)) l 0
theorem bcomm (a b:ByteArray):(a.toList==b.toList)=(b.toList==a.toList):=by
 rw [Bool.eq_iff_iff,beq_iff_eq,beq_iff_eq];exact ⟨Eq.symm,Eq.symm⟩
include hN in
theorem Index_eq (l:List ByteArray) (hl:l.length≤4194304) (v:ByteArray):z75 N l v=whereV (fun x=>eqStr x v) l:=by
 unfold z75 whereV
 refine look l hl (fun x k r=>bif eqStr x v then some k else r) (z75_l2 l v) _ hN ?_ ?_
 ·intro n k x hk hx
  simp only [z75_l2,lt_t hk,idx_nat,hx,cond_true,Option.bind_some,eqStr,bcomm v x]
 ·intro n k hk
  simp only [z75_l2,lt_f hk,cond_false,z75_k1]
include hN in
theorem refIndex_eq (l:List ByteArray) (hl:l.length≤4194304) (v:ByteArray):z76 N l v=whereV (fun x=>eqStr x v) l:=by
 unfold z76 whereV
 refine look l hl (fun x k r=>bif eqStr x v then some k else r) (z76_l2 l v) _ hN ?_ ?_
 ·intro n k x hk hx
  simp only [z76_l2,lt_t hk,idx_nat,hx,cond_true,Option.bind_some,eqStr]
 ·intro n k hk
  simp only [z76_l2,lt_f hk,cond_false,z76_k1]
end Gp
end
section
/- Plain law: the edges of a state, by receiver and message. -/
namespace Gp
open Go Go.Kx Gx
/-- A number as the machine holds it. -/
def I64 (n:Int):Prop:=-9223372036854775808≤n∧n≤9223372036854775807
def ekey (e:T2):Int:=e.Act.To * 1180591620717411303424+e.Act.Label
def key (g:T4) (x:Int):Int:=match g.Edges[x.toNat]? with | some e=>ekey e | none=>0
def Vx (g:T4) (x:Int):Prop:=0≤x∧x < (g.Edges.length:Int)
def NumE (g:T4):Prop:=∀ e∈g.Edges,I64 e.Act.To∧I64 e.Act.Label
theorem Vx.get {g:T4} {x:Int} (h:Vx g x):∃ e,idx g.Edges x=some e∧key g x=ekey e∧e∈g.Edges:=by
 obtain ⟨h0,h1⟩:=h
 obtain ⟨k,rfl⟩:∃ k:Nat,x=(k:Int):=⟨x.toNat,by omega⟩
 have hk:k < g.Edges.length:=by omega
 refine ⟨g.Edges[k],by rw [idx_nat,List.getElem?_eq_getElem hk],?_,List.getElem_mem hk⟩
 unfold key
 rw [show (k:Int).toNat=k by simp,List.getElem?_eq_getElem hk]
/-- The places of a state's edges, in the order of the list. -/
def placesOf (g:T4) (s:Int):List T2→Nat→List Int
 | [],_=>[]
 | x::l,k=>if x.From=s then (k:Int)::placesOf g s l (k+1) else placesOf g s l (k+1)
theorem placesOf_len (g:T4) (s:Int):∀ (l:List T2) (k:Nat),(placesOf g s l k).length≤l.length
 | [],k=>by simp [placesOf]
 | x::l,k=>by
  unfold placesOf
  have:=placesOf_len g s l (k+1)
  split<;>simp<;>omega
/-- The edges of a state in their order: what both answer. -/
def EdgesAre (g:T4) (s:Int) (L:List Int):Prop:=L.Perm (placesOf g s g.Edges 0)∧Srt (key g) (· < ·) L
/-- Ahead, as the reference answers it. -/
theorem before_eq {N:Nat} (g:T4) (hn:NumE g) (x y:Int) (hx:Vx g x) (hy:Vx g y):∃ b,z74 N g x y=some b∧(b=true↔Lt (key g) (· < ·) x y):=by
  obtain ⟨e,e1,e2,e3⟩:=hx.get
  obtain ⟨f,f1,f2,f3⟩:=hy.get
  obtain ⟨⟨a1,a2⟩,a3,a4⟩:=hn e e3
  obtain ⟨⟨b1,b2⟩,b3,b4⟩:=hn f f3
  unfold z74
  rw [e1,f1]
  simp only [Option.bind_some]
  unfold Lt
  rw [e2,f2]
  unfold ekey
  by_cases c1:e.Act.To=f.Act.To
  · rw [show (e.Act.To != f.Act.To)=false by simp [c1],cond_false]
    by_cases c2:e.Act.Label=f.Act.Label
    · rw [show (e.Act.Label != f.Act.Label)=false by simp [c2],cond_false]
      exact ⟨_,rfl,by rw [decide_eq_true_iff];omega⟩
    · rw [show (e.Act.Label != f.Act.Label)=true by simp [c2],cond_true]
      exact ⟨_,rfl,by rw [decide_eq_true_iff];omega⟩
  · rw [show (e.Act.To != f.Act.To)=true by simp [c1],cond_true]
    exact ⟨_,rfl,by rw [decide_eq_true_iff];omega⟩
theorem lt_as {g:T4} (x y:Int) (h:Lt (key g) (· < ·) x y):¬ Lt (key g) (· < ·) y x:=by
  unfold Lt at *;omega
theorem lt_tr {g:T4} {x y z:Int} (h:Lt (key g) (· < ·) x y) (h':Lt (key g) (· < ·) y z):Lt (key g) (· < ·) x z:=by
  unfold Lt at *;omega
theorem lt_tot {g:T4} {x y:Int} (h:¬ Lt (key g) (· < ·) x y) (hne:x≠y):Lt (key g) (· < ·) y x:=by
  unfold Lt at *;omega
theorem EdgesAre.uniq {g:T4} {s:Int} {A B:List Int} (ha:EdgesAre g s A) (hb:EdgesAre g s B):A=B :=
 srt_uniq lt_as A B (ha.1.trans hb.1.symm) ha.2 hb.2
/-- The search for the place of one more edge. -/
theorem refEdges_in {N:Nat} (g:T4) (hn:NumE g) (acc:List Int) (hacc:∀ y∈acc,Vx g y) (hal:acc.length≤4194304) (v:Int) (hv:Vx g v) (ag:List Int→Int→Option (List Int)) :
    ∀ (n:Nat) (A B:List Int) (j:Int),B.length < n→acc=A++B→j=(A.length:Int)→(∀ y∈A,Lt (key g) (· < ·) y v) →
    ∃ A B,acc=A++B∧(∀ y∈A,Lt (key g) (· < ·) y v)∧(∀ y C,B=y::C→¬ Lt (key g) (· < ·) y v)∧z28_l4 N g acc v ag n j=z28_k3 acc v ag (A.length:Int):=by
  intro n
  induction n with
  | zero=>intro A B j h;omega
  | succ n ih =>
    intro A B j hn' he hj hA
    cases B with
    | nil =>
      have hd:decide (j < (acc.length:Int))=false:=by rw [he];simp;omega
      refine ⟨A,[],he,hA,by simp,?_⟩
      simp only [z28_l4,hd,cond_false]
      rw [hj]
    | cons y B =>
      have hd:decide (j < (acc.length:Int))=true:=by rw [he];simp;omega
      have e1:idx acc j=some y:=idx_mid he hj
      obtain ⟨b,b1,b2⟩:=before_eq (N:=N) g hn y v (hacc y (by rw [he];simp)) hv
      cases b with
      | true =>
        have hl:acc.length=A.length+(B.length+1):=by rw [he];simp
        obtain ⟨A',B',p1,p2,p3,p4⟩:=ih (A++[y]) B (w64 (j+1)) (by simp at hn';omega) (by rw [he];simp) (by rw [hj,w64_succ (by omega)];simp)
          (by
            intro z hz
            rcases List.mem_append.mp hz with hz | hz
            · exact hA z hz
            · simp at hz;subst hz;exact b2.mp rfl)
        refine ⟨A',B',p1,p2,p3,?_⟩
        simp only [z28_l4,hd,cond_true,e1,Option.bind_some,b1]
        exact p4
      | false =>
        refine ⟨A,y::B,he,hA,?_,?_⟩
        · intro z C hz
          have:=(List.cons.inj hz).1
          subst this
          intro h
          have:=b2.mpr h
          cases this
        · simp only [z28_l4,hd,cond_true,e1,Option.bind_some,b1,cond_false]
          rw [hj]
end Gp
end
section
/- Plain law: both answer the same edges of a state. -/
namespace Gp
open Go Go.Kx Gx
theorem lsl_to {α:Type} {L A B:List α} {i:Int} (hL:L=A++B) (hi:i=(A.length:Int)):lsl L none (some i)=some A:=by
 subst hL hi
 have h:decide ((A.length:Int)≤((A++B).length:Int))=true:=by simp;omega
 have h2:decide ((0:Int)≤(A.length:Int))=true:=by simp
 unfold lsl bnd
 simp only [Option.getD_some,Option.getD_none,h,h2]
 simp
theorem lsl_from {α:Type} {L A B:List α} {i:Int} (hL:L=A++B) (hi:i=(A.length:Int)):lsl L (some i) none=some B:=by
 subst hL hi
 have h:decide ((A.length:Int)≤((A++B).length:Int))=true:=by simp;omega
 have h2:decide ((0:Int)≤(A.length:Int))=true:=by simp
 unfold lsl bnd
 simp only [Option.getD_some,Option.getD_none,h,h2,Int.le_refl,decide_true,Bool.and_self,cond_true,Option.map_some,Int.toNat_natCast,List.take_length]
 simp
theorem refEdges_loop {N:Nat} (g:T4) (s:Int) (hn:NumE g) (hg:g.Edges.length≤4194304) (hN:4194304 < N) :
    ∀ (l:List T2) (k n:Nat) (acc pre:List Int),g.Edges.drop k=l→l.length < n→placesOf g s g.Edges 0=pre++placesOf g s l k→(∀ y∈pre,0≤y∧y < (k:Int))→acc.Perm pre→Srt (key g) (· < ·) acc →
    ∃ L,EdgesAre g s L∧z28_l2 N g s n acc (k:Int)=some L:=by
  intro l
  induction l with
  | nil =>
    intro k n acc pre h hn' he hp hperm hs
    obtain ⟨n,rfl⟩:∃ m,n=m+1:=⟨n-1,by simp at hn';omega⟩
    refine ⟨acc,⟨by rw [he];simpa [placesOf] using hperm,hs⟩,?_⟩
    simp only [z28_l2,lt_f (drop_nil h),cond_false,z28_k1]
  | cons x l ih =>
    intro k n acc pre h hn' he hp hperm hs
    obtain ⟨n,rfl⟩:∃ m,n=m+1:=⟨n-1,by simp at hn';omega⟩
    obtain ⟨a,c,d⟩:=drop_cons h
    simp only [List.length_cons] at hn'
    have e0:placesOf g s (x::l) k=if x.From=s then (k:Int)::placesOf g s l (k+1) else placesOf g s l (k+1):=rfl
    rw [e0] at he
    by_cases hf:x.From=s
    · rw [if_pos hf] at he
      have hpl:pre.length≤g.Edges.length:=by
        have h1:=placesOf_len g s g.Edges 0
        have h2:=congrArg List.length he
        simp at h2;omega
      have hal:acc.length≤g.Edges.length:=by rw [hperm.length_eq];exact hpl
      have hk:Vx g (k:Int):=⟨by omega,by omega⟩
      obtain ⟨A,B,p1,p2,p3,p4⟩:=refEdges_in (N:=N) g hn acc (fun y hy=>by have:=hp y (hperm.mem_iff.mp hy);exact ⟨by omega,by omega⟩) (by omega) (k:Int) hk (z28_l2 N g s n) N [] acc (0:Int) (by omega) rfl (by simp) (by simp)
      have hl:acc.length=A.length+B.length:=by rw [p1];simp
      have hB:∀ y∈B,Lt (key g) (· < ·) (k:Int) y:=by
        cases B with
        | nil=>simp
        | cons z B =>
          have hz:z∈pre:=hperm.mem_iff.mp (by rw [p1];simp)
          have hzk:=hp z hz
          have h1:Lt (key g) (· < ·) (k:Int) z:=lt_tot (p3 z B rfl) (by omega)
          intro y hy
          rcases List.mem_cons.mp hy with hy | hy
          · subst hy;exact h1
          · rw [p1] at hs
            exact lt_tr h1 ((srt_cons.mp (srt_app.mp hs).2.1).1 y hy)
      have hs':Srt (key g) (· < ·) (A++(k:Int)::B):=by
        rw [p1] at hs
        obtain ⟨s1,s2,s3⟩:=srt_app.mp hs
        refine srt_app.mpr ⟨s1,srt_cons.mpr ⟨hB,s2⟩,?_⟩
        intro y hy z hz
        rcases List.mem_cons.mp hz with hz | hz
        · subst hz;exact p2 y hy
        · exact s3 y hy z hz
      have hperm':(A++(k:Int)::B).Perm (pre++[(k:Int)]):=by
        refine List.perm_middle.trans ?_
        rw [p1] at hperm
        exact (List.Perm.cons _ hperm).trans (List.perm_append_singleton _ pre).symm
      obtain ⟨L,q1,q2⟩:=ih (k+1) n (A++(k:Int)::B) (pre++[(k:Int)]) d (by omega) (by rw [he];simp)
        (by
          intro y hy
          rcases List.mem_append.mp hy with hy | hy
          · have:=hp y hy;omega
          · simp at hy;omega) hperm' hs'
      refine ⟨L,q1,?_⟩
      simp only [z28_l2,lt_t a,cond_true,idx_nat,c,Option.bind_some,show (x.From != s)=false by simp [hf],cond_false,p4,z28_k3]
      rw [lsl_to p1 rfl,lsl_from p1 rfl]
      simp only [Option.bind_some]
      rw [appL_some (by simp;omega)]
      simp only [Option.bind_some]
      rw [appL_some (by simp;omega)]
      simp only [Option.bind_some]
      rw [w64_succ (by omega)]
      exact q2
    · rw [if_neg hf] at he
      obtain ⟨L,q1,q2⟩:=ih (k+1) n acc pre d (by omega) he (fun y hy=>by have:=hp y hy;omega) hperm hs
      refine ⟨L,q1,?_⟩
      simp only [z28_l2,lt_t a,cond_true,idx_nat,c,Option.bind_some,show (x.From != s)=true by simp [hf]]
      rw [w64_succ (by omega)]
      exact q2
theorem refEdges_eq {N:Nat} (hN:4194304 < N) (g:T4) (hg:g.Edges.length≤4194304) (hn:NumE g) (s:Int):∃ L,EdgesAre g s L∧z28 N g s=some L:=by
 unfold z28
 exact refEdges_loop g s hn hg hN g.Edges 0 N [] [] rfl (by omega) (by simp) (by simp) (.refl _) srt_nil
end Gp
end
section
/- Plain law: names and words, as both sides read them. -/
namespace Gp
open Go Go.Kx Gx
/-- Whether all elements, with their places, fulfil a test. -/
def allV {α:Type} (p:α→Nat→Bool):List α→Nat→Bool
 | [],_=>true
 | x::l,k=>p x k && allV p l (k+1)
theorem allV_of {α:Type} (p:α→Nat→Bool) (xs:List α) (F:Nat→Int→Option Bool) (e:Option Bool)
  (h1:∀ n k x,k < xs.length→xs[k]? = some x→F (n+1) (k:Int)=bif p x k then F n ((k+1:Nat):Int) else some false)
  (h2:∀ n k,xs.length≤k→F (n+1) (k:Int)=e) :
  ∀ (l:List α) (k n:Nat),xs.drop k=l→l.length < n→F n (k:Int)=bif allV p l k then e else some false:=by
 intro l
 induction l with
 | nil =>
  intro k n h hn
  obtain ⟨n,rfl⟩:∃ m,n=m+1:=⟨n-1,by simp at hn;omega⟩
  exact h2 n k (drop_nil h)
 | cons x l ih =>
  intro k n h hn
  obtain ⟨n,rfl⟩:∃ m,n=m+1:=⟨n-1,by simp at hn;omega⟩
  obtain ⟨a,c,d⟩:=drop_cons h
  rw [h1 n k x a c,ih (k+1) n d (by simp at hn;omega)]
  show _=bif (p x k && allV p l (k+1)) then e else some false
  cases p x k<;>rfl
theorem allV_from {α:Type} (p:α→Nat→Bool) {xs:List α} {F:Nat→Int→Option Bool} {e:Option Bool} {n:Nat} (hn:xs.length < n)
  (h1:∀ n k x,k < xs.length→xs[k]? = some x→F (n+1) (k:Int)=bif p x k then F n ((k+1:Nat):Int) else some false)
  (h2:∀ n k,xs.length≤k→F (n+1) (k:Int)=e):F n (0:Int)=bif allV p xs 0 then e else some false :=
 allV_of p xs F e h1 h2 xs 0 n rfl hn
/-- Exactly the tests of all places. -/
theorem allV_iff {α:Type} (p:α→Nat→Bool):∀ (l:List α) (k:Nat),allV p l k=true↔∀ i x,l[i]? = some x→p x (k+i)=true
 | [],k=>by simp [allV]
 | x::l,k=>by
  show (p x k && allV p l (k+1))=true↔_
  rw [Bool.and_eq_true,allV_iff p l (k+1)]
  constructor
  ·rintro ⟨h0,h1⟩ i y hy
   cases i with
   | zero=>simp at hy;subst hy;exact h0
   | succ i=>have:=h1 i y (by simpa using hy);rw [show k+(i+1)=k+1+i by omega];exact this
  ·intro h
   exact ⟨by simpa using h 0 x (by simp),fun i y hy=>by rw [show k+1+i=k+(i+1) by omega];exact h (i+1) y (by simpa using hy)⟩
def bs (s:ByteArray):List UInt8:=s.data.toList
theorem size_bs (s:ByteArray):s.size=(bs s).length:=rfl
theorem slt_t {s:ByteArray} {k:Nat} (h:k < (bs s).length):decide ((k:Int) < (s.size:Int))=true:=lt_t h
theorem slt_f {s:ByteArray} {k:Nat} (h:(bs s).length≤k):decide ((k:Int) < (s.size:Int))=false:=lt_f h
theorem toList_bs (s:ByteArray):s.toList=bs s:=ByteArray.toList_eq s
theorem bs_inj {a b:ByteArray} (h:bs a=bs b):a=b:=by
 cases a with | mk a=>cases b with | mk b=>simpa [bs] using h
theorem sidx_bs (s:ByteArray) (k:Nat):sidx s (k:Int)=(bs s)[k]?.map (fun b=>(b.toNat:Int)):=by
 unfold sidx
 have h:decide (0≤(k:Int))=true:=by simp
 rw [h,cond_true]
 have e:s[(k:Int).toNat]? = (bs s)[k]? := by
  simp [getElem?_def,bs]
  split<;>simp_all
  rfl
 rw [e]
variable {N:Nat} (hN:4194304 < N)
/-- Letters and signs within names. -/
def letterV (c:Int):Bool:=(decide (97≤c) && decide (c≤122)) || (decide (65≤c) && decide (c≤90))
def innerV (c:Int):Bool:=letterV c || ((decide (48≤c) && decide (c≤57)) || c==95)
theorem letter_eq (N:Nat) (c:Int):z173 N c=some (letterV c):=by
 unfold z173 letterV
 cases decide (97≤c)<;>cases decide (c≤122)<;>cases decide (65≤c)<;>rfl
theorem refLetter_eq (N:Nat) (c:Int):z169 N c=some (letterV c):=letter_eq N c
theorem inner_eq (N:Nat) (c:Int):z174 N c=some (innerV c):=by
 unfold z174 innerV z186
 rw [letter_eq]
 simp only [Option.bind_some]
 cases letterV c
 ·cases decide (48≤c)<;>cases decide (c≤57)<;>rfl
 ·rfl
def isName (s:ByteArray):Bool :=
 match bs s with
 | []=>false
 | x::l=>letterV (x.toNat:Int) && (decide (l.length < 16) && allV (fun (c:UInt8) _=>innerV (c.toNat:Int)) (x::l) 0)
def keywords:List ByteArray:=[(str [97,103,97,105,110]),(str [97,110,100]),(str [97,115]),(str [97,116]),(str [99,97,108,108]),(str [99,104,111,105,99,101]),(str [101,108,115,101]),(str [102,114,111,109]),(str [105,102]),(str [105,110,116]),(str [108,101,110]),(str [108,111,111,112]),(str [109,101,115,115,97,103,101]),(str [111,102]),(str [111,102,102,101,114]),(str [111,110]),(str [111,114]),(str [112,97,114]),(str [112,108,97,121,115]),(str [112,114,111,116,111,99,111,108]),(str [115,101,114,118,105,99,101]),(str [116,101,120,116]),(str [116,105,109,101,115]),(str [116,111]),(str [118,97,114]),(str [119,104,101,114,101]),(str [119,104,105,108,101]),(str [119,105,116,104,105,110])]
def isWord (s:ByteArray):Bool:=isName s && !(keywords.any fun k=>eqStr k s)
include hN in
theorem nameL (s:ByteArray) (hs:s.size≤4194304):z157_l2 N s N (0:Int)=some (allV (fun (c:UInt8) _=>innerV (c.toNat:Int)) (bs s) 0):=by
 rw [size_bs] at hs
 rw [allV_from (xs:=bs s) (fun (c:UInt8) _=>innerV (c.toNat:Int)) (F:=z157_l2 N s) (e:=some true) (by omega)]
 ·cases allV (fun (c:UInt8) _=>innerV (c.toNat:Int)) (bs s) 0<;>rfl
 ·intro n k x hk hx
  simp only [z157_l2,slt_t hk,cond_true,sidx_bs,hx,Option.map_some,Option.bind_some,inner_eq,w64_succ (show k < 4611686018427387904 by omega)]
  cases innerV (x.toNat:Int)<;>rfl
 ·intro n k hk
  simp only [z157_l2,slt_f hk,cond_false,z157_k1]
theorem nameL_ref (s:ByteArray):∀ n k,z148_l2 N s n k=z157_l2 N s n k
 | 0,_=>rfl
 | n+1,k=>by
  simp only [z148_l2,z157_l2,nameL_ref s n]
  rfl
theorem bs_nil:bs (str [])=[]:=rfl
include hN in
theorem name_eq (s:ByteArray) (hs:s.size≤4194304):z157 N s=some (isName s)∧z148 N s=some (isName s):=by
 unfold z157 z148
 rw [nameL_ref,nameL hN s hs,toList_bs,toList_bs,bs_nil,size_bs,show sidx s (0:Int)=sidx s ((0:Nat):Int) from rfl,sidx_bs]
 unfold isName
 cases h:bs s with
 | nil=>exact ⟨rfl,rfl⟩
 | cons x l =>
  have e:(x::l==([]:List UInt8))=false:=rfl
  rw [e]
  simp only [cond_false,List.getElem?_cons_zero,Option.map_some,Option.bind_some,letter_eq,refLetter_eq]
  have d:decide (((x::l).length:Int) > 16) = !decide (l.length < 16):=by
   by_cases q:l.length < 16
   ·rw [decide_eq_true q];simp;omega
   ·rw [decide_eq_false q];simp;omega
  rw [d]
  cases letterV (x.toNat:Int)<;>cases decide (l.length < 16)<;>exact ⟨rfl,rfl⟩
/-- A search answers a place exactly if an element is found. -/
theorem whereV_any {α:Type} (f:α→Bool) (l:List α) (k:Nat):∃ i,lv (fun x (k:Nat) r=>bif f x then some (k:Int) else r) (some (-1)) l k=some i∧decide (i≥0)=l.any f:=by
 induction l generalizing k with
 | nil=>exact ⟨-1,rfl,rfl⟩
 | cons x l ih =>
  show ∃ i,(bif f x then some (k:Int) else lv _ _ l (k+1))=some i∧_
  rw [List.any_cons]
  cases f x
  ·exact ih (k+1)
  ·exact ⟨k,rfl,by simp⟩
include hN in
theorem contains_eq (l:List ByteArray) (hl:l.length≤4194304) (v:ByteArray):z121 N l v=some (l.any fun x=>eqStr x v):=by
 unfold z121
 rw [Index_eq hN l hl]
 obtain ⟨i,h1,h2⟩:=whereV_any (fun x=>eqStr x v) l 0
 unfold whereV
 rw [h1,Option.bind_some,h2]
include hN in
theorem refIn_eq (l:List ByteArray) (hl:l.length≤4194304) (v:ByteArray):z149 N l v=some (l.any fun x=>eqStr x v):=by
 unfold z149
 rw [look l hl (fun x k r=>bif eqStr x v then some true else r) (z149_l2 l v) (some false) hN]
 ·generalize (0:Nat)=k
  induction l generalizing k with
  | nil=>rfl
  | cons x l ih =>
   show (bif eqStr x v then some true else lv _ _ l (k+1))=_
   rw [List.any_cons,ih (by simp at hl;omega)]
   cases eqStr x v<;>rfl
 ·intro n k x hk hx
  simp only [z149_l2,lt_t hk,idx_nat,hx,cond_true,Option.bind_some,eqStr]
 ·intro n k hk
  simp only [z149_l2,lt_f hk,cond_false,z149_k1]
include hN in
theorem word_eq (s:ByteArray) (hs:s.size≤4194304):z120 N s=some (isWord s)∧z112 N s=some (isWord s):=by
 obtain ⟨h1,h2⟩:=name_eq hN s hs
 unfold z120 z112 z150
 rw [h1,h2]
 simp only [Option.bind_some]
 have c1:=contains_eq hN keywords (by decide) s
 have c2:=refIn_eq hN keywords (by decide) s
 unfold keywords at c1 c2
 rw [c1,c2]
 unfold isWord keywords
 simp only [Option.bind_some]
 cases isName s<;>exact ⟨rfl,rfl⟩
end Gp
end
section
/- Plain law: numbers, order and time limits, as both sides read them. -/
namespace Gp
open Go Go.Kx Gx
theorem minI_lt {a b n:Int}:minI a b < n↔a < n∨b < n:=by unfold minI;split<;>omega
theorem maxI_ge {a b n:Int}:maxI a b≥n↔a≥n∨b≥n:=by unfold maxI;split<;>omega
variable {N:Nat} (hN:4194304 < N)
/-- An edge whose numbers lie within their limits. -/
def okE (g:T4) (x:T2):Prop :=
 0≤x.From∧x.From < g.States∧0≤x.To∧x.To < g.States∧0≤x.Act.From∧x.Act.From < (g.Roles.length:Int)∧0≤x.Act.To∧x.Act.To < (g.Roles.length:Int)∧x.Act.From≠x.Act.To∧0≤x.Act.Label∧x.Act.Label < (g.Decls.length:Int)
instance (g:T4) (x:T2):Decidable (okE g x):=by unfold okE;infer_instance
def okH (g:T4):Prop :=
 1≤g.States∧g.States≤200∧0≤g.Start∧g.Start < g.States∧0≤g.End∧g.End < g.States∧g.Edges.length≤400
instance (g:T4):Decidable (okH g):=by unfold okH;infer_instance
/-- All numbers of states and edges lie within their limits. -/
def numV (g:T4):Bool:=decide (okH g) && allV (fun x _=>decide (okE g x)) g.Edges 0
include hN in
theorem numbered_eq (g:T4) (hg:g.Edges.length≤4194304):z62 N g=some (numV g):=by
 unfold z62
 rw [allV_from (fun x _=>decide (okE g x)) (xs:=g.Edges) (F:=z62_l2 g) (e:=some true) (by omega)]
 ·unfold numV
  by_cases c1:g.States < 1
  ·rw [decide_eq_true c1,decide_eq_false (show ¬ okH g by unfold okH;omega)];rfl
  by_cases c2:g.States > 200
  ·rw [decide_eq_false c1,decide_eq_true c2,decide_eq_false (show ¬ okH g by unfold okH;omega)];rfl
  by_cases c3:minI g.Start g.End < 0
  ·rw [decide_eq_false c1,decide_eq_false c2,decide_eq_true c3,decide_eq_false (show ¬ okH g by rw [minI_lt] at c3;unfold okH;omega)];rfl
  by_cases c4:maxI g.Start g.End≥g.States
  ·rw [decide_eq_false c1,decide_eq_false c2,decide_eq_false c3,decide_eq_true c4,decide_eq_false (show ¬ okH g by rw [maxI_ge] at c4;unfold okH;omega)];rfl
  by_cases c5:(g.Edges.length:Int) > 400
  ·rw [decide_eq_false c1,decide_eq_false c2,decide_eq_false c3,decide_eq_false c4,decide_eq_true c5,decide_eq_false (show ¬ okH g by unfold okH;omega)];rfl
  rw [decide_eq_false c1,decide_eq_false c2,decide_eq_false c3,decide_eq_false c4,decide_eq_false c5,decide_eq_true (show okH g by rw [minI_lt] at c3;rw [maxI_ge] at c4;unfold okH;omega)]
  cases allV (fun x _=>decide (okE g x)) g.Edges 0<;>rfl
 ·intro n k x hk hx
  simp only [z62_l2,lt_t hk,idx_nat,hx,cond_true,Option.bind_some,w64_succ (show k < 4611686018427387904 by omega)]
  by_cases c1:minI (minI (minI (minI x.From x.To) x.Act.From) x.Act.To) x.Act.Label < 0
  ·rw [decide_eq_true c1,decide_eq_false (show ¬ okE g x by rw [minI_lt,minI_lt,minI_lt,minI_lt] at c1;unfold okE;omega)];rfl
  by_cases c2:maxI x.From x.To≥g.States
  ·rw [decide_eq_false c1,decide_eq_true c2,decide_eq_false (show ¬ okE g x by rw [maxI_ge] at c2;unfold okE;omega)];rfl
  by_cases c3:maxI x.Act.From x.Act.To≥(g.Roles.length:Int)
  ·rw [decide_eq_false c1,decide_eq_false c2,decide_eq_true c3,decide_eq_false (show ¬ okE g x by rw [maxI_ge] at c3;unfold okE;omega)];rfl
  by_cases c4:x.Act.From=x.Act.To
  ·rw [decide_eq_false c1,decide_eq_false c2,decide_eq_false c3,show (x.Act.From==x.Act.To)=true by simp [c4],decide_eq_false (show ¬ okE g x by unfold okE;omega)];rfl
  by_cases c5:x.Act.Label≥(g.Decls.length:Int)
  ·rw [decide_eq_false c1,decide_eq_false c2,decide_eq_false c3,show (x.Act.From==x.Act.To)=false by simp [c4],decide_eq_true c5,decide_eq_false (show ¬ okE g x by unfold okE;omega)];rfl
  rw [decide_eq_false c1,decide_eq_false c2,decide_eq_false c3,show (x.Act.From==x.Act.To)=false by simp [c4],decide_eq_false c5,decide_eq_true (show okE g x by rw [minI_lt,minI_lt,minI_lt,minI_lt] at c1;rw [maxI_ge] at c2 c3;unfold okE;omega)]
  rfl
 ·intro n k hk
  simp only [z62_l2,lt_f hk,cond_false,z62_k1]
theorem refState_eq (N:Nat) (g:T4) (s:Int):z114 N g s=some (decide (0≤s∧s < g.States)):=by
 unfold z114
 by_cases c1:s≥0
 ·by_cases c2:s < g.States
  ·rw [decide_eq_true c1,decide_eq_true c2,decide_eq_true ⟨c1,c2⟩];rfl
  ·rw [decide_eq_true c1,decide_eq_false c2,decide_eq_false (show ¬ (0≤s∧s < g.States) by omega)];rfl
 ·rw [decide_eq_false c1,decide_eq_false (show ¬ (0≤s∧s < g.States) by omega)];rfl
include hN in
theorem numbers_eq (g:T4) (hg:g.Edges.length≤4194304):z52 N g=some (numV g):=by
 unfold z52
 rw [allV_from (fun x _=>decide (okE g x)) (xs:=g.Edges) (F:=z52_l2 N g) (e:=z52_k1 N g) (by omega)]
 ·unfold numV z52_k1
  rw [refState_eq,refState_eq]
  simp only [Option.bind_some]
  cases allV (fun x _=>decide (okE g x)) g.Edges 0
  ·simp
  by_cases c1:g.States≥1
  ·by_cases c2:g.States≤200
   ·by_cases c3:0≤g.Start∧g.Start < g.States
    ·by_cases c4:0≤g.End∧g.End < g.States
     ·by_cases c5:(g.Edges.length:Int)≤400
      ·rw [decide_eq_true c1,decide_eq_true c2,decide_eq_true c3,decide_eq_true c4,decide_eq_true c5,decide_eq_true (show okH g by unfold okH;omega)];rfl
      ·rw [decide_eq_true c1,decide_eq_true c2,decide_eq_true c3,decide_eq_true c4,decide_eq_false c5,decide_eq_false (show ¬ okH g by unfold okH;omega)];rfl
     ·rw [decide_eq_true c1,decide_eq_true c2,decide_eq_true c3,decide_eq_false c4,decide_eq_false (show ¬ okH g by unfold okH;omega)];rfl
    ·rw [decide_eq_true c1,decide_eq_true c2,decide_eq_false c3,decide_eq_false (show ¬ okH g by unfold okH;omega)];rfl
   ·rw [decide_eq_true c1,decide_eq_false c2,decide_eq_false (show ¬ okH g by unfold okH;omega)];rfl
  ·rw [decide_eq_false c1,decide_eq_false (show ¬ okH g by unfold okH;omega)];rfl
 ·intro n k x hk hx
  simp only [z52_l2,lt_t hk,idx_nat,hx,cond_true,Option.bind_some,w64_succ (show k < 4611686018427387904 by omega),refState_eq]
  by_cases c1:0≤x.From∧x.From < g.States
  ·by_cases c2:0≤x.To∧x.To < g.States
   ·by_cases c3:x.Act.From < 0
    ·rw [decide_eq_true c1,decide_eq_true c2,decide_eq_true c3,decide_eq_false (show ¬ okE g x by unfold okE;omega)];rfl
    by_cases c4:x.Act.From≥(g.Roles.length:Int)
    ·rw [decide_eq_true c1,decide_eq_true c2,decide_eq_false c3,decide_eq_true c4,decide_eq_false (show ¬ okE g x by unfold okE;omega)];rfl
    by_cases c5:x.Act.To < 0
    ·rw [decide_eq_true c1,decide_eq_true c2,decide_eq_false c3,decide_eq_false c4,decide_eq_true c5,decide_eq_false (show ¬ okE g x by unfold okE;omega)];rfl
    by_cases c6:x.Act.To≥(g.Roles.length:Int)
    ·rw [decide_eq_true c1,decide_eq_true c2,decide_eq_false c3,decide_eq_false c4,decide_eq_false c5,decide_eq_true c6,decide_eq_false (show ¬ okE g x by unfold okE;omega)];rfl
    by_cases c7:x.Act.From=x.Act.To
    ·rw [decide_eq_true c1,decide_eq_true c2,decide_eq_false c3,decide_eq_false c4,decide_eq_false c5,decide_eq_false c6,show (x.Act.From==x.Act.To)=true by simp [c7],decide_eq_false (show ¬ okE g x by unfold okE;omega)];rfl
    by_cases c8:x.Act.Label < 0
    ·rw [decide_eq_true c1,decide_eq_true c2,decide_eq_false c3,decide_eq_false c4,decide_eq_false c5,decide_eq_false c6,show (x.Act.From==x.Act.To)=false by simp [c7],decide_eq_true c8,decide_eq_false (show ¬ okE g x by unfold okE;omega)];rfl
    by_cases c9:x.Act.Label≥(g.Decls.length:Int)
    ·rw [decide_eq_true c1,decide_eq_true c2,decide_eq_false c3,decide_eq_false c4,decide_eq_false c5,decide_eq_false c6,show (x.Act.From==x.Act.To)=false by simp [c7],decide_eq_false c8,decide_eq_true c9,decide_eq_false (show ¬ okE g x by unfold okE;omega)];rfl
    rw [decide_eq_true c1,decide_eq_true c2,decide_eq_false c3,decide_eq_false c4,decide_eq_false c5,decide_eq_false c6,show (x.Act.From==x.Act.To)=false by simp [c7],decide_eq_false c8,decide_eq_false c9,decide_eq_true (show okE g x by unfold okE;omega)];rfl
   ·rw [decide_eq_true c1,decide_eq_false c2,decide_eq_false (show ¬ okE g x by unfold okE;omega)];rfl
  ·rw [decide_eq_false c1,decide_eq_false (show ¬ okE g x by unfold okE;omega)];rfl
 ·intro n k hk
  simp only [z52_l2,lt_f hk,cond_false]
/-- Two edges at different places that may stand beside one another. -/
def apartP (x y:T2) (same:Bool):Bool :=
 !((!same && (x.From==y.From && ((((x.Act.From==y.Act.From) && ((x.Act.To==y.Act.To) && ((x.Act.Label==y.Act.Label) && true)))) || (x.Act.From != y.Act.From || x.Again)))) || (x.Again && (y.To==x.From && (x.Act.From != y.Act.From || x.Act.Label != y.Act.Label))))
def apartE (g:T4) (x:T2) (k:Nat):Bool := !(x.Again && x.From==g.Start) && allV (fun y i=>apartP x y (decide (k=i))) g.Edges 0
def orderV (g:T4):Bool:=allV (fun x k => !(x.From==g.End) && apartE g x k) g.Edges 0
def apartV (g:T4):Bool:=allV (fun x k=>apartE g x k) g.Edges 0
theorem bne_nat (k i:Nat):((k:Int) != (i:Int)) = !decide (k=i):=by
 by_cases h:k=i
 ·subst h;simp
 ·rw [decide_eq_false h];simp;omega
include hN in
theorem ordered_eq (g:T4) (hg:g.Edges.length≤4194304):z64 N g=some (orderV g):=by
 unfold z64
 rw [allV_from (fun x k => !(x.From==g.End) && apartE g x k) (xs:=g.Edges) (F:=z64_l2 N g) (e:=some true) (by omega)]
 ·unfold orderV;cases allV _ g.Edges 0<;>rfl
 ·intro n k x hk hx
  have inner:z64_l4 g (k:Int) (z64_l2 N g n) x N (0:Int)=bif allV (fun y i=>apartP x y (decide (k=i))) g.Edges 0 then z64_k3 (k:Int) (z64_l2 N g n) else some false:=by
   refine allV_from (fun y i=>apartP x y (decide (k=i))) (by omega) ?_ ?_
   ·intro m i y hi hy
    simp only [z64_l4,lt_t hi,idx_nat,hy,cond_true,Option.bind_some,bne_nat,z64_k5,w64_succ (show i < 4611686018427387904 by omega),apartP]
    cases decide (k=i)<;>cases (x.From==y.From)<;>cases ((x.Act.From==y.Act.From) && ((x.Act.To==y.Act.To) && ((x.Act.Label==y.Act.Label) && true)))<;>cases (x.Act.From != y.Act.From)<;>cases x.Again<;>cases (y.To==x.From)<;>cases (x.Act.Label != y.Act.Label)<;>rfl
   ·intro m i hi
    simp only [z64_l4,lt_f hi,cond_false]
  simp only [z64_l2,lt_t hk,idx_nat,hx,cond_true,Option.bind_some,z64_k6,inner,z64_k3,w64_succ (show k < 4611686018427387904 by omega),apartE]
  cases (x.From==g.End)<;>cases x.Again<;>cases (x.From==g.Start)<;>cases allV (fun y i=>apartP x y (decide (k=i))) g.Edges 0<;>rfl
 ·intro n k hk
  simp only [z64_l2,lt_f hk,cond_false,z64_k1]
theorem ibne_comm (a b:Int):(a != b)=(b != a):=by
 by_cases h:a=b
 ·subst h;rfl
 ·rw [show (a != b)=true by simp [h],show (b != a)=true by simp [Ne.symm h]]
include hN in
theorem apart_eq (g:T4) (hg:g.Edges.length≤4194304):z53 N g=some (apartV g):=by
 unfold z53
 rw [allV_from (fun x k=>apartE g x k) (xs:=g.Edges) (F:=z53_l2 N g) (e:=some true) (by omega)]
 ·unfold apartV;cases allV _ g.Edges 0<;>rfl
 ·intro n k x hk hx
  have inner:z53_l4 g (k:Int) (z53_l2 N g n) x N (0:Int)=bif allV (fun y i=>apartP x y (decide (k=i))) g.Edges 0 then z53_k3 (k:Int) (z53_l2 N g n) else some false:=by
   refine allV_from (fun y i=>apartP x y (decide (k=i))) (by omega) ?_ ?_
   ·intro m i y hi hy
    simp only [z53_l4,lt_t hi,idx_nat,hy,cond_true,Option.bind_some,ibne_comm (i:Int) (k:Int),bne_nat,z53_k5,w64_succ (show i < 4611686018427387904 by omega),apartP,ibne_comm y.Act.From x.Act.From,ibne_comm y.Act.Label x.Act.Label]
    cases decide (k=i)<;>cases (x.From==y.From)<;>cases ((x.Act.From==y.Act.From) && ((x.Act.To==y.Act.To) && ((x.Act.Label==y.Act.Label) && true)))<;>cases (x.Act.From != y.Act.From)<;>cases x.Again<;>cases (y.To==x.From)<;>cases (x.Act.Label != y.Act.Label)<;>rfl
   ·intro m i hi
    simp only [z53_l4,lt_f hi,cond_false]
  simp only [z53_l2,lt_t hk,idx_nat,hx,cond_true,Option.bind_some,z53_k6,inner,z53_k3,w64_succ (show k < 4611686018427387904 by omega),apartE]
  cases x.Again<;>cases (x.From==g.Start)<;>cases allV (fun y i=>apartP x y (decide (k=i))) g.Edges 0<;>rfl
 ·intro n k hk
  simp only [z53_l2,lt_f hk,cond_false,z53_k1]
/-- Ordered is apart, and End without edges. -/
theorem orderV_eq (g:T4):orderV g=(apartV g && g.Edges.all fun x => !(x.From==g.End)):=by
 unfold orderV apartV
 suffices h:∀ (l:List T2) (k:Nat),allV (fun x k => !(x.From==g.End) && apartE g x k) l k=(allV (fun x k=>apartE g x k) l k && l.all fun x => !(x.From==g.End)) from h _ _
 intro l
 induction l with
 | nil=>intro k;rfl
 | cons x l ih =>
  intro k
  show ((!(x.From==g.End) && apartE g x k) && allV _ l (k+1))=((apartE g x k && allV _ l (k+1)) && _)
  rw [ih,List.all_cons]
  cases (x.From==g.End)<;>cases apartE g x k<;>simp
end Gp
end
section
/- Plain law: time limits, as both sides read them. -/
namespace Gp
open Go Go.Kx Gx
variable {N:Nat} (hN:4194304 < N)
def elseOk (g:T4) (x:T8):Bool:=match idx g.Edges x.Else with | some e=>e.From==x.State && !e.Again | none=>false
def okT (g:T4) (x:T8):Prop:=1≤x.Ticks∧x.Ticks≤1000∧0≤x.Else∧x.Else < (g.Edges.length:Int)∧elseOk g x=true
instance (g:T4) (x:T8):Decidable (okT g x):=by unfold okT;infer_instance
def lastV (g:T4):Nat→Int
 | 0=>-1
 | k+1=>match g.Timeouts[k]? with | some t=>t.State | none=>-1
def timeV (g:T4):Bool:=allV (fun x k=>decide (lastV g k < x.State∧okT g x)) g.Timeouts 0
theorem else_some {g:T4} {i:Int} (h0:0≤i) (h1:i < (g.Edges.length:Int)):∃ e,idx g.Edges i=some e∧e∈g.Edges:=by
 obtain ⟨e,h,_,hm⟩:=(show Vx g i from ⟨h0,h1⟩).get
 exact ⟨e,h,hm⟩
include hN in
theorem timed_eq (g:T4) (hg:g.Timeouts.length≤4194304):z65 N g=some (timeV g):=by
 unfold z65
 have h:=allV_from (fun x k=>decide (lastV g k < x.State∧okT g x)) (xs:=g.Timeouts) (F:=fun n i=>z65_l2 g n (lastV g i.toNat) i) (e:=some true) (n:=N) (by omega) (by
  intro n k x hk hx
  show z65_l2 g (n+1) (lastV g k) (k:Int)=bif decide (lastV g k < x.State∧okT g x) then z65_l2 g n (lastV g (k+1)) ((k+1:Nat):Int) else some false
  have hl:lastV g (k+1)=x.State:=by simp only [lastV,hx]
  rw [hl]
  simp only [z65_l2,lt_t hk,idx_nat,hx,cond_true,Option.bind_some,w64_succ (show k < 4611686018427387904 by omega)]
  by_cases c1:x.State≤lastV g k
  ·rw [decide_eq_true c1,decide_eq_false (show ¬ (lastV g k < x.State∧okT g x) by omega)];rfl
  by_cases c2:x.Ticks < 1
  ·rw [decide_eq_false c1,decide_eq_true c2,decide_eq_false (show ¬ (lastV g k < x.State∧okT g x) by unfold okT;omega)];rfl
  by_cases c3:x.Ticks > 1000
  ·rw [decide_eq_false c1,decide_eq_false c2,decide_eq_true c3,decide_eq_false (show ¬ (lastV g k < x.State∧okT g x) by unfold okT;omega)];rfl
  by_cases c4:x.Else < 0
  ·rw [decide_eq_false c1,decide_eq_false c2,decide_eq_false c3,decide_eq_true c4,decide_eq_false (show ¬ (lastV g k < x.State∧okT g x) by unfold okT;omega)];rfl
  by_cases c5:x.Else≥(g.Edges.length:Int)
  ·rw [decide_eq_false c1,decide_eq_false c2,decide_eq_false c3,decide_eq_false c4,decide_eq_true c5,decide_eq_false (show ¬ (lastV g k < x.State∧okT g x) by unfold okT;omega)];rfl
  obtain ⟨e,he,_⟩:=else_some (g:=g) (i:=x.Else) (by omega) (by omega)
  rw [decide_eq_false c1,decide_eq_false c2,decide_eq_false c3,decide_eq_false c4,decide_eq_false c5,he]
  have hok:decide (lastV g k < x.State∧okT g x)=(e.From==x.State && !e.Again):=by
   rw [Bool.eq_iff_iff,decide_eq_true_iff]
   unfold okT elseOk
   rw [he]
   constructor
   ·intro h;exact h.2.2.2.2.2
   ·intro h;exact ⟨by omega,by omega,by omega,by omega,by omega,h⟩
  rw [hok]
  simp only [Option.bind_some,cond_false]
  cases hf:(e.From==x.State)
  ·rw [show (e.From != x.State)=true by unfold bne;rw [hf];rfl];rfl
  ·rw [show (e.From != x.State)=false by unfold bne;rw [hf];rfl]
   cases e.Again<;>rfl) (by
  intro n k hk
  show z65_l2 g (n+1) (lastV g k) (k:Int)=some true
  simp only [z65_l2,lt_f hk,cond_false,z65_k1])
 have h':z65_l2 g N (-1) (0:Int)=bif allV (fun x k=>decide (lastV g k < x.State∧okT g x)) g.Timeouts 0 then some true else some false:=h
 rw [h']
 unfold timeV
 cases allV _ g.Timeouts 0<;>rfl
theorem numV_edge {g:T4} (h:numV g=true) {x:T2} (hx:x∈g.Edges):okE g x:=by
 unfold numV at h
 rw [Bool.and_eq_true] at h
 obtain ⟨i,hi⟩:=List.mem_iff_getElem?.mp hx
 exact of_decide_eq_true ((allV_iff _ _ _).mp h.2 i x hi)
theorem numV_head {g:T4} (h:numV g=true):okH g:=by
 unfold numV at h
 rw [Bool.and_eq_true] at h
 exact of_decide_eq_true h.1
include hN in
theorem refTimed_eq (g:T4) (hg:g.Timeouts.length≤4194304) (hv:numV g=true):z55 N g=some (timeV g):=by
  unfold z55
  rw [allV_from (fun x k=>decide (lastV g k < x.State∧okT g x)) (xs:=g.Timeouts) (F:=z55_l2 N g) (e:=some true) (by omega)]
  · unfold timeV;cases allV _ g.Timeouts 0<;>rfl
  · intro n k x hk hx
    simp only [z55_l2,lt_t hk,idx_nat,hx,cond_true,Option.bind_some,w64_succ (show k < 4611686018427387904 by omega),refState_eq]
    by_cases c0:0≤x.State∧x.State < g.States
    · rw [decide_eq_true c0]
      simp only [Bool.not_true,cond_false]
      -- the tests behind the order
      have rest:∀ (b:Bool) (hb:b=decide (lastV g k < x.State)),(bif !b then some false else bif decide (x.Ticks < (1:Int)) then (some false)
         else bif decide (x.Ticks > (1000:Int)) then (some false)
         else bif decide (x.Else < (0:Int)) then (some false)
         else bif decide (x.Else≥(g.Edges.length:Int)) then (some false)
         else (idx g.Edges x.Else).bind fun x116 =>
         bif (x116.From != x.State) then (some false)
         else (idx g.Edges x.Else).bind fun x117 =>
         bif x117.Again then (some false)
         else z55_l2 N g n ((k+1:Nat):Int))=bif decide (lastV g k < x.State∧okT g x) then z55_l2 N g n ((k+1:Nat):Int) else some false:=by
        intro b hb
        by_cases c1:lastV g k < x.State
        · rw [hb,decide_eq_true c1]
          by_cases c2:x.Ticks < 1
          · rw [decide_eq_true c2,decide_eq_false (show ¬ (lastV g k < x.State∧okT g x) by unfold okT;omega)];rfl
          by_cases c3:x.Ticks > 1000
          · rw [decide_eq_false c2,decide_eq_true c3,decide_eq_false (show ¬ (lastV g k < x.State∧okT g x) by unfold okT;omega)];rfl
          by_cases c4:x.Else < 0
          · rw [decide_eq_false c2,decide_eq_false c3,decide_eq_true c4,decide_eq_false (show ¬ (lastV g k < x.State∧okT g x) by unfold okT;omega)];rfl
          by_cases c5:x.Else≥(g.Edges.length:Int)
          · rw [decide_eq_false c2,decide_eq_false c3,decide_eq_false c4,decide_eq_true c5,decide_eq_false (show ¬ (lastV g k < x.State∧okT g x) by unfold okT;omega)];rfl
          obtain ⟨e,he,_⟩:=else_some (g:=g) (i:=x.Else) (by omega) (by omega)
          rw [decide_eq_false c2,decide_eq_false c3,decide_eq_false c4,decide_eq_false c5,he]
          have hok:decide (lastV g k < x.State∧okT g x)=(e.From==x.State && !e.Again):=by
            rw [Bool.eq_iff_iff,decide_eq_true_iff]
            unfold okT elseOk
            rw [he]
            constructor
            · intro h;exact h.2.2.2.2.2
            · intro h;exact ⟨by omega,by omega,by omega,by omega,by omega,h⟩
          rw [hok]
          simp only [Option.bind_some,cond_false,Bool.not_true]
          cases hf:(e.From==x.State)
          · rw [show (e.From != x.State)=true by unfold bne;rw [hf];rfl];rfl
          · rw [show (e.From != x.State)=false by unfold bne;rw [hf];rfl]
            cases e.Again<;>rfl
        · rw [hb,decide_eq_false c1,decide_eq_false (show ¬ (lastV g k < x.State∧okT g x) by omega)];rfl
      cases k with
      | zero =>
        have hd:decide (((0:Nat):Int) > 0)=false:=rfl
        rw [hd,cond_false]
        have:=rest true (by rw [decide_eq_true];show (-1:Int) < x.State;omega)
        simpa using this
      | succ k =>
        have hd:decide (((k+1:Nat):Int) > 0)=true:=by simp
        obtain ⟨p,hp⟩:∃ p,g.Timeouts[k]? = some p:=⟨g.Timeouts[k]'(by omega),List.getElem?_eq_getElem _⟩
        have hl:lastV g (k+1)=p.State:=by simp only [lastV,hp]
        have hw:w64 (((k+1:Nat):Int)-1)=(k:Int):=by rw [w64_id (by omega) (by omega)];omega
        rw [hd,cond_true,hw,idx_nat,hp,Option.bind_some]
        have:=rest (!decide (x.State≤p.State)) (by
          rw [hl]
          by_cases q:x.State≤p.State
          · rw [decide_eq_true q,decide_eq_false (by omega)];rfl
          · rw [decide_eq_false q,decide_eq_true (by omega)];rfl)
        rw [Bool.not_not] at this
        exact this
    · rw [decide_eq_false c0]
      have:¬ (lastV g k < x.State∧okT g x):=by
        rintro ⟨_,_,_,h3,h4,h5⟩
        obtain ⟨e,he,hm⟩:=else_some h3 h4
        unfold elseOk at h5
        rw [he] at h5
        simp only [Bool.and_eq_true,beq_iff_eq] at h5
        obtain ⟨o1,o2,_⟩:=numV_edge hv hm
        rw [h5.1] at o1 o2
        exact c0 ⟨o1,o2⟩
      rw [decide_eq_false this];rfl
  · intro n k hk
    simp only [z55_l2,lt_f hk,cond_false,z55_k1]
end Gp
end
section
/- Plain law: the search by breadth: the least numbers of edges from a state. -/
namespace Gp
open Go Go.Kx Gx
theorem idx_some {α:Type} {L:List α} {v:Int} {d:α} (h:idx L v=some d):0≤v∧v < (L.length:Int):=by
 by_cases h0:0≤v
 ·obtain ⟨k,rfl⟩:∃ k:Nat,v=(k:Int):=⟨v.toNat,by omega⟩
  rw [idx_nat] at h
  obtain ⟨hk,_⟩:=List.getElem?_eq_some_iff.mp h
  exact ⟨h0,by omega⟩
 ·unfold idx at h
  rw [decide_eq_false h0] at h;cases h
theorem idx_lt {α:Type} {L:List α} {v:Int} (h0:0≤v) (h1:v < (L.length:Int)):∃ d,idx L v=some d:=by
 obtain ⟨k,rfl⟩:∃ k:Nat,v=(k:Int):=⟨v.toNat,by omega⟩
 exact ⟨L[k]'(by omega),by rw [idx_nat,List.getElem?_eq_getElem]⟩
theorem setL_len {α:Type} (L:List α) {b:Int} (d:α) (h0:0≤b):(setL' L b d).length=L.length:=by
 obtain ⟨k,rfl⟩:∃ k:Nat,b=(k:Int):=⟨b.toNat,by omega⟩
 rw [setL'_nat];simp
theorem idx_set {α:Type} {L:List α} {b:Int} {d:α} (h0:0≤b) (h1:b < (L.length:Int)) (v:Int):idx (setL' L b d) v=if v=b then some d else idx L v:=by
 obtain ⟨k,rfl⟩:∃ k:Nat,b=(k:Int):=⟨b.toNat,by omega⟩
 rw [setL'_nat]
 by_cases hv:0≤v
 ·obtain ⟨j,rfl⟩:∃ j:Nat,v=(j:Int):=⟨v.toNat,by omega⟩
  rw [idx_nat,idx_nat,List.getElem?_set]
  by_cases e:k=j
  ·subst e;simp;omega
  ·rw [if_neg e,if_neg (by omega)]
 ·rw [if_neg (by omega)]
  unfold idx
  rw [decide_eq_false hv];rfl
theorem count_set {L:List Int} {b d:Int} (h:idx L b=some (-1)) (hd:d≠-1):(setL' L b d).count (-1)+1=L.count (-1):=by
 obtain ⟨h0,h1⟩:=idx_some h
 obtain ⟨k,rfl⟩:∃ k:Nat,b=(k:Int):=⟨b.toNat,by omega⟩
 rw [idx_nat] at h
 rw [setL'_nat]
 obtain ⟨A,x,B,rfl,hl⟩:=cut_one L k (by omega)
 rw [get_mid A x B hl] at h
 cases h
 rw [set_mid A (-1) d B hl]
 simp [List.count_append,List.count_cons,hd]
 omega
def er (back:Bool) (x:T2):Int × Int:=(bif back then x.To else x.From,bif back then x.From else x.To)
def ers (g:T4) (back:Bool):List (Int × Int):=g.Edges.map (er back)
/-- The state of the search: what is known, and what is to be done; all that is known is at most one beyond `da`. -/
structure Jn (E:List (Int × Int)) (S:Nat) (e da:Int) (out todo:List Int) (mu:Nat):Prop where
 len:out.length=S
 lo:∀ v d,idx out v=some d→-1≤d∧d≤da+1
 ub:∀ v d,idx out v=some d→d+(out.count (-1):Nat)+1≤(S:Int)
 root:idx out e=some 0
 zero:∀ v,idx out v=some 0→v=e
 pred:∀ v d,idx out v=some d→0 < d→∃ u,(u,v)∈E∧idx out u=some (d-1)
 todo_in:∀ v∈todo,∃ d,idx out v=some d∧da≤d∧0≤d
 sorted:todo.Pairwise (fun x y=>∀ dx dy,idx out x=some dx→idx out y=some dy→dx≤dy)
 proc:∀ u v d,(u,v)∈E→idx out u=some d→0≤d→u ∉ todo→∃ d',idx out v=some d'∧0≤d'∧d'≤d+1
 mu_eq:out.count (-1)+todo.length=mu
/-- One more is found. -/
theorem Jn.push {E:List (Int × Int)} {S:Nat} {e da a v:Int} {out todo:List Int} {mu:Nat} (h:Jn E S e da out todo mu) (ha:idx out a=some da) (ha0:0≤da) (hE:(a,v)∈E) (hv:idx out v=some (-1)) :
  Jn E S e da (setL' out v (da+1)) (todo++[v]) mu∧∀ w d,idx out w=some d→0≤d→idx (setL' out v (da+1)) w=some d:=by
 obtain ⟨v0,v1⟩:=idx_some hv
 have hset:=fun w=>idx_set (L:=out) (d:=da+1) v0 v1 w
 have hcnt:=count_set hv (d:=da+1) (by omega)
 have ext:∀ w d,idx out w=some d→0≤d→idx (setL' out v (da+1)) w=some d:=by
  intro w d hw hd
  rw [hset,if_neg]
  ·exact hw
  ·intro hc;subst hc;rw [hv] at hw;cases hw;omega
 refine ⟨⟨?_,?_,?_,ext _ _ h.root (by omega),?_,?_,?_,?_,?_,?_⟩,ext⟩
 ·rw [setL_len _ _ v0,h.len]
 ·intro w d hw
  rw [hset] at hw
  split at hw
  ·cases hw;omega
  ·exact h.lo w d hw
 ·intro w d hw
  have:=h.ub a da ha
  rw [hset] at hw
  split at hw
  ·cases hw;omega
  ·have:=h.ub w d hw;omega
 ·intro w hw
  rw [hset] at hw
  split at hw
  ·have:=Option.some.inj hw;omega
  ·exact h.zero w hw
 ·intro w d hw hd
  rw [hset] at hw
  split at hw
  ·rename_i hc
   cases hw
   subst hc
   exact ⟨a,hE,by rw [show da+1-1=da by omega];exact ext a da ha ha0⟩
  ·obtain ⟨u,u1,u2⟩:=h.pred w d hw hd
   exact ⟨u,u1,ext _ _ u2 (by omega)⟩
 ·intro w hw
  rcases List.mem_append.mp hw with hw | hw
  ·obtain ⟨d,d1,d2,d3⟩:=h.todo_in w hw
   exact ⟨d,ext _ _ d1 d3,d2,d3⟩
  ·simp at hw;subst hw
   exact ⟨da+1,by rw [hset,if_pos rfl],by omega,by omega⟩
 ·refine List.pairwise_append.mpr ⟨?_,by simp,?_⟩
  ·refine List.Pairwise.imp_of_mem ?_ h.sorted
   intro x y hx hy hxy dx dy h1 h2
   obtain ⟨d,d1,d2,d3⟩:=h.todo_in x hx
   obtain ⟨f,f1,f2,f3⟩:=h.todo_in y hy
   rw [ext _ _ d1 d3] at h1;rw [ext _ _ f1 f3] at h2
   cases h1;cases h2
   exact hxy _ _ d1 f1
  ·intro x hx y hy dx dy h1 h2
   simp at hy;subst hy
   obtain ⟨d,d1,d2,d3⟩:=h.todo_in x hx
   rw [ext _ _ d1 d3] at h1
   rw [hset,if_pos rfl] at h2
   cases h1;cases h2
   exact (h.lo x _ d1).2
 ·intro p q d hpq hp hd hn
  have hpv:p≠v:=fun hc=>hn (by simp [hc])
  rw [hset,if_neg hpv] at hp
  obtain ⟨d',q1,q2,q3⟩:=h.proc p q d hpq hp hd (fun hc=>hn (by simp [hc]))
  exact ⟨d',ext _ _ q1 q2,q2,q3⟩
 ·have:=h.mu_eq
  simp;omega
variable {N:Nat}
theorem spread_in (g:T4) (back:Bool) (S:Nat) (hS:S≤4194304) (hg:g.Edges.length≤4194304) (hE:∀ x∈g.Edges,0≤(er back x).1∧(er back x).1 < (S:Int)∧0≤(er back x).2∧(er back x).2 < (S:Int)) (ag:List Int→List Int→Option (List Int)) (e a da:Int) (ha0:0≤da) (mu:Nat) (hmu:mu≤4194304) :
  ∀ (l:List T2) (k n:Nat) (out rest:List Int),g.Edges.drop k=l→l.length < n→Jn (ers g back) S e da out (a::rest) mu→idx out a=some da →
  (∀ i x,i < k→g.Edges[i]? = some x→(er back x).1=a→∃ d,idx out (er back x).2=some d∧0≤d) →
  ∃ out' rest',z67_l4 g back ag n out (a::rest) (k:Int)=z67_k3 ag out' (a::rest')∧Jn (ers g back) S e da out' (a::rest') mu∧idx out' a=some da ∧
   (∀ x∈g.Edges,(er back x).1=a→∃ d,idx out' (er back x).2=some d∧0≤d):=by
 intro l
 induction l with
 | nil =>
  intro k n out rest h hn hJ ha hd
  obtain ⟨n,rfl⟩:∃ m,n=m+1:=⟨n-1,by simp at hn;omega⟩
  have hk:=drop_nil h
  refine ⟨out,rest,?_,hJ,ha,?_⟩
  ·simp only [z67_l4,lt_f hk,cond_false]
  ·intro x hx hxa
   obtain ⟨i,hi⟩:=List.mem_iff_getElem?.mp hx
   have:i < g.Edges.length:=(List.getElem?_eq_some_iff.mp hi).1
   exact hd i x (by omega) hi hxa
 | cons x l ih =>
  intro k n out rest h hn hJ ha hd
  obtain ⟨n,rfl⟩:∃ m,n=m+1:=⟨n-1,by simp at hn;omega⟩
  obtain ⟨hk,hx,hdr⟩:=drop_cons h
  simp only [List.length_cons] at hn
  have hxm:x∈g.Edges:=List.mem_of_getElem? hx
  obtain ⟨r1,r2,r3,r4⟩:=hE x hxm
  have wk':w64 ((k:Int)+1)=((k+1:Nat):Int):=w64_succ (by omega)
  have e0:idx (a::rest) (0:Int)=some a:=by rw [show (0:Int)=((0:Nat):Int) from rfl,idx_nat];rfl
  have step:z67_l4 g back ag (n+1) out (a::rest) (k:Int)=z67_k5 out (a::rest) (k:Int) (z67_l4 g back ag n) (er back x).1 (er back x).2:=by
   simp only [z67_l4,lt_t hk,idx_nat,hx,cond_true,Option.bind_some,er]
   cases back<;>rfl
  rw [step]
  unfold z67_k5
  rw [e0,Option.bind_some]
  by_cases hxa:(er back x).1=a
  ·rw [show ((er back x).1==a)=true by simp [hxa],cond_true]
   obtain ⟨d,hdv⟩:=idx_lt (L:=out) r3 (by rw [hJ.len];exact r4)
   rw [hdv,Option.bind_some]
   by_cases hneg:d < 0
   ·rw [decide_eq_true hneg,cond_true,hxa,ha]
    have hm1:d=-1:=by have:=(hJ.lo _ _ hdv).1;omega
    subst hm1
    obtain ⟨hJ',ext⟩:=hJ.push ha ha0 (v:=(er back x).2) (by rw [← hxa];exact List.mem_map.mpr ⟨x,hxm,rfl⟩) hdv
    have hub:=hJ.ub a da ha
    have hml:=hJ.mu_eq
    simp only [List.length_cons] at hml
    simp only [Option.bind_some,hdv]
    rw [appL_some (by simp;omega),Option.bind_some,w64_id (n:=da+1) (by omega) (by omega),wk']
    obtain ⟨out',rest',q1,q2,q3,q4⟩:=ih (k+1) n _ (rest++[(er back x).2]) hdr (by omega) hJ' (ext _ _ ha ha0) (by
     intro i y hi hy hya
     by_cases hik:i=k
     ·subst hik
      rw [hx] at hy;cases hy
      exact ⟨da+1,by rw [idx_set r3 (by rw [hJ.len];exact r4),if_pos rfl],by omega⟩
     ·obtain ⟨d',d1,d2⟩:=hd i y (by omega) hy hya
      exact ⟨d',ext _ _ d1 d2,d2⟩)
    exact ⟨out',rest',q1,q2,q3,q4⟩
   ·rw [decide_eq_false hneg,cond_false,wk']
    exact ih (k+1) n out rest hdr (by omega) hJ ha (by
     intro i y hi hy hya
     by_cases hik:i=k
     ·subst hik
      rw [hx] at hy;cases hy
      exact ⟨d,hdv,by omega⟩
     ·exact hd i y (by omega) hy hya)
  ·rw [show ((er back x).1==a)=false by simp [hxa],cond_false,wk']
   exact ih (k+1) n out rest hdr (by omega) hJ ha (by
    intro i y hi hy hya
    by_cases hik:i=k
    ·subst hik
     rw [hx] at hy;cases hy
     exact absurd hya hxa
    ·exact hd i y (by omega) hy hya)
theorem spread_out (hN:4194304 < N) (g:T4) (back:Bool) (S:Nat) (hS:S≤4194304) (hg:g.Edges.length≤4194304) (hE:∀ x∈g.Edges,0≤(er back x).1∧(er back x).1 < (S:Int)∧0≤(er back x).2∧(er back x).2 < (S:Int)) (e:Int) :
  ∀ (n:Nat) (out todo:List Int) (da:Int) (mu:Nat),mu < n→mu≤4194304→Jn (ers g back) S e da out todo mu →
  ∃ L da' mu',z67_l2 N g back n out todo=some L∧Jn (ers g back) S e da' L [] mu':=by
 intro n
 induction n with
 | zero=>intro out todo da mu h;omega
 | succ n ih =>
  intro out todo da mu hn hmu hJ
  cases todo with
  | nil=>exact ⟨out,da,mu,rfl,hJ⟩
  | cons a rest =>
   obtain ⟨d0,ha,ha1,ha2⟩:=hJ.todo_in a (by simp)
   have hJ':Jn (ers g back) S e d0 out (a::rest) mu:=by
    refine ⟨hJ.len,fun v d hv=>⟨(hJ.lo v d hv).1,by have:=(hJ.lo v d hv).2;omega⟩,hJ.ub,hJ.root,hJ.zero,hJ.pred,?_,hJ.sorted,hJ.proc,hJ.mu_eq⟩
    intro v hv
    rcases List.mem_cons.mp hv with hv | hv
    ·subst hv;exact ⟨d0,ha,by omega,ha2⟩
    ·obtain ⟨d,d1,d2,d3⟩:=hJ.todo_in v (by simp [hv])
     exact ⟨d,d1,(List.pairwise_cons.mp hJ.sorted).1 v hv d0 d ha d1,d3⟩
   obtain ⟨out',rest',q1,q2,q3,q4⟩:=spread_in g back S hS hg hE (z67_l2 N g back n) e a d0 ha2 mu hmu g.Edges 0 N out rest rfl (by omega) hJ' ha (by intro i x hi;omega)
   have hd:decide (((a::rest).length:Int) > 0)=true:=by simp
   have hJ2:Jn (ers g back) S e d0 out' rest' (mu-1):=by
    have hm:=q2.mu_eq
    simp only [List.length_cons] at hm
    refine ⟨q2.len,q2.lo,q2.ub,q2.root,q2.zero,q2.pred,fun v hv=>q2.todo_in v (by simp [hv]),(List.pairwise_cons.mp q2.sorted).2,?_,by omega⟩
    intro u v d hE' hu hd' hnt
    by_cases hua:u=a
    ·subst hua
     rw [q3] at hu;cases hu
     obtain ⟨x,hx,hxe⟩:=List.mem_map.mp hE'
     obtain ⟨d',d1,d2⟩:=q4 x hx (by rw [hxe])
     rw [hxe] at d1
     exact ⟨d',d1,d2,(q2.lo _ _ d1).2⟩
    ·exact q2.proc u v d hE' hu hd' (by simp [hua,hnt])
   have hm:=q2.mu_eq
   simp only [List.length_cons] at hm
   obtain ⟨L,da',mu',p1,p2⟩:=ih out' rest' d0 (mu-1) (by omega) (by omega) hJ2
   refine ⟨L,da',mu',?_,p2⟩
   simp only [z67_l2,hd,cond_true]
   rw [show (0:Int)=((0:Nat):Int) from rfl,q1]
   unfold z67_k3
   rw [show lsl (a::rest') (some (1:Int)) none=some rest' from lsl_from (A:=[a]) (B:=rest') rfl rfl,Option.bind_some,p1]
/-- The least numbers of edges. -/
structure Dist (E:List (Int × Int)) (S:Nat) (e:Int) (L:List Int):Prop where
 len:L.length=S
 lo:∀ v d,idx L v=some d→-1≤d∧d < (S:Int)
 root:idx L e=some 0
 zero:∀ v,idx L v=some 0→v=e
 pred:∀ v d,idx L v=some d→0 < d→∃ u,(u,v)∈E∧idx L u=some (d-1)
 succ:∀ u v d,(u,v)∈E→idx L u=some d→0≤d→∃ d',idx L v=some d'∧0≤d'∧d'≤d+1
theorem Jn.dist {E:List (Int × Int)} {S:Nat} {e da:Int} {L:List Int} {mu:Nat} (h:Jn E S e da L [] mu):Dist E S e L :=
 ⟨h.len,fun v d hv=>⟨(h.lo v d hv).1,by have:=h.ub v d hv;omega⟩,h.root,h.zero,h.pred,fun u v d hE hu hd=>h.proc u v d hE hu hd (by simp)⟩
end Gp
end
section
/- Plain law: the search by breadth against the rounds of the reference. -/
namespace Gp
open Go Go.Kx Gx
variable {N:Nat}
theorem mul_small (N:Nat) {s:Nat} (hs:s≤200):z119 N (wk .u64 (([(-1:Int)]:List Int).length:Int)) (wk .u64 (s:Int))=some ((0:Int),(s:Int)):=by
 have h:∀ s < 201,z119 0 (wk .u64 (([(-1:Int)]:List Int).length:Int)) (wk .u64 ((s:Nat):Int))=some ((0:Int),(s:Int)):=by decide +kernel
 exact h s (by omega)
theorem rep_loop (S:Nat) (hS:S≤200):∀ (n k:Nat),S-k < n→1≤k→k≤S →
  z58_l2 n (List.replicate k (-1)++List.replicate (S-k) 0) (k:Int)=some (List.replicate S (-1)):=by
 intro n
 induction n with
 | zero=>intro k h;omega
 | succ n ih =>
  intro k hn h1 h2
  have hlen:(List.replicate k (-1:Int)++List.replicate (S-k) 0).length=S:=by simp;omega
  by_cases hk:k < S
  ·have hd:decide ((k:Int) < ((List.replicate k (-1:Int)++List.replicate (S-k) 0).length:Int))=true:=by rw [hlen];simp;omega
   have a1:lsl (List.replicate k (-1:Int)++List.replicate (S-k) 0) (some (k:Int)) none=some (List.replicate (S-k) 0):=lsl_from rfl (by simp)
   have a2:lsl (List.replicate k (-1:Int)++List.replicate (S-k) 0) none (some (k:Int))=some (List.replicate k (-1)):=lsl_to rfl (by simp)
   have b1:bnd (some (k:Int)) none (List.replicate k (-1:Int)++List.replicate (S-k) 0).length=some (k,S):=by
    rw [hlen]
    have q1:decide ((0:Int)≤(k:Int))=true:=by simp
    have q2:decide ((k:Int)≤(S:Int))=true:=by simp;omega
    unfold bnd
    simp only [Option.getD_some,Option.getD_none,q1,q2,Int.le_refl,decide_true,Bool.and_self,cond_true]
    simp
   have a3:cpL (List.replicate k (-1:Int)++List.replicate (S-k) 0) (some (k:Int)) none (List.replicate k (-1))=some (List.replicate (k+min k (S-k)) (-1)++List.replicate (S-(k+min k (S-k))) 0,((min k (S-k):Nat):Int)):=by
    unfold cpL
    rw [b1,Option.map_some]
    have e1:(List.replicate k (-1:Int)++List.replicate (S-k) 0).take k=List.replicate k (-1):=by simp
    have e2:(List.replicate k (-1:Int)).length=k:=by simp
    simp only [e1,e2]
    have e3:(List.replicate k (-1:Int)).take (min k (S-k))=List.replicate (min k (S-k)) (-1):=by rw [List.take_replicate];congr 1;omega
    have e4:(List.replicate k (-1:Int)++List.replicate (S-k) 0).drop (k+min k (S-k))=List.replicate (S-(k+min k (S-k))) 0:=by
     rw [List.drop_append,List.length_replicate,List.drop_replicate,List.drop_replicate,show k-(k+min k (S-k))=0 by omega,show S-k-(k+min k (S-k)-k)=S-(k+min k (S-k)) by omega];rfl
    rw [e3,e4,List.replicate_append_replicate]
   have hw:w64 ((k:Int)+((min k (S-k):Nat):Int))=((k+min k (S-k):Nat):Int):=by rw [w64_id (by omega) (by omega)];omega
   have hmin:1≤min k (S-k)∧k+min k (S-k)≤S:=by omega
   simp only [z58_l2,hd,cond_true,a1,a2,a3,Option.bind_some,hw]
   exact ih (k+min k (S-k)) (by omega) (by omega) (by omega)
  ·have hks:k=S:=by omega
   subst hks
   have hd:decide ((k:Int) < ((List.replicate k (-1:Int)++List.replicate (k-k) 0).length:Int))=false:=by rw [hlen];simp
   simp only [z58_l2,hd,cond_false,z58_k1]
   simp
theorem repeat_eq (hN:4194304 < N) {s:Nat} (h1:1≤s) (h2:s≤200):z58 N [(-1:Int)] (s:Int)=some (List.replicate s (-1)):=by
 unfold z58
 have c0:decide ((s:Int) < 0)=false:=by simp
 rw [c0,cond_false,mul_small N h2,Option.bind_some]
 have c1:decide ((0:Int) > 0)=false:=rfl
 have c2:decide ((s:Int) > 9223372036854775807)=false:=by simp;omega
 simp only [c1,c2,cond_false,z58_k3]
 have w:w64 (s:Int)=(s:Int):=w64_id (by omega) (by omega)
 have m:mkL (0:Int) (w64 (s:Int)) (w64 (s:Int))=some (List.replicate s 0):=by
  rw [w];unfold mkL
  have q1:decide ((0:Int)≤(s:Int))=true:=by simp
  have q2:decide ((s:Int)≤4294967296)=true:=by simp;omega
  simp only [q1,q2,Int.le_refl,decide_true,Bool.and_self,cond_true]
  simp
 rw [m,Option.bind_some]
 have cp:cpL (List.replicate s (0:Int)) none none [(-1:Int)]=some (List.replicate 1 (-1)++List.replicate (s-1) 0,((1:Nat):Int)):=by
  unfold cpL bnd
  have q1:decide ((0:Int)≤((List.replicate s (0:Int)).length:Int))=true:=by simp
  simp only [Option.getD_none,q1,Int.le_refl,decide_true,Bool.and_self,cond_true,Option.map_some]
  have e:min ([(-1:Int)]:List Int).length (((List.replicate s (0:Int)).length:Int).toNat-(0:Int).toNat)=1:=by simp;omega
  rw [e];simp
 rw [cp,Option.bind_some]
 exact rep_loop s h2 N 1 (by omega) (by omega) h1
theorem spread_eq (hN:4194304 < N) (g:T4) (hv:numV g=true) (back:Bool) (e:Int) (h0:0≤e) (h1:e < g.States):∃ L,z67 N g e back=some L∧Dist (ers g back) g.States.toNat e L:=by
 obtain ⟨o1,o2,o3,o4,o5,o6,o7⟩:=numV_head hv
 have hS:g.States=(g.States.toNat:Int):=by omega
 generalize hs:g.States.toNat=S at *
 have hE:∀ x∈g.Edges,0≤(er back x).1∧(er back x).1 < (S:Int)∧0≤(er back x).2∧(er back x).2 < (S:Int):=by
  intro x hx
  obtain ⟨a1,a2,a3,a4,_⟩:=numV_edge hv hx
  cases back
  ·exact ⟨a1,by rw [← hS];exact a2,a3,by rw [← hS];exact a4⟩
  ·exact ⟨a3,by rw [← hS];exact a4,a1,by rw [← hS];exact a2⟩
 have hrl:(List.replicate S (-1:Int)).length=S:=by simp
 have hri:∀ v:Int,0≤v→v < (S:Int)→idx (List.replicate S (-1:Int)) v=some (-1):=by
  intro v v0 v1
  obtain ⟨k,rfl⟩:∃ k:Nat,v=(k:Int):=⟨v.toNat,by omega⟩
  rw [idx_nat,List.getElem?_replicate,if_pos (by omega)]
 have hre:=hri e h0 (by omega)
 have hset:=fun v=>idx_set (L:=List.replicate S (-1:Int)) (b:=e) (d:=0) h0 (by rw [hrl];omega) v
 have hall:∀ v d,idx (setL' (List.replicate S (-1:Int)) e 0) v=some d→(v=e∧d=0)∨(v≠e∧d=-1):=by
  intro v d hd
  rw [hset] at hd
  split at hd
  ·rename_i h;cases hd;exact .inl ⟨h,rfl⟩
  ·rename_i h
   obtain ⟨v0,v1⟩:=idx_some hd
   rw [hrl] at v1
   rw [hri v v0 v1] at hd
   cases hd;exact .inr ⟨h,rfl⟩
 have hcnt:(setL' (List.replicate S (-1:Int)) e 0).count (-1)+1=S:=by
  rw [count_set hre (by omega)];simp
 have hJ:Jn (ers g back) S e 0 (setL' (List.replicate S (-1:Int)) e 0) [e] S:=by
  refine ⟨by rw [setL_len _ _ h0,hrl],?_,?_,by rw [hset,if_pos rfl],?_,?_,?_,by simp,?_,by simp;omega⟩
  ·intro v d hd;rcases hall v d hd with h | h<;>omega
  ·intro v d hd;rcases hall v d hd with h | h<;>omega
  ·intro v hd;rcases hall v 0 hd with h | h
   ·exact h.1
   ·omega
  ·intro v d hd hp;rcases hall v d hd with h | h<;>omega
  ·intro v hv';simp at hv';subst hv';exact ⟨0,by rw [hset,if_pos rfl],by omega,by omega⟩
  ·intro u v d _ hd hp hn
   rcases hall u d hd with h | h
   ·exact absurd (by simp [h.1]) hn
   ·omega
 obtain ⟨L,da',mu',p1,p2⟩:=spread_out hN g back S (by omega) (by omega) hE e N _ [e] 0 S (by omega) (by omega) hJ
 refine ⟨L,?_,p2.dist⟩
 unfold z67
 rw [hS,repeat_eq hN (by omega) (by omega),Option.bind_some,hre,Option.bind_some,p1]
/-! ### The reference's distances -/
/-- What is known of the distances up to n. -/
def Tr (L M:List Int) (n:Int):Prop:=M.length=L.length∧∀ v d,idx L v=some d→idx M v=some (if d≤n then d else -1)
theorem ends_in {S:Nat} {g:T4} {e:Int} {L:List Int} (hD:Dist (ers g true) S e L) (hg:g.Edges.length≤4194304) (hE:∀ x∈g.Edges,okE g x) (hS:g.States=(S:Int)) (hS2:S≤200) (q:Nat) (hq:q < S) (ag:List Int→Int→Option (List Int)) :
  ∀ (l:List T2) (k n:Nat) (M:List Int),g.Edges.drop k=l→l.length < n→M.length=L.length →
  (∀ v d,idx L v=some d→idx M v=some (if d≤(q:Int) then d else -1)∨(d=(q:Int)+1∧idx M v=some ((q:Int)+1))) →
  (∀ i x,i < k→g.Edges[i]? = some x→idx L x.To=some (q:Int)→idx L x.From=some ((q:Int)+1)→idx M x.From=some ((q:Int)+1)) →
  ∃ M',z81_l4 g (q:Int) ag n M (k:Int)=ag M' ((q+1:Nat):Int)∧Tr L M' ((q:Int)+1):=by
 intro l
 induction l with
 | nil =>
  intro k n M h hn hl hM hd
  obtain ⟨n,rfl⟩:∃ m,n=m+1:=⟨n-1,by simp at hn;omega⟩
  have hk:=drop_nil h
  refine ⟨M,?_,hl,?_⟩
  ·simp only [z81_l4,lt_f hk,cond_false,z81_k3]
   rw [w64_succ (by omega)]
  ·intro v d hv
   by_cases hdq:d=(q:Int)+1
   ·subst hdq
    obtain ⟨u,hu,hul⟩:=hD.pred v _ hv (by omega)
    obtain ⟨x,hx,hxe⟩:=List.mem_map.mp hu
    obtain ⟨i,hi⟩:=List.mem_iff_getElem?.mp hx
    have hil:i < g.Edges.length:=(List.getElem?_eq_some_iff.mp hi).1
    have e1:x.To=u:=congrArg Prod.fst hxe
    have e2:x.From=v:=congrArg Prod.snd hxe
    have:=hd i x (by omega) hi (by rw [e1,hul];congr 1;omega) (by rw [e2,hv])
    rw [e2] at this
    rw [this,if_pos (Int.le_refl _)]
   ·rcases hM v d hv with h | ⟨h,_⟩
    ·rw [h]
     by_cases hc:d≤(q:Int)
     ·rw [if_pos hc,if_pos (by omega)]
     ·rw [if_neg hc,if_neg (by omega)]
    ·exact absurd h hdq
 | cons x l ih =>
  intro k n M h hn hl hM hd
  obtain ⟨n,rfl⟩:∃ m,n=m+1:=⟨n-1,by simp at hn;omega⟩
  obtain ⟨hk,hx,hdr⟩:=drop_cons h
  simp only [List.length_cons] at hn
  have hxm:x∈g.Edges:=List.mem_of_getElem? hx
  obtain ⟨r1,r2,r3,r4,_⟩:=hE x hxm
  obtain ⟨dt,hdt⟩:=idx_lt (L:=L) r3 (by rw [hD.len,← hS];exact r4)
  obtain ⟨df,hdf⟩:=idx_lt (L:=L) r1 (by rw [hD.len,← hS];exact r2)
  obtain ⟨mt,hmt⟩:=idx_lt (L:=M) r3 (by rw [hl,hD.len,← hS];exact r4)
  obtain ⟨mf,hmf⟩:=idx_lt (L:=M) r1 (by rw [hl,hD.len,← hS];exact r2)
  have wk':w64 ((k:Int)+1)=((k+1:Nat):Int):=w64_succ (by omega)
  have hmt2:mt=(q:Int)↔dt=(q:Int):=by
   rcases hM _ _ hdt with h | ⟨h1,h2⟩
   ·rw [hmt] at h
    have h:=Option.some.inj h
    split at h<;>omega
   ·rw [hmt] at h2
    have h2:=Option.some.inj h2
    omega
  have keep:∀ (hne:dt=(q:Int)→idx L x.From=some ((q:Int)+1)→idx M x.From=some ((q:Int)+1)),
    ∃ M',z81_l4 g (q:Int) ag n M ((k+1:Nat):Int)=ag M' ((q+1:Nat):Int)∧Tr L M' ((q:Int)+1):=by
   intro hne
   refine ih (k+1) n M hdr (by omega) hl hM ?_
   intro i y hi hy hyt hyf
   by_cases hik:i=k
   ·subst hik
    rw [hx] at hy;cases hy
    rw [hdt] at hyt
    exact hne (Option.some.inj hyt) hyf
   ·exact hd i y (by omega) hy hyt hyf
  by_cases hc:dt=(q:Int)
  ·have hb:(mt==(q:Int))=true:=by simp [hmt2.mpr hc]
   obtain ⟨d',d1,d2,d3⟩:=hD.succ x.To x.From dt (List.mem_map.mpr ⟨x,hxm,rfl⟩) hdt (by omega)
   rw [hdf] at d1
   have d1:=Option.some.inj d1
   by_cases hneg:mf < 0
   ·have hdq:df=(q:Int)+1:=by
     rcases hM _ _ hdf with h | ⟨h1,_⟩
     ·rw [hmf] at h
      have h:=Option.some.inj h
      split at h<;>omega
     ·exact h1
    have hset:=fun v=>idx_set (L:=M) (b:=x.From) (d:=(q:Int)+1) r1 (by rw [hl,hD.len,← hS];exact r2) v
    simp only [z81_l4,lt_t hk,cond_true,idx_nat,hx,Option.bind_some,hmt,hb,hmf,decide_eq_true hneg,wk']
    rw [w64_id (n:=(q:Int)+1) (by omega) (by omega)]
    refine ih (k+1) n _ hdr (by omega) (by rw [setL_len _ _ r1,hl]) ?_ ?_
    ·intro v d hv
     rw [hset]
     by_cases hvf:v=x.From
     ·subst hvf
      rw [hdf] at hv;cases hv
      exact .inr ⟨hdq,by rw [if_pos rfl]⟩
     ·rw [if_neg hvf];exact hM v d hv
    ·intro i y hi hy hyt hyf
     rw [hset]
     by_cases hvf:y.From=x.From
     ·rw [if_pos hvf]
     ·rw [if_neg hvf]
      by_cases hik:i=k
      ·subst hik
       rw [hx] at hy;cases hy
       exact absurd rfl hvf
      ·exact hd i y (by omega) hy hyt hyf
   ·simp only [z81_l4,lt_t hk,cond_true,idx_nat,hx,Option.bind_some,hmt,hb,hmf,decide_eq_false hneg,cond_false,wk']
    refine keep ?_
    intro _ hlf
    rw [hdf] at hlf
    have hlf:=Option.some.inj hlf
    rcases hM _ _ hdf with h | ⟨_,h⟩
    ·rw [hmf] at h
     have h:=Option.some.inj h
     rw [if_neg (by omega)] at h
     omega
    ·exact h
  ·have hb:(mt==(q:Int))=false:=by simp;omega
   simp only [z81_l4,lt_t hk,cond_true,idx_nat,hx,Option.bind_some,hmt,hb,cond_false,wk']
   exact keep (fun h=>absurd h hc)
theorem ends_rounds (hN:4194304 < N) {S:Nat} {g:T4} {e:Int} {L:List Int} (hD:Dist (ers g true) S e L) (hg:g.Edges.length≤4194304) (hE:∀ x∈g.Edges,okE g x) (hS:g.States=(S:Int)) (hS2:S≤200) :
  ∀ (n q:Nat) (M:List Int),S-q < n→q≤S→Tr L M (q:Int)→z81_l2 N g n M (q:Int)=some L:=by
 intro n
 induction n with
 | zero=>intro q M h;omega
 | succ n ih =>
  intro q M hn hq hT
  by_cases hlt:q < S
  ·have hd:decide ((q:Int) < g.States)=true:=by rw [hS];simp;omega
   obtain ⟨M',m1,m2⟩:=ends_in hD hg hE hS hS2 q hlt (z81_l2 N g n) g.Edges 0 N M rfl (by omega) hT.1 (fun v d hv=>.inl (hT.2 v d hv)) (by intro i x hi;omega)
   simp only [z81_l2,hd,cond_true]
   rw [show (0:Int)=((0:Nat):Int) from rfl,m1]
   exact ih (q+1) M' (by omega) (by omega) (by rw [show ((q+1:Nat):Int)=(q:Int)+1 by omega];exact m2)
  ·have hqs:q=S:=by omega
   subst hqs
   have hd:decide ((q:Int) < g.States)=false:=by rw [hS];simp
   simp only [z81_l2,hd,cond_false,z81_k1]
   congr 1
   refine List.ext_getElem? fun i=>?_
   by_cases hi:i < L.length
   ·obtain ⟨d,hdv⟩:=idx_lt (L:=L) (v:=(i:Int)) (by omega) (by omega)
    have:=hT.2 _ _ hdv
    rw [if_pos (by have:=(hD.lo _ _ hdv).2;omega)] at this
    rw [idx_nat] at this hdv
    rw [this,hdv]
   ·rw [List.getElem?_eq_none (by rw [hT.1];omega),List.getElem?_eq_none (by omega)]
theorem ends_fill {S:Nat} {g:T4} (hS:g.States=(S:Int)) (hS2:S≤200):∀ (n k:Nat) (M:List Int),S-k < n→k≤S→M.length=S→(∀ i:Nat,i < k→M[i]? = some (-1)) →
  z81_l6 N g n M (k:Int)=z81_k5 N g (List.replicate S (-1)):=by
 intro n
 induction n with
 | zero=>intro k M h;omega
 | succ n ih =>
  intro k M hn hk hl hM
  by_cases hlt:k < S
  ·have hd:decide ((k:Int) < g.States)=true:=by rw [hS];simp;omega
   obtain ⟨d,hdv⟩:=idx_lt (L:=M) (v:=(k:Int)) (by omega) (by omega)
   simp only [z81_l6,hd,cond_true,hdv,Option.bind_some]
   rw [w64_succ (by omega)]
   refine ih (k+1) _ (by omega) (by omega) (by rw [setL_len _ _ (by omega),hl]) ?_
   intro i hi
   rw [setL'_nat,List.getElem?_set]
   by_cases hik:k=i
   ·subst hik;simp;omega
   ·rw [if_neg hik];exact hM i (by omega)
  ·have hks:k=S:=by omega
   subst hks
   have hd:decide ((k:Int) < g.States)=false:=by rw [hS];simp
   simp only [z81_l6,hd,cond_false]
   congr 1
   refine List.ext_getElem? fun i=>?_
   rw [List.getElem?_replicate]
   by_cases hi:i < k
   ·rw [if_pos hi];exact hM i hi
   ·rw [if_neg hi];exact List.getElem?_eq_none (by omega)
theorem ends_eq (hN:4194304 < N) (g:T4) (hv:numV g=true) {L:List Int} (hD:Dist (ers g true) g.States.toNat g.End L):z81 N g=some L:=by
 obtain ⟨o1,o2,o3,o4,o5,o6,o7⟩:=numV_head hv
 have hS:g.States=(g.States.toNat:Int):=by omega
 generalize hs:g.States.toNat=S at *
 have m:mkL (0:Int) g.States g.States=some (List.replicate S 0):=by
  rw [hS];unfold mkL
  have q1:decide ((0:Int)≤(S:Int))=true:=by simp
  have q2:decide ((S:Int)≤4294967296)=true:=by simp;omega
  simp only [q1,q2,Int.le_refl,decide_true,Bool.and_self,cond_true]
  simp
 unfold z81
 rw [m,Option.bind_some,show (0:Int)=((0:Nat):Int) from rfl,ends_fill hS (by omega) N 0 _ (by omega) (by omega) (by simp) (by intro i hi;omega)]
 unfold z81_k5
 have hrl:(List.replicate S (-1:Int)).length=S:=by simp
 have hri:∀ v:Int,0≤v→v < (S:Int)→idx (List.replicate S (-1:Int)) v=some (-1):=by
  intro v v0 v1
  obtain ⟨k,rfl⟩:∃ k:Nat,v=(k:Int):=⟨v.toNat,by omega⟩
  rw [idx_nat,List.getElem?_replicate,if_pos (by omega)]
 rw [hri g.End o5 (by omega),Option.bind_some]
 refine ends_rounds hN hD (by omega) (fun x hx=>numV_edge hv hx) hS (by omega) N 0 _ (by omega) (by omega) ?_
 refine ⟨by rw [setL_len _ _ o5,hrl,hD.len],?_⟩
 intro v d hdv
 have hr:=idx_some hdv
 rw [hD.len] at hr
 rw [idx_set o5 (by rw [hrl];omega)]
 have hlo:=hD.lo v d hdv
 by_cases hve:v=g.End
 ·subst hve
  rw [hD.root] at hdv;cases hdv
  rw [if_pos rfl];rfl
 ·rw [if_neg hve,hri v hr.1 hr.2]
  by_cases h0:d≤((0:Nat):Int)
  ·rw [if_pos h0]
   have:d≠0:=by intro hc;subst hc;exact hve (hD.zero v hdv)
   congr 1;omega
  ·rw [if_neg h0]
end Gp
end
section
/- Plain law: all states are reached, and reach End, as both sides find it. -/
namespace Gp
open Go Go.Kx Gx
variable {N:Nat}
/-- All states have a distance. -/
def posV (L:List Int):Bool := !(L.any fun d=>d==-1)
theorem posV_iff {E:List (Int × Int)} {S:Nat} {e:Int} {L:List Int} (h:Dist E S e L):posV L=true↔∀ v d,idx L v=some d→0≤d:=by
 unfold posV
 rw [Bool.not_eq_true',List.any_eq_false]
 constructor
 ·intro h1 v d hv
  obtain ⟨v0,v1⟩:=idx_some hv
  obtain ⟨k,rfl⟩:∃ k:Nat,v=(k:Int):=⟨v.toNat,by omega⟩
  have hl:=(h.lo _ _ hv).1
  rw [idx_nat] at hv
  have:=h1 d (List.mem_of_getElem? hv)
  simp at this
  omega
 ·intro h1 d hd
  obtain ⟨k,hk⟩:=List.mem_iff_getElem?.mp hd
  have:=h1 (k:Int) d (by rw [idx_nat,hk])
  simp;omega
theorem containsInt_eq (hN:4194304 < N) (l:List Int) (hl:l.length≤4194304) (v:Int):z66 N l v=some (l.any fun d=>d==v):=by
 unfold z66 z123
 rw [look l hl (fun x k r=>bif x==v then some k else r) (z123_l2 l v) (some (-1)) hN]
 ·obtain ⟨i,h1,h2⟩:=whereV_any (fun x=>x==v) l 0
  rw [h1,Option.bind_some,h2]
 ·intro n k x hk hx
  simp only [z123_l2,lt_t hk,idx_nat,hx,cond_true,Option.bind_some]
  rw [show (v==x)=(x==v) by rw [Bool.eq_iff_iff,beq_iff_eq,beq_iff_eq];exact ⟨Eq.symm,Eq.symm⟩]
 ·intro n k hk
  simp only [z123_l2,lt_f hk,cond_false,z123_k1]
/-- What is reached: nothing beyond the distances, and all up to n. -/
structure Rc (S:Nat) (F:List Int) (n:Int) (R:List Bool):Prop where
 len:R.length=S
 sound:∀ v,idx R v=some true→∃ d,idx F v=some d∧0≤d
 full:∀ v d,idx F v=some d→0≤d→d≤n→idx R v=some true
theorem Rc.set {S:Nat} {F:List Int} {n:Int} {R:List Bool} (h:Rc S F n R) {v:Int} {b:Bool} (v0:0≤v) (v1:v < (S:Int)) (hb:b=true→∃ d,idx F v=some d∧0≤d) (hm:idx R v=some true→b=true):Rc S F n (setL' R v b):=by
 have hset:=fun w=>idx_set (L:=R) (d:=b) v0 (by rw [h.len];exact v1) w
 refine ⟨by rw [setL_len _ _ v0,h.len],?_,?_⟩
 ·intro w hw
  rw [hset] at hw
  split at hw
  ·rename_i hc;subst hc;exact hb (Option.some.inj hw)
  ·exact h.sound w hw
 ·intro w d hw h0 h1
  rw [hset]
  split
  ·rename_i hc;subst hc
   rw [hm (h.full _ _ hw h0 h1)]
  ·exact h.full w d hw h0 h1
theorem reach_in {S:Nat} {g:T4} {e:Int} {F:List Int} (hD:Dist (ers g false) S e F) (hg:g.Edges.length≤4194304) (hE:∀ x∈g.Edges,okE g x) (hS:g.States=(S:Int)) (hS2:S≤200) (q:Nat) (hq:q < S) (ag:List Bool→Int→Option Bool) :
  ∀ (l:List T2) (k n:Nat) (R:List Bool),g.Edges.drop k=l→l.length < n→Rc S F (q:Int) R →
  (∀ i x,i < k→g.Edges[i]? = some x→idx F x.From=some (q:Int)→idx R x.To=some true) →
  ∃ R',z54_l6 g (q:Int) ag n R (k:Int)=ag R' ((q+1:Nat):Int)∧Rc S F ((q:Int)+1) R':=by
 intro l
 induction l with
 | nil =>
  intro k n R h hn hR hd
  obtain ⟨n,rfl⟩:∃ m,n=m+1:=⟨n-1,by simp at hn;omega⟩
  have hk:=drop_nil h
  refine ⟨R,?_,hR.len,hR.sound,?_⟩
  ·simp only [z54_l6,lt_f hk,cond_false,z54_k5]
   rw [w64_succ (by omega)]
  ·intro v d hv h0 h1
   by_cases hdq:d=(q:Int)+1
   ·subst hdq
    obtain ⟨u,hu,hul⟩:=hD.pred v _ hv (by omega)
    obtain ⟨x,hx,hxe⟩:=List.mem_map.mp hu
    obtain ⟨i,hi⟩:=List.mem_iff_getElem?.mp hx
    have hil:i < g.Edges.length:=(List.getElem?_eq_some_iff.mp hi).1
    have e1:x.From=u:=congrArg Prod.fst hxe
    have e2:x.To=v:=congrArg Prod.snd hxe
    rw [← e2]
    exact hd i x (by omega) hi (by rw [e1,hul];congr 1;omega)
   ·exact hR.full v d hv h0 (by omega)
 | cons x l ih =>
  intro k n R h hn hR hd
  obtain ⟨n,rfl⟩:∃ m,n=m+1:=⟨n-1,by simp at hn;omega⟩
  obtain ⟨hk,hx,hdr⟩:=drop_cons h
  simp only [List.length_cons] at hn
  have hxm:x∈g.Edges:=List.mem_of_getElem? hx
  obtain ⟨r1,r2,r3,r4,_⟩:=hE x hxm
  obtain ⟨mt,hmt⟩:=idx_lt (L:=R) r3 (by rw [hR.len,← hS];exact r4)
  obtain ⟨mf,hmf⟩:=idx_lt (L:=R) r1 (by rw [hR.len,← hS];exact r2)
  have wk':w64 ((k:Int)+1)=((k+1:Nat):Int):=w64_succ (by omega)
  have hset:=fun (b:Bool) w=>idx_set (L:=R) (b:=x.To) (d:=b) r3 (by rw [hR.len,← hS];exact r4) w
  -- the new list, whatever is written
  have go:∀ b:Bool,(b=true→∃ d,idx F x.To=some d∧0≤d)→(idx R x.To=some true→b=true)→(idx F x.From=some (q:Int)→b=true) →
    ∃ R',z54_l6 g (q:Int) ag n (setL' R x.To b) ((k+1:Nat):Int)=ag R' ((q+1:Nat):Int)∧Rc S F ((q:Int)+1) R':=by
   intro b hb hm hf
   refine ih (k+1) n _ hdr (by omega) (hR.set r3 (by rw [← hS];exact r4) hb hm) ?_
   intro i y hi hy hyf
   rw [hset]
   by_cases hik:i=k
   ·subst hik
    rw [hx] at hy;cases hy
    rw [if_pos rfl,hf hyf]
   ·split
    ·rename_i hc
     have:=hd i y (by omega) hy hyf
     rw [hc] at this
     rw [hm this]
    ·exact hd i y (by omega) hy hyf
  cases mt with
  | true =>
   simp only [z54_l6,lt_t hk,cond_true,idx_nat,hx,Option.bind_some,hmt,wk']
   exact go true (fun _=>hR.sound _ hmt) (fun _=>rfl) (fun _=>rfl)
  | false =>
   simp only [z54_l6,lt_t hk,cond_true,cond_false,idx_nat,hx,Option.bind_some,hmt,hmf,wk']
   refine go mf ?_ (fun h=>by rw [hmt] at h;cases h) ?_
   ·intro hm
    subst hm
    obtain ⟨d,d1,d2⟩:=hR.sound _ hmf
    obtain ⟨d',e1,e2,_⟩:=hD.succ x.From x.To d (List.mem_map.mpr ⟨x,hxm,rfl⟩) d1 d2
    exact ⟨d',e1,e2⟩
   ·intro hf
    have:=hR.full _ _ hf (by omega) (Int.le_refl _)
    rw [hmf] at this
    exact Option.some.inj this
theorem reach_rounds (hN:4194304 < N) {S:Nat} {g:T4} {e:Int} {F:List Int} (hD:Dist (ers g false) S e F) (hg:g.Edges.length≤4194304) (hE:∀ x∈g.Edges,okE g x) (hS:g.States=(S:Int)) (hS2:S≤200) :
  ∀ (n q:Nat) (R:List Bool),S-q < n→q≤S→Rc S F (q:Int) R→∃ R',z54_l4 N g n R (q:Int)=z54_k3 N g R'∧Rc S F (S:Int) R':=by
 intro n
 induction n with
 | zero=>intro q R h;omega
 | succ n ih =>
  intro q R hn hq hR
  by_cases hlt:q < S
  ·have hd:decide ((q:Int) < g.States)=true:=by rw [hS];simp;omega
   obtain ⟨R',m1,m2⟩:=reach_in hD hg hE hS hS2 q hlt (z54_l4 N g n) g.Edges 0 N R rfl (by omega) hR (by intro i x hi;omega)
   simp only [z54_l4,hd,cond_true]
   rw [show (0:Int)=((0:Nat):Int) from rfl,m1]
   exact ih (q+1) R' (by omega) (by omega) (by rw [show ((q+1:Nat):Int)=(q:Int)+1 by omega];exact m2)
  ·have hqs:q=S:=by omega
   subst hqs
   have hd:decide ((q:Int) < g.States)=false:=by rw [hS];simp
   exact ⟨R,by simp only [z54_l4,hd,cond_false],hR⟩
theorem noEdges (g:T4) (s:Int):∀ (l:List T2) (k:Nat),((placesOf g s l k).length==0)=l.all fun x => !(x.From==s)
 | [],k=>rfl
 | x::l,k=>by
  unfold placesOf
  rw [List.all_cons]
  by_cases h:x.From=s
  ·rw [if_pos h,show (x.From==s)=true by simp [h]];rfl
  ·rw [if_neg h,show (x.From==s)=false by simp [h],noEdges g s l (k+1)];rfl
theorem connected_eq (hN:4194304 < N) (g:T4) (hv:numV g=true) (hn:NumE g) {L F:List Int} (hL:Dist (ers g true) g.States.toNat g.End L) (hF:Dist (ers g false) g.States.toNat g.Start F) :
  z54 N g=some (posV F && posV L && g.Edges.all fun x => !(x.From==g.End)):=by
 have hends:=ends_eq hN g hv hL
 obtain ⟨o1,o2,o3,o4,o5,o6,o7⟩:=numV_head hv
 have hS:g.States=(g.States.toNat:Int):=by omega
 generalize hs:g.States.toNat=S at *
 have m:mkL false g.States g.States=some (List.replicate S false):=by
  rw [hS];unfold mkL
  have q1:decide ((0:Int)≤(S:Int))=true:=by simp
  have q2:decide ((S:Int)≤4294967296)=true:=by simp;omega
  simp only [q1,q2,Int.le_refl,decide_true,Bool.and_self,cond_true]
  simp
 have hrl:(List.replicate S false).length=S:=by simp
 have hri:∀ v b,idx (List.replicate S false) v=some b→b=false:=by
  intro v b hb
  obtain ⟨v0,v1⟩:=idx_some hb
  obtain ⟨k,rfl⟩:∃ k:Nat,v=(k:Int):=⟨v.toNat,by omega⟩
  rw [idx_nat,List.getElem?_replicate,if_pos (by omega)] at hb
  exact (Option.some.inj hb).symm
 obtain ⟨b0,hb0⟩:=idx_lt (L:=List.replicate S false) o3 (by rw [hrl];omega)
 have hset:=fun w=>idx_set (L:=List.replicate S false) (b:=g.Start) (d:=true) o3 (by rw [hrl];omega) w
 have rc0:Rc S F ((0:Nat):Int) (setL' (List.replicate S false) g.Start true):=by
  refine ⟨by rw [setL_len _ _ o3,hrl],?_,?_⟩
  ·intro v hv'
   rw [hset] at hv'
   split at hv'
   ·rename_i hc;subst hc;exact ⟨0,hF.root,by omega⟩
   ·have h9:=hri _ _ hv'
    cases h9
  ·intro v d hv' h0 h1
   have h9:d=0:=by omega
   subst h9
   rw [hset,if_pos (hF.zero v hv')]
 unfold z54
 rw [m,Option.bind_some,hb0,Option.bind_some]
 obtain ⟨R,r1,r2⟩:=reach_rounds hN hF (by omega) (fun x hx=>numV_edge hv hx) hS (by omega) N 0 (setL' (List.replicate S false) g.Start true) (by omega) (by omega)
  rc0
 rw [show (0:Int)=((0:Nat):Int) from rfl,r1]
 unfold z54_k3
 rw [hends,Option.bind_some,allV_from (fun d k=>(R[k]?.getD false) && !(decide (d < 0))) (xs:=L) (F:=z54_l2 N g R L) (e:=z54_k1 N g) (by rw [hL.len];omega)]
 ·obtain ⟨Z,z1,z2⟩:=refEdges_eq hN g (by omega) hn g.End
  have hk1:z54_k1 N g=some (g.Edges.all fun x => !(x.From==g.End)):=by
   unfold z54_k1
   rw [z2,Option.bind_some,← noEdges g g.End g.Edges 0,← z1.1.length_eq]
   congr 1
   rw [Bool.eq_iff_iff,beq_iff_eq,beq_iff_eq];omega
  rw [hk1]
  have hall:allV (fun d k=>(R[k]?.getD false) && !(decide (d < 0))) L 0=(posV F && posV L):=by
   rw [Bool.eq_iff_iff,Bool.and_eq_true,posV_iff hF,posV_iff hL,allV_iff]
   constructor
   ·intro h
    constructor
    ·intro v d hv'
     obtain ⟨v0,v1⟩:=idx_some hv'
     obtain ⟨k,rfl⟩:∃ k:Nat,v=(k:Int):=⟨v.toNat,by omega⟩
     rw [hF.len] at v1
     have hkL:k < L.length:=by rw [hL.len];omega
     have:=h k _ (List.getElem?_eq_getElem hkL)
     rw [Bool.and_eq_true,Nat.zero_add] at this
     have hkR:k < R.length:=by rw [r2.len];omega
     rw [List.getElem?_eq_getElem hkR,Option.getD_some] at this
     obtain ⟨d',d1,d2⟩:=r2.sound (k:Int) (by rw [idx_nat,List.getElem?_eq_getElem hkR,this.1])
     rw [hv'] at d1
     cases d1;exact d2
    ·intro v d hv'
     obtain ⟨v0,v1⟩:=idx_some hv'
     obtain ⟨k,rfl⟩:∃ k:Nat,v=(k:Int):=⟨v.toNat,by omega⟩
     rw [idx_nat] at hv'
     have:=h k d hv'
     simp at this
     omega
   ·rintro ⟨h1,h2⟩ i d hi
    rw [Nat.zero_add]
    have hkL:i < L.length:=(List.getElem?_eq_some_iff.mp hi).1
    obtain ⟨f,hf⟩:=idx_lt (L:=F) (v:=(i:Int)) (by omega) (by rw [hF.len,← hL.len];omega)
    have:=r2.full (i:Int) f hf (h1 _ _ hf) (by have:=(hF.lo _ _ hf).2;omega)
    rw [idx_nat] at this
    rw [this]
    have:=h2 (i:Int) d (by rw [idx_nat,hi])
    simp;omega
  rw [hall]
  cases (posV F && posV L)<;>rfl
 ·intro n k x hk hx
  have hkR:k < R.length:=by rw [r2.len,← hL.len];omega
  have hd:decide ((k:Int) < g.States)=true:=by rw [hS];simp;rw [← hL.len];omega
  simp only [z54_l2,hd,idx_nat,hx,cond_true,Option.bind_some,List.getElem?_eq_getElem hkR,Option.getD_some,w64_succ (show k < 4611686018427387904 by rw [hL.len] at hk;omega)]
  cases R[k]<;>cases decide (x < 0)<;>rfl
 ·intro n k hk
  have hd:decide ((k:Int) < g.States)=false:=by rw [hS];simp;rw [← hL.len];omega
  simp only [z54_l2,hd,cond_false]
end Gp
end
section
/- Plain law: paths: words between points, as both sides read them. -/
namespace Gp
open Go Go.Kx Gx
def mkB (l:List UInt8):ByteArray:=⟨l.toArray⟩
theorem bs_mkB (l:List UInt8):bs (mkB l)=l:=by simp [bs,mkB]
theorem mkB_bs (s:ByteArray):mkB (bs s)=s:=bs_inj (bs_mkB _)
theorem bs_extract (s:ByteArray) (a b:Nat):bs (s.extract a b)=((bs s).take b).drop a:=by
 unfold bs
 rw [ByteArray.data_extract,Array.toList_extract]
 simp [List.extract,List.drop_take]
theorem ssl_mid {s:ByteArray} {x y z:List UInt8} {i j:Int} (h:bs s=x++(y++z)) (hi:i=(x.length:Int)) (hj:j=((x.length+y.length:Nat):Int)):ssl s (some i) (some j)=some (mkB y):=by
 subst hi hj
 have q1:decide ((0:Int)≤(x.length:Int))=true:=by simp
 have q2:decide ((x.length:Int)≤((x.length+y.length:Nat):Int))=true:=by simp;omega
 have q3:decide (((x.length+y.length:Nat):Int)≤(s.size:Int))=true:=by rw [size_bs,h];simp;omega
 unfold ssl bnd
 simp only [Option.getD_some,q1,q2,q3,Bool.and_self,cond_true,Option.map_some,Int.toNat_natCast]
 congr 1
 apply bs_inj
 rw [bs_extract,bs_mkB,h,← List.append_assoc,List.take_append_of_le_length (by simp),List.take_of_length_le (by simp)]
 simp
theorem ssl_to {s:ByteArray} {x y:List UInt8} {j:Int} (h:bs s=x++y) (hj:j=(x.length:Int)):ssl s none (some j)=some (mkB x):=by
 have e:ssl s none (some j)=ssl s (some 0) (some j):=rfl
 rw [e]
 exact ssl_mid (x:=[]) (y:=x) (z:=y) (by rw [h];rfl) rfl (by rw [hj];simp)
theorem ssl_from {s:ByteArray} {x y:List UInt8} {i:Int} (h:bs s=x++y) (hi:i=(x.length:Int)):ssl s (some i) none=some (mkB y):=by
 have e:ssl s (some i) none=ssl s (some i) (some (s.size:Int)):=rfl
 rw [e]
 exact ssl_mid (x:=x) (y:=y) (z:=[]) (by rw [h];simp) hi (by rw [size_bs,h];simp)
theorem indexB_some {l:List UInt8} {c:UInt8} (h:0 < l.count c):∃ p q,l=p++c::q∧p.count c=0∧Go.Lib.indexByte l c=(p.length:Int):=by
 induction l with
 | nil=>simp at h
 | cons b l ih =>
  cases hc:(b==c)
  ·rw [List.count_cons,hc] at h
   obtain ⟨p,q,h1,h2,h3⟩:=ih (by simpa using h)
   refine ⟨b::p,q,by rw [h1];rfl,by rw [List.count_cons,h2,hc];rfl,?_⟩
   unfold Go.Lib.indexByte
   rw [hc,h3,show ((p.length:Int)==-1)=false by simp]
   simp
  ·have:b=c:=by simpa using hc
   subst this
   exact ⟨[],l,rfl,by simp,by unfold Go.Lib.indexByte;rw [hc];rfl⟩
def splitA (acc:List UInt8):List UInt8→List (List UInt8)
 | []=>[acc]
 | c::l=>if c=46 then acc::splitA [] l else splitA (acc++[c]) l
theorem splitA_cons (acc:List UInt8) (c:UInt8) (l:List UInt8):splitA acc (c::l)=if c=46 then acc::splitA [] l else splitA (acc++[c]) l:=rfl
theorem splitA_none:∀ (l acc:List UInt8),l.count 46=0→splitA acc l=[acc++l]
 | [],acc,_=>by simp [splitA]
 | c::l,acc,h=>by
  rw [List.count_cons] at h
  have hc:¬ c=46:=by intro hc;subst hc;simp at h
  rw [splitA_cons,if_neg hc,splitA_none l _ (by omega)];simp
theorem splitA_some:∀ (p acc q:List UInt8),p.count 46=0→splitA acc (p++46::q)=(acc++p)::splitA [] q
 | [],acc,q,_=>by rw [List.nil_append,splitA_cons,if_pos rfl,List.append_nil]
 | c::p,acc,q,h=>by
  rw [List.count_cons] at h
  have hc:¬ c=46:=by intro hc;subst hc;simp at h
  show splitA acc (c::(p++46::q))=_
  rw [splitA_cons,if_neg hc,splitA_some p _ q (by omega)];simp
theorem splitA_len:∀ (l acc:List UInt8),(splitA acc l).length=l.count 46+1
 | [],acc=>by simp [splitA]
 | c::l,acc=>by
  rw [splitA_cons,List.count_cons]
  split
  ·rename_i h;subst h
   rw [List.length_cons,splitA_len l];simp
  ·rename_i h
   rw [splitA_len l];simp [h]
variable {N:Nat}
theorem index_eq (s:ByteArray):z195 N s (str [46])=some (Go.Lib.indexByte (bs s) 46):=by
 unfold z195 z199
 have h1:(((str [46]).size:Int)==0)=false:=rfl
 have h2:(((str [46]).size:Int)==1)=true:=rfl
 have h3:sidx (str [46]) (0:Int)=some 46:=by
  rw [show (0:Int)=((0:Nat):Int) from rfl,sidx_bs];rfl
 rw [h1,h2,h3]
 simp only [cond_true,cond_false,Option.bind_some,z201]
 have hf:firstB s 46=Go.Lib.indexByte (bs s) 46:=Go.Lib.firstIdx_eq s 46
 rw [hf,toList_bs,toList_bs]
 cases he:(bs (str [46])==bs s)
 ·rfl
 ·have he:bs (str [46])=bs s:=eq_of_beq he
  rw [← he];rfl
theorem count_eq (s:ByteArray):z194 N s (str [46])=some (((bs s).count 46:Nat):Int):=by
 unfold z194
 have h1:(((str [46]).size:Int)==0)=false:=rfl
 have h2:(((str [46]).size:Int)==1)=true:=rfl
 have h3:sidx (str [46]) (0:Int)=some 46:=by
  rw [show (0:Int)=((0:Nat):Int) from rfl,sidx_bs];rfl
 rw [h1,h2,h3]
 simp only [cond_true,cond_false,Option.bind_some]
 congr 1
 unfold countB
 rw [show s.foldl (fun (n:Int) x=>if x==Kx.byteOf 46 then n+1 else n) ((0:Nat):Int)=(bs s).foldl (fun (n:Int) x=>if x==Kx.byteOf 46 then n+1 else n) ((0:Nat):Int) from Go.Lib.foldl_data _ _ _,Go.Lib.count_foldl]
 simp [Go.Lib.countByte,Kx.byteOf]
theorem gen_loop (s sep:ByteArray) (hsep:sep=str [46]) (cnt:Nat) (hc:cnt≤s.size) (hs:s.size≤4194304) :
  ∀ (n:Nat) (cur:ByteArray) (D R:List ByteArray),(bs cur).count 46 < n→(bs cur).length≤4194304→D.length+(bs cur).count 46=cnt→R.length=(bs cur).count 46+1 →
  z192_l2 N s sep (0:Int) ((cnt+1:Nat):Int) n cur (D++R) (D.length:Int)=some (D++(splitA [] (bs cur)).map mkB):=by
 subst hsep
 intro n
 induction n with
 | zero=>intro cur D R h;omega
 | succ n ih =>
  intro cur D R hn hcur hD hR
  have hw:w64 ((s.size:Int)+1)=((s.size+1:Nat):Int):=w64_succ (by omega)
  have hmin:minI ((cnt+1:Nat):Int) ((s.size+1:Nat):Int)=((cnt+1:Nat):Int):=by unfold minI;rw [if_neg (by omega)]
  have hw2:w64 (((cnt+1:Nat):Int)-1)=(cnt:Int):=by rw [w64_id (by omega) (by omega)];omega
  have fin:(bs cur).count 46=0→z192_k1 cur (D++R) (D.length:Int)=some (D++(splitA [] (bs cur)).map mkB):=by
   intro h0
   rw [h0] at hR
   obtain ⟨r,rfl⟩:=List.length_eq_one_iff.mp hR
   unfold z192_k1
   rw [idx_mid (A:=D) (x:=r) (B:=[]) rfl rfl,Option.bind_some,setL'_mid (A:=D) (x:=r) (B:=[]) rfl rfl,w64_succ (by omega),lsl_to (A:=D++[cur]) (B:=[]) (by simp) (by simp),splitA_none _ _ h0]
   simp [mkB_bs]
  by_cases hlt:D.length < cnt
  ·have hd:decide ((D.length:Int) < (cnt:Int))=true:=by simp;omega
   obtain ⟨p,q,e1,e2,e3⟩:=indexB_some (l:=bs cur) (c:=46) (by omega)
   have hlen:(bs cur).length=p.length+(q.length+1):=by rw [e1];simp
   have hcnt:(bs cur).count 46=q.count 46+1:=by rw [e1,List.count_append,List.count_cons,e2];simp
   obtain ⟨r,R',rfl⟩:∃ r R',R=r::R':=by
    cases R with
    | nil=>simp at hR
    | cons r R'=>exact ⟨r,R',rfl⟩
   simp only [List.length_cons] at hR
   have hneg:decide ((p.length:Int) < 0)=false:=by simp
   have wp:w64 ((p.length:Int)+0)=(p.length:Int):=by rw [w64_id (by omega) (by omega)];omega
   have wp1:w64 ((p.length:Int)+((str [46]).size:Int))=((p++[46]:List UInt8).length:Int):=by
    rw [show ((str [46]).size:Int)=1 from rfl,w64_succ (by omega)];simp
   simp only [z192_l2,hw,hmin,hw2,hd,cond_true,index_eq,e3,Option.bind_some,hneg,cond_false,wp,wp1]
   rw [ssl_to e1 rfl,Option.bind_some,idx_mid (A:=D) (x:=r) (B:=R') rfl rfl,Option.bind_some,ssl_from (x:=p++[46]) (y:=q) (by rw [e1];simp) rfl,Option.bind_some,setL'_mid (A:=D) (x:=r) (B:=R') rfl rfl,w64_succ (by omega)]
   have:=ih (mkB q) (D++[mkB p]) R' (by rw [bs_mkB];omega) (by rw [bs_mkB];omega) (by rw [bs_mkB];simp;omega) (by rw [bs_mkB];omega)
   rw [bs_mkB] at this
   rw [show ((D.length+1:Nat):Int)=((D++[mkB p]).length:Int) by simp,show D++mkB p::R'=(D++[mkB p])++R' by simp,this,e1,splitA_some _ _ _ e2]
   simp
  ·have hd:decide ((D.length:Int) < (cnt:Int))=false:=by simp;omega
   simp only [z192_l2,hw,hmin,hw2,hd,cond_false]
   exact fin (by omega)
theorem split_eq (hN:4194304 < N) (s:ByteArray) (hs:s.size≤1000000):z188 N s (str [46])=some ((splitA [] (bs s)).map mkB):=by
 unfold z188 z192
 have h0:((-1:Int)==0)=false:=rfl
 have h1:((str [46]).toList==(str []).toList)=false:=by rw [toList_bs,toList_bs];rfl
 have h2:decide ((-1:Int) < 0)=true:=rfl
 have hcl:(bs s).count 46≤(bs s).length:=List.count_le_length
 rw [h0,h1,h2,count_eq]
 simp only [cond_true,cond_false,Option.bind_some,z192_k3]
 rw [size_bs] at hs
 rw [w64_succ (by omega)]
 have hw:w64 ((s.size:Int)+1)=((s.size+1:Nat):Int):=w64_succ (by rw [size_bs];omega)
 have hmin:minI (((bs s).count 46+1:Nat):Int) ((s.size+1:Nat):Int)=(((bs s).count 46+1:Nat):Int):=by unfold minI;rw [if_neg (by rw [size_bs];omega)]
 have m:mkL (str []) (((bs s).count 46+1:Nat):Int) (((bs s).count 46+1:Nat):Int)=some (List.replicate ((bs s).count 46+1) (str [])):=by
  unfold mkL
  have q1:decide ((0:Int)≤(((bs s).count 46+1:Nat):Int))=true:=by simp;omega
  have q2:decide ((((bs s).count 46+1:Nat):Int)≤4294967296)=true:=by simp;omega
  simp only [q1,q2,Int.le_refl,decide_true,Bool.and_self,cond_true]
  simp
 rw [hw,hmin,m,Option.bind_some]
 have:=gen_loop (N:=N) s (str [46]) rfl ((bs s).count 46) (by rw [size_bs];omega) (by rw [size_bs];omega) N s [] (List.replicate ((bs s).count 46+1) (str [])) (by omega) (by omega) (by simp) (by simp)
 rw [List.nil_append] at this
 have this':z192_l2 N s (str [46]) (0:Int) (((bs s).count 46+1:Nat):Int) N s (List.replicate ((bs s).count 46+1) (str [])) (0:Int)=some ([]++(splitA [] (bs s)).map mkB):=this
 rw [this'];simp
def pathV (s:ByteArray):Bool:=decide (s.size≤50) && (splitA [] (bs s)).all fun p=>isWord (mkB p)
theorem piece_len:∀ (l acc:List UInt8),∀ p∈splitA acc l,p.length≤acc.length+l.length
 | [],acc,p,h=>by simp [splitA] at h;subst h;simp
 | c::l,acc,p,h=>by
  rw [splitA_cons] at h
  split at h
  ·rcases List.mem_cons.mp h with h | h
   ·subst h;simp
   ·have:=piece_len l [] p h;simp at this;simp;omega
  ·have:=piece_len l _ p h;simp at this;simp;omega
theorem path_eq (hN:4194304 < N) (s:ByteArray):z176 N s=some (pathV s):=by
 unfold z176 pathV
 by_cases h:s.size≤50
 ·rw [decide_eq_true (show (s.size:Int)≤50 by omega),decide_eq_true h,cond_true,split_eq hN s (by omega),Option.bind_some]
  unfold z187_1 z191_0
  have hl:(splitA [] (bs s)).length≤51:=by
   rw [splitA_len]
   have:(bs s).count 46≤(bs s).length:=List.count_le_length
   rw [size_bs] at h;omega
  rw [look ((splitA [] (bs s)).map mkB) (by simp;omega) (fun x k r=>bif !(isWord x) then some k else r) (z191_0_l2 N ((splitA [] (bs s)).map mkB)) (some (-1)) hN]
  ·obtain ⟨i,h1,h2⟩:=whereV_any (fun x => !(isWord x)) ((splitA [] (bs s)).map mkB) 0
   rw [h1,Option.bind_some,h2,Option.bind_some,List.any_map,List.not_any_eq_all_not]
   simp [Function.comp_def]
  ·intro n k x hk hx
   have hx':=List.mem_of_getElem? hx
   obtain ⟨p,hp,rfl⟩:=List.mem_map.mp hx'
   have hpl:=piece_len _ _ p hp
   have hw:=(word_eq hN (mkB p) (by rw [size_bs,bs_mkB];rw [size_bs] at h;simp at hpl;omega)).1
   simp only [z191_0_l2,lt_t hk,idx_nat,hx,cond_true,Option.bind_some,z189,hw]
  ·intro n k hk
   simp only [z191_0_l2,lt_f hk,cond_false,z191_0_k1]
 ·rw [decide_eq_false (show ¬ (s.size:Int)≤50 by omega),decide_eq_false h];rfl
theorem refPath_loop (hN:4194304 < N) (s:ByteArray) (hs:s.size≤4194304):∀ (n:Nat) (x acc l:List UInt8) (i j:Int),l.length+1 < n→bs s=x++(acc++l)→i=(x.length:Int)→j=((x.length+acc.length:Nat):Int) →
  z153_l2 N s n i j=bif (splitA acc l).all fun p=>isWord (mkB p) then z153_k1 s else some false:=by
 intro n
 induction n with
 | zero=>intro x acc l i j h;omega
 | succ n ih =>
  intro x acc l i j hn he hi hj
  have hsz:s.size=x.length+(acc.length+l.length):=by rw [size_bs,he];simp
  have hle:decide (j≤(s.size:Int))=true:=by simp;omega
  have hw:=(word_eq hN (mkB acc) (by rw [size_bs,bs_mkB];omega)).2
  have wj:w64 (j+1)=((x.length+acc.length+1:Nat):Int):=by rw [hj];exact w64_succ (by omega)
  cases l with
  | nil =>
   have hend:(j==(s.size:Int))=true:=by simp at hsz;simp;omega
   obtain ⟨n,rfl⟩:∃ m,n=m+1:=⟨n-1,by simp at hn;omega⟩
   have hgt:decide (w64 (j+1)≤(s.size:Int))=false:=by rw [wj];simp at hsz;simp;omega
   unfold z153_l2
   rw [hle,cond_true,hend,cond_true]
   unfold z153_k3
   rw [cond_true,ssl_mid he hi hj,Option.bind_some]
   unfold z171
   rw [hw]
   simp only [Option.bind_some,splitA,List.all_cons,List.all_nil,Bool.and_true]
   cases isWord (mkB acc)
   ·rfl
   ·simp only [Bool.not_true,cond_false,cond_true]
    unfold z153_l2
    rw [hgt];rfl
  | cons c l =>
   have hne:(j==(s.size:Int))=false:=by simp at hsz;simp;omega
   have hgc:sidx s j=some (c.toNat:Int):=by
    rw [hj,sidx_bs,get_at (A:=x++acc) (x:=c) (B:=l) (by rw [he];simp) (by simp)];rfl
   unfold z153_l2
   rw [hle,cond_true,hne,cond_false,hgc,Option.bind_some]
   by_cases hc:c=46
   ·subst hc
    have hb:(((46:UInt8).toNat:Int)==46)=true:=rfl
    rw [hb]
    unfold z153_k3
    rw [cond_true,ssl_mid he hi hj,Option.bind_some]
    unfold z171
    rw [hw]
    have e0:splitA acc (46::l)=acc::splitA [] l:=by rw [splitA_cons,if_pos rfl]
    rw [e0,List.all_cons]
    simp only [Option.bind_some]
    cases isWord (mkB acc)
    ·rfl
    ·simp only [Bool.not_true,cond_false,Bool.true_and]
     rw [wj]
     exact ih (x++acc++[46]) [] l _ _ (by simp at hn;omega) (by rw [he];simp) (by simp;omega) (by simp;omega)
   ·have hb:((c.toNat:Int)==46)=false:=by
     rw [beq_eq_false_iff_ne]
     intro h
     apply hc
     apply UInt8.toNat_inj.mp
     show c.toNat=46
     omega
    rw [hb]
    unfold z153_k3
    have e0:splitA acc (c::l)=splitA (acc++[c]) l:=by rw [splitA_cons,if_neg hc]
    rw [cond_false,wj,e0]
    exact ih x (acc++[c]) l _ _ (by simp at hn;omega) (by rw [he];simp) hi (by simp;omega)
theorem refPath_eq (hN:4194304 < N) (s:ByteArray) (hs:s.size≤4000000):z153 N s=some (pathV s):=by
 unfold z153
 rw [refPath_loop hN s (by omega) N [] [] (bs s) (0:Int) (0:Int) (by rw [size_bs] at hs;omega) rfl rfl rfl]
 unfold z153_k1 pathV
 by_cases h:s.size≤50
 ·rw [decide_eq_true (show (s.size:Int)≤50 by omega),decide_eq_true h]
  cases (splitA [] (bs s)).all fun p=>isWord (mkB p)<;>rfl
 ·rw [decide_eq_false (show ¬ (s.size:Int)≤50 by omega),decide_eq_false h]
  cases (splitA [] (bs s)).all fun p=>isWord (mkB p)<;>rfl
end Gp
end
section
/- Plain law: declarations of message types, as both sides read them. -/
namespace Gp
open Go Go.Kx Gx
variable {N:Nat}
/-- All fields of the declarations, one behind the other. -/
def flat (l:List T0):List T3:=(l.map fun d=>d.Fields).flatten
theorem flat_cons (x:T0) (l:List T0):flat (x::l)=x.Fields++flat l:=rfl
theorem flat_app (a b:List T0):flat (a++b)=flat a++flat b:=by simp [flat]
theorem flat_le (l:List T0) (h:∀ d∈l,SizeD d):(flat l).length≤l.length * 4194304:=by
 induction l with
 | nil=>simp [flat]
 | cons x l ih =>
  rw [flat_cons,List.length_append,List.length_cons]
  have:=(h x (by simp)).f
  have:=ih (fun d hd=>h d (by simp [hd]))
  omega
theorem take_drop_cons {α:Type} {xs l:List α} {k:Nat} {x:α} (h:xs.drop k=x::l):xs.take (k+1)=xs.take k++[x]:=by
 obtain ⟨a,c,d⟩:=drop_cons h
 rw [List.take_add_one,c];rfl
theorem fields_loop (l:List T0) (hs:(flat l).length≤4294967296) (hl:l.length≤4194304) :
  ∀ (m:List T0) (k n:Nat) (acc:List T3),l.drop k=m→m.length < n→acc=flat (l.take k)→z175_l2 l n acc (k:Int)=some (flat l):=by
 intro m
 induction m with
 | nil =>
  intro k n acc h hn ha
  obtain ⟨n,rfl⟩:∃ m,n=m+1:=⟨n-1,by simp at hn;omega⟩
  have hk:=drop_nil h
  simp only [z175_l2,lt_f hk,cond_false,z175_k1]
  rw [ha,List.take_of_length_le hk]
 | cons x m ih =>
  intro k n acc h hn ha
  obtain ⟨n,rfl⟩:∃ m,n=m+1:=⟨n-1,by simp at hn;omega⟩
  obtain ⟨a,c,d⟩:=drop_cons h
  have ht:=take_drop_cons h
  have hcut:flat l=flat (l.take (k+1))++flat (l.drop (k+1)):=by rw [← flat_app,List.take_append_drop]
  have hle:acc.length+x.Fields.length≤4294967296:=by
   rw [hcut,ht,flat_app,List.length_append,List.length_append,← ha] at hs
   have:(flat [x]).length=x.Fields.length:=by simp [flat]
   omega
  simp only [z175_l2,lt_t a,cond_true,idx_nat,c,Option.bind_some]
  rw [appL_some hle,Option.bind_some,w64_succ (by omega)]
  refine ih (k+1) n _ d (by simp at hn;omega) ?_
  rw [ht,flat_app,← ha];simp [flat]
theorem fields_eq (hN:4194304 < N) (l:List T0) (hl:l.length≤1000) (hd:∀ d∈l,SizeD d):z175 N l=some (flat l):=by
 unfold z175
 exact fields_loop l (by have:=flat_le l hd;omega) (by omega) l 0 N [] rfl (by omega) rfl
theorem vars_loop (l:List T0) (hs:(flat l).length≤4294967296) (hl:l.length≤4194304) :
  ∀ (m:List T0) (k n:Nat) (acc:Int),l.drop k=m→m.length < n→acc=((flat (l.take k)).length:Int)→z151_l2 l n acc (k:Int)=some ((flat l).length:Int):=by
 intro m
 induction m with
 | nil =>
  intro k n acc h hn ha
  obtain ⟨n,rfl⟩:∃ m,n=m+1:=⟨n-1,by simp at hn;omega⟩
  have hk:=drop_nil h
  simp only [z151_l2,lt_f hk,cond_false,z151_k1]
  rw [ha,List.take_of_length_le hk]
 | cons x m ih =>
  intro k n acc h hn ha
  obtain ⟨n,rfl⟩:∃ m,n=m+1:=⟨n-1,by simp at hn;omega⟩
  obtain ⟨a,c,d⟩:=drop_cons h
  have ht:=take_drop_cons h
  have hcut:flat l=flat (l.take (k+1))++flat (l.drop (k+1)):=by rw [← flat_app,List.take_append_drop]
  have hx:(flat [x]).length=x.Fields.length:=by simp [flat]
  have hle:(flat (l.take k)).length+x.Fields.length≤4294967296:=by
   rw [hcut,ht,flat_app,List.length_append,List.length_append] at hs
   omega
  simp only [z151_l2,lt_t a,cond_true,idx_nat,c,Option.bind_some]
  rw [w64_succ (by omega),w64_id (by omega) (by omega)]
  refine ih (k+1) n _ d (by simp at hn;omega) ?_
  rw [ht,flat_app,List.length_append,hx,ha];simp
theorem vars_eq (hN:4194304 < N) (l:List T0) (hl:l.length≤1000) (hd:∀ d∈l,SizeD d):z151 N l=some ((flat l).length:Int):=by
 unfold z151
 exact vars_loop l (by have:=flat_le l hd;omega) (by omega) l 0 N 0 rfl (by omega) rfl
theorem field_loop (l:List T0) (hl:l.length≤4194304) (hd:∀ d∈l,SizeD d) :
  ∀ (m:List T0) (k n i:Nat),l.drop k=m→m.length < n→i < (flat m).length→i≤4294967296→z185_l2 l n (i:Int) (k:Int)=(flat m)[i]? := by
 intro m
 induction m with
 | nil=>intro k n i h hn hi;simp [flat] at hi
 | cons x m ih =>
  intro k n i h hn hi hi2
  obtain ⟨n,rfl⟩:∃ m,n=m+1:=⟨n-1,by simp at hn;omega⟩
  obtain ⟨a,c,d⟩:=drop_cons h
  rw [flat_cons]
  simp only [z185_l2,lt_t a,cond_true,idx_nat,c,Option.bind_some]
  by_cases hlt:i < x.Fields.length
  ·rw [lt_t hlt,cond_true,List.getElem?_append_left hlt,List.getElem?_eq_getElem hlt];rfl
  ·rw [lt_f (by omega),cond_false,w64_succ (by omega),List.getElem?_append_right (by omega)]
   have hf:=(hd x (List.mem_of_getElem? c)).f
   have hw:w64 ((i:Int)-(x.Fields.length:Int))=((i-x.Fields.length:Nat):Int):=by rw [w64_id (by omega) (by omega)];omega
   rw [hw]
   exact ih (k+1) n _ d (by simp at hn;omega) (by rw [flat_cons,List.length_append] at hi;omega) (by omega)
/-- A variable of kind 2. -/
def textV (fl:List T3) (x:Int):Bool:=match idx fl x with | some f=>f.Sort'.Kind==2 | none=>false
theorem idx_none {α:Type} {L:List α} {v:Int} (h:¬ (0≤v∧v < (L.length:Int))):idx L v=none:=by
 cases hc:idx L v with
 | none=>rfl
 | some d=>exact absurd (idx_some hc) h
theorem text_eq (hN:4194304 < N) (l:List T0) (hl:l.length≤1000) (hd:∀ d∈l,SizeD d) (x:Int):z172 N l x=some (textV (flat l) x):=by
 have hfl:=flat_le l hd
 unfold z172 textV
 rw [vars_eq hN l hl hd]
 by_cases h0:x≥0
 ·rw [decide_eq_true h0,cond_true,Option.bind_some]
  by_cases h1:x < ((flat l).length:Int)
  ·obtain ⟨k,rfl⟩:∃ k:Nat,x=(k:Int):=⟨x.toNat,by omega⟩
   have hk:k < (flat l).length:=by omega
   have hf:z185 N l (k:Int)=(flat l)[k]? := field_loop l (by omega) hd l 0 N k rfl (by omega) hk (by omega)
   rw [decide_eq_true h1,cond_true,hf,idx_nat,List.getElem?_eq_getElem hk];rfl
  ·rw [decide_eq_false h1,idx_none (by omega)];rfl
 ·rw [decide_eq_false h0,idx_none (by omega)];rfl
def diffOk (n:Int) (d:T1):Prop:=-1≤d.X∧d.X < n∧-1≤d.Y∧d.Y < n∧-20000≤d.C∧d.C≤20000
instance (n:Int) (d:T1):Decidable (diffOk n d):=by unfold diffOk;infer_instance
def guardV (fl:List T3) (g:T5):Bool :=
 decide (g.Diffs.length≤20∧g.Equals.length≤20) && (allV (fun d _=>decide (diffOk (fl.length:Int) d)) g.Diffs 0 && allV (fun e _=>textV fl e.1 && textV fl e.2) g.Equals 0)
theorem guarded_eq (hN:4194304 < N) (g:T5) (fl:List T3):z182 N g fl=some (guardV fl g):=by
 unfold z182 guardV
 by_cases c1:(g.Diffs.length:Int) > 20
 ·rw [decide_eq_true c1,decide_eq_false (show ¬ (g.Diffs.length≤20∧g.Equals.length≤20) by omega)];rfl
 by_cases c2:(g.Equals.length:Int) > 20
 ·rw [decide_eq_false c1,decide_eq_true c2,decide_eq_false (show ¬ (g.Diffs.length≤20∧g.Equals.length≤20) by omega)];rfl
 rw [decide_eq_false c1,decide_eq_false c2,decide_eq_true (show g.Diffs.length≤20∧g.Equals.length≤20 by omega)]
 simp only [cond_false,Bool.true_and]
 rw [allV_from (fun d _=>decide (diffOk (fl.length:Int) d)) (xs:=g.Diffs) (F:=z182_l6 N g fl) (e:=z182_k5 N g fl) (by omega)]
 ·unfold z182_k5
  rw [allV_from (fun e _=>textV fl e.1 && textV fl e.2) (xs:=g.Equals) (F:=z182_l2 N g fl) (e:=some true) (by omega)]
  ·cases allV (fun d _=>decide (diffOk (fl.length:Int) d)) g.Diffs 0<;>cases allV (fun e _=>textV fl e.1 && textV fl e.2) g.Equals 0<;>rfl
  ·intro n k x hk hx
   obtain ⟨m,rfl⟩:∃ m,N=m+3:=⟨N-3,by omega⟩
   have e0:idx ([x.1,x.2]:List Int) (0:Int)=some x.1:=rfl
   have e1:idx ([x.1,x.2]:List Int) (1:Int)=some x.2:=rfl
   have w0:w64 ((0:Int)+1)=1:=by decide
   have w1:w64 ((1:Int)+1)=2:=by decide
   have l0:decide ((0:Int) < 2)=true:=rfl
   have l1:decide ((1:Int) < 2)=true:=rfl
   have l2:decide ((2:Int) < 2)=false:=rfl
   have one:∀ (v:Int) (r:Option Bool),(bif decide (v < (0:Int)) then some false else bif decide (v≥(fl.length:Int)) then some false else (idx fl v).bind fun x143=>bif (x143.Sort'.Kind != (2:Int)) then some false else r)=bif textV fl v then r else some false:=by
    intro v r
    unfold textV
    by_cases h0:v < 0
    ·rw [decide_eq_true h0,idx_none (by omega)];rfl
    by_cases h1:v≥(fl.length:Int)
    ·rw [decide_eq_false h0,decide_eq_true h1,idx_none (by omega)];rfl
    obtain ⟨f,hf⟩:=idx_lt (L:=fl) (v:=v) (by omega) (by omega)
    rw [decide_eq_false h0,decide_eq_false h1,hf]
    simp only [cond_false,Option.bind_some]
    unfold bne
    cases (f.Sort'.Kind==2)<;>rfl
   have inner:z182_l4 fl (k:Int) (z182_l2 (m+3) g fl n) x (m+3) (0:Int)=bif textV fl x.1 && textV fl x.2 then z182_k3 (k:Int) (z182_l2 (m+3) g fl n) else some false:=by
    simp only [z182_l4,e0,e1,w0,w1,l0,l1,l2,cond_true,cond_false,Option.bind_some]
    rw [one,one]
    cases textV fl x.1<;>cases textV fl x.2<;>rfl
   simp only [z182_l2,lt_t hk,cond_true,idx_nat,hx,Option.bind_some,inner,z182_k3]
   rw [w64_succ (by omega)]
  ·intro n k hk
   simp only [z182_l2,lt_f hk,cond_false,z182_k1]
 ·intro n k x hk hx
  simp only [z182_l6,lt_t hk,idx_nat,hx,cond_true,Option.bind_some,w64_succ (show k < 4611686018427387904 by omega)]
  by_cases d1:minI x.X x.Y < -1
  ·rw [decide_eq_true d1,decide_eq_false (show ¬ diffOk (fl.length:Int) x by rw [minI_lt] at d1;unfold diffOk;omega)];rfl
  by_cases d2:maxI x.X x.Y≥(fl.length:Int)
  ·rw [decide_eq_false d1,decide_eq_true d2,decide_eq_false (show ¬ diffOk (fl.length:Int) x by rw [maxI_ge] at d2;unfold diffOk;omega)];rfl
  by_cases d3:x.C < -20000
  ·rw [decide_eq_false d1,decide_eq_false d2,decide_eq_true d3,decide_eq_false (show ¬ diffOk (fl.length:Int) x by unfold diffOk;omega)];rfl
  by_cases d4:x.C > 20000
  ·rw [decide_eq_false d1,decide_eq_false d2,decide_eq_false d3,decide_eq_true d4,decide_eq_false (show ¬ diffOk (fl.length:Int) x by unfold diffOk;omega)];rfl
  rw [decide_eq_false d1,decide_eq_false d2,decide_eq_false d3,decide_eq_false d4,decide_eq_true (show diffOk (fl.length:Int) x by rw [minI_lt] at d1;rw [maxI_ge] at d2;unfold diffOk;omega)];rfl
 ·intro n k hk
  simp only [z182_l6,lt_f hk,cond_false]
theorem goodGuard_eq (hN:4194304 < N) (l:List T0) (hl:l.length≤1000) (hd:∀ d∈l,SizeD d) (g:T5) (h1:g.Diffs.length≤4194304) (h2:g.Equals.length≤4194304):z154 N l g=some (guardV (flat l) g):=by
 unfold z154 guardV
 rw [vars_eq hN l hl hd,Option.bind_some]
 rw [allV_from (fun d _=>decide (diffOk ((flat l).length:Int) d)) (xs:=g.Diffs) (F:=z154_l4 N l g ((flat l).length:Int)) (e:=z154_k3 N l g) (by omega)]
 ·unfold z154_k3
  rw [allV_from (fun e _=>textV (flat l) e.1 && textV (flat l) e.2) (xs:=g.Equals) (F:=z154_l2 N l g) (e:=z154_k1 g) (by omega)]
  ·have hk1:z154_k1 g=some (decide (g.Diffs.length≤20∧g.Equals.length≤20)):=by
    unfold z154_k1
    by_cases c1:(g.Diffs.length:Int)≤20
    ·rw [decide_eq_true c1,cond_true]
     congr 1
     rw [decide_eq_decide];omega
    ·rw [decide_eq_false c1,decide_eq_false (show ¬ (g.Diffs.length≤20∧g.Equals.length≤20) by omega)];rfl
   rw [hk1]
   cases allV (fun d _=>decide (diffOk ((flat l).length:Int) d)) g.Diffs 0<;>cases allV (fun e _=>textV (flat l) e.1 && textV (flat l) e.2) g.Equals 0<;>cases decide (g.Diffs.length≤20∧g.Equals.length≤20)<;>rfl
  ·intro n k x hk hx
   simp only [z154_l2,lt_t hk,cond_true,idx_nat,hx,Option.bind_some,text_eq hN l hl hd,w64_succ (show k < 4611686018427387904 by omega)]
   cases textV (flat l) x.1<;>cases textV (flat l) x.2<;>rfl
  ·intro n k hk
   simp only [z154_l2,lt_f hk,cond_false]
 ·intro n k x hk hx
  simp only [z154_l4,lt_t hk,idx_nat,hx,cond_true,Option.bind_some,w64_succ (show k < 4611686018427387904 by omega)]
  by_cases d1:x.X < -1
  ·rw [decide_eq_true d1,decide_eq_false (show ¬ diffOk ((flat l).length:Int) x by unfold diffOk;omega)];rfl
  by_cases d2:x.X≥((flat l).length:Int)
  ·rw [decide_eq_false d1,decide_eq_true d2,decide_eq_false (show ¬ diffOk ((flat l).length:Int) x by unfold diffOk;omega)];rfl
  by_cases d3:x.Y < -1
  ·rw [decide_eq_false d1,decide_eq_false d2,decide_eq_true d3,decide_eq_false (show ¬ diffOk ((flat l).length:Int) x by unfold diffOk;omega)];rfl
  by_cases d4:x.Y≥((flat l).length:Int)
  ·rw [decide_eq_false d1,decide_eq_false d2,decide_eq_false d3,decide_eq_true d4,decide_eq_false (show ¬ diffOk ((flat l).length:Int) x by unfold diffOk;omega)];rfl
  by_cases d5:x.C < -20000
  ·rw [decide_eq_false d1,decide_eq_false d2,decide_eq_false d3,decide_eq_false d4,decide_eq_true d5,decide_eq_false (show ¬ diffOk ((flat l).length:Int) x by unfold diffOk;omega)];rfl
  by_cases d6:x.C > 20000
  ·rw [decide_eq_false d1,decide_eq_false d2,decide_eq_false d3,decide_eq_false d4,decide_eq_false d5,decide_eq_true d6,decide_eq_false (show ¬ diffOk ((flat l).length:Int) x by unfold diffOk;omega)];rfl
  rw [decide_eq_false d1,decide_eq_false d2,decide_eq_false d3,decide_eq_false d4,decide_eq_false d5,decide_eq_false d6,decide_eq_true (show diffOk ((flat l).length:Int) x by unfold diffOk;omega)];rfl
 ·intro n k hk
  simp only [z154_l4,lt_f hk,cond_false]
/-- Sorts of fields. -/
def sortOk (s:T7):Prop:=(s.Kind=1∧-1000≤s.Lo∧s.Lo≤s.Hi∧s.Hi≤1000)∨(s.Kind=2∧0≤s.Lo∧s.Lo≤s.Hi∧s.Hi≤40)
instance (s:T7):Decidable (sortOk s):=by unfold sortOk;infer_instance
theorem three (a b c:Prop) [Decidable a] [Decidable b] [Decidable c]:(bif decide a then (bif decide b then some (decide c) else some false) else some false)=some (decide (a∧b∧c)):=by
 by_cases ha:a<;>by_cases hb:b<;>simp [ha,hb]
theorem sorted_eq (s:T7):z179 N s=some (decide (sortOk s)):=by
 unfold z179
 rw [three,three]
 by_cases h1:s.Kind=1
 ·rw [show (s.Kind==1)=true by simp [h1],cond_true];congr 1;rw [decide_eq_decide];unfold sortOk;omega
 ·rw [show (s.Kind==1)=false by simp [h1],cond_false]
  by_cases h2:s.Kind=2
  ·rw [show (s.Kind==2)=true by simp [h2],cond_true];congr 1;rw [decide_eq_decide];unfold sortOk;omega
  ·rw [show (s.Kind==2)=false by simp [h2],cond_false,decide_eq_false (show ¬ sortOk s by unfold sortOk;omega)]
theorem goodSort_eq (s:T7):z152 N s=some (decide (sortOk s)):=by
 unfold z152 z152_k1
 rw [three,three]
 by_cases h1:s.Kind=1
 ·rw [show (s.Kind==1)=true by simp [h1],show (s.Kind==2)=false by simp [h1]];simp only [cond_true,cond_false];congr 1;rw [decide_eq_decide];unfold sortOk;omega
 ·rw [show (s.Kind==1)=false by simp [h1]]
  by_cases h2:s.Kind=2
  ·rw [show (s.Kind==2)=true by simp [h2]];simp only [cond_true,cond_false];congr 1;rw [decide_eq_decide];unfold sortOk;omega
  ·rw [show (s.Kind==2)=false by simp [h2]];simp only [cond_false];rw [decide_eq_false (show ¬ sortOk s by unfold sortOk;omega)]
end Gp
end
section
/- Plain law: both sides find the same automata valid. -/
namespace Gp
open Go Go.Kx Gx
variable {N:Nat}
/-- Sizes of the names of a declaration. -/
structure NameD (x:T0):Prop where
 n:x.Name.size≤4000000
 f:∀ f∈x.Fields,f.Name.size≤4000000
def fieldV (x:T0) (f:T3) (j:Nat):Bool:=isWord f.Name && (decide (sortOk f.Sort') && !((x.Fields.take j).any fun y=>eqStr y.Name f.Name))
def declV (fl:List T3) (l:List T0) (x:T0) (k:Nat):Bool :=
 pathV x.Name && (decide (x.Fields.length≤4) && (decide (x.First=((flat (l.take k)).length:Int)) && (!((l.take k).any fun y=>eqStr y.Name x.Name) && (allV (fieldV x) x.Fields 0 && guardV fl x.Guard))))
def validD (l:List T0):Bool:=decide (l.length≤40) && (decide ((flat l).length≤24) && allV (declV (flat l) l) l 0)
theorem containsD_eq (hN:4194304 < N) (l:List T0) (hl:l.length≤4194304) (x:T0):z177_4 N l x=some (l.any fun y=>eqStr y.Name x.Name):=by
 unfold z177_4 z77_3
 rw [look l hl (fun y k r=>bif eqStr y.Name x.Name then some k else r) (z77_3_l2 N l x) (some (-1)) hN]
 ·obtain ⟨i,h1,h2⟩:=whereV_any (fun y:T0=>eqStr y.Name x.Name) l 0
  rw [h1,Option.bind_some,h2]
 ·intro n k y hk hy
  simp only [z77_3_l2,lt_t hk,idx_nat,hy,cond_true,Option.bind_some,z178_2,eqStr]
 ·intro n k hk
  simp only [z77_3_l2,lt_f hk,cond_false,z77_3_k1]
theorem containsF_eq (hN:4194304 < N) (l:List T3) (hl:l.length≤4194304) (x:T3):z180_7 N l x=some (l.any fun y=>eqStr y.Name x.Name):=by
 unfold z180_7 z190_6
 rw [look l hl (fun y k r=>bif eqStr y.Name x.Name then some k else r) (z190_6_l2 N l x) (some (-1)) hN]
 ·obtain ⟨i,h1,h2⟩:=whereV_any (fun y:T3=>eqStr y.Name x.Name) l 0
  rw [h1,Option.bind_some,h2]
 ·intro n k y hk hy
  simp only [z190_6_l2,lt_t hk,idx_nat,hy,cond_true,Option.bind_some,z181_5,eqStr]
 ·intro n k hk
  simp only [z190_6_l2,lt_f hk,cond_false,z190_6_k1]
theorem flat_next {l:List T0} {k:Nat} {x:T0} (h:l[k]? = some x):(flat (l.take (k+1))).length=(flat (l.take k)).length+x.Fields.length:=by
 rw [List.take_add_one,h]
 show (flat (l.take k++[x])).length=_
 rw [flat_app,List.length_append];simp [flat]
theorem flat_take_le (l:List T0) (k:Nat):(flat (l.take k)).length≤(flat l).length:=by
 have:flat l=flat (l.take k)++flat (l.drop k):=by rw [← flat_app,List.take_append_drop]
 rw [this,List.length_append];omega
theorem valid_eq (hN:4194304 < N) (l:List T0) (hl:l.length≤4194304) (hd:∀ d∈l,SizeD d) (hn:∀ d∈l,NameD d):z158 N l=some (validD l):=by
 unfold z158 validD
 by_cases c1:(l.length:Int) > 40
 ·rw [decide_eq_true c1,decide_eq_false (show ¬ l.length≤40 by omega)];rfl
 rw [decide_eq_false c1,decide_eq_true (show l.length≤40 by omega),fields_eq hN l (by omega) hd]
 simp only [cond_false,Option.bind_some,Bool.true_and]
 by_cases c2:((flat l).length:Int) > 24
 ·rw [decide_eq_true c2,decide_eq_false (show ¬ (flat l).length≤24 by omega)];rfl
 rw [decide_eq_false c2,decide_eq_true (show (flat l).length≤24 by omega)]
 simp only [cond_false,Bool.true_and]
 have hfl:=flat_le l hd
 have h:=allV_from (declV (flat l) l) (xs:=l) (F:=fun n i=>z158_l2 N l (flat l) n ((flat (l.take i.toNat)).length:Int) i) (e:=some true) (n:=N) (by omega) (by
  intro n k x hk hx
  show z158_l2 N l (flat l) (n+1) ((flat (l.take k)).length:Int) (k:Int)=bif declV (flat l) l x k then z158_l2 N l (flat l) n ((flat (l.take (k+1))).length:Int) ((k+1:Nat):Int) else some false
  have hxm:x∈l:=List.mem_of_getElem? hx
  have sx:=hd x hxm
  have nx:=hn x hxm
  have ht:lsl l none (some (k:Int))=some (l.take k):=lsl_to (A:=l.take k) (B:=l.drop k) (List.take_append_drop k l).symm (by simp;omega)
  have hft:=flat_take_le l k
  have hnext:w64 (((flat (l.take k)).length:Int)+(x.Fields.length:Int))=((flat (l.take (k+1))).length:Int):=by rw [flat_next hx,w64_id (by have:=sx.f;omega) (by have:=sx.f;omega)];omega
  have inner:z158_l4 N (flat l) ((flat (l.take k)).length:Int) (k:Int) (z158_l2 N l (flat l) n) x N (0:Int)=bif allV (fieldV x) x.Fields 0 then z158_k3 N (flat l) ((flat (l.take k)).length:Int) (k:Int) (z158_l2 N l (flat l) n) x else some false:=by
   refine allV_from (fieldV x) (by have:=sx.f;omega) ?_ ?_
   ·intro m j f hj hf
    have sf:=sx.f
    have hw:=(word_eq hN f.Name (by have:=nx.f f (List.mem_of_getElem? hf);omega)).1
    have ht':lsl x.Fields none (some (j:Int))=some (x.Fields.take j):=lsl_to (A:=x.Fields.take j) (B:=x.Fields.drop j) (List.take_append_drop j _).symm (by simp;omega)
    have hc:=containsF_eq hN (x.Fields.take j) (by simp;omega) f
    simp only [z158_l4,lt_t hj,cond_true,idx_nat,hf,Option.bind_some,hw,sorted_eq,ht',hc,fieldV]
    rw [w64_succ (by omega)]
    cases isWord f.Name<;>cases decide (sortOk f.Sort')<;>cases ((x.Fields.take j).any fun y=>eqStr y.Name f.Name)<;>rfl
   ·intro m j hj
    simp only [z158_l4,lt_f hj,cond_false]
  have hc:=containsD_eq hN (l.take k) (by simp;omega) x
  simp only [z158_l2,lt_t hk,cond_true,idx_nat,hx,Option.bind_some,path_eq hN,ht,hc,inner,z158_k3,guarded_eq hN,declV,hnext]
  rw [w64_succ (by omega)]
  have e1:decide ((x.Fields.length:Int) > 4) = !decide (x.Fields.length≤4):=by
   by_cases q:x.Fields.length≤4
   ·rw [decide_eq_true q,decide_eq_false (by omega)];rfl
   ·rw [decide_eq_false q,decide_eq_true (by omega)];rfl
  have e2:(x.First != ((flat (l.take k)).length:Int)) = !decide (x.First=((flat (l.take k)).length:Int)):=by
   by_cases q:x.First=((flat (l.take k)).length:Int)
   ·rw [decide_eq_true q];simp [q]
   ·rw [decide_eq_false q];simp [q]
  rw [e1,e2]
  cases pathV x.Name<;>cases decide (x.Fields.length≤4)<;>cases decide (x.First=((flat (l.take k)).length:Int))<;>cases ((l.take k).any fun y=>eqStr y.Name x.Name)<;>cases allV (fieldV x) x.Fields 0<;>cases guardV (flat l) x.Guard<;>rfl) (by
  intro n k hk
  show z158_l2 N l (flat l) (n+1) ((flat (l.take k)).length:Int) (k:Int)=some true
  simp only [z158_l2,lt_f hk,cond_false,z158_k1])
 have h':z158_l2 N l (flat l) N (0:Int) (0:Int)=bif allV (declV (flat l) l) l 0 then some true else some false:=h
 rw [h']
 cases allV (declV (flat l) l) l 0<;>rfl
theorem allV_not_any {α:Type} (f:α→Bool):∀ (l:List α) (k:Nat),allV (fun y _ => !f y) l k = !(l.any f)
 | [],_=>rfl
 | x::l,k=>by
  show (!f x && allV _ l (k+1))=_
  rw [allV_not_any f l,List.any_cons]
  cases f x<;>rfl
theorem take_get {α:Type} {l:List α} {k i:Nat} {x:α} (h:(l.take k)[i]? = some x):l[i]? = some x∧i < k:=by
 rw [List.getElem?_take] at h
 split at h
 ·exact ⟨h,by assumption⟩
 ·cases h
theorem refValid_eq (hN:4194304 < N) (l:List T0) (hl:l.length≤4194304) (hd:∀ d∈l,SizeD d) (hn:∀ d∈l,NameD d):z113 N l=some (validD l):=by
 unfold z113 validD
 by_cases c1:(l.length:Int) > 40
 ·rw [decide_eq_true c1,decide_eq_false (show ¬ l.length≤40 by omega)];rfl
 rw [decide_eq_false c1,decide_eq_true (show l.length≤40 by omega),vars_eq hN l (by omega) hd]
 simp only [cond_false,Option.bind_some,Bool.true_and]
 by_cases c2:((flat l).length:Int) > 24
 ·rw [decide_eq_true c2,decide_eq_false (show ¬ (flat l).length≤24 by omega)];rfl
 rw [decide_eq_false c2,decide_eq_true (show (flat l).length≤24 by omega)]
 simp only [cond_false,Bool.true_and]
 have hfl:=flat_le l hd
 have h:=allV_from (declV (flat l) l) (xs:=l) (F:=fun n i=>z113_l2 N l n ((flat (l.take i.toNat)).length:Int) i) (e:=some true) (n:=N) (by omega) (by
  intro n k x hk hx
  show z113_l2 N l (n+1) ((flat (l.take k)).length:Int) (k:Int)=bif declV (flat l) l x k then z113_l2 N l n ((flat (l.take (k+1))).length:Int) ((k+1:Nat):Int) else some false
  have hxm:x∈l:=List.mem_of_getElem? hx
  have sx:=hd x hxm
  have nx:=hn x hxm
  have hft:=flat_take_le l k
  have hnext:w64 (((flat (l.take k)).length:Int)+(x.Fields.length:Int))=((flat (l.take (k+1))).length:Int):=by rw [flat_next hx,w64_id (by have:=sx.f;omega) (by have:=sx.f;omega)];omega
  have inner8:z113_l8 N l ((flat (l.take k)).length:Int) (k:Int) (z113_l2 N l n) x N (0:Int)=bif allV (fun y _ => !eqStr y.Name x.Name) (l.take k) 0 then z113_k7 N l ((flat (l.take k)).length:Int) (k:Int) (z113_l2 N l n) x else some false:=by
   refine allV_from (fun (y:T0) _ => !eqStr y.Name x.Name) (by simp;omega) ?_ ?_
   ·intro m j y hj hy
    obtain ⟨hy',hjk⟩:=take_get hy
    simp only [z113_l8,lt_t hjk,cond_true,idx_nat,hy',Option.bind_some,eqStr]
    rw [w64_succ (by omega)]
    cases (y.Name.toList==x.Name.toList)<;>rfl
   ·intro m j hj
    have:k≤j:=by simp at hj;omega
    simp only [z113_l8,lt_f this,cond_false]
  have inner4:z113_l4 N l ((flat (l.take k)).length:Int) (k:Int) (z113_l2 N l n) x N (0:Int)=bif allV (fieldV x) x.Fields 0 then z113_k3 N l ((flat (l.take k)).length:Int) (k:Int) (z113_l2 N l n) x else some false:=by
   refine allV_from (fieldV x) (by have:=sx.f;omega) ?_ ?_
   ·intro m j f hj hf
    have sf:=sx.f
    have hw:=(word_eq hN f.Name (by have:=nx.f f (List.mem_of_getElem? hf);omega)).2
    have inner6:z113_l6 x (j:Int) (z113_l4 N l ((flat (l.take k)).length:Int) (k:Int) (z113_l2 N l n) x m) N (0:Int)=bif allV (fun y _ => !eqStr y.Name f.Name) (x.Fields.take j) 0 then z113_k5 (j:Int) (z113_l4 N l ((flat (l.take k)).length:Int) (k:Int) (z113_l2 N l n) x m) else some false:=by
     refine allV_from (fun (y:T3) _ => !eqStr y.Name f.Name) (by simp;omega) ?_ ?_
     ·intro p i y hi hy
      obtain ⟨hy',hij⟩:=take_get hy
      simp only [z113_l6,lt_t hij,cond_true,idx_nat,hy',hf,Option.bind_some,eqStr]
      rw [w64_succ (by omega)]
      cases (y.Name.toList==f.Name.toList)<;>rfl
     ·intro p i hi
      have:j≤i:=by simp at hi;omega
      simp only [z113_l6,lt_f this,cond_false]
    simp only [z113_l4,lt_t hj,cond_true,idx_nat,hf,Option.bind_some,hw,goodSort_eq,inner6,fieldV,z113_k5,allV_not_any]
    rw [w64_succ (by omega)]
    cases isWord f.Name<;>cases decide (sortOk f.Sort')<;>cases ((x.Fields.take j).any fun y=>eqStr y.Name f.Name)<;>rfl
   ·intro m j hj
    simp only [z113_l4,lt_f hj,cond_false]
  have hg:=goodGuard_eq hN l (by omega) hd x.Guard sx.d sx.e
  simp only [z113_l2,lt_t hk,cond_true,idx_nat,hx,Option.bind_some,inner8,inner4,z113_k7,z113_k3,refPath_eq hN x.Name nx.n,hg,declV,hnext,allV_not_any]
  rw [w64_succ (by omega)]
  have e1:decide ((x.Fields.length:Int) > 4) = !decide (x.Fields.length≤4):=by
   by_cases q:x.Fields.length≤4
   ·rw [decide_eq_true q,decide_eq_false (by omega)];rfl
   ·rw [decide_eq_false q,decide_eq_true (by omega)];rfl
  have e2:(x.First != ((flat (l.take k)).length:Int)) = !decide (x.First=((flat (l.take k)).length:Int)):=by
   by_cases q:x.First=((flat (l.take k)).length:Int)
   ·rw [decide_eq_true q];simp [q]
   ·rw [decide_eq_false q];simp [q]
  rw [e1,e2]
  cases pathV x.Name<;>cases decide (x.Fields.length≤4)<;>cases decide (x.First=((flat (l.take k)).length:Int))<;>cases ((l.take k).any fun y=>eqStr y.Name x.Name)<;>cases allV (fieldV x) x.Fields 0<;>cases guardV (flat l) x.Guard<;>rfl) (by
  intro n k hk
  show z113_l2 N l (n+1) ((flat (l.take k)).length:Int) (k:Int)=some true
  simp only [z113_l2,lt_f hk,cond_false,z113_k1])
 have h':z113_l2 N l N (0:Int) (0:Int)=bif allV (declV (flat l) l) l 0 then some true else some false:=h
 rw [h']
 cases allV (declV (flat l) l) l 0<;>rfl
end Gp
end
section
/- Plain law: both sides find the same automata valid, and what a valid automaton is. -/
namespace Gp
open Go Go.Kx Gx
variable {N:Nat}
/-- The least numbers of edges are one list. -/
theorem Dist.le {E:List (Int × Int)} {S:Nat} {e:Int} {L M:List Int} (hL:Dist E S e L) (hM:Dist E S e M):∀ (k:Nat) (v:Int),idx L v=some (k:Int)→∃ m,idx M v=some m∧0≤m∧m≤(k:Int):=by
 intro k
 induction k with
 | zero =>
  intro v hv
  have:=hL.zero v hv
  subst this
  exact ⟨0,hM.root,by omega,by omega⟩
 | succ k ih =>
  intro v hv
  obtain ⟨u,hu,hl⟩:=hL.pred v _ hv (by omega)
  obtain ⟨m,m1,m2,m3⟩:=ih u (by rw [hl];congr 1;omega)
  obtain ⟨d,d1,d2,d3⟩:=hM.succ u v m hu m1 m2
  exact ⟨d,d1,d2,by omega⟩
theorem Dist.uniq {E:List (Int × Int)} {S:Nat} {e:Int} {L M:List Int} (hL:Dist E S e L) (hM:Dist E S e M):L=M:=by
 refine List.ext_getElem? fun i=>?_
 by_cases hi:i < S
 ·obtain ⟨d,hd⟩:=idx_lt (L:=L) (v:=(i:Int)) (by omega) (by rw [hL.len];omega)
  obtain ⟨m,hm⟩:=idx_lt (L:=M) (v:=(i:Int)) (by omega) (by rw [hM.len];omega)
  have a:=(hL.lo _ _ hd).1
  have b:=(hM.lo _ _ hm).1
  have one:0≤d→0≤m∧m≤d:=by
   intro h
   obtain ⟨x,x1,x2,x3⟩:=hL.le hM d.toNat (i:Int) (by rw [hd];congr 1;omega)
   rw [hm] at x1;cases x1;exact ⟨x2,by omega⟩
  have two:0≤m→0≤d∧d≤m:=by
   intro h
   obtain ⟨x,x1,x2,x3⟩:=hM.le hL m.toNat (i:Int) (by rw [hm];congr 1;omega)
   rw [hd] at x1;cases x1;exact ⟨x2,by omega⟩
  rw [idx_nat] at hd hm
  rw [hd,hm]
  congr 1
  by_cases h:0≤d
  ·have:=one h;have:=two this.1;omega
  ·by_cases h':0≤m
   ·have:=two h';omega
   ·omega
 ·rw [List.getElem?_eq_none (by rw [hL.len];omega),List.getElem?_eq_none (by rw [hM.len];omega)]
structure SizeN (g:T4):Prop where
 n:g.Name.size≤4000000
 r:∀ s∈g.Roles,s.size≤4000000
 d:∀ x∈g.Decls,NameD x
def roleV (g:T4) (s:ByteArray) (i:Nat):Bool:=isWord s && !((g.Roles.take i).any fun y=>eqStr y s)
def namedV (g:T4):Bool:=isWord g.Name && (decide (1≤g.Roles.length∧g.Roles.length≤6) && allV (roleV g) g.Roles 0)
theorem named_eq (hN:4194304 < N) (g:T4) (hg:SizeG g) (hs:SizeN g):z61 N g=some (namedV g):=by
 unfold z61 namedV
 rw [(word_eq hN g.Name (by have:=hs.n;omega)).1]
 have hr:=hg.r
 rw [allV_from (roleV g) (xs:=g.Roles) (F:=z61_l2 N g) (e:=some true) (by omega)]
 ·simp only [Option.bind_some]
  by_cases c1:(g.Roles.length:Int) < 1
  ·rw [decide_eq_true c1,decide_eq_false (show ¬ (1≤g.Roles.length∧g.Roles.length≤6) by omega)];cases isWord g.Name<;>rfl
  by_cases c2:(g.Roles.length:Int) > 6
  ·rw [decide_eq_false c1,decide_eq_true c2,decide_eq_false (show ¬ (1≤g.Roles.length∧g.Roles.length≤6) by omega)];cases isWord g.Name<;>rfl
  rw [decide_eq_false c1,decide_eq_false c2,decide_eq_true (show 1≤g.Roles.length∧g.Roles.length≤6 by omega)]
  cases isWord g.Name<;>cases allV (roleV g) g.Roles 0<;>rfl
 ·intro n k x hk hx
  have hw:=(word_eq hN x (by have:=hs.r x (List.mem_of_getElem? hx);omega)).1
  have ht:lsl g.Roles none (some (k:Int))=some (g.Roles.take k):=lsl_to (A:=g.Roles.take k) (B:=g.Roles.drop k) (List.take_append_drop k _).symm (by simp;omega)
  have hc:=contains_eq hN (g.Roles.take k) (by simp;omega) x
  simp only [z61_l2,lt_t hk,cond_true,idx_nat,hx,Option.bind_some,hw,ht,hc,roleV]
  rw [w64_succ (by omega)]
  cases isWord x<;>cases ((g.Roles.take k).any fun y=>eqStr y x)<;>rfl
 ·intro n k hk
  simp only [z61_l2,lt_f hk,cond_false,z61_k1]
theorem first_before {α:Type} (f:α→Bool):∀ (l:List α) (k i:Nat) (x:α),l[i]? = some x→f x=true→∃ j,lv (fun x (k:Nat) r=>bif f x then some (k:Int) else r) (some (-1)) l k=some j∧decide (j < ((k+i:Nat):Int))=(l.take i).any f
 | [],k,i,x,h,_=>by simp at h
 | y::l,k,i,x,h,hf=>by
  show ∃ j,(bif f y then some (k:Int) else lv _ _ l (k+1))=some j∧_
  cases i with
  | zero =>
   simp at h;subst h
   rw [hf]
   exact ⟨k,rfl,by simp⟩
  | succ i =>
   rw [List.take_succ_cons,List.any_cons]
   cases hy:f y
   ·obtain ⟨j,j1,j2⟩:=first_before f l (k+1) i x (by simpa using h) hf
    exact ⟨j,j1,by rw [show k+(i+1)=k+1+i by omega,j2];rfl⟩
   ·exact ⟨k,rfl,by simp;omega⟩
theorem names_eq (hN:4194304 < N) (g:T4) (hg:SizeG g) (hs:SizeN g):z51 N g=some (namedV g && validD g.Decls):=by
 unfold z51 namedV
 have hr:=hg.r
 rw [allV_from (roleV g) (xs:=g.Roles) (F:=z51_l2 N g) (e:=z51_k1 N g) (by omega)]
 ·unfold z51_k1
  rw [(word_eq hN g.Name (by have:=hs.n;omega)).2,refValid_eq hN g.Decls hg.d hg.dd hs.d]
  simp only [Option.bind_some]
  by_cases c1:(g.Roles.length:Int)≥1
  ·by_cases c2:(g.Roles.length:Int)≤6
   ·rw [decide_eq_true c1,decide_eq_true c2,decide_eq_true (show 1≤g.Roles.length∧g.Roles.length≤6 by omega)]
    cases isWord g.Name<;>cases allV (roleV g) g.Roles 0<;>rfl
   ·rw [decide_eq_true c1,decide_eq_false c2,decide_eq_false (show ¬ (1≤g.Roles.length∧g.Roles.length≤6) by omega)]
    cases isWord g.Name<;>cases allV (roleV g) g.Roles 0<;>rfl
  ·rw [decide_eq_false c1,decide_eq_false (show ¬ (1≤g.Roles.length∧g.Roles.length≤6) by omega)]
   cases isWord g.Name<;>cases allV (roleV g) g.Roles 0<;>rfl
 ·intro n k x hk hx
  have hw:=(word_eq hN x (by have:=hs.r x (List.mem_of_getElem? hx);omega)).2
  obtain ⟨j,j1,j2⟩:=first_before (fun y=>eqStr y x) g.Roles 0 k x hx (eqStr_refl x)
  have hi:z76 N g.Roles x=some j:=by rw [refIndex_eq hN g.Roles hr];exact j1
  rw [Nat.zero_add] at j2
  simp only [z51_l2,lt_t hk,cond_true,idx_nat,hx,Option.bind_some,hw,hi,j2,roleV]
  rw [w64_succ (by omega)]
  cases isWord x<;>cases ((g.Roles.take k).any fun y=>eqStr y x)<;>rfl
 ·intro n k hk
  simp only [z51_l2,lt_f hk,cond_false]
theorem bounds_l2 (d:T0) (hd:d.Guard.Equals.length≤4194304):∀ (l:List (Int × Int)) (k n:Nat) (acc:List T1),d.Guard.Equals.drop k=l→l.length < n→acc.length+2 * l.length≤4294967296→∃ r,z159_l2 d n acc (k:Int)=some r:=by
 intro l
 induction l with
 | nil =>
  intro k n acc h hn _
  obtain ⟨n,rfl⟩:∃ m,n=m+1:=⟨n-1,by simp at hn;omega⟩
  exact ⟨acc,by simp only [z159_l2,lt_f (drop_nil h),cond_false,z159_k1]⟩
 | cons x l ih =>
  intro k n acc h hn ha
  obtain ⟨n,rfl⟩:∃ m,n=m+1:=⟨n-1,by simp at hn;omega⟩
  obtain ⟨a,c,e⟩:=drop_cons h
  simp only [List.length_cons] at ha hn
  simp only [z159_l2,lt_t a,cond_true,idx_nat,c,Option.bind_some]
  rw [appL_some (by simp;omega),Option.bind_some,w64_succ (by omega)]
  exact ih (k+1) n _ e (by omega) (by simp;omega)
theorem bounds_l4 (hN:4194304 < N) (d:T0) (hd:SizeD d):∀ (l:List T3) (k n:Nat) (acc:List T1),d.Fields.drop k=l→l.length < n→acc.length+2 * l.length≤16777216→∃ r,z159_l4 N d n acc (k:Int)=some r:=by
 intro l
 have h1:=hd.f
 have h2:=hd.d
 have h3:=hd.e
 induction l with
 | nil =>
  intro k n acc h hn ha
  obtain ⟨n,rfl⟩:∃ m,n=m+1:=⟨n-1,by simp at hn;omega⟩
  simp only [z159_l4,lt_f (drop_nil h),cond_false,z159_k3]
  simp at ha
  rw [appL_some (by omega),Option.bind_some]
  exact bounds_l2 d h3 d.Guard.Equals 0 N _ rfl (by omega) (by simp;omega)
 | cons x l ih =>
  intro k n acc h hn ha
  obtain ⟨n,rfl⟩:∃ m,n=m+1:=⟨n-1,by simp at hn;omega⟩
  obtain ⟨a,c,e⟩:=drop_cons h
  simp only [List.length_cons] at ha hn
  simp only [z159_l4,lt_t a,cond_true,idx_nat,c,Option.bind_some]
  rw [appL_some (by simp;omega),Option.bind_some,w64_succ (by omega)]
  exact ih (k+1) n _ e (by omega) (by simp;omega)
theorem declared_eq (hN:4194304 < N) (l:List T0) (hl:l.length≤4194304) (hd:∀ d∈l,SizeD d) (hn:∀ d∈l,NameD d):z63 N l=some (validD l):=by
 unfold z63
 cases l with
 | nil=>rfl
 | cons x l =>
  have h0:(((x::l).length:Int)==0)=false:=by simp;omega
  have h1:decide ((0:Int) < 0)=false:=rfl
  have h2:decide ((0:Int)≥((x::l).length:Int))=false:=by simp
  have e0:idx (x::l) (0:Int)=some x:=by rw [show (0:Int)=((0:Nat):Int) from rfl,idx_nat];rfl
  have hb:∃ r,z159 N x=some r:=bounds_l4 hN x (hd x (by simp)) x.Fields 0 N [] rfl (by have:=(hd x (by simp)).f;omega) (by have:=(hd x (by simp)).f;simp;omega)
  obtain ⟨r,hr⟩:=hb
  unfold z122
  rw [h0,h1,h2,valid_eq hN (x::l) hl hd hn,e0]
  simp only [cond_false,Option.bind_some,hr]
  cases validD (x::l)<;>rfl
/-- A valid automaton. -/
structure ValidG (g:T4):Prop where
 named:namedV g=true
 num:numV g=true
 decls:validD g.Decls=true
 apart:apartV g=true
 noEnd:(g.Edges.all fun x => !(x.From==g.End))=true
 time:timeV g=true
 reach:∃ F,Dist (ers g false) g.States.toNat g.Start F∧posV F=true
 ends:∃ L,Dist (ers g true) g.States.toNat g.End L∧posV L=true
theorem Valid_both (hN:4194304 < N) (g:T4) (hg:SizeG g) (hs:SizeN g) (hn:NumE g):∃ b,z22 N g=some b∧z19 N g=some b∧(b=true↔ValidG g):=by
 unfold z22 z19
 rw [named_eq hN g hg hs,numbered_eq hN g hg.e,declared_eq hN g.Decls hg.d hg.dd hs.d,ordered_eq hN g hg.e,timed_eq hN g hg.t,names_eq hN g hg hs,numbers_eq hN g hg.e,apart_eq hN g hg.e]
 simp only [Option.bind_some]
 cases h1:namedV g
 ·exact ⟨false,by simp,by simp,by simp;intro h;have:=h.named;rw [h1] at this;cases this⟩
 cases h2:numV g
 ·refine ⟨false,by simp,?_,by simp;intro h;have:=h.num;rw [h2] at this;cases this⟩
  cases validD g.Decls<;>rfl
 cases h3:validD g.Decls
 ·exact ⟨false,by simp,by simp,by simp;intro h;have:=h.decls;rw [h3] at this;cases this⟩
 rw [orderV_eq]
 obtain ⟨o1,o2,o3,o4,o5,o6,o7⟩:=numV_head h2
 obtain ⟨F,f1,f2⟩:=spread_eq hN g h2 false g.Start o3 o4
 obtain ⟨L,l1,l2⟩:=spread_eq hN g h2 true g.End o5 o6
 rw [f1,l1,connected_eq hN g h2 hn l2 f2,refTimed_eq hN g hg.t h2]
 have cF:=containsInt_eq hN F (by rw [f2.len];omega) (-1)
 have cL:=containsInt_eq hN L (by rw [l2.len];omega) (-1)
 have pF:(F.any fun d=>d==-1) = !posV F:=by unfold posV;rw [Bool.not_not]
 have pL:(L.any fun d=>d==-1) = !posV L:=by unfold posV;rw [Bool.not_not]
 rw [pF] at cF
 rw [pL] at cL
 simp only [Option.bind_some,cF,cL]
 cases h4:apartV g
 ·exact ⟨false,by simp,by simp,by simp;intro h;have:=h.apart;rw [h4] at this;cases this⟩
 cases h5:(g.Edges.all fun x => !(x.From==g.End))
 ·refine ⟨false,by simp,?_,?_⟩
  ·cases posV F<;>cases posV L<;>rfl
  ·simp only [Bool.false_eq_true,false_iff]
   intro h;have:=h.noEnd;rw [h5] at this;cases this
 cases h6:timeV g
 ·refine ⟨false,by simp,?_,?_⟩
  ·cases posV F<;>cases posV L<;>rfl
  ·simp only [Bool.false_eq_true,false_iff]
   intro h;have:=h.time;rw [h6] at this;cases this
 cases h7:posV F
 ·refine ⟨false,by simp,by simp,?_⟩
  simp only [Bool.false_eq_true,false_iff]
  intro h
  obtain ⟨F',a,b⟩:=h.reach
  rw [a.uniq f2,h7] at b;cases b
 cases h8:posV L
 ·refine ⟨false,by simp,by simp,?_⟩
  simp only [Bool.false_eq_true,false_iff]
  intro h
  obtain ⟨L',a,b⟩:=h.ends
  rw [a.uniq l2,h8] at b;cases b
 exact ⟨true,by simp,by simp,by simp;exact ⟨h1,h2,h3,h4,h5,h6,⟨F,f2,h7⟩,⟨L,l2,h8⟩⟩⟩
end Gp
end
section
/- Plain law: both sides number the states alike. -/
namespace Gp
open Go Go.Kx Gx
variable {N:Nat}
/-- The first place of a number, from k on. -/
def plc:List Int→Int→Nat→Int
 | [],_,_=>-1
 | x::l,v,k=>if x=v then (k:Int) else plc l v (k+1)
def tmos (g:T4) (k:Int):List T8:=g.Timeouts.filter fun t=>t.Else==k
def ordN (ord:List Int) (v:Int):List Int:=if v∈ord then ord else ord++[v]
structure CSt where
 E:List T2
 T:List T8
 O:List Int
def stepC (g:T4) (i:Int) (s:CSt) (k:Int):CSt :=
 match idx g.Edges k with
 | some x=>⟨s.E++[⟨i,x.Act,plc (ordN s.O x.To) x.To 0,x.Again⟩],s.T++(tmos g k).map (fun t=>⟨i,t.Ticks,(s.E.length:Int)⟩),ordN s.O x.To⟩
 | none=>s
theorem timeV_sorted {g:T4} (h:timeV g=true):g.Timeouts.Pairwise (fun a b=>a.State < b.State):=by
 have h:=(allV_iff _ _ _).mp h
 have one:∀ i x,g.Timeouts[i]? = some x→lastV g i < x.State:=fun i x hx=>by
  have:=of_decide_eq_true (h i x hx)
  rw [Nat.zero_add] at this
  exact this.1
 have lt:∀ (j i:Nat) x y,i < j→g.Timeouts[i]? = some x→g.Timeouts[j]? = some y→x.State < y.State:=by
  intro j
  induction j with
  | zero=>intro i x y hij;omega
  | succ j ih =>
   intro i x y hij hx hy
   have h1:=one (j+1) y hy
   have hj:j < g.Timeouts.length:=by have:=(List.getElem?_eq_some_iff.mp hy).1;omega
   have hz:=List.getElem?_eq_getElem hj
   simp only [lastV,hz] at h1
   by_cases e:i=j
   ·subst e;rw [hz] at hx;cases hx;exact h1
   ·exact Int.lt_trans (ih i x _ (by omega) hx hz) h1
 rw [List.pairwise_iff_getElem]
 intro i j hi hj hij
 exact lt j i _ _ hij (List.getElem?_eq_getElem hi) (List.getElem?_eq_getElem hj)
theorem timeV_else {g:T4} (h:timeV g=true) {t:T8} (ht:t∈g.Timeouts):∃ x,idx g.Edges t.Else=some x∧x.From=t.State∧x.Again=false:=by
 obtain ⟨i,hi⟩:=List.mem_iff_getElem?.mp ht
 have:=of_decide_eq_true ((allV_iff _ _ _).mp h i t hi)
 obtain ⟨_,_,_,h3,h4,h5⟩:=this
 obtain ⟨e,he,_⟩:=else_some h3 h4
 unfold elseOk at h5
 rw [he] at h5
 simp only [Bool.and_eq_true,beq_iff_eq,Bool.not_eq_true'] at h5
 exact ⟨e,he,h5.1,h5.2⟩
end Gp
end
section
/- Plain law: both sides answer the same canonical automaton. -/
namespace Gp
open Go Go.Kx Gx
variable {N:Nat}
/-- What the steps over the edges of a state keep. -/
structure Kept (g:T4) (S:Nat) (st st':CSt) (L:List Int):Prop where
 pre:∃ X,st'.O=st.O++X
 nodup:st.O.Nodup→st'.O.Nodup
 range:(∀ v∈st.O,0≤v∧v < (S:Int))→∀ v∈st'.O,0≤v∧v < (S:Int)
 done:∀ k∈L,∀ x,idx g.Edges k=some x→x.To∈st'.O
 lenE:st'.E.length≤st.E.length+L.length
 lenT:st'.T.length≤st.T.length+L.length
/-- The state of the numbering. -/
structure CInv (g:T4) (S:Nat) (i:Nat) (st:CSt):Prop where
 nodup:st.O.Nodup
 range:∀ v∈st.O,0≤v∧v < (S:Int)
 start:g.Start∈st.O
 closed:∀ (p:Nat) v,p < i→st.O[p]? = some v→∀ x∈g.Edges,x.From=v→x.To∈st.O
 lenE:st.E.length≤i * 400
 lenT:st.T.length≤i * 400
 le:i≤st.O.length
theorem CInv.len {g:T4} {S i:Nat} {st:CSt} (h:CInv g S i st):st.O.length≤S:=by
 have h1:(st.O.map Int.toNat).Nodup:=by
  rw [List.nodup_iff_pairwise_ne,List.pairwise_map]
  refine List.Pairwise.imp_of_mem ?_ (List.nodup_iff_pairwise_ne.mp h.nodup)
  intro a b ha hb hne hc
  have:=h.range a ha;have:=h.range b hb
  omega
 have h2:=h1.length_le_of_subset (l₂:=List.range S) (by
  intro v hv
  obtain ⟨w,hw,rfl⟩:=List.mem_map.mp hv
  have:=h.range w hw
  exact List.mem_range.mpr (by omega))
 simpa using h2
/-- How the numbering runs: from the i-th state on. -/
inductive CRun (g:T4):Nat→CSt→CSt→Prop
 | stop (i:Nat) (st:CSt):st.O.length≤i→CRun g i st st
 | step (i:Nat) (st r:CSt) (s:Int) (L:List Int):st.O[i]? = some s→EdgesAre g s L→CRun g (i+1) (L.foldl (stepC g (i:Int)) st) r→CRun g i st r
/-- All states are found. -/
theorem CInv.all {g:T4} {S:Nat} {st:CSt} (h:CInv g S st.O.length st) (hv:ValidG g) (hS:g.States.toNat=S):st.O.length=S:=by
 obtain ⟨F,hF,hp⟩:=hv.reach
 rw [hS] at hF
 have hpos:=(posV_iff hF).mp hp
 have hin:∀ (k:Nat) (v:Int),idx F v=some (k:Int)→v∈st.O:=by
  intro k
  induction k with
  | zero=>intro v hv';rw [hF.zero v hv'];exact h.start
  | succ k ih =>
   intro v hv'
   obtain ⟨u,hu,hl⟩:=hF.pred v _ hv' (by omega)
   have hm:=ih u (by rw [hl];congr 1;omega)
   obtain ⟨x,hx,hxe⟩:=List.mem_map.mp hu
   obtain ⟨p,hp'⟩:=List.mem_iff_getElem?.mp hm
   have e1:x.From=u:=congrArg Prod.fst hxe
   have e2:x.To=v:=congrArg Prod.snd hxe
   rw [← e2]
   exact h.closed p u (List.getElem?_eq_some_iff.mp hp').1 hp' x hx e1
 have h2:=(List.nodup_range (n:=S)).length_le_of_subset (l₂:=st.O.map Int.toNat) (by
  intro v hv'
  have hv':=List.mem_range.mp hv'
  obtain ⟨d,hd⟩:=idx_lt (L:=F) (v:=(v:Int)) (by omega) (by rw [hF.len];omega)
  have:=hpos _ _ hd
  exact List.mem_map.mpr ⟨(v:Int),hin d.toNat _ (by rw [hd];congr 1;omega),by simp⟩)
 have:=h.len
 simp at h2;omega
end Gp
end
section
/- Plain law: the canonical automaton of both sides. -/
namespace Gp
open Go Go.Kx Gx
variable {N:Nat}
/-- What a canonical automaton holds. -/
structure CanonOf (g:T4) (r:T4) (st:CSt):Prop where
 inv:CInv g g.States.toNat st.O.length st
 len:(st.O.length:Int)=g.States
 run:CRun g 0 ⟨[],[],[g.Start]⟩ st
 eq:r=⟨g.Name,g.Roles,g.Decls,g.States,0,plc st.O g.End 0,st.E,st.T⟩
end Gp
end
section
/- Plain law: the bytes that stand for a number, and lists of them. -/
namespace Gp
open Go Go.Kx Gx
variable {N:Nat}
/-- The bytes of a number without a sign, at most m + 1 of them. -/
def vu:Nat→Nat→List Int
 | 0,u=>[(u:Int)]
 | m+1,u=>if u < 128 then [(u:Int)] else ((u % 128+128:Nat):Int)::vu m (u / 128)
theorem vu_len:∀ (m u:Nat),(vu m u).length≤m+1
 | 0,u=>by simp [vu]
 | m+1,u=>by
  unfold vu
  split
  ·simp
  ·have:=vu_len m (u / 128);simp;omega
theorem or_all:((List.range 256).all fun r=>decide (binO .or .u8 (r:Int) (128:Int)=some (((r % 128+128:Nat)):Int)))=true:=by kernel_rfl
theorem or_128 (r:Nat) (h:r < 256):binO .or .u8 (r:Int) (128:Int)=some (((r % 128+128:Nat)):Int) :=
 of_decide_eq_true (List.all_eq_true.mp or_all r (List.mem_range.mpr h))
theorem wk8 (u:Nat):wk .u8 (u:Int)=((u % 256:Nat):Int):=by
 show IntKind.u8.wrap _=_
 simp [IntKind.wrap,IntKind.signed,IntKind.bits]
theorem shr7 (u:Nat):binO .shr .u64 (u:Int) (7:Int)=some ((u / 128:Nat):Int):=by
 show some ((u:Int).fdiv (2 ^ 7))=_
 rw [Int.fdiv_eq_ediv_of_nonneg _ (by decide)]
 simp
theorem wire_loop:∀ (m f u:Nat) (b:List Int),u < 128 ^ (m+1)→m < f→b.length+(m+1)≤4294967296→z82_l2 f b (u:Int)=some (b++vu m u):=by
 intro m
 induction m with
 | zero =>
  intro f u b hu hf hb
  obtain ⟨f,rfl⟩:∃ q,f=q+1:=⟨f-1,by omega⟩
  have hu:u < 128:=by simpa using hu
  have:decide ((u:Int)≥128)=false:=by simp;omega
  simp only [z82_l2,this,cond_false,z82_k1,wk8]
  rw [appL_some (by simp;omega),show u % 256=u by omega];rfl
 | succ m ih =>
  intro f u b hu hf hb
  obtain ⟨f,rfl⟩:∃ q,f=q+1:=⟨f-1,by omega⟩
  by_cases h:u < 128
  ·have:decide ((u:Int)≥128)=false:=by simp;omega
   simp only [z82_l2,this,cond_false,z82_k1,wk8]
   rw [appL_some (by simp;omega),show u % 256=u by omega]
   unfold vu
   rw [if_pos h];rfl
  ·have:decide ((u:Int)≥128)=true:=by simp;omega
   simp only [z82_l2,this,cond_true,wk8,or_128 (u % 256) (by omega),Option.bind_some,shr7]
   rw [appL_some (by simp;omega),Option.bind_some,ih f (u / 128) _ (by rw [Nat.pow_succ] at hu;omega) (by omega) (by simp;omega)]
   unfold vu
   rw [if_neg h,show u % 256 % 128=u % 128 by omega]
   cases m<;>simp [vu]
/-- The number without a sign that stands for a number. -/
def zig (n:Int):Nat:=(wk .u64 ((BitVec.ofInt 64 (wk .u64 (wk .u64 n * 2 ^ 1)) ^^^ BitVec.ofInt 64 (wk .u64 (n.fdiv (2 ^ 63)))).toNat:Int)).toNat
def vint (n:Int):List Int:=vu 9 (zig n)
theorem wk64_nonneg (n:Int):0≤wk .u64 n∧wk .u64 n < 18446744073709551616:=by
 show 0≤IntKind.u64.wrap n∧IntKind.u64.wrap n < _
 simp [IntKind.wrap,IntKind.signed,IntKind.bits]
 omega
theorem vint_len (n:Int):(vint n).length≤10:=vu_len 9 _
theorem wire_Int_eq (hN:10 < N) (b:List Int) (hb:b.length≤4000000000) (n:Int):z82 N b n=some (b++vint n):=by
 have e1:binO .shl .u64 (wk .u64 n) (1:Int)=some (wk .u64 (wk .u64 n * 2 ^ 1)):=rfl
 have e2:binO .shr .i64 n (63:Int)=some (n.fdiv (2 ^ 63)):=rfl
 have e3:∀ a c,binO .xor .u64 a c=some (wk .u64 ((BitVec.ofInt 64 a ^^^ BitVec.ofInt 64 c).toNat:Int)):=fun _ _=>rfl
 unfold z82
 rw [e1,e2]
 simp only [Option.bind_some,e3]
 have h:=wk64_nonneg ((BitVec.ofInt 64 (wk .u64 (wk .u64 n * 2 ^ 1)) ^^^ BitVec.ofInt 64 (wk .u64 (n.fdiv (2 ^ 63)))).toNat:Int)
 have hz:(zig n:Int)=wk .u64 ((BitVec.ofInt 64 (wk .u64 (wk .u64 n * 2 ^ 1)) ^^^ BitVec.ofInt 64 (wk .u64 (n.fdiv (2 ^ 63)))).toNat:Int):=by
  unfold zig;omega
 rw [← hz] at h ⊢
 have hp:(128:Nat) ^ (9+1)=1180591620717411303424:=by decide
 exact wire_loop 9 N (zig n) b (by omega) (by omega) (by omega)
/-- A loop that writes one element behind the other. -/
theorem enc_loop {α β:Type} (B c:Nat) (xs:List α) (e:α→List Int) (F:Nat→List Int→Int→Option β) (K:List Int→Option β)
  (he:∀ x∈xs,(e x).length≤c) (hx:xs.length≤4194304)
  (h1:∀ n k x b,k < xs.length→xs[k]? = some x→b.length+c≤B→F (n+1) b (k:Int)=F n (b++e x) ((k+1:Nat):Int))
  (h2:∀ n k b,xs.length≤k→F (n+1) b (k:Int)=K b) :
  ∀ (l:List α) (k n:Nat) (b:List Int),xs.drop k=l→l.length < n→b.length+c * l.length≤B→F n b (k:Int)=K (b++l.flatMap e):=by
 intro l
 induction l with
 | nil =>
  intro k n b h hn hb
  obtain ⟨n,rfl⟩:∃ m,n=m+1:=⟨n-1,by simp at hn;omega⟩
  rw [h2 n k b (drop_nil h)];simp
 | cons x l ih =>
  intro k n b h hn hb
  obtain ⟨n,rfl⟩:∃ m,n=m+1:=⟨n-1,by simp at hn;omega⟩
  obtain ⟨a,d,r⟩:=drop_cons h
  have hl:=he x (List.mem_of_getElem? d)
  simp only [List.length_cons,Nat.mul_succ] at hb hn
  rw [h1 n k x b a d (by omega),ih (k+1) n _ r (by omega) (by simp;omega)]
  simp
theorem flat_len {α:Type} (e:α→List Int) (c:Nat):∀ (l:List α),(∀ x∈l,(e x).length≤c)→(l.flatMap e).length≤c * l.length
 | [],_=>by simp
 | x::l,h=>by
  have:=h x (by simp)
  have:=flat_len e c l (fun y hy=>h y (by simp [hy]))
  rw [List.flatMap_cons,List.length_append,List.length_cons,Nat.mul_succ]
  omega
def encI (l:List Int):List Int:=l.flatMap vint
theorem encI_len (l:List Int):(encI l).length≤10 * l.length:=flat_len vint 10 l (fun x _=>vint_len x)
theorem ints_eq (hN:4194304 < N) (b l:List Int) (hl:l.length≤100) (hb:b.length≤900000000):z85 N b l=some (b++encI l):=by
 unfold z85 encI
 have:=enc_loop (β:=List Int) 1000000000 10 l vint (z85_l2 N l) (fun b=>some b) (fun x _=>vint_len x) (by omega) (by
  intro n k x b hk hx hb
  simp only [z85_l2,lt_t hk,cond_true,idx_nat,hx,Option.bind_some]
  rw [wire_Int_eq (by omega) b (by omega),Option.bind_some,w64_succ (by omega)]) (by
  intro n k b hk
  simp only [z85_l2,lt_f hk,cond_false,z85_k1]) l 0 N b rfl (by omega) (by omega)
 exact this
def encT (s:ByteArray):List Int:=vint (s.size:Int)++bytesL s
theorem encT_len (s:ByteArray):(encT s).length≤10+s.size:=by
 unfold encT
 rw [List.length_append,bytesL_len]
 have:=vint_len (s.size:Int)
 omega
theorem wtext_eq (hN:4194304 < N) (b:List Int) (s:ByteArray) (hs:s.size≤1000) (hb:b.length≤1000000000):z83 N b s=some (b++encT s):=by
 unfold z83
 rw [wire_Int_eq (by omega) b (by omega),Option.bind_some,appL_some (by rw [List.length_append,bytesL_len];have:=vint_len (s.size:Int);omega)]
 simp [encT]
theorem bool_eq (b:List Int) (v:Bool) (hb:b.length≤1000000000):z86 N b v=some (b++[if v then 1 else 0]):=by
 unfold z86
 cases v<;>simp only [cond_false,cond_true]<;>rw [appL_some (by simp;omega)]<;>rfl
end Gp
end
section
/- Plain law: the encoding of an automaton, and its checksum. -/
namespace Gp
open Go Go.Kx Gx
variable {N:Nat}
theorem word_size {s:ByteArray} (h:isWord s=true):s.size≤16:=by
 unfold isWord isName at h
 rw [size_bs]
 cases hb:bs s with
 | nil=>simp
 | cons x l =>
  rw [hb] at h
  simp only [Bool.and_eq_true,decide_eq_true_eq] at h
  simp;omega
structure SmallD (d:T0):Prop where
 n:d.Name.size≤50
 f:d.Fields.length≤4
 fn:∀ f∈d.Fields,f.Name.size≤16
 di:d.Guard.Diffs.length≤20
 eq:d.Guard.Equals.length≤20
theorem smallD {l:List T0} (h:validD l=true):l.length≤40∧∀ d∈l,SmallD d:=by
 unfold validD at h
 rw [Bool.and_eq_true,Bool.and_eq_true] at h
 obtain ⟨h1,h2,h3⟩:=h
 refine ⟨of_decide_eq_true h1,?_⟩
 intro d hd
 obtain ⟨i,hi⟩:=List.mem_iff_getElem?.mp hd
 have:=(allV_iff _ _ _).mp h3 i d hi
 unfold declV at this
 simp only [Bool.and_eq_true] at this
 obtain ⟨a1,a2,a3,a4,a5,a6⟩:=this
 unfold pathV at a1
 rw [Bool.and_eq_true] at a1
 unfold guardV at a6
 rw [Bool.and_eq_true] at a6
 have g:=of_decide_eq_true a6.1
 refine ⟨of_decide_eq_true a1.1,of_decide_eq_true a2,?_,g.1,g.2⟩
 intro f hf
 obtain ⟨j,hj⟩:=List.mem_iff_getElem?.mp hf
 have:=(allV_iff _ _ _).mp a5 j f hj
 unfold fieldV at this
 rw [Bool.and_eq_true] at this
 exact word_size this.1
def encF (f:T3):List Int:=encT f.Name++encI [f.Sort'.Kind,f.Sort'.Lo,f.Sort'.Hi]
def encDf (x:T1):List Int:=encI [x.X,x.Y,x.C]
def encEq (x:Int × Int):List Int:=encI [x.1,x.2]
def encD (d:T0):List Int :=
 encT d.Name++(vint (d.Fields.length:Int)++(d.Fields.flatMap encF++(encI [d.First,(d.Guard.Diffs.length:Int)]++(d.Guard.Diffs.flatMap encDf++(vint (d.Guard.Equals.length:Int)++d.Guard.Equals.flatMap encEq)))))
def encE (x:T2):List Int:=encI [x.From,x.Act.From,x.Act.To,x.Act.Label,x.To]++[if x.Again then 1 else 0]
def encTm (t:T8):List Int:=encI [t.State,t.Ticks,t.Else]
/-- The bytes of an automaton. -/
def encG (g:T4):List Int :=
 encT g.Name++(vint (g.Roles.length:Int)++(g.Roles.flatMap encT++(vint (g.Decls.length:Int)++(g.Decls.flatMap encD++(encI [g.States,g.Start,g.End,(g.Edges.length:Int)]++(g.Edges.flatMap encE++(vint (g.Timeouts.length:Int)++g.Timeouts.flatMap encTm)))))))
theorem encF_len {f:T3} (h:f.Name.size≤16):(encF f).length≤60:=by
 unfold encF
 have:=encT_len f.Name
 have:=encI_len [f.Sort'.Kind,f.Sort'.Lo,f.Sort'.Hi]
 simp at this ⊢;omega
theorem encDf_len (x:T1):(encDf x).length≤30:=by unfold encDf;have:=encI_len [x.X,x.Y,x.C];simpa using this
theorem encEq_len (x:Int × Int):(encEq x).length≤20:=by unfold encEq;have:=encI_len [x.1,x.2];simpa using this
theorem encE_len (x:T2):(encE x).length≤51:=by unfold encE;have:=encI_len [x.From,x.Act.From,x.Act.To,x.Act.Label,x.To];simp at this ⊢;omega
theorem encTm_len (x:T8):(encTm x).length≤30:=by unfold encTm;have:=encI_len [x.State,x.Ticks,x.Else];simpa using this
theorem encD_len {d:T0} (h:SmallD d):(encD d).length≤1400:=by
 obtain ⟨h1,h2,h3,h4,h5⟩:=h
 have a1:=encT_len d.Name
 have a2:=vint_len (d.Fields.length:Int)
 have a3:=flat_len encF 60 d.Fields (fun f hf=>encF_len (h3 f hf))
 have a4:=encI_len [d.First,(d.Guard.Diffs.length:Int)]
 have a5:=flat_len encDf 30 d.Guard.Diffs (fun x _=>encDf_len x)
 have a6:=vint_len (d.Guard.Equals.length:Int)
 have a7:=flat_len encEq 20 d.Guard.Equals (fun x _=>encEq_len x)
 unfold encD
 simp only [List.length_append,List.length_cons,List.length_nil] at a4 ⊢
 omega
theorem decl_eq (hN:4194304 < N) (b:List Int) (d:T0) (h:SmallD d) (hb:b.length≤100000000):z84 N b d=some (b++encD d):=by
 obtain ⟨h1,h2,h3,h4,h5⟩:=h
 have a1:=encT_len d.Name
 have a2:=vint_len (d.Fields.length:Int)
 have a3:=flat_len encF 60 d.Fields (fun f hf=>encF_len (h3 f hf))
 have a4:=encI_len [d.First,(d.Guard.Diffs.length:Int)]
 have a5:=flat_len encDf 30 d.Guard.Diffs (fun x _=>encDf_len x)
 have a6:=vint_len (d.Guard.Equals.length:Int)
 simp only [List.length_cons,List.length_nil] at a4
 have q2:∀ b:List Int,b.length≤200000000→z84_l2 N d N b (0:Int)=some (b++d.Guard.Equals.flatMap encEq):=by
  intro b hb
  exact enc_loop (β:=List Int) 800000000 20 d.Guard.Equals encEq (z84_l2 N d) (fun b=>some b) (fun x _=>encEq_len x) (by omega) (by
   intro n k x b hk hx hb
   simp only [z84_l2,lt_t hk,cond_true,idx_nat,hx,Option.bind_some]
   rw [ints_eq hN b _ (by simp) (by omega),Option.bind_some,w64_succ (by omega)];rfl) (by
   intro n k b hk
   simp only [z84_l2,lt_f hk,cond_false,z84_k1]) d.Guard.Equals 0 N b rfl (by omega) (by omega)
 have q4:∀ b:List Int,b.length≤180000000→z84_l4 N d N b (0:Int)=some (b++(d.Guard.Diffs.flatMap encDf++(vint (d.Guard.Equals.length:Int)++d.Guard.Equals.flatMap encEq))):=by
  intro b hb
  have:=enc_loop (β:=List Int) 800000000 30 d.Guard.Diffs encDf (z84_l4 N d) (z84_k3 N d) (fun x _=>encDf_len x) (by omega) (by
   intro n k x b hk hx hb
   simp only [z84_l4,lt_t hk,cond_true,idx_nat,hx,Option.bind_some]
   rw [ints_eq hN b _ (by simp) (by omega),Option.bind_some,w64_succ (by omega)];rfl) (by
   intro n k b hk
   simp only [z84_l4,lt_f hk,cond_false]) d.Guard.Diffs 0 N b rfl (by omega) (by omega)
  rw [show (0:Int)=((0:Nat):Int) from rfl,this]
  unfold z84_k3
  rw [wire_Int_eq (by omega) _ (by simp only [List.length_append];omega),Option.bind_some,q2 _ (by simp only [List.length_append];omega)]
  simp only [List.append_assoc]
 have q6:=enc_loop (β:=List Int) 800000000 60 d.Fields encF (z84_l6 N d) (z84_k5 N d) (fun f hf=>encF_len (h3 f hf)) (by omega) (by
  intro n k x b hk hx hb
  have hs:=h3 x (List.mem_of_getElem? hx)
  have hl:=encT_len x.Name
  simp only [z84_l6,lt_t hk,cond_true,idx_nat,hx,Option.bind_some]
  rw [wtext_eq hN b _ (by omega) (by omega),Option.bind_some,ints_eq hN _ _ (by simp) (by simp only [List.length_append];omega),Option.bind_some,w64_succ (by omega)]
  unfold encF
  rw [List.append_assoc]) (by
  intro n k b hk
  simp only [z84_l6,lt_f hk,cond_false]) d.Fields 0 N ((b++encT d.Name)++vint (d.Fields.length:Int)) rfl (by omega) (by simp only [List.length_append];omega)
 unfold z84
 rw [wtext_eq hN b _ (by omega) (by omega),Option.bind_some,wire_Int_eq (by omega) _ (by simp only [List.length_append];omega),Option.bind_some,show (0:Int)=((0:Nat):Int) from rfl,q6]
 unfold z84_k5
 rw [ints_eq hN _ _ (by simp) (by simp only [List.length_append];omega),Option.bind_some,q4 _ (by simp only [List.length_append];omega)]
 unfold encD
 simp only [List.append_assoc]
/-- The names, roles, edges and time limits of a valid automaton are few. -/
theorem smallG {g:T4} (hv:ValidG g):g.Name.size≤16∧g.Roles.length≤6∧(∀ s∈g.Roles,s.size≤16)∧g.Edges.length≤400∧g.Timeouts.length≤200:=by
 obtain ⟨o1,o2,o3,o4,o5,o6,o7⟩:=numV_head hv.num
 have h:=hv.named
 unfold namedV at h
 rw [Bool.and_eq_true,Bool.and_eq_true] at h
 obtain ⟨h1,h2,h3⟩:=h
 refine ⟨word_size h1,(of_decide_eq_true h2).2,?_,o7,?_⟩
 ·intro s hs
  obtain ⟨i,hi⟩:=List.mem_iff_getElem?.mp hs
  have:=(allV_iff _ _ _).mp h3 i s hi
  unfold roleV at this
  rw [Bool.and_eq_true] at this
  exact word_size this.1
 ·have hr:∀ t∈g.Timeouts,0≤t.State∧t.State < g.States:=by
   intro t ht
   obtain ⟨y,y1,y2,_⟩:=timeV_else hv.time ht
   have hm:y∈g.Edges:=by
    obtain ⟨k0,k1⟩:=idx_some y1
    obtain ⟨q,hq⟩:∃ q:Nat,t.Else=(q:Int):=⟨t.Else.toNat,by omega⟩
    rw [hq,idx_nat] at y1
    exact List.mem_of_getElem? y1
   obtain ⟨a1,a2,_⟩:=numV_edge hv.num hm
   rw [← y2];exact ⟨a1,a2⟩
  have hnd:(g.Timeouts.map fun t=>t.State.toNat).Nodup:=by
   rw [List.nodup_iff_pairwise_ne,List.pairwise_map]
   refine List.Pairwise.imp_of_mem ?_ (timeV_sorted hv.time)
   intro a b ha hb hlt hc
   have:=hr a ha;have:=hr b hb
   omega
  have:=hnd.length_le_of_subset (l₂:=List.range 200) (by
   intro v hm
   obtain ⟨t,ht,rfl⟩:=List.mem_map.mp hm
   have:=hr t ht
   exact List.mem_range.mpr (by omega))
  simpa using this
theorem encG_len {g:T4} (hv:ValidG g):(encG g).length≤100000:=by
 obtain ⟨s1,s2,s3,s4,s5⟩:=smallG hv
 obtain ⟨d1,d2⟩:=smallD hv.decls
 have a1:=encT_len g.Name
 have a2:=vint_len (g.Roles.length:Int)
 have a3:=flat_len encT 26 g.Roles (fun s hs=>by have:=encT_len s;have:=s3 s hs;omega)
 have a4:=vint_len (g.Decls.length:Int)
 have a5:=flat_len encD 1400 g.Decls (fun d hd=>encD_len (d2 d hd))
 have a6:=encI_len [g.States,g.Start,g.End,(g.Edges.length:Int)]
 have a7:=flat_len encE 51 g.Edges (fun x _=>encE_len x)
 have a8:=vint_len (g.Timeouts.length:Int)
 have a9:=flat_len encTm 30 g.Timeouts (fun x _=>encTm_len x)
 unfold encG
 simp only [List.length_append,List.length_cons,List.length_nil] at a6 ⊢
 omega
theorem encode_eq (hN:4194304 < N) (g:T4) (hv:ValidG g) (hV:z22 N g=some true):z37 N g=some (encG g):=by
 obtain ⟨s1,s2,s3,s4,s5⟩:=smallG hv
 obtain ⟨d1,d2⟩:=smallD hv.decls
 have a1:=encT_len g.Name
 have a2:=vint_len (g.Roles.length:Int)
 have a3:=flat_len encT 26 g.Roles (fun s hs=>by have:=encT_len s;have:=s3 s hs;omega)
 have a4:=vint_len (g.Decls.length:Int)
 have a5:=flat_len encD 1400 g.Decls (fun d hd=>encD_len (d2 d hd))
 have a6:=encI_len [g.States,g.Start,g.End,(g.Edges.length:Int)]
 have a7:=flat_len encE 51 g.Edges (fun x _=>encE_len x)
 have a8:=vint_len (g.Timeouts.length:Int)
 simp only [List.length_cons,List.length_nil] at a6
 have q2:∀ b:List Int,b.length≤200000→z37_k3 N g b=some (b++(vint (g.Timeouts.length:Int)++g.Timeouts.flatMap encTm)):=by
  intro b hb
  unfold z37_k3
  rw [wire_Int_eq (by omega) b (by omega),Option.bind_some]
  have:=enc_loop (β:=List Int) 800000000 30 g.Timeouts encTm (z37_l2 N g) (fun b=>some b) (fun x _=>encTm_len x) (by omega) (by
   intro n k x b hk hx hb
   simp only [z37_l2,lt_t hk,cond_true,idx_nat,hx,Option.bind_some]
   rw [ints_eq hN b _ (by simp) (by omega),Option.bind_some,w64_succ (by omega)];rfl) (by
   intro n k b hk
   simp only [z37_l2,lt_f hk,cond_false,z37_k1]) g.Timeouts 0 N (b++vint (g.Timeouts.length:Int)) rfl (by omega) (by simp only [List.length_append];omega)
  rw [show (0:Int)=((0:Nat):Int) from rfl,this,List.append_assoc]
 have q4:∀ b:List Int,b.length≤150000→z37_k5 N g b=some (b++(encI [g.States,g.Start,g.End,(g.Edges.length:Int)]++(g.Edges.flatMap encE++(vint (g.Timeouts.length:Int)++g.Timeouts.flatMap encTm)))):=by
  intro b hb
  unfold z37_k5
  rw [ints_eq hN b _ (by simp) (by omega),Option.bind_some]
  have:=enc_loop (β:=List Int) 800000000 51 g.Edges encE (z37_l4 N g) (z37_k3 N g) (fun x _=>encE_len x) (by omega) (by
   intro n k x b hk hx hb
   have hl:=encI_len [x.From,x.Act.From,x.Act.To,x.Act.Label,x.To]
   simp only [List.length_cons,List.length_nil] at hl
   simp only [z37_l4,lt_t hk,cond_true,idx_nat,hx,Option.bind_some]
   rw [ints_eq hN b _ (by simp) (by omega),Option.bind_some,bool_eq _ _ (by simp only [List.length_append];omega),Option.bind_some,w64_succ (by omega)]
   unfold encE
   rw [List.append_assoc]) (by
   intro n k b hk
   simp only [z37_l4,lt_f hk,cond_false]) g.Edges 0 N (b++encI [g.States,g.Start,g.End,(g.Edges.length:Int)]) rfl (by omega) (by simp only [List.length_append];omega)
  rw [show (0:Int)=((0:Nat):Int) from rfl,this,q2 _ (by simp only [List.length_append];omega)]
  simp only [List.append_assoc]
 have q6:∀ b:List Int,b.length≤50000→z37_k7 N g b=some (b++(vint (g.Decls.length:Int)++(g.Decls.flatMap encD++(encI [g.States,g.Start,g.End,(g.Edges.length:Int)]++(g.Edges.flatMap encE++(vint (g.Timeouts.length:Int)++g.Timeouts.flatMap encTm)))))):=by
  intro b hb
  unfold z37_k7
  rw [wire_Int_eq (by omega) b (by omega),Option.bind_some]
  have:=enc_loop (β:=List Int) 100000000 1400 g.Decls encD (z37_l6 N g) (z37_k5 N g) (fun d hd=>encD_len (d2 d hd)) (by omega) (by
   intro n k x b hk hx hb
   simp only [z37_l6,lt_t hk,cond_true,idx_nat,hx,Option.bind_some]
   rw [decl_eq hN b x (d2 x (List.mem_of_getElem? hx)) (by omega),Option.bind_some,w64_succ (by omega)]) (by
   intro n k b hk
   simp only [z37_l6,lt_f hk,cond_false]) g.Decls 0 N (b++vint (g.Decls.length:Int)) rfl (by omega) (by simp only [List.length_append];omega)
  rw [show (0:Int)=((0:Nat):Int) from rfl,this,q4 _ (by simp only [List.length_append];omega)]
  simp only [List.append_assoc]
 have q8:=enc_loop (β:=List Int) 800000000 26 g.Roles encT (z37_l8 N g) (z37_k7 N g) (fun s hs=>by have:=encT_len s;have:=s3 s hs;omega) (by omega) (by
  intro n k x b hk hx hb
  simp only [z37_l8,lt_t hk,cond_true,idx_nat,hx,Option.bind_some]
  rw [wtext_eq hN b _ (by have:=s3 x (List.mem_of_getElem? hx);omega) (by omega),Option.bind_some,w64_succ (by omega)]) (by
  intro n k b hk
  simp only [z37_l8,lt_f hk,cond_false]) g.Roles 0 N (([]++encT g.Name)++vint (g.Roles.length:Int)) rfl (by omega) (by simp only [List.length_append,List.length_nil];omega)
 unfold z37
 rw [hV,Option.bind_some,Bool.not_true,cond_false,wtext_eq hN [] _ (by omega) (by simp),Option.bind_some,wire_Int_eq (by omega) _ (by simp;omega),Option.bind_some,show (0:Int)=((0:Nat):Int) from rfl,q8,q6 _ (by simp only [List.length_append,List.length_nil];omega)]
 unfold encG
 simp only [List.append_assoc,List.nil_append]
end Gp
end
section
/- Plain law: numbers with a sign as numbers without one, and back. -/
namespace Gp
open Go Go.Kx Gx
variable {N:Nat}
theorem wk64 (m:Int):wk .u64 m=m % 18446744073709551616:=by
 show IntKind.u64.wrap m=_
 simp [IntKind.wrap,IntKind.signed,IntKind.bits]
theorem wi64 (m:Int) (h:0≤m) (h':m < 18446744073709551616):w64 m=if m < 9223372036854775808 then m else m-18446744073709551616:=by
 show IntKind.i64.wrap m=_
 simp [IntKind.wrap,IntKind.signed,IntKind.bits]
 split<;>omega
theorem ofI (m:Int):(BitVec.ofInt 64 m).toNat=(m % 18446744073709551616).toNat:=by
 rw [BitVec.toNat_ofInt];rfl
theorem all1:BitVec.ofInt 64 18446744073709551615=BitVec.allOnes 64:=by decide
theorem all1':BitVec.ofInt 64 (-1)=BitVec.allOnes 64:=by decide
theorem zig_pos (n:Int) (h0:0≤n) (h1:n≤9223372036854775807):zig n=(2 * n).toNat:=by
 unfold zig
 have e1:n.fdiv (2 ^ 63)=0:=by
  rw [Int.fdiv_eq_ediv_of_nonneg _ (by decide)]
  omega
 rw [e1,show wk .u64 0=0 by rw [wk64];rfl,show BitVec.ofInt 64 0=0#64 from rfl,BitVec.xor_zero,ofI,wk64,wk64,wk64]
 omega
theorem zig_neg (n:Int) (h0:n < 0) (h1:-9223372036854775808≤n):zig n=(-2 * n-1).toNat:=by
 unfold zig
 have e1:n.fdiv (2 ^ 63)=-1:=by
  rw [Int.fdiv_eq_ediv_of_nonneg _ (by decide)]
  omega
 rw [e1,show wk .u64 (-1)=18446744073709551615 by rw [wk64];rfl,all1,BitVec.xor_allOnes,BitVec.toNat_not,ofI,wk64,wk64,wk64]
 omega
theorem zig_lt (n:Int):zig n < 18446744073709551616:=by
 unfold zig
 have:=wk64_nonneg ((BitVec.ofInt 64 (wk .u64 (wk .u64 n * 2 ^ 1)) ^^^ BitVec.ofInt 64 (wk .u64 (n.fdiv (2 ^ 63)))).toNat:Int)
 omega
/-- The number with a sign that a number without one stands for. -/
def zag (u:Nat):Int:=if u % 2=0 then ((u / 2:Nat):Int) else -((u / 2:Nat):Int)-1
theorem zag_zig (n:Int) (h:I64 n):zag (zig n)=n:=by
 obtain ⟨h1,h2⟩:=h
 unfold zag
 by_cases h0:0≤n
 ·rw [zig_pos n h0 h2,if_pos (by omega)];omega
 ·rw [zig_neg n (by omega) h1,if_neg (by omega)];omega
theorem zag_i64 (u:Nat) (h:u < 18446744073709551616):I64 (zag u):=by
 unfold zag I64
 split<;>omega
theorem zig_zag (u:Nat) (h:u < 18446744073709551616):zig (zag u)=u:=by
 have hi:=zag_i64 u h
 unfold I64 at hi
 by_cases h0:0≤zag u
 ·rw [zig_pos _ h0 hi.2]
  unfold zag at h0 ⊢
  split at h0<;>omega
 ·rw [zig_neg _ (by omega) hi.1]
  unfold zag at h0 ⊢
  split at h0<;>omega
theorem shr1 (u:Nat):binO .shr .u64 (u:Int) (1:Int)=some ((u / 2:Nat):Int):=by
 show some ((u:Int).fdiv (2 ^ 1))=_
 rw [Int.fdiv_eq_ediv_of_nonneg _ (by decide)]
 simp
theorem and1 (u:Nat) (h:u < 18446744073709551616):binO .and .u64 (u:Int) (1:Int)=some ((u % 2:Nat):Int):=by
 show some (wk .u64 ((BitVec.ofInt 64 (u:Int) &&& BitVec.ofInt 64 1).toNat:Int))=_
 rw [BitVec.toNat_and,ofI,ofI,wk64]
 have e:((u:Int) % 18446744073709551616).toNat=u:=by omega
 rw [e,show ((1:Int) % 18446744073709551616).toNat=1 from rfl,Nat.and_one_is_mod]
 congr 1
 omega
theorem xor_zag (u:Nat) (h:u < 18446744073709551616):binO .xor .i64 (w64 ((u / 2:Nat):Int)) (w64 (0-(w64 ((u % 2:Nat):Int))))=some (zag u):=by
 have e1:w64 ((u / 2:Nat):Int)=((u / 2:Nat):Int):=w64_id (by omega) (by omega)
 have e2:w64 ((u % 2:Nat):Int)=((u % 2:Nat):Int):=w64_id (by omega) (by omega)
 rw [e1,e2,w64_id (by omega) (by omega)]
 show some (w64 ((BitVec.ofInt 64 ((u / 2:Nat):Int) ^^^ BitVec.ofInt 64 (0-((u % 2:Nat):Int))).toNat:Int))=_
 unfold zag
 by_cases hu:u % 2=0
 ·rw [if_pos hu,hu,show BitVec.ofInt 64 (0-((0:Nat):Int))=0#64 from rfl,BitVec.xor_zero,ofI,w64_id (by omega) (by omega)]
  congr 1;omega
 ·have hu1:u % 2=1:=by omega
  rw [if_neg hu,hu1,show BitVec.ofInt 64 (0-((1:Nat):Int))=BitVec.allOnes 64 from all1',BitVec.xor_allOnes,BitVec.toNat_not,ofI,wi64 _ (by omega) (by omega)]
  refine congrArg some ?_
  split<;>omega
theorem and_all:((List.range 256).all fun r=>decide (binO .and .u8 (r:Int) (127:Int)=some ((r % 128:Nat):Int)))=true:=by kernel_rfl
theorem and_127 (r:Nat) (h:r < 256):binO .and .u8 (r:Int) (127:Int)=some ((r % 128:Nat):Int) :=
 of_decide_eq_true (List.all_eq_true.mp and_all r (List.mem_range.mpr h))
theorem shl_def (k:IntKind) (m n:Int):binO .shl k m n=bif decide (n < 0) then none else some (k.wrap (m * 2 ^ (min n.toNat k.bits))):=rfl
/-- One group of seven bits, put in front. -/
theorem shl_grp (d i:Nat) (hd:d < 128) (hi:i≤9):binO .shl .u64 (wk .u64 (d:Int)) (w64 ((7:Int) * (i:Int)))=some (((d * 128 ^ i) % 18446744073709551616:Nat):Int):=by
 rw [w64_id (by omega) (by omega),show wk .u64 (d:Int)=(d:Int) by rw [wk64];omega]
 have h0:decide ((7:Int) * (i:Int) < 0)=false:=by simp;omega
 have hb:IntKind.u64.bits=64:=by decide
 have h1:min ((7:Int) * (i:Int)).toNat IntKind.u64.bits=7 * i:=by
  rw [hb]
  omega
 have h2:∀ m,IntKind.u64.wrap m=m % 18446744073709551616:=wk64
 rw [shl_def,h0,cond_false,h1,h2]
 congr 1
 rw [show (2:Int) ^ (7 * i)=((128 ^ i:Nat):Int) by rw [Int.pow_mul];simp]
 rw [← Int.natCast_mul]
 omega
theorem or_grp (u d i:Nat) (hu:u < 128 ^ i) (hs:u+d * 128 ^ i < 18446744073709551616):binO .or .u64 (u:Int) ((d * 128 ^ i:Nat):Int)=some ((u+d * 128 ^ i:Nat):Int):=by
 show some (wk .u64 ((BitVec.ofInt 64 (u:Int) ||| BitVec.ofInt 64 ((d * 128 ^ i:Nat):Int)).toNat:Int))=_
 rw [BitVec.toNat_or,ofI,ofI,wk64]
 have e1:((u:Int) % 18446744073709551616).toNat=u:=by omega
 have e2:(((d * 128 ^ i:Nat):Int) % 18446744073709551616).toNat=d * 128 ^ i:=by omega
 rw [e1,e2]
 have hp:(128:Nat) ^ i=2 ^ (7 * i):=by rw [Nat.pow_mul]
 have:=Nat.two_pow_add_eq_or_of_lt (i:=7 * i) (b:=u) (by rw [← hp];exact hu) d
 rw [← hp] at this
 rw [Nat.or_comm,Nat.mul_comm d,← this]
 rw [Nat.mul_comm d] at hs
 congr 1
 omega
end Gp
end
