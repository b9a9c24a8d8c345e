/- The plain law, part 1: what the functions compute answers as the statement says. -/
import Derived.Lib.Bytealg
import Derived.Test.YtopoacpklgcfnaaGreatDoorExplainParsedPure
set_option linter.all false
section
section
namespace Gp
open Go Go.Kx
theorem dF {p:Prop} [Decidable p] (h:¬p):decide p=false:=decide_eq_false h
theorem dT {p:Prop} [Decidable p] (h:p):decide p=true:=decide_eq_true h
theorem bS {α β:Type _} (a:α) (f:α→Option β):(some a).bind f=f a:=rfl
theorem cF {α:Sort _} {a b:α}:(bif false then a else b)=b:=rfl
theorem cT {α:Sort _} {a b:α}:(bif true then a else b)=a:=rfl
theorem aA {α:Type _} (a b c:List α):(a++b)++c=a++(b++c):=List.append_assoc a b c
theorem lA {α:Type _} {a b:List α}:(a++b).length=a.length+b.length:=List.length_append
theorem w64_id {n:Int} (h1:-9223372036854775808≤n) (h2:n≤9223372036854775807):w64 n=n:=by
 show IntKind.i64.wrap n=n
 simp [IntKind.wrap,IntKind.signed,IntKind.bits]
 omega
theorem w64_succ {n:Nat} (h:n < 4611686018427387904):w64 ((n:Int)+1)=((n+1:Nat):Int):=by rw [w64_id (by omega) (by omega)];omega
theorem idx_nat {α:Type} (xs:List α) (k:Nat):idx xs (k:Int)=xs[k]? := by
 unfold idx
 have:decide (0≤(k:Int))=true:=by simp
 rw [this];simp
theorem idx_int {α:Type} {xs:List α} {i:Int} {k:Nat} (h:i=k):idx xs i=xs[k]? := by rw [h,idx_nat]
theorem setL'_nat {α:Type} (xs:List α) (k:Nat) (e:α):setL' xs (k:Int) e=xs.set k e:=by unfold setL';simp
theorem setL'_int {α:Type} {xs:List α} {i:Int} {k:Nat} (h:i=k) (e:α):setL' xs i e=xs.set k e:=by rw [h,setL'_nat]
theorem get_mid {α:Type} (A:List α) (x:α) (B:List α) {k:Nat} (h:A.length=k):(A++x::B)[k]? = some x:=by
 subst h;simp
theorem set_mid {α:Type} (A:List α) (x y:α) (B:List α) {k:Nat} (h:A.length=k):(A++x::B).set k y=A++y::B:=by
 subst h;simp
theorem idx_mid {α:Type} {L A:List α} {x:α} {B:List α} {i:Int} (hL:L=A++x::B) (h:i=(A.length:Int)):idx L i=some x:=by
 rw [idx_int h,hL];exact get_mid A x B rfl
theorem setL'_mid {α:Type} {L A:List α} {x:α} {B:List α} {i:Int} (hL:L=A++x::B) (h:i=(A.length:Int)) (y:α):setL' L i y=A++y::B:=by
 rw [setL'_int h,hL];exact set_mid A x y B rfl
theorem appL_some {α:Type} {xs ys:List α} (h:xs.length+ys.length≤4294967296):appL xs ys=some (xs++ys):=by
 unfold appL
 have:Nat.ble (xs.length+ys.length) lim=true:=Nat.ble_eq_true_of_le h
 rw [this];rfl
theorem drop_cons {α:Type} {xs:List α} {k:Nat} {x:α} {l:List α} (h:xs.drop k=x::l):k < xs.length∧xs[k]? = some x∧xs.drop (k+1)=l:=by
 have hlt:k < xs.length:=by
  rcases Nat.lt_or_ge k xs.length with h' | h'
  ·exact h'
  ·rw [List.drop_eq_nil_of_le h'] at h;cases h
 rw [List.drop_eq_getElem_cons hlt] at h
 simp only [List.cons.injEq] at h
 exact ⟨hlt,by rw [List.getElem?_eq_getElem hlt,h.1],h.2⟩
theorem drop_nil {α:Type} {xs:List α} {k:Nat} (h:xs.drop k=[]):xs.length≤k:=by simpa using h
def lv {α γ:Type} (b:α→Nat→γ→γ) (e:γ):List α→Nat→γ
 | [],_=>e
 | x::l,k=>b x k (lv b e l (k+1))
theorem lv_of {α γ:Type} (xs:List α) (F:Nat→Int→γ) (b:α→Nat→γ→γ) (e:γ)
  (h1:∀ n k x,k < xs.length→xs[k]? = some x→F (n+1) (k:Int)=b x k (F n ((k+1:Nat):Int)))
  (h2:∀ n k,xs.length≤k→F (n+1) (k:Int)=e) :
  ∀ (l:List α) (k n:Nat),xs.drop k=l→l.length < n→F n (k:Int)=lv b e l k:=by
 intro l
 induction l with
 | nil =>
  intro k n h hn
  obtain ⟨n,rfl⟩:∃ m,n=m+1:=⟨n-1,by simp at hn;omega⟩
  exact h2 n k (drop_nil h)
 | cons x l ih =>
  intro k n h hn
  obtain ⟨n,rfl⟩:∃ m,n=m+1:=⟨n-1,by simp at hn;omega⟩
  obtain ⟨a,c,d⟩:=drop_cons h
  rw [h1 n k x a c,ih (k+1) n d (by simp at hn;omega)];rfl
theorem lv_from {α γ:Type} {xs:List α} {F:Nat→Int→γ} {b:α→Nat→γ→γ} {e:γ} {n:Nat} {i:Int} (hn:xs.length < n) (hi:i=((0:Nat):Int))
  (h1:∀ n k x,k < xs.length→xs[k]? = some x→F (n+1) (k:Int)=b x k (F n ((k+1:Nat):Int)))
  (h2:∀ n k,xs.length≤k→F (n+1) (k:Int)=e):F n i=lv b e xs 0:=by
 rw [hi];exact lv_of xs F b e h1 h2 xs 0 n rfl hn
theorem lt_t {k n:Nat} (h:k < n):decide ((k:Int) < (n:Int))=true:=by simp [h]
theorem lt_f {k n:Nat} (h:n≤k):decide ((k:Int) < (n:Int))=false:=by simp;omega
end Gp
end
section
namespace Gp
open Go Go.Kx
def Lt {α:Type} (K:α→Int) (r:α→α→Prop) (x y:α):Prop:=K x < K y∨(K x=K y∧r x y)
def Srt {α:Type} (K:α→Int) (r:α→α→Prop) (l:List α):Prop:=l.Pairwise (Lt K r)
variable {α:Type} {K:α→Int} {r:α→α→Prop}
theorem Lt.le {x y:α} (h:Lt K r x y):K x≤K y:=by rcases h with h | h<;>omega
theorem cut_at (L:List α) (k:Nat) (h:k≤L.length):∃ A B,L=A++B∧A.length=k :=
 ⟨L.take k,L.drop k,(List.take_append_drop k L).symm,by simp;omega⟩
theorem cut_one (L:List α) (k:Nat) (h:k < L.length):∃ A x B,L=A++x::B∧A.length=k:=by
 obtain ⟨A,B,e,hl⟩:=cut_at L k (by omega)
 cases B with
 | nil=>have:=congrArg List.length e;simp at this;omega
 | cons x B=>exact ⟨A,x,B,e,hl⟩
theorem get_at {L A:List α} {x:α} {B:List α} {k:Nat} (hL:L=A++x::B) (h:A.length=k):L[k]? = some x:=by rw [hL];exact get_mid A x B h
inductive Bk (K:α→Int) (r:α→α→Prop) (n:Nat):List α→List α→Prop
 | last (o c:List α):c.length≤n→c.Perm o→Srt K r c→Bk K r n o c
 | cons (o1 c1 o2 c2:List α):c1.length=n→c1.Perm o1→Srt K r c1→Bk K r n o2 c2→Bk K r n (o1++o2) (c1++c2)
theorem Bk.few {n:Nat} {o c:List α} (h:Bk K r n o c) (hn:0 < n) (hc:c.length < 2 * n) :
  (c.length≤n∧c.Perm o∧Srt K r c)∨∃ o1 o2 c1 c2,o=o1++o2∧c=c1++c2∧c1.length=n∧0 < c2.length∧c2.length≤n∧c1.Perm o1∧c2.Perm o2∧Srt K r c1∧Srt K r c2:=by
 cases h with
 | last _ _ h1 h2 h3=>exact .inl ⟨h1,h2,h3⟩
 | cons o1 c1 o2 c2 h1 h2 h3 h4 =>
  cases h4 with
  | last _ _ g1 g2 g3 =>
   rcases Nat.eq_zero_or_pos c2.length with h0 | h0
   ·have:c2=[]:=List.length_eq_zero_iff.mp h0
    subst this
    have:o2=[]:=by simpa using g2.symm
    subst this
    exact .inl ⟨by simp;omega,by simpa using h2,by simpa using h3⟩
   ·exact .inr ⟨o1,o2,c1,c2,rfl,rfl,h1,h0,g1,h2,g2,h3,g3⟩
  | cons p1 d1 p2 d2 g1 g2 g3 g4=>simp at hc;omega
theorem Bk.all {n:Nat} {o c:List α} (h:Bk K r n o c) (hn:0 < n) (hc:c.length≤n):c.Perm o∧Srt K r c:=by
 rcases h.few hn (by omega) with h | ⟨o1,o2,c1,c2,h1,h2,h3,h4,_⟩
 ·exact h.2
 ·subst h2;simp at hc;omega
end Gp
end
section
namespace Gp
open Go Go.Kx Gx
theorem look {α γ:Type} (xs:List α) (hs:xs.length≤4194304) (b:α→Int→γ→γ) (F:Nat→Int→γ) (e:γ) {n:Nat} (hn:4194304 < n)
  (h1:∀ n k x,k < xs.length→xs[k]? = some x→F (n+1) (k:Int)=b x k (F n (w64 ((k:Int)+1))))
  (h2:∀ n k,xs.length≤k→F (n+1) (k:Int)=e):F n (0:Int)=lv (fun x (k:Nat) r=>b x (k:Int) r) e xs 0 :=
 lv_from (by omega) rfl (fun n k x hk hx=>by rw [h1 n k x hk hx,w64_succ (by omega)]) h2
def eqStr (a b:ByteArray):Bool:=a.toList==b.toList
theorem eqStr_refl (a:ByteArray):eqStr a a=true:=by simp [eqStr]
structure SizeD (x:T0):Prop where
 f:x.Fields.length≤4194304
 d:x.Guard.Diffs.length≤4194304
 e:x.Guard.Equals.length≤4194304
structure SizeG (g:T5):Prop where
 r:g.Roles.length≤4194304
 d:g.Decls.length≤4194304
 dd:∀ x∈g.Decls,SizeD x
 e:g.Edges.length≤4194304
 t:g.Timeouts.length≤4194304
variable {N:Nat} (hN:4194304 < N)
end Gp
end
section
namespace Gp
open Go Go.Kx Gx
variable {N:Nat} (hN:4194304 < N)
def whereV {α:Type} (f:α→Bool) (l:List α):Option Int:=lv (fun x (k:Nat) r=>bif f x then some (k:Int) else r) (some (-1)) l 0
theorem bcomm (a b:ByteArray):(a.toList==b.toList)=(b.toList==a.toList):=by
 rw [Bool.eq_iff_iff,beq_iff_eq,beq_iff_eq];exact ⟨Eq.symm,Eq.symm⟩
include hN in
theorem Index_eq (l:List ByteArray) (hl:l.length≤4194304) (v:ByteArray):z186 N l v=whereV (fun x=>eqStr x v) l:=by
 unfold z186 whereV
 refine look l hl (fun x k r=>bif eqStr x v then some k else r) (z186_l2 l v) _ hN ?_ ?_
 ·intro n k x hk hx
  simp only [z186_l2,lt_t hk,idx_nat,hx,cT,bS,eqStr,bcomm v x]
 ·intro n k hk
  simp only [z186_l2,lt_f hk,cF,z186_k1]
end Gp
end
section
namespace Gp
open Go Go.Kx Gx
def I64 (n:Int):Prop:=-9223372036854775808≤n∧n≤9223372036854775807
def ekey (e:T2):Int:=e.Act.To * 1180591620717411303424+e.Act.Label
def key (g:T5) (x:Int):Int:=match g.Edges[x.toNat]? with | some e=>ekey e | none=>0
def Vx (g:T5) (x:Int):Prop:=0≤x∧x < (g.Edges.length:Int)
theorem Vx.get {g:T5} {x:Int} (h:Vx g x):∃ e,idx g.Edges x=some e∧key g x=ekey e∧e∈g.Edges:=by
 obtain ⟨h0,h1⟩:=h
 obtain ⟨k,rfl⟩:∃ k:Nat,x=(k:Int):=⟨x.toNat,by omega⟩
 have hk:k < g.Edges.length:=by omega
 refine ⟨g.Edges[k],by rw [idx_nat,List.getElem?_eq_getElem hk],?_,List.getElem_mem hk⟩
 unfold key
 rw [show (k:Int).toNat=k by simp,List.getElem?_eq_getElem hk]
end Gp
end
section
namespace Gp
open Go Go.Kx Gx
theorem lsl_to {α:Type} {L A B:List α} {i:Int} (hL:L=A++B) (hi:i=(A.length:Int)):lsl L none (some i)=some A:=by
 subst hL hi
 have h:decide ((A.length:Int)≤((A++B).length:Int))=true:=by simp;omega
 have h2:decide ((0:Int)≤(A.length:Int))=true:=by simp
 unfold lsl bnd
 simp only [Option.getD_some,Option.getD_none,h,h2]
 simp
end Gp
end
section
namespace Gp
open Go Go.Kx Gx
def allV {α:Type} (p:α→Nat→Bool):List α→Nat→Bool
 | [],_=>true
 | x::l,k=>p x k && allV p l (k+1)
theorem allV_of {α:Type} (p:α→Nat→Bool) (xs:List α) (F:Nat→Int→Option Bool) (e:Option Bool)
  (h1:∀ n k x,k < xs.length→xs[k]? = some x→F (n+1) (k:Int)=bif p x k then F n ((k+1:Nat):Int) else some false)
  (h2:∀ n k,xs.length≤k→F (n+1) (k:Int)=e) :
  ∀ (l:List α) (k n:Nat),xs.drop k=l→l.length < n→F n (k:Int)=bif allV p l k then e else some false:=by
 intro l
 induction l with
 | nil =>
  intro k n h hn
  obtain ⟨n,rfl⟩:∃ m,n=m+1:=⟨n-1,by simp at hn;omega⟩
  exact h2 n k (drop_nil h)
 | cons x l ih =>
  intro k n h hn
  obtain ⟨n,rfl⟩:∃ m,n=m+1:=⟨n-1,by simp at hn;omega⟩
  obtain ⟨a,c,d⟩:=drop_cons h
  rw [h1 n k x a c,ih (k+1) n d (by simp at hn;omega)]
  show _=bif (p x k && allV p l (k+1)) then e else some false
  cases p x k<;>rfl
theorem allV_from {α:Type} (p:α→Nat→Bool) {xs:List α} {F:Nat→Int→Option Bool} {e:Option Bool} {n:Nat} (hn:xs.length < n)
  (h1:∀ n k x,k < xs.length→xs[k]? = some x→F (n+1) (k:Int)=bif p x k then F n ((k+1:Nat):Int) else some false)
  (h2:∀ n k,xs.length≤k→F (n+1) (k:Int)=e):F n (0:Int)=bif allV p xs 0 then e else some false :=
 allV_of p xs F e h1 h2 xs 0 n rfl hn
theorem allV_iff {α:Type} (p:α→Nat→Bool):∀ (l:List α) (k:Nat),allV p l k=true↔∀ i x,l[i]? = some x→p x (k+i)=true
 | [],k=>by simp [allV]
 | x::l,k=>by
  show (p x k && allV p l (k+1))=true↔_
  rw [Bool.and_eq_true,allV_iff p l (k+1)]
  constructor
  ·rintro ⟨h0,h1⟩ i y hy
   cases i with
   | zero=>simp at hy;subst hy;exact h0
   | succ i=>have:=h1 i y (by simpa using hy);rw [show k+(i+1)=k+1+i by omega];exact this
  ·intro h
   exact ⟨by simpa using h 0 x (by simp),fun i y hy=>by rw [show k+1+i=k+(i+1) by omega];exact h (i+1) y (by simpa using hy)⟩
def bs (s:ByteArray):List UInt8:=s.data.toList
theorem size_bs (s:ByteArray):s.size=(bs s).length:=rfl
theorem slt_t {s:ByteArray} {k:Nat} (h:k < (bs s).length):decide ((k:Int) < (s.size:Int))=true:=lt_t h
theorem slt_f {s:ByteArray} {k:Nat} (h:(bs s).length≤k):decide ((k:Int) < (s.size:Int))=false:=lt_f h
theorem toList_bs (s:ByteArray):s.toList=bs s:=ByteArray.toList_eq s
theorem bs_inj {a b:ByteArray} (h:bs a=bs b):a=b:=by
 cases a with | mk a=>cases b with | mk b=>simpa [bs] using h
theorem sidx_bs (s:ByteArray) (k:Nat):sidx s (k:Int)=(bs s)[k]?.map (fun b=>(b.toNat:Int)):=by
 unfold sidx
 have h:decide (0≤(k:Int))=true:=by simp
 rw [h,cT]
 have e:s[(k:Int).toNat]? = (bs s)[k]? := by
  simp [getElem?_def,bs]
  split<;>simp_all
  rfl
 rw [e]
variable {N:Nat} (hN:4194304 < N)
def letterV (c:Int):Bool:=(decide (97≤c) && decide (c≤122)) || (decide (65≤c) && decide (c≤90))
def innerV (c:Int):Bool:=letterV c || ((decide (48≤c) && decide (c≤57)) || c==95)
theorem letter_eq (N:Nat) (c:Int):z56 N c=some (letterV c):=by
 unfold z56 letterV
 cases decide (97≤c)<;>cases decide (c≤122)<;>cases decide (65≤c)<;>rfl
theorem refLetter_eq (N:Nat) (c:Int):z95 N c=some (letterV c):=letter_eq N c
theorem inner_eq (N:Nat) (c:Int):z116 N c=some (innerV c):=by
 unfold z116 innerV z58
 rw [letter_eq]
 simp only [bS]
 cases letterV c
 ·cases decide (48≤c)<;>cases decide (c≤57)<;>rfl
 ·rfl
def isName (s:ByteArray):Bool :=
 match bs s with
 | []=>false
 | x::l=>letterV (x.toNat:Int) && (decide (l.length < 16) && allV (fun (c:UInt8) _=>innerV (c.toNat:Int)) (x::l) 0)
def keywords:List ByteArray:=[(str [97,103,97,105,110]),(str [97,110,100]),(str [97,115]),(str [97,116]),(str [99,97,108,108]),(str [99,104,111,105,99,101]),(str [101,108,115,101]),(str [102,114,111,109]),(str [105,102]),(str [105,110,116]),(str [108,101,110]),(str [108,111,111,112]),(str [109,101,115,115,97,103,101]),(str [111,102]),(str [111,102,102,101,114]),(str [111,110]),(str [111,114]),(str [112,97,114]),(str [112,108,97,121,115]),(str [112,114,111,116,111,99,111,108]),(str [115,101,114,118,105,99,101]),(str [116,101,120,116]),(str [116,105,109,101,115]),(str [116,111]),(str [118,97,114]),(str [119,104,101,114,101]),(str [119,104,105,108,101]),(str [119,105,116,104,105,110])]
def isWord (s:ByteArray):Bool:=isName s && !(keywords.any fun k=>eqStr k s)
include hN in
theorem nameL (s:ByteArray) (hs:s.size≤4194304):z125_l2 N s N (0:Int)=some (allV (fun (c:UInt8) _=>innerV (c.toNat:Int)) (bs s) 0):=by
 rw [size_bs] at hs
 rw [allV_from (xs:=bs s) (fun (c:UInt8) _=>innerV (c.toNat:Int)) (F:=z125_l2 N s) (e:=some true) (by omega)]
 ·cases allV (fun (c:UInt8) _=>innerV (c.toNat:Int)) (bs s) 0<;>rfl
 ·intro n k x hk hx
  simp only [z125_l2,slt_t hk,cT,sidx_bs,hx,Option.map_some,bS,inner_eq,w64_succ (show k < 4611686018427387904 by omega)]
  cases innerV (x.toNat:Int)<;>rfl
 ·intro n k hk
  simp only [z125_l2,slt_f hk,cF,z125_k1]
theorem nameL_ref (s:ByteArray):∀ n k,z41_l2 N s n k=z125_l2 N s n k
 | 0,_=>rfl
 | n+1,k=>by
  simp only [z41_l2,z125_l2,nameL_ref s n]
  rfl
theorem bs_nil:bs (str [])=[]:=rfl
include hN in
theorem name_eq (s:ByteArray) (hs:s.size≤4194304):z125 N s=some (isName s)∧z41 N s=some (isName s):=by
 unfold z125 z41
 rw [nameL_ref,nameL hN s hs,toList_bs,toList_bs,bs_nil,size_bs,show sidx s (0:Int)=sidx s ((0:Nat):Int) from rfl,sidx_bs]
 unfold isName
 cases h:bs s with
 | nil=>exact ⟨rfl,rfl⟩
 | cons x l =>
  have e:(x::l==([]:List UInt8))=false:=rfl
  rw [e]
  simp only [cF,List.getElem?_cons_zero,Option.map_some,bS,letter_eq,refLetter_eq]
  have d:decide (((x::l).length:Int) > 16) = !decide (l.length < 16):=by
   by_cases q:l.length < 16
   ·rw [dT q];simp;omega
   ·rw [dF q];simp;omega
  rw [d]
  cases letterV (x.toNat:Int)<;>cases decide (l.length < 16)<;>exact ⟨rfl,rfl⟩
theorem whereV_any {α:Type} (f:α→Bool) (l:List α) (k:Nat):∃ i,lv (fun x (k:Nat) r=>bif f x then some (k:Int) else r) (some (-1)) l k=some i∧decide (i≥0)=l.any f:=by
 induction l generalizing k with
 | nil=>exact ⟨-1,rfl,rfl⟩
 | cons x l ih =>
  show ∃ i,(bif f x then some (k:Int) else lv _ _ l (k+1))=some i∧_
  rw [List.any_cons]
  cases f x
  ·exact ih (k+1)
  ·exact ⟨k,rfl,by simp⟩
include hN in
theorem contains_eq (l:List ByteArray) (hl:l.length≤4194304) (v:ByteArray):z123 N l v=some (l.any fun x=>eqStr x v):=by
 unfold z123
 rw [Index_eq hN l hl]
 obtain ⟨i,h1,h2⟩:=whereV_any (fun x=>eqStr x v) l 0
 unfold whereV
 rw [h1,bS,h2]
include hN in
theorem refIn_eq (l:List ByteArray) (hl:l.length≤4194304) (v:ByteArray):z42 N l v=some (l.any fun x=>eqStr x v):=by
 unfold z42
 rw [look l hl (fun x k r=>bif eqStr x v then some true else r) (z42_l2 l v) (some false) hN]
 ·generalize (0:Nat)=k
  induction l generalizing k with
  | nil=>rfl
  | cons x l ih =>
   show (bif eqStr x v then some true else lv _ _ l (k+1))=_
   rw [List.any_cons,ih (by simp at hl;omega)]
   cases eqStr x v<;>rfl
 ·intro n k x hk hx
  simp only [z42_l2,lt_t hk,idx_nat,hx,cT,bS,eqStr]
 ·intro n k hk
  simp only [z42_l2,lt_f hk,cF,z42_k1]
include hN in
theorem word_eq (s:ByteArray) (hs:s.size≤4194304):z67 N s=some (isWord s)∧z19 N s=some (isWord s):=by
 obtain ⟨h1,h2⟩:=name_eq hN s hs
 unfold z67 z19 z43
 rw [h1,h2]
 simp only [bS]
 have c1:=contains_eq hN keywords (by decide) s
 have c2:=refIn_eq hN keywords (by decide) s
 unfold keywords at c1 c2
 rw [c1,c2]
 unfold isWord keywords
 simp only [bS]
 cases isName s<;>exact ⟨rfl,rfl⟩
end Gp
end
section
namespace Gp
open Go Go.Kx Gx
theorem minI_lt {a b n:Int}:minI a b < n↔a < n∨b < n:=by unfold minI;split<;>omega
theorem maxI_ge {a b n:Int}:maxI a b≥n↔a≥n∨b≥n:=by unfold maxI;split<;>omega
variable {N:Nat} (hN:4194304 < N)
def okE (g:T5) (x:T2):Prop :=
 0≤x.From∧x.From < g.States∧0≤x.To∧x.To < g.States∧0≤x.Act.From∧x.Act.From < (g.Roles.length:Int)∧0≤x.Act.To∧x.Act.To < (g.Roles.length:Int)∧x.Act.From≠x.Act.To∧0≤x.Act.Label∧x.Act.Label < (g.Decls.length:Int)
instance (g:T5) (x:T2):Decidable (okE g x):=by unfold okE;infer_instance
def okH (g:T5):Prop :=
 1≤g.States∧g.States≤200∧0≤g.Start∧g.Start < g.States∧0≤g.End∧g.End < g.States∧g.Edges.length≤400
instance (g:T5):Decidable (okH g):=by unfold okH;infer_instance
def numV (g:T5):Bool:=decide (okH g) && allV (fun x _=>decide (okE g x)) g.Edges 0
def apartP (x y:T2) (same:Bool):Bool :=
 !((!same && (x.From==y.From && ((((x.Act.From==y.Act.From) && ((x.Act.To==y.Act.To) && ((x.Act.Label==y.Act.Label) && true)))) || (x.Act.From != y.Act.From || x.Again)))) || (x.Again && (y.To==x.From && (x.Act.From != y.Act.From || x.Act.Label != y.Act.Label))))
def apartE (g:T5) (x:T2) (k:Nat):Bool := !(x.Again && x.From==g.Start) && allV (fun y i=>apartP x y (decide (k=i))) g.Edges 0
def apartV (g:T5):Bool:=allV (fun x k=>apartE g x k) g.Edges 0
end Gp
end
section
namespace Gp
open Go Go.Kx Gx
variable {N:Nat} (hN:4194304 < N)
def elseOk (g:T5) (x:T11):Bool:=match idx g.Edges x.Else with | some e=>e.From==x.State && !e.Again | none=>false
def okT (g:T5) (x:T11):Prop:=1≤x.Ticks∧x.Ticks≤1000∧0≤x.Else∧x.Else < (g.Edges.length:Int)∧elseOk g x=true
instance (g:T5) (x:T11):Decidable (okT g x):=by unfold okT;infer_instance
def lastV (g:T5):Nat→Int
 | 0=>-1
 | k+1=>match g.Timeouts[k]? with | some t=>t.State | none=>-1
def timeV (g:T5):Bool:=allV (fun x k=>decide (lastV g k < x.State∧okT g x)) g.Timeouts 0
end Gp
end
section
namespace Gp
open Go Go.Kx Gx
theorem idx_some {α:Type} {L:List α} {v:Int} {d:α} (h:idx L v=some d):0≤v∧v < (L.length:Int):=by
 by_cases h0:0≤v
 ·obtain ⟨k,rfl⟩:∃ k:Nat,v=(k:Int):=⟨v.toNat,by omega⟩
  rw [idx_nat] at h
  obtain ⟨hk,_⟩:=List.getElem?_eq_some_iff.mp h
  exact ⟨h0,by omega⟩
 ·unfold idx at h
  rw [dF h0] at h;cases h
theorem idx_lt {α:Type} {L:List α} {v:Int} (h0:0≤v) (h1:v < (L.length:Int)):∃ d,idx L v=some d:=by
 obtain ⟨k,rfl⟩:∃ k:Nat,v=(k:Int):=⟨v.toNat,by omega⟩
 exact ⟨L[k]'(by omega),by rw [idx_nat,List.getElem?_eq_getElem]⟩
theorem setL_len {α:Type} (L:List α) {b:Int} (d:α) (h0:0≤b):(setL' L b d).length=L.length:=by
 obtain ⟨k,rfl⟩:∃ k:Nat,b=(k:Int):=⟨b.toNat,by omega⟩
 rw [setL'_nat];simp
theorem idx_set {α:Type} {L:List α} {b:Int} {d:α} (h0:0≤b) (h1:b < (L.length:Int)) (v:Int):idx (setL' L b d) v=if v=b then some d else idx L v:=by
 obtain ⟨k,rfl⟩:∃ k:Nat,b=(k:Int):=⟨b.toNat,by omega⟩
 rw [setL'_nat]
 by_cases hv:0≤v
 ·obtain ⟨j,rfl⟩:∃ j:Nat,v=(j:Int):=⟨v.toNat,by omega⟩
  rw [idx_nat,idx_nat,List.getElem?_set]
  by_cases e:k=j
  ·subst e;simp;omega
  ·rw [if_neg e,if_neg (by omega)]
 ·rw [if_neg (by omega)]
  unfold idx
  rw [dF hv];rfl
theorem count_set {L:List Int} {b d:Int} (h:idx L b=some (-1)) (hd:d≠-1):(setL' L b d).count (-1)+1=L.count (-1):=by
 obtain ⟨h0,h1⟩:=idx_some h
 obtain ⟨k,rfl⟩:∃ k:Nat,b=(k:Int):=⟨b.toNat,by omega⟩
 rw [idx_nat] at h
 rw [setL'_nat]
 obtain ⟨A,x,B,rfl,hl⟩:=cut_one L k (by omega)
 rw [get_mid A x B hl] at h
 cases h
 rw [set_mid A (-1) d B hl]
 simp [List.count_append,List.count_cons,hd]
 omega
def er (back:Bool) (x:T2):Int × Int:=(bif back then x.To else x.From,bif back then x.From else x.To)
def ers (g:T5) (back:Bool):List (Int × Int):=g.Edges.map (er back)
structure Jn (E:List (Int × Int)) (S:Nat) (e da:Int) (out todo:List Int) (mu:Nat):Prop where
 len:out.length=S
 lo:∀ v d,idx out v=some d→-1≤d∧d≤da+1
 ub:∀ v d,idx out v=some d→d+(out.count (-1):Nat)+1≤(S:Int)
 root:idx out e=some 0
 zero:∀ v,idx out v=some 0→v=e
 pred:∀ v d,idx out v=some d→0 < d→∃ u,(u,v)∈E∧idx out u=some (d-1)
 todo_in:∀ v∈todo,∃ d,idx out v=some d∧da≤d∧0≤d
 sorted:todo.Pairwise (fun x y=>∀ dx dy,idx out x=some dx→idx out y=some dy→dx≤dy)
 proc:∀ u v d,(u,v)∈E→idx out u=some d→0≤d→u ∉ todo→∃ d',idx out v=some d'∧0≤d'∧d'≤d+1
 mu_eq:out.count (-1)+todo.length=mu
theorem Jn.push {E:List (Int × Int)} {S:Nat} {e da a v:Int} {out todo:List Int} {mu:Nat} (h:Jn E S e da out todo mu) (ha:idx out a=some da) (ha0:0≤da) (hE:(a,v)∈E) (hv:idx out v=some (-1)) :
  Jn E S e da (setL' out v (da+1)) (todo++[v]) mu∧∀ w d,idx out w=some d→0≤d→idx (setL' out v (da+1)) w=some d:=by
 obtain ⟨v0,v1⟩:=idx_some hv
 have hset:=fun w=>idx_set (L:=out) (d:=da+1) v0 v1 w
 have hcnt:=count_set hv (d:=da+1) (by omega)
 have ext:∀ w d,idx out w=some d→0≤d→idx (setL' out v (da+1)) w=some d:=by
  intro w d hw hd
  rw [hset,if_neg]
  ·exact hw
  ·intro hc;subst hc;rw [hv] at hw;cases hw;omega
 refine ⟨⟨?_,?_,?_,ext _ _ h.root (by omega),?_,?_,?_,?_,?_,?_⟩,ext⟩
 ·rw [setL_len _ _ v0,h.len]
 ·intro w d hw
  rw [hset] at hw
  split at hw
  ·cases hw;omega
  ·exact h.lo w d hw
 ·intro w d hw
  have:=h.ub a da ha
  rw [hset] at hw
  split at hw
  ·cases hw;omega
  ·have:=h.ub w d hw;omega
 ·intro w hw
  rw [hset] at hw
  split at hw
  ·have:=Option.some.inj hw;omega
  ·exact h.zero w hw
 ·intro w d hw hd
  rw [hset] at hw
  split at hw
  ·rename_i hc
   cases hw
   subst hc
   exact ⟨a,hE,by rw [show da+1-1=da by omega];exact ext a da ha ha0⟩
  ·obtain ⟨u,u1,u2⟩:=h.pred w d hw hd
   exact ⟨u,u1,ext _ _ u2 (by omega)⟩
 ·intro w hw
  rcases List.mem_append.mp hw with hw | hw
  ·obtain ⟨d,d1,d2,d3⟩:=h.todo_in w hw
   exact ⟨d,ext _ _ d1 d3,d2,d3⟩
  ·simp at hw;subst hw
   exact ⟨da+1,by rw [hset,if_pos rfl],by omega,by omega⟩
 ·refine List.pairwise_append.mpr ⟨?_,by simp,?_⟩
  ·refine List.Pairwise.imp_of_mem ?_ h.sorted
   intro x y hx hy hxy dx dy h1 h2
   obtain ⟨d,d1,d2,d3⟩:=h.todo_in x hx
   obtain ⟨f,f1,f2,f3⟩:=h.todo_in y hy
   rw [ext _ _ d1 d3] at h1;rw [ext _ _ f1 f3] at h2
   cases h1;cases h2
   exact hxy _ _ d1 f1
  ·intro x hx y hy dx dy h1 h2
   simp at hy;subst hy
   obtain ⟨d,d1,d2,d3⟩:=h.todo_in x hx
   rw [ext _ _ d1 d3] at h1
   rw [hset,if_pos rfl] at h2
   cases h1;cases h2
   exact (h.lo x _ d1).2
 ·intro p q d hpq hp hd hn
  have hpv:p≠v:=fun hc=>hn (by simp [hc])
  rw [hset,if_neg hpv] at hp
  obtain ⟨d',q1,q2,q3⟩:=h.proc p q d hpq hp hd (fun hc=>hn (by simp [hc]))
  exact ⟨d',ext _ _ q1 q2,q2,q3⟩
 ·have:=h.mu_eq
  simp;omega
variable {N:Nat}
structure Dist (E:List (Int × Int)) (S:Nat) (e:Int) (L:List Int):Prop where
 len:L.length=S
 lo:∀ v d,idx L v=some d→-1≤d∧d < (S:Int)
 root:idx L e=some 0
 zero:∀ v,idx L v=some 0→v=e
 pred:∀ v d,idx L v=some d→0 < d→∃ u,(u,v)∈E∧idx L u=some (d-1)
 succ:∀ u v d,(u,v)∈E→idx L u=some d→0≤d→∃ d',idx L v=some d'∧0≤d'∧d'≤d+1
end Gp
end
section
namespace Gp
open Go Go.Kx Gx
variable {N:Nat}
end Gp
end
section
namespace Gp
open Go Go.Kx Gx
variable {N:Nat}
def posV (L:List Int):Bool := !(L.any fun d=>d==-1)
structure Rc (S:Nat) (F:List Int) (n:Int) (R:List Bool):Prop where
 len:R.length=S
 sound:∀ v,idx R v=some true→∃ d,idx F v=some d∧0≤d
 full:∀ v d,idx F v=some d→0≤d→d≤n→idx R v=some true
theorem Rc.set {S:Nat} {F:List Int} {n:Int} {R:List Bool} (h:Rc S F n R) {v:Int} {b:Bool} (v0:0≤v) (v1:v < (S:Int)) (hb:b=true→∃ d,idx F v=some d∧0≤d) (hm:idx R v=some true→b=true):Rc S F n (setL' R v b):=by
 have hset:=fun w=>idx_set (L:=R) (d:=b) v0 (by rw [h.len];exact v1) w
 refine ⟨by rw [setL_len _ _ v0,h.len],?_,?_⟩
 ·intro w hw
  rw [hset] at hw
  split at hw
  ·rename_i hc;subst hc;exact hb (Option.some.inj hw)
  ·exact h.sound w hw
 ·intro w d hw h0 h1
  rw [hset]
  split
  ·rename_i hc;subst hc
   rw [hm (h.full _ _ hw h0 h1)]
  ·exact h.full w d hw h0 h1
end Gp
end
section
namespace Gp
open Go Go.Kx Gx
def mkB (l:List UInt8):ByteArray:=⟨l.toArray⟩
theorem bs_mkB (l:List UInt8):bs (mkB l)=l:=by simp [bs,mkB]
theorem mkB_bs (s:ByteArray):mkB (bs s)=s:=bs_inj (bs_mkB _)
theorem bs_extract (s:ByteArray) (a b:Nat):bs (s.extract a b)=((bs s).take b).drop a:=by
 unfold bs
 rw [ByteArray.data_extract,Array.toList_extract]
 simp [List.extract,List.drop_take]
theorem ssl_mid {s:ByteArray} {x y z:List UInt8} {i j:Int} (h:bs s=x++(y++z)) (hi:i=(x.length:Int)) (hj:j=((x.length+y.length:Nat):Int)):ssl s (some i) (some j)=some (mkB y):=by
 subst hi hj
 have q1:decide ((0:Int)≤(x.length:Int))=true:=by simp
 have q2:decide ((x.length:Int)≤((x.length+y.length:Nat):Int))=true:=by simp;omega
 have q3:decide (((x.length+y.length:Nat):Int)≤(s.size:Int))=true:=by rw [size_bs,h];simp;omega
 unfold ssl bnd
 simp only [Option.getD_some,q1,q2,q3,Bool.and_self,cT,Option.map_some,Int.toNat_natCast]
 congr 1
 apply bs_inj
 rw [bs_extract,bs_mkB,h,← aA,List.take_append_of_le_length (by simp),List.take_of_length_le (by simp)]
 simp
theorem ssl_to {s:ByteArray} {x y:List UInt8} {j:Int} (h:bs s=x++y) (hj:j=(x.length:Int)):ssl s none (some j)=some (mkB x):=by
 have e:ssl s none (some j)=ssl s (some 0) (some j):=rfl
 rw [e]
 exact ssl_mid (x:=[]) (y:=x) (z:=y) (by rw [h];rfl) rfl (by rw [hj];simp)
theorem ssl_from {s:ByteArray} {x y:List UInt8} {i:Int} (h:bs s=x++y) (hi:i=(x.length:Int)):ssl s (some i) none=some (mkB y):=by
 have e:ssl s (some i) none=ssl s (some i) (some (s.size:Int)):=rfl
 rw [e]
 exact ssl_mid (x:=x) (y:=y) (z:=[]) (by rw [h];simp) hi (by rw [size_bs,h];simp)
theorem indexB_some {l:List UInt8} {c:UInt8} (h:0 < l.count c):∃ p q,l=p++c::q∧p.count c=0∧Go.Lib.indexByte l c=(p.length:Int):=by
 induction l with
 | nil=>simp at h
 | cons b l ih =>
  cases hc:(b==c)
  ·rw [List.count_cons,hc] at h
   obtain ⟨p,q,h1,h2,h3⟩:=ih (by simpa using h)
   refine ⟨b::p,q,by rw [h1];rfl,by rw [List.count_cons,h2,hc];rfl,?_⟩
   unfold Go.Lib.indexByte
   rw [hc,h3,show ((p.length:Int)==-1)=false by simp]
   simp
  ·have:b=c:=by simpa using hc
   subst this
   exact ⟨[],l,rfl,by simp,by unfold Go.Lib.indexByte;rw [hc];rfl⟩
def splitA (acc:List UInt8):List UInt8→List (List UInt8)
 | []=>[acc]
 | c::l=>if c=46 then acc::splitA [] l else splitA (acc++[c]) l
theorem splitA_cons (acc:List UInt8) (c:UInt8) (l:List UInt8):splitA acc (c::l)=if c=46 then acc::splitA [] l else splitA (acc++[c]) l:=rfl
theorem splitA_none:∀ (l acc:List UInt8),l.count 46=0→splitA acc l=[acc++l]
 | [],acc,_=>by simp [splitA]
 | c::l,acc,h=>by
  rw [List.count_cons] at h
  have hc:¬ c=46:=by intro hc;subst hc;simp at h
  rw [splitA_cons,if_neg hc,splitA_none l _ (by omega)];simp
theorem splitA_some:∀ (p acc q:List UInt8),p.count 46=0→splitA acc (p++46::q)=(acc++p)::splitA [] q
 | [],acc,q,_=>by rw [List.nil_append,splitA_cons,if_pos rfl,List.append_nil]
 | c::p,acc,q,h=>by
  rw [List.count_cons] at h
  have hc:¬ c=46:=by intro hc;subst hc;simp at h
  show splitA acc (c::(p++46::q))=_
  rw [splitA_cons,if_neg hc,splitA_some p _ q (by omega)];simp
theorem splitA_len:∀ (l acc:List UInt8),(splitA acc l).length=l.count 46+1
 | [],acc=>by simp [splitA]
 | c::l,acc=>by
  rw [splitA_cons,List.count_cons]
  split
  ·rename_i h;subst h
   rw [List.length_cons,splitA_len l];simp
  ·rename_i h
   rw [splitA_len l];simp [h]
variable {N:Nat}
theorem index_eq (s:ByteArray):z182 N s (str [46])=some (Go.Lib.indexByte (bs s) 46):=by
 unfold z182 z225
 have h1:(((str [46]).size:Int)==0)=false:=rfl
 have h2:(((str [46]).size:Int)==1)=true:=rfl
 have h3:sidx (str [46]) (0:Int)=some 46:=by
  rw [show (0:Int)=((0:Nat):Int) from rfl,sidx_bs];rfl
 rw [h1,h2,h3]
 simp only [cT,cF,bS,z181]
 have hf:firstB s 46=Go.Lib.indexByte (bs s) 46:=Go.Lib.firstIdx_eq s 46
 rw [hf,toList_bs,toList_bs]
 cases he:(bs (str [46])==bs s)
 ·rfl
 ·have he:bs (str [46])=bs s:=eq_of_beq he
  rw [← he];rfl
theorem count_eq (s:ByteArray):z236 N s (str [46])=some (((bs s).count 46:Nat):Int):=by
 unfold z236
 have h1:(((str [46]).size:Int)==0)=false:=rfl
 have h2:(((str [46]).size:Int)==1)=true:=rfl
 have h3:sidx (str [46]) (0:Int)=some 46:=by
  rw [show (0:Int)=((0:Nat):Int) from rfl,sidx_bs];rfl
 rw [h1,h2,h3]
 simp only [cT,cF,bS]
 congr 1
 unfold countB
 rw [show s.foldl (fun (n:Int) x=>if x==Kx.byteOf 46 then n+1 else n) ((0:Nat):Int)=(bs s).foldl (fun (n:Int) x=>if x==Kx.byteOf 46 then n+1 else n) ((0:Nat):Int) from Go.Lib.foldl_data _ _ _,Go.Lib.count_foldl]
 simp [Go.Lib.countByte,Kx.byteOf]
theorem gen_loop (s sep:ByteArray) (hsep:sep=str [46]) (cnt:Nat) (hc:cnt≤s.size) (hs:s.size≤4194304) :
  ∀ (n:Nat) (cur:ByteArray) (D R:List ByteArray),(bs cur).count 46 < n→(bs cur).length≤4194304→D.length+(bs cur).count 46=cnt→R.length=(bs cur).count 46+1 →
  z216_l2 N s sep (0:Int) ((cnt+1:Nat):Int) n cur (D++R) (D.length:Int)=some (D++(splitA [] (bs cur)).map mkB):=by
 subst hsep
 intro n
 induction n with
 | zero=>intro cur D R h;omega
 | succ n ih =>
  intro cur D R hn hcur hD hR
  have hw:w64 ((s.size:Int)+1)=((s.size+1:Nat):Int):=w64_succ (by omega)
  have hmin:minI ((cnt+1:Nat):Int) ((s.size+1:Nat):Int)=((cnt+1:Nat):Int):=by unfold minI;rw [if_neg (by omega)]
  have hw2:w64 (((cnt+1:Nat):Int)-1)=(cnt:Int):=by rw [w64_id (by omega) (by omega)];omega
  have fin:(bs cur).count 46=0→z216_k1 cur (D++R) (D.length:Int)=some (D++(splitA [] (bs cur)).map mkB):=by
   intro h0
   rw [h0] at hR
   obtain ⟨r,rfl⟩:=List.length_eq_one_iff.mp hR
   unfold z216_k1
   rw [idx_mid (A:=D) (x:=r) (B:=[]) rfl rfl,bS,setL'_mid (A:=D) (x:=r) (B:=[]) rfl rfl,w64_succ (by omega),lsl_to (A:=D++[cur]) (B:=[]) (by simp) (by simp),splitA_none _ _ h0]
   simp [mkB_bs]
  by_cases hlt:D.length < cnt
  ·have hd:decide ((D.length:Int) < (cnt:Int))=true:=by simp;omega
   obtain ⟨p,q,e1,e2,e3⟩:=indexB_some (l:=bs cur) (c:=46) (by omega)
   have hlen:(bs cur).length=p.length+(q.length+1):=by rw [e1];simp
   have hcnt:(bs cur).count 46=q.count 46+1:=by rw [e1,List.count_append,List.count_cons,e2];simp
   obtain ⟨r,R',rfl⟩:∃ r R',R=r::R':=by
    cases R with
    | nil=>simp at hR
    | cons r R'=>exact ⟨r,R',rfl⟩
   simp only [List.length_cons] at hR
   have hneg:decide ((p.length:Int) < 0)=false:=by simp
   have wp:w64 ((p.length:Int)+0)=(p.length:Int):=by rw [w64_id (by omega) (by omega)];omega
   have wp1:w64 ((p.length:Int)+((str [46]).size:Int))=((p++[46]:List UInt8).length:Int):=by
    rw [show ((str [46]).size:Int)=1 from rfl,w64_succ (by omega)];simp
   simp only [z216_l2,hw,hmin,hw2,hd,cT,index_eq,e3,bS,hneg,cF,wp,wp1]
   rw [ssl_to e1 rfl,bS,idx_mid (A:=D) (x:=r) (B:=R') rfl rfl,bS,ssl_from (x:=p++[46]) (y:=q) (by rw [e1];simp) rfl,bS,setL'_mid (A:=D) (x:=r) (B:=R') rfl rfl,w64_succ (by omega)]
   have:=ih (mkB q) (D++[mkB p]) R' (by rw [bs_mkB];omega) (by rw [bs_mkB];omega) (by rw [bs_mkB];simp;omega) (by rw [bs_mkB];omega)
   rw [bs_mkB] at this
   rw [show ((D.length+1:Nat):Int)=((D++[mkB p]).length:Int) by simp,show D++mkB p::R'=(D++[mkB p])++R' by simp,this,e1,splitA_some _ _ _ e2]
   simp
  ·have hd:decide ((D.length:Int) < (cnt:Int))=false:=by simp;omega
   simp only [z216_l2,hw,hmin,hw2,hd,cF]
   exact fin (by omega)
theorem split_eq (hN:4194304 < N) (s:ByteArray) (hs:s.size≤1000000):z172 N s (str [46])=some ((splitA [] (bs s)).map mkB):=by
 unfold z172 z216
 have h0:((-1:Int)==0)=false:=rfl
 have h1:((str [46]).toList==(str []).toList)=false:=by rw [toList_bs,toList_bs];rfl
 have h2:decide ((-1:Int) < 0)=true:=rfl
 have hcl:(bs s).count 46≤(bs s).length:=List.count_le_length
 rw [h0,h1,h2,count_eq]
 simp only [cT,cF,bS,z216_k3]
 rw [size_bs] at hs
 rw [w64_succ (by omega)]
 have hw:w64 ((s.size:Int)+1)=((s.size+1:Nat):Int):=w64_succ (by rw [size_bs];omega)
 have hmin:minI (((bs s).count 46+1:Nat):Int) ((s.size+1:Nat):Int)=(((bs s).count 46+1:Nat):Int):=by unfold minI;rw [if_neg (by rw [size_bs];omega)]
 have m:mkL (str []) (((bs s).count 46+1:Nat):Int) (((bs s).count 46+1:Nat):Int)=some (List.replicate ((bs s).count 46+1) (str [])):=by
  unfold mkL
  have q1:decide ((0:Int)≤(((bs s).count 46+1:Nat):Int))=true:=by simp;omega
  have q2:decide ((((bs s).count 46+1:Nat):Int)≤4294967296)=true:=by simp;omega
  simp only [q1,q2,Int.le_refl,decide_true,Bool.and_self,cT]
  simp
 rw [hw,hmin,m,bS]
 have:=gen_loop (N:=N) s (str [46]) rfl ((bs s).count 46) (by rw [size_bs];omega) (by rw [size_bs];omega) N s [] (List.replicate ((bs s).count 46+1) (str [])) (by omega) (by omega) (by simp) (by simp)
 rw [List.nil_append] at this
 have this':z216_l2 N s (str [46]) (0:Int) (((bs s).count 46+1:Nat):Int) N s (List.replicate ((bs s).count 46+1) (str [])) (0:Int)=some ([]++(splitA [] (bs s)).map mkB):=this
 rw [this'];simp
def pathV (s:ByteArray):Bool:=decide (s.size≤50) && (splitA [] (bs s)).all fun p=>isWord (mkB p)
theorem piece_len:∀ (l acc:List UInt8),∀ p∈splitA acc l,p.length≤acc.length+l.length
 | [],acc,p,h=>by simp [splitA] at h;subst h;simp
 | c::l,acc,p,h=>by
  rw [splitA_cons] at h
  split at h
  ·rcases List.mem_cons.mp h with h | h
   ·subst h;simp
   ·have:=piece_len l [] p h;simp at this;simp;omega
  ·have:=piece_len l _ p h;simp at this;simp;omega
theorem path_eq (hN:4194304 < N) (s:ByteArray):z99 N s=some (pathV s):=by
 unfold z99 pathV
 by_cases h:s.size≤50
 ·rw [dT (show (s.size:Int)≤50 by omega),dT h,cT,split_eq hN s (by omega),bS]
  unfold z126_1 z189_0
  have hl:(splitA [] (bs s)).length≤51:=by
   rw [splitA_len]
   have:(bs s).count 46≤(bs s).length:=List.count_le_length
   rw [size_bs] at h;omega
  rw [look ((splitA [] (bs s)).map mkB) (by simp;omega) (fun x k r=>bif !(isWord x) then some k else r) (z189_0_l2 N ((splitA [] (bs s)).map mkB)) (some (-1)) hN]
  ·obtain ⟨i,h1,h2⟩:=whereV_any (fun x => !(isWord x)) ((splitA [] (bs s)).map mkB) 0
   rw [h1,bS,h2,bS,List.any_map,List.not_any_eq_all_not]
   simp [Function.comp_def]
  ·intro n k x hk hx
   have hx':=List.mem_of_getElem? hx
   obtain ⟨p,hp,rfl⟩:=List.mem_map.mp hx'
   have hpl:=piece_len _ _ p hp
   have hw:=(word_eq hN (mkB p) (by rw [size_bs,bs_mkB];rw [size_bs] at h;simp at hpl;omega)).1
   simp only [z189_0_l2,lt_t hk,idx_nat,hx,cT,bS,z173,hw]
  ·intro n k hk
   simp only [z189_0_l2,lt_f hk,cF,z189_0_k1]
 ·rw [dF (show ¬ (s.size:Int)≤50 by omega),dF h];rfl
theorem refPath_loop (hN:4194304 < N) (s:ByteArray) (hs:s.size≤4194304):∀ (n:Nat) (x acc l:List UInt8) (i j:Int),l.length+1 < n→bs s=x++(acc++l)→i=(x.length:Int)→j=((x.length+acc.length:Nat):Int) →
  z20_l2 N s n i j=bif (splitA acc l).all fun p=>isWord (mkB p) then z20_k1 s else some false:=by
 intro n
 induction n with
 | zero=>intro x acc l i j h;omega
 | succ n ih =>
  intro x acc l i j hn he hi hj
  have hsz:s.size=x.length+(acc.length+l.length):=by rw [size_bs,he];simp
  have hle:decide (j≤(s.size:Int))=true:=by simp;omega
  have hw:=(word_eq hN (mkB acc) (by rw [size_bs,bs_mkB];omega)).2
  have wj:w64 (j+1)=((x.length+acc.length+1:Nat):Int):=by rw [hj];exact w64_succ (by omega)
  cases l with
  | nil =>
   have hend:(j==(s.size:Int))=true:=by simp at hsz;simp;omega
   obtain ⟨n,rfl⟩:∃ m,n=m+1:=⟨n-1,by simp at hn;omega⟩
   have hgt:decide (w64 (j+1)≤(s.size:Int))=false:=by rw [wj];simp at hsz;simp;omega
   unfold z20_l2
   rw [hle,cT,hend,cT]
   unfold z20_k3
   rw [cT,ssl_mid he hi hj,bS]
   unfold z44
   rw [hw]
   simp only [bS,splitA,List.all_cons,List.all_nil,Bool.and_true]
   cases isWord (mkB acc)
   ·rfl
   ·simp only [Bool.not_true,cF,cT]
    unfold z20_l2
    rw [hgt];rfl
  | cons c l =>
   have hne:(j==(s.size:Int))=false:=by simp at hsz;simp;omega
   have hgc:sidx s j=some (c.toNat:Int):=by
    rw [hj,sidx_bs,get_at (A:=x++acc) (x:=c) (B:=l) (by rw [he];simp) (by simp)];rfl
   unfold z20_l2
   rw [hle,cT,hne,cF,hgc,bS]
   by_cases hc:c=46
   ·subst hc
    have hb:(((46:UInt8).toNat:Int)==46)=true:=rfl
    rw [hb]
    unfold z20_k3
    rw [cT,ssl_mid he hi hj,bS]
    unfold z44
    rw [hw]
    have e0:splitA acc (46::l)=acc::splitA [] l:=by rw [splitA_cons,if_pos rfl]
    rw [e0,List.all_cons]
    simp only [bS]
    cases isWord (mkB acc)
    ·rfl
    ·simp only [Bool.not_true,cF,Bool.true_and]
     rw [wj]
     exact ih (x++acc++[46]) [] l _ _ (by simp at hn;omega) (by rw [he];simp) (by simp;omega) (by simp;omega)
   ·have hb:((c.toNat:Int)==46)=false:=by
     rw [beq_eq_false_iff_ne]
     intro h
     apply hc
     apply UInt8.toNat_inj.mp
     show c.toNat=46
     omega
    rw [hb]
    unfold z20_k3
    have e0:splitA acc (c::l)=splitA (acc++[c]) l:=by rw [splitA_cons,if_neg hc]
    rw [cF,wj,e0]
    exact ih x (acc++[c]) l _ _ (by simp at hn;omega) (by rw [he];simp) hi (by simp;omega)
theorem refPath_eq (hN:4194304 < N) (s:ByteArray) (hs:s.size≤4000000):z20 N s=some (pathV s):=by
 unfold z20
 rw [refPath_loop hN s (by omega) N [] [] (bs s) (0:Int) (0:Int) (by rw [size_bs] at hs;omega) rfl rfl rfl]
 unfold z20_k1 pathV
 by_cases h:s.size≤50
 ·rw [dT (show (s.size:Int)≤50 by omega),dT h]
  cases (splitA [] (bs s)).all fun p=>isWord (mkB p)<;>rfl
 ·rw [dF (show ¬ (s.size:Int)≤50 by omega),dF h]
  cases (splitA [] (bs s)).all fun p=>isWord (mkB p)<;>rfl
end Gp
end
section
namespace Gp
open Go Go.Kx Gx
variable {N:Nat}
def flat (l:List T0):List T4:=(l.map fun d=>d.Fields).flatten
theorem flat_cons (x:T0) (l:List T0):flat (x::l)=x.Fields++flat l:=rfl
theorem flat_app (a b:List T0):flat (a++b)=flat a++flat b:=by simp [flat]
theorem flat_le (l:List T0) (h:∀ d∈l,SizeD d):(flat l).length≤l.length * 4194304:=by
 induction l with
 | nil=>simp [flat]
 | cons x l ih =>
  rw [flat_cons,lA,List.length_cons]
  have:=(h x (by simp)).f
  have:=ih (fun d hd=>h d (by simp [hd]))
  omega
theorem take_drop_cons {α:Type} {xs l:List α} {k:Nat} {x:α} (h:xs.drop k=x::l):xs.take (k+1)=xs.take k++[x]:=by
 obtain ⟨a,c,d⟩:=drop_cons h
 rw [List.take_add_one,c];rfl
theorem fields_loop (l:List T0) (hs:(flat l).length≤4294967296) (hl:l.length≤4194304) :
  ∀ (m:List T0) (k n:Nat) (acc:List T4),l.drop k=m→m.length < n→acc=flat (l.take k)→z98_l2 l n acc (k:Int)=some (flat l):=by
 intro m
 induction m with
 | nil =>
  intro k n acc h hn ha
  obtain ⟨n,rfl⟩:∃ m,n=m+1:=⟨n-1,by simp at hn;omega⟩
  have hk:=drop_nil h
  simp only [z98_l2,lt_f hk,cF,z98_k1]
  rw [ha,List.take_of_length_le hk]
 | cons x m ih =>
  intro k n acc h hn ha
  obtain ⟨n,rfl⟩:∃ m,n=m+1:=⟨n-1,by simp at hn;omega⟩
  obtain ⟨a,c,d⟩:=drop_cons h
  have ht:=take_drop_cons h
  have hcut:flat l=flat (l.take (k+1))++flat (l.drop (k+1)):=by rw [← flat_app,List.take_append_drop]
  have hle:acc.length+x.Fields.length≤4294967296:=by
   rw [hcut,ht,flat_app,lA,lA,← ha] at hs
   have:(flat [x]).length=x.Fields.length:=by simp [flat]
   omega
  simp only [z98_l2,lt_t a,cT,idx_nat,c,bS]
  rw [appL_some hle,bS,w64_succ (by omega)]
  refine ih (k+1) n _ d (by simp at hn;omega) ?_
  rw [ht,flat_app,← ha];simp [flat]
theorem fields_eq (hN:4194304 < N) (l:List T0) (hl:l.length≤1000) (hd:∀ d∈l,SizeD d):z98 N l=some (flat l):=by
 unfold z98
 exact fields_loop l (by have:=flat_le l hd;omega) (by omega) l 0 N [] rfl (by omega) rfl
theorem vars_loop (l:List T0) (hs:(flat l).length≤4294967296) (hl:l.length≤4194304) :
  ∀ (m:List T0) (k n:Nat) (acc:Int),l.drop k=m→m.length < n→acc=((flat (l.take k)).length:Int)→z17_l2 l n acc (k:Int)=some ((flat l).length:Int):=by
 intro m
 induction m with
 | nil =>
  intro k n acc h hn ha
  obtain ⟨n,rfl⟩:∃ m,n=m+1:=⟨n-1,by simp at hn;omega⟩
  have hk:=drop_nil h
  simp only [z17_l2,lt_f hk,cF,z17_k1]
  rw [ha,List.take_of_length_le hk]
 | cons x m ih =>
  intro k n acc h hn ha
  obtain ⟨n,rfl⟩:∃ m,n=m+1:=⟨n-1,by simp at hn;omega⟩
  obtain ⟨a,c,d⟩:=drop_cons h
  have ht:=take_drop_cons h
  have hcut:flat l=flat (l.take (k+1))++flat (l.drop (k+1)):=by rw [← flat_app,List.take_append_drop]
  have hx:(flat [x]).length=x.Fields.length:=by simp [flat]
  have hle:(flat (l.take k)).length+x.Fields.length≤4294967296:=by
   rw [hcut,ht,flat_app,lA,lA] at hs
   omega
  simp only [z17_l2,lt_t a,cT,idx_nat,c,bS]
  rw [w64_succ (by omega),w64_id (by omega) (by omega)]
  refine ih (k+1) n _ d (by simp at hn;omega) ?_
  rw [ht,flat_app,lA,hx,ha];simp
theorem vars_eq (hN:4194304 < N) (l:List T0) (hl:l.length≤1000) (hd:∀ d∈l,SizeD d):z17 N l=some ((flat l).length:Int):=by
 unfold z17
 exact vars_loop l (by have:=flat_le l hd;omega) (by omega) l 0 N 0 rfl (by omega) rfl
theorem field_loop (l:List T0) (hl:l.length≤4194304) (hd:∀ d∈l,SizeD d) :
  ∀ (m:List T0) (k n i:Nat),l.drop k=m→m.length < n→i < (flat m).length→i≤4294967296→z97_l2 l n (i:Int) (k:Int)=(flat m)[i]? := by
 intro m
 induction m with
 | nil=>intro k n i h hn hi;simp [flat] at hi
 | cons x m ih =>
  intro k n i h hn hi hi2
  obtain ⟨n,rfl⟩:∃ m,n=m+1:=⟨n-1,by simp at hn;omega⟩
  obtain ⟨a,c,d⟩:=drop_cons h
  rw [flat_cons]
  simp only [z97_l2,lt_t a,cT,idx_nat,c,bS]
  by_cases hlt:i < x.Fields.length
  ·rw [lt_t hlt,cT,List.getElem?_append_left hlt,List.getElem?_eq_getElem hlt];rfl
  ·rw [lt_f (by omega),cF,w64_succ (by omega),List.getElem?_append_right (by omega)]
   have hf:=(hd x (List.mem_of_getElem? c)).f
   have hw:w64 ((i:Int)-(x.Fields.length:Int))=((i-x.Fields.length:Nat):Int):=by rw [w64_id (by omega) (by omega)];omega
   rw [hw]
   exact ih (k+1) n _ d (by simp at hn;omega) (by rw [flat_cons,lA] at hi;omega) (by omega)
def textV (fl:List T4) (x:Int):Bool:=match idx fl x with | some f=>f.Sort'.Kind==2 | none=>false
theorem idx_none {α:Type} {L:List α} {v:Int} (h:¬ (0≤v∧v < (L.length:Int))):idx L v=none:=by
 cases hc:idx L v with
 | none=>rfl
 | some d=>exact absurd (idx_some hc) h
theorem text_eq (hN:4194304 < N) (l:List T0) (hl:l.length≤1000) (hd:∀ d∈l,SizeD d) (x:Int):z45 N l x=some (textV (flat l) x):=by
 have hfl:=flat_le l hd
 unfold z45 textV
 rw [vars_eq hN l hl hd]
 by_cases h0:x≥0
 ·rw [dT h0,cT,bS]
  by_cases h1:x < ((flat l).length:Int)
  ·obtain ⟨k,rfl⟩:∃ k:Nat,x=(k:Int):=⟨x.toNat,by omega⟩
   have hk:k < (flat l).length:=by omega
   have hf:z97 N l (k:Int)=(flat l)[k]? := field_loop l (by omega) hd l 0 N k rfl (by omega) hk (by omega)
   rw [dT h1,cT,hf,idx_nat,List.getElem?_eq_getElem hk];rfl
  ·rw [dF h1,idx_none (by omega)];rfl
 ·rw [dF h0,idx_none (by omega)];rfl
def diffOk (n:Int) (d:T1):Prop:=-1≤d.X∧d.X < n∧-1≤d.Y∧d.Y < n∧-20000≤d.C∧d.C≤20000
instance (n:Int) (d:T1):Decidable (diffOk n d):=by unfold diffOk;infer_instance
def guardV (fl:List T4) (g:T6):Bool :=
 decide (g.Diffs.length≤20∧g.Equals.length≤20) && (allV (fun d _=>decide (diffOk (fl.length:Int) d)) g.Diffs 0 && allV (fun e _=>textV fl e.1 && textV fl e.2) g.Equals 0)
theorem guarded_eq (hN:4194304 < N) (g:T6) (fl:List T4):z105 N g fl=some (guardV fl g):=by
 unfold z105 guardV
 by_cases c1:(g.Diffs.length:Int) > 20
 ·rw [dT c1,dF (show ¬ (g.Diffs.length≤20∧g.Equals.length≤20) by omega)];rfl
 by_cases c2:(g.Equals.length:Int) > 20
 ·rw [dF c1,dT c2,dF (show ¬ (g.Diffs.length≤20∧g.Equals.length≤20) by omega)];rfl
 rw [dF c1,dF c2,dT (show g.Diffs.length≤20∧g.Equals.length≤20 by omega)]
 simp only [cF,Bool.true_and]
 rw [allV_from (fun d _=>decide (diffOk (fl.length:Int) d)) (xs:=g.Diffs) (F:=z105_l6 N g fl) (e:=z105_k5 N g fl) (by omega)]
 ·unfold z105_k5
  rw [allV_from (fun e _=>textV fl e.1 && textV fl e.2) (xs:=g.Equals) (F:=z105_l2 N g fl) (e:=some true) (by omega)]
  ·cases allV (fun d _=>decide (diffOk (fl.length:Int) d)) g.Diffs 0<;>cases allV (fun e _=>textV fl e.1 && textV fl e.2) g.Equals 0<;>rfl
  ·intro n k x hk hx
   obtain ⟨m,rfl⟩:∃ m,N=m+3:=⟨N-3,by omega⟩
   have e0:idx ([x.1,x.2]:List Int) (0:Int)=some x.1:=rfl
   have e1:idx ([x.1,x.2]:List Int) (1:Int)=some x.2:=rfl
   have w0:w64 ((0:Int)+1)=1:=by decide
   have w1:w64 ((1:Int)+1)=2:=by decide
   have l0:decide ((0:Int) < 2)=true:=rfl
   have l1:decide ((1:Int) < 2)=true:=rfl
   have l2:decide ((2:Int) < 2)=false:=rfl
   have one:∀ (v:Int) (r:Option Bool),(bif decide (v < (0:Int)) then some false else bif decide (v≥(fl.length:Int)) then some false else (idx fl v).bind fun x143=>bif (x143.Sort'.Kind != (2:Int)) then some false else r)=bif textV fl v then r else some false:=by
    intro v r
    unfold textV
    by_cases h0:v < 0
    ·rw [dT h0,idx_none (by omega)];rfl
    by_cases h1:v≥(fl.length:Int)
    ·rw [dF h0,dT h1,idx_none (by omega)];rfl
    obtain ⟨f,hf⟩:=idx_lt (L:=fl) (v:=v) (by omega) (by omega)
    rw [dF h0,dF h1,hf]
    simp only [cF,bS]
    unfold bne
    cases (f.Sort'.Kind==2)<;>rfl
   have inner:z105_l4 fl (k:Int) (z105_l2 (m+3) g fl n) x (m+3) (0:Int)=bif textV fl x.1 && textV fl x.2 then z105_k3 (k:Int) (z105_l2 (m+3) g fl n) else some false:=by
    simp only [z105_l4,e0,e1,w0,w1,l0,l1,l2,cT,cF,bS]
    rw [one,one]
    cases textV fl x.1<;>cases textV fl x.2<;>rfl
   simp only [z105_l2,lt_t hk,cT,idx_nat,hx,bS,inner,z105_k3]
   rw [w64_succ (by omega)]
  ·intro n k hk
   simp only [z105_l2,lt_f hk,cF,z105_k1]
 ·intro n k x hk hx
  simp only [z105_l6,lt_t hk,idx_nat,hx,cT,bS,w64_succ (show k < 4611686018427387904 by omega)]
  by_cases d1:minI x.X x.Y < -1
  ·rw [dT d1,dF (show ¬ diffOk (fl.length:Int) x by rw [minI_lt] at d1;unfold diffOk;omega)];rfl
  by_cases d2:maxI x.X x.Y≥(fl.length:Int)
  ·rw [dF d1,dT d2,dF (show ¬ diffOk (fl.length:Int) x by rw [maxI_ge] at d2;unfold diffOk;omega)];rfl
  by_cases d3:x.C < -20000
  ·rw [dF d1,dF d2,dT d3,dF (show ¬ diffOk (fl.length:Int) x by unfold diffOk;omega)];rfl
  by_cases d4:x.C > 20000
  ·rw [dF d1,dF d2,dF d3,dT d4,dF (show ¬ diffOk (fl.length:Int) x by unfold diffOk;omega)];rfl
  rw [dF d1,dF d2,dF d3,dF d4,dT (show diffOk (fl.length:Int) x by rw [minI_lt] at d1;rw [maxI_ge] at d2;unfold diffOk;omega)];rfl
 ·intro n k hk
  simp only [z105_l6,lt_f hk,cF]
theorem goodGuard_eq (hN:4194304 < N) (l:List T0) (hl:l.length≤1000) (hd:∀ d∈l,SizeD d) (g:T6) (h1:g.Diffs.length≤4194304) (h2:g.Equals.length≤4194304):z21 N l g=some (guardV (flat l) g):=by
 unfold z21 guardV
 rw [vars_eq hN l hl hd,bS]
 rw [allV_from (fun d _=>decide (diffOk ((flat l).length:Int) d)) (xs:=g.Diffs) (F:=z21_l4 N l g ((flat l).length:Int)) (e:=z21_k3 N l g) (by omega)]
 ·unfold z21_k3
  rw [allV_from (fun e _=>textV (flat l) e.1 && textV (flat l) e.2) (xs:=g.Equals) (F:=z21_l2 N l g) (e:=z21_k1 g) (by omega)]
  ·have hk1:z21_k1 g=some (decide (g.Diffs.length≤20∧g.Equals.length≤20)):=by
    unfold z21_k1
    by_cases c1:(g.Diffs.length:Int)≤20
    ·rw [dT c1,cT]
     congr 1
     rw [decide_eq_decide];omega
    ·rw [dF c1,dF (show ¬ (g.Diffs.length≤20∧g.Equals.length≤20) by omega)];rfl
   rw [hk1]
   cases allV (fun d _=>decide (diffOk ((flat l).length:Int) d)) g.Diffs 0<;>cases allV (fun e _=>textV (flat l) e.1 && textV (flat l) e.2) g.Equals 0<;>cases decide (g.Diffs.length≤20∧g.Equals.length≤20)<;>rfl
  ·intro n k x hk hx
   simp only [z21_l2,lt_t hk,cT,idx_nat,hx,bS,text_eq hN l hl hd,w64_succ (show k < 4611686018427387904 by omega)]
   cases textV (flat l) x.1<;>cases textV (flat l) x.2<;>rfl
  ·intro n k hk
   simp only [z21_l2,lt_f hk,cF]
 ·intro n k x hk hx
  simp only [z21_l4,lt_t hk,idx_nat,hx,cT,bS,w64_succ (show k < 4611686018427387904 by omega)]
  by_cases d1:x.X < -1
  ·rw [dT d1,dF (show ¬ diffOk ((flat l).length:Int) x by unfold diffOk;omega)];rfl
  by_cases d2:x.X≥((flat l).length:Int)
  ·rw [dF d1,dT d2,dF (show ¬ diffOk ((flat l).length:Int) x by unfold diffOk;omega)];rfl
  by_cases d3:x.Y < -1
  ·rw [dF d1,dF d2,dT d3,dF (show ¬ diffOk ((flat l).length:Int) x by unfold diffOk;omega)];rfl
  by_cases d4:x.Y≥((flat l).length:Int)
  ·rw [dF d1,dF d2,dF d3,dT d4,dF (show ¬ diffOk ((flat l).length:Int) x by unfold diffOk;omega)];rfl
  by_cases d5:x.C < -20000
  ·rw [dF d1,dF d2,dF d3,dF d4,dT d5,dF (show ¬ diffOk ((flat l).length:Int) x by unfold diffOk;omega)];rfl
  by_cases d6:x.C > 20000
  ·rw [dF d1,dF d2,dF d3,dF d4,dF d5,dT d6,dF (show ¬ diffOk ((flat l).length:Int) x by unfold diffOk;omega)];rfl
  rw [dF d1,dF d2,dF d3,dF d4,dF d5,dF d6,dT (show diffOk ((flat l).length:Int) x by unfold diffOk;omega)];rfl
 ·intro n k hk
  simp only [z21_l4,lt_f hk,cF]
def sortOk (s:T10):Prop:=(s.Kind=1∧-1000≤s.Lo∧s.Lo≤s.Hi∧s.Hi≤1000)∨(s.Kind=2∧0≤s.Lo∧s.Lo≤s.Hi∧s.Hi≤40)
instance (s:T10):Decidable (sortOk s):=by unfold sortOk;infer_instance
theorem three (a b c:Prop) [Decidable a] [Decidable b] [Decidable c]:(bif decide a then (bif decide b then some (decide c) else some false) else some false)=some (decide (a∧b∧c)):=by
 by_cases ha:a<;>by_cases hb:b<;>simp [ha,hb]
theorem sorted_eq (s:T10):z102 N s=some (decide (sortOk s)):=by
 unfold z102
 rw [three,three]
 by_cases h1:s.Kind=1
 ·rw [show (s.Kind==1)=true by simp [h1],cT];congr 1;rw [decide_eq_decide];unfold sortOk;omega
 ·rw [show (s.Kind==1)=false by simp [h1],cF]
  by_cases h2:s.Kind=2
  ·rw [show (s.Kind==2)=true by simp [h2],cT];congr 1;rw [decide_eq_decide];unfold sortOk;omega
  ·rw [show (s.Kind==2)=false by simp [h2],cF,dF (show ¬ sortOk s by unfold sortOk;omega)]
theorem goodSort_eq (s:T10):z18 N s=some (decide (sortOk s)):=by
 unfold z18 z18_k1
 rw [three,three]
 by_cases h1:s.Kind=1
 ·rw [show (s.Kind==1)=true by simp [h1],show (s.Kind==2)=false by simp [h1]];simp only [cT,cF];congr 1;rw [decide_eq_decide];unfold sortOk;omega
 ·rw [show (s.Kind==1)=false by simp [h1]]
  by_cases h2:s.Kind=2
  ·rw [show (s.Kind==2)=true by simp [h2]];simp only [cT,cF];congr 1;rw [decide_eq_decide];unfold sortOk;omega
  ·rw [show (s.Kind==2)=false by simp [h2]];simp only [cF];rw [dF (show ¬ sortOk s by unfold sortOk;omega)]
end Gp
end
section
namespace Gp
open Go Go.Kx Gx
variable {N:Nat}
structure NameD (x:T0):Prop where
 n:x.Name.size≤4000000
 f:∀ f∈x.Fields,f.Name.size≤4000000
def fieldV (x:T0) (f:T4) (j:Nat):Bool:=isWord f.Name && (decide (sortOk f.Sort') && !((x.Fields.take j).any fun y=>eqStr y.Name f.Name))
def declV (fl:List T4) (l:List T0) (x:T0) (k:Nat):Bool :=
 pathV x.Name && (decide (x.Fields.length≤4) && (decide (x.First=((flat (l.take k)).length:Int)) && (!((l.take k).any fun y=>eqStr y.Name x.Name) && (allV (fieldV x) x.Fields 0 && guardV fl x.Guard))))
def validD (l:List T0):Bool:=decide (l.length≤40) && (decide ((flat l).length≤24) && allV (declV (flat l) l) l 0)
theorem containsD_eq (hN:4194304 < N) (l:List T0) (hl:l.length≤4194304) (x:T0):z100_4 N l x=some (l.any fun y=>eqStr y.Name x.Name):=by
 unfold z100_4 z174_3
 rw [look l hl (fun y k r=>bif eqStr y.Name x.Name then some k else r) (z174_3_l2 N l x) (some (-1)) hN]
 ·obtain ⟨i,h1,h2⟩:=whereV_any (fun y:T0=>eqStr y.Name x.Name) l 0
  rw [h1,bS,h2]
 ·intro n k y hk hy
  simp only [z174_3_l2,lt_t hk,idx_nat,hy,cT,bS,z101_2,eqStr]
 ·intro n k hk
  simp only [z174_3_l2,lt_f hk,cF,z174_3_k1]
theorem containsF_eq (hN:4194304 < N) (l:List T4) (hl:l.length≤4194304) (x:T4):z103_7 N l x=some (l.any fun y=>eqStr y.Name x.Name):=by
 unfold z103_7 z175_6
 rw [look l hl (fun y k r=>bif eqStr y.Name x.Name then some k else r) (z175_6_l2 N l x) (some (-1)) hN]
 ·obtain ⟨i,h1,h2⟩:=whereV_any (fun y:T4=>eqStr y.Name x.Name) l 0
  rw [h1,bS,h2]
 ·intro n k y hk hy
  simp only [z175_6_l2,lt_t hk,idx_nat,hy,cT,bS,z104_5,eqStr]
 ·intro n k hk
  simp only [z175_6_l2,lt_f hk,cF,z175_6_k1]
theorem flat_next {l:List T0} {k:Nat} {x:T0} (h:l[k]? = some x):(flat (l.take (k+1))).length=(flat (l.take k)).length+x.Fields.length:=by
 rw [List.take_add_one,h]
 show (flat (l.take k++[x])).length=_
 rw [flat_app,lA];simp [flat]
theorem flat_take_le (l:List T0) (k:Nat):(flat (l.take k)).length≤(flat l).length:=by
 have:flat l=flat (l.take k)++flat (l.drop k):=by rw [← flat_app,List.take_append_drop]
 rw [this,lA];omega
theorem valid_eq (hN:4194304 < N) (l:List T0) (hl:l.length≤4194304) (hd:∀ d∈l,SizeD d) (hn:∀ d∈l,NameD d):z46 N l=some (validD l):=by
 unfold z46 validD
 by_cases c1:(l.length:Int) > 40
 ·rw [dT c1,dF (show ¬ l.length≤40 by omega)];rfl
 rw [dF c1,dT (show l.length≤40 by omega),fields_eq hN l (by omega) hd]
 simp only [cF,bS,Bool.true_and]
 by_cases c2:((flat l).length:Int) > 24
 ·rw [dT c2,dF (show ¬ (flat l).length≤24 by omega)];rfl
 rw [dF c2,dT (show (flat l).length≤24 by omega)]
 simp only [cF,Bool.true_and]
 have hfl:=flat_le l hd
 have h:=allV_from (declV (flat l) l) (xs:=l) (F:=fun n i=>z46_l2 N l (flat l) n ((flat (l.take i.toNat)).length:Int) i) (e:=some true) (n:=N) (by omega) (by
  intro n k x hk hx
  show z46_l2 N l (flat l) (n+1) ((flat (l.take k)).length:Int) (k:Int)=bif declV (flat l) l x k then z46_l2 N l (flat l) n ((flat (l.take (k+1))).length:Int) ((k+1:Nat):Int) else some false
  have hxm:x∈l:=List.mem_of_getElem? hx
  have sx:=hd x hxm
  have nx:=hn x hxm
  have ht:lsl l none (some (k:Int))=some (l.take k):=lsl_to (A:=l.take k) (B:=l.drop k) (List.take_append_drop k l).symm (by simp;omega)
  have hft:=flat_take_le l k
  have hnext:w64 (((flat (l.take k)).length:Int)+(x.Fields.length:Int))=((flat (l.take (k+1))).length:Int):=by rw [flat_next hx,w64_id (by have:=sx.f;omega) (by have:=sx.f;omega)];omega
  have inner:z46_l4 N (flat l) ((flat (l.take k)).length:Int) (k:Int) (z46_l2 N l (flat l) n) x N (0:Int)=bif allV (fieldV x) x.Fields 0 then z46_k3 N (flat l) ((flat (l.take k)).length:Int) (k:Int) (z46_l2 N l (flat l) n) x else some false:=by
   refine allV_from (fieldV x) (by have:=sx.f;omega) ?_ ?_
   ·intro m j f hj hf
    have sf:=sx.f
    have hw:=(word_eq hN f.Name (by have:=nx.f f (List.mem_of_getElem? hf);omega)).1
    have ht':lsl x.Fields none (some (j:Int))=some (x.Fields.take j):=lsl_to (A:=x.Fields.take j) (B:=x.Fields.drop j) (List.take_append_drop j _).symm (by simp;omega)
    have hc:=containsF_eq hN (x.Fields.take j) (by simp;omega) f
    simp only [z46_l4,lt_t hj,cT,idx_nat,hf,bS,hw,sorted_eq,ht',hc,fieldV]
    rw [w64_succ (by omega)]
    cases isWord f.Name<;>cases decide (sortOk f.Sort')<;>cases ((x.Fields.take j).any fun y=>eqStr y.Name f.Name)<;>rfl
   ·intro m j hj
    simp only [z46_l4,lt_f hj,cF]
  have hc:=containsD_eq hN (l.take k) (by simp;omega) x
  simp only [z46_l2,lt_t hk,cT,idx_nat,hx,bS,path_eq hN,ht,hc,inner,z46_k3,guarded_eq hN,declV,hnext]
  rw [w64_succ (by omega)]
  have e1:decide ((x.Fields.length:Int) > 4) = !decide (x.Fields.length≤4):=by
   by_cases q:x.Fields.length≤4
   ·rw [dT q,dF (by omega)];rfl
   ·rw [dF q,dT (by omega)];rfl
  have e2:(x.First != ((flat (l.take k)).length:Int)) = !decide (x.First=((flat (l.take k)).length:Int)):=by
   by_cases q:x.First=((flat (l.take k)).length:Int)
   ·rw [dT q];simp [q]
   ·rw [dF q];simp [q]
  rw [e1,e2]
  cases pathV x.Name<;>cases decide (x.Fields.length≤4)<;>cases decide (x.First=((flat (l.take k)).length:Int))<;>cases ((l.take k).any fun y=>eqStr y.Name x.Name)<;>cases allV (fieldV x) x.Fields 0<;>cases guardV (flat l) x.Guard<;>rfl) (by
  intro n k hk
  show z46_l2 N l (flat l) (n+1) ((flat (l.take k)).length:Int) (k:Int)=some true
  simp only [z46_l2,lt_f hk,cF,z46_k1])
 have h':z46_l2 N l (flat l) N (0:Int) (0:Int)=bif allV (declV (flat l) l) l 0 then some true else some false:=h
 rw [h']
 cases allV (declV (flat l) l) l 0<;>rfl
theorem allV_not_any {α:Type} (f:α→Bool):∀ (l:List α) (k:Nat),allV (fun y _ => !f y) l k = !(l.any f)
 | [],_=>rfl
 | x::l,k=>by
  show (!f x && allV _ l (k+1))=_
  rw [allV_not_any f l,List.any_cons]
  cases f x<;>rfl
theorem take_get {α:Type} {l:List α} {k i:Nat} {x:α} (h:(l.take k)[i]? = some x):l[i]? = some x∧i < k:=by
 rw [List.getElem?_take] at h
 split at h
 ·exact ⟨h,by assumption⟩
 ·cases h
theorem refValid_eq (hN:4194304 < N) (l:List T0) (hl:l.length≤4194304) (hd:∀ d∈l,SizeD d) (hn:∀ d∈l,NameD d):z6 N l=some (validD l):=by
 unfold z6 validD
 by_cases c1:(l.length:Int) > 40
 ·rw [dT c1,dF (show ¬ l.length≤40 by omega)];rfl
 rw [dF c1,dT (show l.length≤40 by omega),vars_eq hN l (by omega) hd]
 simp only [cF,bS,Bool.true_and]
 by_cases c2:((flat l).length:Int) > 24
 ·rw [dT c2,dF (show ¬ (flat l).length≤24 by omega)];rfl
 rw [dF c2,dT (show (flat l).length≤24 by omega)]
 simp only [cF,Bool.true_and]
 have hfl:=flat_le l hd
 have h:=allV_from (declV (flat l) l) (xs:=l) (F:=fun n i=>z6_l2 N l n ((flat (l.take i.toNat)).length:Int) i) (e:=some true) (n:=N) (by omega) (by
  intro n k x hk hx
  show z6_l2 N l (n+1) ((flat (l.take k)).length:Int) (k:Int)=bif declV (flat l) l x k then z6_l2 N l n ((flat (l.take (k+1))).length:Int) ((k+1:Nat):Int) else some false
  have hxm:x∈l:=List.mem_of_getElem? hx
  have sx:=hd x hxm
  have nx:=hn x hxm
  have hft:=flat_take_le l k
  have hnext:w64 (((flat (l.take k)).length:Int)+(x.Fields.length:Int))=((flat (l.take (k+1))).length:Int):=by rw [flat_next hx,w64_id (by have:=sx.f;omega) (by have:=sx.f;omega)];omega
  have inner8:z6_l8 N l ((flat (l.take k)).length:Int) (k:Int) (z6_l2 N l n) x N (0:Int)=bif allV (fun y _ => !eqStr y.Name x.Name) (l.take k) 0 then z6_k7 N l ((flat (l.take k)).length:Int) (k:Int) (z6_l2 N l n) x else some false:=by
   refine allV_from (fun (y:T0) _ => !eqStr y.Name x.Name) (by simp;omega) ?_ ?_
   ·intro m j y hj hy
    obtain ⟨hy',hjk⟩:=take_get hy
    simp only [z6_l8,lt_t hjk,cT,idx_nat,hy',bS,eqStr]
    rw [w64_succ (by omega)]
    cases (y.Name.toList==x.Name.toList)<;>rfl
   ·intro m j hj
    have:k≤j:=by simp at hj;omega
    simp only [z6_l8,lt_f this,cF]
  have inner4:z6_l4 N l ((flat (l.take k)).length:Int) (k:Int) (z6_l2 N l n) x N (0:Int)=bif allV (fieldV x) x.Fields 0 then z6_k3 N l ((flat (l.take k)).length:Int) (k:Int) (z6_l2 N l n) x else some false:=by
   refine allV_from (fieldV x) (by have:=sx.f;omega) ?_ ?_
   ·intro m j f hj hf
    have sf:=sx.f
    have hw:=(word_eq hN f.Name (by have:=nx.f f (List.mem_of_getElem? hf);omega)).2
    have inner6:z6_l6 x (j:Int) (z6_l4 N l ((flat (l.take k)).length:Int) (k:Int) (z6_l2 N l n) x m) N (0:Int)=bif allV (fun y _ => !eqStr y.Name f.Name) (x.Fields.take j) 0 then z6_k5 (j:Int) (z6_l4 N l ((flat (l.take k)).length:Int) (k:Int) (z6_l2 N l n) x m) else some false:=by
     refine allV_from (fun (y:T4) _ => !eqStr y.Name f.Name) (by simp;omega) ?_ ?_
     ·intro p i y hi hy
      obtain ⟨hy',hij⟩:=take_get hy
      simp only [z6_l6,lt_t hij,cT,idx_nat,hy',hf,bS,eqStr]
      rw [w64_succ (by omega)]
      cases (y.Name.toList==f.Name.toList)<;>rfl
     ·intro p i hi
      have:j≤i:=by simp at hi;omega
      simp only [z6_l6,lt_f this,cF]
    simp only [z6_l4,lt_t hj,cT,idx_nat,hf,bS,hw,goodSort_eq,inner6,fieldV,z6_k5,allV_not_any]
    rw [w64_succ (by omega)]
    cases isWord f.Name<;>cases decide (sortOk f.Sort')<;>cases ((x.Fields.take j).any fun y=>eqStr y.Name f.Name)<;>rfl
   ·intro m j hj
    simp only [z6_l4,lt_f hj,cF]
  have hg:=goodGuard_eq hN l (by omega) hd x.Guard sx.d sx.e
  simp only [z6_l2,lt_t hk,cT,idx_nat,hx,bS,inner8,inner4,z6_k7,z6_k3,refPath_eq hN x.Name nx.n,hg,declV,hnext,allV_not_any]
  rw [w64_succ (by omega)]
  have e1:decide ((x.Fields.length:Int) > 4) = !decide (x.Fields.length≤4):=by
   by_cases q:x.Fields.length≤4
   ·rw [dT q,dF (by omega)];rfl
   ·rw [dF q,dT (by omega)];rfl
  have e2:(x.First != ((flat (l.take k)).length:Int)) = !decide (x.First=((flat (l.take k)).length:Int)):=by
   by_cases q:x.First=((flat (l.take k)).length:Int)
   ·rw [dT q];simp [q]
   ·rw [dF q];simp [q]
  rw [e1,e2]
  cases pathV x.Name<;>cases decide (x.Fields.length≤4)<;>cases decide (x.First=((flat (l.take k)).length:Int))<;>cases ((l.take k).any fun y=>eqStr y.Name x.Name)<;>cases allV (fieldV x) x.Fields 0<;>cases guardV (flat l) x.Guard<;>rfl) (by
  intro n k hk
  show z6_l2 N l (n+1) ((flat (l.take k)).length:Int) (k:Int)=some true
  simp only [z6_l2,lt_f hk,cF,z6_k1])
 have h':z6_l2 N l N (0:Int) (0:Int)=bif allV (declV (flat l) l) l 0 then some true else some false:=h
 rw [h']
 cases allV (declV (flat l) l) l 0<;>rfl
end Gp
end
section
namespace Gp
open Go Go.Kx Gx
variable {N:Nat}
theorem Dist.le {E:List (Int × Int)} {S:Nat} {e:Int} {L M:List Int} (hL:Dist E S e L) (hM:Dist E S e M):∀ (k:Nat) (v:Int),idx L v=some (k:Int)→∃ m,idx M v=some m∧0≤m∧m≤(k:Int):=by
 intro k
 induction k with
 | zero =>
  intro v hv
  have:=hL.zero v hv
  subst this
  exact ⟨0,hM.root,by omega,by omega⟩
 | succ k ih =>
  intro v hv
  obtain ⟨u,hu,hl⟩:=hL.pred v _ hv (by omega)
  obtain ⟨m,m1,m2,m3⟩:=ih u (by rw [hl];congr 1;omega)
  obtain ⟨d,d1,d2,d3⟩:=hM.succ u v m hu m1 m2
  exact ⟨d,d1,d2,by omega⟩
structure SizeN (g:T5):Prop where
 n:g.Name.size≤4000000
 r:∀ s∈g.Roles,s.size≤4000000
 d:∀ x∈g.Decls,NameD x
def roleV (g:T5) (s:ByteArray) (i:Nat):Bool:=isWord s && !((g.Roles.take i).any fun y=>eqStr y s)
def namedV (g:T5):Bool:=isWord g.Name && (decide (1≤g.Roles.length∧g.Roles.length≤6) && allV (roleV g) g.Roles 0)
theorem bounds_l2 (d:T0) (hd:d.Guard.Equals.length≤4194304):∀ (l:List (Int × Int)) (k n:Nat) (acc:List T1),d.Guard.Equals.drop k=l→l.length < n→acc.length+2 * l.length≤4294967296→∃ r,z47_l2 d n acc (k:Int)=some r:=by
 intro l
 induction l with
 | nil =>
  intro k n acc h hn _
  obtain ⟨n,rfl⟩:∃ m,n=m+1:=⟨n-1,by simp at hn;omega⟩
  exact ⟨acc,by simp only [z47_l2,lt_f (drop_nil h),cF,z47_k1]⟩
 | cons x l ih =>
  intro k n acc h hn ha
  obtain ⟨n,rfl⟩:∃ m,n=m+1:=⟨n-1,by simp at hn;omega⟩
  obtain ⟨a,c,e⟩:=drop_cons h
  simp only [List.length_cons] at ha hn
  simp only [z47_l2,lt_t a,cT,idx_nat,c,bS]
  rw [appL_some (by simp;omega),bS,w64_succ (by omega)]
  exact ih (k+1) n _ e (by omega) (by simp;omega)
theorem bounds_l4 (hN:4194304 < N) (d:T0) (hd:SizeD d):∀ (l:List T4) (k n:Nat) (acc:List T1),d.Fields.drop k=l→l.length < n→acc.length+2 * l.length≤16777216→∃ r,z47_l4 N d n acc (k:Int)=some r:=by
 intro l
 have h1:=hd.f
 have h2:=hd.d
 have h3:=hd.e
 induction l with
 | nil =>
  intro k n acc h hn ha
  obtain ⟨n,rfl⟩:∃ m,n=m+1:=⟨n-1,by simp at hn;omega⟩
  simp only [z47_l4,lt_f (drop_nil h),cF,z47_k3]
  simp at ha
  rw [appL_some (by omega),bS]
  exact bounds_l2 d h3 d.Guard.Equals 0 N _ rfl (by omega) (by simp;omega)
 | cons x l ih =>
  intro k n acc h hn ha
  obtain ⟨n,rfl⟩:∃ m,n=m+1:=⟨n-1,by simp at hn;omega⟩
  obtain ⟨a,c,e⟩:=drop_cons h
  simp only [List.length_cons] at ha hn
  simp only [z47_l4,lt_t a,cT,idx_nat,c,bS]
  rw [appL_some (by simp;omega),bS,w64_succ (by omega)]
  exact ih (k+1) n _ e (by omega) (by simp;omega)
structure ValidG (g:T5):Prop where
 named:namedV g=true
 num:numV g=true
 decls:validD g.Decls=true
 apart:apartV g=true
 noEnd:(g.Edges.all fun x => !(x.From==g.End))=true
 time:timeV g=true
 reach:∃ F,Dist (ers g false) g.States.toNat g.Start F∧posV F=true
 ends:∃ L,Dist (ers g true) g.States.toNat g.End L∧posV L=true
end Gp
end
section
namespace Gp
open Go Go.Kx Gx
variable {N:Nat}
theorem few_loop (l:List T0) (hl:l.length≤4194304):∀ (r:List T0) (n k:Nat) (a:Int),l.drop k=r→r.length < n→∃ b,z5_l2 l n a (k:Int)=some b∧(b=true→l.length≤60):=by
 intro r
 induction r with
 | nil =>
  intro n k a h hn
  obtain ⟨n,rfl⟩:∃ m,n=m+1:=⟨n-1,by simp at hn;omega⟩
  unfold z5_l2
  rw [lt_f (drop_nil h)]
  simp only [cF,z5_k1]
  by_cases h1:l.length≤60
  ·have:decide ((l.length:Int)≤60)=true:=by simp;omega
   rw [this]
   exact ⟨_,rfl,fun _=>h1⟩
  ·have:decide ((l.length:Int)≤60)=false:=by simp;omega
   rw [this]
   exact ⟨false,rfl,fun h=>by cases h⟩
 | cons x r ih =>
  intro n k a h hn
  obtain ⟨n,rfl⟩:∃ m,n=m+1:=⟨n-1,by simp at hn;omega⟩
  obtain ⟨h1,h2,h3⟩:=drop_cons h
  unfold z5_l2
  rw [lt_t h1,w64_succ (by omega)]
  simp only [cT,idx_nat,h2,bS]
  exact ih n (k+1) _ h3 (by simp at hn;omega)
end Gp
end
section
namespace Gp
open Go Go.Kx Gx
variable {N:Nat}
def badB (b:UInt8):Bool:=decide (b.toNat < 32) || decide (126 < b.toNat)
def vnum (v:T12):Int:=bif v.Kind==2 then (v.S.size:Int) else v.N
def zeroV (v:T12):Bool:=(v.Kind==0) && ((v.N==0) && ((v.S.toList==(str []).toList) && true))
theorem valid_at {d:List T0} (hv:validD d=true) {i:Nat} {x:T0} (hx:d[i]? = some x):∃ first:Nat,x.First=(first:Int)∧first+x.Fields.length≤(flat d).length∧d.length≤40∧(flat d).length≤24∧declV (flat d) d x i=true:=by
 unfold validD at hv
 simp only [Bool.and_eq_true,decide_eq_true_eq] at hv
 obtain ⟨h1,h2,h3⟩:=hv
 rw [allV_iff] at h3
 have hd:=h3 i x hx
 rw [Nat.zero_add] at hd
 have hd0:=hd
 unfold declV at hd
 simp only [Bool.and_eq_true,decide_eq_true_eq] at hd
 refine ⟨(flat (d.take i)).length,hd.2.2.1,?_,h1,h2,hd0⟩
 have:=flat_next hx
 have:=flat_take_le d (i+1)
 omega
end Gp
end
section
namespace Gp
open Go Go.Kx Gx
variable {N:Nat}
structure SizeC (vs ks:List T12):Prop where
 v:∀ v∈vs,v.S.size≤4194304
 k:∀ v∈ks,v.S.size≤4194304
end Gp
end
section
namespace Gp
open Go Go.Kx Gx
variable {N:Nat}
def nvV (l:List T12) (x:Int):Int:=bif decide (x < 0) then 0 else match idx l x with
 | some v=>vnum v
 | none=>0
def unkV (l:List T12) (x:Int):Bool:=bif decide (x < 0) then false else match idx l x with
 | some v=>v.Kind==0
 | none=>true
structure InG (n:Nat) (g:T6):Prop where
 d:∀ d∈g.Diffs,d.X < (n:Int)∧d.Y < (n:Int)
 e:∀ e∈g.Equals,(0≤e.1∧e.1 < (n:Int))∧(0≤e.2∧e.2 < (n:Int))
 dl:g.Diffs.length≤20
 el:g.Equals.length≤20
theorem textV_in {fl:List T4} {x:Int} (h:textV fl x=true):0≤x∧x < (fl.length:Int):=by
 unfold textV at h
 cases hc:idx fl x with
 | none=>rw [hc] at h;cases h
 | some f=>exact idx_some hc
theorem inG_of {fl:List T4} {g:T6} (h:guardV fl g=true):InG fl.length g:=by
 unfold guardV at h
 simp only [Bool.and_eq_true,decide_eq_true_eq] at h
 obtain ⟨⟨h1,h2⟩,h3,h4⟩:=h
 rw [allV_iff] at h3 h4
 refine ⟨fun d hd=>?_,fun e he=>?_,h1,h2⟩
 ·obtain ⟨i,hi⟩:=List.mem_iff_getElem?.1 hd
  have:=of_decide_eq_true (h3 i d hi)
  exact ⟨this.2.1,this.2.2.2.1⟩
 ·obtain ⟨i,hi⟩:=List.mem_iff_getElem?.1 he
  have:=h4 i e hi
  simp only [Bool.and_eq_true] at this
  exact ⟨textV_in this.1,textV_in this.2⟩
theorem side (l:List T12) {x:Int} (hx:x < (l.length:Int)):(decide (x < 0)=true∧decide (x≥0)=false∧unkV l x=false∧nvV l x=0) ∨
  (decide (x < 0)=false∧decide (x≥0)=true∧∃ v,idx l x=some v∧unkV l x=(v.Kind==0)∧nvV l x=vnum v):=by
 by_cases h:x < 0
 ·left
  have e:decide (x < 0)=true:=dT h
  refine ⟨e,dF (by omega),?_,?_⟩
  ·unfold unkV;rw [e];rfl
  ·unfold nvV;rw [e];rfl
 ·right
  have e:decide (x < 0)=false:=dF h
  obtain ⟨v,hv⟩:=idx_lt (L:=l) (v:=x) (by omega) hx
  refine ⟨e,dT (by omega),v,hv,?_,?_⟩
  ·unfold unkV;rw [e,hv];rfl
  ·unfold nvV;rw [e,hv];rfl
theorem guard_of {fl:List T4} {d:List T0} {x:T0} {i:Nat} (h:declV fl d x i=true):guardV fl x.Guard=true:=by
 unfold declV at h
 simp only [Bool.and_eq_true] at h
 exact h.2.2.2.2.2
end Gp
end
section
namespace Gp
open Go Go.Kx Gx
variable {N:Nat}
end Gp
end
end
section
namespace Gp
open Go Go.Kx Gx
variable {N:Nat}
end Gp
end
section
namespace Gp
open Go Go.Kx Gx
variable {N:Nat}
structure NumM (m:T8):Prop where
 r0:0≤m.Role
 r1:m.Role < 6
 s0:1≤m.States
 s1:m.States≤200
 b0:0≤m.Start
 b1:m.Start < m.States
 f:(m.Finals.length:Int)=m.States
 n:m.Moves.length≤400
 mv:∀ x∈m.Moves,(0≤x.From∧x.From < m.States)∧(0≤x.To∧x.To < m.States)∧(0≤x.Peer∧x.Peer < 6)∧x.Peer≠m.Role∧0≤x.Label∧x.Label < 40
end Gp
end
section
namespace Gp
open Go Go.Kx Gx
variable {N:Nat}
end Gp
end
section
namespace Gp
open Go Go.Kx Gx
variable {N:Nat}
structure TabM (t:T17) (m:T8):Prop where
 num:NumM m
 mm:t.Machine=m
 len:t.out'.length=m.States.toNat
 out:∀ (s:Nat) (l:List Int),t.out'[s]? = some l→l.length≤400∧∀ a∈l,∃ k x,a=((k:Nat):Int)∧m.Moves[k]? = some x∧x.From=(s:Int)
variable {t:T17} {m:T8}
end Gp
end
section
namespace Gp
open Go Go.Kx Gx
variable {N:Nat}
structure InvR (S:Nat) (a:List Bool) (q:List Int):Prop where
 len:a.length=S
 qq:∀ i∈q,0≤i∧i < (S:Int)
 c:q.length+a.count false≤S
variable {t:T17} {m:T8}
end Gp
end
section
namespace Gp
open Go Go.Kx Gx
variable {N:Nat}
def vnumV (v:T12):Int:=bif v.Kind==1 then v.N else bif v.Kind==2 then (v.S.size:Int) else 0
def vsortV (s:T10):Bool:=bif s.Kind==1 then (decide (-1000≤s.Lo) && (decide (s.Lo≤s.Hi) && decide (s.Hi≤1000))) else bif s.Kind==2 then (decide (0≤s.Lo) && (decide (s.Lo≤s.Hi) && decide (s.Hi≤40))) else false
def vvalidV (v:T12):Bool:=bif v.Kind==1 then (decide (v.N≥-1000) && (decide (v.N≤1000) && (v.S.toList==(str []).toList))) else bif v.Kind==2 then (v.N==0 && (decide ((v.S.size:Int)≤40) && !(bs v.S).any badB)) else false
def vfitV (s:T10) (v:T12):Bool:=vsortV s && (vvalidV v && (s.Kind==v.Kind && (decide (vnumV v≥s.Lo) && decide (vnumV v≤s.Hi))))
def KnownL (fs:List T4) (ks:List T12):Prop:=fs.length=ks.length∧∀ (i:Nat) (f:T4) (v:T12),fs[i]? = some f→ks[i]? = some v→(zeroV v || vfitV f.Sort' v)=true
end Gp
end
section
namespace Gp
open Go Go.Kx Gx
variable {N:Nat}
structure AgrM (g:T5) (m:T8):Prop where
 v:validD g.Decls=true
 n:NumM m
 l:∀ x∈m.Moves,x.Label < (g.Decls.length:Int)
structure StM (g:T5) (m:T8) (s:T18):Prop where
 a0:0≤s.At
 a1:s.At < m.States
 k:KnownL (flat g.Decls) s.Known
 p:s.Pending.length≤4194304
theorem valid_len {l:List T0} (h:validD l=true):l.length≤40∧(flat l).length≤24:=by
 unfold validD at h
 simp only [Bool.and_eq_true,decide_eq_true_eq] at h
 exact ⟨h.1,h.2.1⟩
end Gp
end
section
namespace Gp
open Go Go.Kx Gx
variable {N:Nat}
structure SizeE (x:T3):Prop where
 l:x.Values.length≤4194304
 s:∀ v∈x.Values,v.S.size≤4194304
end Gp
end
section
namespace Gp
open Go Go.Kx Gx
variable {N:Nat}
end Gp
end
section
namespace Gp
open Go Go.Kx Gx
variable {N:Nat}
end Gp
end
section
namespace Gp
open Go Go.Kx Gx
variable {N:Nat}
theorem bs_app (a b:ByteArray):bs (a++b)=bs a++bs b:=by
 unfold bs
 rw [ByteArray.data_append,Array.toList_append]
theorem cat_mk {a b:List UInt8} (h:a.length+b.length≤9223372036854775807):catS (mkB a) (mkB b)=some (mkB (a++b)):=by
 unfold catS
 have e:(mkB a).size=a.length∧(mkB b).size=b.length:=⟨by rw [size_bs,bs_mkB],by rw [size_bs,bs_mkB]⟩
 rw [e.1,e.2,dF (by simp only [IntKind.max];simp [IntKind.bits,IntKind.signed];omega)]
 simp only [cF]
 refine congrArg some (bs_inj ?_)
 rw [bs_app,bs_mkB,bs_mkB,bs_mkB]
theorem digN_len:∀ f u,(digN f u).length≤f
 | 0,_=>Nat.le_refl _
 | f+1,u=>by
  rw [digN]
  cases hb:Nat.blt u 10 with
  | true=>simp
  | false =>
   have:=digN_len f (u / 10)
   simp only [cF,lA,List.length_singleton]
   omega
theorem itoa_eq {n:Int} (h:I64 n):z48 N n=some (itoaS n):=by
 unfold z48
 rw [dT h.1,dT h.2];rfl
theorem itoa_len (n:Int):(itoaS n).size≤26:=by
 unfold itoaS
 have h1:=digN_len 25 n.natAbs
 have h2:=digN_len 25 n.toNat
 show (bif decide (n < 0) then 45::digN 25 n.natAbs else digN 25 n.toNat).toArray.size≤26
 cases decide (n < 0)<;>simp<;>omega
end Gp
end
section
namespace Gp
open Go Go.Kx Gx
variable {N:Nat}
structure NumV (v:T12):Prop where
 n:I64 v.N
 s:v.S.size≤4194304
end Gp
end
section
namespace Gp
open Go Go.Kx Gx
variable {N:Nat}
structure ShowOk (g:T5) (x:T3):Prop where
 r:∀ s∈g.Roles,s.size≤4194304
 d:g.Decls.length≤4194304
 n:∀ y∈g.Decls,y.Name.size≤4194304
 l:x.Values.length≤4194304
 v:∀ v∈x.Values,NumV v
theorem cat_bs {s:ByteArray} {b:List UInt8} (h:(bs s).length+b.length≤9223372036854775807):catS s (mkB b)=some (mkB (bs s++b)):=by
 have:=cat_mk (a:=bs s) (b:=b) h
 rw [mkB_bs] at this
 exact this
theorem cat_sb {s:ByteArray} {b:List UInt8} (h:b.length+(bs s).length≤9223372036854775807):catS (mkB b) s=some (mkB (b++bs s)):=by
 have:=cat_mk (a:=b) (b:=bs s) h
 rw [mkB_bs] at this
 exact this
end Gp
end
section
namespace Gp
open Go Go.Kx Gx
variable {N:Nat}
theorem flat_find:∀ (r:List T0) (x:Nat),x < (flat r).length→∃ (i:Nat) (d:T0) (j:Nat) (f:T4),r[i]? = some d∧d.Fields[j]? = some f∧x=(flat (r.take i)).length+j
 | [],x,h=>by simp [flat] at h
 | d::r,x,h=>by
  rw [flat_cons,lA] at h
  by_cases c:x < d.Fields.length
  ·exact ⟨0,d,x,d.Fields[x],rfl,List.getElem?_eq_getElem c,by simp [flat]⟩
  ·obtain ⟨i,e,j,f,h1,h2,h3⟩:=flat_find r (x-d.Fields.length) (by omega)
   refine ⟨i+1,e,j,f,by simpa using h1,h2,?_⟩
   rw [List.take_succ_cons,flat_cons,lA]
   omega
theorem var_loop (l:List T0) (hl:l.length≤4194304) (hfl:(flat l).length≤4194304) {i j:Nat} {d:T0} {f:T4} (hi:l[i]? = some d) (hj:d.Fields[j]? = some f):∀ (q n k:Nat),i=k+q→q < n →
  z108_l2 l n (((flat (l.take i)).length+j-(flat (l.take k)).length:Nat):Int) (k:Int)=some (d,f,true)
 | 0,n,k,hq,hn=>by
  obtain ⟨n,rfl⟩:∃ m,n=m+1:=⟨n-1,by omega⟩
  obtain rfl:i=k:=by omega
  have hk:=(List.getElem?_eq_some_iff.1 hi).1
  have hjl:=(List.getElem?_eq_some_iff.1 hj).1
  rw [show (flat (l.take i)).length+j-(flat (l.take i)).length=j by omega,z108_l2,lt_t hk,idx_nat,hi]
  simp only [cT,bS]
  rw [dT (show (j:Int)≥0 by omega),lt_t hjl,idx_nat,hj];rfl
 | q+1,n,k,hq,hn=>by
  obtain ⟨n,rfl⟩:∃ m,n=m+1:=⟨n-1,by omega⟩
  have hi':=(List.getElem?_eq_some_iff.1 hi).1
  have hk:k < l.length:=by omega
  have hg:=List.getElem?_eq_getElem hk
  have hnx:=flat_next hg
  have hmono:(flat (l.take (k+1))).length≤(flat (l.take i)).length:=by
   have:=flat_take_le (l.take i) (k+1)
   rw [List.take_take,show min (k+1) i=k+1 by omega] at this
   exact this
  have htot:=flat_take_le l (i+1)
  have hn2:=flat_next hi
  have hjl:=(List.getElem?_eq_some_iff.1 hj).1
  rw [z108_l2,lt_t hk,idx_nat,hg]
  simp only [cT,bS]
  rw [dT (show (((flat (l.take i)).length+j-(flat (l.take k)).length:Nat):Int)≥0 by omega),lt_f (by omega)]
  simp only [cT,cF]
  rw [w64_succ (by omega),w64_id (by omega) (by omega)]
  have:=var_loop l hl hfl hi hj q n (k+1) (by omega) (by omega)
  rw [← this]
  congr 1
  omega
theorem itoa_bs (n:Int):(bs (itoaS n)).length≤26:=by rw [← size_bs];exact itoa_len n
theorem diffOk_of {fl:List T4} {g:T6} (h:guardV fl g=true) {d:T1} (hd:d∈g.Diffs):diffOk (fl.length:Int) d:=by
 unfold guardV at h
 simp only [Bool.and_eq_true,decide_eq_true_eq] at h
 have h3:=h.2.1
 rw [allV_iff] at h3
 obtain ⟨i,hi⟩:=List.mem_iff_getElem?.1 hd
 exact of_decide_eq_true (h3 i d hi)
theorem bounds_some (hN:4194304 < N) (d:T0) (hd:SizeD d):∃ r,z47 N d=some r :=
 bounds_l4 hN d hd d.Fields 0 N [] rfl (by have:=hd.f;omega) (by have:=hd.f;simp;omega)
end Gp
end
section
namespace Gp
open Go Go.Kx Gx
variable {N:Nat}
def fieldL (f:T4):List UInt8:=bs f.Name++[58,32]++(bif f.Sort'.Kind==2 then [116,101,120,116] else [105,110,116])++[32]++bs (itoaS f.Sort'.Lo)++[32,46,46,32]++bs (itoaS f.Sort'.Hi)
structure FieldOk (f:T4):Prop where
 n:(bs f.Name).length≤4000000
 lo:I64 f.Sort'.Lo
 hi:I64 f.Sort'.Hi
theorem fieldL_len {f:T4} (h:FieldOk f):(fieldL f).length≤4000100:=by
 have h1:=h.n
 have h2:=itoa_bs f.Sort'.Lo
 have h3:=itoa_bs f.Sort'.Hi
 unfold fieldL
 cases (f.Sort'.Kind==2)<;>simp<;>omega
theorem field_eq {f:T4} (h:FieldOk f):z23 N f=some (mkB (fieldL f)):=by
 have h1:=h.n
 have h2:=itoa_bs f.Sort'.Lo
 have h3:=itoa_bs f.Sort'.Hi
 have key:∀ k:List UInt8,k.length≤4→z23_k1 N f (mkB k)=some (mkB (bs f.Name++[58,32]++k++[32]++bs (itoaS f.Sort'.Lo)++[32,46,46,32]++bs (itoaS f.Sort'.Hi))):=fun k hk=>by
  unfold z23_k1
  rw [itoa_eq h.lo,itoa_eq h.hi,show str [58,32]=mkB [58,32] from rfl,show str [32]=mkB [32] from rfl,show str [32,46,46,32]=mkB [32,46,46,32] from rfl]
  rw [cat_bs (by simp;omega),bS,cat_mk (by simp;omega),bS,cat_mk (by simp;omega),bS,bS,cat_sb (by simp;omega),bS,cat_mk (by simp;omega),bS,bS,cat_sb (by simp;omega),bS]
 unfold z23 fieldL
 cases (f.Sort'.Kind==2)
 ·exact key [105,110,116] (by simp)
 ·exact key [116,101,120,116] (by simp)
def tailL (sep:List UInt8) (l:List (List UInt8)):List UInt8:=(l.map (sep++·)).flatten
theorem tailL_cons (sep x:List UInt8) (l:List (List UInt8)):tailL sep (x::l)=sep++x++tailL sep l:=by unfold tailL;simp
theorem tailL_len {sep:List UInt8} {c:Nat}:∀ {l:List (List UInt8)},(∀ x∈l,x.length≤c)→(tailL sep l).length≤l.length * (c+sep.length)
 | [],_=>by simp [tailL]
 | x::l,h=>by
  have h1:=tailL_len (sep:=sep) (l:=l) fun y hy=>h y (List.mem_cons_of_mem _ hy)
  have h2:=h x List.mem_cons_self
  rw [tailL_cons,List.length_cons,Nat.add_mul]
  simp only [lA]
  omega
theorem joinL_len {sep:List UInt8} {c:Nat} {l:List (List UInt8)} (h:∀ x∈l,x.length≤c):(joinL sep l).length≤l.length * (c+sep.length):=by
 cases l with
 | nil=>simp [joinL]
 | cons x l =>
  have h1:=tailL_len (sep:=sep) (l:=l) fun y hy=>h y (List.mem_cons_of_mem _ hy)
  have h2:=h x List.mem_cons_self
  show (x++tailL sep l).length≤_
  rw [List.length_cons,Nat.add_mul,lA]
  omega
theorem join_eq {l:List (List UInt8)} {sep:List UInt8} (hl:l.length≤1000) (h:(joinL sep l).length≤140737488355328):z25 N (l.map mkB) (mkB sep)=some (mkB (joinL sep l)):=by
  have e1:(mkB sep).data.toList=sep:=bs_mkB _
  have e2:(l.map mkB).map (·.data.toList)=l:=by
    rw [List.map_map]
    conv=>rhs;rw [← List.map_id l]
    exact List.map_congr_left fun x _=>bs_mkB x
  unfold z25
  rw [e1,e2,List.length_map,dT (show l.length≤140737488355328 by omega),dT h]
  rfl
theorem dfields_loop (l:List T0) (label:Int) (x:T0):∀ (r:List T4) (n k:Nat) (acc:List ByteArray),x.Fields.drop k=r→r.length < n→k+r.length≤1000→acc.length+r.length≤1000→(∀ f∈r,FieldOk f) →
  z7_l4 N l label x n acc (k:Int)=z7_k3 N l label x (acc++r.map fun f=>mkB (fieldL f))
 | [],n,k,acc,h,hn,hk,ha,hf=>by
  obtain ⟨n,rfl⟩:∃ z,n=z+1:=⟨n-1,by simp at hn;omega⟩
  rw [z7_l4,lt_f (drop_nil h)]
  simp
 | f::r,n,k,acc,h,hn,hk,ha,hf=>by
  obtain ⟨n,rfl⟩:∃ z,n=z+1:=⟨n-1,by simp at hn;omega⟩
  obtain ⟨hi,hx,hr⟩:=drop_cons h
  simp only [List.length_cons] at hn hk ha
  rw [z7_l4,lt_t hi,idx_nat,hx,w64_succ (by omega)]
  simp only [cT,bS]
  rw [field_eq (hf f List.mem_cons_self),bS,appL_some (by simp;omega),bS]
  rw [dfields_loop l label x r n (k+1) _ hr (by omega) (by omega) (by simp;omega) fun y hy=>hf y (List.mem_cons_of_mem _ hy)]
  simp
theorem datoms_loop (l:List T0) (label:Int) (x:T0) (v8:List ByteArray) (A:Nat→List UInt8) (T:Nat) (hT:T≤40) (hw:w64 ((x.Guard.Diffs.length:Int)+(x.Guard.Equals.length:Int))=(T:Int)) (hA:∀ i,i < T→z24 N l label (i:Int)=some (mkB (A i))) :
  ∀ (q n k:Nat) (acc:List ByteArray),T-k=q→q < n→acc.length+q≤1000→k≤T →
  z7_l2 N l label x v8 n acc (k:Int)=z7_k1 N x v8 (acc++(List.range' k q).map fun i=>mkB (A i))
 | 0,n,k,acc,h,hn,ha,hk=>by
  obtain ⟨n,rfl⟩:∃ z,n=z+1:=⟨n-1,by omega⟩
  rw [z7_l2,hw,lt_f (show T≤k by omega)]
  simp
 | q+1,n,k,acc,h,hn,ha,hk=>by
  obtain ⟨n,rfl⟩:∃ z,n=z+1:=⟨n-1,by omega⟩
  rw [z7_l2,hw,lt_t (show k < T by omega),hA k (by omega),w64_succ (by omega)]
  simp only [cT,bS]
  rw [appL_some (by simp;omega),bS,datoms_loop l label x v8 A T hT hw hA q n (k+1) _ (by omega) (by omega) (by simp;omega) (by omega)]
  congr 1
  simp [List.range'_succ]
def declL (nm:List UInt8) (F As:List (List UInt8)):List UInt8:=nm++[40]++joinL [44,32] F++[41]++match As with
 | []=>[]
 | a::r=>[32,119,104,101,114,101,32]++joinL [32,97,110,100,32] (a::r)
theorem dk1_eq (x:T0) (F As:List (List UInt8)) (hn:(bs x.Name).length≤4000000) (hF:F.length≤100) (hF2:∀ y∈F,y.length≤4000100) (hA:As.length≤100) (hA2:∀ y∈As,y.length≤67108864) :
  z7_k1 N x (F.map mkB) (As.map mkB)=some (mkB (declL (bs x.Name) F As)):=by
 have h1:=joinL_len (sep:=[44,32]) hF2
 have h2:=joinL_len (sep:=[32,97,110,100,32]) hA2
 have g1:F.length * (4000100+2)≤100 * 4000102:=Nat.mul_le_mul hF (by decide)
 have g2:As.length * (67108864+5)≤100 * 67108869:=Nat.mul_le_mul hA (by decide)
 have h1:(joinL [44,32] F).length≤400010200:=Nat.le_trans h1 g1
 have h2:(joinL [32,97,110,100,32] As).length≤6710886900:=Nat.le_trans h2 g2
 unfold z7_k1 declL
 rw [show str [40]=mkB [40] from rfl,show str [41]=mkB [41] from rfl,show str [44,32]=mkB [44,32] from rfl,show str [32,97,110,100,32]=mkB [32,97,110,100,32] from rfl,show str [32,119,104,101,114,101,32]=mkB [32,119,104,101,114,101,32] from rfl]
 rw [cat_bs (by simp;omega),bS,join_eq (by omega) (by omega),bS,cat_mk (by simp;omega),bS,cat_mk (by simp;omega),bS]
 cases As with
 | nil=>simp
 | cons a r =>
  rw [dT (show (((a::r).map mkB).length:Int) > 0 by simp),cT,join_eq (by omega) (by omega),bS,cat_mk (by simp;omega),bS,cat_mk (by simp;omega),bS]
theorem fields_le:∀ {l:List T0} {x:T0},x∈l→x.Fields.length≤(flat l).length
 | [],x,h=>by cases h
 | y::l,x,h=>by
  rw [flat_cons,lA]
  rcases List.mem_cons.1 h with rfl | h
  ·omega
  ·have:=fields_le h;omega
theorem sort_i64 {s:T10} (h:sortOk s):I64 s.Lo∧I64 s.Hi:=by
 rcases h with ⟨_,h1,h2,h3⟩ | ⟨_,h1,h2,h3⟩<;>exact ⟨⟨by omega,by omega⟩,by omega,by omega⟩
end Gp
end
section
section
namespace Gp
open Go Go.Kx
end Gp
end
section
namespace Gp
open Go Go.Kx
variable {α:Type} {K:α→Int} {r:α→α→Prop}
end Gp
end
section
namespace Gp
open Go Go.Kx Gx
variable {N:Nat} (hN:4194304 < N)
end Gp
end
section
namespace Gp
open Go Go.Kx Gx
variable {N:Nat} (hN:4194304 < N)
end Gp
end
section
namespace Gp
open Go Go.Kx Gx
end Gp
end
section
namespace Gp
open Go Go.Kx Gx
theorem eqStr_iff (a b:ByteArray):eqStr a b=true↔a=b:=by
 unfold eqStr
 rw [beq_iff_eq,toList_bs,toList_bs]
 exact ⟨bs_inj,fun h=>by rw [h]⟩
variable {N:Nat} (hN:4194304 < N)
include hN in
theorem name_own (s:ByteArray) (hs:s.size≤4194304):z125 N s=some (isName s):=by
 unfold z125
 rw [nameL hN s hs,toList_bs,toList_bs,bs_nil,size_bs,show sidx s (0:Int)=sidx s ((0:Nat):Int) from rfl,sidx_bs]
 unfold isName
 cases h:bs s with
 | nil=>rfl
 | cons x l =>
  have e:(x::l==([]:List UInt8))=false:=rfl
  rw [e]
  simp only [cF,List.getElem?_cons_zero,Option.map_some,bS,letter_eq]
  have d:decide (((x::l).length:Int) > 16) = !decide (l.length < 16):=by
   by_cases q:l.length < 16
   ·rw [dT q];simp;omega
   ·rw [dF q];simp;omega
  rw [d]
  cases letterV (x.toNat:Int)<;>cases decide (l.length < 16)<;>rfl
include hN in
theorem word_own (s:ByteArray) (hs:s.size≤4194304):z67 N s=some (isWord s):=by
 unfold z67
 rw [name_own hN s hs]
 simp only [bS]
 have c1:=contains_eq hN keywords (by decide) s
 unfold keywords at c1
 rw [c1]
 unfold isWord keywords
 simp only [bS]
 cases isName s<;>rfl
end Gp
end
section
namespace Gp
open Go Go.Kx Gx
theorem indexB_none {l:List UInt8} {c:UInt8} (h:l.count c=0):Go.Lib.indexByte l c=-1:=by
 induction l with
 | nil=>rfl
 | cons b l ih =>
  rw [List.count_cons] at h
  have hb:(b==c)=false:=by
   cases hc:(b==c)
   ·rfl
   ·rw [hc] at h;simp at h
  unfold Go.Lib.indexByte
  rw [hb,ih (by omega)];rfl
variable {N:Nat}
end Gp
end
end
section
namespace Gp
open Go Go.Kx Gx
mutual
def dI:T20→Nat
 | ⟨_,_,_,_,_,_,b⟩=>dLL b+1
def dL:List T20→Nat
 | []=>0
 | x::l=>max (dI x) (dL l)
def dLL:List (List T20)→Nat
 | []=>0
 | x::l=>max (dL x) (dLL l)
end
mutual
def bI:T20→Prop
 | ⟨_,_,t,_,_,_,b⟩=>t.length≤4194304∧b.length≤4194304∧bLL b
def bL:List T20→Prop
 | []=>True
 | x::l=>bI x∧bL l
def bLL:List (List T20)→Prop
 | []=>True
 | x::l=>x.length≤4194304∧bL x∧bLL l
end
theorem dL_mem:∀ {l:List T20} {x},x∈l→dI x≤dL l
 | y::l,x,h=>by
  simp only [dL]
  rcases List.mem_cons.1 h with rfl | h
  ·omega
  ·have:=dL_mem h;omega
theorem dLL_mem:∀ {l:List (List T20)} {x},x∈l→dL x≤dLL l
 | y::l,x,h=>by
  simp only [dLL]
  rcases List.mem_cons.1 h with rfl | h
  ·omega
  ·have:=dLL_mem h;omega
theorem dI_eq (x:T20):dI x=dLL x.Blocks+1:=by cases x;simp only [dI]
theorem bL_mem:∀ {l:List T20} {x},bL l→x∈l→bI x
 | y::l,x,hb,h=>by
  simp only [bL] at hb
  rcases List.mem_cons.1 h with rfl | h
  ·exact hb.1
  ·exact bL_mem hb.2 h
theorem bLL_mem:∀ {l:List (List T20)} {x},bLL l→x∈l→x.length≤4194304∧bL x
 | y::l,x,hb,h=>by
  simp only [bLL] at hb
  rcases List.mem_cons.1 h with rfl | h
  ·exact ⟨hb.1,hb.2.1⟩
  ·exact bLL_mem hb.2.2 h
theorem bI_eq (x:T20):bI x↔x.To.length≤4194304∧x.Blocks.length≤4194304∧bLL x.Blocks:=by cases x;simp only [bI]
def Dq (o:Option Bool) (P:Prop):Prop:=∃ r,o=some r∧(r=true↔P)
theorem Dq.iff {o P Q} (h:Dq o P) (k:P↔Q):Dq o Q:=by
 obtain ⟨r,h1,h2⟩:=h
 exact ⟨r,h1,h2.trans k⟩
theorem Dq.tr:Dq (some true) True:=⟨true,rfl,by simp⟩
theorem Dq.fa:Dq (some false) False:=⟨false,rfl,by simp⟩
theorem Dq.cA {c:Bool} {C P:Prop} {o:Option Bool} (hc:c=true↔C) (h:C→Dq o P):Dq (bif c then o else some false) (C∧P):=by
 cases c with
 | false=>exact ⟨false,rfl,by simp at hc ⊢;intro h;exact absurd h hc⟩
 | true =>
  have hC:=hc.1 rfl
  obtain ⟨r,h1,h2⟩:=h hC
  exact ⟨r,h1,by rw [h2];exact ⟨fun p=>⟨hC,p⟩,fun p=>p.2⟩⟩
theorem Dq.cN {c:Bool} {C P:Prop} {o:Option Bool} (hc:c=false↔C) (h:C→Dq o P):Dq (bif c then some false else o) (C∧P):=by
 cases c with
 | true=>exact ⟨false,rfl,by simp at hc ⊢;intro h;exact absurd h hc⟩
 | false =>
  have hC:=hc.1 rfl
  obtain ⟨r,h1,h2⟩:=h hC
  exact ⟨r,h1,by rw [h2];exact ⟨fun p=>⟨hC,p⟩,fun p=>p.2⟩⟩
theorem Dq.bA {C P:Prop} {o1 o2:Option Bool} (h1:Dq o1 C) (h:C→Dq o2 P):Dq (o1.bind fun x=>bif x then o2 else some false) (C∧P):=by
 obtain ⟨r,e,hr⟩:=h1
 rw [e]
 exact Dq.cA hr h
theorem Dq.bN {C P:Prop} {o1 o2:Option Bool} (h1:Dq o1 C) (h:C→Dq o2 P):Dq (o1.bind fun x=>bif (!x) then some false else o2) (C∧P):=by
 obtain ⟨r,e,hr⟩:=h1
 rw [e]
 exact Dq.cN (by rw [← hr];cases r<;>simp) h
theorem Dq.bS {C:Prop} {o1:Option Bool} (h1:Dq o1 C):Dq (o1.bind fun x=>some x) C:=by
 obtain ⟨r,e,hr⟩:=h1
 exact ⟨r,by rw [e];rfl,hr⟩
theorem nbeq {a b:Int}:(a != b)=false↔a=b:=by simp
theorem ibeq {a b:Int}:(a==b)=true↔a=b:=by simp
theorem seq' {a b:ByteArray}:(a.toList==b.toList)=true↔a=b:=eqStr_iff a b
theorem get_lt {α:Type} {l:List α} {i:Nat} {x:α} (h:l[i]? = some x):i < l.length:=(List.getElem?_eq_some_iff.1 h).1
variable {N:Nat} (hN:4194304 < N)
def bM (m:T21):Prop:=m.Fields.length≤4194304∧m.Where.length≤4194304
structure bP (p:T22):Prop where
 r:p.Roles.length≤4194304
 m:p.Messages.length≤4194304
 ms:∀ x∈p.Messages,bM x
 l:p.Body.length≤4194304
 b:bL p.Body
end Gp
end
section
namespace Gp
open Go Go.Kx Gx
theorem fold_loop {α γ σ:Type} (xs:List α) (F:Nat→σ→Int→γ) (step:σ→α→σ) (fin:σ→γ) (Inv:Nat→σ→Prop)
  (h1:∀ (n k:Nat) s x,Inv k s→xs[k]? = some x→F (n+1) s (k:Int)=F n (step s x) ((k+1:Nat):Int)∧Inv (k+1) (step s x))
  (h2:∀ (n k:Nat) s,Inv k s→xs.length≤k→F (n+1) s (k:Int)=fin s) {N:Nat} {s:σ} (hN:xs.length < N) (h0:Inv 0 s) :
  F N s (0:Int)=fin (xs.foldl step s)∧Inv xs.length (xs.foldl step s):=by
 have key:∀ (l:List α) (k n:Nat) (s:σ),xs.drop k=l→l.length < n→Inv k s→F n s (k:Int)=fin (l.foldl step s)∧Inv (k+l.length) (l.foldl step s):=by
  intro l
  induction l with
  | nil =>
   intro k n s h hn hi
   obtain ⟨n,rfl⟩:∃ m,n=m+1:=⟨n-1,by simp at hn;omega⟩
   exact ⟨h2 n k s hi (drop_nil h),hi⟩
  | cons x l ih =>
   intro k n s h hn hi
   obtain ⟨n,rfl⟩:∃ m,n=m+1:=⟨n-1,by simp at hn;omega⟩
   obtain ⟨a,c,d⟩:=drop_cons h
   obtain ⟨e1,e2⟩:=h1 n k s x hi c
   obtain ⟨e3,e4⟩:=ih (k+1) n _ d (by simp at hn;omega) e2
   refine ⟨e1.trans e3,?_⟩
   rw [List.length_cons,show k+(l.length+1)=k+1+l.length by omega]
   exact e4
 have:=key xs 0 N s rfl hN h0
 rw [Nat.zero_add] at this
 exact this
mutual
def cIz:T20→Nat
 | ⟨_,_,_,_,_,_,b⟩=>cLL b+1
def cL:List T20→Nat
 | []=>0
 | x::l=>cIz x+cL l
def cLL:List (List T20)→Nat
 | []=>0
 | x::l=>cL x+cLL l
end
theorem cI_eq2 (x:T20):cIz x=cLL x.Blocks+1:=by cases x;simp only [cIz]
theorem map_id' {α β:Type} {f:α→β} {g:β→α} (h:∀ x,f (g x)=x) (l:List β):(l.map g).map f=l:=by
 induction l with
 | nil=>rfl
 | cons x l ih=>rw [List.map_cons,List.map_cons,h,ih]
theorem snoc_fold {α β:Type} (f:α→β):∀ (l:List α) (s:List β),l.foldl (fun s x=>s++[f x]) s=s++l.map f
 | [],s=>by simp
 | x::l,s=>by rw [List.foldl_cons,snoc_fold f l,List.map_cons];simp
end Gp
end
section
namespace Gp
open Go Go.Kx Gx
variable {N:Nat} (hN:4194304 < N)
end Gp
end
section
namespace Gp
open Go Go.Kx Gx
variable {N:Nat} (hN:4194304 < N)
theorem gt_lem {a b:Nat}:decide ((a:Int) > (b:Int))=false↔a≤b:=by simp
end Gp
end
section
namespace Gp
open Go Go.Kx Gx
abbrev Tok:=T14
inductive Rr (α:Type) where
 | ok (a:α) (n:Nat)
 | er (k:Nat) (e:Int)
 | out
def Rr.bind {α β:Type}:Rr α→(α→Nat→Rr β)→Rr β
 | .ok a n,f=>f a n
 | .er k e,_=>.er k e
 | .out,_=>.out
def zt:Tok:=⟨0,str [],0,0⟩
def tk (l:List Tok) (n:Nat):Tok:=(l[n]?).getD zt
def isT (s:ByteArray) (t:Tok):Bool:=(t.Kind==4 || t.Kind==1) && eqStr t.Text s
abbrev Pm (α:Type):=List Tok→Nat→Rr α
def sWants (s:ByteArray):Pm Unit:=fun l n=>bif isT s (tk l n) then .ok () (n+1) else .er n 3
def wordT (t:Tok):Bool:=t.Kind==1 && isWord t.Text
def sWord:Pm ByteArray:=fun l n=>bif wordT (tk l n) then .ok (tk l n).Text (n+1) else .er n 3
def sNum:Pm Int:=fun l n=>bif (tk l n).Kind==2 then .ok (tk l n).Value (n+1) else .er n 3
def sSigned:Pm Int:=fun l n=>bif isT (str [45]) (tk l n) then (sNum l (n+1)).bind fun v m=>.ok (w64 (0-v)) m else sNum l n
def sLoop {α β:Type} (s:ByteArray) (p:Pm α) (upd:β→α→β):Nat→β→Pm β
 | 0,_,_,_=>.out
 | F+1,acc,l,n=>bif isT s (tk l n) then (p l (n+1)).bind fun a m=>sLoop s p upd F (upd acc a) l m else .ok acc n
def snoc {α:Type} (l:List α) (a:α):List α:=l++[a]
def dotW (a w:ByteArray):ByteArray:=a++(str [46]++w)
def sWords (F:Nat):Pm (List ByteArray):=fun l n=>(sWord l n).bind fun w m=>sLoop (str [44]) sWord snoc F [w] l m
def sPath (F:Nat):Pm ByteArray:=fun l n=>(sWord l n).bind fun w m=>sLoop (str [46]) sWord dotW F w l m
def sField:Pm T4:=fun l n=>(sWord l n).bind fun w n=>(sWants (str [58]) l n).bind fun _ n =>
 bif isT (str [105,110,116]) (tk l n) then (sSigned l (n+1)).bind fun lo n=>(sWants (str [46,46]) l n).bind fun _ n=>(sSigned l n).bind fun hi n=>.ok ⟨w,⟨1,lo,hi⟩⟩ n
 else (sWants (str [116,101,120,116]) l n).bind fun _ n=>(sNum l n).bind fun lo n=>(sWants (str [46,46]) l n).bind fun _ n=>(sNum l n).bind fun hi n=>.ok ⟨w,⟨2,lo,hi⟩⟩ n
def lastDot:List UInt8→Option Nat
 | []=>none
 | c::l=>match lastDot l with
  | some i=>some (i+1)
  | none=>if c=46 then some 0 else none
def splitP (s:ByteArray):ByteArray × ByteArray:=match lastDot (bs s) with
 | some i=>(mkB ((bs s).take i),mkB ((bs s).drop (i+1)))
 | none=>(str [],s)
def sTail (k:Int) (s:ByteArray):Pm T23:=fun l n =>
 bif isT (str [43]) (tk l n) then (sNum l (n+1)).bind fun v n=>.ok ⟨k,(splitP s).1,(splitP s).2,v⟩ n
 else bif isT (str [45]) (tk l n) then (sNum l (n+1)).bind fun v n=>.ok ⟨k,(splitP s).1,(splitP s).2,w64 (0-v)⟩ n
 else .ok ⟨k,(splitP s).1,(splitP s).2,0⟩ n
def sTerm (F:Nat):Pm T23:=fun l n =>
 bif (isT (str [45]) (tk l n) || (tk l n).Kind==2) then (sSigned l n).bind fun v n=>.ok ⟨1,str [],str [],v⟩ n
 else bif isT (str [108,101,110]) (tk l n) then (sWants (str [40]) l (n+1)).bind fun _ n=>(sPath F l n).bind fun s n=>(sWants (str [41]) l n).bind fun _ n=>sTail 3 s l n
 else (sPath F l n).bind fun s n=>sTail 2 s l n
def marksL:List ByteArray:=[(str [60]),(str [60,61]),(str [61,61]),(str [62,61]),(str [62])]
def markT (t:Tok):Bool:=t.Kind==4 && marksL.any fun k=>eqStr k t.Text
def sAtom (F:Nat):Pm T19:=fun l n=>(sTerm F l n).bind fun a n=>bif markT (tk l n) then (sTerm F l (n+1)).bind fun b m=>.ok ⟨a,(tk l n).Text,b⟩ m else .er n 3
def sWhere (F:Nat) (nm:ByteArray) (fs:List T4):Pm T21:=fun l n =>
 bif isT (str [119,104,101,114,101]) (tk l n) then (sAtom F l (n+1)).bind fun a n=>(sLoop (str [97,110,100]) (sAtom F) snoc F [a] l n).bind fun as' n=>(sWants (str [59]) l n).bind fun _ n=>.ok ⟨nm,fs,as'⟩ n
 else (sWants (str [59]) l n).bind fun _ n=>.ok ⟨nm,fs,[]⟩ n
def sMessage (F:Nat):Pm T21:=fun l n=>(sPath F l n).bind fun nm n=>(sWants (str [40]) l n).bind fun _ n =>
 bif isT (str [41]) (tk l n) then sWhere F nm [] l (n+1)
 else (sField l n).bind fun f n=>(sLoop (str [44]) sField snoc F [f] l n).bind fun fs n=>(sWants (str [41]) l n).bind fun _ n=>sWhere F nm fs l n
def sBlock (items:Pm (List T20)):Pm (List T20):=fun l n=>(sWants (str [123]) l n).bind fun _ n=>(items l n).bind fun x n=>(sWants (str [125]) l n).bind fun _ n=>.ok x n
def sElse (block:Pm (List T20)) (who:ByteArray) (ticks:Int) (bl:List (List T20)):Pm T20:=fun l n =>
 bif decide (ticks > 0) then (sWants (str [101,108,115,101]) l n).bind fun _ n=>(block l n).bind fun b n=>.ok ⟨2,who,[],str [],str [],ticks,snoc bl b⟩ n
 else .ok ⟨2,who,[],str [],str [],ticks,bl⟩ n
def sBranches (F:Nat) (block:Pm (List T20)) (who:ByteArray) (ticks:Int):Pm T20:=fun l n =>
 (block l n).bind fun b n=>(sLoop (str [111,114]) block snoc F [b] l n).bind fun bl n=>sElse block who ticks bl l n
def sTicks:Pm Int:=fun l n=>bif ((tk l n).Kind==2 && (decide ((tk l n).Value < 1) || decide ((tk l n).Value > 1000))) then .er n 2 else sNum l n
def sChoice (F:Nat) (block:Pm (List T20)):Pm T20:=fun l n=>(sWants (str [97,116]) l n).bind fun _ n=>(sWord l n).bind fun who n =>
 bif isT (str [119,105,116,104,105,110]) (tk l n) then (sTicks l (n+1)).bind fun t n=>sBranches F block who t l n
 else sBranches F block who 0 l n
def sSend (F:Nat):Pm T20:=fun l n=>(sWord l n).bind fun f n=>(sWants (str [45,62]) l n).bind fun _ n=>(sWords F l n).bind fun t n=>(sWants (str [58]) l n).bind fun _ n=>(sPath F l n).bind fun nm n =>
 (sWants (str [59]) l n).bind fun _ n=>.ok ⟨1,f,t,nm,str [],0,[]⟩ n
def sCall (F:Nat):Pm T20:=fun l n=>(sWord l n).bind fun nm n=>(sWants (str [40]) l n).bind fun _ n=>(sWords F l n).bind fun t n=>(sWants (str [41]) l n).bind fun _ n=>(sWants (str [97,115]) l n).bind fun _ n =>
 (sWord l n).bind fun a n=>(sWants (str [59]) l n).bind fun _ n=>.ok ⟨6,str [],t,nm,a,0,[]⟩ n
def sItem (F:Nat) (block:Pm (List T20)):Pm T20:=fun l n =>
 bif isT (str [99,104,111,105,99,101]) (tk l n) then sChoice F block l (n+1)
 else bif isT (str [108,111,111,112]) (tk l n) then (sPath F l (n+1)).bind fun nm n=>(block l n).bind fun b n=>.ok ⟨3,str [],[],nm,str [],0,[b]⟩ n
 else bif isT (str [97,103,97,105,110]) (tk l n) then (sPath F l (n+1)).bind fun nm n=>(sWants (str [59]) l n).bind fun _ n=>.ok ⟨4,str [],[],nm,str [],0,[]⟩ n
 else bif isT (str [112,97,114]) (tk l n) then (block l (n+1)).bind fun b n=>(sWants (str [97,110,100]) l n).bind fun _ n=>(block l n).bind fun c n=>(sLoop (str [97,110,100]) block snoc F [b,c] l n).bind fun bl n=>.ok ⟨5,str [],[],str [],str [],0,bl⟩ n
 else bif isT (str [99,97,108,108]) (tk l n) then sCall F l (n+1)
 else sSend F l n
def starters:List ByteArray:=[(str [99,104,111,105,99,101]),(str [108,111,111,112]),(str [97,103,97,105,110]),(str [112,97,114]),(str [99,97,108,108])]
def begT (t:Tok):Bool:=t.Kind==1 && (isWord t.Text || starters.any fun k=>eqStr k t.Text)
def sList (item:Pm T20):Nat→List T20→Pm (List T20)
 | 0,_,_,_=>.out
 | F+1,acc,l,n=>bif begT (tk l n) then (item l n).bind fun x m=>sList item F (snoc acc x) l m else .ok acc n
def sItems:Nat→Pm (List T20)
 | 0=>fun _ _=>.out
 | F+1=>sList (sItem F (sBlock (sItems F))) F []
def sProtocol (F:Nat):Pm T22:=fun l n=>(sWants (str [112,114,111,116,111,99,111,108]) l n).bind fun _ n=>(sWord l n).bind fun nm n=>(sWants (str [40]) l n).bind fun _ n=>(sWords F l n).bind fun rs n =>
 (sWants (str [41]) l n).bind fun _ n=>(sWants (str [123]) l n).bind fun _ n=>(sLoop (str [109,101,115,115,97,103,101]) (sMessage F) snoc F [] l n).bind fun ms n=>(sItems F l n).bind fun b n =>
 (sWants (str [125]) l n).bind fun _ n=>.ok ⟨nm,rs,ms,b⟩ n
def sParse (F:Nat):Nat→List T22→Pm (List T22)
 | 0,_,_,_=>.out
 | G+1,acc,l,n=>bif decide (n < l.length) then (sProtocol F l n).bind fun p m=>sParse F G (snoc acc p) l m else .ok acc n
end Gp
end
section
namespace Gp
open Go Go.Kx Gx
theorem isT_lt {s:ByteArray} {l:List Tok} {n:Nat} (h:isT s (tk l n)=true):n < l.length:=by
 rcases Nat.lt_or_ge n l.length with q | q
 ·exact q
 ·rw [show tk l n=zt by unfold tk;rw [List.getElem?_eq_none q];rfl] at h
  simp [isT,zt] at h
theorem kind_lt {l:List Tok} {n:Nat} {k:Int} (hk:k≠0) (h:((tk l n).Kind==k)=true):n < l.length:=by
 rcases Nat.lt_or_ge n l.length with q | q
 ·exact q
 ·rw [show tk l n=zt by unfold tk;rw [List.getElem?_eq_none q];rfl] at h
  simp [zt] at h;omega
theorem tk_get {l:List Tok} {n:Nat} (h:n < l.length):l[n]? = some (tk l n):=by
 unfold tk;rw [List.getElem?_eq_getElem h];rfl
theorem tk_end {l:List Tok} {n:Nat} (h:l.length≤n):tk l n=zt:=by unfold tk;rw [List.getElem?_eq_none h];rfl
theorem tk_mem {l:List Tok} {n:Nat} (h:n < l.length):tk l n∈l:=List.mem_of_getElem? (tk_get h)
def off (l:List Tok) (e:Int) (k:Nat):Int:=bif decide (k < l.length) then (tk l k).From else e
section
variable {σ:Type} (l:List Tok) (okS:Nat→σ) (erS:Nat→Int→σ)
def Ot {α β:Type} (Gd:α→Prop) (c:β→α) (n0:Nat) (r:Rr β) (o:Option (α × σ)):Prop :=
 match r with
 | .ok b n=>o=some (c b,okS n)∧Gd (c b)∧n0≤n∧n≤l.length
 | .er k e=>e≠0∧∃ a,o=some (a,erS k e)∧Gd a
 | .out=>True
theorem Ot.le {α β:Type} {Gd:α→Prop} {c:β→α} {n0 n1:Nat} {r:Rr β} {o:Option (α × σ)} (h:Ot l okS erS Gd c n1 r o) (hn:n0≤n1):Ot l okS erS Gd c n0 r o:=by
 cases r with
 | ok b n=>exact ⟨h.1,h.2.1,Nat.le_trans hn h.2.2.1,h.2.2.2⟩
 | er k e=>exact h
 | out=>trivial
structure Bj {α β:Type} (Gd:α→Prop) (c:β→α) (S:Nat→Rr β) (g:σ→Option (α × σ)):Prop where
 ok:∀ n,n≤l.length→Ot l okS erS Gd c n (S n) (g (okS n))
 st:∀ k e,e≠0→∃ a,g (erS k e)=some (a,erS k e)∧Gd a
structure BjU (S:Nat→Rr Unit) (g:σ→Option σ):Prop where
 ok:∀ n,n≤l.length→match S n with
  | .ok _ m=>g (okS n)=some (okS m)∧n≤m∧m≤l.length
  | .er k e=>e≠0∧g (okS n)=some (erS k e)
  | .out=>True
 st:∀ k e,e≠0→g (erS k e)=some (erS k e)
structure Tk (s:ByteArray) (t:σ→Option (Bool × σ)):Prop where
 ok:∀ n,t (okS n)=some (bif isT s (tk l n) then (true,okS (n+1)) else (false,okS n))
 st:∀ k e,e≠0→t (erS k e)=some (false,erS k e)
structure Is (s:ByteArray) (t:σ→Option Bool):Prop where
 ok:∀ n,t (okS n)=some (isT s (tk l n))
 st:∀ k e,e≠0→t (erS k e)=some false
structure Nx (t:σ→Option Tok):Prop where
 ok:∀ n,t (okS n)=some (tk l n)
 st:∀ k e,e≠0→t (erS k e)=some zt
variable {l okS erS}
theorem Bj.ret {α β:Type} {Gd:α→Prop} {c:β→α} {b:β} {a:α} (h:c b=a) (hg:Gd a):Bj l okS erS Gd c (fun n=>.ok b n) (fun s=>some (a,s)) :=
 ⟨fun n hn=>⟨by rw [h],by rw [h];exact hg,Nat.le_refl _,hn⟩,fun k e _=>⟨a,rfl,hg⟩⟩
theorem Bj.bind {α β α' β':Type} {Gd:α→Prop} {Gd':α'→Prop} {c:β→α} {c':β'→α'} (hc:∀ a,∃ b,c b=a) {S:Nat→Rr β} {g:σ→Option (α × σ)} (h:Bj l okS erS Gd c S g) {T:β→Nat→Rr β'} {G:α × σ→Option (α' × σ)}
  (hG:∀ b,Gd (c b)→Bj l okS erS Gd' c' (T b) (fun s=>G (c b,s))):Bj l okS erS Gd' c' (fun n=>(S n).bind T) (fun s=>(g s).bind G):=by
 refine ⟨fun n hn=>?_,fun k e he=>?_⟩
 ·have h1:=h.ok n hn
  show Ot l okS erS Gd' c' n ((S n).bind T) ((g (okS n)).bind G)
  cases hS:S n with
  | ok b m =>
   rw [hS] at h1
   obtain ⟨e,h4,h2,h3⟩:=h1
   rw [e]
   exact ((hG b h4).ok m h3).le _ _ _ h2
  | er k e =>
   rw [hS] at h1
   obtain ⟨he,a,e1,h4⟩:=h1
   obtain ⟨b,rfl⟩:=hc a
   refine ⟨he,?_⟩
   rw [e1]
   exact (hG b h4).st k e he
  | out=>trivial
 ·obtain ⟨a,e1,h4⟩:=h.st k e he
  obtain ⟨b,rfl⟩:=hc a
  show ∃ a,(g (erS k e)).bind G=_∧_
  rw [e1]
  exact (hG b h4).st k e he
theorem BjU.bind {α' β':Type} {Gd':α'→Prop} {c':β'→α'} {S:Nat→Rr Unit} {g:σ→Option σ} (h:BjU l okS erS S g) {T:Unit→Nat→Rr β'} {G:σ→Option (α' × σ)}
  (hG:Bj l okS erS Gd' c' (T ()) G):Bj l okS erS Gd' c' (fun n=>(S n).bind T) (fun s=>(g s).bind G):=by
 refine ⟨fun n hn=>?_,fun k e he=>?_⟩
 ·have h1:=h.ok n hn
  show Ot l okS erS Gd' c' n ((S n).bind T) ((g (okS n)).bind G)
  cases hS:S n with
  | ok b m =>
   rw [hS] at h1
   obtain ⟨e,h2,h3⟩:=h1
   rw [e]
   exact (hG.ok m h3).le _ _ _ h2
  | er k e =>
   rw [hS] at h1
   obtain ⟨he,e1⟩:=h1
   refine ⟨he,?_⟩
   rw [e1]
   exact hG.st k e he
  | out=>trivial
 ·show ∃ a,(g (erS k e)).bind G=_∧_
  rw [h.st k e he]
  exact hG.st k e he
theorem Bj.takes {α β:Type} {Gd:α→Prop} {c:β→α} {s:ByteArray} {t:σ→Option (Bool × σ)} (h:Tk l okS erS s t) {A B:Nat→Rr β} {G:Bool × σ→Option (α × σ)}
  (hA:Bj l okS erS Gd c A (fun p=>G (true,p))) (hB:Bj l okS erS Gd c B (fun p=>G (false,p))):Bj l okS erS Gd c (fun n=>bif isT s (tk l n) then A (n+1) else B n) (fun p=>(t p).bind G):=by
 refine ⟨fun n hn=>?_,fun k e he=>?_⟩
 ·show Ot l okS erS Gd c n (bif isT s (tk l n) then A (n+1) else B n) ((t (okS n)).bind G)
  rw [h.ok n]
  cases hi:isT s (tk l n) with
  | true=>exact (hA.ok (n+1) (isT_lt hi)).le _ _ _ (Nat.le_succ n)
  | false=>exact hB.ok n hn
 ·show ∃ a,(t (erS k e)).bind G=_∧_
  rw [h.st k e he]
  exact hB.st k e he
theorem Bj.is {α β:Type} {Gd:α→Prop} {c:β→α} {s:ByteArray} {t:σ→Option Bool} (h:Is l okS erS s t) {A B:Nat→Rr β} {G:Bool→σ→Option (α × σ)}
  (hA:Bj l okS erS Gd c A (G true)) (hB:Bj l okS erS Gd c B (G false)):Bj l okS erS Gd c (fun n=>bif isT s (tk l n) then A n else B n) (fun p=>(t p).bind fun x=>G x p):=by
 refine ⟨fun n hn=>?_,fun k e he=>?_⟩
 ·show Ot l okS erS Gd c n (bif isT s (tk l n) then A n else B n) ((t (okS n)).bind fun x=>G x (okS n))
  rw [h.ok n]
  cases hi:isT s (tk l n) with
  | true=>exact hA.ok n hn
  | false=>exact hB.ok n hn
 ·show ∃ a,(t (erS k e)).bind (fun x=>G x (erS k e))=_∧_
  rw [h.st k e he]
  exact hB.st k e he
theorem Bj.next {α β:Type} {Gd:α→Prop} {c:β→α} {t:σ→Option Tok} (h:Nx l okS erS t) {A B:Nat→Rr β} {G:Tok→σ→Option (α × σ)} (q:Tok→Bool) (hq:q zt=false)
  (hA:∀ n,n < l.length→q (tk l n)=true→Ot l okS erS Gd c n (A n) (G (tk l n) (okS n))) (hB:∀ n,n≤l.length→q (tk l n)=false→Ot l okS erS Gd c n (B n) (G (tk l n) (okS n)))
  (hS:∀ k e,e≠0→∃ a,G zt (erS k e)=some (a,erS k e)∧Gd a):Bj l okS erS Gd c (fun n=>bif q (tk l n) then A n else B n) (fun p=>(t p).bind fun x=>G x p):=by
 refine ⟨fun n hn=>?_,fun k e he=>?_⟩
 ·show Ot l okS erS Gd c n (bif q (tk l n) then A n else B n) ((t (okS n)).bind fun x=>G x (okS n))
  rw [h.ok n]
  cases hi:q (tk l n) with
  | true =>
   have hlt:n < l.length:=by
    rcases Nat.lt_or_ge n l.length with k | k
    ·exact k
    ·rw [tk_end k,hq] at hi;cases hi
   exact hA n hlt hi
  | false=>exact hB n hn hi
 ·show ∃ a,(t (erS k e)).bind (fun x=>G x (erS k e))=_∧_
  rw [h.st k e he]
  exact hS k e he
theorem Bj.congr {α β:Type} {Gd:α→Prop} {c:β→α} {S S':Nat→Rr β} {g g':σ→Option (α × σ)} (h:Bj l okS erS Gd c S g) (hS:∀ n,n≤l.length→S' n=S n) (hg:∀ s,g' s=g s):Bj l okS erS Gd c S' g' :=
 ⟨fun n hn=>by rw [hS n hn,hg];exact h.ok n hn,fun k e he=>by rw [hg];exact h.st k e he⟩
theorem Bj.loop {α β α' β':Type} {Gd:α→Prop} {Gd':α'→Prop} {c:β→α} {c':β'→α'} (hc:∀ a,∃ b,c b=a) (hl:l.length≤8100) {s:ByteArray} {t:σ→Option (Bool × σ)} (ht:Tk l okS erS s t) {p:Pm β} {f:σ→Option (α × σ)} (hf:Bj l okS erS Gd c (p l) f)
  (F:Nat→σ→List α→Option (α' × σ)) (K:σ→List α→Option (α' × σ))
  (hF:∀ n q acc,F (n+1) q acc=(t q).bind fun x=>bif x.1 then (f x.2).bind fun y=>(appL acc [y.1]).bind fun acc'=>F n y.2 acc' else K x.2 acc)
  {T:List β→Nat→Rr β'} (hK:∀ acc,acc.length≤8192→Bj l okS erS Gd' c' (T acc) (fun q=>K q (acc.map c))) :
  ∀ (M N:Nat) (acc:List β),M < N→acc.length≤4→Bj l okS erS Gd' c' (fun n=>(sLoop s p snoc M acc l n).bind T) (fun q=>F N q (acc.map c)):=by
 have hst:∀ N (acc:List β),0 < N→acc.length≤8192→∀ k e,e≠0→∃ a,F N (erS k e) (acc.map c)=some (a,erS k e)∧Gd' a:=by
  intro N acc hN ha k e he
  obtain ⟨n,rfl⟩:∃ m,N=m+1:=⟨N-1,by omega⟩
  rw [hF,ht.st k e he]
  exact (hK acc ha).st k e he
 have key:∀ (M N:Nat) (acc:List β) (n:Nat),M < N→acc.length≤n+4→n≤l.length→Ot l okS erS Gd' c' n ((sLoop s p snoc M acc l n).bind T) (F N (okS n) (acc.map c)):=by
  intro M
  induction M with
  | zero=>intro N acc n h1 h2 h3;trivial
  | succ M ih =>
   intro N acc n h1 h2 h3
   obtain ⟨N,rfl⟩:∃ m,N=m+1:=⟨N-1,by omega⟩
   rw [hF,ht.ok n]
   simp only [sLoop]
   cases hi:isT s (tk l n) with
   | false=>exact (hK acc (by omega)).ok n h3
   | true =>
    have hn:=isT_lt hi
    have h4:=hf.ok (n+1) hn
    simp only [cT,bS]
    cases hp:p l (n+1) with
    | ok b m =>
     rw [hp] at h4
     obtain ⟨e,_,h5,h6⟩:=h4
     rw [e,bS,appL_some (by simp;omega),bS]
     have:=ih N (snoc acc b) m (by omega) (by simp [snoc];omega) h6
     have e2:(snoc acc b).map c=acc.map c++[c b]:=by simp [snoc]
     rw [e2] at this
     exact this.le _ _ _ (by omega)
    | er k e =>
     rw [hp] at h4
     obtain ⟨he,a,e1,_⟩:=h4
     obtain ⟨b,rfl⟩:=hc a
     refine ⟨he,?_⟩
     rw [e1,bS,appL_some (by simp;omega),bS]
     have e2:acc.map c++[c b]=(acc++[b]).map c:=by simp
     rw [e2]
     exact hst N _ (by omega) (by simp;omega) k e he
    | out=>trivial
 intro M N acc h1 h2
 exact ⟨fun n hn=>key M N acc n h1 (by omega) hn,hst N acc (by omega) (by omega)⟩
end
theorem sur_id {α:Type}:∀ a:α,∃ b,id b=a:=fun a=>⟨a,rfl⟩
theorem map_idd {α:Type} (l:List α):l.map id=l:=List.map_id l
end Gp
end
section
namespace Gp
open Go Go.Kx Gx
theorem rr_bind_ok {α:Type} (r:Rr α):r.bind (fun a n=>.ok a n)=r:=by cases r<;>rfl
theorem pair_eta {α σ:Type} (o:Option (α × σ)):(o.bind fun x=>some (x.1,x.2))=o:=by cases o<;>rfl
theorem cat_ok {x y:ByteArray} (h:x.size+y.size≤4611686018427387904):catS x y=some (x++y):=by
 unfold catS
 rw [show decide (((x.size+y.size:Nat):Int) > IntKind.i64.max)=false by simp [IntKind.max,IntKind.signed,IntKind.bits];omega]
 rfl
theorem wordT_iff (t:Tok):wordT t=true↔t.Kind=1∧isWord t.Text=true:=by unfold wordT;simp
theorem isWord_size {s:ByteArray} (h:isWord s=true):s.size≤16:=by
 unfold isWord isName at h
 rw [size_bs]
 cases hb:bs s with
 | nil=>simp
 | cons x l=>rw [hb] at h;simp at h;simp;omega
def okP (l:List Tok) (e:Int) (n:Nat):T24:=⟨l,n,e,0,0⟩
def erP (l:List Tok) (e:Int) (k:Nat) (c:Int):T24:=⟨l,k,e,off l e k,c⟩
abbrev TrS {α:Type}:α→Prop:=fun _=>True
abbrev BP (l:List Tok) (e:Int) {α:Type} (Gd:α→Prop) (S:Nat→Rr α) (g:T24→Option (α × T24)):Prop:=Bj l (okP l e) (erP l e) Gd id S g
variable {N:Nat} (hN:4194304 < N) {l:List Tok} (hl:l.length≤8100) (hW:∀ t∈l,t.Text.size≤8100) (e:Int)
theorem next_nx (N:Nat) (l:List Tok) (e:Int):Nx l (okP l e) (erP l e) (z118 N):=by
 refine ⟨fun n=>?_,fun k c hc=>?_⟩
 ·show (bif ((0:Int) != 0) then some zt else bif decide ((n:Int)≥(l.length:Int)) then some zt else (idx l (n:Int)).bind fun x1=>some x1)=some (tk l n)
  rw [show ((0:Int) != 0)=false from rfl,cF]
  rcases Nat.lt_or_ge n l.length with h | h
  ·rw [show decide ((n:Int)≥(l.length:Int))=false by simp;omega,cF,idx_nat,tk_get h];rfl
  ·rw [show decide ((n:Int)≥(l.length:Int))=true by simp;omega,tk_end h];rfl
 ·simp only [z118,erP]
  rw [show (c != (0:Int))=true by simp [hc]];rfl
theorem sees_is (N:Nat) (l:List Tok) (e:Int) (s:ByteArray):Is l (okP l e) (erP l e) s (fun p=>z119 N p s):=by
 refine ⟨fun n=>?_,fun k c hc=>?_⟩
 ·unfold z119
  rw [(next_nx N l e).ok n,bS]
  unfold isT eqStr
  cases ((tk l n).Kind==4)<;>cases ((tk l n).Kind==1)<;>rfl
 ·show (z118 N _).bind _=_
  rw [(next_nx N l e).st k c hc];rfl
include hl in
theorem takes_tk (N:Nat) (s:ByteArray):Tk l (okP l e) (erP l e) s (fun p=>z64 N p s):=by
 refine ⟨fun n=>?_,fun k c hc=>?_⟩
 ·show (z119 N (okP l e n) s).bind _=_
  rw [(sees_is N l e s).ok n,bS]
  cases h:isT s (tk l n) with
  | false=>rfl
  | true =>
   have:=isT_lt h
   show some (true,(⟨l,w64 ((n:Int)+1),e,0,0⟩:T24))=_
   rw [w64_succ (by omega)];rfl
 ·show (z119 N (erP l e k c) s).bind _=_
  rw [(sees_is N l e s).st k c hc];rfl
theorem fail_ok (N:Nat) (l:List Tok) (e:Int) (n:Nat) (c:Int):z117 N (okP l e n) c=some (erP l e n c):=by
 show (bif ((0:Int) != 0) then some (okP l e n) else bif decide ((n:Int) < (l.length:Int)) then ((idx l (n:Int)).bind fun x1=>some (⟨l,n,e,x1.From,c⟩:T24)) else some ⟨l,n,e,e,c⟩)=_
 rw [show ((0:Int) != 0)=false from rfl,cF]
 unfold erP off
 rcases Nat.lt_or_ge n l.length with h | h
 ·rw [lt_t h,cT,idx_nat,tk_get h,bS,dT h];rfl
 ·rw [lt_f h,cF,dF (by omega)];rfl
theorem fail_er (N:Nat) (l:List Tok) (e:Int) (k:Nat) (c c':Int) (hc:c≠0):z117 N (erP l e k c) c'=some (erP l e k c):=by
 simp only [z117,erP]
 rw [show (c != (0:Int))=true by simp [hc]];rfl
include hl in
theorem wants_u (N:Nat) (s:ByteArray):BjU l (okP l e) (erP l e) (sWants s l) (fun p=>z61 N p s):=by
 refine ⟨fun n hn=>?_,fun k c hc=>?_⟩
 ·unfold sWants z61
  rw [(takes_tk hl e N s).ok n]
  cases h:isT s (tk l n) with
  | true=>exact ⟨rfl,Nat.le_succ n,isT_lt h⟩
  | false =>
   refine ⟨by decide,?_⟩
   show (z117 N (okP l e n) 3).bind _=_
   rw [fail_ok];rfl
 ·show (z64 N _ s).bind _=_
  rw [(takes_tk hl e N s).st k c hc]
  show (z117 N (erP l e k c) 3).bind _=_
  rw [fail_er _ _ _ _ _ _ hc];rfl
include hN hl hW in
theorem word_val (n:Nat):z62 N (okP l e n)=some (bif wordT (tk l n) then ((tk l n).Text,okP l e (n+1)) else (str [],erP l e n 3)):=by
 unfold z62
 rw [(next_nx N l e).ok n,bS]
 by_cases hk:(tk l n).Kind=1
 ·have hn:=kind_lt (l:=l) (n:=n) (k:=1) (by decide) (by simp [hk])
  rw [show ((tk l n).Kind != 1)=false by simp [hk],cF,(word_eq hN _ (by have:=hW _ (tk_mem hn);omega)).1,bS]
  cases hw:isWord (tk l n).Text with
  | true =>
   rw [(wordT_iff _).2 ⟨hk,hw⟩]
   show some ((tk l n).Text,(⟨l,w64 ((n:Int)+1),e,0,0⟩:T24))=_
   rw [w64_succ (by omega)];rfl
  | false =>
   rw [show wordT (tk l n)=false by unfold wordT;rw [hw];simp]
   show (z117 N (okP l e n) 3).bind _=_
   rw [fail_ok];rfl
 ·rw [show ((tk l n).Kind != 1)=true by simp [hk],show wordT (tk l n)=false by unfold wordT;simp [hk]]
  show (z117 N (okP l e n) 3).bind _=_
  rw [fail_ok];rfl
theorem word_er (N:Nat) (l:List Tok) (e:Int) (k:Nat) (c:Int) (hc:c≠0):z62 N (erP l e k c)=some (str [],erP l e k c):=by
 unfold z62
 rw [(next_nx N l e).st k c hc]
 show (z117 N (erP l e k c) 3).bind _=_
 rw [fail_er _ _ _ _ _ _ hc];rfl
def Sm (s:ByteArray):Prop:=s.size≤16
include hN hl hW in
theorem word_bj:BP l e Sm (sWord l) (z62 N):=by
 refine ⟨fun n hn=>?_,fun k c hc=>⟨_,word_er N l e k c hc,by unfold Sm;decide⟩⟩
 rw [word_val hN hl hW e n]
 unfold sWord
 cases h:wordT (tk l n) with
 | true=>exact ⟨rfl,isWord_size ((wordT_iff _).1 h).2,Nat.le_succ n,kind_lt (k:=1) (by decide) (by simp [((wordT_iff _).1 h).1])⟩
 | false=>exact ⟨by decide,_,rfl,by unfold Sm;decide⟩
include hl in
theorem num_bj (N:Nat):BP l e TrS (sNum l) (z184 N):=by
 refine ⟨fun n hn=>?_,fun k c hc=>?_⟩
 ·unfold sNum z184
  rw [(next_nx N l e).ok n,bS]
  cases h:((tk l n).Kind==2) with
  | true =>
   have hlt:=kind_lt (k:=2) (by decide) h
   rw [show ((tk l n).Kind != 2)=false by simp [bne,h]]
   refine ⟨?_,trivial,Nat.le_succ n,hlt⟩
   show some ((tk l n).Value,(⟨l,w64 ((n:Int)+1),e,0,0⟩:T24))=_
   rw [w64_succ (by omega)];rfl
  | false =>
   rw [show ((tk l n).Kind != 2)=true by simp [bne,h]]
   refine ⟨by decide,0,?_,trivial⟩
   show (z117 N (okP l e n) 3).bind _=_
   rw [fail_ok];rfl
 ·refine ⟨0,?_,trivial⟩
  show (z118 N _).bind _=_
  rw [(next_nx N l e).st k c hc]
  show (z117 N (erP l e k c) 3).bind _=_
  rw [fail_er _ _ _ _ _ _ hc];rfl
include hl in
theorem signed_bj (N:Nat):BP l e TrS (sSigned l) (z183 N):=by
 refine Bj.takes (takes_tk hl e N (str [45])) (A:=fun m=>(sNum l m).bind fun v k=>.ok (w64 (0-v)) k) ?_ ?_
 ·refine Bj.bind sur_id (num_bj hl e N) fun v _=>?_
  try dsimp only [id]
  exact Bj.ret rfl trivial
 ·exact Bj.congr (num_bj hl e N) (fun _ _=>rfl) (fun s=>pair_eta _)
include hN hl hW in
theorem words_bj {F:Nat} (hF:F < N):BP l e TrS (sWords F l) (z63 N):=by
 refine Bj.bind sur_id (word_bj hN hl hW e) fun w _=>?_
 have:=Bj.loop (Gd':=TrS) sur_id hl (takes_tk hl e N (str [44])) (word_bj hN hl hW e) (fun n q acc=>z63_l2 N n q.l' q.n' q.end' q.at' q.err' acc) (fun q acc=>some (acc,q)) (fun _ _ _=>rfl)
  (T:=fun acc n=>.ok acc n) (c':=id) (fun acc _=>Bj.ret (map_idd acc).symm trivial) F N [w] hF (by simp)
 exact Bj.congr this (fun n _=>(rr_bind_ok _).symm) (fun s=>rfl)
def Pz (s:ByteArray):Prop:=s.size≤200000
theorem size_dotW (a w:ByteArray):(dotW a w).size=a.size+1+w.size:=by
 unfold dotW;rw [ByteArray.size_append,ByteArray.size_append];show _+(1+_)=_;omega
include hN hl hW in
theorem path_loop:∀ (M N':Nat) (acc:ByteArray) (n:Nat),M < N'→acc.size≤17 * n→n≤l.length →
  Ot l (okP l e) (erP l e) Pz id n (sLoop (str [46]) sWord dotW M acc l n) (z120_l2 N N' l n e 0 0 acc)
 | 0,_,_,_,_,_,_=>trivial
 | M+1,0,_,_,h,_,_=>by omega
 | M+1,N'+1,acc,n,h,h1,h2=>by
  show Ot l _ _ Pz id n (bif isT (str [46]) (tk l n) then _ else _) ((z64 N (okP l e n) (str [46])).bind _)
  rw [(takes_tk hl e N (str [46])).ok n]
  cases hi:isT (str [46]) (tk l n) with
  | false=>exact ⟨rfl,by unfold Pz;show acc.size≤200000;omega,Nat.le_refl _,h2⟩
  | true =>
   have hn:=isT_lt hi
   simp only [cT,bS]
   rw [word_val hN hl hW e (n+1)]
   show Ot l _ _ Pz id n ((sWord l (n+1)).bind _) _
   unfold sWord
   cases hw:wordT (tk l (n+1)) with
   | true =>
    have hs:=isWord_size ((wordT_iff _).1 hw).2
    have hn2:=kind_lt (l:=l) (n:=n+1) (k:=1) (by decide) (by simp [((wordT_iff _).1 hw).1])
    simp only [cT,bS,Rr.bind]
    rw [cat_ok (x:=str [46]) (by show 1+_≤_;omega),bS,cat_ok (by rw [ByteArray.size_append];show _+(1+_)≤_;omega),bS]
    exact (path_loop M N' (dotW acc (tk l (n+1)).Text) (n+2) (by omega) (by rw [size_dotW];omega) hn2).le _ _ _ (by omega)
   | false =>
    simp only [cF,bS,Rr.bind]
    refine ⟨by decide,acc++(str [46]++str []),?_,by unfold Pz;rw [ByteArray.size_append];show _+1≤_;omega⟩
    rw [cat_ok (x:=str [46]) (by decide),bS,cat_ok (by rw [ByteArray.size_append];show _+1≤_;omega),bS]
    obtain ⟨N',rfl⟩:∃ m,N'=m+1:=⟨N'-1,by omega⟩
    show (z64 N (erP l e (n+1) 3) (str [46])).bind _=_
    rw [(takes_tk hl e N (str [46])).st _ _ (by decide)];rfl
include hN hl hW in
theorem path_bj {F:Nat} (hF:F < N):BP l e Pz (sPath F l) (z120 N):=by
 refine ⟨fun n hn=>?_,fun k c hc=>?_⟩
 ·unfold sPath z120
  rw [word_val hN hl hW e n]
  unfold sWord
  cases hw:wordT (tk l n) with
  | true =>
   have hs:=isWord_size ((wordT_iff _).1 hw).2
   have hn2:=kind_lt (l:=l) (n:=n) (k:=1) (by decide) (by simp [((wordT_iff _).1 hw).1])
   exact (path_loop hN hl hW e F N (tk l n).Text (n+1) hF (by omega) hn2).le _ _ _ (by omega)
  | false =>
   refine ⟨by decide,str [],?_,by unfold Pz;decide⟩
   rw [cF,bS]
   obtain ⟨N,rfl⟩:∃ m,N=m+1:=⟨N-1,by omega⟩
   show (z64 (N+1) (erP l e n 3) (str [46])).bind _=_
   rw [(takes_tk hl e _ (str [46])).st _ _ (by decide)];rfl
 ·refine ⟨str [],?_,by unfold Pz;decide⟩
  unfold z120
  rw [word_er N l e k c hc,bS]
  obtain ⟨N,rfl⟩:∃ m,N=m+1:=⟨N-1,by omega⟩
  show (z64 (N+1) (erP l e k c) (str [46])).bind _=_
  rw [(takes_tk hl e _ (str [46])).st _ _ hc];rfl
include hN hl hW in
theorem field_bj:BP l e TrS (sField l) (z121 N):=by
 unfold sField z121
 refine Bj.bind sur_id (word_bj hN hl hW e) fun w _=>?_
 try dsimp only [id]
 refine BjU.bind (wants_u hl e N (str [58])) ?_
 refine Bj.takes (takes_tk hl e N (str [105,110,116])) (A:=fun m=>(sSigned l m).bind fun lo n=>(sWants (str [46,46]) l n).bind fun _ n=>(sSigned l n).bind fun hi n=>.ok (⟨w,⟨1,lo,hi⟩⟩:T4) n) ?_ ?_
 ·refine Bj.bind sur_id (signed_bj hl e N) fun lo _=>?_
  try dsimp only [id]
  refine BjU.bind (wants_u hl e N (str [46,46])) ?_
  refine Bj.bind sur_id (signed_bj hl e N) fun hi _=>?_
  try dsimp only [id]
  exact Bj.ret rfl trivial
 ·refine BjU.bind (wants_u hl e N (str [116,101,120,116])) ?_
  refine Bj.bind sur_id (num_bj hl e N) fun lo _=>?_
  try dsimp only [id]
  refine BjU.bind (wants_u hl e N (str [46,46])) ?_
  refine Bj.bind sur_id (num_bj hl e N) fun hi _=>?_
  try dsimp only [id]
  exact Bj.ret rfl trivial
end Gp
end
section
namespace Gp
open Go Go.Kx Gx
theorem lastDot_snoc (c:UInt8):∀ p:List UInt8,lastDot (p++[c])=if c=46 then some p.length else lastDot p
 | []=>by simp only [List.nil_append,lastDot];split<;>rfl
 | d::p=>by
  rw [List.cons_append]
  simp only [lastDot]
  rw [lastDot_snoc c p]
  by_cases h:c=46
  ·rw [if_pos h,if_pos h];rfl
  ·rw [if_neg h,if_neg h]
theorem lastDot_lt:∀ {p:List UInt8} {i:Nat},lastDot p=some i→i < p.length
 | c::p,i,h=>by
  simp only [lastDot] at h
  cases hp:lastDot p with
  | some j =>
   rw [hp] at h
   simp only [Option.some.injEq] at h
   subst h
   have:=lastDot_lt hp
   simp;omega
  | none =>
   rw [hp] at h
   simp only [] at h
   split at h
   ·simp only [Option.some.injEq] at h;subst h;simp
   ·cases h
theorem b46 (c:UInt8):((c.toNat:Int)==46)=decide (c=46):=by
 rw [Bool.eq_iff_iff,beq_iff_eq,decide_eq_true_eq]
 constructor
 ·intro h
  apply UInt8.toNat_inj.mp
  show c.toNat=46
  omega
 ·rintro rfl;rfl
theorem take_snoc {α:Type} {l:List α} {k:Nat} {x:α} (h:l[k]? = some x):l.take (k+1)=l.take k++[x]:=by
 obtain ⟨hk,rfl⟩:=List.getElem?_eq_some_iff.1 h
 rw [List.take_succ_eq_append_getElem hk]
theorem lastIx_loop (s:ByteArray) (hs:s.size≤4194304):∀ (k n:Nat),k < n→k≤(bs s).length →
  z243_l2 s 46 n ((k:Int)-1)=some (match lastDot ((bs s).take k) with | some i=>(i:Int) | none=>-1)
 | 0,0,h,_=>by omega
 | 0,n+1,_,_=>by
  simp only [z243_l2,List.take_zero,lastDot]
  rfl
 | k+1,0,h,_=>by omega
 | k+1,n+1,h,hk=>by
  rw [size_bs] at hs
  have e:(((k+1:Nat):Int)-1)=(k:Int):=by omega
  rw [e]
  simp only [z243_l2]
  have hg:(bs s)[k]? = some (bs s)[k]:=List.getElem?_eq_getElem (by omega)
  rw [show decide ((k:Int)≥0)=true by simp,cT,sidx_bs,hg,Option.map_some,bS,b46,take_snoc hg,lastDot_snoc]
  by_cases h46:(bs s)[k]=46
  ·rw [dT h46,cT,if_pos h46]
   simp;omega
  ·rw [dF h46,cF,if_neg h46,w64_id (by omega) (by omega)]
   exact lastIx_loop s (by rw [size_bs];exact hs) k n (by omega) (by omega)
theorem lastIx_eq {N:Nat} (hN:4194304 < N) (s:ByteArray) (hs:s.size≤200000):z226 N s 46=some (match lastDot (bs s) with | some i=>(i:Int) | none=>-1):=by
 unfold z226 z243
 have hb:(bs s).length=s.size:=(size_bs s).symm
 rw [w64_id (by omega) (by omega),size_bs,lastIx_loop s (by omega) _ N (by omega) (Nat.le_refl _),List.take_length]
 rfl
theorem split_ssl {s:ByteArray} {i:Nat} (h:lastDot (bs s)=some i) (hs:s.size≤200000):ssl s none (some (i:Int))=some (splitP s).1∧ssl s (some (w64 ((i:Int)+1))) none=some (splitP s).2:=by
 have hi:=lastDot_lt h
 rw [size_bs] at hs
 unfold splitP
 rw [h]
 refine ⟨ssl_to (x:=(bs s).take i) (y:=(bs s).drop i) (List.take_append_drop _ _).symm (by simp;omega),?_⟩
 rw [w64_succ (by omega)]
 exact ssl_from (x:=(bs s).take (i+1)) (y:=(bs s).drop (i+1)) (List.take_append_drop _ _).symm (by simp;omega)
variable {N:Nat} (hN:4194304 < N) {l:List Tok} (hl:l.length≤8100) (hW:∀ t∈l,t.Text.size≤8100) (e:Int)
include hN in
theorem k2_eq (q:T24) (k:Int) (s:ByteArray) (hs:Pz s):z185_k2 N q.l' q.n' q.end' q.at' q.err' k s=z185_k1 N q.l' q.n' q.end' q.at' q.err' k (splitP s).1 (splitP s).2:=by
 unfold z185_k2
 rw [lastIx_eq hN s hs,bS]
 cases h:lastDot (bs s) with
 | none =>
  simp only [h]
  rw [show decide ((-1:Int)≥0)=false from rfl,cF]
  unfold splitP;rw [h]
 | some i =>
  simp only [h]
  obtain ⟨h1,h2⟩:=split_ssl h hs
  rw [show decide ((i:Int)≥0)=true by simp,cT,h1,bS,h2,bS]
include hN hl in
theorem tail_bj (k:Int) (s:ByteArray) (hs:Pz s):BP l e TrS (sTail k s l) (fun q=>z185_k2 N q.l' q.n' q.end' q.at' q.err' k s):=by
 have h:BP l e TrS (sTail k s l) (fun q=>z185_k1 N q.l' q.n' q.end' q.at' q.err' k (splitP s).1 (splitP s).2):=by
  unfold sTail z185_k1
  refine Bj.takes (takes_tk hl e N (str [43])) (A:=fun m=>(sNum l m).bind fun v n=>.ok (⟨k,(splitP s).1,(splitP s).2,v⟩:T23) n) ?_ ?_
  ·refine Bj.bind sur_id (num_bj hl e N) fun v _=>?_
   try dsimp only [id]
   exact Bj.ret rfl trivial
  ·refine Bj.takes (takes_tk hl e N (str [45])) (A:=fun m=>(sNum l m).bind fun v n=>.ok (⟨k,(splitP s).1,(splitP s).2,w64 (0-v)⟩:T23) n) ?_ ?_
   ·refine Bj.bind sur_id (num_bj hl e N) fun v _=>?_
    try dsimp only [id]
    exact Bj.ret rfl trivial
   ·exact Bj.ret rfl trivial
 exact Bj.congr h (fun _ _=>rfl) (fun q=>k2_eq hN q k s hs)
include hN hl hW in
theorem term_bj {F:Nat} (hF:F < N):BP l e TrS (sTerm F l) (z185 N):=by
 have hs:BP l e TrS (fun n=>(sSigned l n).bind fun v n=>.ok ⟨1,str [],str [],v⟩ n) (fun p=>(z183 N p).bind fun x2=>some ((⟨(1:Int),(str []),(str []),x2.1⟩:T23),x2.2)):=by
  refine Bj.bind sur_id (signed_bj hl e N) fun v _=>?_
  try dsimp only [id]
  exact Bj.ret rfl trivial
 have hp:BP l e TrS (fun n=>bif isT (str [108,101,110]) (tk l n) then (sWants (str [40]) l (n+1)).bind fun _ n=>(sPath F l n).bind fun s n=>(sWants (str [41]) l n).bind fun _ n=>sTail 3 s l n else (sPath F l n).bind fun s n=>sTail 2 s l n)
   (fun p=>(z64 N p (str [108,101,110])).bind fun x5=>bif x5.1 then ((z61 N x5.2 (str [40])).bind fun x19=>(z120 N x19).bind fun x20=>(z61 N x20.2 (str [41])).bind fun x21 =>
    z185_k2 N x21.l' x21.n' x21.end' x21.at' x21.err' (3:Int) x20.1) else (z120 N x5.2).bind fun x22=>z185_k2 N x22.2.l' x22.2.n' x22.2.end' x22.2.at' x22.2.err' (2:Int) x22.1):=by
  refine Bj.takes (takes_tk hl e N (str [108,101,110])) (A:=fun m=>(sWants (str [40]) l m).bind fun _ n=>(sPath F l n).bind fun s n=>(sWants (str [41]) l n).bind fun _ n=>sTail 3 s l n) ?_ ?_
  ·refine BjU.bind (wants_u hl e N (str [40])) ?_
   refine Bj.bind sur_id (path_bj hN hl hW e hF) fun s hs=>?_
   try dsimp only [id]
   refine BjU.bind (wants_u hl e N (str [41])) ?_
   exact tail_bj hN hl e 3 s hs
  ·refine Bj.bind sur_id (path_bj hN hl hW e hF) fun s hs=>?_
   try dsimp only [id]
   exact tail_bj hN hl e 2 s hs
 have hn:=Bj.next (next_nx N l e) (Gd:=TrS) (c:=id) (fun t=>t.Kind==2) rfl (A:=fun n=>(sSigned l n).bind fun v n=>.ok ⟨1,str [],str [],v⟩ n)
  (B:=fun n=>bif isT (str [108,101,110]) (tk l n) then (sWants (str [40]) l (n+1)).bind fun _ n=>(sPath F l n).bind fun s n=>(sWants (str [41]) l n).bind fun _ n=>sTail 3 s l n else (sPath F l n).bind fun s n=>sTail 2 s l n)
  (G:=fun x3 p=>bif (x3.Kind==(2:Int)) then ((z183 N p).bind fun x4=>some ((⟨(1:Int),(str []),(str []),x4.1⟩:T23),x4.2)) else (z64 N p (str [108,101,110])).bind fun x5=>bif x5.1 then ((z61 N x5.2 (str [40])).bind fun x19=>(z120 N x19).bind fun x20=>(z61 N x20.2 (str [41])).bind fun x21 =>
    z185_k2 N x21.l' x21.n' x21.end' x21.at' x21.err' (3:Int) x20.1) else (z120 N x5.2).bind fun x22=>z185_k2 N x22.2.l' x22.2.n' x22.2.end' x22.2.at' x22.2.err' (2:Int) x22.1)
  (fun n hn h=>by
   have h':((tk l n).Kind==2)=true:=h
   simp only [h',cT]
   exact hs.ok n (Nat.le_of_lt hn))
  (fun n hn h=>by
   have h':((tk l n).Kind==2)=false:=h
   simp only [h',cF]
   exact hp.ok n hn)
  (fun k c hc=>hp.st k c hc)
 refine Bj.congr (Bj.is (sees_is N l e (str [45])) hs hn) (fun n _=>?_) (fun s=>rfl)
 unfold sTerm
 cases isT (str [45]) (tk l n)<;>cases ((tk l n).Kind==2)<;>rfl
include hN hl hW in
theorem atom_bj {F:Nat} (hF:F < N):BP l e TrS (sAtom F l) (z122 N):=by
 unfold sAtom z122
 refine Bj.bind sur_id (term_bj hN hl hW e hF) fun a _=>?_
 dsimp only [id]
 refine Bj.next (next_nx N l e) markT rfl (A:=fun n=>(sTerm F l (n+1)).bind fun b m=>.ok (⟨a,(tk l n).Text,b⟩:T19) m) (B:=fun n=>.er n 3)
  (fun n hn h=>?_) (fun n hn h=>?_) (fun k c hc=>?_)
 ·unfold markT at h
  rw [Bool.and_eq_true] at h
  have hm:=contains_eq hN marksL (by decide) (tk l n).Text
  rw [h.2] at hm
  simp only [h.1,cT]
  show Ot _ _ _ _ _ _ _ ((z123 N marksL (tk l n).Text).bind _)
  rw [hm,bS]
  show Ot _ _ _ _ _ _ _ ((z185 N ⟨l,w64 ((n:Int)+1),e,0,0⟩).bind _)
  rw [w64_succ (by omega)]
  exact ((Bj.bind (c':=id) sur_id (term_bj hN hl hW e hF) (T:=fun b m=>.ok (⟨a,(tk l n).Text,b⟩:T19) m) (G:=fun x5=>some ((⟨a,(tk l n).Text,x5.1⟩:T19),x5.2)) fun b _=>Bj.ret rfl trivial).ok (n+1) hn).le _ _ _ (by omega)
 ·have fin:∀ k c,c≠0→∃ r,((z185 N (erP l e k c)).bind fun x7=>some ((⟨a,(str []),x7.1⟩:T19),x7.2))=some (r,erP l e k c)∧TrS r:=fun k c hc=>by
   obtain ⟨b,hb,_⟩:=(term_bj hN hl hW e hF).st k c hc
   exact ⟨_,by rw [hb];rfl,trivial⟩
  refine ⟨by decide,?_⟩
  unfold markT at h
  cases h4:((tk l n).Kind==4) with
  | false =>
   simp only [cF,id]
   show ∃ r,((z117 N (okP l e n) 3).bind _)=_∧_
   rw [fail_ok]
   exact fin n 3 (by decide)
  | true =>
   rw [h4,Bool.true_and] at h
   have hm:=contains_eq hN marksL (by decide) (tk l n).Text
   rw [h] at hm
   simp only [cT,id]
   show ∃ r,((z123 N marksL (tk l n).Text).bind _)=_∧_
   rw [hm,bS]
   show ∃ r,((z117 N (okP l e n) 3).bind _)=_∧_
   rw [fail_ok]
   exact fin n 3 (by decide)
 ·show ∃ r,((z117 N (erP l e k c) 3).bind _)=_∧_
  rw [fail_er _ _ _ _ _ _ hc]
  obtain ⟨b,hb,_⟩:=(term_bj hN hl hW e hF).st k c hc
  exact ⟨_,by rw [bS,hb];rfl,trivial⟩
def s0:T24:=⟨[],0,0,0,0⟩
theorem ml2_cong (x:ByteArray × T24) (fs:List T4):∀ n a b c d f acc,z65_l2 N x fs n a b c d f acc=z65_l2 N (x.1,s0) fs n a b c d f acc
 | 0,_,_,_,_,_,_=>rfl
 | n+1,a,b,c,d,f,acc=>by simp only [z65_l2,ml2_cong x fs n];rfl
theorem mk3_cong (x:ByteArray × T24) (a b c d f fs):z65_k3 N x a b c d f fs=z65_k3 N (x.1,s0) a b c d f fs:=by
 unfold z65_k3
 simp only [ml2_cong x]
theorem ml5_cong (x:ByteArray × T24):∀ n a b c d f acc,z65_l5 N x n a b c d f acc=z65_l5 N (x.1,s0) n a b c d f acc
 | 0,_,_,_,_,_,_=>rfl
 | n+1,a,b,c,d,f,acc=>by simp only [z65_l5,ml5_cong x n,z65_k4,mk3_cong x]
theorem app1 {α:Type} (x:α):appL ([]:List α) [x]=some [x]:=rfl
include hN hl hW in
theorem where_bj {F:Nat} (hF:F < N) (nm:ByteArray) (fs:List T4):BP l e TrS (sWhere F nm fs l) (fun q=>z65_k3 N (nm,s0) q.l' q.n' q.end' q.at' q.err' fs):=by
 unfold sWhere z65_k3
 refine Bj.takes (takes_tk hl e N (str [119,104,101,114,101])) (A:=fun m=>(sAtom F l m).bind fun a n=>(sLoop (str [97,110,100]) (sAtom F) snoc F [a] l n).bind fun as' n=>(sWants (str [59]) l n).bind fun _ n=>.ok (⟨nm,fs,as'⟩:T21) n) ?_ ?_
 ·refine Bj.bind sur_id (atom_bj hN hl hW e hF) fun a _=>?_
  dsimp only [id]
  have:=Bj.loop (Gd':=TrS) sur_id hl (takes_tk hl e N (str [97,110,100])) (atom_bj hN hl hW e hF) (fun n q acc=>z65_l2 N (nm,s0) fs n q.l' q.n' q.end' q.at' q.err' acc)
   (fun q acc=>(z61 N q (str [59])).bind fun x46=>some ((⟨nm,fs,acc⟩:T21),x46)) (fun _ _ _=>rfl)
   (T:=fun as' n=>(sWants (str [59]) l n).bind fun _ n=>.ok (⟨nm,fs,as'⟩:T21) n) (c':=id) (fun acc _=>BjU.bind (wants_u hl e N (str [59])) (Bj.ret (by rw [map_idd];rfl) trivial)) F N [a] hF (by simp)
  exact Bj.congr this (fun n _=>rfl) (fun s=>rfl)
 ·exact BjU.bind (wants_u hl e N (str [59])) (Bj.ret rfl trivial)
include hN hl hW in
theorem message_bj {F:Nat} (hF:F < N):BP l e TrS (sMessage F l) (z65 N):=by
 have h:BP l e TrS (sMessage F l) (fun p=>(z120 N p).bind fun x1=>(z61 N x1.2 (str [40])).bind fun x2=>(z64 N x2 (str [41])).bind fun x3 =>
   bif x3.1 then z65_k3 N (x1.1,s0) x3.2.l' x3.2.n' x3.2.end' x3.2.at' x3.2.err' ([]:List T4)
   else (z121 N x3.2).bind fun x63=>z65_l5 N (x1.1,s0) N x63.2.l' x63.2.n' x63.2.end' x63.2.at' x63.2.err' [x63.1]):=by
  refine Bj.bind sur_id (path_bj hN hl hW e hF) fun nm _=>?_
  try dsimp only [id]
  refine BjU.bind (wants_u hl e N (str [40])) ?_
  refine Bj.takes (takes_tk hl e N (str [41])) (A:=sWhere F nm [] l) (where_bj hN hl hW e hF nm []) ?_
  refine Bj.bind sur_id (field_bj hN hl hW e) fun f _=>?_
  dsimp only [id]
  have:=Bj.loop (Gd':=TrS) sur_id hl (takes_tk hl e N (str [44])) (field_bj hN hl hW e) (fun n q acc=>z65_l5 N (nm,s0) n q.l' q.n' q.end' q.at' q.err' acc)
   (fun q acc=>(z61 N q (str [41])).bind fun x77=>z65_k3 N (nm,s0) x77.l' x77.n' x77.end' x77.at' x77.err' acc) (fun _ _ _=>rfl)
   (T:=fun fs n=>(sWants (str [41]) l n).bind fun _ n=>sWhere F nm fs l n) (c':=id) (fun acc _=>BjU.bind (wants_u hl e N (str [41])) (by rw [map_idd];exact where_bj hN hl hW e hF nm acc)) F N [f] hF (by simp)
  exact Bj.congr this (fun n _=>rfl) (fun s=>rfl)
 refine Bj.congr h (fun _ _=>rfl) (fun p=>?_)
 unfold z65
 simp only [app1,bS]
 congr 1;funext x1;congr 1;funext x2;congr 1;funext x3
 cases x3.1
 ·simp only [Bool.not_false,cT,cF]
  congr 1;funext x63
  exact ml5_cong x1 _ _ _ _ _ _ _
 ·simp only [Bool.not_true,cT,cF]
  exact mk3_cong x1 _ _ _ _ _ _
end Gp
end
section
namespace Gp
open Go Go.Kx Gx
variable {N:Nat} (hN:4194304 < N) {l:List Tok} (hl:l.length≤8100) (hW:∀ t∈l,t.Text.size≤8100) (e:Int)
include hl in
theorem block_bj (N:Nat) {items:Pm (List T20)} {rc} (hrc:BP l e TrS (items l) rc):BP l e TrS (sBlock items l) (fun p=>z188 N rc p):=by
 unfold sBlock z188
 refine BjU.bind (wants_u hl e N (str [123])) ?_
 refine Bj.bind sur_id (hrc) fun x _=>?_
 try dsimp only [id]
 refine BjU.bind (wants_u hl e N (str [125])) ?_
 exact Bj.ret rfl trivial
theorem cl2_cong (rc) (x:ByteArray × T24) (t:Int):∀ n a b c d f acc,z187_l2 N rc x t n a b c d f acc=z187_l2 N rc (x.1,s0) t n a b c d f acc
 | 0,_,_,_,_,_,_=>rfl
 | n+1,a,b,c,d,f,acc=>by simp only [z187_l2,cl2_cong rc x t n];rfl
theorem ck3_cong (rc) (x:ByteArray × T24) (a b c d f t):z187_k3 N rc x a b c d f t=z187_k3 N rc (x.1,s0) a b c d f t:=by
 unfold z187_k3
 simp only [cl2_cong rc x]
include hl in
theorem else_bj (N:Nat) {block:Pm (List T20)} {rc} (hb:BP l e TrS (block l) (fun p=>z188 N rc p)) (who:ByteArray) (t:Int) (acc:List (List T20)) (ha:acc.length≤8192) :
  BP l e TrS (sElse block who t acc l) (fun q=>z187_k1 N rc (who,s0) t q.l' q.n' q.end' q.at' q.err' acc):=by
 unfold sElse z187_k1
 cases decide (t > 0) with
 | false=>exact Bj.ret rfl trivial
 | true =>
  refine BjU.bind (wants_u hl e N (str [101,108,115,101])) ?_
  refine Bj.bind sur_id (hb) fun b _=>?_
  try dsimp only [id]
  refine Bj.congr (Bj.ret (Gd:=TrS) (c:=id) (b:=(⟨2,who,[],str [],str [],t,snoc acc b⟩:T20)) rfl trivial) (fun _ _=>rfl) (fun s=>?_)
  show (appL acc [b]).bind _=_
  rw [appL_some (by simp;omega)];rfl
include hl in
theorem branches_bj {F:Nat} (hF:F < N) {block:Pm (List T20)} {rc} (hb:BP l e TrS (block l) (fun p=>z188 N rc p)) (who:ByteArray) (t:Int) :
  BP l e TrS (sBranches F block who t l) (fun q=>z187_k3 N rc (who,s0) q.l' q.n' q.end' q.at' q.err' t):=by
 unfold sBranches z187_k3
 refine Bj.bind sur_id hb fun b _=>?_
 dsimp only [id]
 have:=Bj.loop (Gd':=TrS) sur_id hl (takes_tk hl e N (str [111,114])) hb (fun n q acc=>z187_l2 N rc (who,s0) t n q.l' q.n' q.end' q.at' q.err' acc)
  (fun q acc=>z187_k1 N rc (who,s0) t q.l' q.n' q.end' q.at' q.err' acc) (fun _ _ _=>rfl)
  (T:=fun bl n=>sElse block who t bl l n) (c':=id) (fun acc ha=>by rw [map_idd];exact else_bj hl e N hb who t acc ha) F N [b] hF (by simp)
 exact Bj.congr this (fun n _=>rfl) (fun s=>rfl)
def ticksF (N:Nat) (q:T24):Option (Int × T24) :=
 (z118 N q).bind fun x=>bif (x.Kind==(2:Int)) then (bif (decide (x.Value < (1:Int))) then ((z117 N q (2:Int)).bind fun y=>z184 N y)
  else bif (decide (x.Value > (1000:Int))) then ((z117 N q (2:Int)).bind fun y=>z184 N y) else z184 N q) else z184 N q
include hl in
theorem ticks_bj (N:Nat):BP l e TrS (sTicks l) (ticksF N):=by
 refine ⟨fun n hn=>?_,fun k c hc=>?_⟩
 ·have h1:=(num_bj hl e N).ok n hn
  obtain ⟨v,hv,_⟩:=(num_bj hl e N).st n 2 (by decide)
  unfold ticksF sTicks
  rw [(next_nx N l e).ok n,bS,fail_ok,bS,hv]
  cases ((tk l n).Kind==2) with
  | false=>exact h1
  | true =>
   cases decide ((tk l n).Value < 1) with
   | true=>exact ⟨by decide,v,rfl,trivial⟩
   | false =>
    cases decide ((tk l n).Value > 1000) with
    | true=>exact ⟨by decide,v,rfl,trivial⟩
    | false=>exact h1
 ·unfold ticksF
  rw [(next_nx N l e).st k c hc]
  exact (num_bj hl e N).st k c hc
include hN hl hW in
theorem choice_bj {F:Nat} (hF:F < N) {block:Pm (List T20)} {rc} (hb:BP l e TrS (block l) (fun p=>z188 N rc p)):BP l e TrS (sChoice F block l) (fun p=>z187 N rc p):=by
 have h:BP l e TrS (sChoice F block l) (fun p=>(z61 N p (str [97,116])).bind fun x1=>(z62 N x1).bind fun x2=>(z64 N x2.2 (str [119,105,116,104,105,110])).bind fun x3 =>
   bif x3.1 then ((ticksF N x3.2).bind fun y=>z187_k3 N rc (x2.1,s0) y.2.l' y.2.n' y.2.end' y.2.at' y.2.err' y.1)
   else z187_k3 N rc (x2.1,s0) x3.2.l' x3.2.n' x3.2.end' x3.2.at' x3.2.err' 0):=by
  unfold sChoice
  refine BjU.bind (wants_u hl e N (str [97,116])) ?_
  refine Bj.bind sur_id (word_bj hN hl hW e) fun who _=>?_
  try dsimp only [id]
  refine Bj.takes (takes_tk hl e N (str [119,105,116,104,105,110])) (A:=fun m=>(sTicks l m).bind fun t n=>sBranches F block who t l n) ?_ ?_
  ·refine Bj.bind sur_id (ticks_bj hl e N) fun t _=>?_
   try dsimp only [id]
   exact branches_bj hl e hF hb who t
  ·exact branches_bj hl e hF hb who 0
 refine Bj.congr h (fun _ _=>rfl) (fun p=>?_)
 unfold z187
 congr 1;funext x1;congr 1;funext x2;congr 1;funext x3
 simp only [ck3_cong rc x2]
 cases x3.1
 ·rfl
 ·simp only [cT]
  unfold ticksF
  cases hn:z118 N x3.2 with
  | none=>rfl
  | some t =>
   simp only [bS]
   cases (t.Kind==2)
   ·rfl
   ·cases decide (t.Value < 1)
    ·cases decide (t.Value > 1000)
     ·rfl
     ·simp only [cT,cF,Option.bind_assoc]
    ·simp only [cT,Option.bind_assoc]
include hN hl hW in
theorem item_bj {F:Nat} (hF:F < N) {block:Pm (List T20)} {rc} (hb:BP l e TrS (block l) (fun p=>z188 N rc p)):BP l e TrS (sItem F block l) (fun p=>z124 N rc p):=by
 unfold sItem z124
 refine Bj.takes (takes_tk hl e N (str [99,104,111,105,99,101])) (A:=sChoice F block l) (Bj.congr (choice_bj hN hl hW e hF hb) (fun _ _=>rfl) (fun s=>pair_eta _)) ?_
 refine Bj.takes (takes_tk hl e N (str [108,111,111,112])) (A:=fun m=>(sPath F l m).bind fun nm n=>(block l n).bind fun b n=>.ok (⟨3,str [],[],nm,str [],0,[b]⟩:T20) n) ?_ ?_
 ·refine Bj.bind sur_id (path_bj hN hl hW e hF) fun nm _=>?_
  try dsimp only [id]
  refine Bj.bind sur_id (hb) fun b _=>?_
  try dsimp only [id]
  exact Bj.ret rfl trivial
 refine Bj.takes (takes_tk hl e N (str [97,103,97,105,110])) (A:=fun m=>(sPath F l m).bind fun nm n=>(sWants (str [59]) l n).bind fun _ n=>.ok (⟨4,str [],[],nm,str [],0,[]⟩:T20) n) ?_ ?_
 ·refine Bj.bind sur_id (path_bj hN hl hW e hF) fun nm _=>?_
  try dsimp only [id]
  refine BjU.bind (wants_u hl e N (str [59])) ?_
  exact Bj.ret rfl trivial
 refine Bj.takes (takes_tk hl e N (str [112,97,114])) (A:=fun m=>(block l m).bind fun b n=>(sWants (str [97,110,100]) l n).bind fun _ n=>(block l n).bind fun c n=>(sLoop (str [97,110,100]) block snoc F [b,c] l n).bind fun bl n=>.ok (⟨5,str [],[],str [],str [],0,bl⟩:T20) n) ?_ ?_
 ·refine Bj.bind sur_id (hb) fun b _=>?_
  try dsimp only [id]
  refine BjU.bind (wants_u hl e N (str [97,110,100])) ?_
  refine Bj.bind sur_id (hb) fun c _=>?_
  try dsimp only [id]
  have:=Bj.loop (Gd':=TrS) sur_id hl (takes_tk hl e N (str [97,110,100])) hb (fun n q acc=>z124_l2 N rc n q.l' q.n' q.end' q.at' q.err' acc)
   (fun q acc=>some ((⟨(5:Int),(str []),([]:List ByteArray),(str []),(str []),(0:Int),acc⟩:T20),q)) (fun _ _ _=>rfl)
   (T:=fun bl n=>.ok (⟨5,str [],[],str [],str [],0,bl⟩:T20) n) (c':=id) (fun acc _=>Bj.ret (by rw [map_idd];rfl) trivial) F N [b,c] hF (by simp)
  exact Bj.congr this (fun n _=>rfl) (fun s=>rfl)
 refine Bj.takes (takes_tk hl e N (str [99,97,108,108])) (A:=sCall F l) ?_ ?_
 ·unfold sCall
  refine Bj.bind sur_id (word_bj hN hl hW e) fun nm _=>?_
  try dsimp only [id]
  refine BjU.bind (wants_u hl e N (str [40])) ?_
  refine Bj.bind sur_id (words_bj hN hl hW e hF) fun t _=>?_
  try dsimp only [id]
  refine BjU.bind (wants_u hl e N (str [41])) ?_
  refine BjU.bind (wants_u hl e N (str [97,115])) ?_
  refine Bj.bind sur_id (word_bj hN hl hW e) fun a _=>?_
  try dsimp only [id]
  refine BjU.bind (wants_u hl e N (str [59])) ?_
  exact Bj.ret rfl trivial
 ·unfold sSend
  refine Bj.bind sur_id (word_bj hN hl hW e) fun f _=>?_
  try dsimp only [id]
  refine BjU.bind (wants_u hl e N (str [45,62])) ?_
  refine Bj.bind sur_id (words_bj hN hl hW e hF) fun t _=>?_
  try dsimp only [id]
  refine BjU.bind (wants_u hl e N (str [58])) ?_
  refine Bj.bind sur_id (path_bj hN hl hW e hF) fun nm _=>?_
  try dsimp only [id]
  refine BjU.bind (wants_u hl e N (str [59])) ?_
  exact Bj.ret rfl trivial
include hN hW in
theorem items_step (rc) (n:Nat) (n':Nat) (acc:List T20):z66_l1 N rc (n'+1) l n e 0 0 acc =
  bif begT (tk l n) then ((z124 N rc (okP l e n)).bind fun x=>(appL acc [x.1]).bind fun a=>z66_l1 N rc n' x.2.l' x.2.n' x.2.end' x.2.at' x.2.err' a) else some (acc,okP l e n):=by
 show (z118 N (okP l e n)).bind _=_
 rw [(next_nx N l e).ok n,bS]
 by_cases hk:(tk l n).Kind=1
 ·have hn:=kind_lt (l:=l) (n:=n) (k:=1) (by decide) (by simp [hk])
  rw [show ((tk l n).Kind != 1)=false by simp [hk],cF,(word_eq hN _ (by have:=hW _ (tk_mem hn);omega)).1,bS]
  have hm:=contains_eq hN starters (by decide) (tk l n).Text
  unfold begT
  rw [show ((tk l n).Kind==1)=true by simp [hk],Bool.true_and]
  cases isWord (tk l n).Text with
  | true=>rfl
  | false =>
   show (z123 N starters (tk l n).Text).bind _=_
   rw [hm,bS]
   cases starters.any fun x=>eqStr x (tk l n).Text<;>rfl
 ·rw [show ((tk l n).Kind != 1)=true by simp [hk],show begT (tk l n)=false by unfold begT;simp [hk]]
  rfl
include hN hl hW in
theorem list_bj {item:Pm T20} {rc} (hit:BP l e TrS (item l) (fun p=>z124 N rc p)) :
  ∀ (M N':Nat) (acc:List T20),M < N'→acc.length+M≤4200000→BP l e TrS (sList item M acc l) (fun q=>z66_l1 N rc N' q.l' q.n' q.end' q.at' q.err' acc):=by
 have hst:∀ N' (acc:List T20),0 < N'→∀ (k:Nat) c,c≠0→∃ a,z66_l1 N rc N' l k e (off l e k) c acc=some (a,erP l e k c)∧TrS a:=by
  intro N' acc hN' k c hc
  obtain ⟨n,rfl⟩:∃ m,N'=m+1:=⟨N'-1,by omega⟩
  refine ⟨acc,?_,trivial⟩
  show (z118 N (erP l e k c)).bind _=_
  rw [(next_nx N l e).st k c hc];rfl
 have key:∀ (M N':Nat) (acc:List T20) (n:Nat),M < N'→acc.length+M≤4200000→n≤l.length→Ot l (okP l e) (erP l e) TrS id n (sList item M acc l n) (z66_l1 N rc N' l n e 0 0 acc):=by
  intro M
  induction M with
  | zero=>intro N' acc n h1 h2 h3;trivial
  | succ M ih =>
   intro N' acc n h1 h2 h3
   obtain ⟨N',rfl⟩:∃ m,N'=m+1:=⟨N'-1,by omega⟩
   rw [items_step hN hW e]
   simp only [sList]
   cases hi:begT (tk l n) with
   | false=>exact ⟨rfl,trivial,Nat.le_refl _,h3⟩
   | true =>
    have hn:n < l.length:=by
     unfold begT at hi
     rw [Bool.and_eq_true] at hi
     exact kind_lt (k:=1) (by decide) hi.1
    have h4:=hit.ok n h3
    simp only [cT]
    cases hp:item l n with
    | ok b m =>
     rw [hp] at h4
     obtain ⟨e1,_,h5,h6⟩:=h4
     rw [e1,bS,appL_some (by simp;omega),bS]
     exact (ih N' (snoc acc b) m (by omega) (by simp [snoc];omega) h6).le _ _ _ (by omega)
    | er k c =>
     rw [hp] at h4
     obtain ⟨hc,a,e1,_⟩:=h4
     refine ⟨hc,?_⟩
     rw [e1,bS,appL_some (by simp;omega),bS]
     exact hst N' _ (by omega) k c hc
    | out=>trivial
 intro M N' acc h1 h2
 exact ⟨fun n hn=>key M N' acc n h1 h2 hn,fun k c hc=>hst N' acc (by omega) k c hc⟩
include hl hW in
theorem items_bj:∀ (F N:Nat),F≤4194304→F+4194306 < N→BP l e TrS (sItems F l) (z66 N)
 | F,0,_,h=>by omega
 | 0,N+1,_,h=>by
  refine ⟨fun n hn=>trivial,fun k c hc=>⟨[],?_,trivial⟩⟩
  show z66_b N (z66 N) (erP l e k c)=_
  obtain ⟨N,rfl⟩:∃ m,N=m+1:=⟨N-1,by omega⟩
  show (z118 (N+1) (erP l e k c)).bind _=_
  rw [(next_nx _ l e).st k c hc];rfl
 | F+1,N+1,hf,h=>by
  have hN:4194304 < N:=by omega
  exact list_bj hN hl hW e (item_bj hN hl hW e (by omega) (block_bj hl e N (items_bj F N (by omega) (by omega)))) F N [] (by omega) (by simp;omega)
end Gp
end
section
namespace Gp
open Go Go.Kx Gx
variable {N:Nat} {l:List Tok} (hl:l.length≤8100) (hW:∀ t∈l,t.Text.size≤8100) (e:Int)
theorem pl2_cong (x:ByteArray × T24) (y:List ByteArray × T24):∀ n a b c d f acc,z27_l2 N x y n a b c d f acc=z27_l2 N (x.1,s0) (y.1,s0) n a b c d f acc
 | 0,_,_,_,_,_,_=>rfl
 | n+1,a,b,c,d,f,acc=>by simp only [z27_l2,pl2_cong x y n];rfl
include hl hW in
theorem protocol_bj {F:Nat} (hF:F≤4194304) (hN:F+4194306 < N):BP l e TrS (sProtocol F l) (z27 N):=by
 have hN1:4194304 < N:=by omega
 have hFN:F < N:=by omega
 have h:BP l e TrS (sProtocol F l) (fun p=>(z61 N p (str [112,114,111,116,111,99,111,108])).bind fun x1=>(z62 N x1).bind fun x2=>(z61 N x2.2 (str [40])).bind fun x3 =>
   (z63 N x3).bind fun x4=>(z61 N x4.2 (str [41])).bind fun x5=>(z61 N x5 (str [123])).bind fun x6 =>
   z27_l2 N (x2.1,s0) (x4.1,s0) N x6.l' x6.n' x6.end' x6.at' x6.err' ([]:List T21)):=by
  unfold sProtocol
  refine BjU.bind (wants_u hl e N (str [112,114,111,116,111,99,111,108])) ?_
  refine Bj.bind sur_id (word_bj hN1 hl hW e) fun nm _=>?_
  try dsimp only [id]
  refine BjU.bind (wants_u hl e N (str [40])) ?_
  refine Bj.bind sur_id (words_bj hN1 hl hW e hFN) fun rs _=>?_
  try dsimp only [id]
  refine BjU.bind (wants_u hl e N (str [41])) ?_
  refine BjU.bind (wants_u hl e N (str [123])) ?_
  have:=Bj.loop (Gd':=TrS) sur_id hl (takes_tk hl e N (str [109,101,115,115,97,103,101])) (message_bj hN1 hl hW e hFN) (fun n q acc=>z27_l2 N (nm,s0) (rs,s0) n q.l' q.n' q.end' q.at' q.err' acc)
   (fun q acc=>(z66 N q).bind fun x19=>(z61 N x19.2 (str [125])).bind fun x20=>some ((⟨nm,rs,acc,x19.1⟩:T22),x20)) (fun _ _ _=>rfl)
   (T:=fun ms n=>(sItems F l n).bind fun b n=>(sWants (str [125]) l n).bind fun _ n=>.ok (⟨nm,rs,ms,b⟩:T22) n) (c':=id) (fun acc _=>by
    rw [map_idd]
    refine Bj.bind sur_id (items_bj hl hW e F N hF hN) fun b _=>?_
    try dsimp only [id]
    refine BjU.bind (wants_u hl e N (str [125])) ?_
    exact Bj.ret rfl trivial
    ) F N [] hFN (by simp)
  exact Bj.congr this (fun n _=>rfl) (fun s=>rfl)
 refine Bj.congr h (fun _ _=>rfl) (fun p=>?_)
 unfold z27
 congr 1;funext x1;congr 1;funext x2;congr 1;funext x3;congr 1;funext x4;congr 1;funext x5;congr 1;funext x6
 exact pl2_cong x2 x4 _ _ _ _ _ _ _
include hl hW in
theorem parse_loop {F:Nat} (hF:F≤4194304) (hN:F+4194306 < N) (x:List Tok × Int × Int) (hx:x.1=l):∀ (G N':Nat) (acc:List T22) (n:Nat),G < N'→acc.length+G≤4200000→n≤l.length →
  match sParse F G acc l n with
  | .ok ps m=>z9_l2 N x N' acc l n e 0 0=z9_k1 N ps l m e 0 0
  | .er k c=>c≠0∧∃ ps,z9_l2 N x N' acc l n e 0 0=z9_k1 N ps l k e (off l e k) c
  | .out=>True
 | 0,_,_,_,_,_,_=>trivial
 | G+1,0,_,_,h,_,_=>by omega
 | G+1,N'+1,acc,n,h,h1,h2=>by
  simp only [sParse,z9_l2,hx]
  rcases Nat.lt_or_ge n l.length with hn | hn
  ·rw [dT hn,lt_t hn,cT,cT,show ((0:Int)==0)=true from rfl,cT]
   have h4:=(protocol_bj hl hW e hF hN).ok n h2
   have e0:(⟨l,(n:Int),e,0,0⟩:T24)=okP l e n:=rfl
   rw [e0]
   cases hp:sProtocol F l n with
   | ok b m =>
    rw [hp] at h4
    obtain ⟨e1,_,h5,h6⟩:=h4
    rw [e1,bS,appL_some (by simp;omega),bS]
    exact parse_loop hF hN x hx G N' (snoc acc b) m (by omega) (by simp [snoc];omega) h6
   | er k c =>
    rw [hp] at h4
    obtain ⟨hc,a,e1,_⟩:=h4
    refine ⟨hc,acc++[a],?_⟩
    rw [e1,bS,appL_some (by simp;omega),bS]
    obtain ⟨N',rfl⟩:∃ m,N'=m+1:=⟨N'-1,by omega⟩
    show z9_l2 N x (N'+1) (acc++[a]) l k e (off l e k) c=_
    simp only [z9_l2]
    rw [show (c==(0:Int))=false by simp [hc]]
    cases decide ((k:Int) < (x.1.length:Int))<;>rfl
   | out=>trivial
  ·rw [dF (by omega),lt_f hn,cF,cF]
end Gp
end
section
namespace Gp
open Go Go.Kx Gx
variable {N:Nat} (hN:4194304 < N) {l:List Tok} (hl:l.length≤8100) (hW:∀ t∈l,t.Text.size≤8100) (z:ByteArray)
end Gp
end
section
namespace Gp
open Go Go.Kx Gx
def WfT (l:List Tok):Prop:=∀ t∈l,(t.Kind=1→(marksL.any fun k=>eqStr k t.Text)=false)∧(t.Kind=4→(starters.any fun k=>eqStr k t.Text)=false)
variable {N:Nat} (hN:4194304 < N) {l:List Tok} (hl:l.length≤8100) (hW:∀ t∈l,t.Text.size≤8100) (hT:WfT l) (z:ByteArray)
end Gp
end
section
namespace Gp
open Go Go.Kx Gx
theorem rr_assoc {α β γ:Type} (r:Rr α) (f:α→Nat→Rr β) (g:β→Nat→Rr γ):(r.bind f).bind g=r.bind fun a n=>(f a n).bind g:=by cases r<;>rfl
theorem sLoop_cons {α:Type} (s:ByteArray) (p:Pm α) (l:List Tok) (b:α):∀ (M:Nat) (acc:List α) (n:Nat),sLoop s p snoc M (b::acc) l n=(sLoop s p snoc M acc l n).bind fun bl m=>.ok (b::bl) m
 | 0,_,_=>rfl
 | M+1,acc,n=>by
  simp only [sLoop]
  cases isT s (tk l n) with
  | false=>rfl
  | true =>
   simp only [cT]
   rw [rr_assoc]
   congr 1;funext a m
   exact sLoop_cons s p l b M (snoc acc a) m
variable {N:Nat} (hN:4194304 < N) {l:List Tok} (hl:l.length≤8100) (hW:∀ t∈l,t.Text.size≤8100) (hT:WfT l) (z:ByteArray)
end Gp
end
section
namespace Gp
open Go Go.Kx Gx
def blankB (c:UInt8):Bool:=c==32 || (c==9 || (c==10 || c==13))
def skW:Bool→List UInt8→Nat
 | _,[]=>0
 | false,c::l=>bif blankB c then skW false l+1 else bif (c==47 && l.head? == some 47) then skW true l+1 else 0
 | true,c::l=>bif c==10 then skW false l+1 else skW true l+1
def innB (c:UInt8):Bool:=innerV (c.toNat:Int)
def digB (c:UInt8):Bool:=decide (48≤(c.toNat:Int)) && decide ((c.toNat:Int)≤57)
def letB (c:UInt8):Bool:=letterV (c.toNat:Int)
inductive Lx where
 | ok (k:Int) (tx:List UInt8) (v:Int) (n:Nat)
 | er (e:Int)
def valD (d:List UInt8):Int:=d.foldl (fun v c=>10 * v+((c.toNat:Int)-48)) 0
def badB2 (c:UInt8):Bool:=decide ((c.toNat:Int) < 32) || decide ((c.toNat:Int) > 126)
def txtB:List UInt8→Option (List UInt8 × Nat)
 | []=>none
 | [c]=>bif c==34 then some ([],1) else none
 | c::d::l=>bif c==34 then some ([],1) else bif c==92 then (bif (d==34 || d==92) then (txtB l).map fun x=>(d::x.1,x.2+2) else none)
  else bif badB2 c then none else (txtB (d::l)).map fun x=>(c::x.1,x.2+1)
def marks2:List (List UInt8):=[[45,62],[46,46],[60,61],[62,61],[61,61],[33,61],[38,38],[124,124]]
def marks1:List UInt8:=[40,41,123,125,44,59,58,46,43,45,42,47,37,60,62,61,33]
def numK (d r:List UInt8) (h:Option UInt8):Lx:=bif r.head?.any innB then .er 3 else bif (decide (d.length > 6) || (decide (d.length > 1) && h==some 48)) then .er 2 else .ok 2 [] (valD d) d.length
def numB (s:List UInt8):Lx:=numK (s.takeWhile digB) (s.drop (s.takeWhile digB).length) s.head?
def tokB (s:List UInt8):Lx :=
 match s with
 | []=>.er 3
 | c::l =>
  bif letB c then (bif decide ((l.takeWhile innB).length+1 > 16) then .er 6 else .ok 1 (c::l.takeWhile innB) 0 ((l.takeWhile innB).length+1))
  else bif digB c then numB (c::l)
  else bif c==34 then (match txtB l with
   | none=>.er 3
   | some (t,n)=>bif decide (t.length > 40) then .er 6 else .ok 3 t 0 (n+1))
  else bif (decide (l≠[]) && marks2.any fun m=>m==(c::l).take 2) then .ok 4 ((c::l).take 2) 0 2
  else bif marks1.any fun m=>m==c then .ok 4 [c] 0 1 else .er 3
def lexL:Nat→List UInt8→Nat→Sum (Nat × Int) (List Tok)
 | 0,_,_=>.inl (0,99)
 | F+1,s,a =>
  match s.drop (skW false s) with
  | []=>.inr []
  | c::l=>match tokB (c::l) with
   | .er e=>.inl (a+skW false s,e)
   | .ok k tx v n=>match lexL F ((c::l).drop n) (a+skW false s+n) with
    | .inl x=>.inl x
    | .inr ts=>.inr (⟨k,mkB tx,v,((a+skW false s:Nat):Int)⟩::ts)
theorem skW_le:∀ (b:Bool) (l:List UInt8),skW b l≤l.length
 | true,[]=>by simp [skW]
 | false,[]=>by simp [skW]
 | false,c::l=>by
  have h1:=skW_le false l;have h2:=skW_le true l
  simp only [skW,List.length_cons]
  cases blankB c
  ·cases (c==47 && l.head? == some 47)<;>simp<;>omega
  ·simp;omega
 | true,c::l=>by
  have h1:=skW_le false l;have h2:=skW_le true l
  simp only [skW,List.length_cons]
  cases (c==10)<;>simp<;>omega
variable {N:Nat} (hN:4194304 < N)
theorem u8_eq {c:UInt8} {n:Nat} (hn:n < 256):((c.toNat:Int)==(n:Int))=(c==UInt8.ofNat n):=by
 rw [Bool.eq_iff_iff,beq_iff_eq,beq_iff_eq]
 constructor
 ·intro h
  apply UInt8.toNat_inj.mp
  rw [UInt8.toNat_ofNat']
  omega
 ·rintro rfl
  rw [UInt8.toNat_ofNat']
  omega
theorem contRune (k:Nat):((List.range 256).all fun r=>z111 (k+5) (str [32,9,10,13]) (wk .i32 (r:Int))==some (blankB (UInt8.ofNat r)))=true:=by kernel_rfl
include hN in
theorem contRune_eq (c:UInt8):z111 N (str [32,9,10,13]) (wk .i32 (c.toNat:Int))=some (blankB c):=by
 obtain ⟨k,rfl⟩:∃ k,N=k+5:=⟨N-5,by omega⟩
 have:=List.all_eq_true.1 (contRune k) c.toNat (List.mem_range.2 c.toNat_lt)
 rw [beq_iff_eq] at this
 rw [this]
 congr 2
 exact UInt8.ofNat_toNat
theorem skW_none:∀ l:List UInt8,l.count 10=0→skW true l=l.length
 | [],_=>rfl
 | c::l,h=>by
  rw [List.count_cons] at h
  have hc:(c==10)=false:=by
   cases hb:(c==10) with
   | false=>rfl
   | true=>rw [hb] at h;simp at h
  simp only [skW,hc,cF,List.length_cons]
  rw [skW_none l (by omega)]
theorem skW_some:∀ (p q:List UInt8),p.count 10=0→skW true (p++10::q)=p.length+1+skW false q
 | [],q,_=>by
  simp only [List.nil_append,skW,List.length_nil]
  rw [show ((10:UInt8)==10)=true from rfl,cT]
  omega
 | c::p,q,h=>by
  rw [List.count_cons] at h
  have hc:(c==10)=false:=by
   cases hb:(c==10) with
   | false=>rfl
   | true=>rw [hb] at h;simp at h
  rw [List.cons_append]
  simp only [skW,hc,cF,List.length_cons]
  rw [skW_some p q (by omega)]
  omega
theorem firstB_eq (s:ByteArray):firstB s 10=Go.Lib.indexByte (bs s) 10:=Go.Lib.firstIdx_eq s 10
theorem hasPre (s:ByteArray) (a b:UInt8) (hs:s.size≤4194304):z112 N s (str [a,b])=some ((bs s).take 2==[a,b]):=by
 unfold z112 z180
 have h2:(str [a,b]).size=2:=rfl
 rw [h2]
 by_cases h:2≤s.size
 ·rw [show decide ((s.size:Int)≥((2:Nat):Int))=true by simp;omega,cT]
  rw [size_bs] at h
  rw [ssl_to (x:=(bs s).take 2) (y:=(bs s).drop 2) (List.take_append_drop _ _).symm (by simp;omega)]
  simp only [bS]
  rw [toList_bs,toList_bs,bs_mkB]
  rfl
 ·rw [show decide ((s.size:Int)≥((2:Nat):Int))=false by simp;omega,cF]
  rw [size_bs] at h
  simp only [bS]
  congr 1
  symm
  rw [beq_eq_false_iff_ne]
  intro h3
  have:=congrArg List.length h3
  simp at this;omega
theorem bs_from {s:ByteArray} {x y:List UInt8} (h:bs s=x++y):ssl s (some (x.length:Int)) none=some (mkB y):=ssl_from h rfl
include hN in
theorem skip_eq (s:ByteArray) (hs:s.size≤200000) (a0:Int):∀ (n:Nat) (x y:List UInt8) (a:Nat),y.length < n→bs s=x++y→x.length=a →
  z54_l2 N ⟨s,a0⟩ n (a:Int)=some ⟨s,((a+skW false y:Nat):Int)⟩:=by
 intro n
 induction n with
 | zero=>intro x y a h;omega
 | succ n ih =>
  intro x y a hn he ha
  subst ha
  have hsz:s.size=x.length+y.length:=by rw [size_bs,he];simp
  unfold z54_l2
  cases y with
  | nil =>
   rw [show decide ((x.length:Int) < (((⟨s,a0⟩:T15).s').size:Int))=false by show decide ((x.length:Int) < (s.size:Int))=false;simp at hsz;simp;omega]
   rfl
  | cons c l =>
   rw [show decide ((x.length:Int) < (((⟨s,a0⟩:T15).s').size:Int))=true by show decide ((x.length:Int) < (s.size:Int))=true;simp at hsz;simp;omega]
   show (ssl s (some (x.length:Int)) none).bind _=_
   rw [bs_from he,bS,show sidx (mkB (c::l)) 0=some (c.toNat:Int) by rw [show (0:Int)=((0:Nat):Int) from rfl,sidx_bs,bs_mkB];rfl,bS,contRune_eq hN c,bS]
   simp only [skW]
   simp only [List.length_cons] at hsz hn
   cases hb:blankB c with
   | true =>
    rw [cT,cT,w64_succ (by omega)]
    rw [ih (x++[c]) l (x.length+1) (by omega) (by rw [he];simp) (by simp)]
    congr 3;omega
   | false =>
    rw [cF,cF,hasPre _ 47 47 (by rw [size_bs,bs_mkB];simp;omega),bS,bs_mkB]
    cases l with
    | nil =>
     rw [show (List.take 2 [c]==[(47:UInt8),47])=false by rw [beq_eq_false_iff_ne];simp]
     simp
    | cons d l =>
     have e2:(List.take 2 (c::d::l)==[(47:UInt8),47])=(c==47 && (d::l).head? == some 47):=by
      rw [Bool.eq_iff_iff,beq_iff_eq,Bool.and_eq_true,beq_iff_eq,beq_iff_eq]
      simp
     rw [e2]
     cases hc:(c==47 && (d::l).head? == some 47) with
     | false=>rfl
     | true =>
      rw [cT,cT]
      have h47:c=47:=by rw [Bool.and_eq_true,beq_iff_eq] at hc;exact hc.1
      unfold z113 z181
      rw [bS,bS,firstB_eq,bs_mkB]
      have hcount:(c::d::l).count 10=(d::l).count 10:=by rw [h47,List.count_cons];rfl
      by_cases h0:(d::l).count 10=0
      ·rw [indexB_none (by rw [hcount];exact h0)]
       rw [show decide ((-1:Int) < 0)=true from rfl,cT,skW_none _ h0]
       have e3:w64 ((x.length:Int)+w64 (w64 (((mkB (c::d::l)).size:Int)-1)+1))=((x.length+((d::l).length+1):Nat):Int):=by
        rw [size_bs,bs_mkB]
        simp only [List.length_cons] at hsz ⊢
        rw [w64_id (n:=(((l.length+1+1:Nat):Int)-1)) (by omega) (by omega),w64_id (n:=(((l.length+1+1:Nat):Int)-1+1)) (by omega) (by omega),w64_id (by omega) (by omega)]
        omega
       rw [e3]
       rw [ih (bs s) [] (x.length+((d::l).length+1)) (by simp;omega) (by simp) (by rw [he];simp)]
       rfl
      ·obtain ⟨p,q,hp,hp0,hi⟩:=indexB_some (l:=c::d::l) (c:=10) (by rw [hcount];omega)
       rw [hi,show decide ((p.length:Int) < 0)=false by simp,cF]
       cases p with
       | nil=>simp at hp;rw [h47] at hp;exact absurd hp.1 (by decide)
       | cons c' p =>
        rw [List.cons_append] at hp
        injection hp with hp1 hp2
        have hp0':p.count 10=0:=by rw [List.count_cons] at hp0;omega
        rw [hp2,skW_some p q hp0']
        have hlen:=congrArg List.length hp2
        simp only [List.length_cons,lA] at hlen hsz ⊢
        rw [w64_id (n:=(((p.length+1:Nat):Int)+1)) (by omega) (by omega),w64_id (by omega) (by omega)]
        have e4:(x.length:Int)+(((p.length+1:Nat):Int)+1)=((x.length+(p.length+2):Nat):Int):=by omega
        rw [e4,ih (x++(c::p++[10])) q (x.length+(p.length+2)) (by simp only [List.length_cons] at hn;omega) (by rw [he,hp2];simp) (by simp)]
        congr 3;omega
end Gp
end
section
namespace Gp
open Go Go.Kx Gx
def Rd (s:ByteArray) (a:Nat) (lx:Lx) (o:Option (T14 × Int × T15)):Prop :=
 match lx with
 | .ok k tx v n=>o=some (⟨k,mkB tx,v,0⟩,0,⟨s,((a+n:Nat):Int)⟩)
 | .er e=>e≠0∧∃ t c,o=some (t,e,c)
variable {N:Nat} (hN:4194304 < N)
theorem sidx_mid {s:ByteArray} {x y:List UInt8} {c:UInt8} (h:bs s=x++c::y) {i:Int} (hi:i=(x.length:Int)):sidx s i=some (c.toNat:Int):=by
 rw [hi,sidx_bs,h];simp
theorem inn_eq (N:Nat) (c:UInt8):z116 N (c.toNat:Int)=some (innB c):=inner_eq N _
theorem dig_eq (N:Nat) (c:UInt8):z58 N (c.toNat:Int)=some (digB c):=by
 unfold z58 digB
 cases decide (48≤(c.toNat:Int))<;>rfl
theorem let_eq (N:Nat) (c:UInt8):z56 N (c.toNat:Int)=some (letB c):=letter_eq N _
theorem takeI (s:ByteArray) (hs:s.size≤200000) (x:List UInt8):∀ (n:Nat) (u y:List UInt8),y.length < n→bs s=x++(u++y) →
  z115_30_l2 N ⟨s,(x.length:Int)⟩ n ((x.length+u.length:Nat):Int)=some (mkB (u++y.takeWhile innB),⟨s,((x.length+(u++y.takeWhile innB).length:Nat):Int)⟩):=by
 intro n
 induction n with
 | zero=>intro u y h;omega
 | succ n ih =>
  intro u y hn he
  have hsz:s.size=x.length+(u.length+y.length):=by rw [size_bs,he];simp
  have fin:z115_30_k1 ⟨s,(x.length:Int)⟩ ((x.length+u.length:Nat):Int)=some (mkB u,⟨s,((x.length+u.length:Nat):Int)⟩):=by
   unfold z115_30_k1
   show (ssl s (some (x.length:Int)) (some ((x.length+u.length:Nat):Int))).bind _=_
   rw [ssl_mid he rfl rfl];rfl
  unfold z115_30_l2
  cases y with
  | nil =>
   rw [show decide (((x.length+u.length:Nat):Int) < (((⟨s,(x.length:Int)⟩:T15).s').size:Int))=false by show decide (((x.length+u.length:Nat):Int) < (s.size:Int))=false;simp at hsz;simp;omega,cF,fin]
   simp
  | cons c l =>
   rw [show decide (((x.length+u.length:Nat):Int) < (((⟨s,(x.length:Int)⟩:T15).s').size:Int))=true by show decide (((x.length+u.length:Nat):Int) < (s.size:Int))=true;simp at hsz;simp;omega,cT]
   show (sidx s ((x.length+u.length:Nat):Int)).bind _=_
   rw [sidx_mid (x:=x++u) (c:=c) (y:=l) (by rw [he];simp) (by simp),bS,inn_eq,bS]
   simp only [List.length_cons] at hsz hn
   cases hc:innB c with
   | false=>rw [cF,fin,List.takeWhile_cons,hc];simp
   | true =>
    rw [cT,w64_succ (by omega)]
    have:=ih (u++[c]) l (by omega) (by rw [he];simp)
    rw [show x.length+u.length+1=x.length+(u++[c]).length by simp;omega,this,List.takeWhile_cons,hc]
    simp
theorem takeD (s:ByteArray) (hs:s.size≤200000) (x:List UInt8):∀ (n:Nat) (u y:List UInt8),y.length < n→bs s=x++(u++y) →
  z115_31_l2 N ⟨s,(x.length:Int)⟩ n ((x.length+u.length:Nat):Int)=some (mkB (u++y.takeWhile digB),⟨s,((x.length+(u++y.takeWhile digB).length:Nat):Int)⟩):=by
 intro n
 induction n with
 | zero=>intro u y h;omega
 | succ n ih =>
  intro u y hn he
  have hsz:s.size=x.length+(u.length+y.length):=by rw [size_bs,he];simp
  have fin:z115_31_k1 ⟨s,(x.length:Int)⟩ ((x.length+u.length:Nat):Int)=some (mkB u,⟨s,((x.length+u.length:Nat):Int)⟩):=by
   unfold z115_31_k1
   show (ssl s (some (x.length:Int)) (some ((x.length+u.length:Nat):Int))).bind _=_
   rw [ssl_mid he rfl rfl];rfl
  unfold z115_31_l2
  cases y with
  | nil =>
   rw [show decide (((x.length+u.length:Nat):Int) < (((⟨s,(x.length:Int)⟩:T15).s').size:Int))=false by show decide (((x.length+u.length:Nat):Int) < (s.size:Int))=false;simp at hsz;simp;omega,cF,fin]
   simp
  | cons c l =>
   rw [show decide (((x.length+u.length:Nat):Int) < (((⟨s,(x.length:Int)⟩:T15).s').size:Int))=true by show decide (((x.length+u.length:Nat):Int) < (s.size:Int))=true;simp at hsz;simp;omega,cT]
   show (sidx s ((x.length+u.length:Nat):Int)).bind _=_
   rw [sidx_mid (x:=x++u) (c:=c) (y:=l) (by rw [he];simp) (by simp),bS,dig_eq,bS]
   simp only [List.length_cons] at hsz hn
   cases hc:digB c with
   | false=>rw [cF,fin,List.takeWhile_cons,hc];simp
   | true =>
    rw [cT,w64_succ (by omega)]
    have:=ih (u++[c]) l (by omega) (by rw [he];simp)
    rw [show x.length+u.length+1=x.length+(u++[c]).length by simp;omega,this,List.takeWhile_cons,hc]
    simp
theorem let_inn {c:UInt8} (h:letB c=true):innB c=true:=by
 unfold letB at h;unfold innB innerV;rw [h];rfl
theorem dig_inn {c:UInt8} (h:digB c=true):innB c=true:=by
 unfold digB at h;unfold innB innerV;rw [h];simp
include hN in
theorem name_rd (s:ByteArray) (hs:s.size≤200000) (x l:List UInt8) (c:UInt8) (he:bs s=x++c::l) (hc:letB c=true) :
  Rd s x.length (bif decide ((l.takeWhile innB).length+1 > 16) then .er 6 else .ok 1 (c::l.takeWhile innB) 0 ((l.takeWhile innB).length+1)) (z57 N ⟨s,(x.length:Int)⟩):=by
 have hsz:s.size=x.length+(l.length+1):=by rw [size_bs,he];simp
 unfold z57 z115_30
 have:=takeI (N:=N) s hs x N [] (c::l) (by simp;omega) (by rw [he];simp)
 simp only [List.length_nil,Nat.add_zero,List.nil_append,List.takeWhile_cons,let_inn hc] at this
 show Rd _ _ _ ((z115_30_l2 N ⟨s,(x.length:Int)⟩ N (x.length:Int)).bind _)
 rw [this]
 simp only [bS,size_bs,bs_mkB,if_true,List.length_cons]
 by_cases h:(l.takeWhile innB).length+1 > 16
 ·rw [dT h,dT (by omega)]
  exact ⟨by decide,_,_,rfl⟩
 ·rw [dF h,dF (by omega)]
  rfl
theorem val_bound:∀ (l:List UInt8) (v:Int) (k:Nat),(∀ c∈l,digB c=true)→0≤v→v < ((10 ^ k:Nat):Int) →
  0≤l.foldl (fun v c=>10 * v+((c.toNat:Int)-48)) v∧l.foldl (fun v c=>10 * v+((c.toNat:Int)-48)) v < ((10 ^ (k+l.length):Nat):Int)
 | [],v,k,_,h1,h2=>⟨h1,h2⟩
 | c::l,v,k,h,h1,h2=>by
  have hc:=h c (by simp)
  unfold digB at hc
  simp only [Bool.and_eq_true,decide_eq_true_eq] at hc
  have:=val_bound l (10 * v+((c.toNat:Int)-48)) (k+1) (fun q hq=>h q (List.mem_cons_of_mem _ hq)) (by omega) (by rw [Nat.pow_succ];push_cast;push_cast at h2;omega)
  rw [List.foldl_cons,List.length_cons,show k+(l.length+1)=k+1+l.length by omega]
  exact this
theorem numL2 (s:ByteArray) (sc:T15) (d:List UInt8) (hd:∀ c∈d,digB c=true) (hl:d.length≤6):∀ (n:Nat) (u y:List UInt8),y.length < n→d=u++y →
  z59_l2 (mkB d,sc) n (valD u) (u.length:Int)=some (⟨2,str [],valD d,0⟩,0,sc):=by
 have bound:∀ u:List UInt8,(∀ c∈u,digB c=true)→u.length≤6→0≤valD u∧valD u < 1000000:=by
  intro u h h6
  have:=val_bound u 0 0 h (by omega) (by decide)
  have h2:(10 ^ (0+u.length):Nat)≤10 ^ 6:=Nat.pow_le_pow_right (by omega) (by omega)
  have e6:(10:Nat) ^ 6=1000000:=by decide
  unfold valD
  exact ⟨this.1,by omega⟩
 intro n
 induction n with
 | zero=>intro u y h;omega
 | succ n ih =>
  intro u y hn he
  unfold z59_l2
  show (bif decide ((u.length:Int) < ((mkB d).size:Int)) then _ else _)=_
  rw [size_bs,bs_mkB]
  cases y with
  | nil =>
   rw [List.append_nil] at he
   subst he
   rw [dF (by omega),cF];rfl
  | cons c y =>
   have hlen:d.length=u.length+(y.length+1):=by rw [he];simp
   rw [dT (by omega),cT]
   show (sidx (mkB d) (u.length:Int)).bind _=_
   rw [sidx_mid (x:=u) (c:=c) (y:=y) (by rw [bs_mkB,he]) rfl,bS]
   have hu:∀ q∈u,digB q=true:=fun q hq=>hd q (by rw [he];exact List.mem_append_left _ hq)
   obtain ⟨b1,b2⟩:=bound u hu (by omega)
   have hc:=hd c (by rw [he];simp)
   unfold digB at hc
   simp only [Bool.and_eq_true,decide_eq_true_eq] at hc
   have hw:wk .u8 ((c.toNat:Int)-48)=(c.toNat:Int)-48:=by
    show IntKind.u8.wrap _=_
    simp [IntKind.wrap,IntKind.signed,IntKind.bits]
    omega
   rw [hw,w64_id (n:=10 * valD u) (by omega) (by omega),w64_id (n:=(c.toNat:Int)-48) (by omega) (by omega),w64_id (by omega) (by omega),w64_succ (by omega)]
   have e:10 * valD u+((c.toNat:Int)-48)=valD (u++[c]):=by simp [valD]
   rw [e,show u.length+1=(u++[c]).length by simp]
   exact ih (u++[c]) y (by simp at hn;omega) (by rw [he];simp)
theorem takeWhile_all {α:Type} (p:α→Bool) (l:List α):∀ c∈l.takeWhile p,p c=true:=by
 intro c h
 induction l with
 | nil=>simp at h
 | cons d l ih =>
  rw [List.takeWhile_cons] at h
  cases hd:p d with
  | false=>rw [hd] at h;simp at h
  | true =>
   rw [hd] at h
   rcases List.mem_cons.1 h with rfl | h
   ·exact hd
   ·exact ih h
theorem drop_takeWhile {α:Type} (p:α→Bool):∀ l:List α,l.takeWhile p++l.drop (l.takeWhile p).length=l
 | []=>rfl
 | c::l=>by
  rw [List.takeWhile_cons]
  cases hc:p c with
  | false=>simp
  | true=>simp only [if_true,List.length_cons,List.drop_succ_cons,List.cons_append];rw [drop_takeWhile p l]
include hN in
theorem number_rd (s:ByteArray) (hs:s.size≤200000) (x l:List UInt8) (c:UInt8) (he:bs s=x++c::l) (hc:digB c=true) :
  Rd s x.length (numB (c::l)) (z59 N ⟨s,(x.length:Int)⟩):=by
 have hsz:s.size=x.length+(l.length+1):=by rw [size_bs,he];simp
 unfold z59 z115_31
 have ht:=takeD (N:=N) s hs x N [] (c::l) (by simp;omega) (by rw [he];simp)
 simp only [List.length_nil,Nat.add_zero,List.nil_append] at ht
 show Rd _ _ _ ((z115_31_l2 N ⟨s,(x.length:Int)⟩ N (x.length:Int)).bind _)
 rw [ht]
 unfold numB numK
 have hsplit:=drop_takeWhile digB (c::l)
 have hall:=takeWhile_all digB (c::l)
 have hpos:1≤((c::l).takeWhile digB).length:=by rw [List.takeWhile_cons,hc];simp
 have hhd:((c::l).takeWhile digB)=c::l.takeWhile digB:=by rw [List.takeWhile_cons,hc];simp
 generalize hd:(c::l).takeWhile digB=d at *
 generalize hr:(c::l).drop d.length=r at *
 have hdl:d.length+r.length=l.length+1:=by
  have:=congrArg List.length hsplit;simp at this;omega
 have k4:∀ b,Rd s x.length (bif b then .er 3 else bif (decide (d.length > 6) || (decide (d.length > 1) && (c::l).head? == some 48)) then .er 2 else .ok 2 [] (valD d) d.length) (z59_k4 N (mkB d,⟨s,((x.length+d.length:Nat):Int)⟩) b):=by
  intro b
  unfold z59_k4
  cases b with
  | true=>exact ⟨by decide,_,_,rfl⟩
  | false =>
   rw [cF,cF]
   show Rd _ _ _ (bif decide (((mkB d).size:Int) > 6) then _ else bif decide (((mkB d).size:Int) > 1) then (sidx (mkB d) 0).bind _ else _)
   rw [size_bs,bs_mkB]
   have k3:∀ b',d.length≤6→Rd s x.length (bif b' then .er 2 else .ok 2 [] (valD d) d.length) (z59_k3 N (mkB d,⟨s,((x.length+d.length:Nat):Int)⟩) b'):=by
    intro b' h6
    unfold z59_k3
    cases b' with
    | true=>exact ⟨by decide,_,_,rfl⟩
    | false =>
     have:=numL2 s ⟨s,((x.length+d.length:Nat):Int)⟩ d hall h6 N [] d (by omega) rfl
     rw [cF,cF]
     exact this
   by_cases h6:d.length > 6
   ·rw [dT h6,show decide ((d.length:Int) > 6)=true by simp;omega]
    exact ⟨by decide,_,_,rfl⟩
   ·rw [dF h6,show decide ((d.length:Int) > 6)=false by simp;omega,Bool.false_or,cF]
    by_cases h1:d.length > 1
    ·rw [dT h1,show decide ((d.length:Int) > 1)=true by simp;omega,Bool.true_and,cT]
     rw [show sidx (mkB d) 0=some (c.toNat:Int) from sidx_mid (x:=[]) (c:=c) (y:=l.takeWhile digB) (by rw [bs_mkB,hhd];rfl) rfl,bS]
     have e:((c.toNat:Int)==48)=((c::l).head? == some 48):=by
      rw [show (48:Int)=((48:Nat):Int) from rfl,u8_eq (by omega),Bool.eq_iff_iff,beq_iff_eq,beq_iff_eq]
      simp
     rw [e]
     exact k3 _ (by omega)
    ·rw [dF h1,show decide ((d.length:Int) > 1)=false by simp;omega,Bool.false_and,cF]
     exact k3 false (by omega)
 show Rd _ _ _ (bif decide (((x.length+d.length:Nat):Int) < (s.size:Int)) then (sidx s ((x.length+d.length:Nat):Int)).bind _ else _)
 cases r with
 | nil =>
  rw [show decide (((x.length+d.length:Nat):Int) < (s.size:Int))=false by simp at hdl;simp;omega,cF]
  exact k4 false
 | cons q r =>
  rw [show decide (((x.length+d.length:Nat):Int) < (s.size:Int))=true by simp at hdl;simp;omega,cT]
  rw [sidx_mid (x:=x++d) (c:=q) (y:=r) (by rw [he,← hsplit];simp) (by simp),bS,inn_eq,bS]
  have:=k4 (innB q)
  exact this
end Gp
end
