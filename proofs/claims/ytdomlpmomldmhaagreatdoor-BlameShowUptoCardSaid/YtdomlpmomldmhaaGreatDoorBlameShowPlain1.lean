/- The plain law, part 1: what the functions compute answers as the statement says. -/
import Derived.Lib.Bytealg
import Derived.Test.YtdomlpmomldmhaaGreatDoorBlameShowPure
set_option linter.all false
section
section
namespace Gp
open Go Go.Kx
theorem dF {p:Prop} [Decidable p] (h:¬p):decide p=false:=decide_eq_false h
theorem dT {p:Prop} [Decidable p] (h:p):decide p=true:=decide_eq_true h
theorem bS {α β:Type _} (a:α) (f:α→Option β):(some a).bind f=f a:=rfl
theorem cF {α:Sort _} {a b:α}:(bif false then a else b)=b:=rfl
theorem cT {α:Sort _} {a b:α}:(bif true then a else b)=a:=rfl
theorem aA {α:Type _} (a b c:List α):(a++b)++c=a++(b++c):=List.append_assoc a b c
theorem lA {α:Type _} {a b:List α}:(a++b).length=a.length+b.length:=List.length_append
theorem w64_id {n:Int} (h1:-9223372036854775808≤n) (h2:n≤9223372036854775807):w64 n=n:=by
 show IntKind.i64.wrap n=n
 simp [IntKind.wrap,IntKind.signed,IntKind.bits]
 omega
theorem w64_succ {n:Nat} (h:n < 4611686018427387904):w64 ((n:Int)+1)=((n+1:Nat):Int):=by rw [w64_id (by omega) (by omega)];omega
theorem idx_nat {α:Type} (xs:List α) (k:Nat):idx xs (k:Int)=xs[k]? := by
 unfold idx
 have:decide (0≤(k:Int))=true:=by simp
 rw [this];simp
theorem idx_int {α:Type} {xs:List α} {i:Int} {k:Nat} (h:i=k):idx xs i=xs[k]? := by rw [h,idx_nat]
theorem setL'_nat {α:Type} (xs:List α) (k:Nat) (e:α):setL' xs (k:Int) e=xs.set k e:=by unfold setL';simp
theorem setL'_int {α:Type} {xs:List α} {i:Int} {k:Nat} (h:i=k) (e:α):setL' xs i e=xs.set k e:=by rw [h,setL'_nat]
theorem get_mid {α:Type} (A:List α) (x:α) (B:List α) {k:Nat} (h:A.length=k):(A++x::B)[k]? = some x:=by
 subst h;simp
theorem set_mid {α:Type} (A:List α) (x y:α) (B:List α) {k:Nat} (h:A.length=k):(A++x::B).set k y=A++y::B:=by
 subst h;simp
theorem idx_mid {α:Type} {L A:List α} {x:α} {B:List α} {i:Int} (hL:L=A++x::B) (h:i=(A.length:Int)):idx L i=some x:=by
 rw [idx_int h,hL];exact get_mid A x B rfl
theorem setL'_mid {α:Type} {L A:List α} {x:α} {B:List α} {i:Int} (hL:L=A++x::B) (h:i=(A.length:Int)) (y:α):setL' L i y=A++y::B:=by
 rw [setL'_int h,hL];exact set_mid A x y B rfl
theorem appL_some {α:Type} {xs ys:List α} (h:xs.length+ys.length≤4294967296):appL xs ys=some (xs++ys):=by
 unfold appL
 have:Nat.ble (xs.length+ys.length) lim=true:=Nat.ble_eq_true_of_le h
 rw [this];rfl
theorem drop_cons {α:Type} {xs:List α} {k:Nat} {x:α} {l:List α} (h:xs.drop k=x::l):k < xs.length∧xs[k]? = some x∧xs.drop (k+1)=l:=by
 have hlt:k < xs.length:=by
  rcases Nat.lt_or_ge k xs.length with h' | h'
  ·exact h'
  ·rw [List.drop_eq_nil_of_le h'] at h;cases h
 rw [List.drop_eq_getElem_cons hlt] at h
 simp only [List.cons.injEq] at h
 exact ⟨hlt,by rw [List.getElem?_eq_getElem hlt,h.1],h.2⟩
theorem drop_nil {α:Type} {xs:List α} {k:Nat} (h:xs.drop k=[]):xs.length≤k:=by simpa using h
def lv {α γ:Type} (b:α→Nat→γ→γ) (e:γ):List α→Nat→γ
 | [],_=>e
 | x::l,k=>b x k (lv b e l (k+1))
theorem lv_of {α γ:Type} (xs:List α) (F:Nat→Int→γ) (b:α→Nat→γ→γ) (e:γ)
  (h1:∀ n k x,k < xs.length→xs[k]? = some x→F (n+1) (k:Int)=b x k (F n ((k+1:Nat):Int)))
  (h2:∀ n k,xs.length≤k→F (n+1) (k:Int)=e) :
  ∀ (l:List α) (k n:Nat),xs.drop k=l→l.length < n→F n (k:Int)=lv b e l k:=by
 intro l
 induction l with
 | nil =>
  intro k n h hn
  obtain ⟨n,rfl⟩:∃ m,n=m+1:=⟨n-1,by simp at hn;omega⟩
  exact h2 n k (drop_nil h)
 | cons x l ih =>
  intro k n h hn
  obtain ⟨n,rfl⟩:∃ m,n=m+1:=⟨n-1,by simp at hn;omega⟩
  obtain ⟨a,c,d⟩:=drop_cons h
  rw [h1 n k x a c,ih (k+1) n d (by simp at hn;omega)];rfl
theorem lv_from {α γ:Type} {xs:List α} {F:Nat→Int→γ} {b:α→Nat→γ→γ} {e:γ} {n:Nat} {i:Int} (hn:xs.length < n) (hi:i=((0:Nat):Int))
  (h1:∀ n k x,k < xs.length→xs[k]? = some x→F (n+1) (k:Int)=b x k (F n ((k+1:Nat):Int)))
  (h2:∀ n k,xs.length≤k→F (n+1) (k:Int)=e):F n i=lv b e xs 0:=by
 rw [hi];exact lv_of xs F b e h1 h2 xs 0 n rfl hn
theorem lt_t {k n:Nat} (h:k < n):decide ((k:Int) < (n:Int))=true:=by simp [h]
theorem lt_f {k n:Nat} (h:n≤k):decide ((k:Int) < (n:Int))=false:=by simp;omega
end Gp
end
section
namespace Gp
open Go Go.Kx
def Lt {α:Type} (K:α→Int) (r:α→α→Prop) (x y:α):Prop:=K x < K y∨(K x=K y∧r x y)
def Srt {α:Type} (K:α→Int) (r:α→α→Prop) (l:List α):Prop:=l.Pairwise (Lt K r)
variable {α:Type} {K:α→Int} {r:α→α→Prop}
theorem get_at {L A:List α} {x:α} {B:List α} {k:Nat} (hL:L=A++x::B) (h:A.length=k):L[k]? = some x:=by rw [hL];exact get_mid A x B h
inductive Bk (K:α→Int) (r:α→α→Prop) (n:Nat):List α→List α→Prop
 | last (o c:List α):c.length≤n→c.Perm o→Srt K r c→Bk K r n o c
 | cons (o1 c1 o2 c2:List α):c1.length=n→c1.Perm o1→Srt K r c1→Bk K r n o2 c2→Bk K r n (o1++o2) (c1++c2)
theorem Bk.few {n:Nat} {o c:List α} (h:Bk K r n o c) (hn:0 < n) (hc:c.length < 2 * n) :
  (c.length≤n∧c.Perm o∧Srt K r c)∨∃ o1 o2 c1 c2,o=o1++o2∧c=c1++c2∧c1.length=n∧0 < c2.length∧c2.length≤n∧c1.Perm o1∧c2.Perm o2∧Srt K r c1∧Srt K r c2:=by
 cases h with
 | last _ _ h1 h2 h3=>exact .inl ⟨h1,h2,h3⟩
 | cons o1 c1 o2 c2 h1 h2 h3 h4 =>
  cases h4 with
  | last _ _ g1 g2 g3 =>
   rcases Nat.eq_zero_or_pos c2.length with h0 | h0
   ·have:c2=[]:=List.length_eq_zero_iff.mp h0
    subst this
    have:o2=[]:=by simpa using g2.symm
    subst this
    exact .inl ⟨by simp;omega,by simpa using h2,by simpa using h3⟩
   ·exact .inr ⟨o1,o2,c1,c2,rfl,rfl,h1,h0,g1,h2,g2,h3,g3⟩
  | cons p1 d1 p2 d2 g1 g2 g3 g4=>simp at hc;omega
theorem Bk.all {n:Nat} {o c:List α} (h:Bk K r n o c) (hn:0 < n) (hc:c.length≤n):c.Perm o∧Srt K r c:=by
 rcases h.few hn (by omega) with h | ⟨o1,o2,c1,c2,h1,h2,h3,h4,_⟩
 ·exact h.2
 ·subst h2;simp at hc;omega
end Gp
end
section
namespace Gp
open Go Go.Kx Gx
theorem look {α γ:Type} (xs:List α) (hs:xs.length≤4194304) (b:α→Int→γ→γ) (F:Nat→Int→γ) (e:γ) {n:Nat} (hn:4194304 < n)
  (h1:∀ n k x,k < xs.length→xs[k]? = some x→F (n+1) (k:Int)=b x k (F n (w64 ((k:Int)+1))))
  (h2:∀ n k,xs.length≤k→F (n+1) (k:Int)=e):F n (0:Int)=lv (fun x (k:Nat) r=>b x (k:Int) r) e xs 0 :=
 lv_from (by omega) rfl (fun n k x hk hx=>by rw [h1 n k x hk hx,w64_succ (by omega)]) h2
def eqStr (a b:ByteArray):Bool:=a.toList==b.toList
structure SizeD (x:T0):Prop where
 f:x.Fields.length≤4194304
 d:x.Guard.Diffs.length≤4194304
 e:x.Guard.Equals.length≤4194304
structure SizeG (g:T5):Prop where
 r:g.Roles.length≤4194304
 d:g.Decls.length≤4194304
 dd:∀ x∈g.Decls,SizeD x
 e:g.Edges.length≤4194304
 t:g.Timeouts.length≤4194304
variable {N:Nat} (hN:4194304 < N)
end Gp
end
section
namespace Gp
open Go Go.Kx Gx
variable {N:Nat} (hN:4194304 < N)
def whereV {α:Type} (f:α→Bool) (l:List α):Option Int:=lv (fun x (k:Nat) r=>bif f x then some (k:Int) else r) (some (-1)) l 0
theorem bcomm (a b:ByteArray):(a.toList==b.toList)=(b.toList==a.toList):=by
 rw [Bool.eq_iff_iff,beq_iff_eq,beq_iff_eq];exact ⟨Eq.symm,Eq.symm⟩
include hN in
theorem Index_eq (l:List ByteArray) (hl:l.length≤4194304) (v:ByteArray):z278 N l v=whereV (fun x=>eqStr x v) l:=by
 unfold z278 whereV
 refine look l hl (fun x k r=>bif eqStr x v then some k else r) (z278_l2 l v) _ hN ?_ ?_
 ·intro n k x hk hx
  simp only [z278_l2,lt_t hk,idx_nat,hx,cT,bS,eqStr,bcomm v x]
 ·intro n k hk
  simp only [z278_l2,lt_f hk,cF,z278_k1]
end Gp
end
section
namespace Gp
open Go Go.Kx Gx
def I64 (n:Int):Prop:=-9223372036854775808≤n∧n≤9223372036854775807
def ekey (e:T2):Int:=e.Act.To * 1180591620717411303424+e.Act.Label
def key (g:T5) (x:Int):Int:=match g.Edges[x.toNat]? with | some e=>ekey e | none=>0
end Gp
end
section
namespace Gp
open Go Go.Kx Gx
theorem lsl_to {α:Type} {L A B:List α} {i:Int} (hL:L=A++B) (hi:i=(A.length:Int)):lsl L none (some i)=some A:=by
 subst hL hi
 have h:decide ((A.length:Int)≤((A++B).length:Int))=true:=by simp;omega
 have h2:decide ((0:Int)≤(A.length:Int))=true:=by simp
 unfold lsl bnd
 simp only [Option.getD_some,Option.getD_none,h,h2]
 simp
end Gp
end
section
namespace Gp
open Go Go.Kx Gx
def allV {α:Type} (p:α→Nat→Bool):List α→Nat→Bool
 | [],_=>true
 | x::l,k=>p x k && allV p l (k+1)
theorem allV_of {α:Type} (p:α→Nat→Bool) (xs:List α) (F:Nat→Int→Option Bool) (e:Option Bool)
  (h1:∀ n k x,k < xs.length→xs[k]? = some x→F (n+1) (k:Int)=bif p x k then F n ((k+1:Nat):Int) else some false)
  (h2:∀ n k,xs.length≤k→F (n+1) (k:Int)=e) :
  ∀ (l:List α) (k n:Nat),xs.drop k=l→l.length < n→F n (k:Int)=bif allV p l k then e else some false:=by
 intro l
 induction l with
 | nil =>
  intro k n h hn
  obtain ⟨n,rfl⟩:∃ m,n=m+1:=⟨n-1,by simp at hn;omega⟩
  exact h2 n k (drop_nil h)
 | cons x l ih =>
  intro k n h hn
  obtain ⟨n,rfl⟩:∃ m,n=m+1:=⟨n-1,by simp at hn;omega⟩
  obtain ⟨a,c,d⟩:=drop_cons h
  rw [h1 n k x a c,ih (k+1) n d (by simp at hn;omega)]
  show _=bif (p x k && allV p l (k+1)) then e else some false
  cases p x k<;>rfl
theorem allV_from {α:Type} (p:α→Nat→Bool) {xs:List α} {F:Nat→Int→Option Bool} {e:Option Bool} {n:Nat} (hn:xs.length < n)
  (h1:∀ n k x,k < xs.length→xs[k]? = some x→F (n+1) (k:Int)=bif p x k then F n ((k+1:Nat):Int) else some false)
  (h2:∀ n k,xs.length≤k→F (n+1) (k:Int)=e):F n (0:Int)=bif allV p xs 0 then e else some false :=
 allV_of p xs F e h1 h2 xs 0 n rfl hn
theorem allV_iff {α:Type} (p:α→Nat→Bool):∀ (l:List α) (k:Nat),allV p l k=true↔∀ i x,l[i]? = some x→p x (k+i)=true
 | [],k=>by simp [allV]
 | x::l,k=>by
  show (p x k && allV p l (k+1))=true↔_
  rw [Bool.and_eq_true,allV_iff p l (k+1)]
  constructor
  ·rintro ⟨h0,h1⟩ i y hy
   cases i with
   | zero=>simp at hy;subst hy;exact h0
   | succ i=>have:=h1 i y (by simpa using hy);rw [show k+(i+1)=k+1+i by omega];exact this
  ·intro h
   exact ⟨by simpa using h 0 x (by simp),fun i y hy=>by rw [show k+1+i=k+(i+1) by omega];exact h (i+1) y (by simpa using hy)⟩
def bs (s:ByteArray):List UInt8:=s.data.toList
theorem size_bs (s:ByteArray):s.size=(bs s).length:=rfl
theorem slt_t {s:ByteArray} {k:Nat} (h:k < (bs s).length):decide ((k:Int) < (s.size:Int))=true:=lt_t h
theorem slt_f {s:ByteArray} {k:Nat} (h:(bs s).length≤k):decide ((k:Int) < (s.size:Int))=false:=lt_f h
theorem toList_bs (s:ByteArray):s.toList=bs s:=ByteArray.toList_eq s
theorem bs_inj {a b:ByteArray} (h:bs a=bs b):a=b:=by
 cases a with | mk a=>cases b with | mk b=>simpa [bs] using h
theorem sidx_bs (s:ByteArray) (k:Nat):sidx s (k:Int)=(bs s)[k]?.map (fun b=>(b.toNat:Int)):=by
 unfold sidx
 have h:decide (0≤(k:Int))=true:=by simp
 rw [h,cT]
 have e:s[(k:Int).toNat]? = (bs s)[k]? := by
  simp [getElem?_def,bs]
  split<;>simp_all
  rfl
 rw [e]
variable {N:Nat} (hN:4194304 < N)
def letterV (c:Int):Bool:=(decide (97≤c) && decide (c≤122)) || (decide (65≤c) && decide (c≤90))
def innerV (c:Int):Bool:=letterV c || ((decide (48≤c) && decide (c≤57)) || c==95)
theorem letter_eq (N:Nat) (c:Int):z292 N c=some (letterV c):=by
 unfold z292 letterV
 cases decide (97≤c)<;>cases decide (c≤122)<;>cases decide (65≤c)<;>rfl
theorem refLetter_eq (N:Nat) (c:Int):z238 N c=some (letterV c):=letter_eq N c
theorem inner_eq (N:Nat) (c:Int):z293 N c=some (innerV c):=by
 unfold z293 innerV z312
 rw [letter_eq]
 simp only [bS]
 cases letterV c
 ·cases decide (48≤c)<;>cases decide (c≤57)<;>rfl
 ·rfl
def isName (s:ByteArray):Bool :=
 match bs s with
 | []=>false
 | x::l=>letterV (x.toNat:Int) && (decide (l.length < 16) && allV (fun (c:UInt8) _=>innerV (c.toNat:Int)) (x::l) 0)
def keywords:List ByteArray:=[(str [97,103,97,105,110]),(str [97,110,100]),(str [97,115]),(str [97,116]),(str [99,97,108,108]),(str [99,104,111,105,99,101]),(str [101,108,115,101]),(str [102,114,111,109]),(str [105,102]),(str [105,110,116]),(str [108,101,110]),(str [108,111,111,112]),(str [109,101,115,115,97,103,101]),(str [111,102]),(str [111,102,102,101,114]),(str [111,110]),(str [111,114]),(str [112,97,114]),(str [112,108,97,121,115]),(str [112,114,111,116,111,99,111,108]),(str [115,101,114,118,105,99,101]),(str [116,101,120,116]),(str [116,105,109,101,115]),(str [116,111]),(str [118,97,114]),(str [119,104,101,114,101]),(str [119,104,105,108,101]),(str [119,105,116,104,105,110])]
def isWord (s:ByteArray):Bool:=isName s && !(keywords.any fun k=>eqStr k s)
include hN in
theorem nameL (s:ByteArray) (hs:s.size≤4194304):z268_l2 N s N (0:Int)=some (allV (fun (c:UInt8) _=>innerV (c.toNat:Int)) (bs s) 0):=by
 rw [size_bs] at hs
 rw [allV_from (xs:=bs s) (fun (c:UInt8) _=>innerV (c.toNat:Int)) (F:=z268_l2 N s) (e:=some true) (by omega)]
 ·cases allV (fun (c:UInt8) _=>innerV (c.toNat:Int)) (bs s) 0<;>rfl
 ·intro n k x hk hx
  simp only [z268_l2,slt_t hk,cT,sidx_bs,hx,Option.map_some,bS,inner_eq,w64_succ (show k < 4611686018427387904 by omega)]
  cases innerV (x.toNat:Int)<;>rfl
 ·intro n k hk
  simp only [z268_l2,slt_f hk,cF,z268_k1]
theorem nameL_ref (s:ByteArray):∀ n k,z184_l2 N s n k=z268_l2 N s n k
 | 0,_=>rfl
 | n+1,k=>by
  simp only [z184_l2,z268_l2,nameL_ref s n]
  rfl
theorem bs_nil:bs (str [])=[]:=rfl
include hN in
theorem name_eq (s:ByteArray) (hs:s.size≤4194304):z268 N s=some (isName s)∧z184 N s=some (isName s):=by
 unfold z268 z184
 rw [nameL_ref,nameL hN s hs,toList_bs,toList_bs,bs_nil,size_bs,show sidx s (0:Int)=sidx s ((0:Nat):Int) from rfl,sidx_bs]
 unfold isName
 cases h:bs s with
 | nil=>exact ⟨rfl,rfl⟩
 | cons x l =>
  have e:(x::l==([]:List UInt8))=false:=rfl
  rw [e]
  simp only [cF,List.getElem?_cons_zero,Option.map_some,bS,letter_eq,refLetter_eq]
  have d:decide (((x::l).length:Int) > 16) = !decide (l.length < 16):=by
   by_cases q:l.length < 16
   ·rw [dT q];simp;omega
   ·rw [dF q];simp;omega
  rw [d]
  cases letterV (x.toNat:Int)<;>cases decide (l.length < 16)<;>exact ⟨rfl,rfl⟩
theorem whereV_any {α:Type} (f:α→Bool) (l:List α) (k:Nat):∃ i,lv (fun x (k:Nat) r=>bif f x then some (k:Int) else r) (some (-1)) l k=some i∧decide (i≥0)=l.any f:=by
 induction l generalizing k with
 | nil=>exact ⟨-1,rfl,rfl⟩
 | cons x l ih =>
  show ∃ i,(bif f x then some (k:Int) else lv _ _ l (k+1))=some i∧_
  rw [List.any_cons]
  cases f x
  ·exact ih (k+1)
  ·exact ⟨k,rfl,by simp⟩
include hN in
theorem contains_eq (l:List ByteArray) (hl:l.length≤4194304) (v:ByteArray):z257 N l v=some (l.any fun x=>eqStr x v):=by
 unfold z257
 rw [Index_eq hN l hl]
 obtain ⟨i,h1,h2⟩:=whereV_any (fun x=>eqStr x v) l 0
 unfold whereV
 rw [h1,bS,h2]
include hN in
theorem refIn_eq (l:List ByteArray) (hl:l.length≤4194304) (v:ByteArray):z233 N l v=some (l.any fun x=>eqStr x v):=by
 unfold z233
 rw [look l hl (fun x k r=>bif eqStr x v then some true else r) (z233_l2 l v) (some false) hN]
 ·generalize (0:Nat)=k
  induction l generalizing k with
  | nil=>rfl
  | cons x l ih =>
   show (bif eqStr x v then some true else lv _ _ l (k+1))=_
   rw [List.any_cons,ih (by simp at hl;omega)]
   cases eqStr x v<;>rfl
 ·intro n k x hk hx
  simp only [z233_l2,lt_t hk,idx_nat,hx,cT,bS,eqStr]
 ·intro n k hk
  simp only [z233_l2,lt_f hk,cF,z233_k1]
include hN in
theorem word_eq (s:ByteArray) (hs:s.size≤4194304):z220 N s=some (isWord s)∧z172 N s=some (isWord s):=by
 obtain ⟨h1,h2⟩:=name_eq hN s hs
 unfold z220 z172 z234
 rw [h1,h2]
 simp only [bS]
 have c1:=contains_eq hN keywords (by decide) s
 have c2:=refIn_eq hN keywords (by decide) s
 unfold keywords at c1 c2
 rw [c1,c2]
 unfold isWord keywords
 simp only [bS]
 cases isName s<;>exact ⟨rfl,rfl⟩
end Gp
end
section
namespace Gp
open Go Go.Kx Gx
theorem minI_lt {a b n:Int}:minI a b < n↔a < n∨b < n:=by unfold minI;split<;>omega
theorem maxI_ge {a b n:Int}:maxI a b≥n↔a≥n∨b≥n:=by unfold maxI;split<;>omega
variable {N:Nat} (hN:4194304 < N)
def okE (g:T5) (x:T2):Prop :=
 0≤x.From∧x.From < g.States∧0≤x.To∧x.To < g.States∧0≤x.Act.From∧x.Act.From < (g.Roles.length:Int)∧0≤x.Act.To∧x.Act.To < (g.Roles.length:Int)∧x.Act.From≠x.Act.To∧0≤x.Act.Label∧x.Act.Label < (g.Decls.length:Int)
instance (g:T5) (x:T2):Decidable (okE g x):=by unfold okE;infer_instance
def okH (g:T5):Prop :=
 1≤g.States∧g.States≤200∧0≤g.Start∧g.Start < g.States∧0≤g.End∧g.End < g.States∧g.Edges.length≤400
instance (g:T5):Decidable (okH g):=by unfold okH;infer_instance
def numV (g:T5):Bool:=decide (okH g) && allV (fun x _=>decide (okE g x)) g.Edges 0
def apartP (x y:T2) (same:Bool):Bool :=
 !((!same && (x.From==y.From && ((((x.Act.From==y.Act.From) && ((x.Act.To==y.Act.To) && ((x.Act.Label==y.Act.Label) && true)))) || (x.Act.From != y.Act.From || x.Again)))) || (x.Again && (y.To==x.From && (x.Act.From != y.Act.From || x.Act.Label != y.Act.Label))))
def apartE (g:T5) (x:T2) (k:Nat):Bool := !(x.Again && x.From==g.Start) && allV (fun y i=>apartP x y (decide (k=i))) g.Edges 0
def apartV (g:T5):Bool:=allV (fun x k=>apartE g x k) g.Edges 0
end Gp
end
section
namespace Gp
open Go Go.Kx Gx
variable {N:Nat} (hN:4194304 < N)
def elseOk (g:T5) (x:T11):Bool:=match idx g.Edges x.Else with | some e=>e.From==x.State && !e.Again | none=>false
def okT (g:T5) (x:T11):Prop:=1≤x.Ticks∧x.Ticks≤1000∧0≤x.Else∧x.Else < (g.Edges.length:Int)∧elseOk g x=true
instance (g:T5) (x:T11):Decidable (okT g x):=by unfold okT;infer_instance
def lastV (g:T5):Nat→Int
 | 0=>-1
 | k+1=>match g.Timeouts[k]? with | some t=>t.State | none=>-1
def timeV (g:T5):Bool:=allV (fun x k=>decide (lastV g k < x.State∧okT g x)) g.Timeouts 0
end Gp
end
section
namespace Gp
open Go Go.Kx Gx
theorem idx_some {α:Type} {L:List α} {v:Int} {d:α} (h:idx L v=some d):0≤v∧v < (L.length:Int):=by
 by_cases h0:0≤v
 ·obtain ⟨k,rfl⟩:∃ k:Nat,v=(k:Int):=⟨v.toNat,by omega⟩
  rw [idx_nat] at h
  obtain ⟨hk,_⟩:=List.getElem?_eq_some_iff.mp h
  exact ⟨h0,by omega⟩
 ·unfold idx at h
  rw [dF h0] at h;cases h
theorem idx_lt {α:Type} {L:List α} {v:Int} (h0:0≤v) (h1:v < (L.length:Int)):∃ d,idx L v=some d:=by
 obtain ⟨k,rfl⟩:∃ k:Nat,v=(k:Int):=⟨v.toNat,by omega⟩
 exact ⟨L[k]'(by omega),by rw [idx_nat,List.getElem?_eq_getElem]⟩
theorem setL_len {α:Type} (L:List α) {b:Int} (d:α) (h0:0≤b):(setL' L b d).length=L.length:=by
 obtain ⟨k,rfl⟩:∃ k:Nat,b=(k:Int):=⟨b.toNat,by omega⟩
 rw [setL'_nat];simp
theorem idx_set {α:Type} {L:List α} {b:Int} {d:α} (h0:0≤b) (h1:b < (L.length:Int)) (v:Int):idx (setL' L b d) v=if v=b then some d else idx L v:=by
 obtain ⟨k,rfl⟩:∃ k:Nat,b=(k:Int):=⟨b.toNat,by omega⟩
 rw [setL'_nat]
 by_cases hv:0≤v
 ·obtain ⟨j,rfl⟩:∃ j:Nat,v=(j:Int):=⟨v.toNat,by omega⟩
  rw [idx_nat,idx_nat,List.getElem?_set]
  by_cases e:k=j
  ·subst e;simp;omega
  ·rw [if_neg e,if_neg (by omega)]
 ·rw [if_neg (by omega)]
  unfold idx
  rw [dF hv];rfl
def er (back:Bool) (x:T2):Int × Int:=(bif back then x.To else x.From,bif back then x.From else x.To)
def ers (g:T5) (back:Bool):List (Int × Int):=g.Edges.map (er back)
structure Jn (E:List (Int × Int)) (S:Nat) (e da:Int) (out todo:List Int) (mu:Nat):Prop where
 len:out.length=S
 lo:∀ v d,idx out v=some d→-1≤d∧d≤da+1
 ub:∀ v d,idx out v=some d→d+(out.count (-1):Nat)+1≤(S:Int)
 root:idx out e=some 0
 zero:∀ v,idx out v=some 0→v=e
 pred:∀ v d,idx out v=some d→0 < d→∃ u,(u,v)∈E∧idx out u=some (d-1)
 todo_in:∀ v∈todo,∃ d,idx out v=some d∧da≤d∧0≤d
 sorted:todo.Pairwise (fun x y=>∀ dx dy,idx out x=some dx→idx out y=some dy→dx≤dy)
 proc:∀ u v d,(u,v)∈E→idx out u=some d→0≤d→u ∉ todo→∃ d',idx out v=some d'∧0≤d'∧d'≤d+1
 mu_eq:out.count (-1)+todo.length=mu
variable {N:Nat}
structure Dist (E:List (Int × Int)) (S:Nat) (e:Int) (L:List Int):Prop where
 len:L.length=S
 lo:∀ v d,idx L v=some d→-1≤d∧d < (S:Int)
 root:idx L e=some 0
 zero:∀ v,idx L v=some 0→v=e
 pred:∀ v d,idx L v=some d→0 < d→∃ u,(u,v)∈E∧idx L u=some (d-1)
 succ:∀ u v d,(u,v)∈E→idx L u=some d→0≤d→∃ d',idx L v=some d'∧0≤d'∧d'≤d+1
end Gp
end
section
namespace Gp
open Go Go.Kx Gx
variable {N:Nat}
end Gp
end
section
namespace Gp
open Go Go.Kx Gx
variable {N:Nat}
def posV (L:List Int):Bool := !(L.any fun d=>d==-1)
structure Rc (S:Nat) (F:List Int) (n:Int) (R:List Bool):Prop where
 len:R.length=S
 sound:∀ v,idx R v=some true→∃ d,idx F v=some d∧0≤d
 full:∀ v d,idx F v=some d→0≤d→d≤n→idx R v=some true
theorem Rc.set {S:Nat} {F:List Int} {n:Int} {R:List Bool} (h:Rc S F n R) {v:Int} {b:Bool} (v0:0≤v) (v1:v < (S:Int)) (hb:b=true→∃ d,idx F v=some d∧0≤d) (hm:idx R v=some true→b=true):Rc S F n (setL' R v b):=by
 have hset:=fun w=>idx_set (L:=R) (d:=b) v0 (by rw [h.len];exact v1) w
 refine ⟨by rw [setL_len _ _ v0,h.len],?_,?_⟩
 ·intro w hw
  rw [hset] at hw
  split at hw
  ·rename_i hc;subst hc;exact hb (Option.some.inj hw)
  ·exact h.sound w hw
 ·intro w d hw h0 h1
  rw [hset]
  split
  ·rename_i hc;subst hc
   rw [hm (h.full _ _ hw h0 h1)]
  ·exact h.full w d hw h0 h1
end Gp
end
section
namespace Gp
open Go Go.Kx Gx
def mkB (l:List UInt8):ByteArray:=⟨l.toArray⟩
theorem bs_mkB (l:List UInt8):bs (mkB l)=l:=by simp [bs,mkB]
theorem mkB_bs (s:ByteArray):mkB (bs s)=s:=bs_inj (bs_mkB _)
theorem bs_extract (s:ByteArray) (a b:Nat):bs (s.extract a b)=((bs s).take b).drop a:=by
 unfold bs
 rw [ByteArray.data_extract,Array.toList_extract]
 simp [List.extract,List.drop_take]
theorem ssl_mid {s:ByteArray} {x y z:List UInt8} {i j:Int} (h:bs s=x++(y++z)) (hi:i=(x.length:Int)) (hj:j=((x.length+y.length:Nat):Int)):ssl s (some i) (some j)=some (mkB y):=by
 subst hi hj
 have q1:decide ((0:Int)≤(x.length:Int))=true:=by simp
 have q2:decide ((x.length:Int)≤((x.length+y.length:Nat):Int))=true:=by simp;omega
 have q3:decide (((x.length+y.length:Nat):Int)≤(s.size:Int))=true:=by rw [size_bs,h];simp;omega
 unfold ssl bnd
 simp only [Option.getD_some,q1,q2,q3,Bool.and_self,cT,Option.map_some,Int.toNat_natCast]
 congr 1
 apply bs_inj
 rw [bs_extract,bs_mkB,h,← aA,List.take_append_of_le_length (by simp),List.take_of_length_le (by simp)]
 simp
theorem ssl_to {s:ByteArray} {x y:List UInt8} {j:Int} (h:bs s=x++y) (hj:j=(x.length:Int)):ssl s none (some j)=some (mkB x):=by
 have e:ssl s none (some j)=ssl s (some 0) (some j):=rfl
 rw [e]
 exact ssl_mid (x:=[]) (y:=x) (z:=y) (by rw [h];rfl) rfl (by rw [hj];simp)
theorem ssl_from {s:ByteArray} {x y:List UInt8} {i:Int} (h:bs s=x++y) (hi:i=(x.length:Int)):ssl s (some i) none=some (mkB y):=by
 have e:ssl s (some i) none=ssl s (some i) (some (s.size:Int)):=rfl
 rw [e]
 exact ssl_mid (x:=x) (y:=y) (z:=[]) (by rw [h];simp) hi (by rw [size_bs,h];simp)
theorem indexB_some {l:List UInt8} {c:UInt8} (h:0 < l.count c):∃ p q,l=p++c::q∧p.count c=0∧Go.Lib.indexByte l c=(p.length:Int):=by
 induction l with
 | nil=>simp at h
 | cons b l ih =>
  cases hc:(b==c)
  ·rw [List.count_cons,hc] at h
   obtain ⟨p,q,h1,h2,h3⟩:=ih (by simpa using h)
   refine ⟨b::p,q,by rw [h1];rfl,by rw [List.count_cons,h2,hc];rfl,?_⟩
   unfold Go.Lib.indexByte
   rw [hc,h3,show ((p.length:Int)==-1)=false by simp]
   simp
  ·have:b=c:=by simpa using hc
   subst this
   exact ⟨[],l,rfl,by simp,by unfold Go.Lib.indexByte;rw [hc];rfl⟩
def splitA (acc:List UInt8):List UInt8→List (List UInt8)
 | []=>[acc]
 | c::l=>if c=46 then acc::splitA [] l else splitA (acc++[c]) l
theorem splitA_cons (acc:List UInt8) (c:UInt8) (l:List UInt8):splitA acc (c::l)=if c=46 then acc::splitA [] l else splitA (acc++[c]) l:=rfl
theorem splitA_none:∀ (l acc:List UInt8),l.count 46=0→splitA acc l=[acc++l]
 | [],acc,_=>by simp [splitA]
 | c::l,acc,h=>by
  rw [List.count_cons] at h
  have hc:¬ c=46:=by intro hc;subst hc;simp at h
  rw [splitA_cons,if_neg hc,splitA_none l _ (by omega)];simp
theorem splitA_some:∀ (p acc q:List UInt8),p.count 46=0→splitA acc (p++46::q)=(acc++p)::splitA [] q
 | [],acc,q,_=>by rw [List.nil_append,splitA_cons,if_pos rfl,List.append_nil]
 | c::p,acc,q,h=>by
  rw [List.count_cons] at h
  have hc:¬ c=46:=by intro hc;subst hc;simp at h
  show splitA acc (c::(p++46::q))=_
  rw [splitA_cons,if_neg hc,splitA_some p _ q (by omega)];simp
theorem splitA_len:∀ (l acc:List UInt8),(splitA acc l).length=l.count 46+1
 | [],acc=>by simp [splitA]
 | c::l,acc=>by
  rw [splitA_cons,List.count_cons]
  split
  ·rename_i h;subst h
   rw [List.length_cons,splitA_len l];simp
  ·rename_i h
   rw [splitA_len l];simp [h]
variable {N:Nat}
theorem index_eq (s:ByteArray):z311 N s (str [46])=some (Go.Lib.indexByte (bs s) 46):=by
 unfold z311 z321
 have h1:(((str [46]).size:Int)==0)=false:=rfl
 have h2:(((str [46]).size:Int)==1)=true:=rfl
 have h3:sidx (str [46]) (0:Int)=some 46:=by
  rw [show (0:Int)=((0:Nat):Int) from rfl,sidx_bs];rfl
 rw [h1,h2,h3]
 simp only [cT,cF,bS,z325]
 have hf:firstB s 46=Go.Lib.indexByte (bs s) 46:=Go.Lib.firstIdx_eq s 46
 rw [hf,toList_bs,toList_bs]
 cases he:(bs (str [46])==bs s)
 ·rfl
 ·have he:bs (str [46])=bs s:=eq_of_beq he
  rw [← he];rfl
theorem count_eq (s:ByteArray):z310 N s (str [46])=some (((bs s).count 46:Nat):Int):=by
 unfold z310
 have h1:(((str [46]).size:Int)==0)=false:=rfl
 have h2:(((str [46]).size:Int)==1)=true:=rfl
 have h3:sidx (str [46]) (0:Int)=some 46:=by
  rw [show (0:Int)=((0:Nat):Int) from rfl,sidx_bs];rfl
 rw [h1,h2,h3]
 simp only [cT,cF,bS]
 congr 1
 unfold countB
 rw [show s.foldl (fun (n:Int) x=>if x==Kx.byteOf 46 then n+1 else n) ((0:Nat):Int)=(bs s).foldl (fun (n:Int) x=>if x==Kx.byteOf 46 then n+1 else n) ((0:Nat):Int) from Go.Lib.foldl_data _ _ _,Go.Lib.count_foldl]
 simp [Go.Lib.countByte,Kx.byteOf]
theorem gen_loop (s sep:ByteArray) (hsep:sep=str [46]) (cnt:Nat) (hc:cnt≤s.size) (hs:s.size≤4194304) :
  ∀ (n:Nat) (cur:ByteArray) (D R:List ByteArray),(bs cur).count 46 < n→(bs cur).length≤4194304→D.length+(bs cur).count 46=cnt→R.length=(bs cur).count 46+1 →
  z291_l2 N s sep (0:Int) ((cnt+1:Nat):Int) n cur (D++R) (D.length:Int)=some (D++(splitA [] (bs cur)).map mkB):=by
 subst hsep
 intro n
 induction n with
 | zero=>intro cur D R h;omega
 | succ n ih =>
  intro cur D R hn hcur hD hR
  have hw:w64 ((s.size:Int)+1)=((s.size+1:Nat):Int):=w64_succ (by omega)
  have hmin:minI ((cnt+1:Nat):Int) ((s.size+1:Nat):Int)=((cnt+1:Nat):Int):=by unfold minI;rw [if_neg (by omega)]
  have hw2:w64 (((cnt+1:Nat):Int)-1)=(cnt:Int):=by rw [w64_id (by omega) (by omega)];omega
  have fin:(bs cur).count 46=0→z291_k1 cur (D++R) (D.length:Int)=some (D++(splitA [] (bs cur)).map mkB):=by
   intro h0
   rw [h0] at hR
   obtain ⟨r,rfl⟩:=List.length_eq_one_iff.mp hR
   unfold z291_k1
   rw [idx_mid (A:=D) (x:=r) (B:=[]) rfl rfl,bS,setL'_mid (A:=D) (x:=r) (B:=[]) rfl rfl,w64_succ (by omega),lsl_to (A:=D++[cur]) (B:=[]) (by simp) (by simp),splitA_none _ _ h0]
   simp [mkB_bs]
  by_cases hlt:D.length < cnt
  ·have hd:decide ((D.length:Int) < (cnt:Int))=true:=by simp;omega
   obtain ⟨p,q,e1,e2,e3⟩:=indexB_some (l:=bs cur) (c:=46) (by omega)
   have hlen:(bs cur).length=p.length+(q.length+1):=by rw [e1];simp
   have hcnt:(bs cur).count 46=q.count 46+1:=by rw [e1,List.count_append,List.count_cons,e2];simp
   obtain ⟨r,R',rfl⟩:∃ r R',R=r::R':=by
    cases R with
    | nil=>simp at hR
    | cons r R'=>exact ⟨r,R',rfl⟩
   simp only [List.length_cons] at hR
   have hneg:decide ((p.length:Int) < 0)=false:=by simp
   have wp:w64 ((p.length:Int)+0)=(p.length:Int):=by rw [w64_id (by omega) (by omega)];omega
   have wp1:w64 ((p.length:Int)+((str [46]).size:Int))=((p++[46]:List UInt8).length:Int):=by
    rw [show ((str [46]).size:Int)=1 from rfl,w64_succ (by omega)];simp
   simp only [z291_l2,hw,hmin,hw2,hd,cT,index_eq,e3,bS,hneg,cF,wp,wp1]
   rw [ssl_to e1 rfl,bS,idx_mid (A:=D) (x:=r) (B:=R') rfl rfl,bS,ssl_from (x:=p++[46]) (y:=q) (by rw [e1];simp) rfl,bS,setL'_mid (A:=D) (x:=r) (B:=R') rfl rfl,w64_succ (by omega)]
   have:=ih (mkB q) (D++[mkB p]) R' (by rw [bs_mkB];omega) (by rw [bs_mkB];omega) (by rw [bs_mkB];simp;omega) (by rw [bs_mkB];omega)
   rw [bs_mkB] at this
   rw [show ((D.length+1:Nat):Int)=((D++[mkB p]).length:Int) by simp,show D++mkB p::R'=(D++[mkB p])++R' by simp,this,e1,splitA_some _ _ _ e2]
   simp
  ·have hd:decide ((D.length:Int) < (cnt:Int))=false:=by simp;omega
   simp only [z291_l2,hw,hmin,hw2,hd,cF]
   exact fin (by omega)
theorem split_eq (hN:4194304 < N) (s:ByteArray) (hs:s.size≤1000000):z265 N s (str [46])=some ((splitA [] (bs s)).map mkB):=by
 unfold z265 z291
 have h0:((-1:Int)==0)=false:=rfl
 have h1:((str [46]).toList==(str []).toList)=false:=by rw [toList_bs,toList_bs];rfl
 have h2:decide ((-1:Int) < 0)=true:=rfl
 have hcl:(bs s).count 46≤(bs s).length:=List.count_le_length
 rw [h0,h1,h2,count_eq]
 simp only [cT,cF,bS,z291_k3]
 rw [size_bs] at hs
 rw [w64_succ (by omega)]
 have hw:w64 ((s.size:Int)+1)=((s.size+1:Nat):Int):=w64_succ (by rw [size_bs];omega)
 have hmin:minI (((bs s).count 46+1:Nat):Int) ((s.size+1:Nat):Int)=(((bs s).count 46+1:Nat):Int):=by unfold minI;rw [if_neg (by rw [size_bs];omega)]
 have m:mkL (str []) (((bs s).count 46+1:Nat):Int) (((bs s).count 46+1:Nat):Int)=some (List.replicate ((bs s).count 46+1) (str [])):=by
  unfold mkL
  have q1:decide ((0:Int)≤(((bs s).count 46+1:Nat):Int))=true:=by simp;omega
  have q2:decide ((((bs s).count 46+1:Nat):Int)≤4294967296)=true:=by simp;omega
  simp only [q1,q2,Int.le_refl,decide_true,Bool.and_self,cT]
  simp
 rw [hw,hmin,m,bS]
 have:=gen_loop (N:=N) s (str [46]) rfl ((bs s).count 46) (by rw [size_bs];omega) (by rw [size_bs];omega) N s [] (List.replicate ((bs s).count 46+1) (str [])) (by omega) (by omega) (by simp) (by simp)
 rw [List.nil_append] at this
 have this':z291_l2 N s (str [46]) (0:Int) (((bs s).count 46+1:Nat):Int) N s (List.replicate ((bs s).count 46+1) (str [])) (0:Int)=some ([]++(splitA [] (bs s)).map mkB):=this
 rw [this'];simp
def pathV (s:ByteArray):Bool:=decide (s.size≤50) && (splitA [] (bs s)).all fun p=>isWord (mkB p)
theorem piece_len:∀ (l acc:List UInt8),∀ p∈splitA acc l,p.length≤acc.length+l.length
 | [],acc,p,h=>by simp [splitA] at h;subst h;simp
 | c::l,acc,p,h=>by
  rw [splitA_cons] at h
  split at h
  ·rcases List.mem_cons.mp h with h | h
   ·subst h;simp
   ·have:=piece_len l [] p h;simp at this;simp;omega
  ·have:=piece_len l _ p h;simp at this;simp;omega
theorem path_eq (hN:4194304 < N) (s:ByteArray):z217 N s=some (pathV s):=by
 unfold z217 pathV
 by_cases h:s.size≤50
 ·rw [dT (show (s.size:Int)≤50 by omega),dT h,cT,split_eq hN s (by omega),bS]
  unfold z264_1 z290_0
  have hl:(splitA [] (bs s)).length≤51:=by
   rw [splitA_len]
   have:(bs s).count 46≤(bs s).length:=List.count_le_length
   rw [size_bs] at h;omega
  rw [look ((splitA [] (bs s)).map mkB) (by simp;omega) (fun x k r=>bif !(isWord x) then some k else r) (z290_0_l2 N ((splitA [] (bs s)).map mkB)) (some (-1)) hN]
  ·obtain ⟨i,h1,h2⟩:=whereV_any (fun x => !(isWord x)) ((splitA [] (bs s)).map mkB) 0
   rw [h1,bS,h2,bS,List.any_map,List.not_any_eq_all_not]
   simp [Function.comp_def]
  ·intro n k x hk hx
   have hx':=List.mem_of_getElem? hx
   obtain ⟨p,hp,rfl⟩:=List.mem_map.mp hx'
   have hpl:=piece_len _ _ p hp
   have hw:=(word_eq hN (mkB p) (by rw [size_bs,bs_mkB];rw [size_bs] at h;simp at hpl;omega)).1
   simp only [z290_0_l2,lt_t hk,idx_nat,hx,cT,bS,z266,hw]
  ·intro n k hk
   simp only [z290_0_l2,lt_f hk,cF,z290_0_k1]
 ·rw [dF (show ¬ (s.size:Int)≤50 by omega),dF h];rfl
theorem refPath_loop (hN:4194304 < N) (s:ByteArray) (hs:s.size≤4194304):∀ (n:Nat) (x acc l:List UInt8) (i j:Int),l.length+1 < n→bs s=x++(acc++l)→i=(x.length:Int)→j=((x.length+acc.length:Nat):Int) →
  z173_l2 N s n i j=bif (splitA acc l).all fun p=>isWord (mkB p) then z173_k1 s else some false:=by
 intro n
 induction n with
 | zero=>intro x acc l i j h;omega
 | succ n ih =>
  intro x acc l i j hn he hi hj
  have hsz:s.size=x.length+(acc.length+l.length):=by rw [size_bs,he];simp
  have hle:decide (j≤(s.size:Int))=true:=by simp;omega
  have hw:=(word_eq hN (mkB acc) (by rw [size_bs,bs_mkB];omega)).2
  have wj:w64 (j+1)=((x.length+acc.length+1:Nat):Int):=by rw [hj];exact w64_succ (by omega)
  cases l with
  | nil =>
   have hend:(j==(s.size:Int))=true:=by simp at hsz;simp;omega
   obtain ⟨n,rfl⟩:∃ m,n=m+1:=⟨n-1,by simp at hn;omega⟩
   have hgt:decide (w64 (j+1)≤(s.size:Int))=false:=by rw [wj];simp at hsz;simp;omega
   unfold z173_l2
   rw [hle,cT,hend,cT]
   unfold z173_k3
   rw [cT,ssl_mid he hi hj,bS]
   unfold z235
   rw [hw]
   simp only [bS,splitA,List.all_cons,List.all_nil,Bool.and_true]
   cases isWord (mkB acc)
   ·rfl
   ·simp only [Bool.not_true,cF,cT]
    unfold z173_l2
    rw [hgt];rfl
  | cons c l =>
   have hne:(j==(s.size:Int))=false:=by simp at hsz;simp;omega
   have hgc:sidx s j=some (c.toNat:Int):=by
    rw [hj,sidx_bs,get_at (A:=x++acc) (x:=c) (B:=l) (by rw [he];simp) (by simp)];rfl
   unfold z173_l2
   rw [hle,cT,hne,cF,hgc,bS]
   by_cases hc:c=46
   ·subst hc
    have hb:(((46:UInt8).toNat:Int)==46)=true:=rfl
    rw [hb]
    unfold z173_k3
    rw [cT,ssl_mid he hi hj,bS]
    unfold z235
    rw [hw]
    have e0:splitA acc (46::l)=acc::splitA [] l:=by rw [splitA_cons,if_pos rfl]
    rw [e0,List.all_cons]
    simp only [bS]
    cases isWord (mkB acc)
    ·rfl
    ·simp only [Bool.not_true,cF,Bool.true_and]
     rw [wj]
     exact ih (x++acc++[46]) [] l _ _ (by simp at hn;omega) (by rw [he];simp) (by simp;omega) (by simp;omega)
   ·have hb:((c.toNat:Int)==46)=false:=by
     rw [beq_eq_false_iff_ne]
     intro h
     apply hc
     apply UInt8.toNat_inj.mp
     show c.toNat=46
     omega
    rw [hb]
    unfold z173_k3
    have e0:splitA acc (c::l)=splitA (acc++[c]) l:=by rw [splitA_cons,if_neg hc]
    rw [cF,wj,e0]
    exact ih x (acc++[c]) l _ _ (by simp at hn;omega) (by rw [he];simp) hi (by simp;omega)
theorem refPath_eq (hN:4194304 < N) (s:ByteArray) (hs:s.size≤4000000):z173 N s=some (pathV s):=by
 unfold z173
 rw [refPath_loop hN s (by omega) N [] [] (bs s) (0:Int) (0:Int) (by rw [size_bs] at hs;omega) rfl rfl rfl]
 unfold z173_k1 pathV
 by_cases h:s.size≤50
 ·rw [dT (show (s.size:Int)≤50 by omega),dT h]
  cases (splitA [] (bs s)).all fun p=>isWord (mkB p)<;>rfl
 ·rw [dF (show ¬ (s.size:Int)≤50 by omega),dF h]
  cases (splitA [] (bs s)).all fun p=>isWord (mkB p)<;>rfl
end Gp
end
section
namespace Gp
open Go Go.Kx Gx
variable {N:Nat}
def flat (l:List T0):List T4:=(l.map fun d=>d.Fields).flatten
theorem flat_cons (x:T0) (l:List T0):flat (x::l)=x.Fields++flat l:=rfl
theorem flat_app (a b:List T0):flat (a++b)=flat a++flat b:=by simp [flat]
theorem flat_le (l:List T0) (h:∀ d∈l,SizeD d):(flat l).length≤l.length * 4194304:=by
 induction l with
 | nil=>simp [flat]
 | cons x l ih =>
  rw [flat_cons,lA,List.length_cons]
  have:=(h x (by simp)).f
  have:=ih (fun d hd=>h d (by simp [hd]))
  omega
theorem take_drop_cons {α:Type} {xs l:List α} {k:Nat} {x:α} (h:xs.drop k=x::l):xs.take (k+1)=xs.take k++[x]:=by
 obtain ⟨a,c,d⟩:=drop_cons h
 rw [List.take_add_one,c];rfl
theorem fields_loop (l:List T0) (hs:(flat l).length≤4294967296) (hl:l.length≤4194304) :
  ∀ (m:List T0) (k n:Nat) (acc:List T4),l.drop k=m→m.length < n→acc=flat (l.take k)→z158_l2 l n acc (k:Int)=some (flat l):=by
 intro m
 induction m with
 | nil =>
  intro k n acc h hn ha
  obtain ⟨n,rfl⟩:∃ m,n=m+1:=⟨n-1,by simp at hn;omega⟩
  have hk:=drop_nil h
  simp only [z158_l2,lt_f hk,cF,z158_k1]
  rw [ha,List.take_of_length_le hk]
 | cons x m ih =>
  intro k n acc h hn ha
  obtain ⟨n,rfl⟩:∃ m,n=m+1:=⟨n-1,by simp at hn;omega⟩
  obtain ⟨a,c,d⟩:=drop_cons h
  have ht:=take_drop_cons h
  have hcut:flat l=flat (l.take (k+1))++flat (l.drop (k+1)):=by rw [← flat_app,List.take_append_drop]
  have hle:acc.length+x.Fields.length≤4294967296:=by
   rw [hcut,ht,flat_app,lA,lA,← ha] at hs
   have:(flat [x]).length=x.Fields.length:=by simp [flat]
   omega
  simp only [z158_l2,lt_t a,cT,idx_nat,c,bS]
  rw [appL_some hle,bS,w64_succ (by omega)]
  refine ih (k+1) n _ d (by simp at hn;omega) ?_
  rw [ht,flat_app,← ha];simp [flat]
theorem fields_eq (hN:4194304 < N) (l:List T0) (hl:l.length≤1000) (hd:∀ d∈l,SizeD d):z158 N l=some (flat l):=by
 unfold z158
 exact fields_loop l (by have:=flat_le l hd;omega) (by omega) l 0 N [] rfl (by omega) rfl
theorem vars_loop (l:List T0) (hs:(flat l).length≤4294967296) (hl:l.length≤4194304) :
  ∀ (m:List T0) (k n:Nat) (acc:Int),l.drop k=m→m.length < n→acc=((flat (l.take k)).length:Int)→z104_l2 l n acc (k:Int)=some ((flat l).length:Int):=by
 intro m
 induction m with
 | nil =>
  intro k n acc h hn ha
  obtain ⟨n,rfl⟩:∃ m,n=m+1:=⟨n-1,by simp at hn;omega⟩
  have hk:=drop_nil h
  simp only [z104_l2,lt_f hk,cF,z104_k1]
  rw [ha,List.take_of_length_le hk]
 | cons x m ih =>
  intro k n acc h hn ha
  obtain ⟨n,rfl⟩:∃ m,n=m+1:=⟨n-1,by simp at hn;omega⟩
  obtain ⟨a,c,d⟩:=drop_cons h
  have ht:=take_drop_cons h
  have hcut:flat l=flat (l.take (k+1))++flat (l.drop (k+1)):=by rw [← flat_app,List.take_append_drop]
  have hx:(flat [x]).length=x.Fields.length:=by simp [flat]
  have hle:(flat (l.take k)).length+x.Fields.length≤4294967296:=by
   rw [hcut,ht,flat_app,lA,lA] at hs
   omega
  simp only [z104_l2,lt_t a,cT,idx_nat,c,bS]
  rw [w64_succ (by omega),w64_id (by omega) (by omega)]
  refine ih (k+1) n _ d (by simp at hn;omega) ?_
  rw [ht,flat_app,lA,hx,ha];simp
theorem vars_eq (hN:4194304 < N) (l:List T0) (hl:l.length≤1000) (hd:∀ d∈l,SizeD d):z104 N l=some ((flat l).length:Int):=by
 unfold z104
 exact vars_loop l (by have:=flat_le l hd;omega) (by omega) l 0 N 0 rfl (by omega) rfl
theorem field_loop (l:List T0) (hl:l.length≤4194304) (hd:∀ d∈l,SizeD d) :
  ∀ (m:List T0) (k n i:Nat),l.drop k=m→m.length < n→i < (flat m).length→i≤4294967296→z106_l2 l n (i:Int) (k:Int)=(flat m)[i]? := by
 intro m
 induction m with
 | nil=>intro k n i h hn hi;simp [flat] at hi
 | cons x m ih =>
  intro k n i h hn hi hi2
  obtain ⟨n,rfl⟩:∃ m,n=m+1:=⟨n-1,by simp at hn;omega⟩
  obtain ⟨a,c,d⟩:=drop_cons h
  rw [flat_cons]
  simp only [z106_l2,lt_t a,cT,idx_nat,c,bS]
  by_cases hlt:i < x.Fields.length
  ·rw [lt_t hlt,cT,List.getElem?_append_left hlt,List.getElem?_eq_getElem hlt];rfl
  ·rw [lt_f (by omega),cF,w64_succ (by omega),List.getElem?_append_right (by omega)]
   have hf:=(hd x (List.mem_of_getElem? c)).f
   have hw:w64 ((i:Int)-(x.Fields.length:Int))=((i-x.Fields.length:Nat):Int):=by rw [w64_id (by omega) (by omega)];omega
   rw [hw]
   exact ih (k+1) n _ d (by simp at hn;omega) (by rw [flat_cons,lA] at hi;omega) (by omega)
def textV (fl:List T4) (x:Int):Bool:=match idx fl x with | some f=>f.Sort'.Kind==2 | none=>false
theorem idx_none {α:Type} {L:List α} {v:Int} (h:¬ (0≤v∧v < (L.length:Int))):idx L v=none:=by
 cases hc:idx L v with
 | none=>rfl
 | some d=>exact absurd (idx_some hc) h
theorem text_eq (hN:4194304 < N) (l:List T0) (hl:l.length≤1000) (hd:∀ d∈l,SizeD d) (x:Int):z236 N l x=some (textV (flat l) x):=by
 have hfl:=flat_le l hd
 unfold z236 textV
 rw [vars_eq hN l hl hd]
 by_cases h0:x≥0
 ·rw [dT h0,cT,bS]
  by_cases h1:x < ((flat l).length:Int)
  ·obtain ⟨k,rfl⟩:∃ k:Nat,x=(k:Int):=⟨x.toNat,by omega⟩
   have hk:k < (flat l).length:=by omega
   have hf:z106 N l (k:Int)=(flat l)[k]? := field_loop l (by omega) hd l 0 N k rfl (by omega) hk (by omega)
   rw [dT h1,cT,hf,idx_nat,List.getElem?_eq_getElem hk];rfl
  ·rw [dF h1,idx_none (by omega)];rfl
 ·rw [dF h0,idx_none (by omega)];rfl
def diffOk (n:Int) (d:T1):Prop:=-1≤d.X∧d.X < n∧-1≤d.Y∧d.Y < n∧-20000≤d.C∧d.C≤20000
instance (n:Int) (d:T1):Decidable (diffOk n d):=by unfold diffOk;infer_instance
def guardV (fl:List T4) (g:T6):Bool :=
 decide (g.Diffs.length≤20∧g.Equals.length≤20) && (allV (fun d _=>decide (diffOk (fl.length:Int) d)) g.Diffs 0 && allV (fun e _=>textV fl e.1 && textV fl e.2) g.Equals 0)
theorem guarded_eq (hN:4194304 < N) (g:T6) (fl:List T4):z224 N g fl=some (guardV fl g):=by
 unfold z224 guardV
 by_cases c1:(g.Diffs.length:Int) > 20
 ·rw [dT c1,dF (show ¬ (g.Diffs.length≤20∧g.Equals.length≤20) by omega)];rfl
 by_cases c2:(g.Equals.length:Int) > 20
 ·rw [dF c1,dT c2,dF (show ¬ (g.Diffs.length≤20∧g.Equals.length≤20) by omega)];rfl
 rw [dF c1,dF c2,dT (show g.Diffs.length≤20∧g.Equals.length≤20 by omega)]
 simp only [cF,Bool.true_and]
 rw [allV_from (fun d _=>decide (diffOk (fl.length:Int) d)) (xs:=g.Diffs) (F:=z224_l6 N g fl) (e:=z224_k5 N g fl) (by omega)]
 ·unfold z224_k5
  rw [allV_from (fun e _=>textV fl e.1 && textV fl e.2) (xs:=g.Equals) (F:=z224_l2 N g fl) (e:=some true) (by omega)]
  ·cases allV (fun d _=>decide (diffOk (fl.length:Int) d)) g.Diffs 0<;>cases allV (fun e _=>textV fl e.1 && textV fl e.2) g.Equals 0<;>rfl
  ·intro n k x hk hx
   obtain ⟨m,rfl⟩:∃ m,N=m+3:=⟨N-3,by omega⟩
   have e0:idx ([x.1,x.2]:List Int) (0:Int)=some x.1:=rfl
   have e1:idx ([x.1,x.2]:List Int) (1:Int)=some x.2:=rfl
   have w0:w64 ((0:Int)+1)=1:=by decide
   have w1:w64 ((1:Int)+1)=2:=by decide
   have l0:decide ((0:Int) < 2)=true:=rfl
   have l1:decide ((1:Int) < 2)=true:=rfl
   have l2:decide ((2:Int) < 2)=false:=rfl
   have one:∀ (v:Int) (r:Option Bool),(bif decide (v < (0:Int)) then some false else bif decide (v≥(fl.length:Int)) then some false else (idx fl v).bind fun x143=>bif (x143.Sort'.Kind != (2:Int)) then some false else r)=bif textV fl v then r else some false:=by
    intro v r
    unfold textV
    by_cases h0:v < 0
    ·rw [dT h0,idx_none (by omega)];rfl
    by_cases h1:v≥(fl.length:Int)
    ·rw [dF h0,dT h1,idx_none (by omega)];rfl
    obtain ⟨f,hf⟩:=idx_lt (L:=fl) (v:=v) (by omega) (by omega)
    rw [dF h0,dF h1,hf]
    simp only [cF,bS]
    unfold bne
    cases (f.Sort'.Kind==2)<;>rfl
   have inner:z224_l4 fl (k:Int) (z224_l2 (m+3) g fl n) x (m+3) (0:Int)=bif textV fl x.1 && textV fl x.2 then z224_k3 (k:Int) (z224_l2 (m+3) g fl n) else some false:=by
    simp only [z224_l4,e0,e1,w0,w1,l0,l1,l2,cT,cF,bS]
    rw [one,one]
    cases textV fl x.1<;>cases textV fl x.2<;>rfl
   simp only [z224_l2,lt_t hk,cT,idx_nat,hx,bS,inner,z224_k3]
   rw [w64_succ (by omega)]
  ·intro n k hk
   simp only [z224_l2,lt_f hk,cF,z224_k1]
 ·intro n k x hk hx
  simp only [z224_l6,lt_t hk,idx_nat,hx,cT,bS,w64_succ (show k < 4611686018427387904 by omega)]
  by_cases d1:minI x.X x.Y < -1
  ·rw [dT d1,dF (show ¬ diffOk (fl.length:Int) x by rw [minI_lt] at d1;unfold diffOk;omega)];rfl
  by_cases d2:maxI x.X x.Y≥(fl.length:Int)
  ·rw [dF d1,dT d2,dF (show ¬ diffOk (fl.length:Int) x by rw [maxI_ge] at d2;unfold diffOk;omega)];rfl
  by_cases d3:x.C < -20000
  ·rw [dF d1,dF d2,dT d3,dF (show ¬ diffOk (fl.length:Int) x by unfold diffOk;omega)];rfl
  by_cases d4:x.C > 20000
  ·rw [dF d1,dF d2,dF d3,dT d4,dF (show ¬ diffOk (fl.length:Int) x by unfold diffOk;omega)];rfl
  rw [dF d1,dF d2,dF d3,dF d4,dT (show diffOk (fl.length:Int) x by rw [minI_lt] at d1;rw [maxI_ge] at d2;unfold diffOk;omega)];rfl
 ·intro n k hk
  simp only [z224_l6,lt_f hk,cF]
theorem goodGuard_eq (hN:4194304 < N) (l:List T0) (hl:l.length≤1000) (hd:∀ d∈l,SizeD d) (g:T6) (h1:g.Diffs.length≤4194304) (h2:g.Equals.length≤4194304):z174 N l g=some (guardV (flat l) g):=by
 unfold z174 guardV
 rw [vars_eq hN l hl hd,bS]
 rw [allV_from (fun d _=>decide (diffOk ((flat l).length:Int) d)) (xs:=g.Diffs) (F:=z174_l4 N l g ((flat l).length:Int)) (e:=z174_k3 N l g) (by omega)]
 ·unfold z174_k3
  rw [allV_from (fun e _=>textV (flat l) e.1 && textV (flat l) e.2) (xs:=g.Equals) (F:=z174_l2 N l g) (e:=z174_k1 g) (by omega)]
  ·have hk1:z174_k1 g=some (decide (g.Diffs.length≤20∧g.Equals.length≤20)):=by
    unfold z174_k1
    by_cases c1:(g.Diffs.length:Int)≤20
    ·rw [dT c1,cT]
     congr 1
     rw [decide_eq_decide];omega
    ·rw [dF c1,dF (show ¬ (g.Diffs.length≤20∧g.Equals.length≤20) by omega)];rfl
   rw [hk1]
   cases allV (fun d _=>decide (diffOk ((flat l).length:Int) d)) g.Diffs 0<;>cases allV (fun e _=>textV (flat l) e.1 && textV (flat l) e.2) g.Equals 0<;>cases decide (g.Diffs.length≤20∧g.Equals.length≤20)<;>rfl
  ·intro n k x hk hx
   simp only [z174_l2,lt_t hk,cT,idx_nat,hx,bS,text_eq hN l hl hd,w64_succ (show k < 4611686018427387904 by omega)]
   cases textV (flat l) x.1<;>cases textV (flat l) x.2<;>rfl
  ·intro n k hk
   simp only [z174_l2,lt_f hk,cF]
 ·intro n k x hk hx
  simp only [z174_l4,lt_t hk,idx_nat,hx,cT,bS,w64_succ (show k < 4611686018427387904 by omega)]
  by_cases d1:x.X < -1
  ·rw [dT d1,dF (show ¬ diffOk ((flat l).length:Int) x by unfold diffOk;omega)];rfl
  by_cases d2:x.X≥((flat l).length:Int)
  ·rw [dF d1,dT d2,dF (show ¬ diffOk ((flat l).length:Int) x by unfold diffOk;omega)];rfl
  by_cases d3:x.Y < -1
  ·rw [dF d1,dF d2,dT d3,dF (show ¬ diffOk ((flat l).length:Int) x by unfold diffOk;omega)];rfl
  by_cases d4:x.Y≥((flat l).length:Int)
  ·rw [dF d1,dF d2,dF d3,dT d4,dF (show ¬ diffOk ((flat l).length:Int) x by unfold diffOk;omega)];rfl
  by_cases d5:x.C < -20000
  ·rw [dF d1,dF d2,dF d3,dF d4,dT d5,dF (show ¬ diffOk ((flat l).length:Int) x by unfold diffOk;omega)];rfl
  by_cases d6:x.C > 20000
  ·rw [dF d1,dF d2,dF d3,dF d4,dF d5,dT d6,dF (show ¬ diffOk ((flat l).length:Int) x by unfold diffOk;omega)];rfl
  rw [dF d1,dF d2,dF d3,dF d4,dF d5,dF d6,dT (show diffOk ((flat l).length:Int) x by unfold diffOk;omega)];rfl
 ·intro n k hk
  simp only [z174_l4,lt_f hk,cF]
def sortOk (s:T10):Prop:=(s.Kind=1∧-1000≤s.Lo∧s.Lo≤s.Hi∧s.Hi≤1000)∨(s.Kind=2∧0≤s.Lo∧s.Lo≤s.Hi∧s.Hi≤40)
instance (s:T10):Decidable (sortOk s):=by unfold sortOk;infer_instance
theorem three (a b c:Prop) [Decidable a] [Decidable b] [Decidable c]:(bif decide a then (bif decide b then some (decide c) else some false) else some false)=some (decide (a∧b∧c)):=by
 by_cases ha:a<;>by_cases hb:b<;>simp [ha,hb]
theorem sorted_eq (s:T10):z221 N s=some (decide (sortOk s)):=by
 unfold z221
 rw [three,three]
 by_cases h1:s.Kind=1
 ·rw [show (s.Kind==1)=true by simp [h1],cT];congr 1;rw [decide_eq_decide];unfold sortOk;omega
 ·rw [show (s.Kind==1)=false by simp [h1],cF]
  by_cases h2:s.Kind=2
  ·rw [show (s.Kind==2)=true by simp [h2],cT];congr 1;rw [decide_eq_decide];unfold sortOk;omega
  ·rw [show (s.Kind==2)=false by simp [h2],cF,dF (show ¬ sortOk s by unfold sortOk;omega)]
theorem goodSort_eq (s:T10):z171 N s=some (decide (sortOk s)):=by
 unfold z171 z171_k1
 rw [three,three]
 by_cases h1:s.Kind=1
 ·rw [show (s.Kind==1)=true by simp [h1],show (s.Kind==2)=false by simp [h1]];simp only [cT,cF];congr 1;rw [decide_eq_decide];unfold sortOk;omega
 ·rw [show (s.Kind==1)=false by simp [h1]]
  by_cases h2:s.Kind=2
  ·rw [show (s.Kind==2)=true by simp [h2]];simp only [cT,cF];congr 1;rw [decide_eq_decide];unfold sortOk;omega
  ·rw [show (s.Kind==2)=false by simp [h2]];simp only [cF];rw [dF (show ¬ sortOk s by unfold sortOk;omega)]
end Gp
end
section
namespace Gp
open Go Go.Kx Gx
variable {N:Nat}
structure NameD (x:T0):Prop where
 n:x.Name.size≤4000000
 f:∀ f∈x.Fields,f.Name.size≤4000000
def fieldV (x:T0) (f:T4) (j:Nat):Bool:=isWord f.Name && (decide (sortOk f.Sort') && !((x.Fields.take j).any fun y=>eqStr y.Name f.Name))
def declV (fl:List T4) (l:List T0) (x:T0) (k:Nat):Bool :=
 pathV x.Name && (decide (x.Fields.length≤4) && (decide (x.First=((flat (l.take k)).length:Int)) && (!((l.take k).any fun y=>eqStr y.Name x.Name) && (allV (fieldV x) x.Fields 0 && guardV fl x.Guard))))
def validD (l:List T0):Bool:=decide (l.length≤40) && (decide ((flat l).length≤24) && allV (declV (flat l) l) l 0)
theorem containsD_eq (hN:4194304 < N) (l:List T0) (hl:l.length≤4194304) (x:T0):z218_4 N l x=some (l.any fun y=>eqStr y.Name x.Name):=by
 unfold z218_4 z267_3
 rw [look l hl (fun y k r=>bif eqStr y.Name x.Name then some k else r) (z267_3_l2 N l x) (some (-1)) hN]
 ·obtain ⟨i,h1,h2⟩:=whereV_any (fun y:T0=>eqStr y.Name x.Name) l 0
  rw [h1,bS,h2]
 ·intro n k y hk hy
  simp only [z267_3_l2,lt_t hk,idx_nat,hy,cT,bS,z219_2,eqStr]
 ·intro n k hk
  simp only [z267_3_l2,lt_f hk,cF,z267_3_k1]
theorem containsF_eq (hN:4194304 < N) (l:List T4) (hl:l.length≤4194304) (x:T4):z222_7 N l x=some (l.any fun y=>eqStr y.Name x.Name):=by
 unfold z222_7 z269_6
 rw [look l hl (fun y k r=>bif eqStr y.Name x.Name then some k else r) (z269_6_l2 N l x) (some (-1)) hN]
 ·obtain ⟨i,h1,h2⟩:=whereV_any (fun y:T4=>eqStr y.Name x.Name) l 0
  rw [h1,bS,h2]
 ·intro n k y hk hy
  simp only [z269_6_l2,lt_t hk,idx_nat,hy,cT,bS,z223_5,eqStr]
 ·intro n k hk
  simp only [z269_6_l2,lt_f hk,cF,z269_6_k1]
theorem flat_next {l:List T0} {k:Nat} {x:T0} (h:l[k]? = some x):(flat (l.take (k+1))).length=(flat (l.take k)).length+x.Fields.length:=by
 rw [List.take_add_one,h]
 show (flat (l.take k++[x])).length=_
 rw [flat_app,lA];simp [flat]
theorem flat_take_le (l:List T0) (k:Nat):(flat (l.take k)).length≤(flat l).length:=by
 have:flat l=flat (l.take k)++flat (l.drop k):=by rw [← flat_app,List.take_append_drop]
 rw [this,lA];omega
theorem valid_eq (hN:4194304 < N) (l:List T0) (hl:l.length≤4194304) (hd:∀ d∈l,SizeD d) (hn:∀ d∈l,NameD d):z157 N l=some (validD l):=by
 unfold z157 validD
 by_cases c1:(l.length:Int) > 40
 ·rw [dT c1,dF (show ¬ l.length≤40 by omega)];rfl
 rw [dF c1,dT (show l.length≤40 by omega),fields_eq hN l (by omega) hd]
 simp only [cF,bS,Bool.true_and]
 by_cases c2:((flat l).length:Int) > 24
 ·rw [dT c2,dF (show ¬ (flat l).length≤24 by omega)];rfl
 rw [dF c2,dT (show (flat l).length≤24 by omega)]
 simp only [cF,Bool.true_and]
 have hfl:=flat_le l hd
 have h:=allV_from (declV (flat l) l) (xs:=l) (F:=fun n i=>z157_l2 N l (flat l) n ((flat (l.take i.toNat)).length:Int) i) (e:=some true) (n:=N) (by omega) (by
  intro n k x hk hx
  show z157_l2 N l (flat l) (n+1) ((flat (l.take k)).length:Int) (k:Int)=bif declV (flat l) l x k then z157_l2 N l (flat l) n ((flat (l.take (k+1))).length:Int) ((k+1:Nat):Int) else some false
  have hxm:x∈l:=List.mem_of_getElem? hx
  have sx:=hd x hxm
  have nx:=hn x hxm
  have ht:lsl l none (some (k:Int))=some (l.take k):=lsl_to (A:=l.take k) (B:=l.drop k) (List.take_append_drop k l).symm (by simp;omega)
  have hft:=flat_take_le l k
  have hnext:w64 (((flat (l.take k)).length:Int)+(x.Fields.length:Int))=((flat (l.take (k+1))).length:Int):=by rw [flat_next hx,w64_id (by have:=sx.f;omega) (by have:=sx.f;omega)];omega
  have inner:z157_l4 N (flat l) ((flat (l.take k)).length:Int) (k:Int) (z157_l2 N l (flat l) n) x N (0:Int)=bif allV (fieldV x) x.Fields 0 then z157_k3 N (flat l) ((flat (l.take k)).length:Int) (k:Int) (z157_l2 N l (flat l) n) x else some false:=by
   refine allV_from (fieldV x) (by have:=sx.f;omega) ?_ ?_
   ·intro m j f hj hf
    have sf:=sx.f
    have hw:=(word_eq hN f.Name (by have:=nx.f f (List.mem_of_getElem? hf);omega)).1
    have ht':lsl x.Fields none (some (j:Int))=some (x.Fields.take j):=lsl_to (A:=x.Fields.take j) (B:=x.Fields.drop j) (List.take_append_drop j _).symm (by simp;omega)
    have hc:=containsF_eq hN (x.Fields.take j) (by simp;omega) f
    simp only [z157_l4,lt_t hj,cT,idx_nat,hf,bS,hw,sorted_eq,ht',hc,fieldV]
    rw [w64_succ (by omega)]
    cases isWord f.Name<;>cases decide (sortOk f.Sort')<;>cases ((x.Fields.take j).any fun y=>eqStr y.Name f.Name)<;>rfl
   ·intro m j hj
    simp only [z157_l4,lt_f hj,cF]
  have hc:=containsD_eq hN (l.take k) (by simp;omega) x
  simp only [z157_l2,lt_t hk,cT,idx_nat,hx,bS,path_eq hN,ht,hc,inner,z157_k3,guarded_eq hN,declV,hnext]
  rw [w64_succ (by omega)]
  have e1:decide ((x.Fields.length:Int) > 4) = !decide (x.Fields.length≤4):=by
   by_cases q:x.Fields.length≤4
   ·rw [dT q,dF (by omega)];rfl
   ·rw [dF q,dT (by omega)];rfl
  have e2:(x.First != ((flat (l.take k)).length:Int)) = !decide (x.First=((flat (l.take k)).length:Int)):=by
   by_cases q:x.First=((flat (l.take k)).length:Int)
   ·rw [dT q];simp [q]
   ·rw [dF q];simp [q]
  rw [e1,e2]
  cases pathV x.Name<;>cases decide (x.Fields.length≤4)<;>cases decide (x.First=((flat (l.take k)).length:Int))<;>cases ((l.take k).any fun y=>eqStr y.Name x.Name)<;>cases allV (fieldV x) x.Fields 0<;>cases guardV (flat l) x.Guard<;>rfl) (by
  intro n k hk
  show z157_l2 N l (flat l) (n+1) ((flat (l.take k)).length:Int) (k:Int)=some true
  simp only [z157_l2,lt_f hk,cF,z157_k1])
 have h':z157_l2 N l (flat l) N (0:Int) (0:Int)=bif allV (declV (flat l) l) l 0 then some true else some false:=h
 rw [h']
 cases allV (declV (flat l) l) l 0<;>rfl
theorem allV_not_any {α:Type} (f:α→Bool):∀ (l:List α) (k:Nat),allV (fun y _ => !f y) l k = !(l.any f)
 | [],_=>rfl
 | x::l,k=>by
  show (!f x && allV _ l (k+1))=_
  rw [allV_not_any f l,List.any_cons]
  cases f x<;>rfl
theorem take_get {α:Type} {l:List α} {k i:Nat} {x:α} (h:(l.take k)[i]? = some x):l[i]? = some x∧i < k:=by
 rw [List.getElem?_take] at h
 split at h
 ·exact ⟨h,by assumption⟩
 ·cases h
theorem refValid_eq (hN:4194304 < N) (l:List T0) (hl:l.length≤4194304) (hd:∀ d∈l,SizeD d) (hn:∀ d∈l,NameD d):z101 N l=some (validD l):=by
 unfold z101 validD
 by_cases c1:(l.length:Int) > 40
 ·rw [dT c1,dF (show ¬ l.length≤40 by omega)];rfl
 rw [dF c1,dT (show l.length≤40 by omega),vars_eq hN l (by omega) hd]
 simp only [cF,bS,Bool.true_and]
 by_cases c2:((flat l).length:Int) > 24
 ·rw [dT c2,dF (show ¬ (flat l).length≤24 by omega)];rfl
 rw [dF c2,dT (show (flat l).length≤24 by omega)]
 simp only [cF,Bool.true_and]
 have hfl:=flat_le l hd
 have h:=allV_from (declV (flat l) l) (xs:=l) (F:=fun n i=>z101_l2 N l n ((flat (l.take i.toNat)).length:Int) i) (e:=some true) (n:=N) (by omega) (by
  intro n k x hk hx
  show z101_l2 N l (n+1) ((flat (l.take k)).length:Int) (k:Int)=bif declV (flat l) l x k then z101_l2 N l n ((flat (l.take (k+1))).length:Int) ((k+1:Nat):Int) else some false
  have hxm:x∈l:=List.mem_of_getElem? hx
  have sx:=hd x hxm
  have nx:=hn x hxm
  have hft:=flat_take_le l k
  have hnext:w64 (((flat (l.take k)).length:Int)+(x.Fields.length:Int))=((flat (l.take (k+1))).length:Int):=by rw [flat_next hx,w64_id (by have:=sx.f;omega) (by have:=sx.f;omega)];omega
  have inner8:z101_l8 N l ((flat (l.take k)).length:Int) (k:Int) (z101_l2 N l n) x N (0:Int)=bif allV (fun y _ => !eqStr y.Name x.Name) (l.take k) 0 then z101_k7 N l ((flat (l.take k)).length:Int) (k:Int) (z101_l2 N l n) x else some false:=by
   refine allV_from (fun (y:T0) _ => !eqStr y.Name x.Name) (by simp;omega) ?_ ?_
   ·intro m j y hj hy
    obtain ⟨hy',hjk⟩:=take_get hy
    simp only [z101_l8,lt_t hjk,cT,idx_nat,hy',bS,eqStr]
    rw [w64_succ (by omega)]
    cases (y.Name.toList==x.Name.toList)<;>rfl
   ·intro m j hj
    have:k≤j:=by simp at hj;omega
    simp only [z101_l8,lt_f this,cF]
  have inner4:z101_l4 N l ((flat (l.take k)).length:Int) (k:Int) (z101_l2 N l n) x N (0:Int)=bif allV (fieldV x) x.Fields 0 then z101_k3 N l ((flat (l.take k)).length:Int) (k:Int) (z101_l2 N l n) x else some false:=by
   refine allV_from (fieldV x) (by have:=sx.f;omega) ?_ ?_
   ·intro m j f hj hf
    have sf:=sx.f
    have hw:=(word_eq hN f.Name (by have:=nx.f f (List.mem_of_getElem? hf);omega)).2
    have inner6:z101_l6 x (j:Int) (z101_l4 N l ((flat (l.take k)).length:Int) (k:Int) (z101_l2 N l n) x m) N (0:Int)=bif allV (fun y _ => !eqStr y.Name f.Name) (x.Fields.take j) 0 then z101_k5 (j:Int) (z101_l4 N l ((flat (l.take k)).length:Int) (k:Int) (z101_l2 N l n) x m) else some false:=by
     refine allV_from (fun (y:T4) _ => !eqStr y.Name f.Name) (by simp;omega) ?_ ?_
     ·intro p i y hi hy
      obtain ⟨hy',hij⟩:=take_get hy
      simp only [z101_l6,lt_t hij,cT,idx_nat,hy',hf,bS,eqStr]
      rw [w64_succ (by omega)]
      cases (y.Name.toList==f.Name.toList)<;>rfl
     ·intro p i hi
      have:j≤i:=by simp at hi;omega
      simp only [z101_l6,lt_f this,cF]
    simp only [z101_l4,lt_t hj,cT,idx_nat,hf,bS,hw,goodSort_eq,inner6,fieldV,z101_k5,allV_not_any]
    rw [w64_succ (by omega)]
    cases isWord f.Name<;>cases decide (sortOk f.Sort')<;>cases ((x.Fields.take j).any fun y=>eqStr y.Name f.Name)<;>rfl
   ·intro m j hj
    simp only [z101_l4,lt_f hj,cF]
  have hg:=goodGuard_eq hN l (by omega) hd x.Guard sx.d sx.e
  simp only [z101_l2,lt_t hk,cT,idx_nat,hx,bS,inner8,inner4,z101_k7,z101_k3,refPath_eq hN x.Name nx.n,hg,declV,hnext,allV_not_any]
  rw [w64_succ (by omega)]
  have e1:decide ((x.Fields.length:Int) > 4) = !decide (x.Fields.length≤4):=by
   by_cases q:x.Fields.length≤4
   ·rw [dT q,dF (by omega)];rfl
   ·rw [dF q,dT (by omega)];rfl
  have e2:(x.First != ((flat (l.take k)).length:Int)) = !decide (x.First=((flat (l.take k)).length:Int)):=by
   by_cases q:x.First=((flat (l.take k)).length:Int)
   ·rw [dT q];simp [q]
   ·rw [dF q];simp [q]
  rw [e1,e2]
  cases pathV x.Name<;>cases decide (x.Fields.length≤4)<;>cases decide (x.First=((flat (l.take k)).length:Int))<;>cases ((l.take k).any fun y=>eqStr y.Name x.Name)<;>cases allV (fieldV x) x.Fields 0<;>cases guardV (flat l) x.Guard<;>rfl) (by
  intro n k hk
  show z101_l2 N l (n+1) ((flat (l.take k)).length:Int) (k:Int)=some true
  simp only [z101_l2,lt_f hk,cF,z101_k1])
 have h':z101_l2 N l N (0:Int) (0:Int)=bif allV (declV (flat l) l) l 0 then some true else some false:=h
 rw [h']
 cases allV (declV (flat l) l) l 0<;>rfl
end Gp
end
section
namespace Gp
open Go Go.Kx Gx
variable {N:Nat}
structure SizeN (g:T5):Prop where
 n:g.Name.size≤4000000
 r:∀ s∈g.Roles,s.size≤4000000
 d:∀ x∈g.Decls,NameD x
def roleV (g:T5) (s:ByteArray) (i:Nat):Bool:=isWord s && !((g.Roles.take i).any fun y=>eqStr y s)
def namedV (g:T5):Bool:=isWord g.Name && (decide (1≤g.Roles.length∧g.Roles.length≤6) && allV (roleV g) g.Roles 0)
theorem bounds_l2 (d:T0) (hd:d.Guard.Equals.length≤4194304):∀ (l:List (Int × Int)) (k n:Nat) (acc:List T1),d.Guard.Equals.drop k=l→l.length < n→acc.length+2 * l.length≤4294967296→∃ r,z168_l2 d n acc (k:Int)=some r:=by
 intro l
 induction l with
 | nil =>
  intro k n acc h hn _
  obtain ⟨n,rfl⟩:∃ m,n=m+1:=⟨n-1,by simp at hn;omega⟩
  exact ⟨acc,by simp only [z168_l2,lt_f (drop_nil h),cF,z168_k1]⟩
 | cons x l ih =>
  intro k n acc h hn ha
  obtain ⟨n,rfl⟩:∃ m,n=m+1:=⟨n-1,by simp at hn;omega⟩
  obtain ⟨a,c,e⟩:=drop_cons h
  simp only [List.length_cons] at ha hn
  simp only [z168_l2,lt_t a,cT,idx_nat,c,bS]
  rw [appL_some (by simp;omega),bS,w64_succ (by omega)]
  exact ih (k+1) n _ e (by omega) (by simp;omega)
theorem bounds_l4 (hN:4194304 < N) (d:T0) (hd:SizeD d):∀ (l:List T4) (k n:Nat) (acc:List T1),d.Fields.drop k=l→l.length < n→acc.length+2 * l.length≤16777216→∃ r,z168_l4 N d n acc (k:Int)=some r:=by
 intro l
 have h1:=hd.f
 have h2:=hd.d
 have h3:=hd.e
 induction l with
 | nil =>
  intro k n acc h hn ha
  obtain ⟨n,rfl⟩:∃ m,n=m+1:=⟨n-1,by simp at hn;omega⟩
  simp only [z168_l4,lt_f (drop_nil h),cF,z168_k3]
  simp at ha
  rw [appL_some (by omega),bS]
  exact bounds_l2 d h3 d.Guard.Equals 0 N _ rfl (by omega) (by simp;omega)
 | cons x l ih =>
  intro k n acc h hn ha
  obtain ⟨n,rfl⟩:∃ m,n=m+1:=⟨n-1,by simp at hn;omega⟩
  obtain ⟨a,c,e⟩:=drop_cons h
  simp only [List.length_cons] at ha hn
  simp only [z168_l4,lt_t a,cT,idx_nat,c,bS]
  rw [appL_some (by simp;omega),bS,w64_succ (by omega)]
  exact ih (k+1) n _ e (by omega) (by simp;omega)
structure ValidG (g:T5):Prop where
 named:namedV g=true
 num:numV g=true
 decls:validD g.Decls=true
 apart:apartV g=true
 noEnd:(g.Edges.all fun x => !(x.From==g.End))=true
 time:timeV g=true
 reach:∃ F,Dist (ers g false) g.States.toNat g.Start F∧posV F=true
 ends:∃ L,Dist (ers g true) g.States.toNat g.End L∧posV L=true
end Gp
end
section
namespace Gp
open Go Go.Kx Gx
variable {N:Nat}
theorem few_loop (l:List T0) (hl:l.length≤4194304):∀ (r:List T0) (n k:Nat) (a:Int),l.drop k=r→r.length < n→∃ b,z92_l2 l n a (k:Int)=some b∧(b=true→l.length≤60):=by
 intro r
 induction r with
 | nil =>
  intro n k a h hn
  obtain ⟨n,rfl⟩:∃ m,n=m+1:=⟨n-1,by simp at hn;omega⟩
  unfold z92_l2
  rw [lt_f (drop_nil h)]
  simp only [cF,z92_k1]
  by_cases h1:l.length≤60
  ·have:decide ((l.length:Int)≤60)=true:=by simp;omega
   rw [this]
   exact ⟨_,rfl,fun _=>h1⟩
  ·have:decide ((l.length:Int)≤60)=false:=by simp;omega
   rw [this]
   exact ⟨false,rfl,fun h=>by cases h⟩
 | cons x r ih =>
  intro n k a h hn
  obtain ⟨n,rfl⟩:∃ m,n=m+1:=⟨n-1,by simp at hn;omega⟩
  obtain ⟨h1,h2,h3⟩:=drop_cons h
  unfold z92_l2
  rw [lt_t h1,w64_succ (by omega)]
  simp only [cT,idx_nat,h2,bS]
  exact ih n (k+1) _ h3 (by simp at hn;omega)
end Gp
end
section
namespace Gp
open Go Go.Kx Gx
variable {N:Nat}
def badB (b:UInt8):Bool:=decide (b.toNat < 32) || decide (126 < b.toNat)
theorem get_bs (s:ByteArray) (i:Nat) (h:i < (bs s).length):s.get! i=(bs s)[i]:=by
 have h':i < s.data.size:=by simpa [bs] using h
 show s.data[i]! = _
 rw [getElem!_pos s.data i h']
 simp [bs]
theorem decode_lo (s:ByteArray) (i:Nat) (b:UInt8) (h:(bs s)[i]? = some b) (hb:b.toNat < 128):Utf8.decode s i=(b.toNat,1):=by
 obtain ⟨hi,he⟩:=List.getElem?_eq_some_iff.1 h
 have h0:s.get! (i+0)=b:=by rw [Nat.add_zero,get_bs s i hi,he]
 unfold Utf8.decode
 simp only [h0,hb,if_true]
theorem decode_hi (s:ByteArray) (i:Nat) (b:UInt8) (h:(bs s)[i]? = some b) (hb:¬ b.toNat < 128):126 < (Utf8.decode s i).1:=by
 obtain ⟨hi,he⟩:=List.getElem?_eq_some_iff.1 h
 have h0:s.get! (i+0)=b:=by rw [Nat.add_zero,get_bs s i hi,he]
 unfold Utf8.decode Utf8.runeError
 simp only [h0,hb,if_false]
 split
 ·split
  ·simp only [];omega
  ·simp only [];omega
 ·split
  ·split
   ·rename_i hc
    simp only [Bool.and_eq_true,decide_eq_true_eq] at hc
    have:=hc.1
    simp only [] at *;omega
   ·simp only [];omega
  ·split
   ·split
    ·rename_i hc
     simp only [Bool.and_eq_true,decide_eq_true_eq] at hc
     have:=hc.1
     simp only [] at *;omega
    ·simp only [];omega
   ·simp only [];omega
def zeroV (v:T12):Bool:=(v.Kind==0) && ((v.N==0) && ((v.S.toList==(str []).toList) && true))
theorem valid_at {d:List T0} (hv:validD d=true) {i:Nat} {x:T0} (hx:d[i]? = some x):∃ first:Nat,x.First=(first:Int)∧first+x.Fields.length≤(flat d).length∧d.length≤40∧(flat d).length≤24∧declV (flat d) d x i=true:=by
 unfold validD at hv
 simp only [Bool.and_eq_true,decide_eq_true_eq] at hv
 obtain ⟨h1,h2,h3⟩:=hv
 rw [allV_iff] at h3
 have hd:=h3 i x hx
 rw [Nat.zero_add] at hd
 have hd0:=hd
 unfold declV at hd
 simp only [Bool.and_eq_true,decide_eq_true_eq] at hd
 refine ⟨(flat (d.take i)).length,hd.2.2.1,?_,h1,h2,hd0⟩
 have:=flat_next hx
 have:=flat_take_le d (i+1)
 omega
end Gp
end
section
namespace Gp
open Go Go.Kx Gx
variable {N:Nat}
structure SizeC (vs ks:List T12):Prop where
 v:∀ v∈vs,v.S.size≤4194304
 k:∀ v∈ks,v.S.size≤4194304
end Gp
end
section
namespace Gp
open Go Go.Kx Gx
variable {N:Nat}
structure InG (n:Nat) (g:T6):Prop where
 d:∀ d∈g.Diffs,d.X < (n:Int)∧d.Y < (n:Int)
 e:∀ e∈g.Equals,(0≤e.1∧e.1 < (n:Int))∧(0≤e.2∧e.2 < (n:Int))
 dl:g.Diffs.length≤20
 el:g.Equals.length≤20
theorem textV_in {fl:List T4} {x:Int} (h:textV fl x=true):0≤x∧x < (fl.length:Int):=by
 unfold textV at h
 cases hc:idx fl x with
 | none=>rw [hc] at h;cases h
 | some f=>exact idx_some hc
theorem inG_of {fl:List T4} {g:T6} (h:guardV fl g=true):InG fl.length g:=by
 unfold guardV at h
 simp only [Bool.and_eq_true,decide_eq_true_eq] at h
 obtain ⟨⟨h1,h2⟩,h3,h4⟩:=h
 rw [allV_iff] at h3 h4
 refine ⟨fun d hd=>?_,fun e he=>?_,h1,h2⟩
 ·obtain ⟨i,hi⟩:=List.mem_iff_getElem?.1 hd
  have:=of_decide_eq_true (h3 i d hi)
  exact ⟨this.2.1,this.2.2.2.1⟩
 ·obtain ⟨i,hi⟩:=List.mem_iff_getElem?.1 he
  have:=h4 i e hi
  simp only [Bool.and_eq_true] at this
  exact ⟨textV_in this.1,textV_in this.2⟩
theorem guard_of {fl:List T4} {d:List T0} {x:T0} {i:Nat} (h:declV fl d x i=true):guardV fl x.Guard=true:=by
 unfold declV at h
 simp only [Bool.and_eq_true] at h
 exact h.2.2.2.2.2
end Gp
end
section
namespace Gp
open Go Go.Kx Gx
variable {N:Nat}
end Gp
end
end
section
namespace Gp
open Go Go.Kx Gx
variable {N:Nat}
end Gp
end
section
namespace Gp
open Go Go.Kx Gx
variable {N:Nat}
structure NumM (m:T8):Prop where
 r0:0≤m.Role
 r1:m.Role < 6
 s0:1≤m.States
 s1:m.States≤200
 b0:0≤m.Start
 b1:m.Start < m.States
 f:(m.Finals.length:Int)=m.States
 n:m.Moves.length≤400
 mv:∀ x∈m.Moves,(0≤x.From∧x.From < m.States)∧(0≤x.To∧x.To < m.States)∧(0≤x.Peer∧x.Peer < 6)∧x.Peer≠m.Role∧0≤x.Label∧x.Label < 40
end Gp
end
section
namespace Gp
open Go Go.Kx Gx
variable {N:Nat}
end Gp
end
section
namespace Gp
open Go Go.Kx Gx
variable {N:Nat}
theorem tot_from {β:Type} {F:Nat→Int→Option β} {len:Nat} (h1:∀ n k,k < len→(∃ b,F n ((k+1:Nat):Int)=some b)→∃ b,F (n+1) (k:Int)=some b)
  (h2:∀ n k,len≤k→∃ b,F (n+1) (k:Int)=some b):∀ (d n k:Nat),len-k=d→d < n→∃ b,F n (k:Int)=some b:=by
 intro d
 induction d with
 | zero =>
  intro n k hd hn
  obtain ⟨n,rfl⟩:∃ q,n=q+1:=⟨n-1,by omega⟩
  exact h2 n k (by omega)
 | succ d ih =>
  intro n k hd hn
  obtain ⟨n,rfl⟩:∃ q,n=q+1:=⟨n-1,by omega⟩
  exact h1 n k (by omega) (ih n (k+1) (by omega) (by omega))
theorem tot_bif {β:Type} {b:Bool} {x y:Option β} (h1:b=true→∃ r,x=some r) (h2:b=false→∃ r,y=some r):∃ r,(bif b then x else y)=some r:=by
 cases b with
 | true=>exact h1 rfl
 | false=>exact h2 rfl
theorem tot_some {β:Type} (b:β):∃ r,some b=some r:=⟨b,rfl⟩
structure TabM (t:T15) (m:T8):Prop where
 num:NumM m
 mm:t.Machine=m
 len:t.out'.length=m.States.toNat
 out:∀ (s:Nat) (l:List Int),t.out'[s]? = some l→l.length≤400∧∀ a∈l,∃ k x,a=((k:Nat):Int)∧m.Moves[k]? = some x∧x.From=(s:Int)
variable {t:T15} {m:T8}
end Gp
end
section
namespace Gp
open Go Go.Kx Gx
variable {N:Nat}
structure InvR (S:Nat) (a:List Bool) (q:List Int):Prop where
 len:a.length=S
 qq:∀ i∈q,0≤i∧i < (S:Int)
 c:q.length+a.count false≤S
variable {t:T15} {m:T8}
end Gp
end
section
namespace Gp
open Go Go.Kx Gx
variable {N:Nat}
theorem vrunes_loop (s:ByteArray):∀ (r:List UInt8) (n i:Nat),(bs s).drop i=r→r.length < n→∃ z,z294_12_l2 N s true n i=some z∧decide (z≥0)=r.any badB:=by
 intro r
 induction r with
 | nil =>
  intro n i h hn
  obtain ⟨n,rfl⟩:∃ m,n=m+1:=⟨n-1,by simp at hn;omega⟩
  have hi:=drop_nil h
  unfold z294_12_l2
  have:decide (i < s.size)=false:=by rw [size_bs];simp;omega
  rw [this]
  exact ⟨-1,rfl,rfl⟩
 | cons b r ih =>
  intro n i h hn
  obtain ⟨n,rfl⟩:∃ m,n=m+1:=⟨n-1,by simp at hn;omega⟩
  obtain ⟨h1,h2,h3⟩:=drop_cons h
  simp only [List.length_cons] at hn
  unfold z294_12_l2
  have:decide (i < s.size)=true:=by rw [size_bs];simp;omega
  rw [this,List.any_cons]
  simp only [cT,z256]
  by_cases hb:b.toNat < 128
  ·rw [decode_lo s i b h2 hb]
   by_cases c1:b.toNat < 32
   ·have e1:decide (((b.toNat:Nat):Int) < 32)=true:=by simp;omega
    have e2:badB b=true:=by simp [badB,c1]
    rw [e1,e2]
    exact ⟨(i:Int),rfl,by simp⟩
   ·have e1:decide (((b.toNat:Nat):Int) < 32)=false:=by simp;omega
    rw [e1]
    simp only [cF,bS]
    by_cases c2:126 < b.toNat
    ·have e3:decide (((b.toNat:Nat):Int) > 126)=true:=by simp;omega
     have e2:badB b=true:=by simp [badB,c2]
     rw [e3,e2]
     exact ⟨(i:Int),rfl,by simp⟩
    ·have e3:decide (((b.toNat:Nat):Int) > 126)=false:=by simp;omega
     have e2:badB b=false:=by simp [badB];omega
     rw [e3,e2]
     exact ih n (i+1) h3 (by omega)
  ·have hd:=decode_hi s i b h2 hb
   have e2:badB b=true:=by simp [badB];omega
   generalize (Utf8.decode s i).1=c at hd ⊢
   have e1:decide ((c:Int) < 32)=false:=by simp;omega
   have e3:decide ((c:Int) > 126)=true:=by simp;omega
   rw [e1,e2]
   simp only [cF,bS]
   rw [e3]
   exact ⟨(i:Int),rfl,by simp⟩
theorem vrunes_eq (hN:4194304 < N) (s:ByteArray) (hs:s.size≤4194304):z225_14 N s=some ((bs s).any badB):=by
 obtain ⟨z,h1,h2⟩:=vrunes_loop (N:=N) s (bs s) N 0 rfl (by rw [size_bs] at hs;omega)
 unfold z225_14 z270_13 z294_12
 rw [h1]
 simp only [bS]
 rw [h2]
def vnumV (v:T12):Int:=bif v.Kind==1 then v.N else bif v.Kind==2 then (v.S.size:Int) else 0
def vsortV (s:T10):Bool:=bif s.Kind==1 then (decide (-1000≤s.Lo) && (decide (s.Lo≤s.Hi) && decide (s.Hi≤1000))) else bif s.Kind==2 then (decide (0≤s.Lo) && (decide (s.Lo≤s.Hi) && decide (s.Hi≤40))) else false
def vvalidV (v:T12):Bool:=bif v.Kind==1 then (decide (v.N≥-1000) && (decide (v.N≤1000) && (v.S.toList==(str []).toList))) else bif v.Kind==2 then (v.N==0 && (decide ((v.S.size:Int)≤40) && !(bs v.S).any badB)) else false
def vfitV (s:T10) (v:T12):Bool:=vsortV s && (vvalidV v && (s.Kind==v.Kind && (decide (vnumV v≥s.Lo) && decide (vnumV v≤s.Hi))))
theorem vvalid_eq (hN:4194304 < N) (v:T12) (hv:v.S.size≤4194304):z139 N v=some (vvalidV v):=by
 unfold z139 vvalidV z203
 rw [vrunes_eq hN _ hv]
 simp only [bS]
 cases (v.Kind==1)
 ·cases (v.Kind==2)
  ·rfl
  ·cases (v.N==0)<;>cases decide ((v.S.size:Int)≤40)<;>rfl
 ·cases decide (v.N≥-1000)<;>cases decide (v.N≤1000)<;>rfl
def KnownL (fs:List T4) (ks:List T12):Prop:=fs.length=ks.length∧∀ (i:Nat) (f:T4) (v:T12),fs[i]? = some f→ks[i]? = some v→(zeroV v || vfitV f.Sort' v)=true
end Gp
end
section
namespace Gp
open Go Go.Kx Gx
variable {N:Nat}
structure AgrM (g:T5) (m:T8):Prop where
 v:validD g.Decls=true
 n:NumM m
 l:∀ x∈m.Moves,x.Label < (g.Decls.length:Int)
structure StM (g:T5) (m:T8) (s:T16):Prop where
 a0:0≤s.At
 a1:s.At < m.States
 k:KnownL (flat g.Decls) s.Known
 p:s.Pending.length≤4194304
end Gp
end
section
namespace Gp
open Go Go.Kx Gx
variable {N:Nat}
structure SizeE (x:T3):Prop where
 l:x.Values.length≤4194304
 s:∀ v∈x.Values,v.S.size≤4194304
end Gp
end
section
namespace Gp
open Go Go.Kx Gx
variable {N:Nat}
end Gp
end
section
namespace Gp
open Go Go.Kx Gx
variable {N:Nat}
theorem plain15_eq (hN:4194304 < N) (s:ByteArray) (hs:s.size≤4194304):z176 N s=some (!(bs s).any badB):=by
 have key:=allV_from (fun (b:UInt8) _ => !badB b) (xs:=bs s) (F:=z176_l2 s) (e:=some true) (n:=N) (by rw [size_bs] at hs;omega) (by
  intro n k b hk hb
  rw [z176_l2,size_bs,lt_t hk,sidx_bs,hb,w64_succ (by rw [size_bs] at hs;omega)]
  simp only [cT,Option.map_some,bS]
  have e1:decide (((b.toNat:Nat):Int) < 32)=decide (b.toNat < 32):=by by_cases h:b.toNat < 32<;>simp [h]<;>omega
  have e2:decide (((b.toNat:Nat):Int) > 126)=decide (126 < b.toNat):=by by_cases h:126 < b.toNat<;>simp [h]<;>omega
  rw [e1,e2]
  unfold badB
  cases decide (b.toNat < 32)<;>cases decide (126 < b.toNat)<;>rfl) (by
  intro n k hk
  rw [z176_l2,size_bs,lt_f hk];rfl)
 unfold z176
 have e0:z176_l2 s N 0=_:=key
 rw [e0]
 have:allV (fun (b:UInt8) _ => !badB b) (bs s) 0 = !(bs s).any badB:=allV_not_any badB (bs s) 0
 rw [this]
 cases (bs s).any badB<;>rfl
theorem tri (a b c:Bool):(bif a then (bif b then some c else some false) else some false)=some (a && (b && c)):=by cases a<;>cases b<;>rfl
theorem valid15_eq (hN:4194304 < N) (v:T12) (hv:v.S.size≤4194304):z108 N v=some (vvalidV v):=by
 unfold z108 vvalidV
 rw [plain15_eq hN _ hv]
 simp only [bS]
 rw [tri,tri]
 cases (v.Kind==1)<;>cases (v.Kind==2)<;>rfl
end Gp
end
section
namespace Gp
open Go Go.Kx Gx
variable {N:Nat}
theorem bs_app (a b:ByteArray):bs (a++b)=bs a++bs b:=by
 unfold bs
 rw [ByteArray.data_append,Array.toList_append]
theorem cat_mk {a b:List UInt8} (h:a.length+b.length≤9223372036854775807):catS (mkB a) (mkB b)=some (mkB (a++b)):=by
 unfold catS
 have e:(mkB a).size=a.length∧(mkB b).size=b.length:=⟨by rw [size_bs,bs_mkB],by rw [size_bs,bs_mkB]⟩
 rw [e.1,e.2,dF (by simp only [IntKind.max];simp [IntKind.bits,IntKind.signed];omega)]
 simp only [cF]
 refine congrArg some (bs_inj ?_)
 rw [bs_app,bs_mkB,bs_mkB,bs_mkB]
theorem enc_digit:∀ d:Fin 10,Utf8.encode (wk .i32 (w64 ((48:Int)+(d.val:Int))))=mkB [UInt8.ofNat (48+d.val)]:=by decide
theorem enc_digit' {n:Int} {d:Nat} (hd:d < 10) (h:n=(48:Int)+(d:Int)):Utf8.encode (wk .i32 (w64 n))=mkB [UInt8.ofNat (48+d)]:=by
 rw [h];exact enc_digit ⟨d,hd⟩
theorem digN_len:∀ f u,(digN f u).length≤f
 | 0,_=>Nat.le_refl _
 | f+1,u=>by
  rw [digN]
  cases hb:Nat.blt u 10 with
  | true=>simp
  | false =>
   have:=digN_len f (u / 10)
   simp only [cF,lA,List.length_singleton]
   omega
theorem digits_pos:∀ (f m u:Nat),f≤24→u < 10 ^ (f+1)→u < 9223372036854775808→z166_r (f+1+m) (u:Int)=some (mkB (digN (f+1) u))
 | f,m,u,hf,h,hu=>by
  rw [show f+1+m=(f+m)+1 by omega,z166_r,z166_b,digN]
  rw [dF (show ¬ (u:Int) < -9 by omega),dF (show ¬ (u:Int) < 0 by omega)]
  simp only [cF]
  by_cases c:u < 10
  ·have hb:Nat.blt u 10=true:=by simpa [Nat.blt_eq] using c
   rw [dT (show (u:Int) < 10 by omega),hb,enc_digit' c rfl];rfl
  ·have hb:Nat.blt u 10=false:=by
    cases h0:Nat.blt u 10 with
    | false=>rfl
    | true=>exact absurd (by simpa [Nat.blt_eq] using h0) c
   rw [dF (show ¬ (u:Int) < 10 by omega),hb]
   have ht:w64 ((u:Int).tdiv 10)=((u / 10:Nat):Int):=by
    rw [show ((u:Int).tdiv 10)=((u / 10:Nat):Int) from by rw [Int.tdiv_eq_ediv_of_nonneg (by omega)];omega,w64_id (by omega) (by omega)]
   have hm:((48:Int)+(u:Int).tmod 10)=(48:Int)+((u % 10:Nat):Int):=by
    rw [Int.tmod_eq_emod_of_nonneg (by omega)];omega
   rw [ht,hm,enc_digit (⟨u % 10,Nat.mod_lt _ (by omega)⟩)]
   match f,h,hf with
   | 0,h,_=>omega
   | f+1,h,hf =>
    rw [show f+1+m=f+1+m by rfl,digits_pos f m (u / 10) (by omega) (by rw [Nat.pow_succ] at h;omega) (by omega)]
    simp only [bS,cF]
    have:=digN_len (f+1) (u / 10)
    rw [cat_mk (by simp only [List.length_singleton];omega)]
    rfl
theorem digits_neg:∀ (f m u:Nat),f≤24→0 < u→u < 10 ^ (f+1)→u≤9223372036854775808→z166_r (f+1+m) (-(u:Int))=some (mkB (45::digN (f+1) u))
 | f,m,u,hf,h0,h,hu=>by
  rw [show f+1+m=(f+m)+1 by omega,z166_r,z166_b,digN]
  by_cases c:u < 10
  ·have hb:Nat.blt u 10=true:=by simpa [Nat.blt_eq] using c
   rw [dF (show ¬ -(u:Int) < -9 by omega),dT (show -(u:Int) < 0 by omega),hb]
   simp only [cT,cF]
   rw [enc_digit' (n:=48 - -(u:Int)) c (by omega)]
   rw [show str [45]=mkB [45] from rfl,cat_mk (by simp)];rfl
  ·have hb:Nat.blt u 10=false:=by
    cases h0:Nat.blt u 10 with
    | false=>rfl
    | true=>exact absurd (by simpa [Nat.blt_eq] using h0) c
   rw [dT (show -(u:Int) < -9 by omega),hb]
   have ht:w64 ((-(u:Int)).tdiv 10)=-((u / 10:Nat):Int):=by
    rw [show ((-(u:Int)).tdiv 10)=-((u / 10:Nat):Int) from by rw [Int.neg_tdiv,Int.tdiv_eq_ediv_of_nonneg (by omega)];omega,w64_id (by omega) (by omega)]
   have hm:((48:Int)-(-(u:Int)).tmod 10)=(48:Int)+((u % 10:Nat):Int):=by
    rw [Int.neg_tmod,Int.tmod_eq_emod_of_nonneg (by omega)];omega
   rw [ht,hm,enc_digit (⟨u % 10,Nat.mod_lt _ (by omega)⟩)]
   match f,h,hf with
   | 0,h,_=>omega
   | f+1,h,hf =>
    rw [digits_neg f m (u / 10) (by omega) (by omega) (by rw [Nat.pow_succ] at h;omega) (by omega)]
    simp only [bS,cT]
    have:=digN_len (f+1) (u / 10)
    rw [cat_mk (by simp only [List.length_cons,List.length_nil];omega)]
    rfl
theorem digits15_eq (hN:4194304 < N) {n:Int} (h:I64 n):z166 N n=some (itoaS n):=by
 obtain ⟨h1,h2⟩:=h
 unfold z166 itoaS
 by_cases c:n < 0
 ·rw [dT c]
  have:=digits_neg 24 (N-25) n.natAbs (by omega) (by omega) (by omega) (by omega)
  rw [show 24+1+(N-25)=N by omega,show -((n.natAbs:Nat):Int)=n by omega] at this
  exact this
 ·rw [dF c]
  have:=digits_pos 24 (N-25) n.toNat (by omega) (by omega) (by omega)
  rw [show 24+1+(N-25)=N by omega,show ((n.toNat:Nat):Int)=n by omega] at this
  exact this
theorem digits_same:∀ (N:Nat) (n:Int),z90_r N n=z166_r N n
 | 0,_=>rfl
 | N+1,n=>by
  rw [z90_r,z166_r,show z90_r N=z166_r N from funext fun n=>digits_same N n]
  rfl
theorem digits09_eq (hN:4194304 < N) {n:Int} (h:I64 n):z90 N n=some (itoaS n):=by
 rw [← digits15_eq hN h]
 exact digits_same N n
theorem itoa_eq {n:Int} (h:I64 n):z164 N n=some (itoaS n):=by
 unfold z164
 rw [dT h.1,dT h.2];rfl
theorem itoa_len (n:Int):(itoaS n).size≤26:=by
 unfold itoaS
 have h1:=digN_len 25 n.natAbs
 have h2:=digN_len 25 n.toNat
 show (bif decide (n < 0) then 45::digN 25 n.natAbs else digN 25 n.toNat).toArray.size≤26
 cases decide (n < 0)<;>simp<;>omega
end Gp
end
section
namespace Gp
open Go Go.Kx Gx
variable {N:Nat}
def showV (v:T12):List UInt8:=bif vvalidV v then (if v.Kind=1 then bs (itoaS v.N) else [34]++quoL (bs v.S)++[34]) else [63]
theorem quoB_len (b:UInt8):(quoB b).length≤2:=by unfold quoB;split<;>simp
theorem quoL_cons (b:UInt8) (r:List UInt8):quoL (b::r)=quoB b++quoL r:=rfl
theorem quoL_len:∀ l:List UInt8,(quoL l).length≤2 * l.length
 | []=>Nat.le_refl _
 | b::r=>by
  have:=quoL_len r
  have:=quoB_len b
  rw [quoL_cons,lA,List.length_cons];omega
theorem showV_len {v:T12} (hv:v.S.size≤4194304):(showV v).length≤8388610:=by
 unfold showV
 have:=itoa_len v.N
 rw [size_bs] at this hv
 have:=quoL_len (bs v.S)
 cases vvalidV v
 ·simp
 ·simp only [cT]
  split
  ·omega
  ·simp only [lA,List.length_singleton];omega
theorem show_loop (v:T12) (hv:v.S.size≤4194304):∀ (r:List UInt8) (n k:Nat) (acc:List UInt8),(bs v.S).drop k=r→r.length < n→acc.length+2 * r.length≤16777216 →
  z91_l2 v n (mkB acc) (k:Int)=some (mkB (acc++quoL r++[34]))
 | [],n,k,acc,h,hn,ha=>by
  obtain ⟨n,rfl⟩:∃ m,n=m+1:=⟨n-1,by simp at hn;omega⟩
  have hk:=drop_nil h
  rw [z91_l2,slt_f hk]
  simp only [cF]
  unfold z91_k1
  rw [show str [34]=mkB [34] from rfl,cat_mk (by simp at *;omega)]
  simp [quoL]
 | b::r,n,k,acc,h,hn,ha=>by
  obtain ⟨n,rfl⟩:∃ m,n=m+1:=⟨n-1,by simp at hn;omega⟩
  obtain ⟨hk,hb,hr⟩:=drop_cons h
  simp only [List.length_cons] at hn ha
  rw [z91_l2,slt_t hk,sidx_bs,hb]
  rw [size_bs] at hv
  simp only [cT,Option.map_some,bS]
  have hsl:ssl v.S (some (k:Int)) (some (w64 ((k:Int)+1)))=some (mkB [b]):=by
   have e:bs v.S=(bs v.S).take k++([b]++r):=by rw [List.singleton_append,← h,List.take_append_drop]
   have hl:((bs v.S).take k).length=k:=by rw [List.length_take];omega
   refine ssl_mid e (by rw [hl]) ?_
   rw [w64_succ (by omega),hl];rfl
  have e34:(((b.toNat:Nat):Int)==34)=decide (b=34):=by
   by_cases c:b=34
   ·subst c;rfl
   ·rw [dF c]
    have:b.toNat≠34:=fun h=>c (UInt8.toNat_inj.1 h)
    simp;omega
  have e92:(((b.toNat:Nat):Int)==92)=decide (b=92):=by
   by_cases c:b=92
   ·subst c;rfl
   ·rw [dF c]
    have:b.toNat≠92:=fun h=>c (UInt8.toNat_inj.1 h)
    simp;omega
  have step:∀ (z:Bool),(z=decide (b=34∨b=92))→z91_k3 v (mkB acc) (k:Int) (z91_l2 v n) z=some (mkB (acc++quoL (b::r)++[34])):=by
   intro z hz
   have hq:quoB b=if z then [92,b] else [b]:=by
    subst hz;unfold quoB
    by_cases c:b=34∨b=92
    ·rw [if_pos c,dT c];rfl
    ·rw [if_neg c,dF c];rfl
   unfold z91_k3
   cases z with
   | true =>
    rw [hsl]
    simp only [cT,bS]
    rw [show str [92]=mkB [92] from rfl,cat_mk (by simp;omega)]
    simp only [bS]
    rw [cat_mk (by simp;omega)]
    simp only [bS]
    rw [w64_succ (by omega),show_loop v (by rw [size_bs];exact hv) r n (k+1) _ hr (by omega) (by simp;omega),quoL_cons,hq]
    simp
   | false =>
    rw [hsl]
    simp only [cF,bS]
    rw [cat_mk (by simp;omega)]
    simp only [bS]
    rw [w64_succ (by omega),show_loop v (by rw [size_bs];exact hv) r n (k+1) _ hr (by omega) (by simp;omega),quoL_cons,hq]
    simp
  rw [e34,e92]
  by_cases c:b=34
  ·rw [dT c];exact step true (by rw [dT (Or.inl c)])
  ·rw [dF c]
   simp only [cF]
   refine step _ ?_
   by_cases c2:b=92
   ·rw [dT c2,dT (Or.inr c2)]
   ·rw [dF c2,dF (fun h=>h.elim c c2)]
structure NumV (v:T12):Prop where
 n:I64 v.N
 s:v.S.size≤4194304
theorem show15_eq (hN:4194304 < N) {v:T12} (h:NumV v):z91 N v=some (mkB (showV v)):=by
 unfold z91
 rw [valid15_eq hN v h.s]
 unfold showV
 simp only [bS]
 cases hv:vvalidV v with
 | false=>rfl
 | true =>
  simp only [Bool.not_true,cF,cT]
  by_cases c:v.Kind=1
  ·rw [show (v.Kind==1)=true by simp [c],digits15_eq hN h.n,if_pos c,mkB_bs];rfl
  ·rw [show (v.Kind==1)=false by simp [c],if_neg c]
   simp only [cF]
   have:=h.s
   rw [size_bs] at this
   exact show_loop v h.s (bs v.S) N 0 [34] rfl (by omega) (by simp;omega)
theorem show_eq (hN:4194304 < N) {v:T12} (h:NumV v):z165 N v=some (mkB (showV v)):=by
 unfold z165
 have hs:=h.s
 rw [vvalid_eq hN v h.s,dT h.n.1,dT h.n.2,dT (show v.S.size≤35184372088832 by omega)]
 unfold showV
 simp only [bS,Bool.and_self,cT]
 cases hv:vvalidV v with
 | false=>rfl
 | true =>
  simp only [cT]
  by_cases c:v.Kind=1
  ·rw [if_neg (by simp),if_pos c,if_pos c,mkB_bs]
  ·rw [if_neg (by simp),if_neg c,if_neg c];rfl
def tailV (r:List T12):List UInt8:=(r.map fun v=>[44,32]++showV v).flatten
theorem tailV_cons (v:T12) (r:List T12):tailV (v::r)=[44,32]++showV v++tailV r:=rfl
theorem tailV_len:∀ (r:List T12),(∀ v∈r,v.S.size≤4194304)→(tailV r).length≤r.length * 8388612
 | [],_=>Nat.le_refl _
 | v::r,h=>by
  have h1:=tailV_len r fun x hx=>h x (List.mem_cons_of_mem _ hx)
  have h2:=showV_len (h v List.mem_cons_self)
  rw [tailV_cons,lA,lA,List.length_cons]
  simp only [List.length_cons,List.length_nil]
  omega
def listV:List T12→List UInt8
 | []=>[40,41]
 | v::r=>[40]++showV v++tailV r++[41]
theorem listV_len {l:List T12} (hl:l.length≤4194304) (h:∀ v∈l,v.S.size≤4194304):(listV l).length≤35184397000000:=by
 cases l with
 | nil=>simp [listV]
 | cons v r =>
  have h1:=tailV_len r fun x hx=>h x (List.mem_cons_of_mem _ hx)
  have h2:=showV_len (h v List.mem_cons_self)
  simp only [listV,lA,List.length_cons,List.length_nil] at *
  omega
theorem refList_loop (hN:4194304 < N) (l:List T12) (hl:l.length≤4194304):∀ (r:List T12) (n k:Nat) (acc:List UInt8),0 < k→l.drop k=r→(∀ v∈r,NumV v)→r.length < n→acc.length+r.length * 8388612≤4611686018427387904 →
  z97_l2 N l n (mkB acc) (k:Int)=some (mkB (acc++tailV r++[41]))
 | [],n,k,acc,h0,h,hr,hn,ha=>by
  obtain ⟨n,rfl⟩:∃ m,n=m+1:=⟨n-1,by simp at hn;omega⟩
  rw [z97_l2,lt_f (drop_nil h)]
  simp only [cF]
  unfold z97_k1
  rw [show str [41]=mkB [41] from rfl,cat_mk (by simp at *;omega)]
  simp [tailV]
 | v::r,n,k,acc,h0,h,hr,hn,ha=>by
  obtain ⟨n,rfl⟩:∃ m,n=m+1:=⟨n-1,by simp at hn;omega⟩
  obtain ⟨hk,hb,hd⟩:=drop_cons h
  simp only [List.length_cons] at hn ha
  have h1:=hr v List.mem_cons_self
  have h2:=showV_len h1.s
  rw [z97_l2,lt_t hk,dT (show (k:Int) > 0 by omega),idx_nat,hb]
  simp only [cT,bS]
  rw [show15_eq hN h1,show str [44,32]=mkB [44,32] from rfl,cat_mk (by simp;omega)]
  simp only [bS]
  rw [cat_mk (by simp;omega)]
  simp only [bS]
  rw [w64_succ (by omega),refList_loop hN l hl r n (k+1) _ (by omega) hd (fun x hx=>hr x (List.mem_cons_of_mem _ hx)) (by omega) (by simp;omega),tailV_cons]
  simp
theorem refList_eq (hN:4194304 < N) {l:List T12} (hl:l.length≤4194304) (h:∀ v∈l,NumV v):z97 N l=some (mkB (listV l)):=by
 unfold z97
 obtain ⟨M,rfl⟩:∃ m,N=m+1:=⟨N-1,by omega⟩
 cases l with
 | nil=>rw [z97_l2];rfl
 | cons v r =>
  have h1:=h v List.mem_cons_self
  have h2:=showV_len h1.s
  rw [z97_l2,show (0:Int)=((0:Nat):Int) from rfl,lt_t (by simp),dF (show ¬ ((0:Nat):Int) > ((0:Nat):Int) by omega),idx_nat]
  simp only [cT,cF,bS,List.getElem?_cons_zero]
  rw [show15_eq hN h1,show str [40]=mkB [40] from rfl,bS,cat_mk (by simp;omega)]
  simp only [bS,List.length_cons] at hl ⊢
  rw [w64_succ (by omega),refList_loop hN (v::r) (by simp;omega) r M 1 _ (by omega) rfl (fun x hx=>h x (List.mem_cons_of_mem _ hx)) (by omega) (by simp;omega)]
  rfl
theorem list_loop (hN:4194304 < N) (l:List T12) (hl:l.length≤4194304):∀ (r:List T12) (n k:Nat) (acc:List ByteArray),l.drop k=r→(∀ v∈r,NumV v)→r.length < n→acc.length+r.length≤4194304 →
  z95_l2 N l n acc (k:Int)=z95_k1 N (acc++r.map fun v=>mkB (showV v))
 | [],n,k,acc,h,hr,hn,ha=>by
  obtain ⟨n,rfl⟩:∃ m,n=m+1:=⟨n-1,by simp at hn;omega⟩
  rw [z95_l2,lt_f (drop_nil h)]
  simp
 | v::r,n,k,acc,h,hr,hn,ha=>by
  obtain ⟨n,rfl⟩:∃ m,n=m+1:=⟨n-1,by simp at hn;omega⟩
  obtain ⟨hk,hb,hd⟩:=drop_cons h
  simp only [List.length_cons] at hn ha
  have h1:=hr v List.mem_cons_self
  rw [z95_l2,lt_t hk,idx_nat,hb]
  simp only [cT,bS]
  rw [show_eq hN h1,bS,appL_some (by simp;omega),bS,w64_succ (by omega),list_loop hN l hl r n (k+1) _ hd (fun x hx=>hr x (List.mem_cons_of_mem _ hx)) (by omega) (by simp;omega)]
  simp
theorem join_bs (r:List T12):joinL [44,32] ((r.map fun v=>mkB (showV v)).map (·.data.toList))=match r with | []=>[] | v::r=>showV v++tailV r:=by
  have e:∀ r:List T12,(r.map fun v=>mkB (showV v)).map (·.data.toList)=r.map showV:=fun r=>by
    rw [List.map_map]
    exact List.map_congr_left fun v _=>bs_mkB _
  rw [e]
  cases r with
  | nil=>rfl
  | cons v r =>
    simp only [List.map_cons,joinL]
    unfold tailV
    rw [List.map_map];rfl
theorem list_eq (hN:4194304 < N) {l:List T12} (hl:l.length≤4194304) (h:∀ v∈l,NumV v):z95 N l=some (mkB (listV l)):=by
 unfold z95
 have:=list_loop hN l hl l N 0 [] rfl h (by omega) (by simp;omega)
 rw [show (0:Int)=((0:Nat):Int) from rfl,this]
 have hlen:=listV_len hl fun v hv=>(h v hv).s
 unfold z95_k1 z167
 rw [List.nil_append,show (str [44,32]).data.toList=[44,32] from rfl,join_bs,List.length_map,dT (show l.length≤140737488355328 by omega)]
 cases l with
 | nil=>rfl
 | cons v r =>
  simp only [listV,lA,List.length_cons,List.length_nil] at hlen
  simp only [lA]
  rw [dT (show (showV v).length+(tailV r).length≤140737488355328 by omega)]
  simp only [Bool.and_self,cT,bS]
  rw [show (⟨(showV v++tailV r).toArray⟩:ByteArray)=mkB (showV v++tailV r) from rfl,show str [40]=mkB [40] from rfl,show str [41]=mkB [41] from rfl,cat_mk (by simp;omega),bS,cat_mk (by simp;omega)]
  simp [listV]
end Gp
end
section
namespace Gp
open Go Go.Kx Gx
variable {N:Nat}
def nameV (l:List ByteArray) (i:Int):ByteArray:=if 0≤i then l[i.toNat]?.getD (str [63]) else str [63]
theorem nameV_size {l:List ByteArray} (h:∀ s∈l,s.size≤4194304) (i:Int):(bs (nameV l i)).length≤4194304:=by
 unfold nameV
 split
 ·cases hc:l[i.toNat]? with
  | none=>simp [bs,str]
  | some s =>
   have:=h s (List.mem_of_getElem? hc)
   rw [size_bs] at this
   exact this
 ·simp [bs,str]
theorem bname_eq (l:List ByteArray) (i:Int):z93 N l i=some (nameV l i):=by
 unfold z93 nameV
 by_cases c1:i < 0
 ·rw [dT c1,if_neg (by omega)];rfl
 ·obtain ⟨k,rfl⟩:=Int.eq_ofNat_of_zero_le (show 0≤i by omega)
  rw [dF c1,if_pos (by omega),idx_nat]
  by_cases c2:(k:Int)≥(l.length:Int)
  ·rw [dT c2,show l[(k:Int).toNat]? = none from List.getElem?_eq_none (by omega)];rfl
  ·have hv:=List.getElem?_eq_getElem (show k < l.length by omega)
   rw [dF c2,show l[(k:Int).toNat]? = l[k]? from rfl,hv];rfl
theorem role_eq (g:T5) (i:Int):z89 N g i=some (nameV g.Roles i):=by
 rw [← bname_eq (N:=N)];rfl
theorem label_eq (g:T5) (i:Int):z96 N g i=some (nameV (g.Decls.map (·.Name)) i):=by
  rw [← bname_eq (N:=N)]
  unfold z96 z93
  rw [List.length_map]
  by_cases c1:i < 0
  · rw [dT c1];rfl
  · obtain ⟨k,rfl⟩:=Int.eq_ofNat_of_zero_le (show 0≤i by omega)
    rw [idx_nat,idx_nat,List.getElem?_map]
    cases g.Decls[k]?<;>rfl
theorem labels_loop (l:List T0) (hl:l.length≤4194304):∀ (r:List T0) (n k:Nat) (acc:List ByteArray),l.drop k=r→r.length < n→acc.length+r.length≤4194304 →
    z94_l2 l n acc (k:Int)=some (acc++r.map (·.Name))
  | [],n,k,acc,h,hn,ha=>by
    obtain ⟨n,rfl⟩:∃ m,n=m+1:=⟨n-1,by simp at hn;omega⟩
    rw [z94_l2,lt_f (drop_nil h)]
    simp [z94_k1]
  | v::r,n,k,acc,h,hn,ha=>by
    obtain ⟨n,rfl⟩:∃ m,n=m+1:=⟨n-1,by simp at hn;omega⟩
    obtain ⟨hk,hb,hd⟩:=drop_cons h
    simp only [List.length_cons] at hn ha
    rw [z94_l2,lt_t hk,idx_nat,hb]
    simp only [cT,bS]
    rw [appL_some (by simp;omega),bS,w64_succ (by omega),labels_loop l hl r n (k+1) _ hd (by omega) (by simp;omega)]
    simp
theorem labels_eq (hN:4194304 < N) (l:List T0) (hl:l.length≤4194304):z94 N l=some (l.map (·.Name)) :=
  labels_loop l hl l N 0 [] rfl (by omega) (by simp;omega)
structure ShowOk (g:T5) (x:T3):Prop where
 r:∀ s∈g.Roles,s.size≤4194304
 d:g.Decls.length≤4194304
 n:∀ y∈g.Decls,y.Name.size≤4194304
 l:x.Values.length≤4194304
 v:∀ v∈x.Values,NumV v
def showE (g:T5) (x:T3):List UInt8 :=
  bs (nameV g.Roles x.Role)++(bif x.Send then [32,115,101,110,100,115,32] else [32,103,101,116,115,32])++bs (nameV (g.Decls.map (·.Name)) x.Label)++listV x.Values++(bif x.Send then [32,116,111,32] else [32,102,114,111,109,32])++bs (nameV g.Roles x.Peer)
theorem ShowOk.sizes {g:T5} {x:T3} (h:ShowOk g x):(∀ i,(bs (nameV g.Roles i)).length≤4194304)∧(∀ i,(bs (nameV (g.Decls.map (·.Name)) i)).length≤4194304)∧(listV x.Values).length≤35184397000000 :=
  ⟨nameV_size h.r,nameV_size fun s hs=>by obtain ⟨y,hy,rfl⟩:=List.mem_map.1 hs;exact h.n y hy,listV_len h.l fun v hv=>(h.v v hv).s⟩
theorem cat_bs {s:ByteArray} {b:List UInt8} (h:(bs s).length+b.length≤9223372036854775807):catS s (mkB b)=some (mkB (bs s++b)):=by
 have:=cat_mk (a:=bs s) (b:=b) h
 rw [mkB_bs] at this
 exact this
theorem cat_sb {s:ByteArray} {b:List UInt8} (h:b.length+(bs s).length≤9223372036854775807):catS (mkB b) s=some (mkB (b++bs s)):=by
 have:=cat_mk (a:=b) (b:=bs s) h
 rw [mkB_bs] at this
 exact this
theorem bShow_eq (hN:4194304 < N) {g:T5} {x:T3} (h:ShowOk g x):z44 N g x=some (mkB (showE g x)):=by
  obtain ⟨h1,h2,h3⟩:=h.sizes
  have a1:=h1 x.Role
  have a2:=h1 x.Peer
  have a3:=h2 x.Label
  have key:∀ a b:List UInt8,a.length≤100→b.length≤100→z44_k1 N g x (mkB a) (mkB b)=some (mkB (bs (nameV g.Roles x.Role)++a++bs (nameV (g.Decls.map (·.Name)) x.Label)++listV x.Values++b++bs (nameV g.Roles x.Peer))):=by
    intro a b ha hb
    unfold z44_k1
    rw [bname_eq,labels_eq hN _ h.d,list_eq hN h.l h.v]
    simp only [bS,bname_eq]
    rw [cat_bs (by omega),bS,cat_sb (by simp only [lA];omega),bS,cat_mk (by simp only [lA];omega),bS,cat_mk (by simp only [lA];omega),bS,cat_sb (by simp only [lA];omega),bS]
  unfold z44 showE
  cases x.Send
  · exact key _ _ (by decide) (by decide)
  · exact key _ _ (by decide) (by decide)
theorem rShow_eq (hN:4194304 < N) {g:T5} {x:T3} (h:ShowOk g x):z45 N g x=some (mkB (showE g x)):=by
 obtain ⟨h1,h2,h3⟩:=h.sizes
 have a1:=h1 x.Role
 have a2:=h1 x.Peer
 have a3:=h2 x.Label
 unfold z45 showE
 rw [label_eq,refList_eq hN h.l h.v]
 simp only [bS,role_eq]
 rw [cat_bs (by omega),bS]
 cases x.Send
 ·simp only [cF]
  rw [show str [32,103,101,116,115,32]=mkB [32,103,101,116,115,32] from rfl,show str [32,102,114,111,109,32]=mkB [32,102,114,111,109,32] from rfl,
   cat_bs (by simp;omega),bS,cat_mk (by simp;omega),bS,cat_mk (by simp;omega),bS,cat_sb (by simp;omega),bS]
  simp
 ·simp only [cT]
  rw [show str [32,115,101,110,100,115,32]=mkB [32,115,101,110,100,115,32] from rfl,show str [32,116,111,32]=mkB [32,116,111,32] from rfl,
   cat_bs (by simp;omega),bS,cat_mk (by simp;omega),bS,cat_mk (by simp;omega),bS,cat_sb (by simp;omega),bS]
  simp
end Gp
end
section
namespace Gp
open Go Go.Kx Gx
variable {N:Nat}
theorem flat_find:∀ (r:List T0) (x:Nat),x < (flat r).length→∃ (i:Nat) (d:T0) (j:Nat) (f:T4),r[i]? = some d∧d.Fields[j]? = some f∧x=(flat (r.take i)).length+j
 | [],x,h=>by simp [flat] at h
 | d::r,x,h=>by
  rw [flat_cons,lA] at h
  by_cases c:x < d.Fields.length
  ·exact ⟨0,d,x,d.Fields[x],rfl,List.getElem?_eq_getElem c,by simp [flat]⟩
  ·obtain ⟨i,e,j,f,h1,h2,h3⟩:=flat_find r (x-d.Fields.length) (by omega)
   refine ⟨i+1,e,j,f,by simpa using h1,h2,?_⟩
   rw [List.take_succ_cons,flat_cons,lA]
   omega
theorem var_loop (l:List T0) (hl:l.length≤4194304) (hfl:(flat l).length≤4194304) {i j:Nat} {d:T0} {f:T4} (hi:l[i]? = some d) (hj:d.Fields[j]? = some f):∀ (q n k:Nat),i=k+q→q < n →
  z170_l2 l n (((flat (l.take i)).length+j-(flat (l.take k)).length:Nat):Int) (k:Int)=some (d,f,true)
 | 0,n,k,hq,hn=>by
  obtain ⟨n,rfl⟩:∃ m,n=m+1:=⟨n-1,by omega⟩
  obtain rfl:i=k:=by omega
  have hk:=(List.getElem?_eq_some_iff.1 hi).1
  have hjl:=(List.getElem?_eq_some_iff.1 hj).1
  rw [show (flat (l.take i)).length+j-(flat (l.take i)).length=j by omega,z170_l2,lt_t hk,idx_nat,hi]
  simp only [cT,bS]
  rw [dT (show (j:Int)≥0 by omega),lt_t hjl,idx_nat,hj];rfl
 | q+1,n,k,hq,hn=>by
  obtain ⟨n,rfl⟩:∃ m,n=m+1:=⟨n-1,by omega⟩
  have hi':=(List.getElem?_eq_some_iff.1 hi).1
  have hk:k < l.length:=by omega
  have hg:=List.getElem?_eq_getElem hk
  have hnx:=flat_next hg
  have hmono:(flat (l.take (k+1))).length≤(flat (l.take i)).length:=by
   have:=flat_take_le (l.take i) (k+1)
   rw [List.take_take,show min (k+1) i=k+1 by omega] at this
   exact this
  have htot:=flat_take_le l (i+1)
  have hn2:=flat_next hi
  have hjl:=(List.getElem?_eq_some_iff.1 hj).1
  rw [z170_l2,lt_t hk,idx_nat,hg]
  simp only [cT,bS]
  rw [dT (show (((flat (l.take i)).length+j-(flat (l.take k)).length:Nat):Int)≥0 by omega),lt_f (by omega)]
  simp only [cT,cF]
  rw [w64_succ (by omega),w64_id (by omega) (by omega)]
  have:=var_loop l hl hfl hi hj q n (k+1) (by omega) (by omega)
  rw [← this]
  congr 1
  omega
theorem name_loop (l:List T0) (hl:l.length≤4194304) (hfl:(flat l).length≤4194304) (hv:validD l=true) (hnm:∀ x∈l,NameD x) {i j:Nat} {d:T0} {f:T4} (hi:l[i]? = some d) (hj:d.Fields[j]? = some f) {x:Int} (hx:x=(((flat (l.take i)).length+j:Nat):Int)):∀ (q n k:Nat),i=k+q→q < n →
  z102_l2 l x n (k:Int)=some (mkB (bs d.Name++[46]++bs f.Name),f.Sort'.Kind==2)
 | 0,n,k,hq,hn=>by
  obtain ⟨n,rfl⟩:∃ m,n=m+1:=⟨n-1,by omega⟩
  obtain rfl:i=k:=by omega
  have hk:=(List.getElem?_eq_some_iff.1 hi).1
  have hjl:=(List.getElem?_eq_some_iff.1 hj).1
  have htot:=flat_take_le l (i+1)
  have hn2:=flat_next hi
  obtain ⟨first,h1,_,_,_,h2⟩:=valid_at hv hi
  unfold declV at h2
  simp only [Bool.and_eq_true,decide_eq_true_eq] at h2
  have hF:=h2.2.2.1
  obtain ⟨n1,n2⟩:=hnm d (List.mem_of_getElem? hi)
  have n2:=n2 f (List.mem_of_getElem? hj)
  rw [size_bs] at n1 n2
  rw [z102_l2,lt_t hk,idx_nat,hi]
  simp only [cT,bS]
  rw [hF,hx,dT (by omega),w64_id (by omega) (by omega),dT (by omega)]
  simp only [cT]
  rw [w64_id (by omega) (by omega),idx_int (k:=j) (by omega),hj]
  simp only [bS]
  rw [show str [46]=mkB [46] from rfl,cat_bs (by simp;omega),bS,cat_sb (by simp;omega)];rfl
 | q+1,n,k,hq,hn=>by
  obtain ⟨n,rfl⟩:∃ m,n=m+1:=⟨n-1,by omega⟩
  have hi':=(List.getElem?_eq_some_iff.1 hi).1
  have hk:k < l.length:=by omega
  have hg:=List.getElem?_eq_getElem hk
  have hnx:=flat_next hg
  have hmono:(flat (l.take (k+1))).length≤(flat (l.take i)).length:=by
   have:=flat_take_le (l.take i) (k+1)
   rw [List.take_take,show min (k+1) i=k+1 by omega] at this
   exact this
  have htot:=flat_take_le l (i+1)
  have hn2:=flat_next hi
  have hjl:=(List.getElem?_eq_some_iff.1 hj).1
  obtain ⟨first,h1,_,_,_,h2⟩:=valid_at hv hg
  unfold declV at h2
  simp only [Bool.and_eq_true,decide_eq_true_eq] at h2
  have hF:=h2.2.2.1
  rw [z102_l2,lt_t hk,idx_nat,hg]
  simp only [cT,bS]
  rw [hF,dT (show x≥_ by omega),w64_id (by omega) (by omega),dF (by omega)]
  simp only [cT,cF]
  rw [w64_succ (by omega)]
  exact name_loop l hl hfl hv hnm hi hj hx q n (k+1) (by omega) (by omega)
theorem path_both (hN:4194304 < N) {l:List T0} (hl:l.length≤1000) (hd:∀ x∈l,SizeD x) (hv:validD l=true) (hnm:∀ x∈l,NameD x) {x:Int} (h0:0≤x) (h1:x < ((flat l).length:Int)) :
  ∃ s u t,s.length≤16777216∧u.length≤16777216∧z100 N l x=some (mkB s)∧z102 N l x=some (mkB s,t)∧z169 N l x=some (mkB u)∧z103 N l x=some (mkB u):=by
 have hfl:(flat l).length≤4194304:=by
  unfold validD at hv
  simp only [Bool.and_eq_true,decide_eq_true_eq] at hv
  omega
 obtain ⟨k,rfl⟩:=Int.eq_ofNat_of_zero_le h0
 obtain ⟨i,d,j,f,hi,hj,hx⟩:=flat_find l k (by omega)
 have hil:=(List.getElem?_eq_some_iff.1 hi).1
 have e1:=var_loop l (by omega) hfl hi hj i N 0 (by omega) (by omega)
 rw [show (flat (l.take i)).length+j-(flat (l.take 0)).length=k by simp [flat] at *;omega] at e1
 have e2:=name_loop l (by omega) hfl hv hnm hi hj (x:=(k:Int)) (by omega) i N 0 (by omega) (by omega)
 obtain ⟨n1,n2⟩:=hnm d (List.mem_of_getElem? hi)
 have n2:=n2 f (List.mem_of_getElem? hj)
 rw [size_bs] at n1 n2
 have e1:z170 N l (k:Int)=some (d,f,true):=e1
 have e2:z102 N l (k:Int)=some (mkB (bs d.Name++[46]++bs f.Name),f.Sort'.Kind==2):=e2
 have e3:z100 N l (k:Int)=some (mkB (bs d.Name++[46]++bs f.Name)):=by
  unfold z100
  rw [e1]
  simp only [bS]
  rw [show str [46]=mkB [46] from rfl,cat_bs (by simp;omega),bS,cat_sb (by simp;omega)];rfl
 cases hk:(f.Sort'.Kind==2) with
 | true =>
  refine ⟨_,[108,101,110,40]++(bs d.Name++[46]++bs f.Name)++[41],true,by simp;omega,by simp;omega,e3,by rw [e2,hk],?_,?_⟩
  ·unfold z169
   rw [e1]
   simp only [bS,hk,cT]
   rw [e3,bS,show str [108,101,110,40]=mkB [108,101,110,40] from rfl,show str [41]=mkB [41] from rfl,cat_mk (by simp;omega),bS,cat_mk (by simp;omega)];rfl
  ·unfold z103
   rw [e2]
   simp only [bS,hk,cT]
   rw [show str [108,101,110,40]=mkB [108,101,110,40] from rfl,show str [41]=mkB [41] from rfl,cat_mk (by simp;omega),bS,cat_mk (by simp;omega)];rfl
 | false =>
  refine ⟨bs d.Name++[46]++bs f.Name,bs d.Name++[46]++bs f.Name,false,by simp only [lA,List.length_cons,List.length_nil];omega,by simp only [lA,List.length_cons,List.length_nil];omega,e3,by rw [e2,hk],?_,?_⟩
  ·unfold z169
   rw [e1]
   simp only [bS,hk,cF]
   exact by rw [e3];rfl
  ·unfold z103
   rw [e2,hk];rfl
theorem itoa_bs (n:Int):(bs (itoaS n)).length≤26:=by rw [← size_bs];exact itoa_len n
theorem diffOk_of {fl:List T4} {g:T6} (h:guardV fl g=true) {d:T1} (hd:d∈g.Diffs):diffOk (fl.length:Int) d:=by
 unfold guardV at h
 simp only [Bool.and_eq_true,decide_eq_true_eq] at h
 have h3:=h.2.1
 rw [allV_iff] at h3
 obtain ⟨i,hi⟩:=List.mem_iff_getElem?.1 hd
 exact of_decide_eq_true (h3 i d hi)
theorem bounds_some (hN:4194304 < N) (d:T0) (hd:SizeD d):∃ r,z168 N d=some r :=
 bounds_l4 hN d hd d.Fields 0 N [] rfl (by have:=hd.f;omega) (by have:=hd.f;simp;omega)
def rdiff (N:Nat) (l:List T0) (d:T1):Option ByteArray :=
 bif decide (d.X < (0:Int)) then (bif decide (d.Y < (0:Int)) then ((z90 N d.C).bind fun x13=>(catS (str [48,32,60,61,32]) x13).bind fun x14=>some x14)
  else (z103 N l d.Y).bind fun x19=>(catS x19 (str [32,62,61,32])).bind fun x20=>(z90 N (w64 (0-d.C))).bind fun x21=>(catS x20 x21).bind fun x22=>some x22)
 else bif decide (d.Y < (0:Int)) then ((z103 N l d.X).bind fun x33=>(catS x33 (str [32,60,61,32])).bind fun x34=>(z90 N d.C).bind fun x35=>(catS x34 x35).bind fun x36=>some x36)
 else (z103 N l d.X).bind fun x41=>(catS x41 (str [32,60,61,32])).bind fun x42=>(z103 N l d.Y).bind fun x43=>(catS x42 x43).bind fun x44 =>
  bif decide (d.C > (0:Int)) then ((catS x44 (str [32,43,32])).bind fun x45=>(z90 N d.C).bind fun x46=>(catS x45 x46).bind fun x47=>some x47)
  else bif decide (d.C < (0:Int)) then ((catS x44 (str [32,45,32])).bind fun x48=>(z90 N (w64 (0-d.C))).bind fun x49=>(catS x48 x49).bind fun x50=>some x50)
  else some x44
theorem diff_both (hN:4194304 < N) {l:List T0} (hl:l.length≤1000) (hd:∀ x∈l,SizeD x) (hv:validD l=true) (hnm:∀ x∈l,NameD x) {d:T1} (h:diffOk ((flat l).length:Int) d) :
  ∃ s:List UInt8,s.length≤67108864∧z99 N l d=some (mkB s)∧rdiff N l d=some (mkB s):=by
 obtain ⟨a1,a2,a3,a4,a5,a6⟩:=h
 have hc:I64 d.C:=⟨by omega,by omega⟩
 have hw:w64 (0-d.C)=-d.C:=by rw [w64_id (by omega) (by omega)];omega
 have hm:I64 (-d.C):=⟨by omega,by omega⟩
 have l1:=itoa_bs d.C
 have l2:=itoa_bs (-d.C)
 unfold z99 rdiff
 by_cases cX:d.X < 0
 ·rw [dT cX]
  by_cases cY:d.Y < 0
  ·rw [dT cY]
   simp only [cT]
   unfold z99_k1
   rw [itoa_eq hc,digits09_eq hN hc]
   simp only [cT,bS]
   rw [show str [48,32,60,61,32]=mkB [48,32,60,61,32] from rfl,cat_sb (by simp;omega)]
   exact ⟨_,by simp;omega,rfl,rfl⟩
  ·obtain ⟨s,u,t,_,b2,_,_,e3,e4⟩:=path_both hN hl hd hv hnm (x:=d.Y) (by omega) a4
   rw [dF cY]
   simp only [cT,cF]
   unfold z99_k1
   rw [dT cX,dF cY,hw,itoa_eq hm,digits09_eq hN hm,e3,e4]
   simp only [cT,cF,bS]
   rw [show str [32,62,61,32]=mkB [32,62,61,32] from rfl,cat_mk (by simp;omega)]
   simp only [bS]
   rw [cat_sb (by simp;omega)]
   exact ⟨_,by simp;omega,rfl,rfl⟩
 ·rw [dF cX]
  simp only [cF]
  unfold z99_k1
  obtain ⟨s,u,t,_,b2,_,_,e3,e4⟩:=path_both hN hl hd hv hnm (x:=d.X) (by omega) a2
  by_cases cY:d.Y < 0
  ·rw [dT cY,itoa_eq hc,digits09_eq hN hc,e3,e4]
   simp only [cT,cF,bS]
   rw [show str [32,60,61,32]=mkB [32,60,61,32] from rfl,cat_mk (by simp;omega)]
   simp only [bS]
   rw [cat_sb (by simp;omega)]
   exact ⟨_,by simp;omega,rfl,rfl⟩
  ·obtain ⟨s',u',t',_,b2',_,_,e3',e4'⟩:=path_both hN hl hd hv hnm (x:=d.Y) (by omega) a4
   rw [dF cX,dF cY,e3,e4,e3',e4']
   simp only [cT,cF,bS]
   rw [show str [32,60,61,32]=mkB [32,60,61,32] from rfl,cat_mk (by simp;omega)]
   simp only [bS]
   rw [cat_mk (by simp;omega)]
   simp only [bS]
   by_cases p1:d.C > 0
   ·rw [dT p1,itoa_eq hc,digits09_eq hN hc]
    simp only [cT,bS]
    rw [show str [32,43,32]=mkB [32,43,32] from rfl,cat_mk (by simp;omega)]
    simp only [bS]
    rw [cat_sb (by simp;omega)]
    exact ⟨_,by simp;omega,rfl,rfl⟩
   ·rw [dF p1]
    by_cases p2:d.C < 0
    ·rw [dT p2,hw,itoa_eq hm,digits09_eq hN hm]
     simp only [cT,cF,bS]
     rw [show str [32,45,32]=mkB [32,45,32] from rfl,cat_mk (by simp;omega)]
     simp only [bS]
     rw [cat_sb (by simp;omega)]
     exact ⟨_,by simp;omega,rfl,rfl⟩
    ·rw [dF p2]
     exact ⟨_,by simp;omega,rfl,rfl⟩
theorem atom_both (hN:4194304 < N) (l:List T0) (hl:l.length≤1000) (hd:∀ x∈l,SizeD x) (hnm:∀ x∈l,NameD x) {at' part:Int} (hp:I64 part) :
  ∃ s:List UInt8,s.length≤67108864∧z46 N l at' part=some (mkB s)∧z47 N l at' part=some (mkB s):=by
 have none':∃ s:List UInt8,s.length≤67108864∧some (str [])=some (mkB s)∧some (str [])=some (mkB s):=⟨[],by simp,rfl,rfl⟩
 unfold z46 z47 z98
 rw [refValid_eq hN l (by omega) hd hnm,valid_eq hN l (by omega) hd hnm]
 simp only [bS]
 by_cases c1:at' < 0
 ·rw [dT c1]
  cases validD l<;>exact none'
 rw [dF c1]
 by_cases c2:at'≥(l.length:Int)
 ·rw [dT c2]
  cases validD l<;>exact none'
 rw [dF c2]
 simp only [cF]
 cases hv:validD l with
 | false=>exact none'
 | true =>
 obtain ⟨k,rfl⟩:=Int.eq_ofNat_of_zero_le (show 0≤at' by omega)
 have hk:k < l.length:=by omega
 have hg:=List.getElem?_eq_getElem hk
 generalize hy:l[k]=y at hg
 have hmem:=List.mem_of_getElem? hg
 obtain ⟨r,er⟩:=bounds_some hN y (hd y hmem)
 have e0:((0:Int) != 0)=false:=rfl
 simp only [Bool.not_true,cF,idx_nat,hg,bS,er,e0]
 by_cases c3:part < 0
 ·rw [dT c3];exact none'
 rw [dF c3]
 simp only [cF]
 obtain ⟨p,rfl⟩:=Int.eq_ofNat_of_zero_le (show 0≤part by omega)
 have hgv:guardV (flat l) y.Guard=true:=by
  obtain ⟨_,_,_,_,_,h2⟩:=valid_at hv hg
  exact guard_of h2
 have hin:=inG_of hgv
 have h1:=hin.dl
 have h2:=hin.el
 have hpp:z51 N y=some (((y.Guard.Diffs.length+y.Guard.Equals.length:Nat)):Int):=by
  unfold z51
  rw [w64_id (by omega) (by omega)]
  congr 1
 rw [hpp]
 simp only [bS]
 by_cases c4:p < y.Guard.Diffs.length
 ·have hx:=List.getElem?_eq_getElem c4
  rw [lt_t c4,dF (show ¬ (p:Int)≥((y.Guard.Diffs.length+y.Guard.Equals.length:Nat):Int) by omega),dF (show ¬ (p:Int)≥(y.Guard.Diffs.length:Int) by omega),idx_nat,hx]
  obtain ⟨s,q1,q2,q3⟩:=diff_both hN hl hd hv hnm (diffOk_of hgv (List.mem_of_getElem? hx))
  simp only [cT,cF,bS]
  refine ⟨s,q1,by rw [q2];rfl,?_⟩
  rw [← q3]
  unfold rdiff
  cases decide ((y.Guard.Diffs[p]).X < 0)<;>cases decide ((y.Guard.Diffs[p]).Y < 0)<;>rfl
 ·rw [lt_f (by omega)]
  simp only [cF]
  have hi:=hp.2
  have hw:w64 ((p:Int)-(y.Guard.Diffs.length:Int))=((p-y.Guard.Diffs.length:Nat):Int):=by rw [w64_id (by omega) (by omega)];omega
  rw [hw]
  by_cases c5:p-y.Guard.Diffs.length < y.Guard.Equals.length
  ·have hx:=List.getElem?_eq_getElem c5
   rw [lt_t c5,dF (show ¬ (p:Int)≥((y.Guard.Diffs.length+y.Guard.Equals.length:Nat):Int) by omega),dT (show (p:Int)≥(y.Guard.Diffs.length:Int) by omega),idx_nat,hx]
   obtain ⟨⟨a1,a2⟩,a3,a4⟩:=hin.e _ (List.mem_of_getElem? hx)
   obtain ⟨s,u,t,b1,_,q1,q2,_,_⟩:=path_both hN hl hd hv hnm a1 a2
   obtain ⟨s',u',t',b1',_,q1',q2',_,_⟩:=path_both hN hl hd hv hnm a3 a4
   simp only [cT,cF,bS,q1,q2,q1',q2']
   rw [show str [32,61,61,32]=mkB [32,61,61,32] from rfl,cat_mk (by simp;omega)]
   simp only [bS]
   rw [cat_mk (by simp;omega)]
   exact ⟨_,by simp;omega,rfl,rfl⟩
  ·rw [lt_f (by omega),dT (show (p:Int)≥((y.Guard.Diffs.length+y.Guard.Equals.length:Nat):Int) by omega)]
   exact none'
end Gp
end
section
namespace Gx
open Go Go.Kx
def k_api_Sort (x:T10):Prop:=((Lit.int .i64 x.Kind).wf=true)∧((Lit.int .i64 x.Lo).wf=true)∧((Lit.int .i64 x.Hi).wf=true)
def k_api_Field (x:T4):Prop:=(x.Name.size≤bd)∧(k_api_Sort x.Sort')
def k_api_Diff (x:T1):Prop:=((Lit.int .i64 x.X).wf=true)∧((Lit.int .i64 x.Y).wf=true)∧((Lit.int .i64 x.C).wf=true)
def k_api_Guard (x:T6):Prop:=(x.Diffs.length≤bd∧∀ y∈x.Diffs,k_api_Diff y)∧(x.Equals.length≤bd∧∀ y∈x.Equals,((Lit.int .i64 y.1).wf=true)∧((Lit.int .i64 y.2).wf=true))
def k_api_Decl (x:T0):Prop:=(x.Name.size≤bd)∧(x.Fields.length≤bd∧∀ y∈x.Fields,k_api_Field y)∧((Lit.int .i64 x.First).wf=true)∧(k_api_Guard x.Guard)
def k_api_Interaction (x:T7):Prop:=((Lit.int .i64 x.From).wf=true)∧((Lit.int .i64 x.To).wf=true)∧((Lit.int .i64 x.Label).wf=true)
def k_api_Edge (x:T2):Prop:=((Lit.int .i64 x.From).wf=true)∧(k_api_Interaction x.Act)∧((Lit.int .i64 x.To).wf=true)∧(True)
def k_api_Timeout (x:T11):Prop:=((Lit.int .i64 x.State).wf=true)∧((Lit.int .i64 x.Ticks).wf=true)∧((Lit.int .i64 x.Else).wf=true)
def k_api_Global (x:T5):Prop:=(x.Name.size≤bd)∧(x.Roles.length≤bd∧∀ y∈x.Roles,y.size≤bd)∧(x.Decls.length≤bd∧∀ y∈x.Decls,k_api_Decl y)∧((Lit.int .i64 x.States).wf=true)∧((Lit.int .i64 x.Start).wf=true)∧((Lit.int .i64 x.End).wf=true)∧(x.Edges.length≤bd∧∀ y∈x.Edges,k_api_Edge y)∧(x.Timeouts.length≤bd∧∀ y∈x.Timeouts,k_api_Timeout y)
def k_api_Value (x:T12):Prop:=((Lit.int .i64 x.Kind).wf=true)∧((Lit.int .i64 x.N).wf=true)∧(x.S.size≤bd)
def k_api_Event (x:T3):Prop:=((Lit.int .i64 x.Role).wf=true)∧(True)∧((Lit.int .i64 x.Peer).wf=true)∧((Lit.int .i64 x.Label).wf=true)∧(x.Values.length≤bd∧∀ y∈x.Values,k_api_Value y)
end Gx
end
section
namespace Gp
open Go Go.Kx Gx
set_option maxRecDepth 100000
variable {N:Nat}
theorem awake_some (k:Nat):z37 (k+300)=some true:=by kernel_rfl
theorem few15x (hN:4194304 < N) (l:List T12) (hl:l.length≤4194304):∃ b,z20 N l=some b:=by
 refine tot_from (F:=z20_l2 l) (len:=l.length) (fun n k hk hi=>?_) (fun n k hk=>?_) _ N 0 rfl (by omega)
 ·rw [z20_l2,lt_t hk,idx_nat,List.getElem?_eq_getElem hk,w64_succ (by omega)]
  simp only [cT,bS]
  exact tot_bif (fun _=>tot_some _) fun _=>hi
 ·rw [z20_l2,lt_f hk]
  exact tot_some _
theorem few18 (hN:4194304 < N) (g:T5) (hd:g.Decls.length≤4194304):∃ b,z43 N g=some b∧(b=true→g.Decls.length≤60):=by
 unfold z43 z92
 obtain ⟨b1,e1,h1⟩:=few_loop g.Decls hd g.Decls N 0 0 rfl (by omega)
 rw [show ((0:Nat):Int)=0 from rfl] at e1
 rw [e1]
 cases decide (g.States≤40)<;>cases decide ((g.Edges.length:Int)≤80)<;>cases decide ((g.Timeouts.length:Int)≤40)<;>cases decide ((g.Roles.length:Int)≤10)<;>first | exact ⟨_,rfl,h1⟩ | exact ⟨_,rfl,fun h=>by cases h⟩
theorem show_law (hN:4194304 < N) (ha:z37 N=some true) (g:T5) (x:T3) (at':Int × Int) (h:ShowOk g x) (hd:∀ y∈g.Decls,SizeD y) (hn:∀ y∈g.Decls,NameD y) (hp:I64 at'.2):law41_BlameShow N g x at'=some true:=by
 unfold law41_BlameShow
 obtain ⟨b,eb,hb⟩:=few18 hN g h.d
 rw [ha,eb]
 simp only [bS,Bool.not_true,cF]
 cases b with
 | false=>rfl
 | true =>
 simp only [Bool.not_true,cF]
 obtain ⟨c,ec⟩:=few15x hN x.Values h.l
 rw [ec]
 simp only [bS]
 cases c with
 | false=>rfl
 | true =>
 simp only [Bool.not_true,cF]
 have:=hb rfl
 obtain ⟨s,_,q1,q2⟩:=atom_both hN g.Decls (by omega) hd hn (at':=at'.1) hp
 rw [bShow_eq hN h,rShow_eq hN h,q1,q2]
 simp only [bS,beq_self_eq_true,cT]
theorem sizeD_of {x:T0} (h:k_api_Decl x):SizeD x:=by
 obtain ⟨_,h1,_,h2⟩:=h
 exact ⟨by have:=h1.1;unfold bd at this;omega,by have:=h2.1.1;unfold bd at this;omega,by have:=h2.2.1;unfold bd at this;omega⟩
theorem nameD_of {x:T0} (h:k_api_Decl x):NameD x:=by
 obtain ⟨h0,h1,_,h2⟩:=h
 exact ⟨by unfold bd at h0;omega,fun f hf=>by have:=(h1.2 f hf).1;unfold bd at this;omega⟩
theorem i64_of {n:Int} (h:(Lit.int .i64 n).wf=true):I64 n:=by
 simp [Lit.wf,IntKind.min,IntKind.max,IntKind.signed,IntKind.bits] at h
 constructor<;>omega
theorem showOk_of {g:T5} {x:T3} (hg:k_api_Global g) (hx:k_api_Event x):ShowOk g x:=by
 obtain ⟨_,g2,g3,_⟩:=hg
 obtain ⟨_,_,_,_,h1,h2⟩:=hx
 refine ⟨fun s hs=>?_,?_,fun y hy=>?_,?_,fun v hv=>⟨i64_of (h2 v hv).2.1,?_⟩⟩
 ·have:=g2.2 s hs;unfold bd at this;omega
 ·have:=g3.1;unfold bd at this;omega
 ·have:=(g3.2 y hy).1;unfold bd at this;omega
 ·unfold bd at h1;omega
 ·have:=(h2 v hv).2.2;unfold bd at this;omega
theorem plain:∀ (x0:T5) (x1:T3) (x2:Int × Int),k_api_Global x0→k_api_Event x1→(((Lit.int .i64 x2.1).wf=true)∧((Lit.int .i64 x2.2).wf=true))→∃ N,law41_BlameShow N x0 x1 x2=some true:=by
 intro g x at' hg hx ha
 have hg':=hg
 obtain ⟨_,_,g3,_⟩:=hg
 exact ⟨33554432+300,show_law (by omega) (awake_some _) g x at' (showOk_of hg' hx) (fun y hy=>sizeD_of (g3.2 y hy)) (fun y hy=>nameD_of (g3.2 y hy)) (i64_of ha.2)⟩
end Gp
end
