/- The plain law, part 1: what the functions compute answers as the statement says. -/
import Derived.Lib.Bytealg
import Derived.Test.YtbaebccneokflaaGreatDoorGuardLeastPure
set_option linter.all false
section
section
namespace Gp
open Go Go.Kx
theorem dF {p:Prop} [Decidable p] (h:¬p):decide p=false:=decide_eq_false h
theorem dT {p:Prop} [Decidable p] (h:p):decide p=true:=decide_eq_true h
theorem bS {α β:Type _} (a:α) (f:α→Option β):(some a).bind f=f a:=rfl
theorem cF {α:Sort _} {a b:α}:(bif false then a else b)=b:=rfl
theorem cT {α:Sort _} {a b:α}:(bif true then a else b)=a:=rfl
theorem aA {α:Type _} (a b c:List α):(a++b)++c=a++(b++c):=List.append_assoc a b c
theorem lA {α:Type _} {a b:List α}:(a++b).length=a.length+b.length:=List.length_append
theorem w64_id {n:Int} (h1:-9223372036854775808≤n) (h2:n≤9223372036854775807):w64 n=n:=by
 show IntKind.i64.wrap n=n
 simp [IntKind.wrap,IntKind.signed,IntKind.bits]
 omega
theorem w64_succ {n:Nat} (h:n < 4611686018427387904):w64 ((n:Int)+1)=((n+1:Nat):Int):=by rw [w64_id (by omega) (by omega)];omega
theorem idx_nat {α:Type} (xs:List α) (k:Nat):idx xs (k:Int)=xs[k]? := by
 unfold idx
 have:decide (0≤(k:Int))=true:=by simp
 rw [this];simp
theorem idx_int {α:Type} {xs:List α} {i:Int} {k:Nat} (h:i=k):idx xs i=xs[k]? := by rw [h,idx_nat]
theorem setL'_nat {α:Type} (xs:List α) (k:Nat) (e:α):setL' xs (k:Int) e=xs.set k e:=by unfold setL';simp
theorem setL'_int {α:Type} {xs:List α} {i:Int} {k:Nat} (h:i=k) (e:α):setL' xs i e=xs.set k e:=by rw [h,setL'_nat]
theorem get_mid {α:Type} (A:List α) (x:α) (B:List α) {k:Nat} (h:A.length=k):(A++x::B)[k]? = some x:=by
 subst h;simp
theorem set_mid {α:Type} (A:List α) (x y:α) (B:List α) {k:Nat} (h:A.length=k):(A++x::B).set k y=A++y::B:=by
 subst h;simp
theorem idx_mid {α:Type} {L A:List α} {x:α} {B:List α} {i:Int} (hL:L=A++x::B) (h:i=(A.length:Int)):idx L i=some x:=by
 rw [idx_int h,hL];exact get_mid A x B rfl
theorem setL'_mid {α:Type} {L A:List α} {x:α} {B:List α} {i:Int} (hL:L=A++x::B) (h:i=(A.length:Int)) (y:α):setL' L i y=A++y::B:=by
 rw [setL'_int h,hL];exact set_mid A x y B rfl
theorem appL_some {α:Type} {xs ys:List α} (h:xs.length+ys.length≤4294967296):appL xs ys=some (xs++ys):=by
 unfold appL
 have:Nat.ble (xs.length+ys.length) lim=true:=Nat.ble_eq_true_of_le h
 rw [this];rfl
theorem drop_cons {α:Type} {xs:List α} {k:Nat} {x:α} {l:List α} (h:xs.drop k=x::l):k < xs.length∧xs[k]? = some x∧xs.drop (k+1)=l:=by
 have hlt:k < xs.length:=by
  rcases Nat.lt_or_ge k xs.length with h' | h'
  ·exact h'
  ·rw [List.drop_eq_nil_of_le h'] at h;cases h
 rw [List.drop_eq_getElem_cons hlt] at h
 simp only [List.cons.injEq] at h
 exact ⟨hlt,by rw [List.getElem?_eq_getElem hlt,h.1],h.2⟩
theorem drop_nil {α:Type} {xs:List α} {k:Nat} (h:xs.drop k=[]):xs.length≤k:=by simpa using h
def lv {α γ:Type} (b:α→Nat→γ→γ) (e:γ):List α→Nat→γ
 | [],_=>e
 | x::l,k=>b x k (lv b e l (k+1))
theorem lv_of {α γ:Type} (xs:List α) (F:Nat→Int→γ) (b:α→Nat→γ→γ) (e:γ)
  (h1:∀ n k x,k < xs.length→xs[k]? = some x→F (n+1) (k:Int)=b x k (F n ((k+1:Nat):Int)))
  (h2:∀ n k,xs.length≤k→F (n+1) (k:Int)=e) :
  ∀ (l:List α) (k n:Nat),xs.drop k=l→l.length < n→F n (k:Int)=lv b e l k:=by
 intro l
 induction l with
 | nil =>
  intro k n h hn
  obtain ⟨n,rfl⟩:∃ m,n=m+1:=⟨n-1,by simp at hn;omega⟩
  exact h2 n k (drop_nil h)
 | cons x l ih =>
  intro k n h hn
  obtain ⟨n,rfl⟩:∃ m,n=m+1:=⟨n-1,by simp at hn;omega⟩
  obtain ⟨a,c,d⟩:=drop_cons h
  rw [h1 n k x a c,ih (k+1) n d (by simp at hn;omega)];rfl
theorem lv_from {α γ:Type} {xs:List α} {F:Nat→Int→γ} {b:α→Nat→γ→γ} {e:γ} {n:Nat} {i:Int} (hn:xs.length < n) (hi:i=((0:Nat):Int))
  (h1:∀ n k x,k < xs.length→xs[k]? = some x→F (n+1) (k:Int)=b x k (F n ((k+1:Nat):Int)))
  (h2:∀ n k,xs.length≤k→F (n+1) (k:Int)=e):F n i=lv b e xs 0:=by
 rw [hi];exact lv_of xs F b e h1 h2 xs 0 n rfl hn
theorem lt_t {k n:Nat} (h:k < n):decide ((k:Int) < (n:Int))=true:=by simp [h]
theorem lt_f {k n:Nat} (h:n≤k):decide ((k:Int) < (n:Int))=false:=by simp;omega
end Gp
end
section
namespace Gp
open Go Go.Kx
def Lt {α:Type} (K:α→Int) (r:α→α→Prop) (x y:α):Prop:=K x < K y∨(K x=K y∧r x y)
def Srt {α:Type} (K:α→Int) (r:α→α→Prop) (l:List α):Prop:=l.Pairwise (Lt K r)
variable {α:Type} {K:α→Int} {r:α→α→Prop}
inductive Bk (K:α→Int) (r:α→α→Prop) (n:Nat):List α→List α→Prop
 | last (o c:List α):c.length≤n→c.Perm o→Srt K r c→Bk K r n o c
 | cons (o1 c1 o2 c2:List α):c1.length=n→c1.Perm o1→Srt K r c1→Bk K r n o2 c2→Bk K r n (o1++o2) (c1++c2)
theorem Bk.few {n:Nat} {o c:List α} (h:Bk K r n o c) (hn:0 < n) (hc:c.length < 2 * n) :
  (c.length≤n∧c.Perm o∧Srt K r c)∨∃ o1 o2 c1 c2,o=o1++o2∧c=c1++c2∧c1.length=n∧0 < c2.length∧c2.length≤n∧c1.Perm o1∧c2.Perm o2∧Srt K r c1∧Srt K r c2:=by
 cases h with
 | last _ _ h1 h2 h3=>exact .inl ⟨h1,h2,h3⟩
 | cons o1 c1 o2 c2 h1 h2 h3 h4 =>
  cases h4 with
  | last _ _ g1 g2 g3 =>
   rcases Nat.eq_zero_or_pos c2.length with h0 | h0
   ·have:c2=[]:=List.length_eq_zero_iff.mp h0
    subst this
    have:o2=[]:=by simpa using g2.symm
    subst this
    exact .inl ⟨by simp;omega,by simpa using h2,by simpa using h3⟩
   ·exact .inr ⟨o1,o2,c1,c2,rfl,rfl,h1,h0,g1,h2,g2,h3,g3⟩
  | cons p1 d1 p2 d2 g1 g2 g3 g4=>simp at hc;omega
theorem Bk.all {n:Nat} {o c:List α} (h:Bk K r n o c) (hn:0 < n) (hc:c.length≤n):c.Perm o∧Srt K r c:=by
 rcases h.few hn (by omega) with h | ⟨o1,o2,c1,c2,h1,h2,h3,h4,_⟩
 ·exact h.2
 ·subst h2;simp at hc;omega
end Gp
end
section
namespace Gp
open Go Go.Kx Gx
theorem look {α γ:Type} (xs:List α) (hs:xs.length≤4194304) (b:α→Int→γ→γ) (F:Nat→Int→γ) (e:γ) {n:Nat} (hn:4194304 < n)
  (h1:∀ n k x,k < xs.length→xs[k]? = some x→F (n+1) (k:Int)=b x k (F n (w64 ((k:Int)+1))))
  (h2:∀ n k,xs.length≤k→F (n+1) (k:Int)=e):F n (0:Int)=lv (fun x (k:Nat) r=>b x (k:Int) r) e xs 0 :=
 lv_from (by omega) rfl (fun n k x hk hx=>by rw [h1 n k x hk hx,w64_succ (by omega)]) h2
def eqStr (a b:ByteArray):Bool:=a.toList==b.toList
structure SizeD (x:T0):Prop where
 f:x.Fields.length≤4194304
 d:x.Guard.Diffs.length≤4194304
 e:x.Guard.Equals.length≤4194304
variable {N:Nat} (hN:4194304 < N)
end Gp
end
section
namespace Gp
open Go Go.Kx Gx
variable {N:Nat} (hN:4194304 < N)
def whereV {α:Type} (f:α→Bool) (l:List α):Option Int:=lv (fun x (k:Nat) r=>bif f x then some (k:Int) else r) (some (-1)) l 0
theorem bcomm (a b:ByteArray):(a.toList==b.toList)=(b.toList==a.toList):=by
 rw [Bool.eq_iff_iff,beq_iff_eq,beq_iff_eq];exact ⟨Eq.symm,Eq.symm⟩
include hN in
theorem Index_eq (l:List ByteArray) (hl:l.length≤4194304) (v:ByteArray):z217 N l v=whereV (fun x=>eqStr x v) l:=by
 unfold z217 whereV
 refine look l hl (fun x k r=>bif eqStr x v then some k else r) (z217_l2 l v) _ hN ?_ ?_
 ·intro n k x hk hx
  simp only [z217_l2,lt_t hk,idx_nat,hx,cT,bS,eqStr,bcomm v x]
 ·intro n k hk
  simp only [z217_l2,lt_f hk,cF,z217_k1]
end Gp
end
section
namespace Gp
open Go Go.Kx Gx
theorem lsl_to {α:Type} {L A B:List α} {i:Int} (hL:L=A++B) (hi:i=(A.length:Int)):lsl L none (some i)=some A:=by
 subst hL hi
 have h:decide ((A.length:Int)≤((A++B).length:Int))=true:=by simp;omega
 have h2:decide ((0:Int)≤(A.length:Int))=true:=by simp
 unfold lsl bnd
 simp only [Option.getD_some,Option.getD_none,h,h2]
 simp
end Gp
end
section
namespace Gp
open Go Go.Kx Gx
def allV {α:Type} (p:α→Nat→Bool):List α→Nat→Bool
 | [],_=>true
 | x::l,k=>p x k && allV p l (k+1)
theorem allV_of {α:Type} (p:α→Nat→Bool) (xs:List α) (F:Nat→Int→Option Bool) (e:Option Bool)
  (h1:∀ n k x,k < xs.length→xs[k]? = some x→F (n+1) (k:Int)=bif p x k then F n ((k+1:Nat):Int) else some false)
  (h2:∀ n k,xs.length≤k→F (n+1) (k:Int)=e) :
  ∀ (l:List α) (k n:Nat),xs.drop k=l→l.length < n→F n (k:Int)=bif allV p l k then e else some false:=by
 intro l
 induction l with
 | nil =>
  intro k n h hn
  obtain ⟨n,rfl⟩:∃ m,n=m+1:=⟨n-1,by simp at hn;omega⟩
  exact h2 n k (drop_nil h)
 | cons x l ih =>
  intro k n h hn
  obtain ⟨n,rfl⟩:∃ m,n=m+1:=⟨n-1,by simp at hn;omega⟩
  obtain ⟨a,c,d⟩:=drop_cons h
  rw [h1 n k x a c,ih (k+1) n d (by simp at hn;omega)]
  show _=bif (p x k && allV p l (k+1)) then e else some false
  cases p x k<;>rfl
theorem allV_from {α:Type} (p:α→Nat→Bool) {xs:List α} {F:Nat→Int→Option Bool} {e:Option Bool} {n:Nat} (hn:xs.length < n)
  (h1:∀ n k x,k < xs.length→xs[k]? = some x→F (n+1) (k:Int)=bif p x k then F n ((k+1:Nat):Int) else some false)
  (h2:∀ n k,xs.length≤k→F (n+1) (k:Int)=e):F n (0:Int)=bif allV p xs 0 then e else some false :=
 allV_of p xs F e h1 h2 xs 0 n rfl hn
theorem allV_iff {α:Type} (p:α→Nat→Bool):∀ (l:List α) (k:Nat),allV p l k=true↔∀ i x,l[i]? = some x→p x (k+i)=true
 | [],k=>by simp [allV]
 | x::l,k=>by
  show (p x k && allV p l (k+1))=true↔_
  rw [Bool.and_eq_true,allV_iff p l (k+1)]
  constructor
  ·rintro ⟨h0,h1⟩ i y hy
   cases i with
   | zero=>simp at hy;subst hy;exact h0
   | succ i=>have:=h1 i y (by simpa using hy);rw [show k+(i+1)=k+1+i by omega];exact this
  ·intro h
   exact ⟨by simpa using h 0 x (by simp),fun i y hy=>by rw [show k+1+i=k+(i+1) by omega];exact h (i+1) y (by simpa using hy)⟩
def bs (s:ByteArray):List UInt8:=s.data.toList
theorem size_bs (s:ByteArray):s.size=(bs s).length:=rfl
theorem slt_t {s:ByteArray} {k:Nat} (h:k < (bs s).length):decide ((k:Int) < (s.size:Int))=true:=lt_t h
theorem slt_f {s:ByteArray} {k:Nat} (h:(bs s).length≤k):decide ((k:Int) < (s.size:Int))=false:=lt_f h
theorem toList_bs (s:ByteArray):s.toList=bs s:=ByteArray.toList_eq s
theorem bs_inj {a b:ByteArray} (h:bs a=bs b):a=b:=by
 cases a with | mk a=>cases b with | mk b=>simpa [bs] using h
theorem sidx_bs (s:ByteArray) (k:Nat):sidx s (k:Int)=(bs s)[k]?.map (fun b=>(b.toNat:Int)):=by
 unfold sidx
 have h:decide (0≤(k:Int))=true:=by simp
 rw [h,cT]
 have e:s[(k:Int).toNat]? = (bs s)[k]? := by
  simp [getElem?_def,bs]
  split<;>simp_all
  rfl
 rw [e]
variable {N:Nat} (hN:4194304 < N)
def letterV (c:Int):Bool:=(decide (97≤c) && decide (c≤122)) || (decide (65≤c) && decide (c≤90))
def innerV (c:Int):Bool:=letterV c || ((decide (48≤c) && decide (c≤57)) || c==95)
theorem letter_eq (N:Nat) (c:Int):z129 N c=some (letterV c):=by
 unfold z129 letterV
 cases decide (97≤c)<;>cases decide (c≤122)<;>cases decide (65≤c)<;>rfl
theorem refLetter_eq (N:Nat) (c:Int):ref09_letter N c=some (letterV c):=letter_eq N c
theorem inner_eq (N:Nat) (c:Int):z197 N c=some (innerV c):=by
 unfold z197 innerV z131
 rw [letter_eq]
 simp only [bS]
 cases letterV c
 ·cases decide (48≤c)<;>cases decide (c≤57)<;>rfl
 ·rfl
def isName (s:ByteArray):Bool :=
 match bs s with
 | []=>false
 | x::l=>letterV (x.toNat:Int) && (decide (l.length < 16) && allV (fun (c:UInt8) _=>innerV (c.toNat:Int)) (x::l) 0)
def keywords:List ByteArray:=[(str [97,103,97,105,110]),(str [97,110,100]),(str [97,115]),(str [97,116]),(str [99,97,108,108]),(str [99,104,111,105,99,101]),(str [101,108,115,101]),(str [102,114,111,109]),(str [105,102]),(str [105,110,116]),(str [108,101,110]),(str [108,111,111,112]),(str [109,101,115,115,97,103,101]),(str [111,102]),(str [111,102,102,101,114]),(str [111,110]),(str [111,114]),(str [112,97,114]),(str [112,108,97,121,115]),(str [112,114,111,116,111,99,111,108]),(str [115,101,114,118,105,99,101]),(str [116,101,120,116]),(str [116,105,109,101,115]),(str [116,111]),(str [118,97,114]),(str [119,104,101,114,101]),(str [119,104,105,108,101]),(str [119,105,116,104,105,110])]
def isWord (s:ByteArray):Bool:=isName s && !(keywords.any fun k=>eqStr k s)
include hN in
theorem nameL (s:ByteArray) (hs:s.size≤4194304):z192_l2 N s N (0:Int)=some (allV (fun (c:UInt8) _=>innerV (c.toNat:Int)) (bs s) 0):=by
 rw [size_bs] at hs
 rw [allV_from (xs:=bs s) (fun (c:UInt8) _=>innerV (c.toNat:Int)) (F:=z192_l2 N s) (e:=some true) (by omega)]
 ·cases allV (fun (c:UInt8) _=>innerV (c.toNat:Int)) (bs s) 0<;>rfl
 ·intro n k x hk hx
  simp only [z192_l2,slt_t hk,cT,sidx_bs,hx,Option.map_some,bS,inner_eq,w64_succ (show k < 4611686018427387904 by omega)]
  cases innerV (x.toNat:Int)<;>rfl
 ·intro n k hk
  simp only [z192_l2,slt_f hk,cF,z192_k1]
theorem nameL_ref (s:ByteArray):∀ n k,ref09_IsName_l2 N s n k=z192_l2 N s n k
 | 0,_=>rfl
 | n+1,k=>by
  simp only [ref09_IsName_l2,z192_l2,nameL_ref s n]
  rfl
theorem bs_nil:bs (str [])=[]:=rfl
include hN in
theorem name_eq (s:ByteArray) (hs:s.size≤4194304):z192 N s=some (isName s)∧ref09_IsName N s=some (isName s):=by
 unfold z192 ref09_IsName
 rw [nameL_ref,nameL hN s hs,toList_bs,toList_bs,bs_nil,size_bs,show sidx s (0:Int)=sidx s ((0:Nat):Int) from rfl,sidx_bs]
 unfold isName
 cases h:bs s with
 | nil=>exact ⟨rfl,rfl⟩
 | cons x l =>
  have e:(x::l==([]:List UInt8))=false:=rfl
  rw [e]
  simp only [cF,List.getElem?_cons_zero,Option.map_some,bS,letter_eq,refLetter_eq]
  have d:decide (((x::l).length:Int) > 16) = !decide (l.length < 16):=by
   by_cases q:l.length < 16
   ·rw [dT q];simp;omega
   ·rw [dF q];simp;omega
  rw [d]
  cases letterV (x.toNat:Int)<;>cases decide (l.length < 16)<;>exact ⟨rfl,rfl⟩
theorem whereV_any {α:Type} (f:α→Bool) (l:List α) (k:Nat):∃ i,lv (fun x (k:Nat) r=>bif f x then some (k:Int) else r) (some (-1)) l k=some i∧decide (i≥0)=l.any f:=by
 induction l generalizing k with
 | nil=>exact ⟨-1,rfl,rfl⟩
 | cons x l ih =>
  show ∃ i,(bif f x then some (k:Int) else lv _ _ l (k+1))=some i∧_
  rw [List.any_cons]
  cases f x
  ·exact ih (k+1)
  ·exact ⟨k,rfl,by simp⟩
include hN in
theorem contains_eq (l:List ByteArray) (hl:l.length≤4194304) (v:ByteArray):z157 N l v=some (l.any fun x=>eqStr x v):=by
 unfold z157
 rw [Index_eq hN l hl]
 obtain ⟨i,h1,h2⟩:=whereV_any (fun x=>eqStr x v) l 0
 unfold whereV
 rw [h1,bS,h2]
include hN in
theorem refIn_eq (l:List ByteArray) (hl:l.length≤4194304) (v:ByteArray):ref09_in N l v=some (l.any fun x=>eqStr x v):=by
 unfold ref09_in
 rw [look l hl (fun x k r=>bif eqStr x v then some true else r) (ref09_in_l2 l v) (some false) hN]
 ·generalize (0:Nat)=k
  induction l generalizing k with
  | nil=>rfl
  | cons x l ih =>
   show (bif eqStr x v then some true else lv _ _ l (k+1))=_
   rw [List.any_cons,ih (by simp at hl;omega)]
   cases eqStr x v<;>rfl
 ·intro n k x hk hx
  simp only [ref09_in_l2,lt_t hk,idx_nat,hx,cT,bS,eqStr]
 ·intro n k hk
  simp only [ref09_in_l2,lt_f hk,cF,ref09_in_k1]
include hN in
theorem word_eq (s:ByteArray) (hs:s.size≤4194304):z122 N s=some (isWord s)∧ref09_IsWord N s=some (isWord s):=by
 obtain ⟨h1,h2⟩:=name_eq hN s hs
 unfold z122 ref09_IsWord ref09_Keywords
 rw [h1,h2]
 simp only [bS]
 have c1:=contains_eq hN keywords (by decide) s
 have c2:=refIn_eq hN keywords (by decide) s
 unfold keywords at c1 c2
 rw [c1,c2]
 unfold isWord keywords
 simp only [bS]
 cases isName s<;>exact ⟨rfl,rfl⟩
end Gp
end
section
namespace Gp
open Go Go.Kx Gx
theorem minI_lt {a b n:Int}:minI a b < n↔a < n∨b < n:=by unfold minI;split<;>omega
theorem maxI_ge {a b n:Int}:maxI a b≥n↔a≥n∨b≥n:=by unfold maxI;split<;>omega
variable {N:Nat} (hN:4194304 < N)
end Gp
end
section
namespace Gp
open Go Go.Kx Gx
theorem idx_some {α:Type} {L:List α} {v:Int} {d:α} (h:idx L v=some d):0≤v∧v < (L.length:Int):=by
 by_cases h0:0≤v
 ·obtain ⟨k,rfl⟩:∃ k:Nat,v=(k:Int):=⟨v.toNat,by omega⟩
  rw [idx_nat] at h
  obtain ⟨hk,_⟩:=List.getElem?_eq_some_iff.mp h
  exact ⟨h0,by omega⟩
 ·unfold idx at h
  rw [dF h0] at h;cases h
theorem idx_lt {α:Type} {L:List α} {v:Int} (h0:0≤v) (h1:v < (L.length:Int)):∃ d,idx L v=some d:=by
 obtain ⟨k,rfl⟩:∃ k:Nat,v=(k:Int):=⟨v.toNat,by omega⟩
 exact ⟨L[k]'(by omega),by rw [idx_nat,List.getElem?_eq_getElem]⟩
theorem setL_len {α:Type} (L:List α) {b:Int} (d:α) (h0:0≤b):(setL' L b d).length=L.length:=by
 obtain ⟨k,rfl⟩:∃ k:Nat,b=(k:Int):=⟨b.toNat,by omega⟩
 rw [setL'_nat];simp
theorem idx_set {α:Type} {L:List α} {b:Int} {d:α} (h0:0≤b) (h1:b < (L.length:Int)) (v:Int):idx (setL' L b d) v=if v=b then some d else idx L v:=by
 obtain ⟨k,rfl⟩:∃ k:Nat,b=(k:Int):=⟨b.toNat,by omega⟩
 rw [setL'_nat]
 by_cases hv:0≤v
 ·obtain ⟨j,rfl⟩:∃ j:Nat,v=(j:Int):=⟨v.toNat,by omega⟩
  rw [idx_nat,idx_nat,List.getElem?_set]
  by_cases e:k=j
  ·subst e;simp;omega
  ·rw [if_neg e,if_neg (by omega)]
 ·rw [if_neg (by omega)]
  unfold idx
  rw [dF hv];rfl
structure Jn (E:List (Int × Int)) (S:Nat) (e da:Int) (out todo:List Int) (mu:Nat):Prop where
 len:out.length=S
 lo:∀ v d,idx out v=some d→-1≤d∧d≤da+1
 ub:∀ v d,idx out v=some d→d+(out.count (-1):Nat)+1≤(S:Int)
 root:idx out e=some 0
 zero:∀ v,idx out v=some 0→v=e
 pred:∀ v d,idx out v=some d→0 < d→∃ u,(u,v)∈E∧idx out u=some (d-1)
 todo_in:∀ v∈todo,∃ d,idx out v=some d∧da≤d∧0≤d
 sorted:todo.Pairwise (fun x y=>∀ dx dy,idx out x=some dx→idx out y=some dy→dx≤dy)
 proc:∀ u v d,(u,v)∈E→idx out u=some d→0≤d→u ∉ todo→∃ d',idx out v=some d'∧0≤d'∧d'≤d+1
 mu_eq:out.count (-1)+todo.length=mu
variable {N:Nat}
structure Dist (E:List (Int × Int)) (S:Nat) (e:Int) (L:List Int):Prop where
 len:L.length=S
 lo:∀ v d,idx L v=some d→-1≤d∧d < (S:Int)
 root:idx L e=some 0
 zero:∀ v,idx L v=some 0→v=e
 pred:∀ v d,idx L v=some d→0 < d→∃ u,(u,v)∈E∧idx L u=some (d-1)
 succ:∀ u v d,(u,v)∈E→idx L u=some d→0≤d→∃ d',idx L v=some d'∧0≤d'∧d'≤d+1
end Gp
end
section
namespace Gp
open Go Go.Kx Gx
variable {N:Nat}
structure Rc (S:Nat) (F:List Int) (n:Int) (R:List Bool):Prop where
 len:R.length=S
 sound:∀ v,idx R v=some true→∃ d,idx F v=some d∧0≤d
 full:∀ v d,idx F v=some d→0≤d→d≤n→idx R v=some true
theorem Rc.set {S:Nat} {F:List Int} {n:Int} {R:List Bool} (h:Rc S F n R) {v:Int} {b:Bool} (v0:0≤v) (v1:v < (S:Int)) (hb:b=true→∃ d,idx F v=some d∧0≤d) (hm:idx R v=some true→b=true):Rc S F n (setL' R v b):=by
 have hset:=fun w=>idx_set (L:=R) (d:=b) v0 (by rw [h.len];exact v1) w
 refine ⟨by rw [setL_len _ _ v0,h.len],?_,?_⟩
 ·intro w hw
  rw [hset] at hw
  split at hw
  ·rename_i hc;subst hc;exact hb (Option.some.inj hw)
  ·exact h.sound w hw
 ·intro w d hw h0 h1
  rw [hset]
  split
  ·rename_i hc;subst hc
   rw [hm (h.full _ _ hw h0 h1)]
  ·exact h.full w d hw h0 h1
end Gp
end
section
namespace Gp
open Go Go.Kx Gx
def mkB (l:List UInt8):ByteArray:=⟨l.toArray⟩
theorem bs_mkB (l:List UInt8):bs (mkB l)=l:=by simp [bs,mkB]
theorem mkB_bs (s:ByteArray):mkB (bs s)=s:=bs_inj (bs_mkB _)
theorem bs_extract (s:ByteArray) (a b:Nat):bs (s.extract a b)=((bs s).take b).drop a:=by
 unfold bs
 rw [ByteArray.data_extract,Array.toList_extract]
 simp [List.extract,List.drop_take]
theorem ssl_mid {s:ByteArray} {x y z:List UInt8} {i j:Int} (h:bs s=x++(y++z)) (hi:i=(x.length:Int)) (hj:j=((x.length+y.length:Nat):Int)):ssl s (some i) (some j)=some (mkB y):=by
 subst hi hj
 have q1:decide ((0:Int)≤(x.length:Int))=true:=by simp
 have q2:decide ((x.length:Int)≤((x.length+y.length:Nat):Int))=true:=by simp;omega
 have q3:decide (((x.length+y.length:Nat):Int)≤(s.size:Int))=true:=by rw [size_bs,h];simp;omega
 unfold ssl bnd
 simp only [Option.getD_some,q1,q2,q3,Bool.and_self,cT,Option.map_some,Int.toNat_natCast]
 congr 1
 apply bs_inj
 rw [bs_extract,bs_mkB,h,← aA,List.take_append_of_le_length (by simp),List.take_of_length_le (by simp)]
 simp
theorem ssl_to {s:ByteArray} {x y:List UInt8} {j:Int} (h:bs s=x++y) (hj:j=(x.length:Int)):ssl s none (some j)=some (mkB x):=by
 have e:ssl s none (some j)=ssl s (some 0) (some j):=rfl
 rw [e]
 exact ssl_mid (x:=[]) (y:=x) (z:=y) (by rw [h];rfl) rfl (by rw [hj];simp)
theorem ssl_from {s:ByteArray} {x y:List UInt8} {i:Int} (h:bs s=x++y) (hi:i=(x.length:Int)):ssl s (some i) none=some (mkB y):=by
 have e:ssl s (some i) none=ssl s (some i) (some (s.size:Int)):=rfl
 rw [e]
 exact ssl_mid (x:=x) (y:=y) (z:=[]) (by rw [h];simp) hi (by rw [size_bs,h];simp)
theorem indexB_some {l:List UInt8} {c:UInt8} (h:0 < l.count c):∃ p q,l=p++c::q∧p.count c=0∧Go.Lib.indexByte l c=(p.length:Int):=by
 induction l with
 | nil=>simp at h
 | cons b l ih =>
  cases hc:(b==c)
  ·rw [List.count_cons,hc] at h
   obtain ⟨p,q,h1,h2,h3⟩:=ih (by simpa using h)
   refine ⟨b::p,q,by rw [h1];rfl,by rw [List.count_cons,h2,hc];rfl,?_⟩
   unfold Go.Lib.indexByte
   rw [hc,h3,show ((p.length:Int)==-1)=false by simp]
   simp
  ·have:b=c:=by simpa using hc
   subst this
   exact ⟨[],l,rfl,by simp,by unfold Go.Lib.indexByte;rw [hc];rfl⟩
def splitA (acc:List UInt8):List UInt8→List (List UInt8)
 | []=>[acc]
 | c::l=>if c=46 then acc::splitA [] l else splitA (acc++[c]) l
theorem splitA_cons (acc:List UInt8) (c:UInt8) (l:List UInt8):splitA acc (c::l)=if c=46 then acc::splitA [] l else splitA (acc++[c]) l:=rfl
theorem splitA_none:∀ (l acc:List UInt8),l.count 46=0→splitA acc l=[acc++l]
 | [],acc,_=>by simp [splitA]
 | c::l,acc,h=>by
  rw [List.count_cons] at h
  have hc:¬ c=46:=by intro hc;subst hc;simp at h
  rw [splitA_cons,if_neg hc,splitA_none l _ (by omega)];simp
theorem splitA_some:∀ (p acc q:List UInt8),p.count 46=0→splitA acc (p++46::q)=(acc++p)::splitA [] q
 | [],acc,q,_=>by rw [List.nil_append,splitA_cons,if_pos rfl,List.append_nil]
 | c::p,acc,q,h=>by
  rw [List.count_cons] at h
  have hc:¬ c=46:=by intro hc;subst hc;simp at h
  show splitA acc (c::(p++46::q))=_
  rw [splitA_cons,if_neg hc,splitA_some p _ q (by omega)];simp
theorem splitA_len:∀ (l acc:List UInt8),(splitA acc l).length=l.count 46+1
 | [],acc=>by simp [splitA]
 | c::l,acc=>by
  rw [splitA_cons,List.count_cons]
  split
  ·rename_i h;subst h
   rw [List.length_cons,splitA_len l];simp
  ·rename_i h
   rw [splitA_len l];simp [h]
variable {N:Nat}
theorem index_eq (s:ByteArray):z236 N s (str [46])=some (Go.Lib.indexByte (bs s) 46):=by
 unfold z236 z267
 have h1:(((str [46]).size:Int)==0)=false:=rfl
 have h2:(((str [46]).size:Int)==1)=true:=rfl
 have h3:sidx (str [46]) (0:Int)=some 46:=by
  rw [show (0:Int)=((0:Nat):Int) from rfl,sidx_bs];rfl
 rw [h1,h2,h3]
 simp only [cT,cF,bS,z235]
 have hf:firstB s 46=Go.Lib.indexByte (bs s) 46:=Go.Lib.firstIdx_eq s 46
 rw [hf,toList_bs,toList_bs]
 cases he:(bs (str [46])==bs s)
 ·rfl
 ·have he:bs (str [46])=bs s:=eq_of_beq he
  rw [← he];rfl
theorem count_eq (s:ByteArray):z262 N s (str [46])=some (((bs s).count 46:Nat):Int):=by
 unfold z262
 have h1:(((str [46]).size:Int)==0)=false:=rfl
 have h2:(((str [46]).size:Int)==1)=true:=rfl
 have h3:sidx (str [46]) (0:Int)=some 46:=by
  rw [show (0:Int)=((0:Nat):Int) from rfl,sidx_bs];rfl
 rw [h1,h2,h3]
 simp only [cT,cF,bS]
 congr 1
 unfold countB
 rw [show s.foldl (fun (n:Int) x=>if x==Kx.byteOf 46 then n+1 else n) ((0:Nat):Int)=(bs s).foldl (fun (n:Int) x=>if x==Kx.byteOf 46 then n+1 else n) ((0:Nat):Int) from Go.Lib.foldl_data _ _ _,Go.Lib.count_foldl]
 simp [Go.Lib.countByte,Kx.byteOf]
theorem gen_loop (s sep:ByteArray) (hsep:sep=str [46]) (cnt:Nat) (hc:cnt≤s.size) (hs:s.size≤4194304) :
  ∀ (n:Nat) (cur:ByteArray) (D R:List ByteArray),(bs cur).count 46 < n→(bs cur).length≤4194304→D.length+(bs cur).count 46=cnt→R.length=(bs cur).count 46+1 →
  z233_l2 N s sep (0:Int) ((cnt+1:Nat):Int) n cur (D++R) (D.length:Int)=some (D++(splitA [] (bs cur)).map mkB):=by
 subst hsep
 intro n
 induction n with
 | zero=>intro cur D R h;omega
 | succ n ih =>
  intro cur D R hn hcur hD hR
  have hw:w64 ((s.size:Int)+1)=((s.size+1:Nat):Int):=w64_succ (by omega)
  have hmin:minI ((cnt+1:Nat):Int) ((s.size+1:Nat):Int)=((cnt+1:Nat):Int):=by unfold minI;rw [if_neg (by omega)]
  have hw2:w64 (((cnt+1:Nat):Int)-1)=(cnt:Int):=by rw [w64_id (by omega) (by omega)];omega
  have fin:(bs cur).count 46=0→z233_k1 cur (D++R) (D.length:Int)=some (D++(splitA [] (bs cur)).map mkB):=by
   intro h0
   rw [h0] at hR
   obtain ⟨r,rfl⟩:=List.length_eq_one_iff.mp hR
   unfold z233_k1
   rw [idx_mid (A:=D) (x:=r) (B:=[]) rfl rfl,bS,setL'_mid (A:=D) (x:=r) (B:=[]) rfl rfl,w64_succ (by omega),lsl_to (A:=D++[cur]) (B:=[]) (by simp) (by simp),splitA_none _ _ h0]
   simp [mkB_bs]
  by_cases hlt:D.length < cnt
  ·have hd:decide ((D.length:Int) < (cnt:Int))=true:=by simp;omega
   obtain ⟨p,q,e1,e2,e3⟩:=indexB_some (l:=bs cur) (c:=46) (by omega)
   have hlen:(bs cur).length=p.length+(q.length+1):=by rw [e1];simp
   have hcnt:(bs cur).count 46=q.count 46+1:=by rw [e1,List.count_append,List.count_cons,e2];simp
   obtain ⟨r,R',rfl⟩:∃ r R',R=r::R':=by
    cases R with
    | nil=>simp at hR
    | cons r R'=>exact ⟨r,R',rfl⟩
   simp only [List.length_cons] at hR
   have hneg:decide ((p.length:Int) < 0)=false:=by simp
   have wp:w64 ((p.length:Int)+0)=(p.length:Int):=by rw [w64_id (by omega) (by omega)];omega
   have wp1:w64 ((p.length:Int)+((str [46]).size:Int))=((p++[46]:List UInt8).length:Int):=by
    rw [show ((str [46]).size:Int)=1 from rfl,w64_succ (by omega)];simp
   simp only [z233_l2,hw,hmin,hw2,hd,cT,index_eq,e3,bS,hneg,cF,wp,wp1]
   rw [ssl_to e1 rfl,bS,idx_mid (A:=D) (x:=r) (B:=R') rfl rfl,bS,ssl_from (x:=p++[46]) (y:=q) (by rw [e1];simp) rfl,bS,setL'_mid (A:=D) (x:=r) (B:=R') rfl rfl,w64_succ (by omega)]
   have:=ih (mkB q) (D++[mkB p]) R' (by rw [bs_mkB];omega) (by rw [bs_mkB];omega) (by rw [bs_mkB];simp;omega) (by rw [bs_mkB];omega)
   rw [bs_mkB] at this
   rw [show ((D.length+1:Nat):Int)=((D++[mkB p]).length:Int) by simp,show D++mkB p::R'=(D++[mkB p])++R' by simp,this,e1,splitA_some _ _ _ e2]
   simp
  ·have hd:decide ((D.length:Int) < (cnt:Int))=false:=by simp;omega
   simp only [z233_l2,hw,hmin,hw2,hd,cF]
   exact fin (by omega)
theorem split_eq (hN:4194304 < N) (s:ByteArray) (hs:s.size≤1000000):z190 N s (str [46])=some ((splitA [] (bs s)).map mkB):=by
 unfold z190 z233
 have h0:((-1:Int)==0)=false:=rfl
 have h1:((str [46]).toList==(str []).toList)=false:=by rw [toList_bs,toList_bs];rfl
 have h2:decide ((-1:Int) < 0)=true:=rfl
 have hcl:(bs s).count 46≤(bs s).length:=List.count_le_length
 rw [h0,h1,h2,count_eq]
 simp only [cT,cF,bS,z233_k3]
 rw [size_bs] at hs
 rw [w64_succ (by omega)]
 have hw:w64 ((s.size:Int)+1)=((s.size+1:Nat):Int):=w64_succ (by rw [size_bs];omega)
 have hmin:minI (((bs s).count 46+1:Nat):Int) ((s.size+1:Nat):Int)=(((bs s).count 46+1:Nat):Int):=by unfold minI;rw [if_neg (by rw [size_bs];omega)]
 have m:mkL (str []) (((bs s).count 46+1:Nat):Int) (((bs s).count 46+1:Nat):Int)=some (List.replicate ((bs s).count 46+1) (str [])):=by
  unfold mkL
  have q1:decide ((0:Int)≤(((bs s).count 46+1:Nat):Int))=true:=by simp;omega
  have q2:decide ((((bs s).count 46+1:Nat):Int)≤4294967296)=true:=by simp;omega
  simp only [q1,q2,Int.le_refl,decide_true,Bool.and_self,cT]
  simp
 rw [hw,hmin,m,bS]
 have:=gen_loop (N:=N) s (str [46]) rfl ((bs s).count 46) (by rw [size_bs];omega) (by rw [size_bs];omega) N s [] (List.replicate ((bs s).count 46+1) (str [])) (by omega) (by omega) (by simp) (by simp)
 rw [List.nil_append] at this
 have this':z233_l2 N s (str [46]) (0:Int) (((bs s).count 46+1:Nat):Int) N s (List.replicate ((bs s).count 46+1) (str [])) (0:Int)=some ([]++(splitA [] (bs s)).map mkB):=this
 rw [this'];simp
def pathV (s:ByteArray):Bool:=decide (s.size≤50) && (splitA [] (bs s)).all fun p=>isWord (mkB p)
theorem piece_len:∀ (l acc:List UInt8),∀ p∈splitA acc l,p.length≤acc.length+l.length
 | [],acc,p,h=>by simp [splitA] at h;subst h;simp
 | c::l,acc,p,h=>by
  rw [splitA_cons] at h
  split at h
  ·rcases List.mem_cons.mp h with h | h
   ·subst h;simp
   ·have:=piece_len l [] p h;simp at this;simp;omega
  ·have:=piece_len l _ p h;simp at this;simp;omega
theorem path_eq (hN:4194304 < N) (s:ByteArray):z119 N s=some (pathV s):=by
 unfold z119 pathV
 by_cases h:s.size≤50
 ·rw [dT (show (s.size:Int)≤50 by omega),dT h,cT,split_eq hN s (by omega),bS]
  unfold z189_1 z225_0
  have hl:(splitA [] (bs s)).length≤51:=by
   rw [splitA_len]
   have:(bs s).count 46≤(bs s).length:=List.count_le_length
   rw [size_bs] at h;omega
  rw [look ((splitA [] (bs s)).map mkB) (by simp;omega) (fun x k r=>bif !(isWord x) then some k else r) (z225_0_l2 N ((splitA [] (bs s)).map mkB)) (some (-1)) hN]
  ·obtain ⟨i,h1,h2⟩:=whereV_any (fun x => !(isWord x)) ((splitA [] (bs s)).map mkB) 0
   rw [h1,bS,h2,bS,List.any_map,List.not_any_eq_all_not]
   simp [Function.comp_def]
  ·intro n k x hk hx
   have hx':=List.mem_of_getElem? hx
   obtain ⟨p,hp,rfl⟩:=List.mem_map.mp hx'
   have hpl:=piece_len _ _ p hp
   have hw:=(word_eq hN (mkB p) (by rw [size_bs,bs_mkB];rw [size_bs] at h;simp at hpl;omega)).1
   simp only [z225_0_l2,lt_t hk,idx_nat,hx,cT,bS,z191,hw]
  ·intro n k hk
   simp only [z225_0_l2,lt_f hk,cF,z225_0_k1]
 ·rw [dF (show ¬ (s.size:Int)≤50 by omega),dF h];rfl
end Gp
end
section
namespace Gp
open Go Go.Kx Gx
variable {N:Nat}
def flat (l:List T0):List T2:=(l.map fun d=>d.Fields).flatten
theorem flat_cons (x:T0) (l:List T0):flat (x::l)=x.Fields++flat l:=rfl
theorem flat_app (a b:List T0):flat (a++b)=flat a++flat b:=by simp [flat]
theorem flat_le (l:List T0) (h:∀ d∈l,SizeD d):(flat l).length≤l.length * 4194304:=by
 induction l with
 | nil=>simp [flat]
 | cons x l ih =>
  rw [flat_cons,lA,List.length_cons]
  have:=(h x (by simp)).f
  have:=ih (fun d hd=>h d (by simp [hd]))
  omega
theorem take_drop_cons {α:Type} {xs l:List α} {k:Nat} {x:α} (h:xs.drop k=x::l):xs.take (k+1)=xs.take k++[x]:=by
 obtain ⟨a,c,d⟩:=drop_cons h
 rw [List.take_add_one,c];rfl
theorem fields_loop (l:List T0) (hs:(flat l).length≤4294967296) (hl:l.length≤4194304) :
  ∀ (m:List T0) (k n:Nat) (acc:List T2),l.drop k=m→m.length < n→acc=flat (l.take k)→z79_l2 l n acc (k:Int)=some (flat l):=by
 intro m
 induction m with
 | nil =>
  intro k n acc h hn ha
  obtain ⟨n,rfl⟩:∃ m,n=m+1:=⟨n-1,by simp at hn;omega⟩
  have hk:=drop_nil h
  simp only [z79_l2,lt_f hk,cF,z79_k1]
  rw [ha,List.take_of_length_le hk]
 | cons x m ih =>
  intro k n acc h hn ha
  obtain ⟨n,rfl⟩:∃ m,n=m+1:=⟨n-1,by simp at hn;omega⟩
  obtain ⟨a,c,d⟩:=drop_cons h
  have ht:=take_drop_cons h
  have hcut:flat l=flat (l.take (k+1))++flat (l.drop (k+1)):=by rw [← flat_app,List.take_append_drop]
  have hle:acc.length+x.Fields.length≤4294967296:=by
   rw [hcut,ht,flat_app,lA,lA,← ha] at hs
   have:(flat [x]).length=x.Fields.length:=by simp [flat]
   omega
  simp only [z79_l2,lt_t a,cT,idx_nat,c,bS]
  rw [appL_some hle,bS,w64_succ (by omega)]
  refine ih (k+1) n _ d (by simp at hn;omega) ?_
  rw [ht,flat_app,← ha];simp [flat]
theorem fields_eq (hN:4194304 < N) (l:List T0) (hl:l.length≤1000) (hd:∀ d∈l,SizeD d):z79 N l=some (flat l):=by
 unfold z79
 exact fields_loop l (by have:=flat_le l hd;omega) (by omega) l 0 N [] rfl (by omega) rfl
def textV (fl:List T2) (x:Int):Bool:=match idx fl x with | some f=>f.Sort'.Kind==2 | none=>false
theorem idx_none {α:Type} {L:List α} {v:Int} (h:¬ (0≤v∧v < (L.length:Int))):idx L v=none:=by
 cases hc:idx L v with
 | none=>rfl
 | some d=>exact absurd (idx_some hc) h
def diffOk (n:Int) (d:T1):Prop:=-1≤d.X∧d.X < n∧-1≤d.Y∧d.Y < n∧-20000≤d.C∧d.C≤20000
instance (n:Int) (d:T1):Decidable (diffOk n d):=by unfold diffOk;infer_instance
def guardV (fl:List T2) (g:T3):Bool :=
 decide (g.Diffs.length≤20∧g.Equals.length≤20) && (allV (fun d _=>decide (diffOk (fl.length:Int) d)) g.Diffs 0 && allV (fun e _=>textV fl e.1 && textV fl e.2) g.Equals 0)
theorem guarded_eq (hN:4194304 < N) (g:T3) (fl:List T2):z126 N g fl=some (guardV fl g):=by
 unfold z126 guardV
 by_cases c1:(g.Diffs.length:Int) > 20
 ·rw [dT c1,dF (show ¬ (g.Diffs.length≤20∧g.Equals.length≤20) by omega)];rfl
 by_cases c2:(g.Equals.length:Int) > 20
 ·rw [dF c1,dT c2,dF (show ¬ (g.Diffs.length≤20∧g.Equals.length≤20) by omega)];rfl
 rw [dF c1,dF c2,dT (show g.Diffs.length≤20∧g.Equals.length≤20 by omega)]
 simp only [cF,Bool.true_and]
 rw [allV_from (fun d _=>decide (diffOk (fl.length:Int) d)) (xs:=g.Diffs) (F:=z126_l6 N g fl) (e:=z126_k5 N g fl) (by omega)]
 ·unfold z126_k5
  rw [allV_from (fun e _=>textV fl e.1 && textV fl e.2) (xs:=g.Equals) (F:=z126_l2 N g fl) (e:=some true) (by omega)]
  ·cases allV (fun d _=>decide (diffOk (fl.length:Int) d)) g.Diffs 0<;>cases allV (fun e _=>textV fl e.1 && textV fl e.2) g.Equals 0<;>rfl
  ·intro n k x hk hx
   obtain ⟨m,rfl⟩:∃ m,N=m+3:=⟨N-3,by omega⟩
   have e0:idx ([x.1,x.2]:List Int) (0:Int)=some x.1:=rfl
   have e1:idx ([x.1,x.2]:List Int) (1:Int)=some x.2:=rfl
   have w0:w64 ((0:Int)+1)=1:=by decide
   have w1:w64 ((1:Int)+1)=2:=by decide
   have l0:decide ((0:Int) < 2)=true:=rfl
   have l1:decide ((1:Int) < 2)=true:=rfl
   have l2:decide ((2:Int) < 2)=false:=rfl
   have one:∀ (v:Int) (r:Option Bool),(bif decide (v < (0:Int)) then some false else bif decide (v≥(fl.length:Int)) then some false else (idx fl v).bind fun x143=>bif (x143.Sort'.Kind != (2:Int)) then some false else r)=bif textV fl v then r else some false:=by
    intro v r
    unfold textV
    by_cases h0:v < 0
    ·rw [dT h0,idx_none (by omega)];rfl
    by_cases h1:v≥(fl.length:Int)
    ·rw [dF h0,dT h1,idx_none (by omega)];rfl
    obtain ⟨f,hf⟩:=idx_lt (L:=fl) (v:=v) (by omega) (by omega)
    rw [dF h0,dF h1,hf]
    simp only [cF,bS]
    unfold bne
    cases (f.Sort'.Kind==2)<;>rfl
   have inner:z126_l4 fl (k:Int) (z126_l2 (m+3) g fl n) x (m+3) (0:Int)=bif textV fl x.1 && textV fl x.2 then z126_k3 (k:Int) (z126_l2 (m+3) g fl n) else some false:=by
    simp only [z126_l4,e0,e1,w0,w1,l0,l1,l2,cT,cF,bS]
    rw [one,one]
    cases textV fl x.1<;>cases textV fl x.2<;>rfl
   simp only [z126_l2,lt_t hk,cT,idx_nat,hx,bS,inner,z126_k3]
   rw [w64_succ (by omega)]
  ·intro n k hk
   simp only [z126_l2,lt_f hk,cF,z126_k1]
 ·intro n k x hk hx
  simp only [z126_l6,lt_t hk,idx_nat,hx,cT,bS,w64_succ (show k < 4611686018427387904 by omega)]
  by_cases d1:minI x.X x.Y < -1
  ·rw [dT d1,dF (show ¬ diffOk (fl.length:Int) x by rw [minI_lt] at d1;unfold diffOk;omega)];rfl
  by_cases d2:maxI x.X x.Y≥(fl.length:Int)
  ·rw [dF d1,dT d2,dF (show ¬ diffOk (fl.length:Int) x by rw [maxI_ge] at d2;unfold diffOk;omega)];rfl
  by_cases d3:x.C < -20000
  ·rw [dF d1,dF d2,dT d3,dF (show ¬ diffOk (fl.length:Int) x by unfold diffOk;omega)];rfl
  by_cases d4:x.C > 20000
  ·rw [dF d1,dF d2,dF d3,dT d4,dF (show ¬ diffOk (fl.length:Int) x by unfold diffOk;omega)];rfl
  rw [dF d1,dF d2,dF d3,dF d4,dT (show diffOk (fl.length:Int) x by rw [minI_lt] at d1;rw [maxI_ge] at d2;unfold diffOk;omega)];rfl
 ·intro n k hk
  simp only [z126_l6,lt_f hk,cF]
def sortOk (s:T4):Prop:=(s.Kind=1∧-1000≤s.Lo∧s.Lo≤s.Hi∧s.Hi≤1000)∨(s.Kind=2∧0≤s.Lo∧s.Lo≤s.Hi∧s.Hi≤40)
instance (s:T4):Decidable (sortOk s):=by unfold sortOk;infer_instance
theorem three (a b c:Prop) [Decidable a] [Decidable b] [Decidable c]:(bif decide a then (bif decide b then some (decide c) else some false) else some false)=some (decide (a∧b∧c)):=by
 by_cases ha:a<;>by_cases hb:b<;>simp [ha,hb]
theorem sorted_eq (s:T4):z123 N s=some (decide (sortOk s)):=by
 unfold z123
 rw [three,three]
 by_cases h1:s.Kind=1
 ·rw [show (s.Kind==1)=true by simp [h1],cT];congr 1;rw [decide_eq_decide];unfold sortOk;omega
 ·rw [show (s.Kind==1)=false by simp [h1],cF]
  by_cases h2:s.Kind=2
  ·rw [show (s.Kind==2)=true by simp [h2],cT];congr 1;rw [decide_eq_decide];unfold sortOk;omega
  ·rw [show (s.Kind==2)=false by simp [h2],cF,dF (show ¬ sortOk s by unfold sortOk;omega)]
end Gp
end
section
namespace Gp
open Go Go.Kx Gx
variable {N:Nat}
structure NameD (x:T0):Prop where
 n:x.Name.size≤4000000
 f:∀ f∈x.Fields,f.Name.size≤4000000
def fieldV (x:T0) (f:T2) (j:Nat):Bool:=isWord f.Name && (decide (sortOk f.Sort') && !((x.Fields.take j).any fun y=>eqStr y.Name f.Name))
def declV (fl:List T2) (l:List T0) (x:T0) (k:Nat):Bool :=
 pathV x.Name && (decide (x.Fields.length≤4) && (decide (x.First=((flat (l.take k)).length:Int)) && (!((l.take k).any fun y=>eqStr y.Name x.Name) && (allV (fieldV x) x.Fields 0 && guardV fl x.Guard))))
def validD (l:List T0):Bool:=decide (l.length≤40) && (decide ((flat l).length≤24) && allV (declV (flat l) l) l 0)
theorem containsD_eq (hN:4194304 < N) (l:List T0) (hl:l.length≤4194304) (x:T0):z120_4 N l x=some (l.any fun y=>eqStr y.Name x.Name):=by
 unfold z120_4 z66_3
 rw [look l hl (fun y k r=>bif eqStr y.Name x.Name then some k else r) (z66_3_l2 N l x) (some (-1)) hN]
 ·obtain ⟨i,h1,h2⟩:=whereV_any (fun y:T0=>eqStr y.Name x.Name) l 0
  rw [h1,bS,h2]
 ·intro n k y hk hy
  simp only [z66_3_l2,lt_t hk,idx_nat,hy,cT,bS,z121_2,eqStr]
 ·intro n k hk
  simp only [z66_3_l2,lt_f hk,cF,z66_3_k1]
theorem containsF_eq (hN:4194304 < N) (l:List T2) (hl:l.length≤4194304) (x:T2):z124_7 N l x=some (l.any fun y=>eqStr y.Name x.Name):=by
 unfold z124_7 z68_6
 rw [look l hl (fun y k r=>bif eqStr y.Name x.Name then some k else r) (z68_6_l2 N l x) (some (-1)) hN]
 ·obtain ⟨i,h1,h2⟩:=whereV_any (fun y:T2=>eqStr y.Name x.Name) l 0
  rw [h1,bS,h2]
 ·intro n k y hk hy
  simp only [z68_6_l2,lt_t hk,idx_nat,hy,cT,bS,z125_5,eqStr]
 ·intro n k hk
  simp only [z68_6_l2,lt_f hk,cF,z68_6_k1]
theorem flat_next {l:List T0} {k:Nat} {x:T0} (h:l[k]? = some x):(flat (l.take (k+1))).length=(flat (l.take k)).length+x.Fields.length:=by
 rw [List.take_add_one,h]
 show (flat (l.take k++[x])).length=_
 rw [flat_app,lA];simp [flat]
theorem flat_take_le (l:List T0) (k:Nat):(flat (l.take k)).length≤(flat l).length:=by
 have:flat l=flat (l.take k)++flat (l.drop k):=by rw [← flat_app,List.take_append_drop]
 rw [this,lA];omega
theorem valid_eq (hN:4194304 < N) (l:List T0) (hl:l.length≤4194304) (hd:∀ d∈l,SizeD d) (hn:∀ d∈l,NameD d):z74 N l=some (validD l):=by
 unfold z74 validD
 by_cases c1:(l.length:Int) > 40
 ·rw [dT c1,dF (show ¬ l.length≤40 by omega)];rfl
 rw [dF c1,dT (show l.length≤40 by omega),fields_eq hN l (by omega) hd]
 simp only [cF,bS,Bool.true_and]
 by_cases c2:((flat l).length:Int) > 24
 ·rw [dT c2,dF (show ¬ (flat l).length≤24 by omega)];rfl
 rw [dF c2,dT (show (flat l).length≤24 by omega)]
 simp only [cF,Bool.true_and]
 have hfl:=flat_le l hd
 have h:=allV_from (declV (flat l) l) (xs:=l) (F:=fun n i=>z74_l2 N l (flat l) n ((flat (l.take i.toNat)).length:Int) i) (e:=some true) (n:=N) (by omega) (by
  intro n k x hk hx
  show z74_l2 N l (flat l) (n+1) ((flat (l.take k)).length:Int) (k:Int)=bif declV (flat l) l x k then z74_l2 N l (flat l) n ((flat (l.take (k+1))).length:Int) ((k+1:Nat):Int) else some false
  have hxm:x∈l:=List.mem_of_getElem? hx
  have sx:=hd x hxm
  have nx:=hn x hxm
  have ht:lsl l none (some (k:Int))=some (l.take k):=lsl_to (A:=l.take k) (B:=l.drop k) (List.take_append_drop k l).symm (by simp;omega)
  have hft:=flat_take_le l k
  have hnext:w64 (((flat (l.take k)).length:Int)+(x.Fields.length:Int))=((flat (l.take (k+1))).length:Int):=by rw [flat_next hx,w64_id (by have:=sx.f;omega) (by have:=sx.f;omega)];omega
  have inner:z74_l4 N (flat l) ((flat (l.take k)).length:Int) (k:Int) (z74_l2 N l (flat l) n) x N (0:Int)=bif allV (fieldV x) x.Fields 0 then z74_k3 N (flat l) ((flat (l.take k)).length:Int) (k:Int) (z74_l2 N l (flat l) n) x else some false:=by
   refine allV_from (fieldV x) (by have:=sx.f;omega) ?_ ?_
   ·intro m j f hj hf
    have sf:=sx.f
    have hw:=(word_eq hN f.Name (by have:=nx.f f (List.mem_of_getElem? hf);omega)).1
    have ht':lsl x.Fields none (some (j:Int))=some (x.Fields.take j):=lsl_to (A:=x.Fields.take j) (B:=x.Fields.drop j) (List.take_append_drop j _).symm (by simp;omega)
    have hc:=containsF_eq hN (x.Fields.take j) (by simp;omega) f
    simp only [z74_l4,lt_t hj,cT,idx_nat,hf,bS,hw,sorted_eq,ht',hc,fieldV]
    rw [w64_succ (by omega)]
    cases isWord f.Name<;>cases decide (sortOk f.Sort')<;>cases ((x.Fields.take j).any fun y=>eqStr y.Name f.Name)<;>rfl
   ·intro m j hj
    simp only [z74_l4,lt_f hj,cF]
  have hc:=containsD_eq hN (l.take k) (by simp;omega) x
  simp only [z74_l2,lt_t hk,cT,idx_nat,hx,bS,path_eq hN,ht,hc,inner,z74_k3,guarded_eq hN,declV,hnext]
  rw [w64_succ (by omega)]
  have e1:decide ((x.Fields.length:Int) > 4) = !decide (x.Fields.length≤4):=by
   by_cases q:x.Fields.length≤4
   ·rw [dT q,dF (by omega)];rfl
   ·rw [dF q,dT (by omega)];rfl
  have e2:(x.First != ((flat (l.take k)).length:Int)) = !decide (x.First=((flat (l.take k)).length:Int)):=by
   by_cases q:x.First=((flat (l.take k)).length:Int)
   ·rw [dT q];simp [q]
   ·rw [dF q];simp [q]
  rw [e1,e2]
  cases pathV x.Name<;>cases decide (x.Fields.length≤4)<;>cases decide (x.First=((flat (l.take k)).length:Int))<;>cases ((l.take k).any fun y=>eqStr y.Name x.Name)<;>cases allV (fieldV x) x.Fields 0<;>cases guardV (flat l) x.Guard<;>rfl) (by
  intro n k hk
  show z74_l2 N l (flat l) (n+1) ((flat (l.take k)).length:Int) (k:Int)=some true
  simp only [z74_l2,lt_f hk,cF,z74_k1])
 have h':z74_l2 N l (flat l) N (0:Int) (0:Int)=bif allV (declV (flat l) l) l 0 then some true else some false:=h
 rw [h']
 cases allV (declV (flat l) l) l 0<;>rfl
end Gp
end
end
section
namespace Gp
open Go Go.Kx Gx
variable {N:Nat}
theorem few_loop (l:List T0) (hl:l.length≤4194304):∀ (r:List T0) (n k:Nat) (a:Int),l.drop k=r→r.length < n→∃ b,z32_l2 l n a (k:Int)=some b∧(b=true→l.length≤60):=by
 intro r
 induction r with
 | nil =>
  intro n k a h hn
  obtain ⟨n,rfl⟩:∃ m,n=m+1:=⟨n-1,by simp at hn;omega⟩
  unfold z32_l2
  rw [lt_f (drop_nil h)]
  simp only [cF,z32_k1]
  by_cases h1:l.length≤60
  ·have:decide ((l.length:Int)≤60)=true:=by simp;omega
   rw [this]
   exact ⟨_,rfl,fun _=>h1⟩
  ·have:decide ((l.length:Int)≤60)=false:=by simp;omega
   rw [this]
   exact ⟨false,rfl,fun h=>by cases h⟩
 | cons x r ih =>
  intro n k a h hn
  obtain ⟨n,rfl⟩:∃ m,n=m+1:=⟨n-1,by simp at hn;omega⟩
  obtain ⟨h1,h2,h3⟩:=drop_cons h
  unfold z32_l2
  rw [lt_t h1,w64_succ (by omega)]
  simp only [cT,idx_nat,h2,bS]
  exact ih n (k+1) _ h3 (by simp at hn;omega)
theorem few_some (hN:4194304 < N) (l:List T0) (hl:l.length≤4194304) (vs ks:List T5):∃ b,z12 N l vs ks=some b∧(b=true→l.length≤60∧vs.length≤30∧ks.length≤60):=by
 obtain ⟨b,h1,h2⟩:=few_loop l hl l N 0 0 rfl (by omega)
 have h1:z32 N l=some b:=h1
 unfold z12
 rw [h1]
 simp only [bS]
 cases b with
 | false=>exact ⟨false,rfl,fun h=>by cases h⟩
 | true =>
  simp only [cT]
  by_cases q1:vs.length≤30
  ·have:decide ((vs.length:Int)≤30)=true:=by simp;omega
   rw [this]
   refine ⟨_,rfl,fun h=>⟨h2 rfl,q1,?_⟩⟩
   have:=of_decide_eq_true h
   omega
  ·have:decide ((vs.length:Int)≤30)=false:=by simp;omega
   rw [this]
   exact ⟨false,rfl,fun h=>by cases h⟩
end Gp
end
section
namespace Gp
open Go Go.Kx Gx
variable {N:Nat}
def badB (b:UInt8):Bool:=decide (b.toNat < 32) || decide (126 < b.toNat)
def numV (v:T5):Int:=bif v.Kind==2 then (v.S.size:Int) else v.N
def fitsV (s:T4) (v:T5):Bool :=
 v.Kind==s.Kind && (decide (s.Lo≤numV v) && (decide (numV v≤s.Hi) && (bif v.Kind==1 then v.S.toList==(str []).toList else v.N==0 && !((bs v.S).any badB))))
theorem get_bs (s:ByteArray) (i:Nat) (h:i < (bs s).length):s.get! i=(bs s)[i]:=by
 have h':i < s.data.size:=by simpa [bs] using h
 show s.data[i]! = _
 rw [getElem!_pos s.data i h']
 simp [bs]
theorem decode_lo (s:ByteArray) (i:Nat) (b:UInt8) (h:(bs s)[i]? = some b) (hb:b.toNat < 128):Utf8.decode s i=(b.toNat,1):=by
 obtain ⟨hi,he⟩:=List.getElem?_eq_some_iff.1 h
 have h0:s.get! (i+0)=b:=by rw [Nat.add_zero,get_bs s i hi,he]
 unfold Utf8.decode
 simp only [h0,hb,if_true]
theorem decode_hi (s:ByteArray) (i:Nat) (b:UInt8) (h:(bs s)[i]? = some b) (hb:¬ b.toNat < 128):126 < (Utf8.decode s i).1:=by
 obtain ⟨hi,he⟩:=List.getElem?_eq_some_iff.1 h
 have h0:s.get! (i+0)=b:=by rw [Nat.add_zero,get_bs s i hi,he]
 unfold Utf8.decode Utf8.runeError
 simp only [h0,hb,if_false]
 split
 ·split
  ·simp only [];omega
  ·simp only [];omega
 ·split
  ·split
   ·rename_i hc
    simp only [Bool.and_eq_true,decide_eq_true_eq] at hc
    have:=hc.1
    simp only [] at *;omega
   ·simp only [];omega
  ·split
   ·split
    ·rename_i hc
     simp only [Bool.and_eq_true,decide_eq_true_eq] at hc
     have:=hc.1
     simp only [] at *;omega
    ·simp only [];omega
   ·simp only [];omega
theorem runes_loop (s:ByteArray):∀ (r:List UInt8) (n i:Nat),(bs s).drop i=r→r.length < n→∃ z,z246_8_l2 N s true n i=some z∧decide (z≥0)=r.any badB:=by
 intro r
 induction r with
 | nil =>
  intro n i h hn
  obtain ⟨n,rfl⟩:∃ m,n=m+1:=⟨n-1,by simp at hn;omega⟩
  have hi:=drop_nil h
  unfold z246_8_l2
  have:decide (i < s.size)=false:=by rw [size_bs];simp;omega
  rw [this]
  exact ⟨-1,rfl,rfl⟩
 | cons b r ih =>
  intro n i h hn
  obtain ⟨n,rfl⟩:∃ m,n=m+1:=⟨n-1,by simp at hn;omega⟩
  obtain ⟨h1,h2,h3⟩:=drop_cons h
  simp only [List.length_cons] at hn
  unfold z246_8_l2
  have:decide (i < s.size)=true:=by rw [size_bs];simp;omega
  rw [this,List.any_cons]
  simp only [cT,z145]
  by_cases hb:b.toNat < 128
  ·rw [decode_lo s i b h2 hb]
   by_cases c1:b.toNat < 32
   ·have e1:decide (((b.toNat:Nat):Int) < 32)=true:=by simp;omega
    have e2:badB b=true:=by simp [badB,c1]
    rw [e1,e2]
    exact ⟨(i:Int),rfl,by simp⟩
   ·have e1:decide (((b.toNat:Nat):Int) < 32)=false:=by simp;omega
    rw [e1]
    simp only [cF,bS]
    by_cases c2:126 < b.toNat
    ·have e3:decide (((b.toNat:Nat):Int) > 126)=true:=by simp;omega
     have e2:badB b=true:=by simp [badB,c2]
     rw [e3,e2]
     exact ⟨(i:Int),rfl,by simp⟩
    ·have e3:decide (((b.toNat:Nat):Int) > 126)=false:=by simp;omega
     have e2:badB b=false:=by simp [badB];omega
     rw [e3,e2]
     exact ih n (i+1) h3 (by omega)
  ·have hd:=decode_hi s i b h2 hb
   have e2:badB b=true:=by simp [badB];omega
   generalize (Utf8.decode s i).1=c at hd ⊢
   have e1:decide ((c:Int) < 32)=false:=by simp;omega
   have e3:decide ((c:Int) > 126)=true:=by simp;omega
   rw [e1,e2]
   simp only [cF,bS]
   rw [e3]
   exact ⟨(i:Int),rfl,by simp⟩
theorem runes_eq (hN:4194304 < N) (s:ByteArray) (hs:s.size≤4194304):z144_10 N s=some ((bs s).any badB):=by
 obtain ⟨z,h1,h2⟩:=runes_loop (N:=N) s (bs s) N 0 rfl (by rw [size_bs] at hs;omega)
 unfold z144_10 z213_9 z246_8
 rw [h1]
 simp only [bS]
 rw [h2]
theorem number_eq (v:T5):z36 N v=some (numV v):=by
 unfold z36 numV
 cases (v.Kind==2)<;>rfl
theorem refNumber_eq (v:T5):z49 N v=some (numV v):=number_eq (N:=N) v
theorem fits_eq (hN:4194304 < N) (s:T4) (v:T5) (hv:v.S.size≤4194304):z80 N s v=some (fitsV s v):=by
 unfold z80 fitsV
 rw [number_eq]
 simp only [bS,bne]
 cases h1:v.Kind==s.Kind with
 | false=>rfl
 | true =>
  simp only [Bool.not_true,cF,Bool.true_and]
  by_cases h2:numV v < s.Lo
  ·rw [dT h2,dF (show ¬ s.Lo≤numV v by omega)];rfl
  ·rw [dF h2,dT (show s.Lo≤numV v by omega)]
   simp only [cF,Bool.true_and]
   by_cases h3:numV v > s.Hi
   ·rw [dT h3,dF (show ¬ numV v≤s.Hi by omega)];rfl
   ·rw [dF h3,dT (show numV v≤s.Hi by omega)]
    simp only [cF,Bool.true_and]
    cases h4:v.Kind==1 with
    | true=>rfl
    | false =>
     simp only [cF]
     cases h5:v.N==0 with
     | false=>rfl
     | true =>
      simp only [cT,Bool.true_and]
      rw [runes_eq hN v.S hv];rfl
def zeroV (v:T5):Bool:=(v.Kind==0) && ((v.N==0) && ((v.S.toList==(str []).toList) && true))
def fitAt (fl:List T2) (v:T5) (i:Nat):Bool:=match fl[i]? with
 | some f=>fitsV f.Sort' v
 | none=>false
def knownV (fl:List T2) (ks:List T5):Bool:=decide (fl.length=ks.length) && allV (fun v i=>zeroV v || fitAt fl v i) ks 0
def properV (d:List T0) (label:Int) (ks:List T5):Bool:=decide (0≤label∧label < (d.length:Int)) && (validD d && knownV (flat d) ks)
def fitV (fs:List T2) (vs:List T5):Bool:=decide (fs.length=vs.length) && allV (fun v i=>fitAt fs v i) vs 0
theorem len_ne (a b:Nat):((a:Int) != (b:Int)) = !decide (a=b):=by
 by_cases h:a=b
 ·subst h;simp
 ·simp [h];omega
theorem proper_loop (hN:4194304 < N) (fl:List T2) (ks:List T5) (hl:fl.length=ks.length) (hk:ks.length≤4194304) (hs:∀ v∈ks,v.S.size≤4194304):z33_l2 N ks fl N (0:Int)=some (allV (fun v i=>zeroV v || fitAt fl v i) ks 0):=by
 have h:=allV_from (fun (v:T5) i=>zeroV v || fitAt fl v i) (xs:=ks) (F:=z33_l2 N ks fl) (e:=some true) (n:=N) (by omega) (by
  intro n k x hk' hx
  obtain ⟨f,hf⟩:∃ f,fl[k]? = some f:=⟨fl[k],by simp [hl,hk']⟩
  rw [z33_l2,lt_t hk',w64_succ (by omega)]
  simp only [cT,idx_nat,hx,bS,hf,fitAt]
  rw [fits_eq hN _ _ (hs x (List.mem_of_getElem? hx))]
  show (bif !(zeroV x) then _ else _)=_
  cases zeroV x<;>cases fitsV f.Sort' x<;>rfl) (by
  intro n k hk'
  unfold z33_l2
  rw [lt_f hk'];rfl)
 rw [h]
 cases allV (fun (v:T5) i=>zeroV v || fitAt fl v i) ks 0<;>rfl
theorem proper_eq (hN:4194304 < N) (d:List T0) (hl:d.length≤1000) (hd:∀ x∈d,SizeD x) (hn:∀ x∈d,NameD x) (label:Int) (ks:List T5) (hk:ks.length≤4194304) (hs:∀ v∈ks,v.S.size≤4194304) :
  z33 N d label ks=some (properV d label ks):=by
 unfold z33 properV
 rw [valid_eq hN d (by omega) hd hn,fields_eq hN d hl hd]
 by_cases c1:label < 0
 ·rw [dT c1,dF (show ¬ (0≤label∧label < (d.length:Int)) by omega)];rfl
 ·rw [dF c1]
  by_cases c2:label≥(d.length:Int)
  ·rw [dT c2,dF (show ¬ (0≤label∧label < (d.length:Int)) by omega)];rfl
  ·rw [dF c2,dT (show (0≤label∧label < (d.length:Int)) by omega)]
   cases validD d with
   | false=>rfl
   | true =>
    simp only [cF,bS,Bool.not_true,Bool.true_and,knownV]
    rw [len_ne]
    by_cases c3:(flat d).length=ks.length
    ·rw [dT c3]
     simp only [Bool.not_true,cF,Bool.true_and]
     exact proper_loop hN _ _ c3 hk hs
    ·rw [dF c3];rfl
theorem fit_eq (hN:4194304 < N) (fs:List T2) (vs:List T5) (hk:vs.length≤4194304) (hs:∀ v∈vs,v.S.size≤4194304):z43 N fs vs=some (fitV fs vs):=by
 unfold z43 fitV
 rw [len_ne]
 by_cases c3:fs.length=vs.length
 ·rw [dT c3]
  simp only [Bool.not_true,cF,Bool.true_and]
  have h:=allV_from (fun (f:T2) i=>match vs[i]? with | some v=>fitsV f.Sort' v | none=>false) (xs:=fs) (F:=z43_l2 N fs vs) (e:=some true) (n:=N) (by omega) (by
   intro n k x hk' hx
   obtain ⟨v,hv⟩:∃ v,vs[k]? = some v:=⟨vs[k],by simp [← c3,hk']⟩
   rw [z43_l2,lt_t hk',w64_succ (by omega)]
   simp only [cT,idx_nat,hx,bS,hv]
   rw [fits_eq hN _ _ (hs v (List.mem_of_getElem? hv))]
   cases fitsV x.Sort' v<;>rfl) (by
   intro n k hk'
   unfold z43_l2
   rw [lt_f hk'];rfl)
  rw [h]
  have e:allV (fun (f:T2) i=>match vs[i]? with | some v=>fitsV f.Sort' v | none=>false) fs 0=allV (fun v i=>fitAt fs v i) vs 0:=by
   rw [Bool.eq_iff_iff,allV_iff,allV_iff]
   constructor
   ·intro q i v hv
    obtain ⟨f,hf⟩:∃ f,fs[i]? = some f:=⟨fs[i]'(by rw [c3];exact (List.getElem?_eq_some_iff.1 hv).1),by simp⟩
    have:=q i f hf
    simp only [Nat.zero_add] at this ⊢
    rw [hv] at this
    unfold fitAt;rw [hf];exact this
   ·intro q i f hf
    obtain ⟨v,hv⟩:∃ v,vs[i]? = some v:=⟨vs[i]'(by rw [← c3];exact (List.getElem?_eq_some_iff.1 hf).1),by simp⟩
    have:=q i v hv
    simp only [Nat.zero_add] at this ⊢
    unfold fitAt at this;rw [hf] at this
    rw [hv];exact this
  rw [e]
  cases allV (fun v i=>fitAt fs v i) vs 0<;>rfl
 ·rw [dF c3];rfl
def behindV (first:Nat) (vs ks:List T5):List T5:=ks.take first++vs++ks.drop (first+vs.length)
theorem behind_eq (x:T0) (vs ks:List T5) (first:Nat) (hf:x.First=(first:Int)) (hle:first+vs.length≤ks.length) (hk:ks.length≤4194304):z40 N x vs ks=some (behindV first vs ks):=by
 unfold z40 z93
 rw [appL_some (by simp;omega)]
 simp only [bS,List.nil_append]
 have hb:bnd (some x.First) none ks.length=some (first,ks.length):=by
  unfold bnd
  rw [hf]
  have h1:decide ((0:Int)≤(first:Int))=true:=by simp
  have h2:decide ((first:Int)≤(ks.length:Int))=true:=by simp;omega
  simp only [Option.getD_some,Option.getD_none,h1,h2,Bool.and_true,Bool.true_and,cT]
  simp
 unfold lsl cpL
 rw [hb]
 simp only [Option.map_some,bS]
 have hm:min vs.length (ks.length-first)=vs.length:=by omega
 rw [hm,List.take_length];rfl
theorem behind_len (first:Nat) (vs ks:List T5) (hle:first+vs.length≤ks.length):(behindV first vs ks).length=ks.length:=by
 unfold behindV;simp;omega
theorem behind_get (first:Nat) (vs ks:List T5) (hle:first+vs.length≤ks.length) (i:Nat):(behindV first vs ks)[i]? = if first≤i∧i < first+vs.length then vs[i-first]? else ks[i]? := by
 unfold behindV
 have ht:(ks.take first).length=first:=by rw [List.length_take];omega
 by_cases c1:i < first
 ·rw [if_neg (by omega),aA,List.getElem?_append_left (by omega),List.getElem?_take,if_pos c1]
 ·by_cases c2:i < first+vs.length
  ·rw [if_pos ⟨by omega,c2⟩,List.getElem?_append_left (by rw [lA,ht];omega),List.getElem?_append_right (by omega),ht]
  ·rw [if_neg (by omega),List.getElem?_append_right (by rw [lA,ht];omega),lA,ht,List.getElem?_drop]
   congr 1;omega
theorem valid_at {d:List T0} (hv:validD d=true) {i:Nat} {x:T0} (hx:d[i]? = some x):∃ first:Nat,x.First=(first:Int)∧first+x.Fields.length≤(flat d).length∧d.length≤40∧(flat d).length≤24∧declV (flat d) d x i=true:=by
 unfold validD at hv
 simp only [Bool.and_eq_true,decide_eq_true_eq] at hv
 obtain ⟨h1,h2,h3⟩:=hv
 rw [allV_iff] at h3
 have hd:=h3 i x hx
 rw [Nat.zero_add] at hd
 have hd0:=hd
 unfold declV at hd
 simp only [Bool.and_eq_true,decide_eq_true_eq] at hd
 refine ⟨(flat (d.take i)).length,hd.2.2.1,?_,h1,h2,hd0⟩
 have:=flat_next hx
 have:=flat_take_le d (i+1)
 omega
end Gp
end
section
namespace Gp
open Go Go.Kx Gx
variable {N:Nat}
structure SizeC (vs ks:List T5):Prop where
 v:∀ v∈vs,v.S.size≤4194304
 k:∀ v∈ks,v.S.size≤4194304
theorem idx_mem {α:Type} {L:List α} {v:Int} {x:α} (h:idx L v=some x):∃ i:Nat,v=(i:Int)∧L[i]? = some x:=by
 obtain ⟨h0,h1⟩:=idx_some h
 obtain ⟨i,rfl⟩:=Int.eq_ofNat_of_zero_le h0
 exact ⟨i,rfl,by rw [← idx_nat];exact h⟩
end Gp
end
section
namespace Gp
open Go Go.Kx Gx
variable {N:Nat}
def nvV (l:List T5) (x:Int):Int:=bif decide (x < 0) then 0 else match idx l x with
 | some v=>numV v
 | none=>0
def unkV (l:List T5) (x:Int):Bool:=bif decide (x < 0) then false else match idx l x with
 | some v=>v.Kind==0
 | none=>true
def diffV (l:List T5) (d:T1):Bool := !(unkV l d.X) && (!(unkV l d.Y) && !(decide (w64 (nvV l d.X-nvV l d.Y) > d.C)))
def eqV (l:List T5) (e:Int × Int):Bool:=match idx l e.1 with
 | some a=>match idx l e.2 with
  | some b => !(a.Kind==0) && (!(b.Kind==0) && (a.S.toList==b.S.toList))
  | none=>false
 | none=>false
def keepsV (g:T3) (l:List T5):Bool:=allV (fun d _=>diffV l d) g.Diffs 0 && allV (fun e _=>eqV l e) g.Equals 0
structure InG (n:Nat) (g:T3):Prop where
 d:∀ d∈g.Diffs,d.X < (n:Int)∧d.Y < (n:Int)
 e:∀ e∈g.Equals,(0≤e.1∧e.1 < (n:Int))∧(0≤e.2∧e.2 < (n:Int))
 dl:g.Diffs.length≤20
 el:g.Equals.length≤20
theorem textV_in {fl:List T2} {x:Int} (h:textV fl x=true):0≤x∧x < (fl.length:Int):=by
 unfold textV at h
 cases hc:idx fl x with
 | none=>rw [hc] at h;cases h
 | some f=>exact idx_some hc
theorem inG_of {fl:List T2} {g:T3} (h:guardV fl g=true):InG fl.length g:=by
 unfold guardV at h
 simp only [Bool.and_eq_true,decide_eq_true_eq] at h
 obtain ⟨⟨h1,h2⟩,h3,h4⟩:=h
 rw [allV_iff] at h3 h4
 refine ⟨fun d hd=>?_,fun e he=>?_,h1,h2⟩
 ·obtain ⟨i,hi⟩:=List.mem_iff_getElem?.1 hd
  have:=of_decide_eq_true (h3 i d hi)
  exact ⟨this.2.1,this.2.2.2.1⟩
 ·obtain ⟨i,hi⟩:=List.mem_iff_getElem?.1 he
  have:=h4 i e hi
  simp only [Bool.and_eq_true] at this
  exact ⟨textV_in this.1,textV_in this.2⟩
theorem side (l:List T5) {x:Int} (hx:x < (l.length:Int)):(decide (x < 0)=true∧decide (x≥0)=false∧unkV l x=false∧nvV l x=0) ∨
  (decide (x < 0)=false∧decide (x≥0)=true∧∃ v,idx l x=some v∧unkV l x=(v.Kind==0)∧nvV l x=numV v):=by
 by_cases h:x < 0
 ·left
  have e:decide (x < 0)=true:=dT h
  refine ⟨e,dF (by omega),?_,?_⟩
  ·unfold unkV;rw [e];rfl
  ·unfold nvV;rw [e];rfl
 ·right
  have e:decide (x < 0)=false:=dF h
  obtain ⟨v,hv⟩:=idx_lt (L:=l) (v:=x) (by omega) hx
  refine ⟨e,dT (by omega),v,hv,?_,?_⟩
  ·unfold unkV;rw [e,hv];rfl
  ·unfold nvV;rw [e,hv];rfl
theorem l6_eq (l:List T5) (k:Int) (ag:Int→Option Bool) (d:T1) (hX:d.X < (l.length:Int)) (hY:d.Y < (l.length:Int)) (n:Nat) :
  z42_l6 N l k ag d (n+3) 0 0 0=bif diffV l d then ag (w64 (k+1)) else some false:=by
 have w1:w64 ((0:Int)+1)=1:=rfl
 have w2:w64 ((1:Int)+1)=2:=rfl
 have i0:idx ([d.X,d.Y]:List Int) 0=some d.X:=rfl
 have i1:idx ([d.X,d.Y]:List Int) 1=some d.Y:=rfl
 have d0:decide ((0:Int) < 2)=true:=rfl
 have d1:decide ((1:Int) < 2)=true:=rfl
 have d2:decide ((2:Int) < 2)=false:=rfl
 have b0:((0:Int)==0)=true:=rfl
 have b1:((1:Int)==0)=false:=rfl
 have b2:((1:Int)==1)=true:=rfl
 have fin:∀ a b:Int,z42_l6 N l k ag d (n+1) a b 2=bif !(decide (w64 (a-b) > d.C)) then ag (w64 (k+1)) else some false:=fun a b=>by
  rw [z42_l6,d2]
  simp only [cF,z42_k5]
  cases decide (w64 (a-b) > d.C)<;>rfl
 have sec:∀ a:Int,z42_l6 N l k ag d (n+2) a 0 1=bif !(unkV l d.Y) && !(decide (w64 (a-nvV l d.Y) > d.C)) then ag (w64 (k+1)) else some false:=fun a=>by
  rw [z42_l6,d1]
  simp only [cT,i1,bS,w2]
  rcases side l hY with ⟨h1,_,h3,h4⟩ | ⟨h1,_,v,hv,h3,h4⟩
  ·rw [h1,h3,h4]
   simp only [cT]
   rw [fin]
   rfl
  ·rw [h1,h3,h4,hv]
   simp only [cF,bS]
   cases v.Kind==0 with
   | true=>rfl
   | false =>
    simp only [cF,number_eq,bS,b1,b2,cT]
    rw [fin]
    rfl
 rw [z42_l6,d0]
 simp only [cT,i0,bS,w1]
 unfold diffV
 rcases side l hX with ⟨h1,_,h3,h4⟩ | ⟨h1,_,v,hv,h3,h4⟩
 ·rw [h1,h3,h4]
  simp only [cT]
  rw [sec]
  rfl
 ·rw [h1,h3,h4,hv]
  simp only [cF,bS]
  cases v.Kind==0 with
  | true=>rfl
  | false =>
   simp only [cF,number_eq,bS,b0,cT]
   rw [sec]
   rfl
theorem equals_eq (hN:4194304 < N) (g:T3) (l:List T5) (hg:InG l.length g):z42_l2 g l N (0:Int)=some (allV (fun e _=>eqV l e) g.Equals 0):=by
 have hel:=hg.el
 have h:=allV_from (fun (e:Int × Int) _=>eqV l e) (xs:=g.Equals) (F:=z42_l2 g l) (e:=some true) (n:=N) (by omega) (by
  intro n k e hk he
  obtain ⟨⟨a1,a2⟩,a3,a4⟩:=hg.e e (List.mem_of_getElem? he)
  obtain ⟨a,ha⟩:=idx_lt (L:=l) a1 a2
  obtain ⟨b,hb⟩:=idx_lt (L:=l) a3 a4
  rw [z42_l2,lt_t hk,w64_succ (by omega)]
  simp only [cT,idx_nat,he,bS,ha,hb,eqV]
  cases (a.Kind==0)<;>cases (b.Kind==0)<;>cases (a.S.toList==b.S.toList)<;>rfl) (by
  intro n k hk
  rw [z42_l2,lt_f hk];rfl)
 rw [h]
 cases allV (fun (e:Int × Int) _=>eqV l e) g.Equals 0<;>rfl
theorem fulfils_eq (hN:4194304 < N) (g:T3) (l:List T5) (hg:InG l.length g):z42 N g l=some (keepsV g l):=by
 have hdl:=hg.dl
 have h:=allV_from (fun (d:T1) _=>diffV l d) (xs:=g.Diffs) (F:=z42_l4 N g l) (e:=z42_k3 N g l) (n:=N) (by omega) (by
  intro n k d hk hd
  obtain ⟨a1,a2⟩:=hg.d d (List.mem_of_getElem? hd)
  rw [z42_l4,lt_t hk]
  simp only [cT,idx_nat,hd,bS]
  have:=l6_eq (N:=N) l (k:Int) (z42_l4 N g l n) d a1 a2 (N-3)
  rw [show N-3+3=N by omega] at this
  rw [this,w64_succ (by omega)]) (by
  intro n k hk
  rw [z42_l4,lt_f hk];rfl)
 unfold z42 keepsV
 rw [h]
 cases allV (fun (d:T1) _=>diffV l d) g.Diffs 0 with
 | false=>rfl
 | true=>exact equals_eq hN g l hg
def checkV (d:List T0) (label:Int) (vs ks:List T5):Bool:=properV d label ks && (match idx d label with
 | some x=>fitV x.Fields vs && keepsV x.Guard (behindV x.First.toNat vs ks)
 | none=>false)
theorem guard_of {fl:List T2} {d:List T0} {x:T0} {i:Nat} (h:declV fl d x i=true):guardV fl x.Guard=true:=by
 unfold declV at h
 simp only [Bool.and_eq_true] at h
 exact h.2.2.2.2.2
theorem known_len {fl:List T2} {ks:List T5} (h:knownV fl ks=true):fl.length=ks.length:=by
 unfold knownV at h
 simp only [Bool.and_eq_true,decide_eq_true_eq] at h
 exact h.1
theorem fit_len {fl:List T2} {ks:List T5} (h:fitV fl ks=true):fl.length=ks.length:=by
 unfold fitV at h
 simp only [Bool.and_eq_true,decide_eq_true_eq] at h
 exact h.1
theorem check_eq (hN:4194304 < N) (d:List T0) (hl:d.length≤1000) (hd:∀ x∈d,SizeD x) (hn:∀ x∈d,NameD x) (label:Int) (vs ks:List T5) (hv:vs.length≤4194304) (hk:ks.length≤4194304) (hs:SizeC vs ks) :
  z16 N d label vs ks=some (checkV d label vs ks):=by
 unfold z16 checkV
 rw [proper_eq hN d hl hd hn label ks hk hs.k]
 cases hp:properV d label ks with
 | false=>rfl
 | true =>
  unfold properV at hp
  simp only [Bool.and_eq_true,decide_eq_true_eq] at hp
  obtain ⟨⟨p1,p2⟩,p3,p4⟩:=hp
  obtain ⟨x,hx⟩:=idx_lt p1 p2
  obtain ⟨i,rfl,hi⟩:=idx_mem hx
  obtain ⟨first,f1,f2,f3,f4,f5⟩:=valid_at p3 hi
  simp only [bS,Bool.not_true,cF]
  rw [hx]
  simp only [bS]
  rw [fit_eq hN _ _ hv hs.v]
  cases hf:fitV x.Fields vs with
  | false=>rfl
  | true =>
   have e1:=fit_len hf
   have e2:=known_len p4
   simp only [bS,Bool.not_true,cF,Bool.true_and]
   rw [behind_eq x vs ks first f1 (by omega) hk]
   simp only [bS]
   have ef:x.First.toNat=first:=by omega
   rw [ef,fulfils_eq hN x.Guard _ (by rw [behind_len first vs ks (by omega),← e2];exact inG_of (guard_of f5))]
   rfl
end Gp
end
section
namespace Gp
open Go Go.Kx Gx
variable {N:Nat}
end Gp
end
section
namespace Gp
open Go Go.Kx Gx
variable {N:Nat}
theorem loopP {β γ:Type} (M:Nat) (F:Nat→β→Int→γ) (ag:β→γ) (P:Nat→β→Prop)
  (h1:∀ n B j,j < M→P j B→∃ B',P (j+1) B'∧F (n+1) B (j:Int)=F n B' ((j+1:Nat):Int)) (h2:∀ n B,F (n+1) B (M:Int)=ag B) :
  ∀ (r n j:Nat) (B:β),j+r=M→r < n→P j B→∃ B',P M B'∧F n B (j:Int)=ag B':=by
 intro r
 induction r with
 | zero =>
  intro n j B hj hn hP
  obtain ⟨n,rfl⟩:∃ m,n=m+1:=⟨n-1,by omega⟩
  have:j=M:=by omega
  subst this
  exact ⟨B,hP,h2 n B⟩
 | succ r ih =>
  intro n j B hj hn hP
  obtain ⟨n,rfl⟩:∃ m,n=m+1:=⟨n-1,by omega⟩
  obtain ⟨B',hP',e⟩:=h1 n B j (by omega) hP
  obtain ⟨B2,hP2,e2⟩:=ih n (j+1) B' (by omega) (by omega) hP'
  exact ⟨B2,hP2,e.trans e2⟩
structure Rep (M:Nat) (B:List Int) (A:Nat→Nat→Int):Prop where
 len:B.length=M * M
 at':∀ i j,i < M→j < M→B[i * M+j]? = some (A i j)
def upd (A:Nat→Nat→Int) (i j:Nat) (v:Int):Nat→Nat→Int:=fun a b=>if a=i∧b=j then v else A a b
theorem cell_inj {M i j a b:Nat} (hj:j < M) (hb:b < M) (h:i * M+j=a * M+b):i=a∧j=b:=by
 have h1:(i * M+j) / M=i:=by rw [Nat.mul_comm,Nat.mul_add_div (by omega),Nat.div_eq_of_lt hj];omega
 have h2:(a * M+b) / M=a:=by rw [Nat.mul_comm,Nat.mul_add_div (by omega),Nat.div_eq_of_lt hb];omega
 have:i=a:=by rw [← h1,← h2,h]
 subst this
 exact ⟨rfl,by omega⟩
theorem cell_lt {M i j:Nat} (hi:i < M) (hj:j < M):i * M+j < M * M:=by
 have:(i+1) * M≤M * M:=Nat.mul_le_mul_right _ hi
 rw [Nat.add_mul] at this;omega
theorem Rep.set {M:Nat} {B:List Int} {A:Nat→Nat→Int} (h:Rep M B A) {i j:Nat} (hi:i < M) (hj:j < M) (v:Int):Rep M (B.set (i * M+j) v) (upd A i j v):=by
 refine ⟨by rw [List.length_set];exact h.len,fun a b ha hb=>?_⟩
 rw [List.getElem?_set]
 unfold upd
 split
 ·rename_i e
  obtain ⟨e1,e2⟩:=cell_inj hj hb e
  rw [if_pos (by rw [h.len];exact cell_lt hi hj),if_pos ⟨e1.symm,e2.symm⟩]
 ·rename_i e
  rw [if_neg (fun ⟨x,y⟩=>e (by rw [x,y])),h.at' a b ha hb]
theorem row_w {n i j:Nat} (hn:n≤24) (hi:i≤24) (hj:j≤24):w64 ((w64 ((i:Int) * (w64 ((n:Int)+1))))+(j:Int))=((i * (n+1)+j:Nat):Int):=by
 have h1:i * (n+1)≤24 * 25:=Nat.mul_le_mul hi (by omega)
 rw [w64_succ (by omega)]
 have e:(i:Int) * ((n+1:Nat):Int)=((i * (n+1):Nat):Int):=by rw [Int.natCast_mul]
 rw [e,w64_id (n:=((i * (n+1):Nat):Int)) (by omega) (by omega),w64_id (by omega) (by omega)]
 omega
theorem full_eq (i j:Nat):∃ v,z146 N (i:Int) (j:Int)=some v∧0≤v∧v≤20000:=by
 unfold z146
 cases ((i:Int)==(j:Int)) with
 | true=>exact ⟨0,rfl,by omega,by omega⟩
 | false =>
  cases ((i:Int)==0) with
  | true=>exact ⟨10000,rfl,by omega,by omega⟩
  | false =>
   cases ((j:Int)==0) with
   | true=>exact ⟨10000,rfl,by omega,by omega⟩
   | false=>exact ⟨20000,rfl,by omega,by omega⟩
def Btw (M:Nat) (A:Nat→Nat→Int) (lo hi:Int):Prop:=∀ a b,a < M→b < M→lo≤A a b∧A a b≤hi
theorem mkL_ok (n:Nat) (h:n≤4294967296) (v:Int):mkL v (n:Int) (n:Int)=some (List.replicate n v):=by
 unfold mkL
 have h1:decide (0≤(n:Int))=true:=by simp
 have h2:decide ((n:Int)≤(n:Int))=true:=by simp
 have h3:decide ((n:Int)≤4294967296)=true:=by simp;omega
 simp
 rw [h3];rfl
theorem zone_ok (hN:4194304 < N) (n:Nat) (hn:n≤24):∃ B A,z81 N (n:Int)=some ⟨(n:Int),B⟩∧Rep (n+1) B A∧Btw (n+1) A 0 20000:=by
 have hM:(n+1) * (n+1)≤25 * 25:=Nat.mul_le_mul (by omega) (by omega)
 have hw:w64 ((n:Int)+1)=((n+1:Nat):Int):=w64_succ (by omega)
 have hw2:w64 ((w64 ((n:Int)+1)) * (w64 ((n:Int)+1)))=(((n+1) * (n+1):Nat):Int):=by
  rw [hw,w64_id]
  ·rw [Int.natCast_mul]
  ·rw [← Int.natCast_mul];omega
  ·rw [← Int.natCast_mul];omega
 unfold z81
 rw [hw2,mkL_ok _ (by omega)]
 simp only [bS]
 have h0:Rep (n+1) (List.replicate ((n+1) * (n+1)) (0:Int)) (fun _ _=>0):=⟨by simp,fun i j hi hj=>by rw [List.getElem?_replicate,if_pos (cell_lt hi hj)]⟩
 let P:Nat→List Int→Prop:=fun _ B=>∃ A,Rep (n+1) B A∧Btw (n+1) A 0 20000
 have outer:=loopP (n+1) (z81_l2 N (n:Int)) (fun B=>some ⟨(n:Int),B⟩) P (by
  intro f B i hi hP
  have inner:=loopP (n+1) (z81_l4 N (n:Int) (i:Int) (z81_l2 N (n:Int) f)) (fun B=>z81_l2 N (n:Int) f B ((i+1:Nat):Int)) P (by
   intro g B j hj ⟨A,hR,hA⟩
   obtain ⟨v,hv,v1,v2⟩:=full_eq (N:=N) i j
   refine ⟨B.set (i * (n+1)+j) v,⟨_,hR.set hi hj v,fun a b ha hb=>?_⟩,?_⟩
   ·unfold upd;split
    ·exact ⟨v1,v2⟩
    ·exact hA a b ha hb
   ·rw [z81_l4,hw,lt_t hj,hv,← hw,row_w hn (by omega) (by omega),w64_succ (by omega)]
    simp only [cT,bS,idx_nat,hR.at' i j hi hj,setL'_nat]) (by
   intro g B
   rw [z81_l4,hw,lt_f (Nat.le_refl _)]
   simp only [cF,z81_k3]
   rw [w64_succ (by omega)])
  obtain ⟨B',hP',e⟩:=inner (n+1) N 0 B (by omega) (by omega) hP
  refine ⟨B',hP',?_⟩
  rw [z81_l2,hw,lt_t hi]
  exact e) (by
  intro f B
  rw [z81_l2,hw,lt_f (Nat.le_refl _)];rfl)
 obtain ⟨B',⟨A,hR,hA⟩,e⟩:=outer (n+1) N 0 _ (by omega) (by omega) ⟨_,h0,fun _ _ _ _=>⟨by omega,by omega⟩⟩
 exact ⟨B',A,e,hR,hA⟩
theorem min_some (l:List Int) (hl:l.length≤4194304):∀ (r:List Int) (n k:Nat) (v:Int),l.drop k=r→r.length < n→∃ z,z147_l2 l n v (k:Int)=some z:=by
 intro r
 induction r with
 | nil =>
  intro n k v h hn
  obtain ⟨n,rfl⟩:∃ m,n=m+1:=⟨n-1,by simp at hn;omega⟩
  rw [z147_l2,lt_f (drop_nil h)]
  exact ⟨v,rfl⟩
 | cons x r ih =>
  intro n k v h hn
  obtain ⟨n,rfl⟩:∃ m,n=m+1:=⟨n-1,by simp at hn;omega⟩
  obtain ⟨q1,q2,q3⟩:=drop_cons h
  simp only [List.length_cons] at hn
  rw [z147_l2,lt_t q1,w64_succ (by omega)]
  simp only [cT,idx_nat,q2,bS]
  exact ih n (k+1) _ q3 (by omega)
theorem max_some (l:List Int) (hl:l.length≤4194304):∀ (r:List Int) (n k:Nat) (v:Int),l.drop k=r→r.length < n→∃ z,z148_l2 l n v (k:Int)=some z:=by
 intro r
 induction r with
 | nil =>
  intro n k v h hn
  obtain ⟨n,rfl⟩:∃ m,n=m+1:=⟨n-1,by simp at hn;omega⟩
  rw [z148_l2,lt_f (drop_nil h)]
  exact ⟨v,rfl⟩
 | cons x r ih =>
  intro n k v h hn
  obtain ⟨n,rfl⟩:∃ m,n=m+1:=⟨n-1,by simp at hn;omega⟩
  obtain ⟨q1,q2,q3⟩:=drop_cons h
  simp only [List.length_cons] at hn
  rw [z148_l2,lt_t q1,w64_succ (by omega)]
  simp only [cT,idx_nat,q2,bS]
  exact ih n (k+1) _ q3 (by omega)
theorem len_drop (l:List Int) (h:0 < l.length):(l.drop 1).length < l.length:=by simp;omega
theorem valid_some (hN:4194304 < N) (n:Nat) (hn:n≤24) (B:List Int) (hl:B.length=(n+1) * (n+1)):∃ b,z82 N ⟨(n:Int),B⟩=some b:=by
 have hM:(n+1) * (n+1)≤25 * 25:=Nat.mul_le_mul (by omega) (by omega)
 have hM0:1≤(n+1) * (n+1):=Nat.mul_le_mul (show 1≤n+1 by omega) (show 1≤n+1 by omega)
 have hw2:w64 ((w64 ((n:Int)+1)) * (w64 ((n:Int)+1)))=(((n+1) * (n+1):Nat):Int):=by
  rw [w64_succ (by omega),w64_id]
  ·rw [Int.natCast_mul]
  ·rw [← Int.natCast_mul];omega
  ·rw [← Int.natCast_mul];omega
 obtain ⟨x,hx⟩:∃ x,B[0]? = some x:=⟨B[0]'(by omega),by simp⟩
 obtain ⟨p,hp⟩:=min_some B (by omega) (B.drop 1) N 1 x rfl (by have:=len_drop B (by omega);omega)
 obtain ⟨q,hq⟩:=max_some B (by omega) (B.drop 1) N 1 x rfl (by have:=len_drop B (by omega);omega)
 have e0:idx B (0:Int)=some x:=by rw [show (0:Int)=((0:Nat):Int) from rfl,idx_nat];exact hx
 have h1:z147 N B=some p:=by
  unfold z147
  rw [dF (show ¬ (B.length:Int) < 1 by omega),e0]
  exact hp
 have h2:z148 N B=some q:=by
  unfold z148
  rw [dF (show ¬ (B.length:Int) < 1 by omega),e0]
  exact hq
 unfold z82
 simp only []
 rw [dT (show (n:Int)≥0 by omega),dT (show (n:Int)≤24 by omega),hw2,hl,h1]
 simp only [beq_self_eq_true,cT,bS]
 cases decide (p≥-20001) with
 | false=>exact ⟨false,rfl⟩
 | true=>simp only [cT,h2,bS];exact ⟨_,rfl⟩
theorem valid_nil:z82 N ⟨0,[]⟩=some false:=rfl
end Gp
end
section
namespace Gp
open Go Go.Kx Gx
variable {N:Nat}
def Zs (n:Nat) (low:List (Nat × Int)) (z:T8):Prop:=z=⟨0,[]⟩∨∃ A,z.N=(n:Int)∧Rep (n+1) z.B A∧Btw (n+1) A (-20001) 20000∧∀ p∈low,A 0 (p.1+1)≤p.2
theorem add_nil (d:T1):z37 N ⟨0,[]⟩ d=some (⟨0,[]⟩,1):=by
 unfold z37
 rw [valid_nil];rfl
theorem minI_le (a b:Int):minI a b≤a∧minI a b≤b∧(minI a b=a∨minI a b=b):=by unfold minI;split<;>omega
theorem maxI_le (a b:Int):a≤maxI a b∧b≤maxI a b∧(maxI a b=a∨maxI a b=b):=by unfold maxI;split<;>omega
theorem add_some (hN:4194304 < N) (n:Nat) (hn:n≤24) (low:List (Nat × Int)) (z:T8) (h:Zs n low z) (d:T1):∃ z' e,z37 N z d=some (z',e)∧Zs n low z' ∧
  (∀ y:Nat,d.X=-1→d.Y=(y:Int)→y < n→Zs n ((y,maxI d.C (-20001))::low) z'):=by
 rcases h with rfl | ⟨A,h1,h2,h3,h4⟩
 ·exact ⟨_,_,add_nil d,.inl rfl,fun _ _ _ _=>.inl rfl⟩
 ·obtain ⟨zn,B⟩:=z
  simp only at h1 h2
  subst h1
  have hM:(n+1) * (n+1)≤25 * 25:=Nat.mul_le_mul (by omega) (by omega)
  obtain ⟨b,hb⟩:=valid_some hN n hn B h2.len
  unfold z37
  rw [hb]
  simp only [bS]
  cases b with
  | false=>exact ⟨_,_,rfl,.inl rfl,fun _ _ _ _=>.inl rfl⟩
  | true =>
   have hin:∀ x:Int,z83 N ⟨(n:Int),B⟩ x=some (decide (-1≤x∧x < (n:Int))):=fun x=>by
    unfold z83
    by_cases c1:x≥-1
    ·rw [dT c1]
     by_cases c2:x < (n:Int)
     ·rw [dT c2,dT (show -1≤x∧x < (n:Int) from ⟨c1,c2⟩)];rfl
     ·rw [dF c2,dF (show ¬ (-1≤x∧x < (n:Int)) from fun h=>c2 h.2)];rfl
    ·rw [dF c1,dF (show ¬ (-1≤x∧x < (n:Int)) from fun h=>c1 h.1)];rfl
   rw [hin,hin]
   simp only [Bool.not_true,cF,bS]
   by_cases cx:-1≤d.X∧d.X < (n:Int)
   ·rw [dT cx]
    by_cases cy:-1≤d.Y∧d.Y < (n:Int)
    ·rw [dT cy]
     obtain ⟨i,hi⟩:∃ i:Nat,d.X=(i:Int)-1:=⟨(d.X+1).toNat,by omega⟩
     obtain ⟨j,hj⟩:∃ j:Nat,d.Y=(j:Int)-1:=⟨(d.Y+1).toNat,by omega⟩
     have hiM:i < n+1:=by omega
     have hjM:j < n+1:=by omega
     have hk:w64 ((w64 ((w64 ((w64 (d.X+(1:Int))) * (w64 ((n:Int)+(1:Int)))))+d.Y))+(1:Int))=((i * (n+1)+j:Nat):Int):=by
      have q1:i * (n+1)≤24 * 25:=Nat.mul_le_mul (by omega) (by omega)
      have e0:w64 (d.X+1)=(i:Int):=by rw [w64_id (by omega) (by omega)];omega
      rw [e0,w64_succ (by omega)]
      have e:(i:Int) * ((n+1:Nat):Int)=((i * (n+1):Nat):Int):=by rw [Int.natCast_mul]
      rw [e,w64_id (n:=((i * (n+1):Nat):Int)) (by omega) (by omega),hj,w64_id (n:=((i * (n+1):Nat):Int)+((j:Int)-1)) (by omega) (by omega),w64_id (by omega) (by omega)]
      omega
     simp only [Bool.not_true,cF]
     rw [hk]
     unfold z84
     rw [appL_some (by simp;rw [h2.len];omega)]
     simp only [bS,List.nil_append,idx_nat,h2.at' i j hiM hjM,setL'_nat]
     have hv:=minI_le (A i j) (maxI d.C (-20001))
     have hx:=maxI_le d.C (-20001)
     have hA:=h3 i j hiM hjM
     have hbt:Btw (n+1) (upd A i j (minI (A i j) (maxI d.C (-20001)))) (-20001) 20000:=fun a b ha hb=>by
      unfold upd;split
      ·omega
      ·exact h3 a b ha hb
     have hlow:∀ p∈low,upd A i j (minI (A i j) (maxI d.C (-20001))) 0 (p.1+1)≤p.2:=fun p hp=>by
      have:=h4 p hp
      unfold upd;split
      ·rename_i e
       have e3:A i j=A 0 (p.1+1):=by rw [← e.1,← e.2]
       have:=hv.1
       omega
      ·exact this
     refine ⟨_,_,rfl,.inr ⟨_,rfl,h2.set hiM hjM _,hbt,hlow⟩,fun y e1 e2 e3=>.inr ⟨_,rfl,h2.set hiM hjM _,hbt,fun p hp=>?_⟩⟩
     rcases List.mem_cons.1 hp with rfl | hp
     ·have q1:i=0:=by omega
      have q2:j=y+1:=by omega
      unfold upd
      rw [if_pos ⟨q1.symm,q2.symm⟩]
      exact hv.2.1
     ·exact hlow p hp
    ·rw [dF cy]
     exact ⟨_,_,rfl,.inl rfl,fun _ _ _ _=>.inl rfl⟩
   ·rw [dF cx]
    exact ⟨_,_,rfl,.inl rfl,fun _ _ _ _=>.inl rfl⟩
structure Ph (M k:Nat) (K:Int) (A0 A:Nat→Nat→Int) (i j:Nat):Prop where
 hi:∀ a b,a < M→b < M→A a b≤20000
 lo:∀ a b,a < M→b < M→-(6 * K)≤A a b
 un:∀ a b,a < M→b < M→¬ (a < i∨(a=i∧b < j))→-K≤A a b
 rc:∀ a b,a < M→b < M→(a=k∨b=k)→-(3 * K)≤A a b
 kk:-(2 * K)≤A k k
 mono:∀ a b,a < M→b < M→A a b≤A0 a b
theorem Ph.step {M k:Nat} {K:Int} {A0 A:Nat→Nat→Int} {i j:Nat} (h:Ph M k K A0 A i j) (hK:0≤K) (hk:k < M) (hi:i < M) (hj:j < M):Ph M k K A0 (upd A i j (minI (A i j) (A i k+A k j))) i (j+1):=by
 have u:=h.un i j hi hj (by omega)
 have hv:=minI_le (A i j) (A i k+A k j)
 have rik:=h.rc i k hi hk (.inr rfl)
 have rkj:=h.rc k j hk hj (.inl rfl)
 have kk:=h.kk
 have hhi:=h.hi i j hi hj
 have hmo:=h.mono i j hi hj
 have lo':-(6 * K)≤minI (A i j) (A i k+A k j):=by omega
 have rc':(i=k∨j=k)→-(3 * K)≤minI (A i j) (A i k+A k j):=fun e=>by
  rcases e with e | e
  ·subst e;omega
  ·subst e;omega
 have kk':i=k→j=k→-(2 * K)≤minI (A i j) (A i k+A k j):=fun e1 e2=>by subst e1;subst e2;omega
 refine ⟨fun a b ha hb=>?_,fun a b ha hb=>?_,fun a b ha hb hn=>?_,fun a b ha hb e=>?_,?_,fun a b ha hb=>?_⟩
 ·unfold upd;split
  ·omega
  ·exact h.hi a b ha hb
 ·unfold upd;split
  ·exact lo'
  ·exact h.lo a b ha hb
 ·unfold upd;split
  ·rename_i e;omega
  ·exact h.un a b ha hb (by omega)
 ·unfold upd;split
  ·rename_i q;rw [q.1,q.2] at e;exact rc' e
  ·exact h.rc a b ha hb e
 ·unfold upd;split
  ·rename_i q;exact kk' q.1.symm q.2.symm
  ·exact kk
 ·unfold upd;split
  ·rename_i q;rw [q.1,q.2];omega
  ·exact h.mono a b ha hb
theorem Ph.row {M k:Nat} {K:Int} {A0 A:Nat→Nat→Int} {i:Nat} (h:Ph M k K A0 A i M):Ph M k K A0 A (i+1) 0 :=
 ⟨h.hi,h.lo,fun a b ha hb hn=>h.un a b ha hb (by omega),h.rc,h.kk,h.mono⟩
theorem phase (hN:4194304 < N) (n:Nat) (hn:n≤24) (z:T8) (hz:z.N=(n:Int)) (k:Nat) (hk:k < n+1) (K:Int) (hK:20001≤K) (hK2:K≤1000000000) (ag:List Int→Int→Option (T8 × Bool))
  (B:List Int) (A:Nat→Nat→Int) (hR:Rep (n+1) B A) (hA:Btw (n+1) A (-K) 20000) :
  (z85_l6 N z (k:Int) ag N B (0:Int)=some (⟨0,[]⟩,false)) ∨
  ∃ B' A',Rep (n+1) B' A'∧Btw (n+1) A' (-(6 * K)) 20000∧(∀ a b,a < n+1→b < n+1→A' a b≤A a b)∧z85_l6 N z (k:Int) ag N B (0:Int)=ag B' ((k+1:Nat):Int):=by
 have hw:w64 (z.N+1)=((n+1:Nat):Int):=by rw [hz,w64_succ (by omega)]
 have hrow:∀ i j:Nat,i < n+1→j < n+1→w64 ((w64 ((i:Int) * (w64 (z.N+1))))+(j:Int))=((i * (n+1)+j:Nat):Int):=fun i j hi hj=>by rw [hz];exact row_w hn (by omega) (by omega)
 let P:Nat→List Int→Prop:=fun i B=>∃ A',Rep (n+1) B A'∧Ph (n+1) k K A A' i 0
 have outer:=loopP (n+1) (z85_l6 N z (k:Int) ag) (fun B=>z85_k5 N z (k:Int) ag B) P (by
  intro f B i hi ⟨A1,hR1,hP1⟩
  have inner:=loopP (n+1) (z85_l8 z (k:Int) (i:Int) (z85_l6 N z (k:Int) ag f)) (fun B=>z85_l6 N z (k:Int) ag f B ((i+1:Nat):Int)) (fun j B=>∃ A',Rep (n+1) B A'∧Ph (n+1) k K A A' i j) (by
   intro g B j hj ⟨A2,hR2,hP2⟩
   refine ⟨B.set (i * (n+1)+j) (minI (A2 i j) (A2 i k+A2 k j)),⟨_,hR2.set hi hj _,hP2.step (by omega) hk hi hj⟩,?_⟩
   have q1:=hP2.lo i k hi hk
   have q2:=hP2.lo k j hk hj
   have q3:=hP2.hi i k hi hk
   have q4:=hP2.hi k j hk hj
   rw [z85_l8,hw,lt_t hj,← hw,hrow i j hi hj,hrow i k hi hk,hrow k j hk hj,w64_succ (by omega)]
   simp only [cT,idx_nat,hR2.at' i j hi hj,hR2.at' i k hi hk,hR2.at' k j hk hj,bS,setL'_nat]
   rw [w64_id (by omega) (by omega)]) (by
   intro g B
   rw [z85_l8,hw,lt_f (Nat.le_refl _)]
   simp only [cF,z85_k7]
   rw [w64_succ (by omega)])
  obtain ⟨B',⟨A',hR',hP'⟩,e⟩:=inner (n+1) N 0 B (by omega) (by omega) ⟨A1,hR1,hP1⟩
  refine ⟨B',⟨A',hR',hP'.row⟩,?_⟩
  rw [z85_l6,hw,lt_t hi]
  exact e) (by
  intro f B
  rw [z85_l6,hw,lt_f (Nat.le_refl _)];rfl)
 obtain ⟨B',⟨A',hR',hP'⟩,e⟩:=outer (n+1) N 0 B (by omega) (by omega) ⟨A,hR,⟨fun a b ha hb=>(hA a b ha hb).2,fun a b ha hb=>by have:=(hA a b ha hb).1;omega,fun a b ha hb _=>(hA a b ha hb).1,fun a b ha hb _=>by have:=(hA a b ha hb).1;omega,by have:=(hA k k hk hk).1;omega,fun a b _ _=>Int.le_refl _⟩⟩
 have e:z85_l6 N z (k:Int) ag N B (0:Int)=z85_k5 N z (k:Int) ag B':=e
 -- the look at the diagonal
 have diag:∀ (r g i:Nat),i+r=n+1→r < g→z85_l4 z (k:Int) ag B' g (i:Int)=some (⟨0,[]⟩,false)∨z85_l4 z (k:Int) ag B' g (i:Int)=ag B' ((k+1:Nat):Int):=by
  intro r
  induction r with
  | zero =>
   intro g i hi hg
   obtain ⟨g,rfl⟩:∃ m,g=m+1:=⟨g-1,by omega⟩
   have:i=n+1:=by omega
   subst this
   right
   rw [z85_l4,hw,lt_f (Nat.le_refl _)]
   simp only [cF,z85_k3]
   rw [w64_succ (by omega)]
  | succ r ih =>
   intro g i hi hg
   obtain ⟨g,rfl⟩:∃ m,g=m+1:=⟨g-1,by omega⟩
   have hiM:i < n+1:=by omega
   rw [z85_l4,hw,lt_t hiM,← hw,hrow i i hiM hiM,w64_succ (by omega)]
   simp only [cT,idx_nat,hR'.at' i i hiM hiM,bS]
   cases decide (A' i i < 0) with
   | true=>left;rfl
   | false=>exact ih g (i+1) (by omega) (by omega)
 rcases diag (n+1) N 0 (by omega) (by omega) with h | h
 ·left;rw [e];exact h
 ·right
  exact ⟨B',A',hR',fun a b ha hb=>⟨hP'.lo a b ha hb,hP'.hi a b ha hb⟩,hP'.mono,by rw [e];exact h⟩
end Gp
end
section
namespace Gp
open Go Go.Kx Gx
variable {N:Nat}
def pw:Nat→Int
 | 0=>20001
 | k+1=>6 * pw k
theorem pw_le {k:Nat} (h:k≤5):20001≤pw k∧pw k≤155527776:=by
 have:k=0∨k=1∨k=2∨k=3∨k=4∨k=5:=by omega
 rcases this with rfl | rfl | rfl | rfl | rfl | rfl<;>simp [pw]
theorem phases (hN:4194304 < N) (n:Nat) (hn:n≤4) (z:T8) (hz:z.N=(n:Int)):∀ (r f k:Nat) (B:List Int) (A:Nat→Nat→Int),k+r=n+1→r < f→Rep (n+1) B A→Btw (n+1) A (-(pw k)) 20000 →
  z85_l2 N z f B (k:Int)=some (⟨0,[]⟩,false)∨∃ B' A',z85_l2 N z f B (k:Int)=some (⟨(n:Int),B'⟩,true)∧Rep (n+1) B' A'∧Btw (n+1) A' (-155527776) 20000∧∀ a b,a < n+1→b < n+1→A' a b≤A a b:=by
 have hw:w64 (z.N+1)=((n+1:Nat):Int):=by rw [hz,w64_succ (by omega)]
 intro r
 induction r with
 | zero =>
  intro f k B A hk hf hR hA
  obtain ⟨f,rfl⟩:∃ m,f=m+1:=⟨f-1,by omega⟩
  have:k=n+1:=by omega
  subst this
  right
  refine ⟨B,A,?_,hR,fun a b ha hb=>⟨?_,(hA a b ha hb).2⟩,fun _ _ _ _=>Int.le_refl _⟩
  ·rw [z85_l2,hw,lt_f (Nat.le_refl _)]
   simp only [cF,z85_k1,hz]
  ·have:=(hA a b ha hb).1
   have:=(pw_le (k:=n+1) (by omega)).2
   omega
 | succ r ih =>
  intro f k B A hk hf hR hA
  obtain ⟨f,rfl⟩:∃ m,f=m+1:=⟨f-1,by omega⟩
  have hp:=pw_le (k:=k) (by omega)
  rw [z85_l2,hw,lt_t (by omega)]
  simp only [cT]
  rcases phase hN n (by omega) z hz k (by omega) (pw k) hp.1 (by omega) (z85_l2 N z f) B A hR hA with h | ⟨B',A',h1,h2,h3,h4⟩
  ·left;exact h
  ·rw [h4]
   rcases ih f (k+1) B' A' (by omega) (by omega) h1 h2 with h | ⟨B2,A2,e,e1,e2,e3⟩
   ·left;exact h
   ·right
    exact ⟨B2,A2,e,e1,e2,fun a b ha hb=>Int.le_trans (e3 a b ha hb) (h3 a b ha hb)⟩
theorem close_nil:z85 N ⟨0,[]⟩=some (⟨0,[]⟩,false):=by
 unfold z85
 rw [valid_nil];rfl
theorem close_some (hN:4194304 < N) (n:Nat) (hn:n≤4) (low:List (Nat × Int)) (hlow:∀ p∈low,p.1 < n) (z:T8) (h:Zs n low z):(∃ z',z85 N z=some (z',false)) ∨
  ∃ B A,z85 N z=some (⟨(n:Int),B⟩,true)∧z.N=(n:Int)∧Rep (n+1) B A∧Btw (n+1) A (-155527776) 20000∧∀ p∈low,A 0 (p.1+1)≤p.2:=by
 rcases h with rfl | ⟨A,h1,h2,h3,h4⟩
 ·left;exact ⟨_,close_nil⟩
 ·obtain ⟨zn,B⟩:=z
  simp only at h1 h2
  subst h1
  have hM:(n+1) * (n+1)≤25 * 25:=Nat.mul_le_mul (by omega) (by omega)
  obtain ⟨b,hb⟩:=valid_some hN n (by omega) B h2.len
  unfold z85
  rw [hb]
  simp only [bS]
  cases b with
  | false=>left;exact ⟨_,rfl⟩
  | true =>
   simp only [Bool.not_true,cF]
   unfold z84
   rw [appL_some (by simp;rw [h2.len];omega)]
   simp only [bS,List.nil_append]
   have hw:w64 ((n:Int)+1)=((n+1:Nat):Int):=w64_succ (by omega)
   let P:Nat→List Int→Prop:=fun _ B'=>∃ A',Rep (n+1) B' A'∧Btw (n+1) A' (-20001) 20000∧∀ a b,a < n+1→b < n+1→A' a b≤A a b
   have outer:=loopP (n+1) (z85_l10 N ⟨(n:Int),B⟩) (fun B'=>z85_k9 N ⟨(n:Int),B⟩ B') P (by
    intro f B1 i hi hP
    have inner:=loopP (n+1) (z85_l12 N ⟨(n:Int),B⟩ (i:Int) (z85_l10 N ⟨(n:Int),B⟩ f)) (fun B'=>z85_l10 N ⟨(n:Int),B⟩ f B' ((i+1:Nat):Int)) P (by
     intro g B2 j hj ⟨A2,hR2,hA2,hm2⟩
     obtain ⟨v,hv,v1,v2⟩:=full_eq (N:=N) i j
     have q:=minI_le (A2 i j) v
     have q2:=hA2 i j hi hj
     have q3:=hm2 i j hi hj
     refine ⟨B2.set (i * (n+1)+j) (minI (A2 i j) v),⟨_,hR2.set hi hj _,fun a b ha hb=>?_,fun a b ha hb=>?_⟩,?_⟩
     ·unfold upd;split
      ·omega
      ·exact hA2 a b ha hb
     ·unfold upd;split
      ·rename_i e;rw [e.1,e.2];omega
      ·exact hm2 a b ha hb
     ·rw [z85_l12]
      simp only []
      rw [hw,lt_t hj,hv,← hw,row_w (by omega) (by omega) (by omega),w64_succ (by omega)]
      simp only [cT,bS,idx_nat,hR2.at' i j hi hj,setL'_nat]) (by
     intro g B2
     rw [z85_l12]
     simp only []
     rw [hw,lt_f (Nat.le_refl _)]
     simp only [cF,z85_k11]
     rw [w64_succ (by omega)])
    obtain ⟨B',hP',e⟩:=inner (n+1) N 0 B1 (by omega) (by omega) hP
    refine ⟨B',hP',?_⟩
    rw [z85_l10]
    simp only []
    rw [hw,lt_t hi]
    exact e) (by
    intro f B1
    rw [z85_l10]
    simp only []
    rw [hw,lt_f (Nat.le_refl _)];rfl)
   obtain ⟨B',⟨A',hR',hA',hm'⟩,e⟩:=outer (n+1) N 0 B (by omega) (by omega) ⟨A,h2,h3,fun _ _ _ _=>Int.le_refl _⟩
   have e:z85_l10 N ⟨(n:Int),B⟩ N B (0:Int)=z85_l2 N ⟨(n:Int),B⟩ N B' (0:Int):=e
   rw [e]
   rcases phases hN n hn ⟨(n:Int),B⟩ rfl (n+1) N 0 B' A' (by omega) (by omega) hR' hA' with h | ⟨B2,A2,e2,r2,b2,m2⟩
   ·left;exact ⟨_,h⟩
   ·right
    refine ⟨B2,A2,e2,by trivial,r2,b2,fun p hp=>?_⟩
    have:=hlow p hp
    have q1:=m2 0 (p.1+1) (by omega) (by omega)
    have q2:=hm' 0 (p.1+1) (by omega) (by omega)
    have q3:=h4 p hp
    omega
theorem model_some (hN:4194304 < N) (n:Nat) (hn:n≤4) (low:List (Nat × Int)) (hlow:∀ p∈low,p.1 < n) (z:T8) (h:Zs n low z):(∃ m,z38 N z=some (m,false)) ∨
  ∃ m,z38 N z=some (m,true)∧m.length=n∧∀ j x,m[j]? = some x→x≤800000000∧∀ p∈low,p.1=j→-p.2≤x:=by
 unfold z38
 rcases close_some hN n hn low hlow z h with ⟨z',e⟩ | ⟨B,A,e,hz,hR,hA,hl⟩
 ·left
  rw [e];exact ⟨_,rfl⟩
 ·rw [e]
  simp only [bS,Bool.not_true,cF]
  right
  have hat:∀ i j:Nat,i < n+1→j < n+1→z86 N ⟨(n:Int),B⟩ (i:Int) (j:Int)=some (A i j):=fun i j hi hj=>by
   unfold z86
   simp only []
   rw [row_w (by omega) (by omega) (by omega),idx_nat,hR.at' i j hi hj];rfl
  let P:Nat→List Int→Prop:=fun i m=>m.length=i∧∀ j x,m[j]? = some x→-(A 0 (j+1))≤x∧x≤155527776 * ((j:Int)+1)
  have outer:=loopP n (z38_l2 N z (⟨(n:Int),B⟩,true)) (fun m=>some (m,true)) P (by
   intro f m i hi ⟨hml,hm⟩
   have b0:=hA 0 (i+1) (by omega) (by omega)
   have inner:=loopP (γ:=Option (List Int × Bool)) i (z38_l4 N (⟨(n:Int),B⟩,true) m (i:Int) (z38_l2 N z (⟨(n:Int),B⟩,true) f)) (fun v=>z38_k3 m (i:Int) (z38_l2 N z (⟨(n:Int),B⟩,true) f) v) (fun _ v=>-(A 0 (i+1))≤v∧v≤155527776 * ((i:Int)+1)) (by
    intro g v j hj ⟨v1,v2⟩
    obtain ⟨x,hx⟩:∃ x,m[j]? = some x:=⟨m[j]'(by omega),by simp⟩
    obtain ⟨x1,x2⟩:=hm j x hx
    have b1:=hA (j+1) (i+1) (by omega) (by omega)
    have b2:=hA 0 (j+1) (by omega) (by omega)
    have q:=maxI_le v (w64 (x-A (j+1) (i+1)))
    have hw:w64 (x-A (j+1) (i+1))=x-A (j+1) (i+1):=w64_id (by omega) (by omega)
    rw [hw] at q
    refine ⟨maxI v (x-A (j+1) (i+1)),⟨by omega,by omega⟩,?_⟩
    rw [z38_l4,hml,lt_t hj,w64_succ (by omega),w64_succ (n:=i) (by omega)]
    simp only [cT,idx_nat,hx,bS]
    rw [hat (j+1) (i+1) (by omega) (by omega)]
    simp only [bS,hw]) (by
    intro g v
    rw [z38_l4,hml,lt_f (Nat.le_refl _)];rfl)
   have hneg:w64 (0-A 0 (i+1))=0-A 0 (i+1):=w64_id (by omega) (by omega)
   obtain ⟨v,⟨v1,v2⟩,ev⟩:=inner i N 0 (0-A 0 (i+1)) (by omega) (by omega) ⟨by omega,by omega⟩
   refine ⟨m++[v],⟨by simp [hml],fun j x hx=>?_⟩,?_⟩
   ·by_cases c:j < i
    ·rw [List.getElem?_append_left (by omega)] at hx
     exact hm j x hx
    ·have hj:=(List.getElem?_eq_some_iff.1 hx).1
     have:j=i:=by simp [hml] at hj;omega
     subst this
     rw [List.getElem?_append_right (by omega),hml] at hx
     simp at hx
     subst hx
     exact ⟨v1,v2⟩
   ·rw [z38_l2,hz,lt_t hi,w64_succ (by omega)]
    simp only [cT]
    have h0:=hat 0 (i+1) (by omega) (by omega)
    rw [show ((0:Nat):Int)=0 from rfl] at h0
    rw [h0]
    simp only [bS,hneg]
    have ev:z38_l4 N (⟨(n:Int),B⟩,true) m (i:Int) (z38_l2 N z (⟨(n:Int),B⟩,true) f) N (0-A 0 (i+1)) (0:Int)=_:=ev
    rw [ev]
    unfold z38_k3
    rw [appL_some (by simp;omega),w64_succ (by omega)]
    rfl) (by
   intro f m
   rw [z38_l2,hz,lt_f (Nat.le_refl _)];rfl)
  obtain ⟨m,⟨hml,hm⟩,e⟩:=outer n N 0 [] (by omega) (by omega) ⟨rfl,fun j x hx=>by simp at hx⟩
  refine ⟨m,e,hml,fun j x hx=>?_⟩
  obtain ⟨q1,q2⟩:=hm j x hx
  have hj:=(List.getElem?_eq_some_iff.1 hx).1
  refine ⟨by omega,fun p hp hpj=>?_⟩
  have:=hl p hp
  rw [hpj] at this
  omega
end Gp
end
section
namespace Gp
open Go Go.Kx Gx
variable {N:Nat}
def fc:List Bool→Nat
 | []=>0
 | true::r=>fc r
 | false::r=>fc r+1
theorem fc_set:∀ {s:List Bool} {i:Nat},s[i]? = some false→fc (s.set i true)+1=fc s
 | [],i,h=>by simp at h
 | b::r,0,h=>by
  have:b=false:=by simpa using h
  subst this;rfl
 | b::r,i+1,h=>by
  have ih:=fc_set (s:=r) (i:=i) (by simpa using h)
  cases b with
  | true=>exact ih
  | false =>
   show fc (r.set i true)+1+1=fc r+1
   omega
theorem fc_le:∀ s:List Bool,fc s≤s.length
 | []=>Nat.le_refl _
 | true::r=>by have:=fc_le r;show fc r≤r.length+1;omega
 | false::r=>by have:=fc_le r;show fc r+1≤r.length+1;omega
structure Tx (l:List T5) (s:List Bool) (c:Bool) (l':List T5) (s':List Bool) (c':Bool):Prop where
 ll:l'.length=l.length
 ls:s'.length=s.length
 le:fc s'≤fc s
 ch:c'=true→c=true∨fc s' < fc s
 sz:(∀ v∈l,v.S.size≤800000000)→∀ v∈l',v.S.size≤800000000
theorem Tx.refl (l:List T5) (s:List Bool) (c:Bool):Tx l s c l s c:=⟨rfl,rfl,Nat.le_refl _,fun h=>.inl h,fun h=>h⟩
theorem Tx.trans {l s c l1 s1 c1 l2 s2 c2} (h:Tx l s c l1 s1 c1) (k:Tx l1 s1 c1 l2 s2 c2):Tx l s c l2 s2 c2 :=
 ⟨k.ll.trans h.ll,k.ls.trans h.ls,Nat.le_trans k.le h.le,fun q=>by
  rcases k.ch q with q | q
  ·rcases h.ch q with q | q
   ·exact .inl q
   ·exact .inr (Nat.lt_of_le_of_lt k.le q)
  ·exact .inr (Nat.lt_of_lt_of_le q h.le),fun q=>k.sz (h.sz q)⟩
theorem k7_run (l:List T5) (s:List Bool) (c:Bool) (i:Int) (ag:List T5→List Bool→Bool→Int→Option (List T5)) (x y:Int) (hx:0≤x∧x < (l.length:Int)) (hy:0≤y∧y < (l.length:Int)) (hs:s.length=l.length) :
  ∃ l' s' c',z41_k7 l s c i ag x y=ag l' s' c' (w64 (i+1))∧Tx l s c l' s' c':=by
 unfold z41_k7
 obtain ⟨sy,h1⟩:=idx_lt (L:=s) (v:=y) hy.1 (by omega)
 obtain ⟨sx,h2⟩:=idx_lt (L:=s) (v:=x) hx.1 (by omega)
 obtain ⟨ly,h3⟩:=idx_lt (L:=l) (v:=y) hy.1 hy.2
 obtain ⟨lx,h4⟩:=idx_lt (L:=l) (v:=x) hx.1 hx.2
 rw [h1,h2,h3,h4]
 simp only [bS]
 cases sy with
 | false=>exact ⟨l,s,c,rfl,Tx.refl _ _ _⟩
 | true =>
  cases sx with
  | true=>exact ⟨l,s,c,rfl,Tx.refl _ _ _⟩
  | false =>
   refine ⟨_,_,true,rfl,?_⟩
   obtain ⟨k,rfl,hk⟩:=idx_mem h2
   obtain ⟨j,rfl,hj⟩:=idx_mem h3
   have hf:=fc_set hk
   refine ⟨by rw [setL'_nat,List.length_set],by rw [setL'_nat,List.length_set],by rw [setL'_nat];omega,fun _=>.inr (by rw [setL'_nat];omega),fun hz v hv=>?_⟩
   rw [setL'_nat] at hv
   rcases List.mem_or_eq_of_mem_set hv with h | h
   ·exact hz v h
   ·rw [h];exact hz ly (List.mem_of_getElem? hj)
theorem l6t_run (l:List T5) (s:List Bool) (c:Bool) (k:Int) (ag:List T5→List Bool→Bool→Int→Option (List T5)) (e:Int × Int) (h1:0≤e.1∧e.1 < (l.length:Int)) (h2:0≤e.2∧e.2 < (l.length:Int)) (hs:s.length=l.length) (n:Nat) :
  ∃ l' s' c',z41_l6 k ag e (n+3) l s c 0=ag l' s' c' (w64 (k+1))∧Tx l s c l' s' c':=by
 have w1:w64 ((0:Int)+1)=1:=rfl
 have w2:w64 ((1:Int)+1)=2:=rfl
 have d0:decide ((0:Int) < 2)=true:=rfl
 have d1:decide ((1:Int) < 2)=true:=rfl
 have d2:decide ((2:Int) < 2)=false:=rfl
 have i0:idx ([e.1,e.2]:List Int) 0=some e.1:=rfl
 have i1:idx ([e.1,e.2]:List Int) 1=some e.2:=rfl
 have a0:(w64 ((1:Int)-0)==0)=false:=rfl
 have a1:(w64 ((1:Int)-0)==1)=true:=rfl
 have a2:(w64 ((1:Int)-1)==0)=true:=rfl
 rw [z41_l6,d0]
 simp only [cT,i0,bS,a0,cF,a1]
 obtain ⟨l1,s1,c1,e1,t1⟩:=k7_run l s c 0 (z41_l6 k ag e (n+2)) e.1 e.2 h1 h2 hs
 rw [e1,w1,z41_l6,d1]
 simp only [cT,i1,bS,a2]
 obtain ⟨l2,s2,c2,e2,t2⟩:=k7_run l1 s1 c1 1 (z41_l6 k ag e (n+1)) e.2 e.1 (by rw [t1.ll];exact h2) (by rw [t1.ll];exact h1) (by rw [t1.ls,t1.ll];exact hs)
 rw [e2,w2,z41_l6,d2]
 simp only [cF,z41_k5]
 exact ⟨l2,s2,c2,rfl,t1.trans t2⟩
theorem l4t_run (hN:4194304 < N) (x:T0) (ag:List T5→List Bool→Bool→Option (List T5)) (L:Nat) (hin:InG L x.Guard):∀ (r:List (Int × Int)) (n k:Nat) (l:List T5) (s:List Bool) (c:Bool),x.Guard.Equals.drop k=r→r.length < n→l.length=L→s.length=L →
  ∃ l' s' c',z41_l4 N x ag n l s c (k:Int)=ag l' s' c'∧Tx l s c l' s' c':=by
 intro r
 induction r with
 | nil =>
  intro n k l s c h hn hl hs
  obtain ⟨n,rfl⟩:∃ m,n=m+1:=⟨n-1,by simp at hn;omega⟩
  rw [z41_l4,lt_f (drop_nil h)]
  exact ⟨l,s,c,rfl,Tx.refl _ _ _⟩
 | cons e r ih =>
  intro n k l s c h hn hl hs
  obtain ⟨n,rfl⟩:∃ m,n=m+1:=⟨n-1,by simp at hn;omega⟩
  obtain ⟨q1,q2,q3⟩:=drop_cons h
  simp only [List.length_cons] at hn
  have he:=hin.e e (List.mem_of_getElem? q2)
  have hel:=hin.el
  rw [z41_l4,lt_t q1]
  simp only [cT,idx_nat,q2,bS]
  obtain ⟨l1,s1,c1,e1,t1⟩:=l6t_run l s c (k:Int) (z41_l4 N x ag n) e (by rw [hl];exact he.1) (by rw [hl];exact he.2) (by rw [hs,hl]) (N-3)
  rw [show N-3+3=N by omega] at e1
  rw [e1,w64_succ (by omega)]
  obtain ⟨l2,s2,c2,e2,t2⟩:=ih n (k+1) l1 s1 c1 q3 (by omega) (by rw [t1.ll,hl]) (by rw [t1.ls,hs])
  exact ⟨l2,s2,c2,e2,t1.trans t2⟩
theorem l2t_run (hN:4194304 < N) (x:T0) (L:Nat) (hin:InG L x.Guard):∀ (m f:Nat) (l:List T5) (s:List Bool),fc s≤m→m+2≤f→l.length=L→s.length=L→(∀ v∈l,v.S.size≤800000000) →
  ∃ l',z41_l2 N x f l s true=some l'∧l'.length=L∧∀ v∈l',v.S.size≤800000000:=by
 intro m
 induction m with
 | zero =>
  intro f l s hm hf hl hs hz
  obtain ⟨f,rfl⟩:∃ q,f=q+2:=⟨f-2,by omega⟩
  rw [z41_l2]
  simp only [cT]
  obtain ⟨l1,s1,c1,e1,t1⟩:=l4t_run hN x (z41_l2 N x (f+1)) L hin x.Guard.Equals N 0 l s false rfl (by have:=hin.el;omega) hl hs
  have e1:z41_l4 N x (z41_l2 N x (f+1)) N l s false (0:Int)=_:=e1
  rw [e1]
  cases c1 with
  | false=>exact ⟨l1,rfl,by rw [t1.ll,hl],t1.sz hz⟩
  | true =>
   rcases t1.ch rfl with h | h
   ·cases h
   ·omega
 | succ m ih =>
  intro f l s hm hf hl hs hz
  obtain ⟨f,rfl⟩:∃ q,f=q+2:=⟨f-2,by omega⟩
  rw [z41_l2]
  simp only [cT]
  obtain ⟨l1,s1,c1,e1,t1⟩:=l4t_run hN x (z41_l2 N x (f+1)) L hin x.Guard.Equals N 0 l s false rfl (by have:=hin.el;omega) hl hs
  have e1:z41_l4 N x (z41_l2 N x (f+1)) N l s false (0:Int)=_:=e1
  rw [e1]
  cases c1 with
  | false=>exact ⟨l1,rfl,by rw [t1.ll,hl],t1.sz hz⟩
  | true =>
   rcases t1.ch rfl with h | h
   ·cases h
   ·exact ih (f+1) l1 s1 (by omega) (by omega) (by rw [t1.ll,hl]) (by rw [t1.ls,hs]) (t1.sz hz)
theorem mkLB_ok (n:Nat) (h:n≤4294967296) {α:Type} (v:α):mkL v (n:Int) (n:Int)=some (List.replicate n v):=by
 unfold mkL
 have h3:decide ((n:Int)≤4294967296)=true:=by simp;omega
 simp
 rw [h3];rfl
theorem texts_some (hN:4194304 < N) (x:T0) (l:List T5) (hl:l.length≤1000) (hin:InG l.length x.Guard) (hz:∀ v∈l,v.S.size≤800000000):∃ l',z41 N x l=some l'∧l'.length=l.length∧∀ v∈l',v.S.size≤800000000:=by
 unfold z41
 rw [mkLB_ok _ (by omega)]
 simp only [bS]
 have outer:=loopP (γ:=Option (List T5)) l.length (z41_l9 N x l) (fun s=>z41_k8 N x l s) (fun _ s=>s.length=l.length) (by
  intro f s i hi hs
  obtain ⟨v,hv⟩:∃ v,l[i]? = some v:=⟨l[i],by simp [hi]⟩
  obtain ⟨b,hb⟩:∃ b,s[i]? = some b:=⟨s[i]'(by omega),by simp⟩
  rw [z41_l9,lt_t hi,w64_succ (by omega)]
  simp only [cT,idx_nat,hv,hb,bS,setL'_nat]
  cases decide ((i:Int) < x.First) with
  | true=>exact ⟨_,by rw [List.length_set];exact hs,rfl⟩
  | false =>
   simp only [cF]
   cases decide ((i:Int)≥w64 (x.First+(x.Fields.length:Int))) with
   | true=>exact ⟨_,by rw [List.length_set];exact hs,rfl⟩
   | false=>exact ⟨_,by rw [List.length_set];exact hs,rfl⟩) (by
  intro f s
  rw [z41_l9,lt_f (Nat.le_refl _)];rfl)
 obtain ⟨s,hs,e⟩:=outer l.length N 0 (List.replicate l.length false) (by omega) (by omega) (by simp)
 have e:z41_l9 N x l N (List.replicate l.length false) (0:Int)=z41_k8 N x l s:=e
 rw [e]
 unfold z41_k8
 exact l2t_run hN x l.length hin (fc s) N l s (Nat.le_refl _) (by have:=fc_le s;omega) rfl hs hz
end Gp
end
section
namespace Gp
open Go Go.Kx Gx
variable {N:Nat}
structure Bd (x:T0) (L:Nat) (z:List T1):Prop where
 len:z.length≤33554432
 inn:∀ b∈z,b.X < (L:Int)∧b.Y < (L:Int)
 low:∀ (i:Nat) (f:T2),x.Fields[i]? = some f→(⟨-1,w64 (x.First+(i:Int)),w64 (0-f.Sort'.Lo)⟩:T1)∈z
theorem bd2 (x:T0) (hx:SizeD x) (L:Nat) (hin:InG L x.Guard):∀ (r:List (Int × Int)) (n k:Nat) (a:List T1),x.Guard.Equals.drop k=r→r.length < n→a.length+2 * r.length≤33554432→(∀ b∈a,b.X < (L:Int)∧b.Y < (L:Int)) →
  ∃ z,z35_l2 x n a (k:Int)=some z∧z.length≤33554432∧(∀ b∈z,b.X < (L:Int)∧b.Y < (L:Int))∧∀ b∈a,b∈z:=by
 intro r
 induction r with
 | nil =>
  intro n k a h hn ha hb
  obtain ⟨n,rfl⟩:∃ m,n=m+1:=⟨n-1,by simp at hn;omega⟩
  rw [z35_l2,lt_f (drop_nil h)]
  exact ⟨a,rfl,by simp at ha;exact ha,hb,fun b h=>h⟩
 | cons e r ih =>
  intro n k a h hn ha hb
  obtain ⟨n,rfl⟩:∃ m,n=m+1:=⟨n-1,by simp at hn;omega⟩
  obtain ⟨h1,h2,h3⟩:=drop_cons h
  have:=hx.e
  have he:=hin.e e (List.mem_of_getElem? h2)
  simp only [List.length_cons] at hn ha
  rw [z35_l2,lt_t h1,w64_succ (by omega)]
  simp only [cT,idx_nat,h2,bS]
  rw [appL_some (by simp;omega)]
  obtain ⟨z,q1,q2,q3,q4⟩:=ih n (k+1) (a++[⟨e.1,e.2,0⟩,⟨e.2,e.1,0⟩]) h3 (by omega) (by simp;omega) (fun b hb'=>by
   rcases List.mem_append.1 hb' with h | h
   ·exact hb b h
   ·simp only [List.mem_cons,List.not_mem_nil,or_false] at h
    rcases h with rfl | rfl
    ·exact ⟨he.1.2,he.2.2⟩
    ·exact ⟨he.2.2,he.1.2⟩)
  exact ⟨z,q1,q2,q3,fun b hb'=>q4 b (List.mem_append_left _ hb')⟩
theorem bd4 (hN:4194304 < N) (x:T0) (hx:SizeD x) (L first:Nat) (hf:x.First=(first:Int)) (hL:first+x.Fields.length≤L) (hL2:L≤1000) (hin:InG L x.Guard):∀ (r:List T2) (n k:Nat) (a:List T1),x.Fields.drop k=r→r.length < n→a.length+2 * r.length≤8388608→(∀ b∈a,b.X < (L:Int)∧b.Y < (L:Int)) →
  ∃ z,z35_l4 N x n a (k:Int)=some z∧z.length≤33554432∧(∀ b∈z,b.X < (L:Int)∧b.Y < (L:Int))∧(∀ b∈a,b∈z)∧∀ i f,k≤i→x.Fields[i]? = some f→(⟨-1,w64 (x.First+(i:Int)),w64 (0-f.Sort'.Lo)⟩:T1)∈z:=by
 intro r
 have h1:=hx.f
 have h2:=hx.d
 have h3:=hx.e
 induction r with
 | nil =>
  intro n k a h hn ha hb
  obtain ⟨n,rfl⟩:∃ m,n=m+1:=⟨n-1,by simp at hn;omega⟩
  rw [z35_l4,lt_f (drop_nil h)]
  simp only [cF,z35_k3]
  simp only [List.length_nil] at ha
  rw [appL_some (by omega)]
  obtain ⟨z,q1,q2,q3,q4⟩:=bd2 x hx L hin x.Guard.Equals N 0 (a++x.Guard.Diffs) rfl (by omega) (by simp;omega) (fun b hb'=>by
   rcases List.mem_append.1 hb' with h | h
   ·exact hb b h
   ·exact hin.d b h)
  refine ⟨z,q1,q2,q3,fun b hb'=>q4 b (List.mem_append_left _ hb'),fun i f hi hfi=>?_⟩
  have:=drop_nil h
  have:=(List.getElem?_eq_some_iff.1 hfi).1
  omega
 | cons f r ih =>
  intro n k a h hn ha hb
  obtain ⟨n,rfl⟩:∃ m,n=m+1:=⟨n-1,by simp at hn;omega⟩
  obtain ⟨q1,q2,q3⟩:=drop_cons h
  simp only [List.length_cons] at hn ha
  have hw:w64 (x.First+(k:Int))=((first+k:Nat):Int):=by rw [hf,w64_id (by omega) (by omega)];omega
  rw [z35_l4,lt_t q1,w64_succ (by omega)]
  simp only [cT,idx_nat,q2,bS]
  rw [appL_some (by simp;omega)]
  obtain ⟨z,r1,r2,r3,r4,r5⟩:=ih n (k+1) (a++[⟨w64 (x.First+(k:Int)),-1,f.Sort'.Hi⟩,⟨-1,w64 (x.First+(k:Int)),w64 (0-f.Sort'.Lo)⟩]) q3 (by omega) (by simp;omega) (fun b hb'=>by
   rcases List.mem_append.1 hb' with h | h
   ·exact hb b h
   ·simp only [List.mem_cons,List.not_mem_nil,or_false] at h
    rcases h with rfl | rfl
    ·rw [hw];exact ⟨by show ((first+k:Nat):Int) < _;omega,by show (-1:Int) < _;omega⟩
    ·rw [hw];exact ⟨by show (-1:Int) < _;omega,by show ((first+k:Nat):Int) < _;omega⟩)
  refine ⟨z,r1,r2,r3,fun b hb'=>r4 b (List.mem_append_left _ hb'),fun i g hi hg=>?_⟩
  by_cases c:i=k
  ·subst c
   rw [q2] at hg;cases hg
   exact r4 _ (List.mem_append_right _ (by simp))
  ·exact r5 i g (by omega) hg
theorem bd_some (hN:4194304 < N) (x:T0) (hx:SizeD x) (L first:Nat) (hf:x.First=(first:Int)) (hL:first+x.Fields.length≤L) (hL2:L≤1000) (hin:InG L x.Guard):∃ z,z35 N x=some z∧Bd x L z:=by
 have:=hx.f
 obtain ⟨z,q1,q2,q3,_,q5⟩:=bd4 hN x hx L first hf hL hL2 hin x.Fields N 0 [] rfl (by omega) (by simp;omega) (fun b hb=>by simp at hb)
 exact ⟨z,q1,q2,q3,fun i f h=>q5 i f (by omega) h⟩
theorem f7_run (ks:List T5) (x:T0) (c a0 a1:Int) (i:Int) (hi:i=0∨i=1) (ag:Int→Int→Int→Int→Option (List T5 × Bool)) (y:Int) (hy:0≤y∧y < (ks.length:Int)) (own:Bool) :
  z13_k7 N ks x c a0 a1 i ag y own=some ([],false)∨∃ c' b0 b1,z13_k7 N ks x c a0 a1 i ag y own=ag c' b0 b1 (w64 (i+1))∧(own=true→c'=c)∧(i=0→b1=a1∧(own=true→b0=w64 (y-x.First))∧(own=false→b0=a0))∧(i=1→b0=a0∧(own=true→b1=w64 (y-x.First))∧(own=false→b1=a1)):=by
 unfold z13_k7
 cases own with
 | true =>
  simp only [cT]
  right
  rcases hi with rfl | rfl
  ·exact ⟨c,w64 (y-x.First),a1,rfl,fun _=>rfl,fun _=>⟨rfl,fun _=>rfl,fun h=>(by cases h)⟩,fun h=>(by omega)⟩
  ·exact ⟨c,a0,w64 (y-x.First),rfl,fun _=>rfl,fun h=>(by omega),fun _=>⟨rfl,fun _=>rfl,fun h=>(by cases h)⟩⟩
 | false =>
  simp only [cF]
  obtain ⟨v,hv⟩:=idx_lt (L:=ks) (v:=y) hy.1 hy.2
  rw [hv]
  simp only [bS,number_eq]
  cases v.Kind==0 with
  | true=>left;rfl
  | false =>
   right
   rcases hi with rfl | rfl
   ·exact ⟨_,a0,a1,rfl,fun h=>(by cases h),fun _=>⟨rfl,fun h=>(by cases h),fun _=>rfl⟩,fun h=>by omega⟩
   ·exact ⟨_,a0,a1,rfl,fun h=>(by cases h),fun h=>(by omega),fun _=>⟨rfl,fun h=>(by cases h),fun _=>rfl⟩⟩
def ownV (x:T0) (y:Int):Bool:=decide (y≥x.First) && decide (y < w64 (x.First+(x.Fields.length:Int)))
theorem f6_run (ks:List T5) (x:T0) (hfirst:0≤x.First) (vn:Int) (vb:List Int) (k:Int) (ag:Int→List Int→Int→Option (List T5 × Bool)) (b:T1) (hX:b.X < (ks.length:Int)) (hY:b.Y < (ks.length:Int)) (n:Nat) :
  z13_l6 N ks x vn vb k ag b (n+3) b.C (-1) (-1) 0=some ([],false)∨∃ c a0 a1,z13_l6 N ks x vn vb k ag b (n+3) b.C (-1) (-1) 0=(z37 N ⟨vn,vb⟩ ⟨a0,a1,c⟩).bind (fun q=>ag q.1.N q.1.B (w64 (k+1))) ∧
   (b.X=-1→0≤b.Y→ownV x b.Y=true→a0=-1∧a1=w64 (b.Y-x.First)∧c=b.C):=by
 have w1:w64 ((0:Int)+1)=1:=rfl
 have w2:w64 ((1:Int)+1)=2:=rfl
 have d0:decide ((0:Int) < 2)=true:=rfl
 have d1:decide ((1:Int) < 2)=true:=rfl
 have d2:decide ((2:Int) < 2)=false:=rfl
 have i0:idx ([b.X,b.Y]:List Int) 0=some b.X:=rfl
 have i1:idx ([b.X,b.Y]:List Int) 1=some b.Y:=rfl
 have fin:∀ c a0 a1:Int,z13_l6 N ks x vn vb k ag b (n+1) c a0 a1 2=(z37 N ⟨vn,vb⟩ ⟨a0,a1,c⟩).bind (fun q=>ag q.1.N q.1.B (w64 (k+1))):=fun c a0 a1=>by
  rw [z13_l6,d2];rfl
 have two:∀ (own:Bool) (y c a0 a1 i:Int) (g:Int→Int→Int→Int→Option (List T5 × Bool)),(bif decide (y≥x.First) then z13_k7 N ks x c a0 a1 i g y (decide (y < w64 (x.First+(x.Fields.length:Int)))) else z13_k7 N ks x c a0 a1 i g y false)=z13_k7 N ks x c a0 a1 i g y (ownV x y):=fun own y c a0 a1 i g=>by
  unfold ownV
  cases decide (y≥x.First)<;>rfl
 have sec:∀ c a0 a1:Int,z13_l6 N ks x vn vb k ag b (n+2) c a0 a1 1=some ([],false)∨∃ c' b1,z13_l6 N ks x vn vb k ag b (n+2) c a0 a1 1=(z37 N ⟨vn,vb⟩ ⟨a0,b1,c'⟩).bind (fun q=>ag q.1.N q.1.B (w64 (k+1)))∧(0≤b.Y→ownV x b.Y=true→b1=w64 (b.Y-x.First)∧c'=c):=fun c a0 a1=>by
  rw [z13_l6,d1]
  simp only [cT,i1,bS]
  by_cases hneg:b.Y < 0
  ·rw [dT hneg,cT,w2,fin]
   exact .inr ⟨c,a1,rfl,fun h=>by omega⟩
  ·rw [dF hneg,cF,two true]
   rcases f7_run (N:=N) ks x c a0 a1 1 (.inr rfl) (z13_l6 N ks x vn vb k ag b (n+1)) b.Y ⟨by omega,hY⟩ (ownV x b.Y) with h | ⟨c',b0,b1,e,e1,_,e3⟩
   ·left;exact h
   ·right
    obtain ⟨rfl,e4,e5⟩:=e3 rfl
    rw [e,w2,fin]
    exact ⟨c',b1,rfl,fun _ ho=>⟨e4 ho,e1 ho⟩⟩
 rw [z13_l6,d0]
 simp only [cT,i0,bS]
 by_cases hneg:b.X < 0
 ·rw [dT hneg,cT,w1]
  rcases sec b.C (-1) (-1) with h | ⟨c',b1,e,e1⟩
  ·left;exact h
  ·right
   exact ⟨c',-1,b1,e,fun _ hy ho=>⟨rfl,(e1 hy ho).1,(e1 hy ho).2⟩⟩
 ·rw [dF hneg,cF,two true]
  rcases f7_run (N:=N) ks x b.C (-1) (-1) 0 (.inl rfl) (z13_l6 N ks x vn vb k ag b (n+2)) b.X ⟨by omega,hX⟩ (ownV x b.X) with h | ⟨c',b0,b1,e,_,_,_⟩
  ·left;exact h
  ·rw [e,w1]
   rcases sec c' b0 b1 with h | ⟨c2,b2,e2,_⟩
   ·left;exact h
   ·right
    exact ⟨c2,b0,b2,e2,fun h=>by omega⟩
theorem f4_run (hN:33554432 < N) (ks:List T5) (x:T0) (first:Nat) (hf:x.First=(first:Int)) (hfl:first≤1000) (hfn:x.Fields.length≤4) (z0:List T1) (hz:Bd x ks.length z0) :
  ∀ (r:List T1) (f k:Nat) (z:T8) (low:List (Nat × Int)),z0.drop k=r→r.length < f→Zs x.Fields.length low z→(∀ p∈low,p.1 < x.Fields.length) →
  z13_l4 N ks x z0 f z.N z.B (k:Int)=some ([],false)∨∃ z' low',z13_l4 N ks x z0 f z.N z.B (k:Int)=z13_k3 N ks x z'.N z'.B∧Zs x.Fields.length low' z'∧(∀ p∈low',p.1 < x.Fields.length)∧(∀ p∈low,p∈low') ∧
   ∀ i c,i < x.Fields.length→(⟨-1,w64 (x.First+(i:Int)),c⟩:T1)∈r→(i,maxI c (-20001))∈low':=by
 intro r
 induction r with
 | nil =>
  intro f k z low h hn hZ hp
  obtain ⟨f,rfl⟩:∃ m,f=m+1:=⟨f-1,by simp at hn;omega⟩
  right
  refine ⟨z,low,?_,hZ,hp,fun _ h=>h,fun i c _ h=>by simp at h⟩
  rw [z13_l4,lt_f (drop_nil h)];rfl
 | cons b r ih =>
  intro f k z low h hn hZ hp
  obtain ⟨f,rfl⟩:∃ m,f=m+1:=⟨f-1,by simp at hn;omega⟩
  obtain ⟨q1,q2,q3⟩:=drop_cons h
  simp only [List.length_cons] at hn
  have hlen:=hz.len
  have hb:=hz.inn b (List.mem_of_getElem? q2)
  rw [z13_l4,lt_t q1]
  simp only [cT,idx_nat,q2,bS]
  have h6:=f6_run (N:=N) ks x (by omega) z.N z.B (k:Int) (z13_l4 N ks x z0 f) b hb.1 hb.2 (N-3)
  rw [show N-3+3=N by omega] at h6
  rcases h6 with h6 | ⟨c,a0,a1,e,e1⟩
  ·left;exact h6
  ·rw [e,w64_succ (by omega)]
   obtain ⟨z1,e2,h1,h2,h3⟩:=add_some (N:=N) (by omega) x.Fields.length (by omega) low z hZ ⟨a0,a1,c⟩
   rw [h1]
   simp only [bS]
   by_cases ho:b.X=-1∧∃ y:Nat,y < x.Fields.length∧b.Y=w64 (x.First+(y:Int))
   ·obtain ⟨hX,y,hy,hY⟩:=ho
    have hw:w64 (x.First+(y:Int))=((first+y:Nat):Int):=by rw [hf,w64_id (by omega) (by omega)];omega
    have hw2:w64 (x.First+(x.Fields.length:Int))=((first+x.Fields.length:Nat):Int):=by rw [hf,w64_id (by omega) (by omega)];omega
    have hown:ownV x b.Y=true:=by
     unfold ownV
     rw [hY,hw,hw2,hf,dT (show ((first+y:Nat):Int)≥(first:Int) by omega),dT (show ((first+y:Nat):Int) < ((first+x.Fields.length:Nat):Int) by omega)];rfl
    obtain ⟨r1,r2,r3⟩:=e1 hX (by rw [hY,hw];omega) hown
    have hsub:w64 (b.Y-x.First)=(y:Int):=by rw [hY,hw,hf,w64_id (by omega) (by omega)];omega
    have hZ1:=h3 y r1 (by rw [r2,hsub]) hy
    rcases ih f (k+1) z1 _ q3 (by omega) hZ1 (fun p hp'=>by
     rcases List.mem_cons.1 hp' with rfl | hp'
     ·exact hy
     ·exact hp p hp') with h' | ⟨z2,low2,e3,k1,k2,k3,k4⟩
    ·left;exact h'
    ·right
     refine ⟨z2,low2,e3,k1,k2,fun p hp'=>k3 p (List.mem_cons_of_mem _ hp'),fun i c' hi hm=>?_⟩
     rcases List.mem_cons.1 hm with hm | hm
     ·have e5:w64 (x.First+(i:Int))=b.Y:=by rw [← hm]
      have e6:c'=b.C:=by rw [← hm]
      have hwi:w64 (x.First+(i:Int))=((first+i:Nat):Int):=by rw [hf,w64_id (by omega) (by omega)];omega
      have:i=y:=by rw [hwi,hY,hw] at e5;omega
      subst this
      have:=k3 _ (List.mem_cons_self)
      rw [e6,← r3];exact this
     ·exact k4 i c' hi hm
   ·rcases ih f (k+1) z1 low q3 (by omega) h2 hp with h' | ⟨z2,low2,e3,k1,k2,k3,k4⟩
    ·left;exact h'
    ·right
     refine ⟨z2,low2,e3,k1,k2,k3,fun i c' hi hm=>?_⟩
     rcases List.mem_cons.1 hm with hm | hm
     ·exact absurd ⟨by rw [← hm],i,hi,by rw [← hm]⟩ ho
     ·exact k4 i c' hi hm
end Gp
end
section
namespace Gp
open Go Go.Kx Gx
variable {N:Nat}
theorem fits_some (s:T4) (v:T5) (hv:v.S.size < N):∃ b,z80 N s v=some b:=by
 unfold z80
 rw [number_eq]
 simp only [bS]
 cases v.Kind != s.Kind with
 | true=>exact ⟨_,rfl⟩
 | false =>
  simp only [cF]
  cases decide (numV v < s.Lo) with
  | true=>exact ⟨_,rfl⟩
  | false =>
   simp only [cF]
   cases decide (numV v > s.Hi) with
   | true=>exact ⟨_,rfl⟩
   | false =>
    simp only [cF]
    cases v.Kind==1 with
    | true=>exact ⟨_,rfl⟩
    | false =>
     simp only [cF]
     cases v.N==0 with
     | false=>exact ⟨_,rfl⟩
     | true =>
      obtain ⟨z,h1,_⟩:=runes_loop (N:=N) v.S (bs v.S) N 0 rfl (by rw [size_bs] at hv;omega)
      unfold z144_10 z213_9 z246_8
      rw [h1]
      exact ⟨_,rfl⟩
theorem fit_some (hN:900000000 < N) (fs:List T2) (vs:List T5) (hl:fs.length≤4194304) (hs:∀ v∈vs,v.S.size≤800000000):∃ b,z43 N fs vs=some b:=by
 unfold z43
 rw [len_ne]
 by_cases c3:fs.length=vs.length
 ·rw [dT c3]
  simp only [Bool.not_true,cF]
  have key:∀ (r:List T2) (n k:Nat),fs.drop k=r→r.length < n→∃ b,z43_l2 N fs vs n (k:Int)=some b:=by
   intro r
   induction r with
   | nil =>
    intro n k h hn
    obtain ⟨n,rfl⟩:∃ m,n=m+1:=⟨n-1,by simp at hn;omega⟩
    rw [z43_l2,lt_f (drop_nil h)];exact ⟨_,rfl⟩
   | cons f r ih =>
    intro n k h hn
    obtain ⟨n,rfl⟩:∃ m,n=m+1:=⟨n-1,by simp at hn;omega⟩
    obtain ⟨q1,q2,q3⟩:=drop_cons h
    simp only [List.length_cons] at hn
    obtain ⟨v,hv⟩:∃ v,vs[k]? = some v:=⟨vs[k]'(by omega),by simp⟩
    obtain ⟨b,hb⟩:=fits_some (N:=N) f.Sort' v (by have:=hs v (List.mem_of_getElem? hv);omega)
    rw [z43_l2,lt_t q1,w64_succ (by omega)]
    simp only [cT,idx_nat,q2,hv,bS,hb]
    cases b with
    | false=>exact ⟨_,rfl⟩
    | true=>exact ih n (k+1) q3 (by omega)
  exact key fs N 0 rfl (by omega)
 ·rw [dF c3];exact ⟨_,rfl⟩
theorem k1_some (hN:900000000 < N) (ks:List T5) (x:T0) (first:Nat) (hf:x.First=(first:Int)) (hfn:x.Fields.length≤4) (hle:first+x.Fields.length≤ks.length) (hk:ks.length≤1000) (hin:InG ks.length x.Guard) (hks:∀ v∈ks,v.S.size≤800000000)
  (v:List T5) (hv:v.length=x.Fields.length) (hvs:∀ u∈v,u.S.size≤800000000):∃ o,z13_k1 N ks x v=some o∧o.1.length≤4:=by
 unfold z13_k1
 rw [behind_eq x v ks first hf (by omega) (by omega)]
 simp only [bS]
 have hbl:=behind_len first v ks (by omega)
 obtain ⟨T,t1,t2,t3⟩:=texts_some (N:=N) (by omega) x (behindV first v ks) (by omega) (by rw [hbl];exact hin) (fun u hu=>by
  unfold behindV at hu
  rcases List.mem_append.1 hu with h | h
  ·rcases List.mem_append.1 h with h | h
   ·exact hks u (List.mem_of_mem_take h)
   ·exact hvs u h
  ·exact hks u (List.mem_of_mem_drop h))
 rw [t1]
 simp only [bS]
 have hw:w64 (x.First+(x.Fields.length:Int))=((first+x.Fields.length:Nat):Int):=by rw [hf,w64_id (by omega) (by omega)];omega
 have hb:bnd (some x.First) (some (w64 (x.First+(x.Fields.length:Int)))) T.length=some (first,first+x.Fields.length):=by
  unfold bnd
  rw [hw,hf]
  have h1:decide ((0:Int)≤(first:Int))=true:=by simp
  have h2:decide ((first:Int)≤((first+x.Fields.length:Nat):Int))=true:=by simp;omega
  have h3:decide (((first+x.Fields.length:Nat):Int)≤(T.length:Int))=true:=by simp;omega
  simp only [Option.getD_some,h1,h2,h3,Bool.and_true,cT,Int.toNat_natCast]
 have hb2:bnd none none v.length=some (0,v.length):=by
  unfold bnd
  simp
 unfold lsl cpL
 rw [hb,hb2]
 simp only [Option.map_some,bS]
 have htl:((T.take (first+x.Fields.length)).drop first).length=x.Fields.length:=by rw [List.length_drop,List.length_take];omega
 rw [fulfils_eq (N:=N) (by omega) x.Guard T (by rw [t2,hbl];exact hin)]
 simp only [bS]
 generalize hR:v.take 0++((T.take (first+x.Fields.length)).drop first).take (min ((T.take (first+x.Fields.length)).drop first).length (v.length-0))++v.drop (0+min ((T.take (first+x.Fields.length)).drop first).length (v.length-0))=R
 have hRl:R.length≤4:=by
  rw [← hR,htl]
  simp only [lA,List.length_take,List.length_drop,htl]
  omega
 have hRs:∀ u∈R,u.S.size≤800000000:=fun u hu=>by
  rw [← hR] at hu
  rcases List.mem_append.1 hu with h | h
  ·rcases List.mem_append.1 h with h | h
   ·simp at h
   ·exact t3 u (List.mem_of_mem_take (List.mem_of_mem_drop (List.mem_of_mem_take h)))
  ·exact hvs u (List.mem_of_mem_drop h)
 cases keepsV x.Guard T with
 | false=>exact ⟨_,rfl,by simp⟩
 | true =>
  simp only [Bool.not_true,cF]
  obtain ⟨b,hb⟩:=fit_some hN x.Fields R (by omega) hRs
  rw [hb]
  simp only [bS]
  cases b with
  | false=>exact ⟨_,rfl,by simp⟩
  | true=>exact ⟨_,rfl,hRl⟩
theorem repL_len (l:List UInt8):∀ n:Nat,(repL l n).length=n * l.length
 | 0=>by simp [repL]
 | n+1=>by
  show (l++repL l n).length=_
  rw [lA,repL_len l n,Nat.add_mul];omega
theorem repeat_some (c:Int) (h0:0≤c) (h1:c≤800000000):∃ r,z39 N (str [97]) c=some r∧r.size≤800000000:=by
 unfold z39
 have hs:(str [97]).size=1:=rfl
 rw [dT h0,dT (show c≤140737488355328 by omega),hs,dT (show 1 * c.toNat≤140737488355328 by omega)]
 refine ⟨_,rfl,?_⟩
 show (repL (str [97]).data.toList c.toNat).toArray.size≤_
 rw [List.size_toArray,repL_len]
 have:(str [97]).data.toList.length=1:=rfl
 rw [this];omega
theorem k3_some (hN:900000000 < N) (ks:List T5) (x:T0) (first:Nat) (hf:x.First=(first:Int)) (hfn:x.Fields.length≤4) (hle:first+x.Fields.length≤ks.length) (hk:ks.length≤1000) (hin:InG ks.length x.Guard) (hks:∀ v∈ks,v.S.size≤800000000)
  (hso:∀ f∈x.Fields,f.Sort'.Kind=2→0≤f.Sort'.Lo∧f.Sort'.Lo≤1000) (z:T8) (low:List (Nat × Int)) (hZ:Zs x.Fields.length low z) (hp:∀ p∈low,p.1 < x.Fields.length)
  (hlow:∀ i f,x.Fields[i]? = some f→(i,maxI (w64 (0-f.Sort'.Lo)) (-20001))∈low):∃ o,z13_k3 N ks x z.N z.B=some o∧o.1.length≤4:=by
 unfold z13_k3
 rcases model_some (N:=N) (by omega) x.Fields.length hfn low hp z hZ with ⟨m,e⟩ | ⟨m,e,ml,mh⟩
 ·have e:z38 N ⟨z.N,z.B⟩=some (m,false):=e
  rw [e];exact ⟨_,rfl,by simp⟩
 ·have e:z38 N ⟨z.N,z.B⟩=some (m,true):=e
  rw [e]
  simp only [bS,Bool.not_true,cF]
  rw [mkLB_ok _ (by omega)]
  simp only [bS]
  have outer:=loopP (γ:=Option (List T5 × Bool)) x.Fields.length (z13_l2 N ks x (m,true)) (fun v=>z13_k1 N ks x v) (fun _ v=>v.length=x.Fields.length∧∀ u∈v,u.S.size≤800000000) (by
   intro f v i hi ⟨hv,hvs⟩
   obtain ⟨fl,hfl⟩:∃ fl,x.Fields[i]? = some fl:=⟨x.Fields[i],by simp [hi]⟩
   obtain ⟨mi,hmi⟩:∃ mi,m[i]? = some mi:=⟨m[i]'(by omega),by simp⟩
   obtain ⟨u,hu⟩:∃ u,v[i]? = some u:=⟨v[i]'(by omega),by simp⟩
   have hm:=mh i mi hmi
   rw [z13_l2,lt_t hi,w64_succ (by omega)]
   simp only [cT,idx_nat,hfl,hmi,hu,bS,setL'_nat]
   have hs0:∀ w∈v.set i (⟨fl.Sort'.Kind,mi,(str [])⟩:T5),w.S.size≤800000000:=fun w hw=>by
    rcases List.mem_or_eq_of_mem_set hw with h | h
    ·exact hvs w h
    ·rw [h];show (str []).size≤_;exact Nat.zero_le _
   cases hk2:(fl.Sort'.Kind==2) with
   | false=>exact ⟨_,⟨by rw [List.length_set];exact hv,hs0⟩,rfl⟩
   | true =>
    have hk2:fl.Sort'.Kind=2:=by simpa using hk2
    obtain ⟨l0,l1⟩:=hso fl (List.mem_of_getElem? hfl) hk2
    have hlo:=hm.2 _ (hlow i fl hfl) rfl
    have hw:w64 (0-fl.Sort'.Lo)=0-fl.Sort'.Lo:=w64_id (by omega) (by omega)
    have hmx:maxI (0-fl.Sort'.Lo) (-20001)=0-fl.Sort'.Lo:=by unfold maxI;rw [if_neg (by omega)]
    simp only [hw,hmx] at hlo
    obtain ⟨r,hr,hrs⟩:=repeat_some (N:=N) mi (by omega) hm.1
    simp only [cT,hr,bS]
    rw [List.getElem?_set,if_pos rfl,if_pos (by omega)]
    simp only [bS]
    refine ⟨_,⟨by rw [List.length_set,List.length_set];exact hv,fun w hw=>?_⟩,rfl⟩
    rcases List.mem_or_eq_of_mem_set hw with h | h
    ·exact hs0 w h
    ·rw [h];exact hrs) (by
   intro f v
   rw [z13_l2,lt_f (Nat.le_refl _)];rfl)
  obtain ⟨v,⟨hv,hvs⟩,e2⟩:=outer x.Fields.length N 0 (List.replicate x.Fields.length ⟨0,0,(str [])⟩) (by omega) (by omega) ⟨by simp,fun u hu=>by
   rw [List.eq_of_mem_replicate hu];exact Nat.zero_le _⟩
  have e2:z13_l2 N ks x (m,true) N (List.replicate x.Fields.length ⟨0,0,(str [])⟩) (0:Int)=z13_k1 N ks x v:=e2
  rw [e2]
  exact k1_some hN ks x first hf hfn hle hk hin hks v hv hvs
theorem fill_some (hN:900000000 < N) (d:List T0) (label:Int) (ks:List T5) (x:T0) (first:Nat) (hproper:z33 N d label ks=some true) (hidx:idx d label=some x) (hx:SizeD x) (hf:x.First=(first:Int)) (hfn:x.Fields.length≤4) (hle:first+x.Fields.length≤ks.length) (hk:ks.length≤1000) (hin:InG ks.length x.Guard) (hks:∀ v∈ks,v.S.size≤800000000)
  (hso:∀ f∈x.Fields,f.Sort'.Kind=2→0≤f.Sort'.Lo∧f.Sort'.Lo≤1000):∃ o,z13 N d label ks=some o∧o.1.length≤4:=by
 unfold z13
 rw [hproper,hidx]
 simp only [bS,Bool.not_true,cF]
 obtain ⟨B,A,h1,h2,h3⟩:=zone_ok (N:=N) (by omega) x.Fields.length (by omega)
 have hnew:z34 N (x.Fields.length:Int)=some (⟨(x.Fields.length:Int),B⟩,0):=by
  unfold z34
  rw [dF (show ¬ (x.Fields.length:Int) < 0 by omega),dF (show ¬ (x.Fields.length:Int) > 24 by omega)]
  simp only [cF]
  rw [h1];rfl
 rw [hnew]
 simp only [bS]
 obtain ⟨z0,b1,b2⟩:=bd_some (N:=N) (by omega) x hx ks.length first hf hle hk hin
 rw [b1]
 simp only [bS]
 have hlen:=b2.len
 rcases f4_run (N:=N) (by omega) ks x first hf (by omega) hfn z0 b2 z0 N 0 ⟨(x.Fields.length:Int),B⟩ [] rfl (by omega) (.inr ⟨A,rfl,h2,fun a b ha hb=>by have:=h3 a b ha hb;omega,fun p hp=>by simp at hp⟩) (fun p hp=>by simp at hp) with h | ⟨z,low,e,k1,k2,k3,k4⟩
 ·exact ⟨_,h,by simp⟩
 ·have e:z13_l4 N ks x z0 N (x.Fields.length:Int) B (0:Int)=z13_k3 N ks x z.N z.B:=e
  rw [e]
  exact k3_some hN ks x first hf hfn hle hk hin hks hso z low k1 k2 (fun i f hif=>k4 i _ (List.getElem?_eq_some_iff.1 hif).1 (b2.low i f hif))
structure Alike (x:T0) (first:Nat) (ks os:List T5):Prop where
 ix:∀ y,0≤y→ownV x y=false→idx ks y=idx os y
 bh:∀ v:List T5,v.length=x.Fields.length→z40 N x v ks=z40 N x v os
end Gp
end
section
namespace Gp
open Go Go.Kx Gx
variable {N:Nat}
end Gp
end
section
namespace Gp
open Go Go.Kx Gx
variable {N:Nat}
def fullV (i j:Nat):Int:=if i=j then 0 else if i=0 then 10000 else if j=0 then 10000 else 20000
theorem full_is (i j:Nat):z146 N (i:Int) (j:Int)=some (fullV i j):=by
 unfold z146 fullV
 by_cases h1:i=j
 ·subst h1;simp
 ·have e1:((i:Int)==(j:Int))=false:=by simp;omega
  rw [e1,if_neg h1]
  by_cases h2:i=0
  ·subst h2;simp
  ·have e2:((i:Int)==0)=false:=by simp;omega
   rw [e2,if_neg h2]
   by_cases h3:j=0
   ·subst h3;simp
   ·have e3:((j:Int)==0)=false:=by simp;omega
    rw [e3,if_neg h3];rfl
theorem fullV_le (i j:Nat):0≤fullV i j∧fullV i j≤20000:=by
 unfold fullV;split
 ·omega
 ·split
  ·omega
  ·split<;>omega
structure Zx (n:Nat) (A:Nat→Nat→Int) (z:T8):Prop where
 N:z.N=(n:Int)
 rep:Rep (n+1) z.B A
 lo:∀ a b,a < n+1→b < n+1→-20001≤A a b
 hi:∀ a b,a < n+1→b < n+1→A a b≤fullV a b
theorem min_ge (l:List Int) (hl:l.length≤4194304) (lo:Int) (h:∀ x∈l,lo≤x):∀ (r:List Int) (n k:Nat) (v:Int),lo≤v→l.drop k=r→r.length < n→∃ z,z147_l2 l n v (k:Int)=some z∧lo≤z:=by
 intro r
 induction r with
 | nil =>
  intro n k v hv h hn
  obtain ⟨n,rfl⟩:∃ m,n=m+1:=⟨n-1,by simp at hn;omega⟩
  rw [z147_l2,lt_f (drop_nil h)]
  exact ⟨v,rfl,hv⟩
 | cons x r ih =>
  intro n k v hv hd hn
  obtain ⟨n,rfl⟩:∃ m,n=m+1:=⟨n-1,by simp at hn;omega⟩
  obtain ⟨q1,q2,q3⟩:=drop_cons hd
  simp only [List.length_cons] at hn
  have hx:=h x (List.mem_of_getElem? q2)
  have:=minI_le v x
  rw [z147_l2,lt_t q1,w64_succ (by omega)]
  simp only [cT,idx_nat,q2,bS]
  exact ih n (k+1) _ (by omega) q3 (by omega)
theorem max_le (l:List Int) (hl:l.length≤4194304) (hi:Int) (h:∀ x∈l,x≤hi):∀ (r:List Int) (n k:Nat) (v:Int),v≤hi→l.drop k=r→r.length < n→∃ z,z148_l2 l n v (k:Int)=some z∧z≤hi:=by
 intro r
 induction r with
 | nil =>
  intro n k v hv h hn
  obtain ⟨n,rfl⟩:∃ m,n=m+1:=⟨n-1,by simp at hn;omega⟩
  rw [z148_l2,lt_f (drop_nil h)]
  exact ⟨v,rfl,hv⟩
 | cons x r ih =>
  intro n k v hv hd hn
  obtain ⟨n,rfl⟩:∃ m,n=m+1:=⟨n-1,by simp at hn;omega⟩
  obtain ⟨q1,q2,q3⟩:=drop_cons hd
  simp only [List.length_cons] at hn
  have hx:=h x (List.mem_of_getElem? q2)
  have:=maxI_le v x
  rw [z148_l2,lt_t q1,w64_succ (by omega)]
  simp only [cT,idx_nat,q2,bS]
  exact ih n (k+1) _ (by omega) q3 (by omega)
theorem Rep.mem {M:Nat} {B:List Int} {A:Nat→Nat→Int} (h:Rep M B A) {x:Int} (hx:x∈B):∃ a b,a < M∧b < M∧x=A a b:=by
 obtain ⟨p,hp⟩:=List.mem_iff_getElem?.1 hx
 have hlt:=(List.getElem?_eq_some_iff.1 hp).1
 rw [h.len] at hlt
 have hM:0 < M:=by
  rcases Nat.eq_zero_or_pos M with h0 | h0
  ·subst h0;simp at hlt
  ·exact h0
 have ha:p / M < M:=Nat.div_lt_of_lt_mul hlt
 have hb:p % M < M:=Nat.mod_lt _ hM
 refine ⟨p / M,p % M,ha,hb,?_⟩
 have:=h.at' (p / M) (p % M) ha hb
 rw [show p / M * M+p % M=p by rw [Nat.mul_comm];exact Nat.div_add_mod p M,hp] at this
 exact Option.some.inj this
theorem valid_true (hN:4194304 < N) {n:Nat} (hn:n≤24) {A:Nat→Nat→Int} {z:T8} (h:Zx n A z):z82 N z=some true:=by
 obtain ⟨zn,B⟩:=z
 obtain ⟨h1,h2,h3,h4⟩:=h
 simp only at h1 h2
 subst h1
 have hM:(n+1) * (n+1)≤25 * 25:=Nat.mul_le_mul (by omega) (by omega)
 have hM0:1≤(n+1) * (n+1):=Nat.mul_le_mul (show 1≤n+1 by omega) (show 1≤n+1 by omega)
 have hl:=h2.len
 have hw2:w64 ((w64 ((n:Int)+1)) * (w64 ((n:Int)+1)))=(((n+1) * (n+1):Nat):Int):=by
  rw [w64_succ (by omega),w64_id]
  ·rw [Int.natCast_mul]
  ·rw [← Int.natCast_mul];omega
  ·rw [← Int.natCast_mul];omega
 have hlo:∀ x∈B,-20001≤x:=fun x hx=>by
  obtain ⟨a,b,ha,hb,rfl⟩:=h2.mem hx
  exact h3 a b ha hb
 have hhi:∀ x∈B,x≤20000:=fun x hx=>by
  obtain ⟨a,b,ha,hb,rfl⟩:=h2.mem hx
  have:=h4 a b ha hb
  have:=fullV_le a b
  omega
 obtain ⟨x,hx⟩:∃ x,B[0]? = some x:=⟨B[0]'(by omega),by simp⟩
 have hxm:=List.mem_of_getElem? hx
 obtain ⟨p,hp,hp2⟩:=min_ge B (by omega) (-20001) hlo (B.drop 1) N 1 x (hlo x hxm) rfl (by have:=len_drop B (by omega);omega)
 obtain ⟨q,hq,hq2⟩:=max_le B (by omega) 20000 hhi (B.drop 1) N 1 x (hhi x hxm) rfl (by have:=len_drop B (by omega);omega)
 have e0:idx B (0:Int)=some x:=by rw [show (0:Int)=((0:Nat):Int) from rfl,idx_nat];exact hx
 have e1:z147 N B=some p:=by
  unfold z147
  rw [dF (show ¬ (B.length:Int) < 1 by omega),e0]
  exact hp
 have e2:z148 N B=some q:=by
  unfold z148
  rw [dF (show ¬ (B.length:Int) < 1 by omega),e0]
  exact hq
 unfold z82
 simp only []
 rw [dT (show (n:Int)≥0 by omega),dT (show (n:Int)≤24 by omega),hw2,hl,e1]
 simp only [beq_self_eq_true,cT,bS]
 rw [dT (show p≥-20001 by omega),e2]
 simp only [cT,bS]
 rw [dT hq2]
theorem new_is (hN:4194304 < N) (n:Nat) (hn:n≤24):∃ B,z34 N (n:Int)=some (⟨(n:Int),B⟩,0)∧Zx n fullV ⟨(n:Int),B⟩:=by
 have hM:(n+1) * (n+1)≤25 * 25:=Nat.mul_le_mul (by omega) (by omega)
 have hw:w64 ((n:Int)+1)=((n+1:Nat):Int):=w64_succ (by omega)
 have hw2:w64 ((w64 ((n:Int)+1)) * (w64 ((n:Int)+1)))=(((n+1) * (n+1):Nat):Int):=by
  rw [hw,w64_id]
  ·rw [Int.natCast_mul]
  ·rw [← Int.natCast_mul];omega
  ·rw [← Int.natCast_mul];omega
 -- the cells ahead of a place are filled
 let Q:Nat→Nat→List Int→Prop:=fun i j B=>∃ A,Rep (n+1) B A∧∀ a b,a < n+1→b < n+1→(a < i∨(a=i∧b < j))→A a b=fullV a b
 have h0:Rep (n+1) (List.replicate ((n+1) * (n+1)) (0:Int)) (fun _ _=>0):=⟨by simp,fun i j hi hj=>by rw [List.getElem?_replicate,if_pos (cell_lt hi hj)]⟩
 have outer:=loopP (n+1) (z81_l2 N (n:Int)) (fun B=>some ⟨(n:Int),B⟩) (fun i B=>Q i 0 B) (by
  intro f B i hi hP
  have inner:=loopP (n+1) (z81_l4 N (n:Int) (i:Int) (z81_l2 N (n:Int) f)) (fun B=>z81_l2 N (n:Int) f B ((i+1:Nat):Int)) (fun j B=>Q i j B) (by
   intro g B j hj ⟨A,hR,hA⟩
   refine ⟨B.set (i * (n+1)+j) (fullV i j),⟨_,hR.set hi hj _,fun a b ha hb hab=>?_⟩,?_⟩
   ·unfold upd;split
    ·rename_i e;rw [e.1,e.2]
    ·rename_i e;exact hA a b ha hb (by omega)
   ·rw [z81_l4,hw,lt_t hj,full_is,← hw,row_w hn (by omega) (by omega),w64_succ (by omega)]
    simp only [cT,bS,idx_nat,hR.at' i j hi hj,setL'_nat]) (by
   intro g B
   rw [z81_l4,hw,lt_f (Nat.le_refl _)]
   simp only [cF,z81_k3]
   rw [w64_succ (by omega)])
  obtain ⟨B',⟨A,hR,hA⟩,e⟩:=inner (n+1) N 0 B (by omega) (by omega) hP
  refine ⟨B',⟨A,hR,fun a b ha hb hab=>hA a b ha hb (by omega)⟩,?_⟩
  rw [z81_l2,hw,lt_t hi]
  exact e) (by
  intro f B
  rw [z81_l2,hw,lt_f (Nat.le_refl _)];rfl)
 obtain ⟨B',⟨A,hR,hA⟩,e⟩:=outer (n+1) N 0 _ (by omega) (by omega) ⟨_,h0,fun a b _ _ hab=>by omega⟩
 have hAf:∀ a b,a < n+1→b < n+1→A a b=fullV a b:=fun a b ha hb=>hA a b ha hb (by omega)
 refine ⟨B',?_,rfl,⟨hR.len,fun a b ha hb=>by rw [hR.at' a b ha hb,hAf a b ha hb]⟩,fun a b _ _=>by have:=fullV_le a b;omega,fun a b _ _=>Int.le_refl _⟩
 unfold z34
 rw [dF (show ¬ (n:Int) < 0 by omega),dF (show ¬ (n:Int) > 24 by omega)]
 simp only [cF]
 unfold z81
 rw [hw2,mkL_ok _ (by omega)]
 simp only [bS]
 have e:z81_l2 N (n:Int) N (List.replicate ((n+1) * (n+1)) 0) (0:Int)=some ⟨(n:Int),B'⟩:=e
 rw [e];rfl
theorem add_is (hN:4194304 < N) {n:Nat} (hn:n≤24) {A:Nat→Nat→Int} {z:T8} (h:Zx n A z) (i j:Nat) (hi:i < n+1) (hj:j < n+1) (c:Int) :
  ∃ z',z37 N z ⟨(i:Int)-1,(j:Int)-1,c⟩=some (z',0)∧Zx n (upd A i j (minI (A i j) (maxI c (-20001)))) z':=by
 have hv:=valid_true hN hn h
 obtain ⟨zn,B⟩:=z
 obtain ⟨h1,h2,h3,h4⟩:=h
 simp only at h1 h2
 subst h1
 have hM:(n+1) * (n+1)≤25 * 25:=Nat.mul_le_mul (by omega) (by omega)
 unfold z37
 rw [hv]
 simp only [bS,Bool.not_true,cF]
 have hin:∀ k:Nat,k < n+1→z83 N ⟨(n:Int),B⟩ ((k:Int)-1)=some true:=fun k hk=>by
  unfold z83
  rw [dT (show (k:Int)-1≥-1 by omega)]
  simp only [cT]
  rw [dT (show (k:Int)-1 < (n:Int) by omega)]
 rw [hin i hi,hin j hj]
 simp only [bS,Bool.not_true,cF]
 have hk:w64 ((w64 ((w64 ((w64 ((i:Int)-1+(1:Int))) * (w64 ((n:Int)+(1:Int)))))+((j:Int)-1)))+(1:Int))=((i * (n+1)+j:Nat):Int):=by
  have q1:i * (n+1)≤24 * 25:=Nat.mul_le_mul (by omega) (by omega)
  have e0:w64 ((i:Int)-1+1)=(i:Int):=by rw [w64_id (by omega) (by omega)];omega
  rw [e0,w64_succ (by omega)]
  have e:(i:Int) * ((n+1:Nat):Int)=((i * (n+1):Nat):Int):=by rw [Int.natCast_mul]
  rw [e,w64_id (n:=((i * (n+1):Nat):Int)) (by omega) (by omega),w64_id (n:=((i * (n+1):Nat):Int)+((j:Int)-1)) (by omega) (by omega),w64_id (by omega) (by omega)]
  omega
 rw [hk]
 unfold z84
 rw [appL_some (by simp;rw [h2.len];omega)]
 simp only [bS,List.nil_append,idx_nat,h2.at' i j hi hj,setL'_nat]
 have hv:=minI_le (A i j) (maxI c (-20001))
 have hx:=maxI_le c (-20001)
 have hA:=h3 i j hi hj
 have hA2:=h4 i j hi hj
 refine ⟨_,rfl,rfl,h2.set hi hj _,fun a b ha hb=>?_,fun a b ha hb=>?_⟩
 ·unfold upd;split
  ·omega
  ·exact h3 a b ha hb
 ·unfold upd;split
  ·rename_i e;rw [e.1,e.2];omega
  ·exact h4 a b ha hb
def Keep (M:Nat) (A:Nat→Nat→Int) (y:Nat→Int):Prop:=∀ a b,a < M→b < M→y a-y b≤A a b
def ph (A:Nat→Nat→Int) (k:Nat):Nat→Nat→Int:=fun a b=>minI (A a b) (A a k+A k b)
theorem keep_ph {M:Nat} {A:Nat→Nat→Int} {y:Nat→Int} {k:Nat} (hk:k < M):Keep M A y↔Keep M (ph A k) y:=by
 constructor
 ·intro h a b ha hb
  have h1:=h a b ha hb
  have h2:=h a k ha hk
  have h3:=h k b hk hb
  unfold ph minI
  split<;>omega
 ·intro h a b ha hb
  have h1:=h a b ha hb
  have:=minI_le (A a b) (A a k+A k b)
  unfold ph at h1
  omega
theorem phase_is (hN:4194304 < N) (n:Nat) (hn:n≤24) (z:T8) (hz:z.N=(n:Int)) (k:Nat) (hk:k < n+1) (K:Int) (hK:20001≤K) (hK2:K≤1000000000) (ag:List Int→Int→Option (T8 × Bool))
  (B:List Int) (A:Nat→Nat→Int) (hR:Rep (n+1) B A) (hA:Btw (n+1) A (-K) 20000) (hkk:A k k=0) :
  ∃ B',Rep (n+1) B' (ph A k)∧z85_l6 N z (k:Int) ag N B (0:Int)=z85_k5 N z (k:Int) ag B':=by
 have hw:w64 (z.N+1)=((n+1:Nat):Int):=by rw [hz,w64_succ (by omega)]
 have hrow:∀ i j:Nat,i < n+1→j < n+1→w64 ((w64 ((i:Int) * (w64 (z.N+1))))+(j:Int))=((i * (n+1)+j:Nat):Int):=fun i j hi hj=>by rw [hz];exact row_w hn (by omega) (by omega)
 have pk1:∀ a,ph A k a k=A a k:=fun a=>by unfold ph minI;rw [hkk];split<;>omega
 have pk2:∀ b,ph A k k b=A k b:=fun b=>by unfold ph minI;rw [hkk];split<;>omega
 let S:Nat→Nat→Nat→Nat→Int:=fun i j a b=>if a < i∨(a=i∧b < j) then ph A k a b else A a b
 let P:Nat→Nat→List Int→Prop:=fun i j B=>Rep (n+1) B (S i j)
 have sk1:∀ i j a,S i j a k=A a k:=fun i j a=>by
  show (if _ then _ else _)=_
  split
  ·exact pk1 a
  ·rfl
 have sk2:∀ i j b,S i j k b=A k b:=fun i j b=>by
  show (if _ then _ else _)=_
  split
  ·exact pk2 b
  ·rfl
 have outer:=loopP (n+1) (z85_l6 N z (k:Int) ag) (fun B=>z85_k5 N z (k:Int) ag B) (fun i B=>P i 0 B) (by
  intro f B i hi hP1
  have inner:=loopP (n+1) (z85_l8 z (k:Int) (i:Int) (z85_l6 N z (k:Int) ag f)) (fun B=>z85_l6 N z (k:Int) ag f B ((i+1:Nat):Int)) (fun j B=>P i j B) (by
   intro g B j hj hP2
   have hP2:Rep (n+1) B (S i j):=hP2
   have e0:S i j i j=A i j:=by show (if _ then _ else _)=_;rw [if_neg (by omega)]
   refine ⟨B.set (i * (n+1)+j) (ph A k i j),?_,?_⟩
   ·have:=hP2.set hi hj (ph A k i j)
    refine ⟨this.len,fun a b ha hb=>?_⟩
    rw [this.at' a b ha hb]
    congr 1
    show upd _ _ _ _ a b=if _ then _ else _
    unfold upd
    split
    ·rename_i e;rw [if_pos (by omega),e.1,e.2]
    ·rename_i e
     show (if _ then _ else _)=_
     by_cases c:a < i∨(a=i∧b < j)
     ·rw [if_pos c,if_pos (by omega)]
     ·rw [if_neg c,if_neg (by omega)]
   ·have q1:=hA i k hi hk
    have q2:=hA k j hk hj
    rw [z85_l8,hw,lt_t hj,← hw,hrow i j hi hj,hrow i k hi hk,hrow k j hk hj,w64_succ (by omega)]
    simp only [cT,idx_nat,hP2.at' i j hi hj,hP2.at' i k hi hk,hP2.at' k j hk hj,bS,setL'_nat]
    rw [sk1,sk2,e0,w64_id (by omega) (by omega)]
    rfl) (by
   intro g B
   rw [z85_l8,hw,lt_f (Nat.le_refl _)]
   simp only [cF,z85_k7]
   rw [w64_succ (by omega)])
  obtain ⟨B',hP',e⟩:=inner (n+1) N 0 B (by omega) (by omega) hP1
  have hP':Rep (n+1) B' (S i (n+1)):=hP'
  refine ⟨B',⟨hP'.len,fun a b ha hb=>?_⟩,?_⟩
  ·rw [hP'.at' a b ha hb]
   congr 1
   show (if _ then _ else _)=if _ then _ else _
   by_cases c:a < i∨(a=i∧b < n+1)
   ·rw [if_pos c,if_pos (by omega)]
   ·rw [if_neg c,if_neg (by omega)]
  ·rw [z85_l6,hw,lt_t hi]
   exact e) (by
  intro f B
  rw [z85_l6,hw,lt_f (Nat.le_refl _)];rfl)
 obtain ⟨B',hP',e⟩:=outer (n+1) N 0 B (by omega) (by omega) ⟨hR.len,fun a b ha hb=>by
  rw [hR.at' a b ha hb]
  congr 1
  show _=if _ then _ else _
  rw [if_neg (by omega)]⟩
 have hP':Rep (n+1) B' (S (n+1) 0):=hP'
 refine ⟨B',⟨hP'.len,fun a b ha hb=>?_⟩,e⟩
 rw [hP'.at' a b ha hb]
 congr 1
 show (if _ then _ else _)=_
 rw [if_pos (by omega)]
end Gp
end
section
namespace Gp
open Go Go.Kx Gx
variable {N:Nat}
structure Cl (M k:Nat) (A0 A:Nat→Nat→Int):Prop where
 diag:∀ a,a < M→A a a=0
 tri:∀ l,l < k→∀ a b,a < M→b < M→A a b≤A a l+A l b
 hi:∀ a b,a < M→b < M→A a b≤fullV a b
 keep:∀ y,Keep M A0 y↔Keep M A y
theorem Cl.step {M k:Nat} {A0 A:Nat→Nat→Int} (h:Cl M k A0 A) (hkM:k≤M) (hk:k < M) (hd:∀ a,a < M→0≤ph A k a a):Cl M (k+1) A0 (ph A k):=by
 have hkk:=h.diag k hk
 have e:∀ a b,ph A k a b=minI (A a b) (A a k+A k b):=fun _ _=>rfl
 refine ⟨fun a ha=>?_,fun l hl a b ha hb=>?_,fun a b ha hb=>?_,fun y=>(h.keep y).trans (keep_ph hk)⟩
 ·have h1:=hd a ha
  have h2:=minI_le (A a a) (A a k+A k a)
  have h3:=h.diag a ha
  rw [e] at h1 ⊢
  omega
 ·rw [e,e,e]
  have m0:=minI_le (A a b) (A a k+A k b)
  by_cases c:l=k
  ·subst c
   have m1:=minI_le (A a l) (A a l+A l l)
   have m2:=minI_le (A l b) (A l l+A l b)
   omega
  ·have hlk:l < k:=by omega
   have hlM:l < M:=by omega
   have m1:=minI_le (A a l) (A a k+A k l)
   have m2:=minI_le (A l b) (A l k+A k b)
   have t1:=h.tri l hlk a b ha hb
   have t2:=h.tri l hlk a k ha hk
   have t3:=h.tri l hlk k b hk hb
   have t4:=h.tri l hlk k k hk hk
   omega
 ·have:=h.hi a b ha hb
  have m0:=minI_le (A a b) (A a k+A k b)
  rw [e];omega
theorem diag_is (hN:4194304 < N) (n:Nat) (hn:n≤24) (z:T8) (hz:z.N=(n:Int)) (k:Nat) (hk:k < n+1) (ag:List Int→Int→Option (T8 × Bool)) (B:List Int) (A:Nat→Nat→Int) (hR:Rep (n+1) B A) :
  (z85_k5 N z (k:Int) ag B=some (⟨0,[]⟩,false)∧∃ a,a < n+1∧A a a < 0)∨(z85_k5 N z (k:Int) ag B=ag B ((k+1:Nat):Int)∧∀ a,a < n+1→0≤A a a):=by
 have hw:w64 (z.N+1)=((n+1:Nat):Int):=by rw [hz,w64_succ (by omega)]
 have hrow:∀ i j:Nat,i < n+1→j < n+1→w64 ((w64 ((i:Int) * (w64 (z.N+1))))+(j:Int))=((i * (n+1)+j:Nat):Int):=fun i j hi hj=>by rw [hz];exact row_w hn (by omega) (by omega)
 have diag:∀ (r g i:Nat),i+r=n+1→r < g→(∀ a,a < i→0≤A a a)→(z85_l4 z (k:Int) ag B g (i:Int)=some (⟨0,[]⟩,false)∧∃ a,a < n+1∧A a a < 0)∨(z85_l4 z (k:Int) ag B g (i:Int)=ag B ((k+1:Nat):Int)∧∀ a,a < n+1→0≤A a a):=by
  intro r
  induction r with
  | zero =>
   intro g i hi hg hp
   obtain ⟨g,rfl⟩:∃ m,g=m+1:=⟨g-1,by omega⟩
   have:i=n+1:=by omega
   subst this
   right
   refine ⟨?_,hp⟩
   rw [z85_l4,hw,lt_f (Nat.le_refl _)]
   simp only [cF,z85_k3]
   rw [w64_succ (by omega)]
  | succ r ih =>
   intro g i hi hg hp
   obtain ⟨g,rfl⟩:∃ m,g=m+1:=⟨g-1,by omega⟩
   have hiM:i < n+1:=by omega
   rw [z85_l4,hw,lt_t hiM,← hw,hrow i i hiM hiM,w64_succ (by omega)]
   simp only [cT,idx_nat,hR.at' i i hiM hiM,bS]
   by_cases c:A i i < 0
   ·rw [dT c]
    left;exact ⟨rfl,i,hiM,c⟩
   ·rw [dF c]
    exact ih g (i+1) (by omega) (by omega) (fun a ha=>by
     by_cases e:a=i
     ·subst e;omega
     ·exact hp a (by omega))
 exact diag (n+1) N 0 (by omega) (by omega) (fun a ha=>by omega)
theorem no_keep {M:Nat} {A:Nat→Nat→Int} {a:Nat} (ha:a < M) (h:A a a < 0) (y:Nat→Int):¬ Keep M A y:=fun hk=>by
 have:=hk a a ha ha
 omega
theorem phases_is (hN:4194304 < N) (n:Nat) (hn:n≤4) (z:T8) (hz:z.N=(n:Int)) (A0:Nat→Nat→Int):∀ (r f k:Nat) (B:List Int) (A:Nat→Nat→Int),k+r=n+1→r < f→Rep (n+1) B A→(∀ a b,a < n+1→b < n+1→-(pw k)≤A a b)→Cl (n+1) k A0 A →
  (z85_l2 N z f B (k:Int)=some (⟨0,[]⟩,false)∧∀ y,¬ Keep (n+1) A0 y)∨∃ B' A',z85_l2 N z f B (k:Int)=some (⟨(n:Int),B'⟩,true)∧Rep (n+1) B' A'∧(∀ a b,a < n+1→b < n+1→-155527776≤A' a b)∧Cl (n+1) (n+1) A0 A':=by
 have hw:w64 (z.N+1)=((n+1:Nat):Int):=by rw [hz,w64_succ (by omega)]
 intro r
 induction r with
 | zero =>
  intro f k B A hk hf hR hA hC
  obtain ⟨f,rfl⟩:∃ m,f=m+1:=⟨f-1,by omega⟩
  have:k=n+1:=by omega
  subst this
  right
  refine ⟨B,A,?_,hR,fun a b ha hb=>?_,hC⟩
  ·rw [z85_l2,hw,lt_f (Nat.le_refl _)]
   simp only [cF,z85_k1,hz]
  ·have:=hA a b ha hb
   have:=(pw_le (k:=n+1) (by omega)).2
   omega
 | succ r ih =>
  intro f k B A hk hf hR hA hC
  obtain ⟨f,rfl⟩:∃ m,f=m+1:=⟨f-1,by omega⟩
  have hkM:k < n+1:=by omega
  have hp:=pw_le (k:=k) (by omega)
  rw [z85_l2,hw,lt_t hkM]
  simp only [cT]
  obtain ⟨B1,hR1,e1⟩:=phase_is hN n (by omega) z hz k hkM (pw k) hp.1 (by omega) (z85_l2 N z f) B A hR (fun a b ha hb=>⟨hA a b ha hb,by have:=hC.hi a b ha hb;have:=fullV_le a b;omega⟩) (hC.diag k hkM)
  rw [e1]
  rcases diag_is hN n (by omega) z hz k hkM (z85_l2 N z f) B1 (ph A k) hR1 with ⟨e2,a,ha,hneg⟩ | ⟨e2,hd⟩
  ·left
   refine ⟨e2,fun y hy=>?_⟩
   exact no_keep ha hneg y ((keep_ph hkM).1 ((hC.keep y).1 hy))
  ·rw [e2]
   exact ih f (k+1) B1 (ph A k) (by omega) (by omega) hR1 (fun a b ha hb=>by
    have h1:=hA a b ha hb
    have h2:=hA a k ha hkM
    have h3:=hA k b hkM hb
    show -(6 * pw k)≤minI (A a b) (A a k+A k b)
    have:=minI_le (A a b) (A a k+A k b)
    omega) (hC.step (by omega) hkM hd)
theorem phase_k5 (hN:4194304 < N) (n:Nat) (hn:n≤24) (z:T8) (hz:z.N=(n:Int)) (k:Nat) (hk:k < n+1) (K:Int) (hK:20001≤K) (hK2:K≤1000000000) (ag:List Int→Int→Option (T8 × Bool))
  (B:List Int) (A:Nat→Nat→Int) (hR:Rep (n+1) B A) (hA:Btw (n+1) A (-K) 20000) :
  ∃ B' A',Rep (n+1) B' A'∧(∀ a b,a < n+1→b < n+1→A' a b≤A a b)∧z85_l6 N z (k:Int) ag N B (0:Int)=z85_k5 N z (k:Int) ag B':=by
 have hw:w64 (z.N+1)=((n+1:Nat):Int):=by rw [hz,w64_succ (by omega)]
 have hrow:∀ i j:Nat,i < n+1→j < n+1→w64 ((w64 ((i:Int) * (w64 (z.N+1))))+(j:Int))=((i * (n+1)+j:Nat):Int):=fun i j hi hj=>by rw [hz];exact row_w hn (by omega) (by omega)
 let P:Nat→List Int→Prop:=fun i B=>∃ A',Rep (n+1) B A'∧Ph (n+1) k K A A' i 0
 have outer:=loopP (n+1) (z85_l6 N z (k:Int) ag) (fun B=>z85_k5 N z (k:Int) ag B) P (by
  intro f B i hi ⟨A1,hR1,hP1⟩
  have inner:=loopP (n+1) (z85_l8 z (k:Int) (i:Int) (z85_l6 N z (k:Int) ag f)) (fun B=>z85_l6 N z (k:Int) ag f B ((i+1:Nat):Int)) (fun j B=>∃ A',Rep (n+1) B A'∧Ph (n+1) k K A A' i j) (by
   intro g B j hj ⟨A2,hR2,hP2⟩
   refine ⟨B.set (i * (n+1)+j) (minI (A2 i j) (A2 i k+A2 k j)),⟨_,hR2.set hi hj _,hP2.step (by omega) hk hi hj⟩,?_⟩
   have q1:=hP2.lo i k hi hk
   have q2:=hP2.lo k j hk hj
   have q3:=hP2.hi i k hi hk
   have q4:=hP2.hi k j hk hj
   rw [z85_l8,hw,lt_t hj,← hw,hrow i j hi hj,hrow i k hi hk,hrow k j hk hj,w64_succ (by omega)]
   simp only [cT,idx_nat,hR2.at' i j hi hj,hR2.at' i k hi hk,hR2.at' k j hk hj,bS,setL'_nat]
   rw [w64_id (by omega) (by omega)]) (by
   intro g B
   rw [z85_l8,hw,lt_f (Nat.le_refl _)]
   simp only [cF,z85_k7]
   rw [w64_succ (by omega)])
  obtain ⟨B',⟨A',hR',hP'⟩,e⟩:=inner (n+1) N 0 B (by omega) (by omega) ⟨A1,hR1,hP1⟩
  refine ⟨B',⟨A',hR',hP'.row⟩,?_⟩
  rw [z85_l6,hw,lt_t hi]
  exact e) (by
  intro f B
  rw [z85_l6,hw,lt_f (Nat.le_refl _)];rfl)
 obtain ⟨B',⟨A',hR',hP'⟩,e⟩:=outer (n+1) N 0 B (by omega) (by omega) ⟨A,hR,⟨fun a b ha hb=>(hA a b ha hb).2,fun a b ha hb=>by have:=(hA a b ha hb).1;omega,fun a b ha hb _=>(hA a b ha hb).1,fun a b ha hb _=>by have:=(hA a b ha hb).1;omega,by have:=(hA k k hk hk).1;omega,fun a b _ _=>Int.le_refl _⟩⟩
 have e:z85_l6 N z (k:Int) ag N B (0:Int)=z85_k5 N z (k:Int) ag B':=e
 exact ⟨B',A',hR',hP'.mono,e⟩
theorem close_is (hN:4194304 < N) (n:Nat) (hn:n≤4) (A:Nat→Nat→Int) (z:T8) (h:Zx n A z):(∃ z',z85 N z=some (z',false)∧∀ y,¬ Keep (n+1) A y) ∨
  ∃ B A',z85 N z=some (⟨(n:Int),B⟩,true)∧Rep (n+1) B A'∧(∀ a b,a < n+1→b < n+1→-155527776≤A' a b)∧Cl (n+1) (n+1) A A':=by
 have hv:=valid_true hN (by omega) h
 obtain ⟨zn,B⟩:=z
 obtain ⟨h1,h2,h3,h4⟩:=h
 simp only at h1 h2
 subst h1
 have hM:(n+1) * (n+1)≤25 * 25:=Nat.mul_le_mul (by omega) (by omega)
 unfold z85
 rw [hv]
 simp only [bS,Bool.not_true,cF]
 unfold z84
 rw [appL_some (by simp;rw [h2.len];omega)]
 simp only [bS,List.nil_append]
 have hw:w64 ((n:Int)+1)=((n+1:Nat):Int):=w64_succ (by omega)
 -- the first pass changes nothing
 have outer:=loopP (n+1) (z85_l10 N ⟨(n:Int),B⟩) (fun B'=>z85_k9 N ⟨(n:Int),B⟩ B') (fun _ B'=>Rep (n+1) B' A) (by
  intro f B1 i hi hP
  have inner:=loopP (n+1) (z85_l12 N ⟨(n:Int),B⟩ (i:Int) (z85_l10 N ⟨(n:Int),B⟩ f)) (fun B'=>z85_l10 N ⟨(n:Int),B⟩ f B' ((i+1:Nat):Int)) (fun _ B'=>Rep (n+1) B' A) (by
   intro g B2 j hj hR2
   have hij:=h4 i j hi hj
   have hm:minI (A i j) (fullV i j)=A i j:=by unfold minI;rw [if_neg (by omega)]
   refine ⟨B2.set (i * (n+1)+j) (A i j),?_,?_⟩
   ·have:=hR2.set hi hj (A i j)
    refine ⟨this.len,fun a b ha hb=>?_⟩
    rw [this.at' a b ha hb]
    unfold upd;split
    ·rename_i e;rw [e.1,e.2]
    ·rfl
   ·rw [z85_l12]
    simp only []
    rw [hw,lt_t hj,full_is,← hw,row_w (by omega) (by omega) (by omega),w64_succ (by omega)]
    simp only [cT,bS,idx_nat,hR2.at' i j hi hj,setL'_nat,hm]) (by
   intro g B2
   rw [z85_l12]
   simp only []
   rw [hw,lt_f (Nat.le_refl _)]
   simp only [cF,z85_k11]
   rw [w64_succ (by omega)])
  obtain ⟨B',hP',e⟩:=inner (n+1) N 0 B1 (by omega) (by omega) hP
  refine ⟨B',hP',?_⟩
  rw [z85_l10]
  simp only []
  rw [hw,lt_t hi]
  exact e) (by
  intro f B1
  rw [z85_l10]
  simp only []
  rw [hw,lt_f (Nat.le_refl _)];rfl)
 obtain ⟨B',hR',e⟩:=outer (n+1) N 0 B (by omega) (by omega) h2
 have e:z85_l10 N ⟨(n:Int),B⟩ N B (0:Int)=z85_l2 N ⟨(n:Int),B⟩ N B' (0:Int):=e
 rw [e]
 by_cases hd:∀ a,a < n+1→0≤A a a
 ·have hC:Cl (n+1) 0 A A:=⟨fun a ha=>by
   have q1:=hd a ha
   have q2:=h4 a a ha ha
   unfold fullV at q2
   rw [if_pos rfl] at q2
   omega,fun l hl=>by omega,h4,fun y=>Iff.rfl⟩
  rcases phases_is hN n hn ⟨(n:Int),B⟩ rfl A (n+1) N 0 B' A (by omega) (by omega) hR' (fun a b ha hb=>by have:=h3 a b ha hb;show -(20001:Int)≤_;omega) hC with ⟨h,hk⟩ | ⟨B2,A2,e2,r2,b2,c2⟩
  ·left;exact ⟨_,h,hk⟩
  ·right;exact ⟨B2,A2,e2,r2,b2,c2⟩
 ·-- a place is below nothing from the beginning: the first look finds it
  obtain ⟨a,ha⟩:∃ a,¬ (a < n+1→0≤A a a):=by
   apply Classical.byContradiction
   intro hc
   exact hd fun a h=>Classical.byContradiction fun h2=>hc ⟨a,fun h3=>h2 (h3 h)⟩
  have haM:a < n+1:=by
   apply Classical.byContradiction;intro hc;exact ha fun h=>absurd h hc
  have hneg:A a a < 0:=by
   apply Classical.byContradiction;intro hc;exact ha fun _=>by omega
  left
  obtain ⟨f,rfl⟩:∃ m,N=m+1:=⟨N-1,by omega⟩
  have hz:(⟨(n:Int),B⟩:T8).N=(n:Int):=rfl
  rw [z85_l2]
  simp only []
  rw [hw,show (0:Int)=((0:Nat):Int) from rfl,lt_t (by omega)]
  simp only [cT]
  obtain ⟨B2,A2,r1,r3,r4⟩:=phase_k5 hN n (by omega) ⟨(n:Int),B⟩ rfl 0 (by omega) 20001 (by omega) (by omega) (z85_l2 (f+1) ⟨(n:Int),B⟩ f) B' A hR' (fun a b ha hb=>⟨by have:=h3 a b ha hb;omega,by have:=h4 a b ha hb;have:=fullV_le a b;omega⟩)
  rcases diag_is hN n (by omega) ⟨(n:Int),B⟩ rfl 0 (by omega) (z85_l2 (f+1) ⟨(n:Int),B⟩ f) B2 A2 r1 with ⟨e2,_⟩ | ⟨_,hd2⟩
  ·exact ⟨_,r4.trans e2,fun y=>no_keep haM hneg y⟩
  ·have:=hd2 a haM
   have:=r3 a a haM haM
   omega
end Gp
end
section
namespace Gp
open Go Go.Kx Gx
variable {N:Nat}
def yOf (m:List Int):Nat→Int
 | 0=>0
 | i+1=>(m[i]?).getD 0
theorem yOf_app {m:List Int} {v:Int} {a:Nat} (h:a≤m.length):yOf (m++[v]) a=yOf m a:=by
 cases a with
 | zero=>rfl
 | succ a=>show ((m++[v])[a]?).getD 0=(m[a]?).getD 0;rw [List.getElem?_append_left (by omega)]
theorem yOf_new {m:List Int} {v:Int}:yOf (m++[v]) (m.length+1)=v:=by
 show ((m++[v])[m.length]?).getD 0=v
 simp
theorem yOf_get {m:List Int} {j:Nat} {x:Int} (h:m[j]? = some x):yOf m (j+1)=x:=by
 show (m[j]?).getD 0=x
 rw [h];rfl
def Lst (A:Nat→Nat→Int) (y:Nat→Int) (n:Nat):Prop:=∀ a,1≤a→a≤n→(∃ c,c < a∧y a=y c-A c a)∧∀ c,c < a→y c-A c a≤y a
theorem lst_keep {n:Nat} {A0 A:Nat→Nat→Int} {y:Nat→Int} (h:Lst A y n) (hC:Cl (n+1) (n+1) A0 A):Keep (n+1) A y:=by
 have key:∀ a b,a < n+1→b < n+1→y a-y b≤A a b:=by
  intro a
  induction a using Nat.strongRecOn with
  | _ a ih =>
   intro b ha hb
   rcases Nat.lt_trichotomy a b with hab | hab | hab
   ·have:=(h b (by omega) (by omega)).2 a hab
    omega
   ·subst hab
    have:=hC.diag a ha
    omega
   ·obtain ⟨c,hc,e⟩:=(h a (by omega) (by omega)).1
    have h1:=ih c hc b (by omega) hb
    have h2:=hC.tri a (by omega) c b (by omega) hb
    omega
 exact key
theorem lst_least {n:Nat} {A:Nat→Nat→Int} {y u:Nat→Int} (h:Lst A y n) (hu:Keep (n+1) A u) (h0:u 0=y 0) (i:Nat) (hi:i < n) (he:∀ j,j < i→u (j+1)=y (j+1)):y (i+1)≤u (i+1):=by
 obtain ⟨c,hc,e⟩:=(h (i+1) (by omega) (by omega)).1
 have h1:=hu c (i+1) (by omega) (by omega)
 have:u c=y c:=by
  cases c with
  | zero=>exact h0
  | succ c=>exact he c (by omega)
 omega
theorem model_is (hN:4194304 < N) (n:Nat) (hn:n≤4) (A0:Nat→Nat→Int) (z:T8) (h:Zx n A0 z):(∃ m,z38 N z=some (m,false)∧∀ y,¬ Keep (n+1) A0 y) ∨
  ∃ m,z38 N z=some (m,true)∧m.length=n∧Keep (n+1) A0 (yOf m)∧∀ u,Keep (n+1) A0 u→u 0=0→∀ i,i < n→(∀ j,j < i→u (j+1)=yOf m (j+1))→yOf m (i+1)≤u (i+1):=by
 unfold z38
 have hz:=h.N
 rcases close_is hN n hn A0 z h with ⟨z',e,hno⟩ | ⟨B,A,e,hR,hA,hC⟩
 ·left
  rw [e];exact ⟨_,rfl,hno⟩
 ·rw [e]
  simp only [bS,Bool.not_true,cF]
  right
  have hhi:∀ a b,a < n+1→b < n+1→A a b≤20000:=fun a b ha hb=>by have:=hC.hi a b ha hb;have:=fullV_le a b;omega
  have hat:∀ i j:Nat,i < n+1→j < n+1→z86 N ⟨(n:Int),B⟩ (i:Int) (j:Int)=some (A i j):=fun i j hi hj=>by
   unfold z86
   simp only []
   rw [row_w (by omega) (by omega) (by omega),idx_nat,hR.at' i j hi hj];rfl
  let P:Nat→List Int→Prop:=fun i m=>m.length=i∧Lst A (yOf m) i∧∀ a,a≤i→-20000≤yOf m a∧yOf m a≤155527776 * (a:Int)
  have outer:=loopP n (z38_l2 N z (⟨(n:Int),B⟩,true)) (fun m=>some (m,true)) P (by
   intro f m i hi ⟨hml,hm,hbm⟩
   have b0:=hA 0 (i+1) (by omega) (by omega)
   have b00:=hhi 0 (i+1) (by omega) (by omega)
   have inner:=loopP (γ:=Option (List Int × Bool)) i (z38_l4 N (⟨(n:Int),B⟩,true) m (i:Int) (z38_l2 N z (⟨(n:Int),B⟩,true) f)) (fun v=>z38_k3 m (i:Int) (z38_l2 N z (⟨(n:Int),B⟩,true) f) v)
    (fun j v=>(∃ c,c < j+1∧v=yOf m c-A c (i+1))∧(∀ c,c < j+1→yOf m c-A c (i+1)≤v)∧-20000≤v∧v≤155527776 * ((i:Int)+1)) (by
    intro g v j hj ⟨⟨c,hc,v0⟩,v1,v2,v3⟩
    obtain ⟨x,hx⟩:∃ x,m[j]? = some x:=⟨m[j]'(by omega),by simp⟩
    have hy:=yOf_get hx
    obtain ⟨x1,x2⟩:=hbm (j+1) (by omega)
    rw [hy] at x1 x2
    have b1:=hA (j+1) (i+1) (by omega) (by omega)
    have b2:=hhi (j+1) (i+1) (by omega) (by omega)
    have q:=maxI_le v (w64 (x-A (j+1) (i+1)))
    have hw:w64 (x-A (j+1) (i+1))=x-A (j+1) (i+1):=w64_id (by omega) (by omega)
    rw [hw] at q
    refine ⟨maxI v (x-A (j+1) (i+1)),⟨?_,fun c hc=>?_,by omega,by omega⟩,?_⟩
    ·rcases q.2.2 with q | q
     ·exact ⟨c,by omega,by rw [q];exact v0⟩
     ·exact ⟨j+1,by omega,by rw [q,hy]⟩
    ·by_cases e:c=j+1
     ·rw [e,hy];exact q.2.1
     ·have:=v1 c (by omega)
      omega
    ·rw [z38_l4,hml,lt_t hj,w64_succ (by omega),w64_succ (n:=i) (by omega)]
     simp only [cT,idx_nat,hx,bS]
     rw [hat (j+1) (i+1) (by omega) (by omega)]
     simp only [bS,hw]) (by
    intro g v
    rw [z38_l4,hml,lt_f (Nat.le_refl _)];rfl)
   have hneg:w64 (0-A 0 (i+1))=0-A 0 (i+1):=w64_id (by omega) (by omega)
   obtain ⟨v,⟨⟨c,hc,v0⟩,v1,v2,v3⟩,ev⟩:=inner i N 0 (0-A 0 (i+1)) (by omega) (by omega) ⟨⟨0,by omega,rfl⟩,fun c hc=>by
    have:c=0:=by omega
    subst this
    show (0:Int)-_≤_
    omega,by omega,by omega⟩
   have hkeep:∀ a,a≤i→yOf (m++[v]) a=yOf m a:=fun a ha=>yOf_app (by omega)
   have hnew:yOf (m++[v]) (i+1)=v:=by rw [← hml];exact yOf_new
   refine ⟨m++[v],⟨by simp [hml],fun a h1 h2=>?_,fun a ha=>?_⟩,?_⟩
   ·by_cases c2:a≤i
    ·obtain ⟨⟨c,q1,q2⟩,q3⟩:=hm a h1 c2
     refine ⟨⟨c,q1,by rw [hkeep a c2,hkeep c (by omega)];exact q2⟩,fun c hc=>?_⟩
     rw [hkeep a c2,hkeep c (by omega)]
     exact q3 c hc
    ·have:a=i+1:=by omega
     subst this
     refine ⟨⟨c,hc,by rw [hnew,hkeep c (by omega)];exact v0⟩,fun c hc=>?_⟩
     rw [hnew,hkeep c (by omega)]
     exact v1 c hc
   ·by_cases c2:a≤i
    ·rw [hkeep a c2];exact hbm a c2
    ·have:a=i+1:=by omega
     subst this
     rw [hnew]
     exact ⟨v2,by omega⟩
   ·rw [z38_l2,hz,lt_t hi,w64_succ (by omega)]
    simp only [cT]
    have h0:=hat 0 (i+1) (by omega) (by omega)
    rw [show ((0:Nat):Int)=0 from rfl] at h0
    rw [h0]
    simp only [bS,hneg]
    have ev:z38_l4 N (⟨(n:Int),B⟩,true) m (i:Int) (z38_l2 N z (⟨(n:Int),B⟩,true) f) N (0-A 0 (i+1)) (0:Int)=_:=ev
    rw [ev]
    unfold z38_k3
    rw [appL_some (by simp;omega),w64_succ (by omega)]
    rfl) (by
   intro f m
   rw [z38_l2,hz,lt_f (Nat.le_refl _)];rfl)
  obtain ⟨m,⟨hml,hm,hbm⟩,e⟩:=outer n N 0 [] (by omega) (by omega) ⟨rfl,fun a h1 h2=>by omega,fun a ha=>by
   have:a=0:=by omega
   subst this
   show -20000≤(0:Int)∧(0:Int)≤_
   omega⟩
  refine ⟨m,e,hml,(hC.keep _).2 (lst_keep hm hC),fun u hu hu0 i hi he=>?_⟩
  exact lst_least hm ((hC.keep u).1 hu) (by rw [hu0];rfl) i hi he
end Gp
end
section
namespace Gp
open Go Go.Kx Gx
variable {N:Nat}
def posV (x:T0) (y:Int):Nat:=bif decide (y < 0) then 0 else bif ownV x y then (y-x.First).toNat+1 else 0
def knV (ks:List T5) (x:T0) (y:Int):Int:=bif decide (y < 0) then 0 else bif ownV x y then 0 else match idx ks y with
 | some v=>numV v
 | none=>0
def missV (ks:List T5) (x:T0) (y:Int):Bool:=bif decide (y < 0) then false else bif ownV x y then false else match idx ks y with
 | some v=>v.Kind==0
 | none=>true
def cV (ks:List T5) (x:T0) (b:T1):Int:=b.C-knV ks x b.X+knV ks x b.Y
def Small (ks:List T5):Prop:=∀ (i:Nat) (v:T5),ks[i]? = some v→-1000≤numV v∧numV v≤1000
theorem Small.kn {ks:List T5} (h:Small ks) (x:T0) (y:Int):-1000≤knV ks x y∧knV ks x y≤1000:=by
 unfold knV
 cases decide (y < 0) with
 | true=>simp
 | false =>
  cases ownV x y with
  | true=>simp
  | false =>
   simp only [cF]
   split
   ·rename_i v hv
    obtain ⟨i,rfl,hi⟩:=idx_mem hv
    exact h i v hi
   ·omega
theorem own_iff {x:T0} {first:Nat} (hf:x.First=(first:Int)) (hfl:first≤1000) (hfn:x.Fields.length≤4) (y:Int):ownV x y=true↔(first:Int)≤y∧y < (first:Int)+(x.Fields.length:Int):=by
 have hw:w64 (x.First+(x.Fields.length:Int))=(first:Int)+(x.Fields.length:Int):=by rw [hf,w64_id (by omega) (by omega)]
 unfold ownV
 rw [hw,hf,Bool.and_eq_true,decide_eq_true_eq,decide_eq_true_eq]
theorem pos_lt {x:T0} {first:Nat} (hf:x.First=(first:Int)) (hfl:first≤1000) (hfn:x.Fields.length≤4) (y:Int):posV x y < x.Fields.length+1:=by
 unfold posV
 cases decide (y < 0) with
 | true=>exact Nat.succ_pos _
 | false =>
  simp only [cF]
  cases h:ownV x y with
  | false=>exact Nat.succ_pos _
  | true =>
   have:=(own_iff hf hfl hfn y).1 h
   rw [hf]
   show (y-(first:Int)).toNat+1 < _
   omega
theorem f7_is (ks:List T5) (hS:Small ks) (x:T0) (c a0 a1:Int) (hc:-30000≤c∧c≤30000) (i:Int) (ag:Int→Int→Int→Int→Option (List T5 × Bool)) (y:Int) (hy:0≤y∧y < (ks.length:Int)) :
  (i=0→z13_k7 N ks x c a0 a1 i ag y (ownV x y)=bif missV ks x y then some ([],false) else ag (c-knV ks x y) (bif ownV x y then w64 (y-x.First) else a0) a1 1) ∧
  (i=1→z13_k7 N ks x c a0 a1 i ag y (ownV x y)=bif missV ks x y then some ([],false) else ag (c+knV ks x y) a0 (bif ownV x y then w64 (y-x.First) else a1) 2):=by
 have hk:=hS.kn x y
 unfold z13_k7
 have hn:decide (y < 0)=false:=by simp;omega
 unfold missV
 rw [hn]
 unfold knV at hk ⊢
 rw [hn] at hk ⊢
 cases ho:ownV x y with
 | true =>
  refine ⟨fun e=>?_,fun e=>?_⟩
  ·subst e
   simp only [cT,cF]
   rw [Int.sub_zero];rfl
  ·subst e
   simp only [cT,cF]
   rw [Int.add_zero];rfl
 | false =>
  obtain ⟨v,hv⟩:=idx_lt (L:=ks) (v:=y) hy.1 hy.2
  rw [ho] at hk
  simp only [cF,hv] at hk
  refine ⟨fun e=>?_,fun e=>?_⟩
  ·subst e
   simp only [cF,hv,bS,number_eq]
   cases v.Kind==0 with
   | true=>rfl
   | false =>
    have:w64 (c-numV v)=c-numV v:=w64_id (by omega) (by omega)
    simp only [cF,this];rfl
  ·subst e
   simp only [cF,hv,bS,number_eq]
   cases v.Kind==0 with
   | true=>rfl
   | false =>
    have:w64 (c+numV v)=c+numV v:=w64_id (by omega) (by omega)
    simp only [cF,this];rfl
theorem f6_is (ks:List T5) (hS:Small ks) (x:T0) (first:Nat) (hf:x.First=(first:Int)) (hfl:first≤1000) (hfn:x.Fields.length≤4) (vn:Int) (vb:List Int) (k:Int) (ag:Int→List Int→Int→Option (List T5 × Bool)) (b:T1) (hX:b.X < (ks.length:Int)) (hY:b.Y < (ks.length:Int)) (hC:-20000≤b.C∧b.C≤20000) (n:Nat) :
  z13_l6 N ks x vn vb k ag b (n+3) b.C (-1) (-1) 0=bif missV ks x b.X || missV ks x b.Y then some ([],false) else (z37 N ⟨vn,vb⟩ ⟨(posV x b.X:Int)-1,(posV x b.Y:Int)-1,cV ks x b⟩).bind (fun q=>ag q.1.N q.1.B (w64 (k+1))):=by
 have w1:w64 ((0:Int)+1)=1:=rfl
 have w2:w64 ((1:Int)+1)=2:=rfl
 have d0:decide ((0:Int) < 2)=true:=rfl
 have d1:decide ((1:Int) < 2)=true:=rfl
 have d2:decide ((2:Int) < 2)=false:=rfl
 have i0:idx ([b.X,b.Y]:List Int) 0=some b.X:=rfl
 have i1:idx ([b.X,b.Y]:List Int) 1=some b.Y:=rfl
 have hpos:∀ y:Int,0≤y→(bif ownV x y then w64 (y-x.First) else -1)=(posV x y:Int)-1:=fun y hy=>by
  unfold posV
  rw [dF (show ¬ y < 0 by omega)]
  simp only [cF]
  cases h:ownV x y with
  | false=>rfl
  | true =>
   have h:=(own_iff hf hfl hfn y).1 h
   simp only [cT]
   rw [hf,w64_id (by omega) (by omega)];omega
 have fin:∀ c a0 a1:Int,z13_l6 N ks x vn vb k ag b (n+1) c a0 a1 2=(z37 N ⟨vn,vb⟩ ⟨a0,a1,c⟩).bind (fun q=>ag q.1.N q.1.B (w64 (k+1))):=fun c a0 a1=>by
  rw [z13_l6,d2];rfl
 have two:∀ (y c a0 a1 i:Int) (g:Int→Int→Int→Int→Option (List T5 × Bool)),(bif decide (y≥x.First) then z13_k7 N ks x c a0 a1 i g y (decide (y < w64 (x.First+(x.Fields.length:Int)))) else z13_k7 N ks x c a0 a1 i g y false)=z13_k7 N ks x c a0 a1 i g y (ownV x y):=fun y c a0 a1 i g=>by
  unfold ownV
  cases decide (y≥x.First)<;>rfl
 have sec:∀ c a0:Int,-30000≤c→c≤30000→z13_l6 N ks x vn vb k ag b (n+2) c a0 (-1) 1=bif missV ks x b.Y then some ([],false) else (z37 N ⟨vn,vb⟩ ⟨a0,(posV x b.Y:Int)-1,c+knV ks x b.Y⟩).bind (fun q=>ag q.1.N q.1.B (w64 (k+1))):=fun c a0 h1 h2=>by
  rw [z13_l6,d1]
  simp only [cT,i1,bS]
  by_cases hneg:b.Y < 0
  ·have e1:missV ks x b.Y=false:=by unfold missV;rw [dT hneg];rfl
   have e2:knV ks x b.Y=0:=by unfold knV;rw [dT hneg];rfl
   have e3:posV x b.Y=0:=by unfold posV;rw [dT hneg];rfl
   rw [dT hneg,cT,w2,fin,e1,e2,e3,Int.add_zero];rfl
  ·rw [dF hneg,cF,two,(f7_is ks hS x c a0 (-1) ⟨h1,h2⟩ 1 _ b.Y ⟨by omega,hY⟩).2 rfl,hpos b.Y (by omega),fin]
 have hk:=hS.kn x b.X
 rw [z13_l6,d0]
 simp only [cT,i0,bS]
 unfold cV
 by_cases hneg:b.X < 0
 ·have e1:missV ks x b.X=false:=by unfold missV;rw [dT hneg];rfl
  have e2:knV ks x b.X=0:=by unfold knV;rw [dT hneg];rfl
  have e3:posV x b.X=0:=by unfold posV;rw [dT hneg];rfl
  rw [dT hneg,cT,w1,sec _ _ (by omega) (by omega),e1,e2,e3,Int.sub_zero];rfl
 ·rw [dF hneg,cF,two,(f7_is ks hS x b.C (-1) (-1) ⟨by omega,by omega⟩ 0 _ b.X ⟨by omega,hX⟩).1 rfl,hpos b.X (by omega),sec _ _ (by omega) (by omega)]
  cases missV ks x b.X<;>rfl
theorem keep_upd {M:Nat} {A:Nat→Nat→Int} {i j:Nat} (hi:i < M) (hj:j < M) (c:Int) (u:Nat→Int):Keep M (upd A i j (minI (A i j) c)) u↔Keep M A u∧u i-u j≤c:=by
 have hm:=minI_le (A i j) c
 constructor
 ·intro h
  have hij:=h i j hi hj
  unfold upd at hij
  rw [if_pos ⟨rfl,rfl⟩] at hij
  refine ⟨fun a b ha hb=>?_,by omega⟩
  have:=h a b ha hb
  unfold upd at this
  split at this
  ·rename_i e;rw [e.1,e.2] at *;omega
  ·exact this
 ·rintro ⟨h,h2⟩ a b ha hb
  unfold upd
  split
  ·rename_i e
   have:=h i j hi hj
   rw [e.1,e.2];omega
  ·exact h a b ha hb
theorem f4_is (hN:33554432 < N) (ks:List T5) (hS:Small ks) (x:T0) (first:Nat) (hf:x.First=(first:Int)) (hfl:first≤1000) (hfn:x.Fields.length≤4) (z0:List T1) (hz:Bd x ks.length z0) (hC:∀ b∈z0,-20000≤b.C∧b.C≤20000) :
  ∀ (r:List T1) (f k:Nat) (z:T8) (A:Nat→Nat→Int),z0.drop k=r→r.length < f→Zx x.Fields.length A z →
  ((∃ b∈r,(missV ks x b.X || missV ks x b.Y)=true)∧z13_l4 N ks x z0 f z.N z.B (k:Int)=some ([],false)) ∨
  ((∀ b∈r,(missV ks x b.X || missV ks x b.Y)=false)∧∃ z' A',z13_l4 N ks x z0 f z.N z.B (k:Int)=z13_k3 N ks x z'.N z'.B∧Zx x.Fields.length A' z' ∧
   ∀ u,Keep (x.Fields.length+1) A' u↔Keep (x.Fields.length+1) A u∧∀ b∈r,u (posV x b.X)-u (posV x b.Y)≤maxI (cV ks x b) (-20001)):=by
 intro r
 induction r with
 | nil =>
  intro f k z A h hn hZ
  obtain ⟨f,rfl⟩:∃ m,f=m+1:=⟨f-1,by simp at hn;omega⟩
  right
  refine ⟨fun b hb=>by simp at hb,z,A,?_,hZ,fun u=>⟨fun h=>⟨h,fun b hb=>by simp at hb⟩,fun h=>h.1⟩⟩
  rw [z13_l4,lt_f (drop_nil h)];rfl
 | cons b r ih =>
  intro f k z A h hn hZ
  obtain ⟨f,rfl⟩:∃ m,f=m+1:=⟨f-1,by simp at hn;omega⟩
  obtain ⟨q1,q2,q3⟩:=drop_cons h
  simp only [List.length_cons] at hn
  have hlen:=hz.len
  have hbm:=List.mem_of_getElem? q2
  have hb:=hz.inn b hbm
  rw [z13_l4,lt_t q1]
  simp only [cT,idx_nat,q2,bS]
  have h6:=f6_is (N:=N) ks hS x first hf hfl hfn z.N z.B (k:Int) (z13_l4 N ks x z0 f) b hb.1 hb.2 (hC b hbm) (N-3)
  rw [show N-3+3=N by omega] at h6
  rw [h6]
  cases hm:(missV ks x b.X || missV ks x b.Y) with
  | true =>
   left
   exact ⟨⟨b,List.mem_cons_self,hm⟩,rfl⟩
  | false =>
   simp only [cF]
   have hp1:=pos_lt hf hfl hfn b.X
   have hp2:=pos_lt hf hfl hfn b.Y
   obtain ⟨z1,e1,hZ1⟩:=add_is (N:=N) (by omega) (by omega) hZ (posV x b.X) (posV x b.Y) hp1 hp2 (cV ks x b)
   have e1:z37 N ⟨z.N,z.B⟩ ⟨(posV x b.X:Int)-1,(posV x b.Y:Int)-1,cV ks x b⟩=some (z1,0):=e1
   rw [e1]
   simp only [bS]
   rw [w64_succ (by omega)]
   rcases ih f (k+1) z1 _ q3 (by omega) hZ1 with ⟨⟨c,hc,hcm⟩,e2⟩ | ⟨hall,z2,A2,e2,hZ2,hkeep⟩
   ·left
    exact ⟨⟨c,List.mem_cons_of_mem _ hc,hcm⟩,e2⟩
   ·right
    refine ⟨fun c hc=>?_,z2,A2,e2,hZ2,fun u=>?_⟩
    ·rcases List.mem_cons.1 hc with rfl | hc
     ·exact hm
     ·exact hall c hc
    ·rw [hkeep u,keep_upd hp1 hp2]
     constructor
     ·rintro ⟨⟨g1,g2⟩,g3⟩
      refine ⟨g1,fun c hc=>?_⟩
      rcases List.mem_cons.1 hc with rfl | hc
      ·exact g2
      ·exact g3 c hc
     ·rintro ⟨g1,g2⟩
      exact ⟨⟨g1,g2 b List.mem_cons_self⟩,fun c hc=>g2 c (List.mem_cons_of_mem _ hc)⟩
end Gp
end
section
namespace Gp
open Go Go.Kx Gx
variable {N:Nat}
structure TI (ok:Prop) (s0:List Bool) (l0 W:List T5) (nb:Nat→Int) (tx:Nat→Prop) (l:List T5) (s:List Bool):Prop where
 ll:l.length=l0.length
 ls:s.length=l0.length
 kn:∀ (y:Nat) (v0 v:T5),l0[y]? = some v0→l[y]? = some v→v.Kind=v0.Kind∧v.N=v0.N
 un:∀ y:Nat,s[y]? = some false→l[y]? = l0[y]?
 fx:∀ y:Nat,s0[y]? = some true→s[y]? = some true∧l[y]? = l0[y]?
 st:ok→∀ (y:Nat) (v w:T5),s[y]? = some true→l[y]? = some v→W[y]? = some w→v.S=w.S∧(tx y→(v.S.size:Int)=nb y)
 sz:∀ B:Nat,(∀ v∈l0,v.S.size≤B)→∀ v∈l,v.S.size≤B
structure EqOk (W:List T5) (nb:Nat→Int) (tx:Nat→Prop) (a b:Nat):Prop where
 s:∀ v w:T5,W[a]? = some v→W[b]? = some w→v.S=w.S
 n:nb a=nb b
 ta:tx a
 tb:tx b
theorem EqOk.symm {W nb tx a b} (h:EqOk W nb tx a b):EqOk W nb tx b a:=⟨fun v w h1 h2=>(h.s w v h2 h1).symm,h.n.symm,h.tb,h.ta⟩
theorem k7_is {ok:Prop} {s0:List Bool} {l0 W:List T5} {nb:Nat→Int} {tx:Nat→Prop} {l:List T5} {s:List Bool} (hW:W.length=l0.length) (h:TI ok s0 l0 W nb tx l s) (c:Bool) (i:Int) (ag:List T5→List Bool→Bool→Int→Option (List T5)) (a b:Nat) (ha:a < l0.length) (hb:b < l0.length) (he:ok→EqOk W nb tx a b) :
  ∃ l' s' c',z41_k7 l s c i ag (a:Int) (b:Int)=ag l' s' c' (w64 (i+1))∧TI ok s0 l0 W nb tx l' s'∧((l'=l∧s'=s∧c'=c∧(s[b]? = some true→s[a]? = some true))∨(c'=true∧fc s' < fc s)):=by
 obtain ⟨sb,h1⟩:∃ q,s[b]? = some q:=⟨s[b]'(by rw [h.ls];exact hb),by simp⟩
 obtain ⟨sa,h2⟩:∃ q,s[a]? = some q:=⟨s[a]'(by rw [h.ls];exact ha),by simp⟩
 obtain ⟨lb,h3⟩:∃ q,l[b]? = some q:=⟨l[b]'(by rw [h.ll];exact hb),by simp⟩
 obtain ⟨la,h4⟩:∃ q,l[a]? = some q:=⟨l[a]'(by rw [h.ll];exact ha),by simp⟩
 obtain ⟨wb,h5⟩:∃ q,W[b]? = some q:=⟨W[b]'(by rw [hW];exact hb),by simp⟩
 obtain ⟨wa,h6⟩:∃ q,W[a]? = some q:=⟨W[a]'(by rw [hW];exact ha),by simp⟩
 unfold z41_k7
 rw [idx_nat,idx_nat,idx_nat,idx_nat,h1,h2,h3,h4]
 simp only [bS]
 cases sb with
 | false=>exact ⟨l,s,c,rfl,h,.inl ⟨rfl,rfl,rfl,fun q=>by cases q⟩⟩
 | true =>
  cases sa with
  | true=>exact ⟨l,s,c,rfl,h,.inl ⟨rfl,rfl,rfl,fun _=>rfl⟩⟩
  | false =>
   have hf:=fc_set h2
   refine ⟨_,_,true,rfl,?_,.inr ⟨rfl,by rw [setL'_nat];omega⟩⟩
   rw [setL'_nat,setL'_nat]
   have hal:a < l.length:=by rw [h.ll];exact ha
   have has:a < s.length:=by rw [h.ls];exact ha
   refine ⟨by rw [List.length_set];exact h.ll,by rw [List.length_set];exact h.ls,fun y v0 v q0 q=>?_,fun y q=>?_,fun y q=>?_,fun hok y v w q1 q2 q3=>?_,fun B hB u hu=>?_⟩
   ·rw [List.getElem?_set] at q
    split at q
    ·rename_i e
     subst e
     cases q
     exact h.kn a v0 la q0 h4
    ·exact h.kn y v0 v q0 q
   ·rw [List.getElem?_set] at q
    split at q
    ·cases q
    ·rename_i e
     rw [List.getElem?_set,if_neg e]
     exact h.un y q
   ·obtain ⟨g1,g2⟩:=h.fx y q
    have hne:a≠y:=fun e=>by subst e;rw [h2] at g1;cases g1
    rw [List.getElem?_set,List.getElem?_set,if_neg hne,if_neg hne]
    exact ⟨g1,g2⟩
   ·rw [List.getElem?_set] at q1 q2
    split at q2
    ·rename_i e
     subst e
     cases q2
     rw [h6] at q3
     cases q3
     obtain ⟨g1,g2⟩:=h.st hok b lb wb h1 h3 h5
     refine ⟨?_,fun _=>?_⟩
     ·show lb.S=wa.S
      rw [g1];exact ((he hok).s wa wb h6 h5).symm
     ·show (lb.S.size:Int)=nb a
      rw [g2 (he hok).tb,(he hok).n]
    ·rename_i e
     rw [if_neg e] at q1
     exact h.st hok y v w q1 q2 q3
   ·rcases List.mem_or_eq_of_mem_set hu with q | q
    ·exact h.sz B hB u q
    ·rw [q];exact h.sz B hB lb (List.mem_of_getElem? h3)
theorem l6t_is {ok:Prop} {s0:List Bool} {l0 W:List T5} {nb:Nat→Int} {tx:Nat→Prop} {l:List T5} {s:List Bool} (hW:W.length=l0.length) (h:TI ok s0 l0 W nb tx l s) (c:Bool) (k:Int) (ag:List T5→List Bool→Bool→Int→Option (List T5)) (e:Int × Int) (a b:Nat) (ea:e.1=(a:Int)) (eb:e.2=(b:Int)) (ha:a < l0.length) (hb:b < l0.length) (he:ok→EqOk W nb tx a b) (n:Nat) :
  ∃ l' s' c',z41_l6 k ag e (n+3) l s c 0=ag l' s' c' (w64 (k+1))∧TI ok s0 l0 W nb tx l' s'∧((l'=l∧s'=s∧c'=c∧s[a]? = s[b]?)∨(c'=true∧fc s' < fc s)):=by
 have w1:w64 ((0:Int)+1)=1:=rfl
 have w2:w64 ((1:Int)+1)=2:=rfl
 have d0:decide ((0:Int) < 2)=true:=rfl
 have d1:decide ((1:Int) < 2)=true:=rfl
 have d2:decide ((2:Int) < 2)=false:=rfl
 have i0:idx ([e.1,e.2]:List Int) 0=some e.1:=rfl
 have i1:idx ([e.1,e.2]:List Int) 1=some e.2:=rfl
 have a0:(w64 ((1:Int)-0)==0)=false:=rfl
 have a1:(w64 ((1:Int)-0)==1)=true:=rfl
 have a2:(w64 ((1:Int)-1)==0)=true:=rfl
 rw [z41_l6,d0]
 simp only [cT,i0,bS,a0,cF,a1]
 rw [ea,eb]
 obtain ⟨l1,s1,c1,e1,t1,r1⟩:=k7_is hW h c 0 (z41_l6 k ag e (n+2)) a b ha hb he
 rw [e1,w1,z41_l6,d1]
 simp only [cT,i1,bS,a2]
 rw [ea,eb]
 obtain ⟨l2,s2,c2,e2,t2,r2⟩:=k7_is hW t1 c1 1 (z41_l6 k ag e (n+1)) b a hb ha (fun hok=>(he hok).symm)
 rw [e2,w2,z41_l6,d2]
 simp only [cF,z41_k5]
 refine ⟨l2,s2,c2,rfl,t2,?_⟩
 rcases r1 with ⟨rfl,rfl,rfl,g1⟩ | ⟨rfl,g1⟩
 ·rcases r2 with ⟨rfl,rfl,rfl,g2⟩ | ⟨rfl,g2⟩
  ·left
   refine ⟨rfl,rfl,rfl,?_⟩
   obtain ⟨sb,h1⟩:∃ q,s2[b]? = some q:=⟨s2[b]'(by rw [t2.ls];exact hb),by simp⟩
   obtain ⟨sa,h2⟩:∃ q,s2[a]? = some q:=⟨s2[a]'(by rw [t2.ls];exact ha),by simp⟩
   rw [h1,h2] at g1 g2
   rw [h1,h2]
   cases sa with
   | true=>rw [g2 rfl]
   | false =>
    cases sb with
    | true=>exact g1 rfl
    | false=>rfl
  ·right;exact ⟨rfl,g2⟩
 ·rcases r2 with ⟨rfl,rfl,rfl,g2⟩ | ⟨rfl,g2⟩
  ·right;exact ⟨rfl,g1⟩
  ·right;exact ⟨rfl,by omega⟩
theorem l4t_is (hN:4194304 < N) {ok:Prop} {s0:List Bool} {l0 W:List T5} {nb:Nat→Int} {tx:Nat→Prop} (hW:W.length=l0.length) (x:T0) (hin:InG l0.length x.Guard) (hE:∀ e∈x.Guard.Equals,∀ a b:Nat,e.1=(a:Int)→e.2=(b:Int)→ok→EqOk W nb tx a b) (ag:List T5→List Bool→Bool→Option (List T5)) :
  ∀ (r:List (Int × Int)) (n k:Nat) (l:List T5) (s:List Bool) (c:Bool),x.Guard.Equals.drop k=r→r.length < n→TI ok s0 l0 W nb tx l s →
  ∃ l' s' c',z41_l4 N x ag n l s c (k:Int)=ag l' s' c'∧TI ok s0 l0 W nb tx l' s'∧((l'=l∧s'=s∧c'=c∧∀ e∈r,∀ a b:Nat,e.1=(a:Int)→e.2=(b:Int)→s[a]? = s[b]?)∨(c'=true∧fc s' < fc s)):=by
 intro r
 induction r with
 | nil =>
  intro n k l s c h hn hT
  obtain ⟨n,rfl⟩:∃ m,n=m+1:=⟨n-1,by simp at hn;omega⟩
  rw [z41_l4,lt_f (drop_nil h)]
  exact ⟨l,s,c,rfl,hT,.inl ⟨rfl,rfl,rfl,fun e he=>by simp at he⟩⟩
 | cons e r ih =>
  intro n k l s c h hn hT
  obtain ⟨n,rfl⟩:∃ m,n=m+1:=⟨n-1,by simp at hn;omega⟩
  obtain ⟨q1,q2,q3⟩:=drop_cons h
  simp only [List.length_cons] at hn
  have hem:=List.mem_of_getElem? q2
  have hei:=hin.e e hem
  have hel:=hin.el
  obtain ⟨a,ea⟩:=Int.eq_ofNat_of_zero_le hei.1.1
  obtain ⟨b,eb⟩:=Int.eq_ofNat_of_zero_le hei.2.1
  rw [z41_l4,lt_t q1]
  simp only [cT,idx_nat,q2,bS]
  obtain ⟨l1,s1,c1,e1,t1,r1⟩:=l6t_is hW hT c (k:Int) (z41_l4 N x ag n) e a b ea eb (by omega) (by omega) (hE e hem a b ea eb) (N-3)
  rw [show N-3+3=N by omega] at e1
  rw [e1,w64_succ (by omega)]
  obtain ⟨l2,s2,c2,e2,t2,r2⟩:=ih n (k+1) l1 s1 c1 q3 (by omega) t1
  refine ⟨l2,s2,c2,e2,t2,?_⟩
  rcases r1 with ⟨rfl,rfl,rfl,g1⟩ | ⟨rfl,g1⟩
  ·rcases r2 with ⟨rfl,rfl,rfl,g2⟩ | ⟨rfl,g2⟩
   ·left
    refine ⟨rfl,rfl,rfl,fun e' he' a' b' ea' eb'=>?_⟩
    rcases List.mem_cons.1 he' with rfl | he'
    ·have x1:a'=a:=by omega
     have x2:b'=b:=by omega
     rw [x1,x2];exact g1
    ·exact g2 e' he' a' b' ea' eb'
   ·right;exact ⟨rfl,g2⟩
  ·rcases r2 with ⟨rfl,rfl,rfl,g2⟩ | ⟨rfl,g2⟩
   ·right;exact ⟨rfl,g1⟩
   ·right;exact ⟨rfl,by omega⟩
theorem l2t_is (hN:4194304 < N) {ok:Prop} {s0:List Bool} {l0 W:List T5} {nb:Nat→Int} {tx:Nat→Prop} (hW:W.length=l0.length) (x:T0) (hin:InG l0.length x.Guard) (hE:∀ e∈x.Guard.Equals,∀ a b:Nat,e.1=(a:Int)→e.2=(b:Int)→ok→EqOk W nb tx a b) :
  ∀ (m f:Nat) (l:List T5) (s:List Bool),fc s≤m→m+2≤f→TI ok s0 l0 W nb tx l s→∃ l' s',z41_l2 N x f l s true=some l'∧TI ok s0 l0 W nb tx l' s'∧∀ e∈x.Guard.Equals,∀ a b:Nat,e.1=(a:Int)→e.2=(b:Int)→s'[a]? = s'[b]? := by
 intro m
 induction m with
 | zero =>
  intro f l s hm hf hT
  obtain ⟨f,rfl⟩:∃ q,f=q+2:=⟨f-2,by omega⟩
  rw [z41_l2]
  simp only [cT]
  obtain ⟨l1,s1,c1,e1,t1,r1⟩:=l4t_is hN hW x hin hE (z41_l2 N x (f+1)) x.Guard.Equals N 0 l s false rfl (by have:=hin.el;omega) hT
  have e1:z41_l4 N x (z41_l2 N x (f+1)) N l s false (0:Int)=_:=e1
  rw [e1]
  rcases r1 with ⟨rfl,rfl,rfl,g⟩ | ⟨rfl,g⟩
  ·exact ⟨l1,s1,rfl,t1,g⟩
  ·omega
 | succ m ih =>
  intro f l s hm hf hT
  obtain ⟨f,rfl⟩:∃ q,f=q+2:=⟨f-2,by omega⟩
  rw [z41_l2]
  simp only [cT]
  obtain ⟨l1,s1,c1,e1,t1,r1⟩:=l4t_is hN hW x hin hE (z41_l2 N x (f+1)) x.Guard.Equals N 0 l s false rfl (by have:=hin.el;omega) hT
  have e1:z41_l4 N x (z41_l2 N x (f+1)) N l s false (0:Int)=_:=e1
  rw [e1]
  rcases r1 with ⟨rfl,rfl,rfl,g⟩ | ⟨rfl,g⟩
  ·exact ⟨l1,s1,rfl,t1,g⟩
  ·exact ih (f+1) l1 s1 (by omega) (by omega) t1
end Gp
end
section
namespace Gp
open Go Go.Kx Gx
variable {N:Nat}
theorem texts_is (hN:4194304 < N) {ok:Prop} {l0 W:List T5} {nb:Nat→Int} {tx:Nat→Prop} (hW:W.length=l0.length) (x:T0) (first:Nat) (hf:x.First=(first:Int)) (hfl:first≤1000) (hfn:x.Fields.length≤4) (hl:l0.length≤1000) (hin:InG l0.length x.Guard)
  (hE:∀ e∈x.Guard.Equals,∀ a b:Nat,e.1=(a:Int)→e.2=(b:Int)→ok→EqOk W nb tx a b)
  (hst:ok→∀ (y:Nat) (v w:T5),ownV x (y:Int)=false→(v.Kind != 0)=true→l0[y]? = some v→W[y]? = some w→v.S=w.S∧(tx y→(v.S.size:Int)=nb y)) :
  ∃ T s s0,z41 N x l0=some T∧TI ok s0 l0 W nb tx T s∧(∀ e∈x.Guard.Equals,∀ a b:Nat,e.1=(a:Int)→e.2=(b:Int)→s[a]? = s[b]?) ∧
   ∀ (y:Nat) (v:T5),l0[y]? = some v→s0[y]? = some (!(ownV x (y:Int)) && (v.Kind != 0)):=by
 have hown:=fun y:Int=>own_iff hf hfl hfn y
 have hw:w64 ((first:Int)+(x.Fields.length:Int))=(first:Int)+(x.Fields.length:Int):=w64_id (by omega) (by omega)
 unfold z41
 rw [mkLB_ok _ (by omega)]
 simp only [bS]
 have outer:=loopP (γ:=Option (List T5)) l0.length (z41_l9 N x l0) (fun s=>z41_k8 N x l0 s) (fun i s=>s.length=l0.length∧∀ (y:Nat) (v:T5),y < i→l0[y]? = some v→s[y]? = some (!(ownV x (y:Int)) && (v.Kind != 0))) (by
  intro f s i hi ⟨hs,hp⟩
  obtain ⟨v,hv⟩:∃ v,l0[i]? = some v:=⟨l0[i],by simp [hi]⟩
  obtain ⟨b,hb⟩:∃ b,s[i]? = some b:=⟨s[i]'(by omega),by simp⟩
  have fin:∀ q:Bool,q=(!(ownV x (i:Int)) && (v.Kind != 0))→(s.set i q).length=l0.length∧∀ (y:Nat) (v:T5),y < i+1→l0[y]? = some v→(s.set i q)[y]? = some (!(ownV x (y:Int)) && (v.Kind != 0)):=fun q hq=>by
   refine ⟨by rw [List.length_set];exact hs,fun y u hy hu=>?_⟩
   have his:i < s.length:=by omega
   by_cases e:i=y
   ·subst e
    rw [hv] at hu;cases hu
    rw [List.getElem?_set_self his,hq]
   ·rw [List.getElem?_set_ne e]
    exact hp y u (by omega) hu
  rw [z41_l9,lt_t hi,w64_succ (by omega)]
  simp only [cT,idx_nat,hv,hb,bS,setL'_nat,hf,hw]
  by_cases c1:(i:Int) < (first:Int)
  ·rw [dT c1]
   refine ⟨_,fin _ ?_,rfl⟩
   have:ownV x (i:Int)=false:=by
    cases h:ownV x (i:Int) with
    | false=>rfl
    | true=>have:=(hown _).1 h;omega
   rw [this];rfl
  ·rw [dF c1]
   simp only [cF]
   by_cases c2:(i:Int)≥(first:Int)+(x.Fields.length:Int)
   ·rw [dT c2]
    refine ⟨_,fin _ ?_,rfl⟩
    have:ownV x (i:Int)=false:=by
     cases h:ownV x (i:Int) with
     | false=>rfl
     | true=>have:=(hown _).1 h;omega
    rw [this];rfl
   ·rw [dF c2]
    refine ⟨_,fin _ ?_,rfl⟩
    have:ownV x (i:Int)=true:=(hown _).2 ⟨by omega,by omega⟩
    rw [this];rfl) (by
  intro f s
  rw [z41_l9,lt_f (Nat.le_refl _)];rfl)
 obtain ⟨s0,⟨hs,hp⟩,e⟩:=outer l0.length N 0 (List.replicate l0.length false) (by omega) (by omega) ⟨by simp,fun y v h=>by omega⟩
 have e:z41_l9 N x l0 N (List.replicate l0.length false) (0:Int)=z41_k8 N x l0 s0:=e
 rw [e]
 unfold z41_k8
 have hp':∀ (y:Nat) (v:T5),l0[y]? = some v→s0[y]? = some (!(ownV x (y:Int)) && (v.Kind != 0)):=fun y v hv=>hp y v (List.getElem?_eq_some_iff.1 hv).1 hv
 have hT:TI ok s0 l0 W nb tx l0 s0:=⟨rfl,hs,fun y v0 v h1 h2=>by rw [h1] at h2;cases h2;exact ⟨rfl,rfl⟩,fun y _=>rfl,fun y h=>⟨h,rfl⟩,fun hok y v w h1 h2 h3=>by
  have:=hp' y v h2
  rw [h1] at this
  have:=(Option.some.inj this).symm
  rw [Bool.and_eq_true,Bool.not_eq_true'] at this
  exact hst hok y v w this.1 this.2 h2 h3,fun B hB=>hB⟩
 obtain ⟨T,s,e2,t2,g⟩:=l2t_is hN hW x hin hE (fc s0) N l0 s0 (Nat.le_refl _) (by have:=fc_le s0;omega) hT
 exact ⟨T,s,s0,e2,t2,g,hp'⟩
end Gp
end
section
namespace Gp
open Go Go.Kx Gx
variable {N:Nat}
def fldB (first:Nat):Nat→List T2→List T1
 | _,[]=>[]
 | i,f::r=>⟨((first+i:Nat):Int),-1,f.Sort'.Hi⟩::⟨-1,((first+i:Nat):Int),-f.Sort'.Lo⟩::fldB first (i+1) r
def eqB:List (Int × Int)→List T1
 | []=>[]
 | e::r=>⟨e.1,e.2,0⟩::⟨e.2,e.1,0⟩::eqB r
theorem fldB_len (first:Nat):∀ (l:List T2) (i:Nat),(fldB first i l).length=2 * l.length
 | [],_=>rfl
 | f::r,i=>by show (fldB first (i+1) r).length+1+1=2 * (r.length+1);rw [fldB_len first r (i+1)];omega
theorem eqB_len:∀ (l:List (Int × Int)),(eqB l).length=2 * l.length
 | []=>rfl
 | e::r=>by show (eqB r).length+1+1=2 * (r.length+1);rw [eqB_len r];omega
theorem bounds2_is (x:T0) (hx:SizeD x):∀ (r:List (Int × Int)) (n k:Nat) (a:List T1),x.Guard.Equals.drop k=r→r.length < n→a.length+2 * r.length≤33554432→z35_l2 x n a (k:Int)=some (a++eqB r):=by
 intro r
 induction r with
 | nil =>
  intro n k a h hn ha
  obtain ⟨n,rfl⟩:∃ m,n=m+1:=⟨n-1,by simp at hn;omega⟩
  rw [z35_l2,lt_f (drop_nil h)]
  simp [z35_k1,eqB]
 | cons e r ih =>
  intro n k a h hn ha
  obtain ⟨n,rfl⟩:∃ m,n=m+1:=⟨n-1,by simp at hn;omega⟩
  obtain ⟨h1,h2,h3⟩:=drop_cons h
  have:=hx.e
  simp only [List.length_cons] at hn ha
  rw [z35_l2,lt_t h1,w64_succ (by omega)]
  simp only [cT,idx_nat,h2,bS]
  rw [appL_some (by simp;omega)]
  simp only [bS]
  rw [ih n (k+1) _ h3 (by omega) (by simp;omega),aA]
  rfl
theorem bounds_is (hN:4194304 < N) (x:T0) (hx:SizeD x) (first:Nat) (hf:x.First=(first:Int)) (hfl:first≤1000) (hs:∀ f∈x.Fields,-1000≤f.Sort'.Lo∧f.Sort'.Lo≤1000) :
  z35 N x=some (fldB first 0 x.Fields++x.Guard.Diffs++eqB x.Guard.Equals):=by
 have h1:=hx.f
 have h2:=hx.d
 have h3:=hx.e
 have key:∀ (r:List T2) (n k:Nat) (a:List T1),x.Fields.drop k=r→r.length < n→a.length+2 * r.length≤8388608→z35_l4 N x n a (k:Int)=some (a++fldB first k r++x.Guard.Diffs++eqB x.Guard.Equals):=by
  intro r
  induction r with
  | nil =>
   intro n k a h hn ha
   obtain ⟨n,rfl⟩:∃ m,n=m+1:=⟨n-1,by simp at hn;omega⟩
   rw [z35_l4,lt_f (drop_nil h)]
   simp only [cF,z35_k3]
   simp only [List.length_nil] at ha
   rw [appL_some (by omega)]
   simp only [bS]
   have:=bounds2_is x hx x.Guard.Equals N 0 (a++x.Guard.Diffs) rfl (by omega) (by simp;omega)
   rw [show ((0:Nat):Int)=0 from rfl] at this
   rw [this]
   simp [fldB]
  | cons f r ih =>
   intro n k a h hn ha
   obtain ⟨n,rfl⟩:∃ m,n=m+1:=⟨n-1,by simp at hn;omega⟩
   obtain ⟨q1,q2,q3⟩:=drop_cons h
   simp only [List.length_cons] at hn ha
   have hfs:=hs f (List.mem_of_getElem? q2)
   have hw:w64 (x.First+(k:Int))=((first+k:Nat):Int):=by rw [hf,w64_id (by omega) (by omega)];omega
   have hw2:w64 (0-f.Sort'.Lo)=-f.Sort'.Lo:=by rw [w64_id (by omega) (by omega)];omega
   rw [z35_l4,lt_t q1,w64_succ (by omega)]
   simp only [cT,idx_nat,q2,bS]
   rw [appL_some (by simp;omega),hw,hw2]
   simp only [bS]
   rw [ih n (k+1) _ q3 (by omega) (by simp;omega)]
   simp [fldB]
 have:=key x.Fields N 0 [] rfl (by omega) (by simp;omega)
 rw [show ((0:Nat):Int)=0 from rfl] at this
 unfold z35
 rw [this]
 simp
theorem fldB_mem (first:Nat):∀ (l:List T2) (i k:Nat) (f:T2),l[k]? = some f→(⟨((first+(i+k):Nat):Int),-1,f.Sort'.Hi⟩:T1)∈fldB first i l∧(⟨-1,((first+(i+k):Nat):Int),-f.Sort'.Lo⟩:T1)∈fldB first i l
 | [],_,_,_,h=>by simp at h
 | g::r,i,0,f,h=>by
  have:g=f:=by simpa using h
  subst this
  exact ⟨List.mem_cons_self,List.mem_cons_of_mem _ List.mem_cons_self⟩
 | g::r,i,k+1,f,h=>by
  obtain ⟨h1,h2⟩:=fldB_mem first r (i+1) k f (by simpa using h)
  rw [show i+1+k=i+(k+1) by omega] at h1 h2
  exact ⟨List.mem_cons_of_mem _ (List.mem_cons_of_mem _ h1),List.mem_cons_of_mem _ (List.mem_cons_of_mem _ h2)⟩
theorem fldB_inv (first:Nat):∀ (l:List T2) (i:Nat) (b:T1),b∈fldB first i l→∃ k f,l[k]? = some f∧(b=⟨((first+(i+k):Nat):Int),-1,f.Sort'.Hi⟩∨b=⟨-1,((first+(i+k):Nat):Int),-f.Sort'.Lo⟩)
 | [],_,b,h=>by simp [fldB] at h
 | g::r,i,b,h=>by
  rcases List.mem_cons.1 h with h | h
  ·exact ⟨0,g,rfl,.inl h⟩
  ·rcases List.mem_cons.1 h with h | h
   ·exact ⟨0,g,rfl,.inr h⟩
   ·obtain ⟨k,f,h1,h2⟩:=fldB_inv first r (i+1) b h
    rw [show i+1+k=i+(k+1) by omega] at h2
    exact ⟨k+1,f,by simpa using h1,h2⟩
theorem eqB_mem {l:List (Int × Int)} {e:Int × Int} (h:e∈l):(⟨e.1,e.2,0⟩:T1)∈eqB l∧(⟨e.2,e.1,0⟩:T1)∈eqB l:=by
 induction l with
 | nil=>simp at h
 | cons g r ih =>
  rcases List.mem_cons.1 h with h | h
  ·subst h;exact ⟨List.mem_cons_self,List.mem_cons_of_mem _ List.mem_cons_self⟩
  ·obtain ⟨h1,h2⟩:=ih h
   exact ⟨List.mem_cons_of_mem _ (List.mem_cons_of_mem _ h1),List.mem_cons_of_mem _ (List.mem_cons_of_mem _ h2)⟩
theorem eqB_inv {l:List (Int × Int)} {b:T1} (h:b∈eqB l):∃ e∈l,b=⟨e.1,e.2,0⟩∨b=⟨e.2,e.1,0⟩:=by
 induction l with
 | nil=>simp [eqB] at h
 | cons g r ih =>
  rcases List.mem_cons.1 h with h | h
  ·exact ⟨g,List.mem_cons_self,.inl h⟩
  ·rcases List.mem_cons.1 h with h | h
   ·exact ⟨g,List.mem_cons_self,.inr h⟩
   ·obtain ⟨e,h1,h2⟩:=ih h
    exact ⟨e,List.mem_cons_of_mem _ h1,h2⟩
structure BdX (x:T0) (first L:Nat) (z:List T1):Prop where
 bd:Bd x L z
 c:∀ b∈z,-20000≤b.C∧b.C≤20000
 fld:∀ (k:Nat) (f:T2),x.Fields[k]? = some f→(⟨((first+k:Nat):Int),-1,f.Sort'.Hi⟩:T1)∈z∧(⟨-1,((first+k:Nat):Int),-f.Sort'.Lo⟩:T1)∈z
 dif:∀ b∈x.Guard.Diffs,b∈z
 eqs:∀ e∈x.Guard.Equals,(⟨e.1,e.2,0⟩:T1)∈z∧(⟨e.2,e.1,0⟩:T1)∈z
 inv:∀ b∈z,(∃ (k:Nat) (f:T2),x.Fields[k]? = some f∧(b=⟨((first+k:Nat):Int),-1,f.Sort'.Hi⟩∨b=⟨-1,((first+k:Nat):Int),-f.Sort'.Lo⟩))∨b∈x.Guard.Diffs∨∃ e∈x.Guard.Equals,b=⟨e.1,e.2,0⟩∨b=⟨e.2,e.1,0⟩
theorem bdx_some (hN:4194304 < N) (x:T0) (hx:SizeD x) (L first:Nat) (hf:x.First=(first:Int)) (hL:first+x.Fields.length≤L) (hL2:L≤1000) (hin:InG L x.Guard) (hs:∀ f∈x.Fields,-1000≤f.Sort'.Lo∧f.Sort'.Lo≤1000∧-1000≤f.Sort'.Hi∧f.Sort'.Hi≤1000)
  (hd:∀ b∈x.Guard.Diffs,-20000≤b.C∧b.C≤20000):∃ z,z35 N x=some z∧BdX x first L z:=by
 refine ⟨_,bounds_is hN x hx first hf (by omega) (fun f h=>⟨(hs f h).1,(hs f h).2.1⟩),?_⟩
 have h1:=hx.f
 have hdl:=hin.dl
 have hel:=hin.el
 have inv:∀ b∈fldB first 0 x.Fields++x.Guard.Diffs++eqB x.Guard.Equals,(∃ (k:Nat) (f:T2),x.Fields[k]? = some f∧(b=⟨((first+k:Nat):Int),-1,f.Sort'.Hi⟩∨b=⟨-1,((first+k:Nat):Int),-f.Sort'.Lo⟩))∨b∈x.Guard.Diffs∨∃ e∈x.Guard.Equals,b=⟨e.1,e.2,0⟩∨b=⟨e.2,e.1,0⟩:=fun b hb=>by
  rcases List.mem_append.1 hb with hb | hb
  ·rcases List.mem_append.1 hb with hb | hb
   ·obtain ⟨k,f,q1,q2⟩:=fldB_inv first x.Fields 0 b hb
    rw [Nat.zero_add] at q2
    exact .inl ⟨k,f,q1,q2⟩
   ·exact .inr (.inl hb)
  ·exact .inr (.inr (eqB_inv hb))
 have fld:∀ (k:Nat) (f:T2),x.Fields[k]? = some f→(⟨((first+k:Nat):Int),-1,f.Sort'.Hi⟩:T1)∈fldB first 0 x.Fields++x.Guard.Diffs++eqB x.Guard.Equals∧(⟨-1,((first+k:Nat):Int),-f.Sort'.Lo⟩:T1)∈fldB first 0 x.Fields++x.Guard.Diffs++eqB x.Guard.Equals:=fun k f hk=>by
  obtain ⟨q1,q2⟩:=fldB_mem first x.Fields 0 k f hk
  rw [Nat.zero_add] at q1 q2
  exact ⟨List.mem_append_left _ (List.mem_append_left _ q1),List.mem_append_left _ (List.mem_append_left _ q2)⟩
 refine ⟨⟨?_,fun b hb=>?_,fun i f hi=>?_⟩,fun b hb=>?_,fld,fun b hb=>List.mem_append_left _ (List.mem_append_right _ hb),fun e he=>?_,inv⟩
 ·simp only [lA,fldB_len,eqB_len];omega
 ·rcases inv b hb with ⟨k,f,q1,q2⟩ | q | ⟨e,he,q⟩
  ·have hk:=(List.getElem?_eq_some_iff.1 q1).1
   rcases q2 with q2 | q2
   ·rw [q2]
    exact ⟨by show ((first+k:Nat):Int) < _;omega,by show (-1:Int) < _;omega⟩
   ·rw [q2]
    exact ⟨by show (-1:Int) < _;omega,by show ((first+k:Nat):Int) < _;omega⟩
  ·exact hin.d b q
  ·have:=hin.e e he
   rcases q with q | q
   ·rw [q];exact ⟨this.1.2,this.2.2⟩
   ·rw [q];exact ⟨this.2.2,this.1.2⟩
 ·have hk:=(List.getElem?_eq_some_iff.1 hi).1
  have hfs:=hs f (List.mem_of_getElem? hi)
  have hw:w64 (x.First+(i:Int))=((first+i:Nat):Int):=by rw [hf,w64_id (by omega) (by omega)];omega
  have hw2:w64 (0-f.Sort'.Lo)=-f.Sort'.Lo:=by rw [w64_id (by omega) (by omega)];omega
  rw [hw,hw2]
  exact (fld i f hi).2
 ·rcases inv b hb with ⟨k,f,q1,q2⟩ | q | ⟨e,he,q⟩
  ·have hfs:=hs f (List.mem_of_getElem? q1)
   rcases q2 with q2 | q2
   ·rw [q2];show -20000≤f.Sort'.Hi∧f.Sort'.Hi≤20000;omega
   ·rw [q2];show -20000≤-f.Sort'.Lo∧-f.Sort'.Lo≤20000;omega
  ·exact hd b q
  ·rcases q with q | q
   ·rw [q];show -20000≤(0:Int)∧(0:Int)≤20000;omega
   ·rw [q];show -20000≤(0:Int)∧(0:Int)≤20000;omega
 ·obtain ⟨q1,q2⟩:=eqB_mem he
  exact ⟨List.mem_append_right _ q1,List.mem_append_right _ q2⟩
end Gp
end
