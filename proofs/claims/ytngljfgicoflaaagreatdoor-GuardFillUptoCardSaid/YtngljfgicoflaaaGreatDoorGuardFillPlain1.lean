/- The plain law, part 1: what the functions compute answers as the statement says. -/
import Derived.Lib.Bytealg
import Derived.Test.YtngljfgicoflaaaGreatDoorGuardFillPure
set_option linter.all false
section
section
namespace Gp
open Go Go.Kx
theorem dF {p:Prop} [Decidable p] (h:¬p):decide p=false:=decide_eq_false h
theorem dT {p:Prop} [Decidable p] (h:p):decide p=true:=decide_eq_true h
theorem bS {α β:Type _} (a:α) (f:α→Option β):(some a).bind f=f a:=rfl
theorem cF {α:Sort _} {a b:α}:(bif false then a else b)=b:=rfl
theorem cT {α:Sort _} {a b:α}:(bif true then a else b)=a:=rfl
theorem aA {α:Type _} (a b c:List α):(a++b)++c=a++(b++c):=List.append_assoc a b c
theorem lA {α:Type _} {a b:List α}:(a++b).length=a.length+b.length:=List.length_append
theorem w64_id {n:Int} (h1:-9223372036854775808≤n) (h2:n≤9223372036854775807):w64 n=n:=by
 show IntKind.i64.wrap n=n
 simp [IntKind.wrap,IntKind.signed,IntKind.bits]
 omega
theorem w64_succ {n:Nat} (h:n < 4611686018427387904):w64 ((n:Int)+1)=((n+1:Nat):Int):=by rw [w64_id (by omega) (by omega)];omega
theorem idx_nat {α:Type} (xs:List α) (k:Nat):idx xs (k:Int)=xs[k]? := by
 unfold idx
 have:decide (0≤(k:Int))=true:=by simp
 rw [this];simp
theorem idx_int {α:Type} {xs:List α} {i:Int} {k:Nat} (h:i=k):idx xs i=xs[k]? := by rw [h,idx_nat]
theorem setL'_nat {α:Type} (xs:List α) (k:Nat) (e:α):setL' xs (k:Int) e=xs.set k e:=by unfold setL';simp
theorem setL'_int {α:Type} {xs:List α} {i:Int} {k:Nat} (h:i=k) (e:α):setL' xs i e=xs.set k e:=by rw [h,setL'_nat]
theorem get_mid {α:Type} (A:List α) (x:α) (B:List α) {k:Nat} (h:A.length=k):(A++x::B)[k]? = some x:=by
 subst h;simp
theorem set_mid {α:Type} (A:List α) (x y:α) (B:List α) {k:Nat} (h:A.length=k):(A++x::B).set k y=A++y::B:=by
 subst h;simp
theorem idx_mid {α:Type} {L A:List α} {x:α} {B:List α} {i:Int} (hL:L=A++x::B) (h:i=(A.length:Int)):idx L i=some x:=by
 rw [idx_int h,hL];exact get_mid A x B rfl
theorem setL'_mid {α:Type} {L A:List α} {x:α} {B:List α} {i:Int} (hL:L=A++x::B) (h:i=(A.length:Int)) (y:α):setL' L i y=A++y::B:=by
 rw [setL'_int h,hL];exact set_mid A x y B rfl
theorem appL_some {α:Type} {xs ys:List α} (h:xs.length+ys.length≤4294967296):appL xs ys=some (xs++ys):=by
 unfold appL
 have:Nat.ble (xs.length+ys.length) lim=true:=Nat.ble_eq_true_of_le h
 rw [this];rfl
theorem drop_cons {α:Type} {xs:List α} {k:Nat} {x:α} {l:List α} (h:xs.drop k=x::l):k < xs.length∧xs[k]? = some x∧xs.drop (k+1)=l:=by
 have hlt:k < xs.length:=by
  rcases Nat.lt_or_ge k xs.length with h' | h'
  ·exact h'
  ·rw [List.drop_eq_nil_of_le h'] at h;cases h
 rw [List.drop_eq_getElem_cons hlt] at h
 simp only [List.cons.injEq] at h
 exact ⟨hlt,by rw [List.getElem?_eq_getElem hlt,h.1],h.2⟩
theorem drop_nil {α:Type} {xs:List α} {k:Nat} (h:xs.drop k=[]):xs.length≤k:=by simpa using h
def lv {α γ:Type} (b:α→Nat→γ→γ) (e:γ):List α→Nat→γ
 | [],_=>e
 | x::l,k=>b x k (lv b e l (k+1))
theorem lv_of {α γ:Type} (xs:List α) (F:Nat→Int→γ) (b:α→Nat→γ→γ) (e:γ)
  (h1:∀ n k x,k < xs.length→xs[k]? = some x→F (n+1) (k:Int)=b x k (F n ((k+1:Nat):Int)))
  (h2:∀ n k,xs.length≤k→F (n+1) (k:Int)=e) :
  ∀ (l:List α) (k n:Nat),xs.drop k=l→l.length < n→F n (k:Int)=lv b e l k:=by
 intro l
 induction l with
 | nil =>
  intro k n h hn
  obtain ⟨n,rfl⟩:∃ m,n=m+1:=⟨n-1,by simp at hn;omega⟩
  exact h2 n k (drop_nil h)
 | cons x l ih =>
  intro k n h hn
  obtain ⟨n,rfl⟩:∃ m,n=m+1:=⟨n-1,by simp at hn;omega⟩
  obtain ⟨a,c,d⟩:=drop_cons h
  rw [h1 n k x a c,ih (k+1) n d (by simp at hn;omega)];rfl
theorem lv_from {α γ:Type} {xs:List α} {F:Nat→Int→γ} {b:α→Nat→γ→γ} {e:γ} {n:Nat} {i:Int} (hn:xs.length < n) (hi:i=((0:Nat):Int))
  (h1:∀ n k x,k < xs.length→xs[k]? = some x→F (n+1) (k:Int)=b x k (F n ((k+1:Nat):Int)))
  (h2:∀ n k,xs.length≤k→F (n+1) (k:Int)=e):F n i=lv b e xs 0:=by
 rw [hi];exact lv_of xs F b e h1 h2 xs 0 n rfl hn
theorem lt_t {k n:Nat} (h:k < n):decide ((k:Int) < (n:Int))=true:=by simp [h]
theorem lt_f {k n:Nat} (h:n≤k):decide ((k:Int) < (n:Int))=false:=by simp;omega
end Gp
end
section
namespace Gp
open Go Go.Kx
def Lt {α:Type} (K:α→Int) (r:α→α→Prop) (x y:α):Prop:=K x < K y∨(K x=K y∧r x y)
def Srt {α:Type} (K:α→Int) (r:α→α→Prop) (l:List α):Prop:=l.Pairwise (Lt K r)
variable {α:Type} {K:α→Int} {r:α→α→Prop}
theorem Lt.le {x y:α} (h:Lt K r x y):K x≤K y:=by rcases h with h | h<;>omega
theorem srt_nil:Srt K r ([]:List α):=List.Pairwise.nil
theorem get_at {L A:List α} {x:α} {B:List α} {k:Nat} (hL:L=A++x::B) (h:A.length=k):L[k]? = some x:=by rw [hL];exact get_mid A x B h
inductive Bk (K:α→Int) (r:α→α→Prop) (n:Nat):List α→List α→Prop
 | last (o c:List α):c.length≤n→c.Perm o→Srt K r c→Bk K r n o c
 | cons (o1 c1 o2 c2:List α):c1.length=n→c1.Perm o1→Srt K r c1→Bk K r n o2 c2→Bk K r n (o1++o2) (c1++c2)
theorem Bk.two {n:Nat} {o c:List α} (h:Bk K r n o c) (hn:0 < n) (hc:2 * n≤c.length) :
  ∃ o1 o2 o3 c1 c2 c3,o=o1++(o2++o3)∧c=c1++(c2++c3)∧c1.length=n∧c2.length=n∧c1.Perm o1∧c2.Perm o2∧Srt K r c1∧Srt K r c2∧Bk K r n o3 c3:=by
 cases h with
 | last _ _ h1 h2 h3=>omega
 | cons o1 c1 o2 c2 h1 h2 h3 h4 =>
  cases h4 with
  | last _ _ g1 g2 g3 =>
   simp at hc
   exact ⟨o1,o2,[],c1,c2,[],by simp,by simp,h1,by omega,h2,g2,h3,g3,.last _ _ (by simp) (by simp) srt_nil⟩
  | cons p1 d1 p2 d2 g1 g2 g3 g4=>exact ⟨o1,p1,p2,c1,d1,d2,rfl,rfl,h1,g1,h2,g2,h3,g3,g4⟩
theorem Bk.few {n:Nat} {o c:List α} (h:Bk K r n o c) (hn:0 < n) (hc:c.length < 2 * n) :
  (c.length≤n∧c.Perm o∧Srt K r c)∨∃ o1 o2 c1 c2,o=o1++o2∧c=c1++c2∧c1.length=n∧0 < c2.length∧c2.length≤n∧c1.Perm o1∧c2.Perm o2∧Srt K r c1∧Srt K r c2:=by
 cases h with
 | last _ _ h1 h2 h3=>exact .inl ⟨h1,h2,h3⟩
 | cons o1 c1 o2 c2 h1 h2 h3 h4 =>
  cases h4 with
  | last _ _ g1 g2 g3 =>
   rcases Nat.eq_zero_or_pos c2.length with h0 | h0
   ·have:c2=[]:=List.length_eq_zero_iff.mp h0
    subst this
    have:o2=[]:=by simpa using g2.symm
    subst this
    exact .inl ⟨by simp;omega,by simpa using h2,by simpa using h3⟩
   ·exact .inr ⟨o1,o2,c1,c2,rfl,rfl,h1,h0,g1,h2,g2,h3,g3⟩
  | cons p1 d1 p2 d2 g1 g2 g3 g4=>simp at hc;omega
theorem Bk.all {n:Nat} {o c:List α} (h:Bk K r n o c) (hn:0 < n) (hc:c.length≤n):c.Perm o∧Srt K r c:=by
 rcases h.few hn (by omega) with h | ⟨o1,o2,c1,c2,h1,h2,h3,h4,_⟩
 ·exact h.2
 ·subst h2;simp at hc;omega
end Gp
end
section
namespace Gp
open Go Go.Kx Gx
theorem look {α γ:Type} (xs:List α) (hs:xs.length≤4194304) (b:α→Int→γ→γ) (F:Nat→Int→γ) (e:γ) {n:Nat} (hn:4194304 < n)
  (h1:∀ n k x,k < xs.length→xs[k]? = some x→F (n+1) (k:Int)=b x k (F n (w64 ((k:Int)+1))))
  (h2:∀ n k,xs.length≤k→F (n+1) (k:Int)=e):F n (0:Int)=lv (fun x (k:Nat) r=>b x (k:Int) r) e xs 0 :=
 lv_from (by omega) rfl (fun n k x hk hx=>by rw [h1 n k x hk hx,w64_succ (by omega)]) h2
def eqStr (a b:ByteArray):Bool:=a.toList==b.toList
theorem eqStr_refl (a:ByteArray):eqStr a a=true:=by simp [eqStr]
structure SizeD (x:T0):Prop where
 f:x.Fields.length≤4194304
 d:x.Guard.Diffs.length≤4194304
 e:x.Guard.Equals.length≤4194304
variable {N:Nat} (hN:4194304 < N)
end Gp
end
section
namespace Gp
open Go Go.Kx Gx
variable {N:Nat} (hN:4194304 < N)
def whereV {α:Type} (f:α→Bool) (l:List α):Option Int:=lv (fun x (k:Nat) r=>bif f x then some (k:Int) else r) (some (-1)) l 0
theorem bcomm (a b:ByteArray):(a.toList==b.toList)=(b.toList==a.toList):=by
 rw [Bool.eq_iff_iff,beq_iff_eq,beq_iff_eq];exact ⟨Eq.symm,Eq.symm⟩
include hN in
theorem Index_eq (l:List ByteArray) (hl:l.length≤4194304) (v:ByteArray):z179 N l v=whereV (fun x=>eqStr x v) l:=by
 unfold z179 whereV
 refine look l hl (fun x k r=>bif eqStr x v then some k else r) (z179_l2 l v) _ hN ?_ ?_
 ·intro n k x hk hx
  simp only [z179_l2,lt_t hk,idx_nat,hx,cT,bS,eqStr,bcomm v x]
 ·intro n k hk
  simp only [z179_l2,lt_f hk,cF,z179_k1]
end Gp
end
section
namespace Gp
open Go Go.Kx Gx
end Gp
end
section
namespace Gp
open Go Go.Kx Gx
theorem lsl_to {α:Type} {L A B:List α} {i:Int} (hL:L=A++B) (hi:i=(A.length:Int)):lsl L none (some i)=some A:=by
 subst hL hi
 have h:decide ((A.length:Int)≤((A++B).length:Int))=true:=by simp;omega
 have h2:decide ((0:Int)≤(A.length:Int))=true:=by simp
 unfold lsl bnd
 simp only [Option.getD_some,Option.getD_none,h,h2]
 simp
end Gp
end
section
namespace Gp
open Go Go.Kx Gx
def allV {α:Type} (p:α→Nat→Bool):List α→Nat→Bool
 | [],_=>true
 | x::l,k=>p x k && allV p l (k+1)
theorem allV_of {α:Type} (p:α→Nat→Bool) (xs:List α) (F:Nat→Int→Option Bool) (e:Option Bool)
  (h1:∀ n k x,k < xs.length→xs[k]? = some x→F (n+1) (k:Int)=bif p x k then F n ((k+1:Nat):Int) else some false)
  (h2:∀ n k,xs.length≤k→F (n+1) (k:Int)=e) :
  ∀ (l:List α) (k n:Nat),xs.drop k=l→l.length < n→F n (k:Int)=bif allV p l k then e else some false:=by
 intro l
 induction l with
 | nil =>
  intro k n h hn
  obtain ⟨n,rfl⟩:∃ m,n=m+1:=⟨n-1,by simp at hn;omega⟩
  exact h2 n k (drop_nil h)
 | cons x l ih =>
  intro k n h hn
  obtain ⟨n,rfl⟩:∃ m,n=m+1:=⟨n-1,by simp at hn;omega⟩
  obtain ⟨a,c,d⟩:=drop_cons h
  rw [h1 n k x a c,ih (k+1) n d (by simp at hn;omega)]
  show _=bif (p x k && allV p l (k+1)) then e else some false
  cases p x k<;>rfl
theorem allV_from {α:Type} (p:α→Nat→Bool) {xs:List α} {F:Nat→Int→Option Bool} {e:Option Bool} {n:Nat} (hn:xs.length < n)
  (h1:∀ n k x,k < xs.length→xs[k]? = some x→F (n+1) (k:Int)=bif p x k then F n ((k+1:Nat):Int) else some false)
  (h2:∀ n k,xs.length≤k→F (n+1) (k:Int)=e):F n (0:Int)=bif allV p xs 0 then e else some false :=
 allV_of p xs F e h1 h2 xs 0 n rfl hn
theorem allV_iff {α:Type} (p:α→Nat→Bool):∀ (l:List α) (k:Nat),allV p l k=true↔∀ i x,l[i]? = some x→p x (k+i)=true
 | [],k=>by simp [allV]
 | x::l,k=>by
  show (p x k && allV p l (k+1))=true↔_
  rw [Bool.and_eq_true,allV_iff p l (k+1)]
  constructor
  ·rintro ⟨h0,h1⟩ i y hy
   cases i with
   | zero=>simp at hy;subst hy;exact h0
   | succ i=>have:=h1 i y (by simpa using hy);rw [show k+(i+1)=k+1+i by omega];exact this
  ·intro h
   exact ⟨by simpa using h 0 x (by simp),fun i y hy=>by rw [show k+1+i=k+(i+1) by omega];exact h (i+1) y (by simpa using hy)⟩
def bs (s:ByteArray):List UInt8:=s.data.toList
theorem size_bs (s:ByteArray):s.size=(bs s).length:=rfl
theorem slt_t {s:ByteArray} {k:Nat} (h:k < (bs s).length):decide ((k:Int) < (s.size:Int))=true:=lt_t h
theorem slt_f {s:ByteArray} {k:Nat} (h:(bs s).length≤k):decide ((k:Int) < (s.size:Int))=false:=lt_f h
theorem toList_bs (s:ByteArray):s.toList=bs s:=ByteArray.toList_eq s
theorem bs_inj {a b:ByteArray} (h:bs a=bs b):a=b:=by
 cases a with | mk a=>cases b with | mk b=>simpa [bs] using h
theorem sidx_bs (s:ByteArray) (k:Nat):sidx s (k:Int)=(bs s)[k]?.map (fun b=>(b.toNat:Int)):=by
 unfold sidx
 have h:decide (0≤(k:Int))=true:=by simp
 rw [h,cT]
 have e:s[(k:Int).toNat]? = (bs s)[k]? := by
  simp [getElem?_def,bs]
  split<;>simp_all
  rfl
 rw [e]
variable {N:Nat} (hN:4194304 < N)
def letterV (c:Int):Bool:=(decide (97≤c) && decide (c≤122)) || (decide (65≤c) && decide (c≤90))
def innerV (c:Int):Bool:=letterV c || ((decide (48≤c) && decide (c≤57)) || c==95)
theorem letter_eq (N:Nat) (c:Int):z74 N c=some (letterV c):=by
 unfold z74 letterV
 cases decide (97≤c)<;>cases decide (c≤122)<;>cases decide (65≤c)<;>rfl
theorem refLetter_eq (N:Nat) (c:Int):z196 N c=some (letterV c):=letter_eq N c
theorem inner_eq (N:Nat) (c:Int):z124 N c=some (innerV c):=by
 unfold z124 innerV z76
 rw [letter_eq]
 simp only [bS]
 cases letterV c
 ·cases decide (48≤c)<;>cases decide (c≤57)<;>rfl
 ·rfl
def isName (s:ByteArray):Bool :=
 match bs s with
 | []=>false
 | x::l=>letterV (x.toNat:Int) && (decide (l.length < 16) && allV (fun (c:UInt8) _=>innerV (c.toNat:Int)) (x::l) 0)
def keywords:List ByteArray:=[(str [97,103,97,105,110]),(str [97,110,100]),(str [97,115]),(str [97,116]),(str [99,97,108,108]),(str [99,104,111,105,99,101]),(str [101,108,115,101]),(str [102,114,111,109]),(str [105,102]),(str [105,110,116]),(str [108,101,110]),(str [108,111,111,112]),(str [109,101,115,115,97,103,101]),(str [111,102]),(str [111,102,102,101,114]),(str [111,110]),(str [111,114]),(str [112,97,114]),(str [112,108,97,121,115]),(str [112,114,111,116,111,99,111,108]),(str [115,101,114,118,105,99,101]),(str [116,101,120,116]),(str [116,105,109,101,115]),(str [116,111]),(str [118,97,114]),(str [119,104,101,114,101]),(str [119,104,105,108,101]),(str [119,105,116,104,105,110])]
def isWord (s:ByteArray):Bool:=isName s && !(keywords.any fun k=>eqStr k s)
include hN in
theorem nameL (s:ByteArray) (hs:s.size≤4194304):z133_l2 N s N (0:Int)=some (allV (fun (c:UInt8) _=>innerV (c.toNat:Int)) (bs s) 0):=by
 rw [size_bs] at hs
 rw [allV_from (xs:=bs s) (fun (c:UInt8) _=>innerV (c.toNat:Int)) (F:=z133_l2 N s) (e:=some true) (by omega)]
 ·cases allV (fun (c:UInt8) _=>innerV (c.toNat:Int)) (bs s) 0<;>rfl
 ·intro n k x hk hx
  simp only [z133_l2,slt_t hk,cT,sidx_bs,hx,Option.map_some,bS,inner_eq,w64_succ (show k < 4611686018427387904 by omega)]
  cases innerV (x.toNat:Int)<;>rfl
 ·intro n k hk
  simp only [z133_l2,slt_f hk,cF,z133_k1]
theorem nameL_ref (s:ByteArray):∀ n k,z168_l2 N s n k=z133_l2 N s n k
 | 0,_=>rfl
 | n+1,k=>by
  simp only [z168_l2,z133_l2,nameL_ref s n]
  rfl
theorem bs_nil:bs (str [])=[]:=rfl
include hN in
theorem name_eq (s:ByteArray) (hs:s.size≤4194304):z133 N s=some (isName s)∧z168 N s=some (isName s):=by
 unfold z133 z168
 rw [nameL_ref,nameL hN s hs,toList_bs,toList_bs,bs_nil,size_bs,show sidx s (0:Int)=sidx s ((0:Nat):Int) from rfl,sidx_bs]
 unfold isName
 cases h:bs s with
 | nil=>exact ⟨rfl,rfl⟩
 | cons x l =>
  have e:(x::l==([]:List UInt8))=false:=rfl
  rw [e]
  simp only [cF,List.getElem?_cons_zero,Option.map_some,bS,letter_eq,refLetter_eq]
  have d:decide (((x::l).length:Int) > 16) = !decide (l.length < 16):=by
   by_cases q:l.length < 16
   ·rw [dT q];simp;omega
   ·rw [dF q];simp;omega
  rw [d]
  cases letterV (x.toNat:Int)<;>cases decide (l.length < 16)<;>exact ⟨rfl,rfl⟩
theorem whereV_any {α:Type} (f:α→Bool) (l:List α) (k:Nat):∃ i,lv (fun x (k:Nat) r=>bif f x then some (k:Int) else r) (some (-1)) l k=some i∧decide (i≥0)=l.any f:=by
 induction l generalizing k with
 | nil=>exact ⟨-1,rfl,rfl⟩
 | cons x l ih =>
  show ∃ i,(bif f x then some (k:Int) else lv _ _ l (k+1))=some i∧_
  rw [List.any_cons]
  cases f x
  ·exact ih (k+1)
  ·exact ⟨k,rfl,by simp⟩
include hN in
theorem contains_eq (l:List ByteArray) (hl:l.length≤4194304) (v:ByteArray):z131 N l v=some (l.any fun x=>eqStr x v):=by
 unfold z131
 rw [Index_eq hN l hl]
 obtain ⟨i,h1,h2⟩:=whereV_any (fun x=>eqStr x v) l 0
 unfold whereV
 rw [h1,bS,h2]
include hN in
theorem refIn_eq (l:List ByteArray) (hl:l.length≤4194304) (v:ByteArray):z169 N l v=some (l.any fun x=>eqStr x v):=by
 unfold z169
 rw [look l hl (fun x k r=>bif eqStr x v then some true else r) (z169_l2 l v) (some false) hN]
 ·generalize (0:Nat)=k
  induction l generalizing k with
  | nil=>rfl
  | cons x l ih =>
   show (bif eqStr x v then some true else lv _ _ l (k+1))=_
   rw [List.any_cons,ih (by simp at hl;omega)]
   cases eqStr x v<;>rfl
 ·intro n k x hk hx
  simp only [z169_l2,lt_t hk,idx_nat,hx,cT,bS,eqStr]
 ·intro n k hk
  simp only [z169_l2,lt_f hk,cF,z169_k1]
include hN in
theorem word_eq (s:ByteArray) (hs:s.size≤4194304):z85 N s=some (isWord s)∧z117 N s=some (isWord s):=by
 obtain ⟨h1,h2⟩:=name_eq hN s hs
 unfold z85 z117 z170
 rw [h1,h2]
 simp only [bS]
 have c1:=contains_eq hN keywords (by decide) s
 have c2:=refIn_eq hN keywords (by decide) s
 unfold keywords at c1 c2
 rw [c1,c2]
 unfold isWord keywords
 simp only [bS]
 cases isName s<;>exact ⟨rfl,rfl⟩
end Gp
end
section
namespace Gp
open Go Go.Kx Gx
theorem minI_lt {a b n:Int}:minI a b < n↔a < n∨b < n:=by unfold minI;split<;>omega
theorem maxI_ge {a b n:Int}:maxI a b≥n↔a≥n∨b≥n:=by unfold maxI;split<;>omega
variable {N:Nat} (hN:4194304 < N)
end Gp
end
section
namespace Gp
open Go Go.Kx Gx
variable {N:Nat} (hN:4194304 < N)
end Gp
end
section
namespace Gp
open Go Go.Kx Gx
theorem idx_some {α:Type} {L:List α} {v:Int} {d:α} (h:idx L v=some d):0≤v∧v < (L.length:Int):=by
 by_cases h0:0≤v
 ·obtain ⟨k,rfl⟩:∃ k:Nat,v=(k:Int):=⟨v.toNat,by omega⟩
  rw [idx_nat] at h
  obtain ⟨hk,_⟩:=List.getElem?_eq_some_iff.mp h
  exact ⟨h0,by omega⟩
 ·unfold idx at h
  rw [dF h0] at h;cases h
theorem idx_lt {α:Type} {L:List α} {v:Int} (h0:0≤v) (h1:v < (L.length:Int)):∃ d,idx L v=some d:=by
 obtain ⟨k,rfl⟩:∃ k:Nat,v=(k:Int):=⟨v.toNat,by omega⟩
 exact ⟨L[k]'(by omega),by rw [idx_nat,List.getElem?_eq_getElem]⟩
theorem setL_len {α:Type} (L:List α) {b:Int} (d:α) (h0:0≤b):(setL' L b d).length=L.length:=by
 obtain ⟨k,rfl⟩:∃ k:Nat,b=(k:Int):=⟨b.toNat,by omega⟩
 rw [setL'_nat];simp
theorem idx_set {α:Type} {L:List α} {b:Int} {d:α} (h0:0≤b) (h1:b < (L.length:Int)) (v:Int):idx (setL' L b d) v=if v=b then some d else idx L v:=by
 obtain ⟨k,rfl⟩:∃ k:Nat,b=(k:Int):=⟨b.toNat,by omega⟩
 rw [setL'_nat]
 by_cases hv:0≤v
 ·obtain ⟨j,rfl⟩:∃ j:Nat,v=(j:Int):=⟨v.toNat,by omega⟩
  rw [idx_nat,idx_nat,List.getElem?_set]
  by_cases e:k=j
  ·subst e;simp;omega
  ·rw [if_neg e,if_neg (by omega)]
 ·rw [if_neg (by omega)]
  unfold idx
  rw [dF hv];rfl
structure Jn (E:List (Int × Int)) (S:Nat) (e da:Int) (out todo:List Int) (mu:Nat):Prop where
 len:out.length=S
 lo:∀ v d,idx out v=some d→-1≤d∧d≤da+1
 ub:∀ v d,idx out v=some d→d+(out.count (-1):Nat)+1≤(S:Int)
 root:idx out e=some 0
 zero:∀ v,idx out v=some 0→v=e
 pred:∀ v d,idx out v=some d→0 < d→∃ u,(u,v)∈E∧idx out u=some (d-1)
 todo_in:∀ v∈todo,∃ d,idx out v=some d∧da≤d∧0≤d
 sorted:todo.Pairwise (fun x y=>∀ dx dy,idx out x=some dx→idx out y=some dy→dx≤dy)
 proc:∀ u v d,(u,v)∈E→idx out u=some d→0≤d→u ∉ todo→∃ d',idx out v=some d'∧0≤d'∧d'≤d+1
 mu_eq:out.count (-1)+todo.length=mu
variable {N:Nat}
structure Dist (E:List (Int × Int)) (S:Nat) (e:Int) (L:List Int):Prop where
 len:L.length=S
 lo:∀ v d,idx L v=some d→-1≤d∧d < (S:Int)
 root:idx L e=some 0
 zero:∀ v,idx L v=some 0→v=e
 pred:∀ v d,idx L v=some d→0 < d→∃ u,(u,v)∈E∧idx L u=some (d-1)
 succ:∀ u v d,(u,v)∈E→idx L u=some d→0≤d→∃ d',idx L v=some d'∧0≤d'∧d'≤d+1
end Gp
end
section
namespace Gp
open Go Go.Kx Gx
variable {N:Nat}
end Gp
end
section
namespace Gp
open Go Go.Kx Gx
variable {N:Nat}
structure Rc (S:Nat) (F:List Int) (n:Int) (R:List Bool):Prop where
 len:R.length=S
 sound:∀ v,idx R v=some true→∃ d,idx F v=some d∧0≤d
 full:∀ v d,idx F v=some d→0≤d→d≤n→idx R v=some true
theorem Rc.set {S:Nat} {F:List Int} {n:Int} {R:List Bool} (h:Rc S F n R) {v:Int} {b:Bool} (v0:0≤v) (v1:v < (S:Int)) (hb:b=true→∃ d,idx F v=some d∧0≤d) (hm:idx R v=some true→b=true):Rc S F n (setL' R v b):=by
 have hset:=fun w=>idx_set (L:=R) (d:=b) v0 (by rw [h.len];exact v1) w
 refine ⟨by rw [setL_len _ _ v0,h.len],?_,?_⟩
 ·intro w hw
  rw [hset] at hw
  split at hw
  ·rename_i hc;subst hc;exact hb (Option.some.inj hw)
  ·exact h.sound w hw
 ·intro w d hw h0 h1
  rw [hset]
  split
  ·rename_i hc;subst hc
   rw [hm (h.full _ _ hw h0 h1)]
  ·exact h.full w d hw h0 h1
end Gp
end
section
namespace Gp
open Go Go.Kx Gx
def mkB (l:List UInt8):ByteArray:=⟨l.toArray⟩
theorem bs_mkB (l:List UInt8):bs (mkB l)=l:=by simp [bs,mkB]
theorem mkB_bs (s:ByteArray):mkB (bs s)=s:=bs_inj (bs_mkB _)
theorem bs_extract (s:ByteArray) (a b:Nat):bs (s.extract a b)=((bs s).take b).drop a:=by
 unfold bs
 rw [ByteArray.data_extract,Array.toList_extract]
 simp [List.extract,List.drop_take]
theorem ssl_mid {s:ByteArray} {x y z:List UInt8} {i j:Int} (h:bs s=x++(y++z)) (hi:i=(x.length:Int)) (hj:j=((x.length+y.length:Nat):Int)):ssl s (some i) (some j)=some (mkB y):=by
 subst hi hj
 have q1:decide ((0:Int)≤(x.length:Int))=true:=by simp
 have q2:decide ((x.length:Int)≤((x.length+y.length:Nat):Int))=true:=by simp;omega
 have q3:decide (((x.length+y.length:Nat):Int)≤(s.size:Int))=true:=by rw [size_bs,h];simp;omega
 unfold ssl bnd
 simp only [Option.getD_some,q1,q2,q3,Bool.and_self,cT,Option.map_some,Int.toNat_natCast]
 congr 1
 apply bs_inj
 rw [bs_extract,bs_mkB,h,← aA,List.take_append_of_le_length (by simp),List.take_of_length_le (by simp)]
 simp
theorem ssl_to {s:ByteArray} {x y:List UInt8} {j:Int} (h:bs s=x++y) (hj:j=(x.length:Int)):ssl s none (some j)=some (mkB x):=by
 have e:ssl s none (some j)=ssl s (some 0) (some j):=rfl
 rw [e]
 exact ssl_mid (x:=[]) (y:=x) (z:=y) (by rw [h];rfl) rfl (by rw [hj];simp)
theorem ssl_from {s:ByteArray} {x y:List UInt8} {i:Int} (h:bs s=x++y) (hi:i=(x.length:Int)):ssl s (some i) none=some (mkB y):=by
 have e:ssl s (some i) none=ssl s (some i) (some (s.size:Int)):=rfl
 rw [e]
 exact ssl_mid (x:=x) (y:=y) (z:=[]) (by rw [h];simp) hi (by rw [size_bs,h];simp)
theorem indexB_some {l:List UInt8} {c:UInt8} (h:0 < l.count c):∃ p q,l=p++c::q∧p.count c=0∧Go.Lib.indexByte l c=(p.length:Int):=by
 induction l with
 | nil=>simp at h
 | cons b l ih =>
  cases hc:(b==c)
  ·rw [List.count_cons,hc] at h
   obtain ⟨p,q,h1,h2,h3⟩:=ih (by simpa using h)
   refine ⟨b::p,q,by rw [h1];rfl,by rw [List.count_cons,h2,hc];rfl,?_⟩
   unfold Go.Lib.indexByte
   rw [hc,h3,show ((p.length:Int)==-1)=false by simp]
   simp
  ·have:b=c:=by simpa using hc
   subst this
   exact ⟨[],l,rfl,by simp,by unfold Go.Lib.indexByte;rw [hc];rfl⟩
def splitA (acc:List UInt8):List UInt8→List (List UInt8)
 | []=>[acc]
 | c::l=>if c=46 then acc::splitA [] l else splitA (acc++[c]) l
theorem splitA_cons (acc:List UInt8) (c:UInt8) (l:List UInt8):splitA acc (c::l)=if c=46 then acc::splitA [] l else splitA (acc++[c]) l:=rfl
theorem splitA_none:∀ (l acc:List UInt8),l.count 46=0→splitA acc l=[acc++l]
 | [],acc,_=>by simp [splitA]
 | c::l,acc,h=>by
  rw [List.count_cons] at h
  have hc:¬ c=46:=by intro hc;subst hc;simp at h
  rw [splitA_cons,if_neg hc,splitA_none l _ (by omega)];simp
theorem splitA_some:∀ (p acc q:List UInt8),p.count 46=0→splitA acc (p++46::q)=(acc++p)::splitA [] q
 | [],acc,q,_=>by rw [List.nil_append,splitA_cons,if_pos rfl,List.append_nil]
 | c::p,acc,q,h=>by
  rw [List.count_cons] at h
  have hc:¬ c=46:=by intro hc;subst hc;simp at h
  show splitA acc (c::(p++46::q))=_
  rw [splitA_cons,if_neg hc,splitA_some p _ q (by omega)];simp
theorem splitA_len:∀ (l acc:List UInt8),(splitA acc l).length=l.count 46+1
 | [],acc=>by simp [splitA]
 | c::l,acc=>by
  rw [splitA_cons,List.count_cons]
  split
  ·rename_i h;subst h
   rw [List.length_cons,splitA_len l];simp
  ·rename_i h
   rw [splitA_len l];simp [h]
variable {N:Nat}
theorem index_eq (s:ByteArray):z175 N s (str [46])=some (Go.Lib.indexByte (bs s) 46):=by
 unfold z175 z202
 have h1:(((str [46]).size:Int)==0)=false:=rfl
 have h2:(((str [46]).size:Int)==1)=true:=rfl
 have h3:sidx (str [46]) (0:Int)=some 46:=by
  rw [show (0:Int)=((0:Nat):Int) from rfl,sidx_bs];rfl
 rw [h1,h2,h3]
 simp only [cT,cF,bS,z174]
 have hf:firstB s 46=Go.Lib.indexByte (bs s) 46:=Go.Lib.firstIdx_eq s 46
 rw [hf,toList_bs,toList_bs]
 cases he:(bs (str [46])==bs s)
 ·rfl
 ·have he:bs (str [46])=bs s:=eq_of_beq he
  rw [← he];rfl
theorem count_eq (s:ByteArray):z217 N s (str [46])=some (((bs s).count 46:Nat):Int):=by
 unfold z217
 have h1:(((str [46]).size:Int)==0)=false:=rfl
 have h2:(((str [46]).size:Int)==1)=true:=rfl
 have h3:sidx (str [46]) (0:Int)=some 46:=by
  rw [show (0:Int)=((0:Nat):Int) from rfl,sidx_bs];rfl
 rw [h1,h2,h3]
 simp only [cT,cF,bS]
 congr 1
 unfold countB
 rw [show s.foldl (fun (n:Int) x=>if x==Kx.byteOf 46 then n+1 else n) ((0:Nat):Int)=(bs s).foldl (fun (n:Int) x=>if x==Kx.byteOf 46 then n+1 else n) ((0:Nat):Int) from Go.Lib.foldl_data _ _ _,Go.Lib.count_foldl]
 simp [Go.Lib.countByte,Kx.byteOf]
theorem gen_loop (s sep:ByteArray) (hsep:sep=str [46]) (cnt:Nat) (hc:cnt≤s.size) (hs:s.size≤4194304) :
  ∀ (n:Nat) (cur:ByteArray) (D R:List ByteArray),(bs cur).count 46 < n→(bs cur).length≤4194304→D.length+(bs cur).count 46=cnt→R.length=(bs cur).count 46+1 →
  z194_l2 N s sep (0:Int) ((cnt+1:Nat):Int) n cur (D++R) (D.length:Int)=some (D++(splitA [] (bs cur)).map mkB):=by
 subst hsep
 intro n
 induction n with
 | zero=>intro cur D R h;omega
 | succ n ih =>
  intro cur D R hn hcur hD hR
  have hw:w64 ((s.size:Int)+1)=((s.size+1:Nat):Int):=w64_succ (by omega)
  have hmin:minI ((cnt+1:Nat):Int) ((s.size+1:Nat):Int)=((cnt+1:Nat):Int):=by unfold minI;rw [if_neg (by omega)]
  have hw2:w64 (((cnt+1:Nat):Int)-1)=(cnt:Int):=by rw [w64_id (by omega) (by omega)];omega
  have fin:(bs cur).count 46=0→z194_k1 cur (D++R) (D.length:Int)=some (D++(splitA [] (bs cur)).map mkB):=by
   intro h0
   rw [h0] at hR
   obtain ⟨r,rfl⟩:=List.length_eq_one_iff.mp hR
   unfold z194_k1
   rw [idx_mid (A:=D) (x:=r) (B:=[]) rfl rfl,bS,setL'_mid (A:=D) (x:=r) (B:=[]) rfl rfl,w64_succ (by omega),lsl_to (A:=D++[cur]) (B:=[]) (by simp) (by simp),splitA_none _ _ h0]
   simp [mkB_bs]
  by_cases hlt:D.length < cnt
  ·have hd:decide ((D.length:Int) < (cnt:Int))=true:=by simp;omega
   obtain ⟨p,q,e1,e2,e3⟩:=indexB_some (l:=bs cur) (c:=46) (by omega)
   have hlen:(bs cur).length=p.length+(q.length+1):=by rw [e1];simp
   have hcnt:(bs cur).count 46=q.count 46+1:=by rw [e1,List.count_append,List.count_cons,e2];simp
   obtain ⟨r,R',rfl⟩:∃ r R',R=r::R':=by
    cases R with
    | nil=>simp at hR
    | cons r R'=>exact ⟨r,R',rfl⟩
   simp only [List.length_cons] at hR
   have hneg:decide ((p.length:Int) < 0)=false:=by simp
   have wp:w64 ((p.length:Int)+0)=(p.length:Int):=by rw [w64_id (by omega) (by omega)];omega
   have wp1:w64 ((p.length:Int)+((str [46]).size:Int))=((p++[46]:List UInt8).length:Int):=by
    rw [show ((str [46]).size:Int)=1 from rfl,w64_succ (by omega)];simp
   simp only [z194_l2,hw,hmin,hw2,hd,cT,index_eq,e3,bS,hneg,cF,wp,wp1]
   rw [ssl_to e1 rfl,bS,idx_mid (A:=D) (x:=r) (B:=R') rfl rfl,bS,ssl_from (x:=p++[46]) (y:=q) (by rw [e1];simp) rfl,bS,setL'_mid (A:=D) (x:=r) (B:=R') rfl rfl,w64_succ (by omega)]
   have:=ih (mkB q) (D++[mkB p]) R' (by rw [bs_mkB];omega) (by rw [bs_mkB];omega) (by rw [bs_mkB];simp;omega) (by rw [bs_mkB];omega)
   rw [bs_mkB] at this
   rw [show ((D.length+1:Nat):Int)=((D++[mkB p]).length:Int) by simp,show D++mkB p::R'=(D++[mkB p])++R' by simp,this,e1,splitA_some _ _ _ e2]
   simp
  ·have hd:decide ((D.length:Int) < (cnt:Int))=false:=by simp;omega
   simp only [z194_l2,hw,hmin,hw2,hd,cF]
   exact fin (by omega)
theorem split_eq (hN:4194304 < N) (s:ByteArray) (hs:s.size≤1000000):z163 N s (str [46])=some ((splitA [] (bs s)).map mkB):=by
 unfold z163 z194
 have h0:((-1:Int)==0)=false:=rfl
 have h1:((str [46]).toList==(str []).toList)=false:=by rw [toList_bs,toList_bs];rfl
 have h2:decide ((-1:Int) < 0)=true:=rfl
 have hcl:(bs s).count 46≤(bs s).length:=List.count_le_length
 rw [h0,h1,h2,count_eq]
 simp only [cT,cF,bS,z194_k3]
 rw [size_bs] at hs
 rw [w64_succ (by omega)]
 have hw:w64 ((s.size:Int)+1)=((s.size+1:Nat):Int):=w64_succ (by rw [size_bs];omega)
 have hmin:minI (((bs s).count 46+1:Nat):Int) ((s.size+1:Nat):Int)=(((bs s).count 46+1:Nat):Int):=by unfold minI;rw [if_neg (by rw [size_bs];omega)]
 have m:mkL (str []) (((bs s).count 46+1:Nat):Int) (((bs s).count 46+1:Nat):Int)=some (List.replicate ((bs s).count 46+1) (str [])):=by
  unfold mkL
  have q1:decide ((0:Int)≤(((bs s).count 46+1:Nat):Int))=true:=by simp;omega
  have q2:decide ((((bs s).count 46+1:Nat):Int)≤4294967296)=true:=by simp;omega
  simp only [q1,q2,Int.le_refl,decide_true,Bool.and_self,cT]
  simp
 rw [hw,hmin,m,bS]
 have:=gen_loop (N:=N) s (str [46]) rfl ((bs s).count 46) (by rw [size_bs];omega) (by rw [size_bs];omega) N s [] (List.replicate ((bs s).count 46+1) (str [])) (by omega) (by omega) (by simp) (by simp)
 rw [List.nil_append] at this
 have this':z194_l2 N s (str [46]) (0:Int) (((bs s).count 46+1:Nat):Int) N s (List.replicate ((bs s).count 46+1) (str [])) (0:Int)=some ([]++(splitA [] (bs s)).map mkB):=this
 rw [this'];simp
def pathV (s:ByteArray):Bool:=decide (s.size≤50) && (splitA [] (bs s)).all fun p=>isWord (mkB p)
theorem piece_len:∀ (l acc:List UInt8),∀ p∈splitA acc l,p.length≤acc.length+l.length
 | [],acc,p,h=>by simp [splitA] at h;subst h;simp
 | c::l,acc,p,h=>by
  rw [splitA_cons] at h
  split at h
  ·rcases List.mem_cons.mp h with h | h
   ·subst h;simp
   ·have:=piece_len l [] p h;simp at this;simp;omega
  ·have:=piece_len l _ p h;simp at this;simp;omega
theorem path_eq (hN:4194304 < N) (s:ByteArray):z99 N s=some (pathV s):=by
 unfold z99 pathV
 by_cases h:s.size≤50
 ·rw [dT (show (s.size:Int)≤50 by omega),dT h,cT,split_eq hN s (by omega),bS]
  unfold z134_1 z182_0
  have hl:(splitA [] (bs s)).length≤51:=by
   rw [splitA_len]
   have:(bs s).count 46≤(bs s).length:=List.count_le_length
   rw [size_bs] at h;omega
  rw [look ((splitA [] (bs s)).map mkB) (by simp;omega) (fun x k r=>bif !(isWord x) then some k else r) (z182_0_l2 N ((splitA [] (bs s)).map mkB)) (some (-1)) hN]
  ·obtain ⟨i,h1,h2⟩:=whereV_any (fun x => !(isWord x)) ((splitA [] (bs s)).map mkB) 0
   rw [h1,bS,h2,bS,List.any_map,List.not_any_eq_all_not]
   simp [Function.comp_def]
  ·intro n k x hk hx
   have hx':=List.mem_of_getElem? hx
   obtain ⟨p,hp,rfl⟩:=List.mem_map.mp hx'
   have hpl:=piece_len _ _ p hp
   have hw:=(word_eq hN (mkB p) (by rw [size_bs,bs_mkB];rw [size_bs] at h;simp at hpl;omega)).1
   simp only [z182_0_l2,lt_t hk,idx_nat,hx,cT,bS,z164,hw]
  ·intro n k hk
   simp only [z182_0_l2,lt_f hk,cF,z182_0_k1]
 ·rw [dF (show ¬ (s.size:Int)≤50 by omega),dF h];rfl
theorem refPath_loop (hN:4194304 < N) (s:ByteArray) (hs:s.size≤4194304):∀ (n:Nat) (x acc l:List UInt8) (i j:Int),l.length+1 < n→bs s=x++(acc++l)→i=(x.length:Int)→j=((x.length+acc.length:Nat):Int) →
  z118_l2 N s n i j=bif (splitA acc l).all fun p=>isWord (mkB p) then z118_k1 s else some false:=by
 intro n
 induction n with
 | zero=>intro x acc l i j h;omega
 | succ n ih =>
  intro x acc l i j hn he hi hj
  have hsz:s.size=x.length+(acc.length+l.length):=by rw [size_bs,he];simp
  have hle:decide (j≤(s.size:Int))=true:=by simp;omega
  have hw:=(word_eq hN (mkB acc) (by rw [size_bs,bs_mkB];omega)).2
  have wj:w64 (j+1)=((x.length+acc.length+1:Nat):Int):=by rw [hj];exact w64_succ (by omega)
  cases l with
  | nil =>
   have hend:(j==(s.size:Int))=true:=by simp at hsz;simp;omega
   obtain ⟨n,rfl⟩:∃ m,n=m+1:=⟨n-1,by simp at hn;omega⟩
   have hgt:decide (w64 (j+1)≤(s.size:Int))=false:=by rw [wj];simp at hsz;simp;omega
   unfold z118_l2
   rw [hle,cT,hend,cT]
   unfold z118_k3
   rw [cT,ssl_mid he hi hj,bS]
   unfold z171
   rw [hw]
   simp only [bS,splitA,List.all_cons,List.all_nil,Bool.and_true]
   cases isWord (mkB acc)
   ·rfl
   ·simp only [Bool.not_true,cF,cT]
    unfold z118_l2
    rw [hgt];rfl
  | cons c l =>
   have hne:(j==(s.size:Int))=false:=by simp at hsz;simp;omega
   have hgc:sidx s j=some (c.toNat:Int):=by
    rw [hj,sidx_bs,get_at (A:=x++acc) (x:=c) (B:=l) (by rw [he];simp) (by simp)];rfl
   unfold z118_l2
   rw [hle,cT,hne,cF,hgc,bS]
   by_cases hc:c=46
   ·subst hc
    have hb:(((46:UInt8).toNat:Int)==46)=true:=rfl
    rw [hb]
    unfold z118_k3
    rw [cT,ssl_mid he hi hj,bS]
    unfold z171
    rw [hw]
    have e0:splitA acc (46::l)=acc::splitA [] l:=by rw [splitA_cons,if_pos rfl]
    rw [e0,List.all_cons]
    simp only [bS]
    cases isWord (mkB acc)
    ·rfl
    ·simp only [Bool.not_true,cF,Bool.true_and]
     rw [wj]
     exact ih (x++acc++[46]) [] l _ _ (by simp at hn;omega) (by rw [he];simp) (by simp;omega) (by simp;omega)
   ·have hb:((c.toNat:Int)==46)=false:=by
     rw [beq_eq_false_iff_ne]
     intro h
     apply hc
     apply UInt8.toNat_inj.mp
     show c.toNat=46
     omega
    rw [hb]
    unfold z118_k3
    have e0:splitA acc (c::l)=splitA (acc++[c]) l:=by rw [splitA_cons,if_neg hc]
    rw [cF,wj,e0]
    exact ih x (acc++[c]) l _ _ (by simp at hn;omega) (by rw [he];simp) hi (by simp;omega)
theorem refPath_eq (hN:4194304 < N) (s:ByteArray) (hs:s.size≤4000000):z118 N s=some (pathV s):=by
 unfold z118
 rw [refPath_loop hN s (by omega) N [] [] (bs s) (0:Int) (0:Int) (by rw [size_bs] at hs;omega) rfl rfl rfl]
 unfold z118_k1 pathV
 by_cases h:s.size≤50
 ·rw [dT (show (s.size:Int)≤50 by omega),dT h]
  cases (splitA [] (bs s)).all fun p=>isWord (mkB p)<;>rfl
 ·rw [dF (show ¬ (s.size:Int)≤50 by omega),dF h]
  cases (splitA [] (bs s)).all fun p=>isWord (mkB p)<;>rfl
end Gp
end
section
namespace Gp
open Go Go.Kx Gx
variable {N:Nat}
def flat (l:List T0):List T2:=(l.map fun d=>d.Fields).flatten
theorem flat_cons (x:T0) (l:List T0):flat (x::l)=x.Fields++flat l:=rfl
theorem flat_app (a b:List T0):flat (a++b)=flat a++flat b:=by simp [flat]
theorem flat_le (l:List T0) (h:∀ d∈l,SizeD d):(flat l).length≤l.length * 4194304:=by
 induction l with
 | nil=>simp [flat]
 | cons x l ih =>
  rw [flat_cons,lA,List.length_cons]
  have:=(h x (by simp)).f
  have:=ih (fun d hd=>h d (by simp [hd]))
  omega
theorem take_drop_cons {α:Type} {xs l:List α} {k:Nat} {x:α} (h:xs.drop k=x::l):xs.take (k+1)=xs.take k++[x]:=by
 obtain ⟨a,c,d⟩:=drop_cons h
 rw [List.take_add_one,c];rfl
theorem fields_loop (l:List T0) (hs:(flat l).length≤4294967296) (hl:l.length≤4194304) :
  ∀ (m:List T0) (k n:Nat) (acc:List T2),l.drop k=m→m.length < n→acc=flat (l.take k)→z49_l2 l n acc (k:Int)=some (flat l):=by
 intro m
 induction m with
 | nil =>
  intro k n acc h hn ha
  obtain ⟨n,rfl⟩:∃ m,n=m+1:=⟨n-1,by simp at hn;omega⟩
  have hk:=drop_nil h
  simp only [z49_l2,lt_f hk,cF,z49_k1]
  rw [ha,List.take_of_length_le hk]
 | cons x m ih =>
  intro k n acc h hn ha
  obtain ⟨n,rfl⟩:∃ m,n=m+1:=⟨n-1,by simp at hn;omega⟩
  obtain ⟨a,c,d⟩:=drop_cons h
  have ht:=take_drop_cons h
  have hcut:flat l=flat (l.take (k+1))++flat (l.drop (k+1)):=by rw [← flat_app,List.take_append_drop]
  have hle:acc.length+x.Fields.length≤4294967296:=by
   rw [hcut,ht,flat_app,lA,lA,← ha] at hs
   have:(flat [x]).length=x.Fields.length:=by simp [flat]
   omega
  simp only [z49_l2,lt_t a,cT,idx_nat,c,bS]
  rw [appL_some hle,bS,w64_succ (by omega)]
  refine ih (k+1) n _ d (by simp at hn;omega) ?_
  rw [ht,flat_app,← ha];simp [flat]
theorem fields_eq (hN:4194304 < N) (l:List T0) (hl:l.length≤1000) (hd:∀ d∈l,SizeD d):z49 N l=some (flat l):=by
 unfold z49
 exact fields_loop l (by have:=flat_le l hd;omega) (by omega) l 0 N [] rfl (by omega) rfl
theorem vars_loop (l:List T0) (hs:(flat l).length≤4294967296) (hl:l.length≤4194304) :
  ∀ (m:List T0) (k n:Nat) (acc:Int),l.drop k=m→m.length < n→acc=((flat (l.take k)).length:Int)→z65_l2 l n acc (k:Int)=some ((flat l).length:Int):=by
 intro m
 induction m with
 | nil =>
  intro k n acc h hn ha
  obtain ⟨n,rfl⟩:∃ m,n=m+1:=⟨n-1,by simp at hn;omega⟩
  have hk:=drop_nil h
  simp only [z65_l2,lt_f hk,cF,z65_k1]
  rw [ha,List.take_of_length_le hk]
 | cons x m ih =>
  intro k n acc h hn ha
  obtain ⟨n,rfl⟩:∃ m,n=m+1:=⟨n-1,by simp at hn;omega⟩
  obtain ⟨a,c,d⟩:=drop_cons h
  have ht:=take_drop_cons h
  have hcut:flat l=flat (l.take (k+1))++flat (l.drop (k+1)):=by rw [← flat_app,List.take_append_drop]
  have hx:(flat [x]).length=x.Fields.length:=by simp [flat]
  have hle:(flat (l.take k)).length+x.Fields.length≤4294967296:=by
   rw [hcut,ht,flat_app,lA,lA] at hs
   omega
  simp only [z65_l2,lt_t a,cT,idx_nat,c,bS]
  rw [w64_succ (by omega),w64_id (by omega) (by omega)]
  refine ih (k+1) n _ d (by simp at hn;omega) ?_
  rw [ht,flat_app,lA,hx,ha];simp
theorem vars_eq (hN:4194304 < N) (l:List T0) (hl:l.length≤1000) (hd:∀ d∈l,SizeD d):z65 N l=some ((flat l).length:Int):=by
 unfold z65
 exact vars_loop l (by have:=flat_le l hd;omega) (by omega) l 0 N 0 rfl (by omega) rfl
theorem field_loop (l:List T0) (hl:l.length≤4194304) (hd:∀ d∈l,SizeD d) :
  ∀ (m:List T0) (k n i:Nat),l.drop k=m→m.length < n→i < (flat m).length→i≤4294967296→z67_l2 l n (i:Int) (k:Int)=(flat m)[i]? := by
 intro m
 induction m with
 | nil=>intro k n i h hn hi;simp [flat] at hi
 | cons x m ih =>
  intro k n i h hn hi hi2
  obtain ⟨n,rfl⟩:∃ m,n=m+1:=⟨n-1,by simp at hn;omega⟩
  obtain ⟨a,c,d⟩:=drop_cons h
  rw [flat_cons]
  simp only [z67_l2,lt_t a,cT,idx_nat,c,bS]
  by_cases hlt:i < x.Fields.length
  ·rw [lt_t hlt,cT,List.getElem?_append_left hlt,List.getElem?_eq_getElem hlt];rfl
  ·rw [lt_f (by omega),cF,w64_succ (by omega),List.getElem?_append_right (by omega)]
   have hf:=(hd x (List.mem_of_getElem? c)).f
   have hw:w64 ((i:Int)-(x.Fields.length:Int))=((i-x.Fields.length:Nat):Int):=by rw [w64_id (by omega) (by omega)];omega
   rw [hw]
   exact ih (k+1) n _ d (by simp at hn;omega) (by rw [flat_cons,lA] at hi;omega) (by omega)
def textV (fl:List T2) (x:Int):Bool:=match idx fl x with | some f=>f.Sort'.Kind==2 | none=>false
theorem idx_none {α:Type} {L:List α} {v:Int} (h:¬ (0≤v∧v < (L.length:Int))):idx L v=none:=by
 cases hc:idx L v with
 | none=>rfl
 | some d=>exact absurd (idx_some hc) h
theorem text_eq (hN:4194304 < N) (l:List T0) (hl:l.length≤1000) (hd:∀ d∈l,SizeD d) (x:Int):z172 N l x=some (textV (flat l) x):=by
 have hfl:=flat_le l hd
 unfold z172 textV
 rw [vars_eq hN l hl hd]
 by_cases h0:x≥0
 ·rw [dT h0,cT,bS]
  by_cases h1:x < ((flat l).length:Int)
  ·obtain ⟨k,rfl⟩:∃ k:Nat,x=(k:Int):=⟨x.toNat,by omega⟩
   have hk:k < (flat l).length:=by omega
   have hf:z67 N l (k:Int)=(flat l)[k]? := field_loop l (by omega) hd l 0 N k rfl (by omega) hk (by omega)
   rw [dT h1,cT,hf,idx_nat,List.getElem?_eq_getElem hk];rfl
  ·rw [dF h1,idx_none (by omega)];rfl
 ·rw [dF h0,idx_none (by omega)];rfl
def diffOk (n:Int) (d:T1):Prop:=-1≤d.X∧d.X < n∧-1≤d.Y∧d.Y < n∧-20000≤d.C∧d.C≤20000
instance (n:Int) (d:T1):Decidable (diffOk n d):=by unfold diffOk;infer_instance
def guardV (fl:List T2) (g:T3):Bool :=
 decide (g.Diffs.length≤20∧g.Equals.length≤20) && (allV (fun d _=>decide (diffOk (fl.length:Int) d)) g.Diffs 0 && allV (fun e _=>textV fl e.1 && textV fl e.2) g.Equals 0)
theorem guarded_eq (hN:4194304 < N) (g:T3) (fl:List T2):z105 N g fl=some (guardV fl g):=by
 unfold z105 guardV
 by_cases c1:(g.Diffs.length:Int) > 20
 ·rw [dT c1,dF (show ¬ (g.Diffs.length≤20∧g.Equals.length≤20) by omega)];rfl
 by_cases c2:(g.Equals.length:Int) > 20
 ·rw [dF c1,dT c2,dF (show ¬ (g.Diffs.length≤20∧g.Equals.length≤20) by omega)];rfl
 rw [dF c1,dF c2,dT (show g.Diffs.length≤20∧g.Equals.length≤20 by omega)]
 simp only [cF,Bool.true_and]
 rw [allV_from (fun d _=>decide (diffOk (fl.length:Int) d)) (xs:=g.Diffs) (F:=z105_l6 N g fl) (e:=z105_k5 N g fl) (by omega)]
 ·unfold z105_k5
  rw [allV_from (fun e _=>textV fl e.1 && textV fl e.2) (xs:=g.Equals) (F:=z105_l2 N g fl) (e:=some true) (by omega)]
  ·cases allV (fun d _=>decide (diffOk (fl.length:Int) d)) g.Diffs 0<;>cases allV (fun e _=>textV fl e.1 && textV fl e.2) g.Equals 0<;>rfl
  ·intro n k x hk hx
   obtain ⟨m,rfl⟩:∃ m,N=m+3:=⟨N-3,by omega⟩
   have e0:idx ([x.1,x.2]:List Int) (0:Int)=some x.1:=rfl
   have e1:idx ([x.1,x.2]:List Int) (1:Int)=some x.2:=rfl
   have w0:w64 ((0:Int)+1)=1:=by decide
   have w1:w64 ((1:Int)+1)=2:=by decide
   have l0:decide ((0:Int) < 2)=true:=rfl
   have l1:decide ((1:Int) < 2)=true:=rfl
   have l2:decide ((2:Int) < 2)=false:=rfl
   have one:∀ (v:Int) (r:Option Bool),(bif decide (v < (0:Int)) then some false else bif decide (v≥(fl.length:Int)) then some false else (idx fl v).bind fun x143=>bif (x143.Sort'.Kind != (2:Int)) then some false else r)=bif textV fl v then r else some false:=by
    intro v r
    unfold textV
    by_cases h0:v < 0
    ·rw [dT h0,idx_none (by omega)];rfl
    by_cases h1:v≥(fl.length:Int)
    ·rw [dF h0,dT h1,idx_none (by omega)];rfl
    obtain ⟨f,hf⟩:=idx_lt (L:=fl) (v:=v) (by omega) (by omega)
    rw [dF h0,dF h1,hf]
    simp only [cF,bS]
    unfold bne
    cases (f.Sort'.Kind==2)<;>rfl
   have inner:z105_l4 fl (k:Int) (z105_l2 (m+3) g fl n) x (m+3) (0:Int)=bif textV fl x.1 && textV fl x.2 then z105_k3 (k:Int) (z105_l2 (m+3) g fl n) else some false:=by
    simp only [z105_l4,e0,e1,w0,w1,l0,l1,l2,cT,cF,bS]
    rw [one,one]
    cases textV fl x.1<;>cases textV fl x.2<;>rfl
   simp only [z105_l2,lt_t hk,cT,idx_nat,hx,bS,inner,z105_k3]
   rw [w64_succ (by omega)]
  ·intro n k hk
   simp only [z105_l2,lt_f hk,cF,z105_k1]
 ·intro n k x hk hx
  simp only [z105_l6,lt_t hk,idx_nat,hx,cT,bS,w64_succ (show k < 4611686018427387904 by omega)]
  by_cases d1:minI x.X x.Y < -1
  ·rw [dT d1,dF (show ¬ diffOk (fl.length:Int) x by rw [minI_lt] at d1;unfold diffOk;omega)];rfl
  by_cases d2:maxI x.X x.Y≥(fl.length:Int)
  ·rw [dF d1,dT d2,dF (show ¬ diffOk (fl.length:Int) x by rw [maxI_ge] at d2;unfold diffOk;omega)];rfl
  by_cases d3:x.C < -20000
  ·rw [dF d1,dF d2,dT d3,dF (show ¬ diffOk (fl.length:Int) x by unfold diffOk;omega)];rfl
  by_cases d4:x.C > 20000
  ·rw [dF d1,dF d2,dF d3,dT d4,dF (show ¬ diffOk (fl.length:Int) x by unfold diffOk;omega)];rfl
  rw [dF d1,dF d2,dF d3,dF d4,dT (show diffOk (fl.length:Int) x by rw [minI_lt] at d1;rw [maxI_ge] at d2;unfold diffOk;omega)];rfl
 ·intro n k hk
  simp only [z105_l6,lt_f hk,cF]
theorem goodGuard_eq (hN:4194304 < N) (l:List T0) (hl:l.length≤1000) (hd:∀ d∈l,SizeD d) (g:T3) (h1:g.Diffs.length≤4194304) (h2:g.Equals.length≤4194304):z119 N l g=some (guardV (flat l) g):=by
 unfold z119 guardV
 rw [vars_eq hN l hl hd,bS]
 rw [allV_from (fun d _=>decide (diffOk ((flat l).length:Int) d)) (xs:=g.Diffs) (F:=z119_l4 N l g ((flat l).length:Int)) (e:=z119_k3 N l g) (by omega)]
 ·unfold z119_k3
  rw [allV_from (fun e _=>textV (flat l) e.1 && textV (flat l) e.2) (xs:=g.Equals) (F:=z119_l2 N l g) (e:=z119_k1 g) (by omega)]
  ·have hk1:z119_k1 g=some (decide (g.Diffs.length≤20∧g.Equals.length≤20)):=by
    unfold z119_k1
    by_cases c1:(g.Diffs.length:Int)≤20
    ·rw [dT c1,cT]
     congr 1
     rw [decide_eq_decide];omega
    ·rw [dF c1,dF (show ¬ (g.Diffs.length≤20∧g.Equals.length≤20) by omega)];rfl
   rw [hk1]
   cases allV (fun d _=>decide (diffOk ((flat l).length:Int) d)) g.Diffs 0<;>cases allV (fun e _=>textV (flat l) e.1 && textV (flat l) e.2) g.Equals 0<;>cases decide (g.Diffs.length≤20∧g.Equals.length≤20)<;>rfl
  ·intro n k x hk hx
   simp only [z119_l2,lt_t hk,cT,idx_nat,hx,bS,text_eq hN l hl hd,w64_succ (show k < 4611686018427387904 by omega)]
   cases textV (flat l) x.1<;>cases textV (flat l) x.2<;>rfl
  ·intro n k hk
   simp only [z119_l2,lt_f hk,cF]
 ·intro n k x hk hx
  simp only [z119_l4,lt_t hk,idx_nat,hx,cT,bS,w64_succ (show k < 4611686018427387904 by omega)]
  by_cases d1:x.X < -1
  ·rw [dT d1,dF (show ¬ diffOk ((flat l).length:Int) x by unfold diffOk;omega)];rfl
  by_cases d2:x.X≥((flat l).length:Int)
  ·rw [dF d1,dT d2,dF (show ¬ diffOk ((flat l).length:Int) x by unfold diffOk;omega)];rfl
  by_cases d3:x.Y < -1
  ·rw [dF d1,dF d2,dT d3,dF (show ¬ diffOk ((flat l).length:Int) x by unfold diffOk;omega)];rfl
  by_cases d4:x.Y≥((flat l).length:Int)
  ·rw [dF d1,dF d2,dF d3,dT d4,dF (show ¬ diffOk ((flat l).length:Int) x by unfold diffOk;omega)];rfl
  by_cases d5:x.C < -20000
  ·rw [dF d1,dF d2,dF d3,dF d4,dT d5,dF (show ¬ diffOk ((flat l).length:Int) x by unfold diffOk;omega)];rfl
  by_cases d6:x.C > 20000
  ·rw [dF d1,dF d2,dF d3,dF d4,dF d5,dT d6,dF (show ¬ diffOk ((flat l).length:Int) x by unfold diffOk;omega)];rfl
  rw [dF d1,dF d2,dF d3,dF d4,dF d5,dF d6,dT (show diffOk ((flat l).length:Int) x by unfold diffOk;omega)];rfl
 ·intro n k hk
  simp only [z119_l4,lt_f hk,cF]
def sortOk (s:T4):Prop:=(s.Kind=1∧-1000≤s.Lo∧s.Lo≤s.Hi∧s.Hi≤1000)∨(s.Kind=2∧0≤s.Lo∧s.Lo≤s.Hi∧s.Hi≤40)
instance (s:T4):Decidable (sortOk s):=by unfold sortOk;infer_instance
theorem three (a b c:Prop) [Decidable a] [Decidable b] [Decidable c]:(bif decide a then (bif decide b then some (decide c) else some false) else some false)=some (decide (a∧b∧c)):=by
 by_cases ha:a<;>by_cases hb:b<;>simp [ha,hb]
theorem sorted_eq (s:T4):z102 N s=some (decide (sortOk s)):=by
 unfold z102
 rw [three,three]
 by_cases h1:s.Kind=1
 ·rw [show (s.Kind==1)=true by simp [h1],cT];congr 1;rw [decide_eq_decide];unfold sortOk;omega
 ·rw [show (s.Kind==1)=false by simp [h1],cF]
  by_cases h2:s.Kind=2
  ·rw [show (s.Kind==2)=true by simp [h2],cT];congr 1;rw [decide_eq_decide];unfold sortOk;omega
  ·rw [show (s.Kind==2)=false by simp [h2],cF,dF (show ¬ sortOk s by unfold sortOk;omega)]
theorem goodSort_eq (s:T4):z116 N s=some (decide (sortOk s)):=by
 unfold z116 z116_k1
 rw [three,three]
 by_cases h1:s.Kind=1
 ·rw [show (s.Kind==1)=true by simp [h1],show (s.Kind==2)=false by simp [h1]];simp only [cT,cF];congr 1;rw [decide_eq_decide];unfold sortOk;omega
 ·rw [show (s.Kind==1)=false by simp [h1]]
  by_cases h2:s.Kind=2
  ·rw [show (s.Kind==2)=true by simp [h2]];simp only [cT,cF];congr 1;rw [decide_eq_decide];unfold sortOk;omega
  ·rw [show (s.Kind==2)=false by simp [h2]];simp only [cF];rw [dF (show ¬ sortOk s by unfold sortOk;omega)]
end Gp
end
section
namespace Gp
open Go Go.Kx Gx
variable {N:Nat}
structure NameD (x:T0):Prop where
 n:x.Name.size≤4000000
 f:∀ f∈x.Fields,f.Name.size≤4000000
def fieldV (x:T0) (f:T2) (j:Nat):Bool:=isWord f.Name && (decide (sortOk f.Sort') && !((x.Fields.take j).any fun y=>eqStr y.Name f.Name))
def declV (fl:List T2) (l:List T0) (x:T0) (k:Nat):Bool :=
 pathV x.Name && (decide (x.Fields.length≤4) && (decide (x.First=((flat (l.take k)).length:Int)) && (!((l.take k).any fun y=>eqStr y.Name x.Name) && (allV (fieldV x) x.Fields 0 && guardV fl x.Guard))))
def validD (l:List T0):Bool:=decide (l.length≤40) && (decide ((flat l).length≤24) && allV (declV (flat l) l) l 0)
theorem containsD_eq (hN:4194304 < N) (l:List T0) (hl:l.length≤4194304) (x:T0):z100_4 N l x=some (l.any fun y=>eqStr y.Name x.Name):=by
 unfold z100_4 z43_3
 rw [look l hl (fun y k r=>bif eqStr y.Name x.Name then some k else r) (z43_3_l2 N l x) (some (-1)) hN]
 ·obtain ⟨i,h1,h2⟩:=whereV_any (fun y:T0=>eqStr y.Name x.Name) l 0
  rw [h1,bS,h2]
 ·intro n k y hk hy
  simp only [z43_3_l2,lt_t hk,idx_nat,hy,cT,bS,z101_2,eqStr]
 ·intro n k hk
  simp only [z43_3_l2,lt_f hk,cF,z43_3_k1]
theorem containsF_eq (hN:4194304 < N) (l:List T2) (hl:l.length≤4194304) (x:T2):z103_7 N l x=some (l.any fun y=>eqStr y.Name x.Name):=by
 unfold z103_7 z45_6
 rw [look l hl (fun y k r=>bif eqStr y.Name x.Name then some k else r) (z45_6_l2 N l x) (some (-1)) hN]
 ·obtain ⟨i,h1,h2⟩:=whereV_any (fun y:T2=>eqStr y.Name x.Name) l 0
  rw [h1,bS,h2]
 ·intro n k y hk hy
  simp only [z45_6_l2,lt_t hk,idx_nat,hy,cT,bS,z104_5,eqStr]
 ·intro n k hk
  simp only [z45_6_l2,lt_f hk,cF,z45_6_k1]
theorem flat_next {l:List T0} {k:Nat} {x:T0} (h:l[k]? = some x):(flat (l.take (k+1))).length=(flat (l.take k)).length+x.Fields.length:=by
 rw [List.take_add_one,h]
 show (flat (l.take k++[x])).length=_
 rw [flat_app,lA];simp [flat]
theorem flat_take_le (l:List T0) (k:Nat):(flat (l.take k)).length≤(flat l).length:=by
 have:flat l=flat (l.take k)++flat (l.drop k):=by rw [← flat_app,List.take_append_drop]
 rw [this,lA];omega
theorem valid_eq (hN:4194304 < N) (l:List T0) (hl:l.length≤4194304) (hd:∀ d∈l,SizeD d) (hn:∀ d∈l,NameD d):z48 N l=some (validD l):=by
 unfold z48 validD
 by_cases c1:(l.length:Int) > 40
 ·rw [dT c1,dF (show ¬ l.length≤40 by omega)];rfl
 rw [dF c1,dT (show l.length≤40 by omega),fields_eq hN l (by omega) hd]
 simp only [cF,bS,Bool.true_and]
 by_cases c2:((flat l).length:Int) > 24
 ·rw [dT c2,dF (show ¬ (flat l).length≤24 by omega)];rfl
 rw [dF c2,dT (show (flat l).length≤24 by omega)]
 simp only [cF,Bool.true_and]
 have hfl:=flat_le l hd
 have h:=allV_from (declV (flat l) l) (xs:=l) (F:=fun n i=>z48_l2 N l (flat l) n ((flat (l.take i.toNat)).length:Int) i) (e:=some true) (n:=N) (by omega) (by
  intro n k x hk hx
  show z48_l2 N l (flat l) (n+1) ((flat (l.take k)).length:Int) (k:Int)=bif declV (flat l) l x k then z48_l2 N l (flat l) n ((flat (l.take (k+1))).length:Int) ((k+1:Nat):Int) else some false
  have hxm:x∈l:=List.mem_of_getElem? hx
  have sx:=hd x hxm
  have nx:=hn x hxm
  have ht:lsl l none (some (k:Int))=some (l.take k):=lsl_to (A:=l.take k) (B:=l.drop k) (List.take_append_drop k l).symm (by simp;omega)
  have hft:=flat_take_le l k
  have hnext:w64 (((flat (l.take k)).length:Int)+(x.Fields.length:Int))=((flat (l.take (k+1))).length:Int):=by rw [flat_next hx,w64_id (by have:=sx.f;omega) (by have:=sx.f;omega)];omega
  have inner:z48_l4 N (flat l) ((flat (l.take k)).length:Int) (k:Int) (z48_l2 N l (flat l) n) x N (0:Int)=bif allV (fieldV x) x.Fields 0 then z48_k3 N (flat l) ((flat (l.take k)).length:Int) (k:Int) (z48_l2 N l (flat l) n) x else some false:=by
   refine allV_from (fieldV x) (by have:=sx.f;omega) ?_ ?_
   ·intro m j f hj hf
    have sf:=sx.f
    have hw:=(word_eq hN f.Name (by have:=nx.f f (List.mem_of_getElem? hf);omega)).1
    have ht':lsl x.Fields none (some (j:Int))=some (x.Fields.take j):=lsl_to (A:=x.Fields.take j) (B:=x.Fields.drop j) (List.take_append_drop j _).symm (by simp;omega)
    have hc:=containsF_eq hN (x.Fields.take j) (by simp;omega) f
    simp only [z48_l4,lt_t hj,cT,idx_nat,hf,bS,hw,sorted_eq,ht',hc,fieldV]
    rw [w64_succ (by omega)]
    cases isWord f.Name<;>cases decide (sortOk f.Sort')<;>cases ((x.Fields.take j).any fun y=>eqStr y.Name f.Name)<;>rfl
   ·intro m j hj
    simp only [z48_l4,lt_f hj,cF]
  have hc:=containsD_eq hN (l.take k) (by simp;omega) x
  simp only [z48_l2,lt_t hk,cT,idx_nat,hx,bS,path_eq hN,ht,hc,inner,z48_k3,guarded_eq hN,declV,hnext]
  rw [w64_succ (by omega)]
  have e1:decide ((x.Fields.length:Int) > 4) = !decide (x.Fields.length≤4):=by
   by_cases q:x.Fields.length≤4
   ·rw [dT q,dF (by omega)];rfl
   ·rw [dF q,dT (by omega)];rfl
  have e2:(x.First != ((flat (l.take k)).length:Int)) = !decide (x.First=((flat (l.take k)).length:Int)):=by
   by_cases q:x.First=((flat (l.take k)).length:Int)
   ·rw [dT q];simp [q]
   ·rw [dF q];simp [q]
  rw [e1,e2]
  cases pathV x.Name<;>cases decide (x.Fields.length≤4)<;>cases decide (x.First=((flat (l.take k)).length:Int))<;>cases ((l.take k).any fun y=>eqStr y.Name x.Name)<;>cases allV (fieldV x) x.Fields 0<;>cases guardV (flat l) x.Guard<;>rfl) (by
  intro n k hk
  show z48_l2 N l (flat l) (n+1) ((flat (l.take k)).length:Int) (k:Int)=some true
  simp only [z48_l2,lt_f hk,cF,z48_k1])
 have h':z48_l2 N l (flat l) N (0:Int) (0:Int)=bif allV (declV (flat l) l) l 0 then some true else some false:=h
 rw [h']
 cases allV (declV (flat l) l) l 0<;>rfl
theorem allV_not_any {α:Type} (f:α→Bool):∀ (l:List α) (k:Nat),allV (fun y _ => !f y) l k = !(l.any f)
 | [],_=>rfl
 | x::l,k=>by
  show (!f x && allV _ l (k+1))=_
  rw [allV_not_any f l,List.any_cons]
  cases f x<;>rfl
theorem take_get {α:Type} {l:List α} {k i:Nat} {x:α} (h:(l.take k)[i]? = some x):l[i]? = some x∧i < k:=by
 rw [List.getElem?_take] at h
 split at h
 ·exact ⟨h,by assumption⟩
 ·cases h
theorem refValid_eq (hN:4194304 < N) (l:List T0) (hl:l.length≤4194304) (hd:∀ d∈l,SizeD d) (hn:∀ d∈l,NameD d):z64 N l=some (validD l):=by
 unfold z64 validD
 by_cases c1:(l.length:Int) > 40
 ·rw [dT c1,dF (show ¬ l.length≤40 by omega)];rfl
 rw [dF c1,dT (show l.length≤40 by omega),vars_eq hN l (by omega) hd]
 simp only [cF,bS,Bool.true_and]
 by_cases c2:((flat l).length:Int) > 24
 ·rw [dT c2,dF (show ¬ (flat l).length≤24 by omega)];rfl
 rw [dF c2,dT (show (flat l).length≤24 by omega)]
 simp only [cF,Bool.true_and]
 have hfl:=flat_le l hd
 have h:=allV_from (declV (flat l) l) (xs:=l) (F:=fun n i=>z64_l2 N l n ((flat (l.take i.toNat)).length:Int) i) (e:=some true) (n:=N) (by omega) (by
  intro n k x hk hx
  show z64_l2 N l (n+1) ((flat (l.take k)).length:Int) (k:Int)=bif declV (flat l) l x k then z64_l2 N l n ((flat (l.take (k+1))).length:Int) ((k+1:Nat):Int) else some false
  have hxm:x∈l:=List.mem_of_getElem? hx
  have sx:=hd x hxm
  have nx:=hn x hxm
  have hft:=flat_take_le l k
  have hnext:w64 (((flat (l.take k)).length:Int)+(x.Fields.length:Int))=((flat (l.take (k+1))).length:Int):=by rw [flat_next hx,w64_id (by have:=sx.f;omega) (by have:=sx.f;omega)];omega
  have inner8:z64_l8 N l ((flat (l.take k)).length:Int) (k:Int) (z64_l2 N l n) x N (0:Int)=bif allV (fun y _ => !eqStr y.Name x.Name) (l.take k) 0 then z64_k7 N l ((flat (l.take k)).length:Int) (k:Int) (z64_l2 N l n) x else some false:=by
   refine allV_from (fun (y:T0) _ => !eqStr y.Name x.Name) (by simp;omega) ?_ ?_
   ·intro m j y hj hy
    obtain ⟨hy',hjk⟩:=take_get hy
    simp only [z64_l8,lt_t hjk,cT,idx_nat,hy',bS,eqStr]
    rw [w64_succ (by omega)]
    cases (y.Name.toList==x.Name.toList)<;>rfl
   ·intro m j hj
    have:k≤j:=by simp at hj;omega
    simp only [z64_l8,lt_f this,cF]
  have inner4:z64_l4 N l ((flat (l.take k)).length:Int) (k:Int) (z64_l2 N l n) x N (0:Int)=bif allV (fieldV x) x.Fields 0 then z64_k3 N l ((flat (l.take k)).length:Int) (k:Int) (z64_l2 N l n) x else some false:=by
   refine allV_from (fieldV x) (by have:=sx.f;omega) ?_ ?_
   ·intro m j f hj hf
    have sf:=sx.f
    have hw:=(word_eq hN f.Name (by have:=nx.f f (List.mem_of_getElem? hf);omega)).2
    have inner6:z64_l6 x (j:Int) (z64_l4 N l ((flat (l.take k)).length:Int) (k:Int) (z64_l2 N l n) x m) N (0:Int)=bif allV (fun y _ => !eqStr y.Name f.Name) (x.Fields.take j) 0 then z64_k5 (j:Int) (z64_l4 N l ((flat (l.take k)).length:Int) (k:Int) (z64_l2 N l n) x m) else some false:=by
     refine allV_from (fun (y:T2) _ => !eqStr y.Name f.Name) (by simp;omega) ?_ ?_
     ·intro p i y hi hy
      obtain ⟨hy',hij⟩:=take_get hy
      simp only [z64_l6,lt_t hij,cT,idx_nat,hy',hf,bS,eqStr]
      rw [w64_succ (by omega)]
      cases (y.Name.toList==f.Name.toList)<;>rfl
     ·intro p i hi
      have:j≤i:=by simp at hi;omega
      simp only [z64_l6,lt_f this,cF]
    simp only [z64_l4,lt_t hj,cT,idx_nat,hf,bS,hw,goodSort_eq,inner6,fieldV,z64_k5,allV_not_any]
    rw [w64_succ (by omega)]
    cases isWord f.Name<;>cases decide (sortOk f.Sort')<;>cases ((x.Fields.take j).any fun y=>eqStr y.Name f.Name)<;>rfl
   ·intro m j hj
    simp only [z64_l4,lt_f hj,cF]
  have hg:=goodGuard_eq hN l (by omega) hd x.Guard sx.d sx.e
  simp only [z64_l2,lt_t hk,cT,idx_nat,hx,bS,inner8,inner4,z64_k7,z64_k3,refPath_eq hN x.Name nx.n,hg,declV,hnext,allV_not_any]
  rw [w64_succ (by omega)]
  have e1:decide ((x.Fields.length:Int) > 4) = !decide (x.Fields.length≤4):=by
   by_cases q:x.Fields.length≤4
   ·rw [dT q,dF (by omega)];rfl
   ·rw [dF q,dT (by omega)];rfl
  have e2:(x.First != ((flat (l.take k)).length:Int)) = !decide (x.First=((flat (l.take k)).length:Int)):=by
   by_cases q:x.First=((flat (l.take k)).length:Int)
   ·rw [dT q];simp [q]
   ·rw [dF q];simp [q]
  rw [e1,e2]
  cases pathV x.Name<;>cases decide (x.Fields.length≤4)<;>cases decide (x.First=((flat (l.take k)).length:Int))<;>cases ((l.take k).any fun y=>eqStr y.Name x.Name)<;>cases allV (fieldV x) x.Fields 0<;>cases guardV (flat l) x.Guard<;>rfl) (by
  intro n k hk
  show z64_l2 N l (n+1) ((flat (l.take k)).length:Int) (k:Int)=some true
  simp only [z64_l2,lt_f hk,cF,z64_k1])
 have h':z64_l2 N l N (0:Int) (0:Int)=bif allV (declV (flat l) l) l 0 then some true else some false:=h
 rw [h']
 cases allV (declV (flat l) l) l 0<;>rfl
end Gp
end
section
namespace Gp
open Go Go.Kx Gx
variable {N:Nat}
theorem Dist.le {E:List (Int × Int)} {S:Nat} {e:Int} {L M:List Int} (hL:Dist E S e L) (hM:Dist E S e M):∀ (k:Nat) (v:Int),idx L v=some (k:Int)→∃ m,idx M v=some m∧0≤m∧m≤(k:Int):=by
 intro k
 induction k with
 | zero =>
  intro v hv
  have:=hL.zero v hv
  subst this
  exact ⟨0,hM.root,by omega,by omega⟩
 | succ k ih =>
  intro v hv
  obtain ⟨u,hu,hl⟩:=hL.pred v _ hv (by omega)
  obtain ⟨m,m1,m2,m3⟩:=ih u (by rw [hl];congr 1;omega)
  obtain ⟨d,d1,d2,d3⟩:=hM.succ u v m hu m1 m2
  exact ⟨d,d1,d2,by omega⟩
end Gp
end
section
namespace Gp
open Go Go.Kx Gx
variable {N:Nat}
theorem few_loop (l:List T0) (hl:l.length≤4194304):∀ (r:List T0) (n k:Nat) (a:Int),l.drop k=r→r.length < n→∃ b,z12_l2 l n a (k:Int)=some b∧(b=true→l.length≤60):=by
 intro r
 induction r with
 | nil =>
  intro n k a h hn
  obtain ⟨n,rfl⟩:∃ m,n=m+1:=⟨n-1,by simp at hn;omega⟩
  unfold z12_l2
  rw [lt_f (drop_nil h)]
  simp only [cF,z12_k1]
  by_cases h1:l.length≤60
  ·have:decide ((l.length:Int)≤60)=true:=by simp;omega
   rw [this]
   exact ⟨_,rfl,fun _=>h1⟩
  ·have:decide ((l.length:Int)≤60)=false:=by simp;omega
   rw [this]
   exact ⟨false,rfl,fun h=>by cases h⟩
 | cons x r ih =>
  intro n k a h hn
  obtain ⟨n,rfl⟩:∃ m,n=m+1:=⟨n-1,by simp at hn;omega⟩
  obtain ⟨h1,h2,h3⟩:=drop_cons h
  unfold z12_l2
  rw [lt_t h1,w64_succ (by omega)]
  simp only [cT,idx_nat,h2,bS]
  exact ih n (k+1) _ h3 (by simp at hn;omega)
end Gp
end
section
namespace Gp
open Go Go.Kx Gx
variable {N:Nat}
def badB (b:UInt8):Bool:=decide (b.toNat < 32) || decide (126 < b.toNat)
def vnum (v:T5):Int:=bif v.Kind==2 then (v.S.size:Int) else v.N
def fitsV (s:T4) (v:T5):Bool :=
 v.Kind==s.Kind && (decide (s.Lo≤vnum v) && (decide (vnum v≤s.Hi) && (bif v.Kind==1 then v.S.toList==(str []).toList else v.N==0 && !((bs v.S).any badB))))
theorem get_bs (s:ByteArray) (i:Nat) (h:i < (bs s).length):s.get! i=(bs s)[i]:=by
 have h':i < s.data.size:=by simpa [bs] using h
 show s.data[i]! = _
 rw [getElem!_pos s.data i h']
 simp [bs]
theorem decode_lo (s:ByteArray) (i:Nat) (b:UInt8) (h:(bs s)[i]? = some b) (hb:b.toNat < 128):Utf8.decode s i=(b.toNat,1):=by
 obtain ⟨hi,he⟩:=List.getElem?_eq_some_iff.1 h
 have h0:s.get! (i+0)=b:=by rw [Nat.add_zero,get_bs s i hi,he]
 unfold Utf8.decode
 simp only [h0,hb,if_true]
theorem decode_hi (s:ByteArray) (i:Nat) (b:UInt8) (h:(bs s)[i]? = some b) (hb:¬ b.toNat < 128):126 < (Utf8.decode s i).1:=by
 obtain ⟨hi,he⟩:=List.getElem?_eq_some_iff.1 h
 have h0:s.get! (i+0)=b:=by rw [Nat.add_zero,get_bs s i hi,he]
 unfold Utf8.decode Utf8.runeError
 simp only [h0,hb,if_false]
 split
 ·split
  ·simp only [];omega
  ·simp only [];omega
 ·split
  ·split
   ·rename_i hc
    simp only [Bool.and_eq_true,decide_eq_true_eq] at hc
    have:=hc.1
    simp only [] at *;omega
   ·simp only [];omega
  ·split
   ·split
    ·rename_i hc
     simp only [Bool.and_eq_true,decide_eq_true_eq] at hc
     have:=hc.1
     simp only [] at *;omega
    ·simp only [];omega
   ·simp only [];omega
theorem runes_loop (s:ByteArray):∀ (r:List UInt8) (n i:Nat),(bs s).drop i=r→r.length < n→∃ z,z195_8_l2 N s true n i=some z∧decide (z≥0)=r.any badB:=by
 intro r
 induction r with
 | nil =>
  intro n i h hn
  obtain ⟨n,rfl⟩:∃ m,n=m+1:=⟨n-1,by simp at hn;omega⟩
  have hi:=drop_nil h
  unfold z195_8_l2
  have:decide (i < s.size)=false:=by rw [size_bs];simp;omega
  rw [this]
  exact ⟨-1,rfl,rfl⟩
 | cons b r ih =>
  intro n i h hn
  obtain ⟨n,rfl⟩:∃ m,n=m+1:=⟨n-1,by simp at hn;omega⟩
  obtain ⟨h1,h2,h3⟩:=drop_cons h
  simp only [List.length_cons] at hn
  unfold z195_8_l2
  have:decide (i < s.size)=true:=by rw [size_bs];simp;omega
  rw [this,List.any_cons]
  simp only [cT,z107]
  by_cases hb:b.toNat < 128
  ·rw [decode_lo s i b h2 hb]
   by_cases c1:b.toNat < 32
   ·have e1:decide (((b.toNat:Nat):Int) < 32)=true:=by simp;omega
    have e2:badB b=true:=by simp [badB,c1]
    rw [e1,e2]
    exact ⟨(i:Int),rfl,by simp⟩
   ·have e1:decide (((b.toNat:Nat):Int) < 32)=false:=by simp;omega
    rw [e1]
    simp only [cF,bS]
    by_cases c2:126 < b.toNat
    ·have e3:decide (((b.toNat:Nat):Int) > 126)=true:=by simp;omega
     have e2:badB b=true:=by simp [badB,c2]
     rw [e3,e2]
     exact ⟨(i:Int),rfl,by simp⟩
    ·have e3:decide (((b.toNat:Nat):Int) > 126)=false:=by simp;omega
     have e2:badB b=false:=by simp [badB];omega
     rw [e3,e2]
     exact ih n (i+1) h3 (by omega)
  ·have hd:=decode_hi s i b h2 hb
   have e2:badB b=true:=by simp [badB];omega
   generalize (Utf8.decode s i).1=c at hd ⊢
   have e1:decide ((c:Int) < 32)=false:=by simp;omega
   have e3:decide ((c:Int) > 126)=true:=by simp;omega
   rw [e1,e2]
   simp only [cF,bS]
   rw [e3]
   exact ⟨(i:Int),rfl,by simp⟩
theorem runes_eq (hN:4194304 < N) (s:ByteArray) (hs:s.size≤4194304):z106_10 N s=some ((bs s).any badB):=by
 obtain ⟨z,h1,h2⟩:=runes_loop (N:=N) s (bs s) N 0 rfl (by rw [size_bs] at hs;omega)
 unfold z106_10 z165_9 z195_8
 rw [h1]
 simp only [bS]
 rw [h2]
theorem number_eq (v:T5):z16 N v=some (vnum v):=by
 unfold z16 vnum
 cases (v.Kind==2)<;>rfl
theorem refNumber_eq (v:T5):z31 N v=some (vnum v):=number_eq (N:=N) v
theorem fits_eq (hN:4194304 < N) (s:T4) (v:T5) (hv:v.S.size≤4194304):z50 N s v=some (fitsV s v):=by
 unfold z50 fitsV
 rw [number_eq]
 simp only [bS,bne]
 cases h1:v.Kind==s.Kind with
 | false=>rfl
 | true =>
  simp only [Bool.not_true,cF,Bool.true_and]
  by_cases h2:vnum v < s.Lo
  ·rw [dT h2,dF (show ¬ s.Lo≤vnum v by omega)];rfl
  ·rw [dF h2,dT (show s.Lo≤vnum v by omega)]
   simp only [cF,Bool.true_and]
   by_cases h3:vnum v > s.Hi
   ·rw [dT h3,dF (show ¬ vnum v≤s.Hi by omega)];rfl
   ·rw [dF h3,dT (show vnum v≤s.Hi by omega)]
    simp only [cF,Bool.true_and]
    cases h4:v.Kind==1 with
    | true=>rfl
    | false =>
     simp only [cF]
     cases h5:v.N==0 with
     | false=>rfl
     | true =>
      simp only [cT,Bool.true_and]
      rw [runes_eq hN v.S hv];rfl
theorem refBytes_loop (s:T4) (v:T5) (hv:v.S.size≤4194304):∀ (r:List UInt8) (n k:Nat),(bs v.S).drop k=r→r.length < n→z66_l3 N s v n (k:Int)=bif r.any badB then some false else z66_k2 N s v:=by
 intro r
 induction r with
 | nil =>
  intro n k h hn
  obtain ⟨n,rfl⟩:∃ m,n=m+1:=⟨n-1,by simp at hn;omega⟩
  unfold z66_l3
  rw [slt_f (drop_nil h)];rfl
 | cons b r ih =>
  intro n k h hn
  obtain ⟨n,rfl⟩:∃ m,n=m+1:=⟨n-1,by simp at hn;omega⟩
  obtain ⟨h1,h2,h3⟩:=drop_cons h
  simp only [List.length_cons] at hn
  unfold z66_l3
  have hk:k < 4194304:=by rw [size_bs] at hv;omega
  rw [slt_t h1,sidx_bs,h2,w64_succ (by omega),List.any_cons]
  simp only [cT,Option.map_some,bS]
  by_cases c1:b.toNat < 32
  ·rw [dT (show ((b.toNat:Nat):Int) < 32 by omega)]
   have:badB b=true:=by simp [badB,c1]
   rw [this];rfl
  ·rw [dF (show ¬ ((b.toNat:Nat):Int) < 32 by omega)]
   by_cases c2:126 < b.toNat
   ·rw [dT (show ((b.toNat:Nat):Int) > 126 by omega)]
    have:badB b=true:=by simp [badB,c2]
    rw [this];rfl
   ·rw [dF (show ¬ ((b.toNat:Nat):Int) > 126 by omega)]
    have:badB b=false:=by simp [badB];omega
    rw [this]
    simp only [cF,Bool.false_or]
    exact ih n (k+1) h3 (by omega)
theorem empty_any (s:ByteArray) (h:(s.toList==(str []).toList)=true):(bs s).any badB=false:=by
 have h:=beq_iff_eq.1 h
 rw [toList_bs,toList_bs,bs_nil] at h
 rw [h];rfl
theorem refFits_eq (hN:4194304 < N) (s:T4) (hs:s.Kind=1∨s.Kind=2) (v:T5) (hv:v.S.size≤4194304):z66 N s v=some (fitsV s v):=by
 have hl:=refBytes_loop (N:=N) s v hv (bs v.S) N 0 rfl (by rw [size_bs] at hv;omega)
 have hl:z66 N s v=bif (bs v.S).any badB then some false else z66_k2 N s v:=hl
 rw [hl]
 have k1:∀ b,z66_k1 N s v b=some (!b && (v.Kind==s.Kind && (decide (s.Lo≤vnum v) && decide (vnum v≤s.Hi)))):=fun b=>by
  unfold z66_k1
  rw [refNumber_eq]
  simp only [bS,ge_iff_le]
  cases b<;>cases (v.Kind==s.Kind)<;>cases decide (s.Lo≤vnum v)<;>rfl
 unfold z66_k2 fitsV
 rw [k1,k1,k1]
 cases hA:(bs v.S).any badB with
 | true =>
  simp only [cT,Bool.not_true,Bool.and_false]
  cases h4:v.Kind==1 with
  | false=>simp
  | true =>
   cases h5:v.S.toList==(str []).toList with
   | false=>simp
   | true=>rw [empty_any v.S h5] at hA;cases hA
 | false =>
  simp only [cF,Bool.not_false,Bool.and_true]
  by_cases q2:v.Kind=2
  ·have e1:(v.Kind==1)=false:=by rw [q2];rfl
   have e2:(v.Kind==2)=true:=by rw [q2];rfl
   rw [e1,e2]
   simp only [bne]
   cases (v.N==0)<;>cases (v.Kind==s.Kind)<;>cases decide (s.Lo≤vnum v)<;>cases decide (vnum v≤s.Hi)<;>rfl
  ·have e2:(v.Kind==2)=false:=by simp [q2]
   rw [e2]
   by_cases q1:v.Kind=1
   ·have e1:(v.Kind==1)=true:=by rw [q1];rfl
    rw [e1]
    simp only [cF,cT]
    cases (v.S.toList==(str []).toList)<;>cases (v.Kind==s.Kind)<;>cases decide (s.Lo≤vnum v)<;>cases decide (vnum v≤s.Hi)<;>rfl
   ·have e1:(v.Kind==1)=false:=by simp [q1]
    have e3:(v.Kind==s.Kind)=false:=by
     rw [beq_eq_false_iff_ne]
     intro e;rcases hs with h | h<;>rw [h] at e
     ·exact q1 e
     ·exact q2 e
    rw [e1,e3];rfl
def zeroV (v:T5):Bool:=(v.Kind==0) && ((v.N==0) && ((v.S.toList==(str []).toList) && true))
def fitAt (fl:List T2) (v:T5) (i:Nat):Bool:=match fl[i]? with
 | some f=>fitsV f.Sort' v
 | none=>false
def knownV (fl:List T2) (ks:List T5):Bool:=decide (fl.length=ks.length) && allV (fun v i=>zeroV v || fitAt fl v i) ks 0
def properV (d:List T0) (label:Int) (ks:List T5):Bool:=decide (0≤label∧label < (d.length:Int)) && (validD d && knownV (flat d) ks)
def fitV (fs:List T2) (vs:List T5):Bool:=decide (fs.length=vs.length) && allV (fun v i=>fitAt fs v i) vs 0
theorem len_ne (a b:Nat):((a:Int) != (b:Int)) = !decide (a=b):=by
 by_cases h:a=b
 ·subst h;simp
 ·simp [h];omega
theorem proper_loop (hN:4194304 < N) (fl:List T2) (ks:List T5) (hl:fl.length=ks.length) (hk:ks.length≤4194304) (hs:∀ v∈ks,v.S.size≤4194304):z13_l2 N ks fl N (0:Int)=some (allV (fun v i=>zeroV v || fitAt fl v i) ks 0):=by
 have h:=allV_from (fun (v:T5) i=>zeroV v || fitAt fl v i) (xs:=ks) (F:=z13_l2 N ks fl) (e:=some true) (n:=N) (by omega) (by
  intro n k x hk' hx
  obtain ⟨f,hf⟩:∃ f,fl[k]? = some f:=⟨fl[k],by simp [hl,hk']⟩
  rw [z13_l2,lt_t hk',w64_succ (by omega)]
  simp only [cT,idx_nat,hx,bS,hf,fitAt]
  rw [fits_eq hN _ _ (hs x (List.mem_of_getElem? hx))]
  show (bif !(zeroV x) then _ else _)=_
  cases zeroV x<;>cases fitsV f.Sort' x<;>rfl) (by
  intro n k hk'
  unfold z13_l2
  rw [lt_f hk'];rfl)
 rw [h]
 cases allV (fun (v:T5) i=>zeroV v || fitAt fl v i) ks 0<;>rfl
theorem proper_eq (hN:4194304 < N) (d:List T0) (hl:d.length≤1000) (hd:∀ x∈d,SizeD x) (hn:∀ x∈d,NameD x) (label:Int) (ks:List T5) (hk:ks.length≤4194304) (hs:∀ v∈ks,v.S.size≤4194304) :
  z13 N d label ks=some (properV d label ks):=by
 unfold z13 properV
 rw [valid_eq hN d (by omega) hd hn,fields_eq hN d hl hd]
 by_cases c1:label < 0
 ·rw [dT c1,dF (show ¬ (0≤label∧label < (d.length:Int)) by omega)];rfl
 ·rw [dF c1]
  by_cases c2:label≥(d.length:Int)
  ·rw [dT c2,dF (show ¬ (0≤label∧label < (d.length:Int)) by omega)];rfl
  ·rw [dF c2,dT (show (0≤label∧label < (d.length:Int)) by omega)]
   cases validD d with
   | false=>rfl
   | true =>
    simp only [cF,bS,Bool.not_true,Bool.true_and,knownV]
    rw [len_ne]
    by_cases c3:(flat d).length=ks.length
    ·rw [dT c3]
     simp only [Bool.not_true,cF,Bool.true_and]
     exact proper_loop hN _ _ c3 hk hs
    ·rw [dF c3];rfl
theorem fit_eq (hN:4194304 < N) (fs:List T2) (vs:List T5) (hk:vs.length≤4194304) (hs:∀ v∈vs,v.S.size≤4194304):z23 N fs vs=some (fitV fs vs):=by
 unfold z23 fitV
 rw [len_ne]
 by_cases c3:fs.length=vs.length
 ·rw [dT c3]
  simp only [Bool.not_true,cF,Bool.true_and]
  have h:=allV_from (fun (f:T2) i=>match vs[i]? with | some v=>fitsV f.Sort' v | none=>false) (xs:=fs) (F:=z23_l2 N fs vs) (e:=some true) (n:=N) (by omega) (by
   intro n k x hk' hx
   obtain ⟨v,hv⟩:∃ v,vs[k]? = some v:=⟨vs[k],by simp [← c3,hk']⟩
   rw [z23_l2,lt_t hk',w64_succ (by omega)]
   simp only [cT,idx_nat,hx,bS,hv]
   rw [fits_eq hN _ _ (hs v (List.mem_of_getElem? hv))]
   cases fitsV x.Sort' v<;>rfl) (by
   intro n k hk'
   unfold z23_l2
   rw [lt_f hk'];rfl)
  rw [h]
  have e:allV (fun (f:T2) i=>match vs[i]? with | some v=>fitsV f.Sort' v | none=>false) fs 0=allV (fun v i=>fitAt fs v i) vs 0:=by
   rw [Bool.eq_iff_iff,allV_iff,allV_iff]
   constructor
   ·intro q i v hv
    obtain ⟨f,hf⟩:∃ f,fs[i]? = some f:=⟨fs[i]'(by rw [c3];exact (List.getElem?_eq_some_iff.1 hv).1),by simp⟩
    have:=q i f hf
    simp only [Nat.zero_add] at this ⊢
    rw [hv] at this
    unfold fitAt;rw [hf];exact this
   ·intro q i f hf
    obtain ⟨v,hv⟩:∃ v,vs[i]? = some v:=⟨vs[i]'(by rw [← c3];exact (List.getElem?_eq_some_iff.1 hf).1),by simp⟩
    have:=q i v hv
    simp only [Nat.zero_add] at this ⊢
    unfold fitAt at this;rw [hf] at this
    rw [hv];exact this
  rw [e]
  cases allV (fun v i=>fitAt fs v i) vs 0<;>rfl
 ·rw [dF c3];rfl
def behindV (first:Nat) (vs ks:List T5):List T5:=ks.take first++vs++ks.drop (first+vs.length)
theorem behind_eq (x:T0) (vs ks:List T5) (first:Nat) (hf:x.First=(first:Int)) (hle:first+vs.length≤ks.length) (hk:ks.length≤4194304):z20 N x vs ks=some (behindV first vs ks):=by
 unfold z20 z63
 rw [appL_some (by simp;omega)]
 simp only [bS,List.nil_append]
 have hb:bnd (some x.First) none ks.length=some (first,ks.length):=by
  unfold bnd
  rw [hf]
  have h1:decide ((0:Int)≤(first:Int))=true:=by simp
  have h2:decide ((first:Int)≤(ks.length:Int))=true:=by simp;omega
  simp only [Option.getD_some,Option.getD_none,h1,h2,Bool.and_true,Bool.true_and,cT]
  simp
 unfold lsl cpL
 rw [hb]
 simp only [Option.map_some,bS]
 have hm:min vs.length (ks.length-first)=vs.length:=by omega
 rw [hm,List.take_length];rfl
theorem behind_len (first:Nat) (vs ks:List T5) (hle:first+vs.length≤ks.length):(behindV first vs ks).length=ks.length:=by
 unfold behindV;simp;omega
theorem behind_get (first:Nat) (vs ks:List T5) (hle:first+vs.length≤ks.length) (i:Nat):(behindV first vs ks)[i]? = if first≤i∧i < first+vs.length then vs[i-first]? else ks[i]? := by
 unfold behindV
 have ht:(ks.take first).length=first:=by rw [List.length_take];omega
 by_cases c1:i < first
 ·rw [if_neg (by omega),aA,List.getElem?_append_left (by omega),List.getElem?_take,if_pos c1]
 ·by_cases c2:i < first+vs.length
  ·rw [if_pos ⟨by omega,c2⟩,List.getElem?_append_left (by rw [lA,ht];omega),List.getElem?_append_right (by omega),ht]
  ·rw [if_neg (by omega),List.getElem?_append_right (by rw [lA,ht];omega),lA,ht,List.getElem?_drop]
   congr 1;omega
theorem valid_at {d:List T0} (hv:validD d=true) {i:Nat} {x:T0} (hx:d[i]? = some x):∃ first:Nat,x.First=(first:Int)∧first+x.Fields.length≤(flat d).length∧d.length≤40∧(flat d).length≤24∧declV (flat d) d x i=true:=by
 unfold validD at hv
 simp only [Bool.and_eq_true,decide_eq_true_eq] at hv
 obtain ⟨h1,h2,h3⟩:=hv
 rw [allV_iff] at h3
 have hd:=h3 i x hx
 rw [Nat.zero_add] at hd
 have hd0:=hd
 unfold declV at hd
 simp only [Bool.and_eq_true,decide_eq_true_eq] at hd
 refine ⟨(flat (d.take i)).length,hd.2.2.1,?_,h1,h2,hd0⟩
 have:=flat_next hx
 have:=flat_take_le d (i+1)
 omega
end Gp
end
section
namespace Gp
open Go Go.Kx Gx
variable {N:Nat}
structure SizeC (vs ks:List T5):Prop where
 v:∀ v∈vs,v.S.size≤4194304
 k:∀ v∈ks,v.S.size≤4194304
theorem idx_mem {α:Type} {L:List α} {v:Int} {x:α} (h:idx L v=some x):∃ i:Nat,v=(i:Int)∧L[i]? = some x:=by
 obtain ⟨h0,h1⟩:=idx_some h
 obtain ⟨i,rfl⟩:=Int.eq_ofNat_of_zero_le h0
 exact ⟨i,rfl,by rw [← idx_nat];exact h⟩
end Gp
end
section
namespace Gp
open Go Go.Kx Gx
variable {N:Nat}
def nvV (l:List T5) (x:Int):Int:=bif decide (x < 0) then 0 else match idx l x with
 | some v=>vnum v
 | none=>0
def unkV (l:List T5) (x:Int):Bool:=bif decide (x < 0) then false else match idx l x with
 | some v=>v.Kind==0
 | none=>true
def diffV (l:List T5) (d:T1):Bool := !(unkV l d.X) && (!(unkV l d.Y) && !(decide (w64 (nvV l d.X-nvV l d.Y) > d.C)))
def eqV (l:List T5) (e:Int × Int):Bool:=match idx l e.1 with
 | some a=>match idx l e.2 with
  | some b => !(a.Kind==0) && (!(b.Kind==0) && (a.S.toList==b.S.toList))
  | none=>false
 | none=>false
def keepsV (g:T3) (l:List T5):Bool:=allV (fun d _=>diffV l d) g.Diffs 0 && allV (fun e _=>eqV l e) g.Equals 0
structure InG (n:Nat) (g:T3):Prop where
 d:∀ d∈g.Diffs,d.X < (n:Int)∧d.Y < (n:Int)
 e:∀ e∈g.Equals,(0≤e.1∧e.1 < (n:Int))∧(0≤e.2∧e.2 < (n:Int))
 dl:g.Diffs.length≤20
 el:g.Equals.length≤20
theorem textV_in {fl:List T2} {x:Int} (h:textV fl x=true):0≤x∧x < (fl.length:Int):=by
 unfold textV at h
 cases hc:idx fl x with
 | none=>rw [hc] at h;cases h
 | some f=>exact idx_some hc
theorem inG_of {fl:List T2} {g:T3} (h:guardV fl g=true):InG fl.length g:=by
 unfold guardV at h
 simp only [Bool.and_eq_true,decide_eq_true_eq] at h
 obtain ⟨⟨h1,h2⟩,h3,h4⟩:=h
 rw [allV_iff] at h3 h4
 refine ⟨fun d hd=>?_,fun e he=>?_,h1,h2⟩
 ·obtain ⟨i,hi⟩:=List.mem_iff_getElem?.1 hd
  have:=of_decide_eq_true (h3 i d hi)
  exact ⟨this.2.1,this.2.2.2.1⟩
 ·obtain ⟨i,hi⟩:=List.mem_iff_getElem?.1 he
  have:=h4 i e hi
  simp only [Bool.and_eq_true] at this
  exact ⟨textV_in this.1,textV_in this.2⟩
theorem side (l:List T5) {x:Int} (hx:x < (l.length:Int)):(decide (x < 0)=true∧decide (x≥0)=false∧unkV l x=false∧nvV l x=0) ∨
  (decide (x < 0)=false∧decide (x≥0)=true∧∃ v,idx l x=some v∧unkV l x=(v.Kind==0)∧nvV l x=vnum v):=by
 by_cases h:x < 0
 ·left
  have e:decide (x < 0)=true:=dT h
  refine ⟨e,dF (by omega),?_,?_⟩
  ·unfold unkV;rw [e];rfl
  ·unfold nvV;rw [e];rfl
 ·right
  have e:decide (x < 0)=false:=dF h
  obtain ⟨v,hv⟩:=idx_lt (L:=l) (v:=x) (by omega) hx
  refine ⟨e,dT (by omega),v,hv,?_,?_⟩
  ·unfold unkV;rw [e,hv];rfl
  ·unfold nvV;rw [e,hv];rfl
theorem l6_eq (l:List T5) (k:Int) (ag:Int→Option Bool) (d:T1) (hX:d.X < (l.length:Int)) (hY:d.Y < (l.length:Int)) (n:Nat) :
  z22_l6 N l k ag d (n+3) 0 0 0=bif diffV l d then ag (w64 (k+1)) else some false:=by
 have w1:w64 ((0:Int)+1)=1:=rfl
 have w2:w64 ((1:Int)+1)=2:=rfl
 have i0:idx ([d.X,d.Y]:List Int) 0=some d.X:=rfl
 have i1:idx ([d.X,d.Y]:List Int) 1=some d.Y:=rfl
 have d0:decide ((0:Int) < 2)=true:=rfl
 have d1:decide ((1:Int) < 2)=true:=rfl
 have d2:decide ((2:Int) < 2)=false:=rfl
 have b0:((0:Int)==0)=true:=rfl
 have b1:((1:Int)==0)=false:=rfl
 have b2:((1:Int)==1)=true:=rfl
 have fin:∀ a b:Int,z22_l6 N l k ag d (n+1) a b 2=bif !(decide (w64 (a-b) > d.C)) then ag (w64 (k+1)) else some false:=fun a b=>by
  rw [z22_l6,d2]
  simp only [cF,z22_k5]
  cases decide (w64 (a-b) > d.C)<;>rfl
 have sec:∀ a:Int,z22_l6 N l k ag d (n+2) a 0 1=bif !(unkV l d.Y) && !(decide (w64 (a-nvV l d.Y) > d.C)) then ag (w64 (k+1)) else some false:=fun a=>by
  rw [z22_l6,d1]
  simp only [cT,i1,bS,w2]
  rcases side l hY with ⟨h1,_,h3,h4⟩ | ⟨h1,_,v,hv,h3,h4⟩
  ·rw [h1,h3,h4]
   simp only [cT]
   rw [fin]
   rfl
  ·rw [h1,h3,h4,hv]
   simp only [cF,bS]
   cases v.Kind==0 with
   | true=>rfl
   | false =>
    simp only [cF,number_eq,bS,b1,b2,cT]
    rw [fin]
    rfl
 rw [z22_l6,d0]
 simp only [cT,i0,bS,w1]
 unfold diffV
 rcases side l hX with ⟨h1,_,h3,h4⟩ | ⟨h1,_,v,hv,h3,h4⟩
 ·rw [h1,h3,h4]
  simp only [cT]
  rw [sec]
  rfl
 ·rw [h1,h3,h4,hv]
  simp only [cF,bS]
  cases v.Kind==0 with
  | true=>rfl
  | false =>
   simp only [cF,number_eq,bS,b0,cT]
   rw [sec]
   rfl
theorem equals_eq (hN:4194304 < N) (g:T3) (l:List T5) (hg:InG l.length g):z22_l2 g l N (0:Int)=some (allV (fun e _=>eqV l e) g.Equals 0):=by
 have hel:=hg.el
 have h:=allV_from (fun (e:Int × Int) _=>eqV l e) (xs:=g.Equals) (F:=z22_l2 g l) (e:=some true) (n:=N) (by omega) (by
  intro n k e hk he
  obtain ⟨⟨a1,a2⟩,a3,a4⟩:=hg.e e (List.mem_of_getElem? he)
  obtain ⟨a,ha⟩:=idx_lt (L:=l) a1 a2
  obtain ⟨b,hb⟩:=idx_lt (L:=l) a3 a4
  rw [z22_l2,lt_t hk,w64_succ (by omega)]
  simp only [cT,idx_nat,he,bS,ha,hb,eqV]
  cases (a.Kind==0)<;>cases (b.Kind==0)<;>cases (a.S.toList==b.S.toList)<;>rfl) (by
  intro n k hk
  rw [z22_l2,lt_f hk];rfl)
 rw [h]
 cases allV (fun (e:Int × Int) _=>eqV l e) g.Equals 0<;>rfl
theorem fulfils_eq (hN:4194304 < N) (g:T3) (l:List T5) (hg:InG l.length g):z22 N g l=some (keepsV g l):=by
 have hdl:=hg.dl
 have h:=allV_from (fun (d:T1) _=>diffV l d) (xs:=g.Diffs) (F:=z22_l4 N g l) (e:=z22_k3 N g l) (n:=N) (by omega) (by
  intro n k d hk hd
  obtain ⟨a1,a2⟩:=hg.d d (List.mem_of_getElem? hd)
  rw [z22_l4,lt_t hk]
  simp only [cT,idx_nat,hd,bS]
  have:=l6_eq (N:=N) l (k:Int) (z22_l4 N g l n) d a1 a2 (N-3)
  rw [show N-3+3=N by omega] at this
  rw [this,w64_succ (by omega)]) (by
  intro n k hk
  rw [z22_l4,lt_f hk];rfl)
 unfold z22 keepsV
 rw [h]
 cases allV (fun (d:T1) _=>diffV l d) g.Diffs 0 with
 | false=>rfl
 | true=>exact equals_eq hN g l hg
theorem k5_eq (l:List T5) (k:Int) (ag:Int→Option Bool) (d:T1) (hX:d.X < (l.length:Int)) (hY:d.Y < (l.length:Int)) :
  z35_k5 l k ag d (nvV l d.X) (nvV l d.Y)=bif diffV l d then ag (w64 (k+1)) else some false:=by
 unfold z35_k5 diffV
 rcases side l hX with ⟨_,h2,h3,_⟩ | ⟨_,h2,v,hv,h3,_⟩<;>rcases side l hY with ⟨_,q2,q3,_⟩ | ⟨_,q2,u,hu,q3,_⟩
 ·rw [h2,q2,h3,q3]
  cases decide (w64 (nvV l d.X-nvV l d.Y) > d.C)<;>rfl
 ·rw [h2,q2,h3,q3,hu]
  simp only [cF,cT,bS]
  cases u.Kind==0<;>cases decide (w64 (nvV l d.X-nvV l d.Y) > d.C)<;>rfl
 ·rw [h2,q2,h3,q3,hv]
  simp only [cF,cT,bS]
  cases v.Kind==0<;>cases decide (w64 (nvV l d.X-nvV l d.Y) > d.C)<;>rfl
 ·rw [h2,q2,h3,q3,hv,hu]
  simp only [cF,cT,bS]
  cases v.Kind==0<;>cases u.Kind==0<;>cases decide (w64 (nvV l d.X-nvV l d.Y) > d.C)<;>rfl
theorem k6_eq (l:List T5) (k:Int) (ag:Int→Option Bool) (d:T1) (hX:d.X < (l.length:Int)) (hY:d.Y < (l.length:Int)) :
  z35_k6 N l k ag d (nvV l d.X)=bif diffV l d then ag (w64 (k+1)) else some false:=by
 unfold z35_k6
 have:=k5_eq l k ag d hX hY
 rcases side l hY with ⟨_,q2,_,q4⟩ | ⟨_,q2,u,hu,_,q4⟩
 ·rw [q2];rw [q4] at this;exact this
 ·rw [q2,hu];rw [q4] at this
  simp only [cT,bS,refNumber_eq]
  exact this
theorem keeps_eq (hN:4194304 < N) (g:T3) (l:List T5) (hg:InG l.length g):z35 N g l=some (keepsV g l):=by
 have hdl:=hg.dl
 have hel:=hg.el
 have h2:=allV_from (fun (e:Int × Int) _=>eqV l e) (xs:=g.Equals) (F:=z35_l2 g l) (e:=some true) (n:=N) (by omega) (by
  intro n k e hk he
  obtain ⟨⟨a1,a2⟩,a3,a4⟩:=hg.e e (List.mem_of_getElem? he)
  obtain ⟨a,ha⟩:=idx_lt (L:=l) a1 a2
  obtain ⟨b,hb⟩:=idx_lt (L:=l) a3 a4
  rw [z35_l2,lt_t hk,w64_succ (by omega)]
  simp only [cT,idx_nat,he,bS,ha,hb,eqV]
  cases (a.Kind==0)<;>cases (b.Kind==0)<;>cases (a.S.toList==b.S.toList)<;>rfl) (by
  intro n k hk
  rw [z35_l2,lt_f hk];rfl)
 have h:=allV_from (fun (d:T1) _=>diffV l d) (xs:=g.Diffs) (F:=z35_l4 N g l) (e:=z35_k3 N g l) (n:=N) (by omega) (by
  intro n k d hk hd
  obtain ⟨a1,a2⟩:=hg.d d (List.mem_of_getElem? hd)
  have hk6:=k6_eq (N:=N) l (k:Int) (z35_l4 N g l n) d a1 a2
  rw [w64_succ (by omega)] at hk6
  rw [z35_l4,lt_t hk]
  simp only [cT,idx_nat,hd,bS]
  rcases side l a1 with ⟨_,q2,_,q4⟩ | ⟨_,q2,u,hu,_,q4⟩
  ·rw [q2];rw [q4] at hk6;exact hk6
  ·rw [q2,hu];rw [q4] at hk6
   simp only [cT,bS,refNumber_eq]
   exact hk6) (by
  intro n k hk
  rw [z35_l4,lt_f hk];rfl)
 unfold z35 keepsV
 rw [h]
 cases allV (fun (d:T1) _=>diffV l d) g.Diffs 0 with
 | false=>rfl
 | true =>
  show z35_l2 g l N (0:Int)=_
  rw [h2]
  cases allV (fun (e:Int × Int) _=>eqV l e) g.Equals 0<;>rfl
def checkV (d:List T0) (label:Int) (vs ks:List T5):Bool:=properV d label ks && (match idx d label with
 | some x=>fitV x.Fields vs && keepsV x.Guard (behindV x.First.toNat vs ks)
 | none=>false)
theorem guard_of {fl:List T2} {d:List T0} {x:T0} {i:Nat} (h:declV fl d x i=true):guardV fl x.Guard=true:=by
 unfold declV at h
 simp only [Bool.and_eq_true] at h
 exact h.2.2.2.2.2
theorem known_len {fl:List T2} {ks:List T5} (h:knownV fl ks=true):fl.length=ks.length:=by
 unfold knownV at h
 simp only [Bool.and_eq_true,decide_eq_true_eq] at h
 exact h.1
theorem fit_len {fl:List T2} {ks:List T5} (h:fitV fl ks=true):fl.length=ks.length:=by
 unfold fitV at h
 simp only [Bool.and_eq_true,decide_eq_true_eq] at h
 exact h.1
end Gp
end
section
namespace Gp
open Go Go.Kx Gx
variable {N:Nat}
theorem sort_of {d:List T0} (hv:validD d=true) {x:T0} (hx:x∈d) {f:T2} (hf:f∈x.Fields):f.Sort'.Kind=1∨f.Sort'.Kind=2:=by
 obtain ⟨i,hi⟩:=List.mem_iff_getElem?.1 hx
 obtain ⟨first,_,_,_,_,h⟩:=valid_at hv hi
 unfold declV at h
 simp only [Bool.and_eq_true] at h
 have h:=h.2.2.2.2.1
 rw [allV_iff] at h
 obtain ⟨k,hk⟩:=List.mem_iff_getElem?.1 hf
 have:=h k f hk
 unfold fieldV at this
 simp only [Bool.and_eq_true,decide_eq_true_eq] at this
 have:=this.2.1
 unfold sortOk at this
 rcases this with h | h
 ·exact .inl h.1
 ·exact .inr h.1
theorem sort_flat {d:List T0} (hv:validD d=true) {f:T2} (hf:f∈flat d):f.Sort'.Kind=1∨f.Sort'.Kind=2:=by
 unfold flat at hf
 obtain ⟨l,hl,hfl⟩:=List.mem_flatten.1 hf
 obtain ⟨x,hx,rfl⟩:=List.mem_map.1 hl
 exact sort_of hv hx hfl
theorem refKnown_eq (hN:4194304 < N) (d:List T0) (hl:d.length≤1000) (hd:∀ x∈d,SizeD x) (hv:validD d=true) (ks:List T5) (hk:ks.length≤4194304) (hs:∀ v∈ks,v.S.size≤4194304) :
  z25 N d ks=some (knownV (flat d) ks):=by
 unfold z25 knownV
 rw [vars_eq hN d hl hd]
 simp only [bS]
 rw [len_ne]
 by_cases c:(flat d).length=ks.length
 ·rw [dT c,dT c.symm]
  simp only [Bool.not_true,cF,Bool.true_and]
  have h:=allV_from (fun (v:T5) i=>zeroV v || fitAt (flat d) v i) (xs:=ks) (F:=z25_l2 N d ks) (e:=some true) (n:=N) (by omega) (by
   intro n k x hk' hx
   have hkf:k < (flat d).length:=by omega
   have hf:z67 N d (k:Int)=(flat d)[k]? := field_loop d (by omega) hd d 0 N k rfl (by omega) hkf (by omega)
   obtain ⟨f,hf2⟩:∃ f,(flat d)[k]? = some f:=⟨(flat d)[k],by simp [hkf]⟩
   rw [z25_l2,lt_t hk',w64_succ (by omega),hf,hf2]
   simp only [cT,idx_nat,hx,bS,hf2,fitAt]
   rw [refFits_eq hN _ (sort_flat hv (List.mem_of_getElem? hf2)) _ (hs x (List.mem_of_getElem? hx))]
   show (bif !(zeroV x) then _ else _)=_
   cases zeroV x<;>cases fitsV f.Sort' x<;>rfl) (by
   intro n k hk'
   rw [z25_l2,lt_f hk'];rfl)
  rw [h]
  cases allV (fun (v:T5) i=>zeroV v || fitAt (flat d) v i) ks 0<;>rfl
 ·rw [dF c,dF (fun e=>c e.symm)];rfl
theorem learned_eq (hN:4194304 < N) (x:T0) (vs ks:List T5) (first:Nat) (hf:x.First=(first:Int)) (hle:first+vs.length≤ks.length) (hk:ks.length≤4194304):z36 N x vs ks=some (behindV first vs ks):=by
 have key:∀ (r:List T5) (n k:Nat),vs.drop k=r→r.length < n→k≤vs.length→z36_l2 x vs n (behindV first (vs.take k) ks) (k:Int)=some (behindV first vs ks):=by
  intro r
  induction r with
  | nil =>
   intro n k h hn hkv
   obtain ⟨n,rfl⟩:∃ m,n=m+1:=⟨n-1,by simp at hn;omega⟩
   rw [z36_l2,lt_f (drop_nil h)]
   have:vs.take k=vs:=List.take_of_length_le (drop_nil h)
   rw [this];rfl
  | cons v r ih =>
   intro n k h hn hkv
   obtain ⟨n,rfl⟩:∃ m,n=m+1:=⟨n-1,by simp at hn;omega⟩
   obtain ⟨h1,h2,h3⟩:=drop_cons h
   simp only [List.length_cons] at hn
   have hw:w64 (x.First+(k:Int))=((first+k:Nat):Int):=by rw [hf,w64_id (by omega) (by omega)];omega
   have htl:(vs.take k).length=k:=by rw [List.length_take];omega
   rw [z36_l2,lt_t h1,w64_succ (by omega),hw]
   simp only [cT,idx_nat,h2,bS]
   have hg:=behind_get first (vs.take k) ks (by rw [htl];omega) (first+k)
   rw [htl,if_neg (by omega)] at hg
   obtain ⟨u,hu⟩:∃ u,ks[first+k]? = some u:=⟨ks[first+k]'(by omega),by simp⟩
   rw [hg,hu]
   simp only [bS,setL'_nat]
   have e:(behindV first (vs.take k) ks).set (first+k) v=behindV first (vs.take (k+1)) ks:=by
    apply List.ext_getElem?
    intro i
    have hl1:=behind_len first (vs.take k) ks (by rw [htl];omega)
    have htl2:(vs.take (k+1)).length=k+1:=by rw [List.length_take];omega
    rw [List.getElem?_set,behind_get first (vs.take (k+1)) ks (by rw [htl2];omega),behind_get first (vs.take k) ks (by rw [htl];omega),htl,htl2,hl1]
    by_cases c1:first+k=i
    ·subst c1
     rw [if_pos rfl,if_pos (by omega),if_pos (by omega)]
     rw [show first+k-first=k by omega,List.getElem?_take,if_pos (by omega),h2]
    ·rw [if_neg c1]
     by_cases c2:first≤i∧i < first+k
     ·rw [if_pos c2,if_pos (by omega),List.getElem?_take,List.getElem?_take,if_pos (by omega),if_pos (by omega)]
     ·rw [if_neg c2,if_neg (by omega)]
   rw [e]
   exact ih n (k+1) h3 (by omega) (by omega)
 unfold z36
 rw [appL_some (by simp;omega)]
 simp only [bS,List.nil_append]
 have h0:behindV first (vs.take 0) ks=ks:=by unfold behindV;simp
 have:=key vs N 0 rfl (by omega) (by omega)
 rw [h0] at this
 exact this
end Gp
end
end
section
section
namespace Gp
open Go Go.Kx Gx
variable {N:Nat}
theorem loopP {β γ:Type} (M:Nat) (F:Nat→β→Int→γ) (ag:β→γ) (P:Nat→β→Prop)
  (h1:∀ n B j,j < M→P j B→∃ B',P (j+1) B'∧F (n+1) B (j:Int)=F n B' ((j+1:Nat):Int)) (h2:∀ n B,F (n+1) B (M:Int)=ag B) :
  ∀ (r n j:Nat) (B:β),j+r=M→r < n→P j B→∃ B',P M B'∧F n B (j:Int)=ag B':=by
 intro r
 induction r with
 | zero =>
  intro n j B hj hn hP
  obtain ⟨n,rfl⟩:∃ m,n=m+1:=⟨n-1,by omega⟩
  have:j=M:=by omega
  subst this
  exact ⟨B,hP,h2 n B⟩
 | succ r ih =>
  intro n j B hj hn hP
  obtain ⟨n,rfl⟩:∃ m,n=m+1:=⟨n-1,by omega⟩
  obtain ⟨B',hP',e⟩:=h1 n B j (by omega) hP
  obtain ⟨B2,hP2,e2⟩:=ih n (j+1) B' (by omega) (by omega) hP'
  exact ⟨B2,hP2,e.trans e2⟩
structure Rep (M:Nat) (B:List Int) (A:Nat→Nat→Int):Prop where
 len:B.length=M * M
 at':∀ i j,i < M→j < M→B[i * M+j]? = some (A i j)
def upd (A:Nat→Nat→Int) (i j:Nat) (v:Int):Nat→Nat→Int:=fun a b=>if a=i∧b=j then v else A a b
theorem cell_inj {M i j a b:Nat} (hj:j < M) (hb:b < M) (h:i * M+j=a * M+b):i=a∧j=b:=by
 have h1:(i * M+j) / M=i:=by rw [Nat.mul_comm,Nat.mul_add_div (by omega),Nat.div_eq_of_lt hj];omega
 have h2:(a * M+b) / M=a:=by rw [Nat.mul_comm,Nat.mul_add_div (by omega),Nat.div_eq_of_lt hb];omega
 have:i=a:=by rw [← h1,← h2,h]
 subst this
 exact ⟨rfl,by omega⟩
theorem cell_lt {M i j:Nat} (hi:i < M) (hj:j < M):i * M+j < M * M:=by
 have:(i+1) * M≤M * M:=Nat.mul_le_mul_right _ hi
 rw [Nat.add_mul] at this;omega
theorem Rep.set {M:Nat} {B:List Int} {A:Nat→Nat→Int} (h:Rep M B A) {i j:Nat} (hi:i < M) (hj:j < M) (v:Int):Rep M (B.set (i * M+j) v) (upd A i j v):=by
 refine ⟨by rw [List.length_set];exact h.len,fun a b ha hb=>?_⟩
 rw [List.getElem?_set]
 unfold upd
 split
 ·rename_i e
  obtain ⟨e1,e2⟩:=cell_inj hj hb e
  rw [if_pos (by rw [h.len];exact cell_lt hi hj),if_pos ⟨e1.symm,e2.symm⟩]
 ·rename_i e
  rw [if_neg (fun ⟨x,y⟩=>e (by rw [x,y])),h.at' a b ha hb]
theorem row_w {n i j:Nat} (hn:n≤24) (hi:i≤24) (hj:j≤24):w64 ((w64 ((i:Int) * (w64 ((n:Int)+1))))+(j:Int))=((i * (n+1)+j:Nat):Int):=by
 have h1:i * (n+1)≤24 * 25:=Nat.mul_le_mul hi (by omega)
 rw [w64_succ (by omega)]
 have e:(i:Int) * ((n+1:Nat):Int)=((i * (n+1):Nat):Int):=by rw [Int.natCast_mul]
 rw [e,w64_id (n:=((i * (n+1):Nat):Int)) (by omega) (by omega),w64_id (by omega) (by omega)]
 omega
end Gp
end
section
namespace Gp
open Go Go.Kx Gx
variable {N:Nat}
theorem minI_le (a b:Int):minI a b≤a∧minI a b≤b∧(minI a b=a∨minI a b=b):=by unfold minI;split<;>omega
theorem maxI_le (a b:Int):a≤maxI a b∧b≤maxI a b∧(maxI a b=a∨maxI a b=b):=by unfold maxI;split<;>omega
structure Ph (M k:Nat) (K:Int) (A0 A:Nat→Nat→Int) (i j:Nat):Prop where
 hi:∀ a b,a < M→b < M→A a b≤20000
 lo:∀ a b,a < M→b < M→-(6 * K)≤A a b
 un:∀ a b,a < M→b < M→¬ (a < i∨(a=i∧b < j))→-K≤A a b
 rc:∀ a b,a < M→b < M→(a=k∨b=k)→-(3 * K)≤A a b
 kk:-(2 * K)≤A k k
 mono:∀ a b,a < M→b < M→A a b≤A0 a b
theorem Ph.step {M k:Nat} {K:Int} {A0 A:Nat→Nat→Int} {i j:Nat} (h:Ph M k K A0 A i j) (hK:0≤K) (hk:k < M) (hi:i < M) (hj:j < M):Ph M k K A0 (upd A i j (minI (A i j) (A i k+A k j))) i (j+1):=by
 have u:=h.un i j hi hj (by omega)
 have hv:=minI_le (A i j) (A i k+A k j)
 have rik:=h.rc i k hi hk (.inr rfl)
 have rkj:=h.rc k j hk hj (.inl rfl)
 have kk:=h.kk
 have hhi:=h.hi i j hi hj
 have hmo:=h.mono i j hi hj
 have lo':-(6 * K)≤minI (A i j) (A i k+A k j):=by omega
 have rc':(i=k∨j=k)→-(3 * K)≤minI (A i j) (A i k+A k j):=fun e=>by
  rcases e with e | e
  ·subst e;omega
  ·subst e;omega
 have kk':i=k→j=k→-(2 * K)≤minI (A i j) (A i k+A k j):=fun e1 e2=>by subst e1;subst e2;omega
 refine ⟨fun a b ha hb=>?_,fun a b ha hb=>?_,fun a b ha hb hn=>?_,fun a b ha hb e=>?_,?_,fun a b ha hb=>?_⟩
 ·unfold upd;split
  ·omega
  ·exact h.hi a b ha hb
 ·unfold upd;split
  ·exact lo'
  ·exact h.lo a b ha hb
 ·unfold upd;split
  ·rename_i e;omega
  ·exact h.un a b ha hb (by omega)
 ·unfold upd;split
  ·rename_i q;rw [q.1,q.2] at e;exact rc' e
  ·exact h.rc a b ha hb e
 ·unfold upd;split
  ·rename_i q;exact kk' q.1.symm q.2.symm
  ·exact kk
 ·unfold upd;split
  ·rename_i q;rw [q.1,q.2];omega
  ·exact h.mono a b ha hb
end Gp
end
section
namespace Gp
open Go Go.Kx Gx
variable {N:Nat}
def fullV (i j:Nat):Int:=if i=j then 0 else if i=0 then 10000 else if j=0 then 10000 else 20000
theorem fullV_le (i j:Nat):0≤fullV i j∧fullV i j≤20000:=by
 unfold fullV;split
 ·omega
 ·split
  ·omega
  ·split<;>omega
theorem Rep.mem {M:Nat} {B:List Int} {A:Nat→Nat→Int} (h:Rep M B A) {x:Int} (hx:x∈B):∃ a b,a < M∧b < M∧x=A a b:=by
 obtain ⟨p,hp⟩:=List.mem_iff_getElem?.1 hx
 have hlt:=(List.getElem?_eq_some_iff.1 hp).1
 rw [h.len] at hlt
 have hM:0 < M:=by
  rcases Nat.eq_zero_or_pos M with h0 | h0
  ·subst h0;simp at hlt
  ·exact h0
 have ha:p / M < M:=Nat.div_lt_of_lt_mul hlt
 have hb:p % M < M:=Nat.mod_lt _ hM
 refine ⟨p / M,p % M,ha,hb,?_⟩
 have:=h.at' (p / M) (p % M) ha hb
 rw [show p / M * M+p % M=p by rw [Nat.mul_comm];exact Nat.div_add_mod p M,hp] at this
 exact Option.some.inj this
def Keep (M:Nat) (A:Nat→Nat→Int) (y:Nat→Int):Prop:=∀ a b,a < M→b < M→y a-y b≤A a b
def ph (A:Nat→Nat→Int) (k:Nat):Nat→Nat→Int:=fun a b=>minI (A a b) (A a k+A k b)
theorem keep_ph {M:Nat} {A:Nat→Nat→Int} {y:Nat→Int} {k:Nat} (hk:k < M):Keep M A y↔Keep M (ph A k) y:=by
 constructor
 ·intro h a b ha hb
  have h1:=h a b ha hb
  have h2:=h a k ha hk
  have h3:=h k b hk hb
  unfold ph minI
  split<;>omega
 ·intro h a b ha hb
  have h1:=h a b ha hb
  have:=minI_le (A a b) (A a k+A k b)
  unfold ph at h1
  omega
end Gp
end
section
namespace Gp
open Go Go.Kx Gx
variable {N:Nat}
structure Cl (M k:Nat) (A0 A:Nat→Nat→Int):Prop where
 diag:∀ a,a < M→A a a=0
 tri:∀ l,l < k→∀ a b,a < M→b < M→A a b≤A a l+A l b
 hi:∀ a b,a < M→b < M→A a b≤fullV a b
 keep:∀ y,Keep M A0 y↔Keep M A y
theorem Cl.step {M k:Nat} {A0 A:Nat→Nat→Int} (h:Cl M k A0 A) (hkM:k≤M) (hk:k < M) (hd:∀ a,a < M→0≤ph A k a a):Cl M (k+1) A0 (ph A k):=by
 have hkk:=h.diag k hk
 have e:∀ a b,ph A k a b=minI (A a b) (A a k+A k b):=fun _ _=>rfl
 refine ⟨fun a ha=>?_,fun l hl a b ha hb=>?_,fun a b ha hb=>?_,fun y=>(h.keep y).trans (keep_ph hk)⟩
 ·have h1:=hd a ha
  have h2:=minI_le (A a a) (A a k+A k a)
  have h3:=h.diag a ha
  rw [e] at h1 ⊢
  omega
 ·rw [e,e,e]
  have m0:=minI_le (A a b) (A a k+A k b)
  by_cases c:l=k
  ·subst c
   have m1:=minI_le (A a l) (A a l+A l l)
   have m2:=minI_le (A l b) (A l l+A l b)
   omega
  ·have hlk:l < k:=by omega
   have hlM:l < M:=by omega
   have m1:=minI_le (A a l) (A a k+A k l)
   have m2:=minI_le (A l b) (A l k+A k b)
   have t1:=h.tri l hlk a b ha hb
   have t2:=h.tri l hlk a k ha hk
   have t3:=h.tri l hlk k b hk hb
   have t4:=h.tri l hlk k k hk hk
   omega
 ·have:=h.hi a b ha hb
  have m0:=minI_le (A a b) (A a k+A k b)
  rw [e];omega
theorem no_keep {M:Nat} {A:Nat→Nat→Int} {a:Nat} (ha:a < M) (h:A a a < 0) (y:Nat→Int):¬ Keep M A y:=fun hk=>by
 have:=hk a a ha ha
 omega
end Gp
end
section
namespace Gp
open Go Go.Kx Gx
variable {N:Nat}
theorem keep_upd {M:Nat} {A:Nat→Nat→Int} {i j:Nat} (hi:i < M) (hj:j < M) (c:Int) (u:Nat→Int):Keep M (upd A i j (minI (A i j) c)) u↔Keep M A u∧u i-u j≤c:=by
 have hm:=minI_le (A i j) c
 constructor
 ·intro h
  have hij:=h i j hi hj
  unfold upd at hij
  rw [if_pos ⟨rfl,rfl⟩] at hij
  refine ⟨fun a b ha hb=>?_,by omega⟩
  have:=h a b ha hb
  unfold upd at this
  split at this
  ·rename_i e;rw [e.1,e.2] at *;omega
  ·exact this
 ·rintro ⟨h,h2⟩ a b ha hb
  unfold upd
  split
  ·rename_i e
   have:=h i j hi hj
   rw [e.1,e.2];omega
  ·exact h a b ha hb
end Gp
end
end
section
namespace Gp
open Go Go.Kx Gx
variable {N:Nat}
theorem rfull_is (i j:Nat):z68 N (i:Int) (j:Int)=some (fullV i j):=by
 unfold z68 fullV
 by_cases c:i=j
 ·subst c;simp
 ·have e1:((i:Int)==(j:Int))=false:=by simp;omega
  rw [e1,if_neg c]
  by_cases c2:i=0
  ·subst c2;rfl
  ·have e2:((i:Int)==0)=false:=by simp;omega
   rw [e2,if_neg c2]
   by_cases c3:j=0
   ·subst c3;rfl
   ·have e3:((j:Int)==0)=false:=by simp;omega
    rw [e3,if_neg c3];rfl
structure Zr (n:Nat) (A:Nat→Nat→Int) (z:T6):Prop where
 m:z.N=(n:Int)
 r:Rep (n+1) z.B A
 lo:∀ a b,a < n+1→b < n+1→-20001≤A a b
 hi:∀ a b,a < n+1→b < n+1→A a b≤20000
theorem rvalid_true (hN:4194304 < N) {n:Nat} (hn:n≤24) {A:Nat→Nat→Int} {z:T6} (h:Zr n A z):z69 N z=some true:=by
 have hsq:(n+1) * (n+1)≤25 * 25:=Nat.mul_le_mul (by omega) (by omega)
 have hlen:=h.r.len
 have key:=allV_from (fun (x:Int) _ => !(decide (x < -20001)) && !(decide (x > 20000))) (xs:=z.B) (F:=z69_l2 z) (e:=some true) (n:=N) (by omega) (by
  intro m k x hk hx
  rw [z69_l2,lt_t hk,idx_nat,hx,w64_succ (by omega)]
  simp only [cT,bS]
  cases decide (x < -20001)<;>cases decide (x > 20000)<;>rfl) (by
  intro m k hk
  rw [z69_l2,lt_f hk];rfl)
 have e0:z69_l2 z N 0=_:=key
 have hall:allV (fun (x:Int) _ => !(decide (x < -20001)) && !(decide (x > 20000))) z.B 0=true:=by
  rw [allV_iff]
  intro i x hx
  obtain ⟨a,b,ha,hb,rfl⟩:=h.r.mem (List.mem_of_getElem? hx)
  have:=h.lo a b ha hb
  have:=h.hi a b ha hb
  rw [dF (by omega),dF (by omega)];rfl
 unfold z69
 have hw:w64 ((w64 (z.N+1)) * (w64 (z.N+1)))=(((n+1) * (n+1):Nat):Int):=by
  rw [h.m,w64_succ (by omega),w64_id (by rw [← Int.natCast_mul];omega) (by rw [← Int.natCast_mul];omega),Int.natCast_mul]
 have hne:((z.B.length:Int) != (((n+1) * (n+1):Nat):Int))=false:=by rw [hlen];simp
 rw [hw,hne]
 have hm:=h.m
 rw [hm]
 rw [dF (show ¬ (n:Int) < 0 by omega),dF (show ¬ (n:Int) > 24 by omega)]
 simp only [cF]
 rw [e0,hall];rfl
theorem rnew_is (hN:4194304 < N) (n:Nat) (hn:n≤24):∃ B,z29 N (n:Int)=some (⟨(n:Int),B⟩,0)∧Zr n fullV ⟨(n:Int),B⟩:=by
 let P:Nat→Nat→List Int→Prop:=fun i j B=>B.length=i * (n+1)+j∧∀ a b,(a < i∨(a=i∧b < j))→b < n+1→B[a * (n+1)+b]? = some (fullV a b)
 have hsm:∀ i,i≤n+1→i * (n+1)≤25 * 25:=fun i hi=>Nat.mul_le_mul (by omega) (by omega)
 have outer:=loopP (n+1) (z29_l2 N (n:Int)) (fun B=>z29_k1 (n:Int) B) (fun i B=>P i 0 B) (by
  intro f B i hi hP
  have inner:=loopP (n+1) (z29_l4 N (n:Int) (i:Int) (z29_l2 N (n:Int) f)) (fun B=>z29_k3 (i:Int) (z29_l2 N (n:Int) f) B) (fun j B=>P i j B) (by
   intro g B j hj ⟨h1,h2⟩
   have h3:=hsm i (by omega)
   refine ⟨B++[fullV i j],⟨by rw [lA,h1];rfl,fun a b hab hb=>?_⟩,?_⟩
   ·by_cases c:a=i∧b=j
    ·rw [c.1,c.2,← h1];simp
    ·have h4:=h2 a b (by omega) hb
     rw [List.getElem?_append_left (List.getElem?_eq_some_iff.1 h4).1]
     exact h4
   ·rw [z29_l4,dT (show (j:Int)≤(n:Int) by omega),rfull_is,w64_succ (by omega)]
    simp only [cT,bS]
    rw [appL_some (by simp;omega)];rfl) (by
   intro g B
   rw [z29_l4,dF (by omega)];rfl)
  obtain ⟨B',⟨h1,h2⟩,e⟩:=inner (n+1) N 0 B (by omega) (by omega) hP
  refine ⟨B',⟨by rw [h1,Nat.add_mul];omega,fun a b hab hb=>h2 a b (by omega) hb⟩,?_⟩
  rw [z29_l2,dT (show (i:Int)≤(n:Int) by omega)]
  simp only [cT]
  exact e.trans (by unfold z29_k3;rw [w64_succ (by omega)])) (by
  intro f B
  rw [z29_l2,dF (by omega)];rfl)
 obtain ⟨B,⟨h1,h2⟩,e⟩:=outer (n+1) N 0 [] (by omega) (by omega) ⟨by simp,fun a b h _=>by omega⟩
 refine ⟨B,?_,rfl,⟨by rw [h1];rfl,fun i j hi hj=>h2 i j (.inl hi) hj⟩,fun a b _ _=>by have:=fullV_le a b;omega,fun a b _ _=>(fullV_le a b).2⟩
 unfold z29
 rw [dF (show ¬ (n:Int) < 0 by omega),dF (show ¬ (n:Int) > 24 by omega)]
 exact e
theorem radd_is (hN:4194304 < N) {n:Nat} (hn:n≤24) {A:Nat→Nat→Int} {z:T6} (h:Zr n A z) (i j:Nat) (hi:i < n+1) (hj:j < n+1) {d:T1} (hX:d.X=(i:Int)-1) (hY:d.Y=(j:Int)-1) :
  ∃ B,z30 N z d=some (⟨(n:Int),B⟩,0)∧Zr n (upd A i j (minI (A i j) (maxI d.C (-20001)))) ⟨(n:Int),B⟩:=by
 have hsq:(n+1) * (n+1)≤25 * 25:=Nat.mul_le_mul (by omega) (by omega)
 have hlen:=h.r.len
 have hin:i * (n+1)≤24 * 25:=Nat.mul_le_mul (by omega) (by omega)
 unfold z30 z70
 rw [rvalid_true hN hn h,h.m,hX,hY]
 simp only [bS,Bool.not_true,cF]
 rw [dT (show (i:Int)-1≥-1 by omega),dT (show (j:Int)-1≥-1 by omega),dT (show (i:Int)-1 < (n:Int) by omega),dT (show (j:Int)-1 < (n:Int) by omega)]
 simp only [cT,bS,Bool.not_true,cF]
 rw [appL_some (by simp;omega)]
 have hw:w64 ((w64 ((w64 ((w64 ((i:Int)-1+1)) * (w64 ((n:Int)+1))))+((j:Int)-1)))+1)=((i * (n+1)+j:Nat):Int):=by
  rw [show (i:Int)-1+1=(i:Int) by omega,w64_id (n:=(i:Int)) (by omega) (by omega),w64_succ (by omega)]
  have e:(i:Int) * ((n+1:Nat):Int)=((i * (n+1):Nat):Int):=by rw [Int.natCast_mul]
  rw [e,w64_id (n:=((i * (n+1):Nat):Int)) (by omega) (by omega),w64_id (n:=((i * (n+1):Nat):Int)+((j:Int)-1)) (by omega) (by omega),w64_id (by omega) (by omega)]
  omega
 simp only [bS,List.nil_append,hw,idx_nat,h.r.at' i j hi hj,setL'_nat]
 have hv:=minI_le (A i j) (maxI d.C (-20001))
 have hx:=maxI_le d.C (-20001)
 refine ⟨_,rfl,rfl,h.r.set hi hj _,fun a b ha hb=>?_,fun a b ha hb=>?_⟩
 ·unfold upd;split
  ·have:=h.lo i j hi hj;omega
  ·exact h.lo a b ha hb
 ·unfold upd;split
  ·have:=h.hi i j hi hj;omega
  ·exact h.hi a b ha hb
def cap (A:Nat→Nat→Int):Nat→Nat→Int:=fun a b=>minI (A a b) (fullV a b)
theorem Cl.congr {M k:Nat} {A0 A A1:Nat→Nat→Int} (h:Cl M k A0 A) (hkM:k≤M) (e:∀ a b,a < M→b < M→A1 a b=A a b):Cl M k A0 A1 :=
 ⟨fun a ha=>by rw [e a a ha ha];exact h.diag a ha,fun l hl a b ha hb=>by rw [e a b ha hb,e a l ha (by omega),e l b (by omega) hb];exact h.tri l hl a b ha hb,
  fun a b ha hb=>by rw [e a b ha hb];exact h.hi a b ha hb,fun y=>(h.keep y).trans ⟨fun q a b ha hb=>by rw [e a b ha hb];exact q a b ha hb,fun q a b ha hb=>by rw [← e a b ha hb];exact q a b ha hb⟩⟩
structure Pr (M k:Nat) (A A1:Nat→Nat→Int) (i j:Nat):Prop where
 le:∀ a b,a < M→b < M→A1 a b≤A a b
 lo:∀ a b,a < M→b < M→-20001≤A1 a b
 dn:∀ a b,a < M→b < M→(a < i∨(a=i∧b < j))→A1 a b≤maxI (-20001) (A a k+A k b)
 kp:∀ y,Keep M A y→Keep M A1 y
 ex:0≤A k k→∀ a b,a < M→b < M→A1 a b=if (a < i∨(a=i∧b < j)) then minI (A a b) (maxI (-20001) (A a k+A k b)) else A a b
theorem Pr.step {M k:Nat} {A A1:Nat→Nat→Int} {i j:Nat} (h:Pr M k A A1 i j) (hlo:∀ a b,a < M→b < M→-20001≤A a b) (hk:k < M) (hi:i < M) (hj:j < M):Pr M k A (upd A1 i j (minI (A1 i j) (maxI (-20001) (A1 i k+A1 k j)))) i (j+1):=by
 have m1:=minI_le (A1 i j) (maxI (-20001) (A1 i k+A1 k j))
 have m2:=maxI_le (-20001) (A1 i k+A1 k j)
 have m3:=maxI_le (-20001) (A i k+A k j)
 have l1:=h.le i j hi hj
 have l2:=h.le i k hi hk
 have l3:=h.le k j hk hj
 have l4:=h.lo i j hi hj
 refine ⟨fun a b ha hb=>?_,fun a b ha hb=>?_,fun a b ha hb hd=>?_,fun y hy a b ha hb=>?_,fun h0 a b ha hb=>?_⟩
 ·unfold upd;split
  ·rename_i e;rw [e.1,e.2];omega
  ·exact h.le a b ha hb
 ·unfold upd;split
  ·omega
  ·exact h.lo a b ha hb
 ·unfold upd;split
  ·rename_i e;rw [e.1,e.2];omega
  ·exact h.dn a b ha hb (by omega)
 ·have q:=h.kp y hy
  unfold upd;split
  ·rename_i e;rw [e.1,e.2]
   have q1:=q i j hi hj
   have q2:=q i k hi hk
   have q3:=q k j hk hj
   omega
  ·exact q a b ha hb
 ·have row:∀ c,c < M→A1 c k=A c k:=fun c hc=>by
   rw [h.ex h0 c k hc hk]
   split
   ·have n1:=minI_le (A c k) (maxI (-20001) (A c k+A k k))
    have n2:=maxI_le (-20001) (A c k+A k k)
    have:=hlo c k hc hk
    omega
   ·rfl
  have col:∀ c,c < M→A1 k c=A k c:=fun c hc=>by
   rw [h.ex h0 k c hk hc]
   split
   ·have n1:=minI_le (A k c) (maxI (-20001) (A k k+A k c))
    have n2:=maxI_le (-20001) (A k k+A k c)
    have:=hlo k c hk hc
    omega
   ·rfl
  unfold upd;split
  ·rename_i e;rw [e.1,e.2,if_pos (by omega),row i hi,col j hj,h.ex h0 i j hi hj,if_neg (by omega)]
  ·rw [h.ex h0 a b ha hb]
   by_cases c:a < i∨(a=i∧b < j)
   ·rw [if_pos c,if_pos (by omega)]
   ·rw [if_neg c,if_neg (by omega)]
theorem Pr.row {M k:Nat} {A A1:Nat→Nat→Int} {i:Nat} (h:Pr M k A A1 i M):Pr M k A A1 (i+1) 0 :=
 ⟨h.le,h.lo,fun a b ha hb hd=>h.dn a b ha hb (by omega),h.kp,fun h0 a b ha hb=>by
  rw [h.ex h0 a b ha hb]
  by_cases c:a < i∨(a=i∧b < M)
  ·rw [if_pos c,if_pos (by omega)]
  ·rw [if_neg c,if_neg (by omega)]⟩
theorem Pr.start {M k:Nat} {A:Nat→Nat→Int} (hlo:∀ a b,a < M→b < M→-20001≤A a b):Pr M k A A 0 0 :=
 ⟨fun a b _ _=>Int.le_refl _,hlo,fun a b _ _ h=>by omega,fun y h=>h,fun _ a b _ _=>by rw [if_neg (by omega)]⟩
structure Sr (M k:Nat) (A0 A:Nat→Nat→Int):Prop where
 lo:∀ a b,a < M→b < M→-20001≤A a b
 hi:∀ a b,a < M→b < M→A a b≤fullV a b
 kp:∀ y,Keep M A0 y↔Keep M A y
 or:Cl M k A0 A∨∃ i j,i < M∧j < M∧(i=j∨k≤j)∧A i j+A j i < 0
theorem Sr.next {M k:Nat} {A0 A A1:Nat→Nat→Int} (h:Sr M k A0 A) (hk:k < M) (hp:Pr M k A A1 M 0):Sr M (k+1) A0 A1:=by
 have big:∀ x:Int,x < 0→maxI (-20001) x < 0:=fun x hx=>by have:=maxI_le (-20001) x;omega
 have kp:∀ y,Keep M A0 y↔Keep M A1 y:=fun y=>(h.kp y).trans ⟨hp.kp y,fun q a b ha hb=>Int.le_trans (q a b ha hb) (hp.le a b ha hb)⟩
 have hi:∀ a b,a < M→b < M→A1 a b≤fullV a b:=fun a b ha hb=>Int.le_trans (hp.le a b ha hb) (h.hi a b ha hb)
 refine ⟨hp.lo,hi,kp,?_⟩
 have at_:∀ i,i < M→A i k+A k i < 0→∃ i j,i < M∧j < M∧(i=j∨k+1≤j)∧A1 i j+A1 j i < 0:=fun i hiM hlt=>by
  have:=hp.dn i i hiM hiM (.inl hiM)
  have:=big _ hlt
  exact ⟨i,i,hiM,hiM,.inl rfl,by omega⟩
 rcases h.or with hc | ⟨i,j,hiM,hjM,hij,hlt⟩
 ·have hkk:=hc.diag k hk
  have hex:=hp.ex (by omega)
  by_cases hs:∃ i j,i < M∧j < M∧A i k+A k j < -20001
  ·obtain ⟨i,j,hiM,hjM,hs⟩:=hs
   right
   have l1:=h.lo i k hiM hk
   have l2:=h.lo k j hk hjM
   by_cases c1:j=k
   ·subst c1;omega
   have e1:=hp.dn i j hiM hjM (.inl hiM)
   have m:=maxI_le (-20001) (A i k+A k j)
   have q1:=hi j i hjM hiM
   have q2:=fullV_le j i
   by_cases c2:k+1≤j
   ·exact ⟨i,j,hiM,hjM,.inr c2,by omega⟩
   ·have t:=hc.tri j (by omega) k i hk hiM
    have q3:=h.hi j i hjM hiM
    exact at_ i hiM (by omega)
  ·have hge:∀ i j,i < M→j < M→-20001≤A i k+A k j:=fun i j hiM hjM=>by
    by_cases c:-20001≤A i k+A k j
    ·exact c
    ·exact absurd ⟨i,j,hiM,hjM,by omega⟩ hs
   have heq:∀ a b,a < M→b < M→A1 a b=ph A k a b:=fun a b ha hb=>by
    rw [hex a b ha hb,if_pos (.inl ha)]
    have:=hge a b ha hb
    have m:=maxI_le (-20001) (A a k+A k b)
    unfold ph
    rw [show maxI (-20001) (A a k+A k b)=A a k+A k b by omega]
   by_cases hd:∀ a,a < M→0≤ph A k a a
   ·left
    exact (hc.step (by omega) hk hd).congr (by omega) heq
   ·right
    have:∃ a,a < M∧ph A k a a < 0:=by
     refine Classical.byContradiction fun hno=>hd fun a ha=>?_
     by_cases c:0≤ph A k a a
     ·exact c
     ·exact absurd ⟨a,ha,by omega⟩ hno
    obtain ⟨a,ha,hlt⟩:=this
    rw [← heq a a ha ha] at hlt
    exact ⟨a,a,ha,ha,.inl rfl,by omega⟩
 ·right
  have l1:=hp.le i j hiM hjM
  have l2:=hp.le j i hjM hiM
  rcases hij with rfl | hj
  ·exact ⟨i,i,hiM,hiM,.inl rfl,by omega⟩
  ·by_cases c:k+1≤j
   ·exact ⟨i,j,hiM,hjM,.inr c,by omega⟩
   ·have:j=k:=by omega
    subst this
    exact at_ i hiM (by omega)
end Gp
end
section
namespace Gp
open Go Go.Kx Gx
variable {N:Nat}
theorem rphase_is (hN:4194304 < N) (n:Nat) (hn:n≤24) (z:T6) (hz:z.N=(n:Int)) (k:Nat) (hk:k < n+1) (ag:List Int→Int→Option (T6 × Bool)) (B:List Int) (A:Nat→Nat→Int) (hR:Rep (n+1) B A)
  (hlo:∀ a b,a < n+1→b < n+1→-20001≤A a b) (hhi:∀ a b,a < n+1→b < n+1→A a b≤20000) :
  ∃ B' A',Rep (n+1) B' A'∧Pr (n+1) k A A' (n+1) 0∧z71_l6 N z (k:Int) ag N B (0:Int)=ag B' ((k+1:Nat):Int):=by
 have hw:w64 (z.N+1)=((n+1:Nat):Int):=by rw [hz,w64_succ (by omega)]
 have hrow:∀ i j:Nat,i < n+1→j < n+1→w64 ((w64 ((i:Int) * (w64 (z.N+1))))+(j:Int))=((i * (n+1)+j:Nat):Int):=fun i j hi hj=>by rw [hz];exact row_w hn (by omega) (by omega)
 have outer:=loopP (n+1) (z71_l6 N z (k:Int) ag) (fun B=>z71_k5 (k:Int) ag B) (fun i B=>∃ A',Rep (n+1) B A'∧Pr (n+1) k A A' i 0) (by
  intro f B i hi ⟨A1,hR1,hP1⟩
  have inner:=loopP (n+1) (z71_l8 z (k:Int) (i:Int) (z71_l6 N z (k:Int) ag f)) (fun B=>z71_l6 N z (k:Int) ag f B ((i+1:Nat):Int)) (fun j B=>∃ A',Rep (n+1) B A'∧Pr (n+1) k A A' i j) (by
   intro g B j hj ⟨A2,hR2,hP2⟩
   refine ⟨B.set (i * (n+1)+j) (minI (A2 i j) (maxI (-20001) (A2 i k+A2 k j))),⟨_,hR2.set hi hj _,hP2.step hlo hk hi hj⟩,?_⟩
   have q1:=hP2.lo i k hi hk
   have q2:=hP2.lo k j hk hj
   have q3:=hP2.le i k hi hk
   have q4:=hP2.le k j hk hj
   have q5:=hhi i k hi hk
   have q6:=hhi k j hk hj
   rw [z71_l8,hw,lt_t hj,← hw,hrow i j hi hj,hrow i k hi hk,hrow k j hk hj,w64_succ (by omega)]
   simp only [cT,idx_nat,hR2.at' i j hi hj,hR2.at' i k hi hk,hR2.at' k j hk hj,bS,setL'_nat]
   rw [w64_id (by omega) (by omega)]) (by
   intro g B
   rw [z71_l8,hw,lt_f (Nat.le_refl _)]
   simp only [cF,z71_k7]
   rw [w64_succ (by omega)])
  obtain ⟨B',⟨A',hR',hP'⟩,e⟩:=inner (n+1) N 0 B (by omega) (by omega) ⟨A1,hR1,hP1⟩
  refine ⟨B',⟨A',hR',hP'.row⟩,?_⟩
  rw [z71_l6,hw,lt_t hi]
  exact e) (by
  intro f B
  rw [z71_l6,hw,lt_f (Nat.le_refl _)];rfl)
 obtain ⟨B',⟨A',hR',hP'⟩,e⟩:=outer (n+1) N 0 B (by omega) (by omega) ⟨A,hR,Pr.start hlo⟩
 exact ⟨B',A',hR',hP',e.trans (by unfold z71_k5;rw [w64_succ (by omega)])⟩
theorem rclose_is (hN:4194304 < N) (n:Nat) (hn:n≤24) (A:Nat→Nat→Int) (z:T6) (h:Zr n A z):(z71 N z=some (⟨0,[]⟩,false)∧∀ y,¬ Keep (n+1) (cap A) y) ∨
  ∃ A' B',z71 N z=some (⟨(n:Int),B'⟩,true)∧Zr n A' ⟨(n:Int),B'⟩∧Cl (n+1) (n+1) (cap A) A':=by
 have hz:=h.m
 have hw:w64 (z.N+1)=((n+1:Nat):Int):=by rw [hz,w64_succ (by omega)]
 have hrow:∀ i j:Nat,i < n+1→j < n+1→w64 ((w64 ((i:Int) * (w64 (z.N+1))))+(j:Int))=((i * (n+1)+j:Nat):Int):=fun i j hi hj=>by rw [hz];exact row_w hn (by omega) (by omega)
 have hsq:(n+1) * (n+1)≤25 * 25:=Nat.mul_le_mul (by omega) (by omega)
 have hlen:=h.r.len
 -- the widest bounds
 let Q:Nat→Nat→List Int→Prop:=fun i j B=>∃ A1,Rep (n+1) B A1∧∀ a b,a < n+1→b < n+1→A1 a b=if a < i∨(a=i∧b < j) then cap A a b else A a b
 have capped:=loopP (n+1) (z71_l10 N z) (fun B=>z71_k9 N z B) (fun i B=>Q i 0 B) (by
  intro f B i hi hQ
  have inner:=loopP (n+1) (z71_l12 N z (i:Int) (z71_l10 N z f)) (fun B=>z71_k11 (i:Int) (z71_l10 N z f) B) (fun j B=>Q i j B) (by
   intro g B j hj ⟨A2,hR2,h2⟩
   have eij:A2 i j=A i j:=by rw [h2 i j hi hj,if_neg (by omega)]
   refine ⟨B.set (i * (n+1)+j) (cap A i j),⟨_,hR2.set hi hj _,fun a b ha hb=>?_⟩,?_⟩
   ·unfold upd;split
    ·rename_i e;rw [e.1,e.2,if_pos (by omega)]
    ·rw [h2 a b ha hb]
     by_cases c:a < i∨(a=i∧b < j)
     ·rw [if_pos c,if_pos (by omega)]
     ·rw [if_neg c,if_neg (by omega)]
   ·rw [z71_l12,hw,lt_t hj,← hw,hrow i j hi hj,rfull_is,w64_succ (by omega)]
    simp only [cT,idx_nat,hR2.at' i j hi hj,bS,setL'_nat,eij]
    rfl) (by
   intro g B
   rw [z71_l12,hw,lt_f (Nat.le_refl _)];rfl)
  obtain ⟨B',⟨A',hR',hP'⟩,e⟩:=inner (n+1) N 0 B (by omega) (by omega) hQ
  refine ⟨B',⟨A',hR',fun a b ha hb=>?_⟩,?_⟩
  ·rw [hP' a b ha hb]
   by_cases c:a < i∨(a=i∧b < n+1)
   ·rw [if_pos c,if_pos (by omega)]
   ·rw [if_neg c,if_neg (by omega)]
  ·rw [z71_l10,hw,lt_t hi]
   exact e.trans (by unfold z71_k11;rw [w64_succ (by omega)])) (by
  intro f B
  rw [z71_l10,hw,lt_f (Nat.le_refl _)];rfl)
 obtain ⟨B1,⟨A1,hR1,h1⟩,e1⟩:=capped (n+1) N 0 z.B (by omega) (by omega) ⟨A,h.r,fun a b _ _=>by rw [if_neg (by omega)]⟩
 have h1:∀ a b,a < n+1→b < n+1→A1 a b=cap A a b:=fun a b ha hb=>by rw [h1 a b ha hb,if_pos (.inl ha)]
 -- the phases
 have s0:Sr (n+1) 0 (cap A) A1:=by
  refine ⟨fun a b ha hb=>?_,fun a b ha hb=>?_,fun y=>⟨fun q a b ha hb=>by rw [h1 a b ha hb];exact q a b ha hb,fun q a b ha hb=>by rw [← h1 a b ha hb];exact q a b ha hb⟩,?_⟩
  ·rw [h1 a b ha hb]
   have:=h.lo a b ha hb
   have:=minI_le (A a b) (fullV a b)
   have:=fullV_le a b
   unfold cap;omega
  ·rw [h1 a b ha hb]
   exact (minI_le (A a b) (fullV a b)).2.1
  ·by_cases hd:∀ a,a < n+1→0≤A1 a a
   ·left
    refine ⟨fun a ha=>?_,fun l hl=>by omega,fun a b ha hb=>by rw [h1 a b ha hb];exact (minI_le (A a b) (fullV a b)).2.1,fun y=>⟨fun q a b ha hb=>by rw [h1 a b ha hb];exact q a b ha hb,fun q a b ha hb=>by rw [← h1 a b ha hb];exact q a b ha hb⟩⟩
    have:=hd a ha
    have e:A1 a a=cap A a a:=h1 a a ha ha
    have m:=(minI_le (A a a) (fullV a a)).2.1
    have f:fullV a a=0:=by unfold fullV;rw [if_pos rfl]
    unfold cap at e;omega
   ·right
    have:∃ a,a < n+1∧A1 a a < 0:=by
     refine Classical.byContradiction fun hno=>hd fun a ha=>?_
     by_cases c:0≤A1 a a
     ·exact c
     ·exact absurd ⟨a,ha,by omega⟩ hno
    obtain ⟨a,ha,hlt⟩:=this
    exact ⟨a,a,ha,ha,.inl rfl,by omega⟩
 have closed:=loopP (n+1) (z71_l4 N z) (fun B=>z71_k3 N z B) (fun k B=>∃ A',Rep (n+1) B A'∧Sr (n+1) k (cap A) A') (by
  intro f B k hk ⟨A2,hR2,hS2⟩
  obtain ⟨B',A',hR',hP',e⟩:=rphase_is hN n hn z hz k hk (z71_l4 N z f) B A2 hR2 hS2.lo (fun a b ha hb=>Int.le_trans (hS2.hi a b ha hb) (fullV_le a b).2)
  refine ⟨B',⟨A',hR',hS2.next hk hP'⟩,?_⟩
  rw [z71_l4,hw,lt_t hk]
  exact e) (by
  intro f B
  rw [z71_l4,hw,lt_f (Nat.le_refl _)];rfl)
 obtain ⟨B2,⟨A2,hR2,hS2⟩,e2⟩:=closed (n+1) N 0 B1 (by omega) (by omega) ⟨A1,hR1,s0⟩
 have total:z71 N z=z71_k3 N z B2:=by
  unfold z71
  rw [rvalid_true hN hn h]
  simp only [bS,Bool.not_true,cF]
  rw [appL_some (by simp;omega)]
  simp only [bS,List.nil_append]
  exact e1.trans e2
 -- the diagonal
 have diag:∀ (r f i:Nat),i+r=n+1→r < f→(∃ a,a < n+1∧A2 a a < 0∧z71_l2 z B2 f (i:Int)=some (⟨0,[]⟩,false))∨((∀ a,i≤a→a < n+1→0≤A2 a a)∧z71_l2 z B2 f (i:Int)=some (⟨z.N,B2⟩,true)):=by
  intro r
  induction r with
  | zero =>
   intro f i hi hf
   obtain ⟨f,rfl⟩:∃ q,f=q+1:=⟨f-1,by omega⟩
   have:i=n+1:=by omega
   subst this
   right
   refine ⟨fun a h1 h2=>by omega,?_⟩
   rw [z71_l2,hw,lt_f (Nat.le_refl _)];rfl
  | succ r ih =>
   intro f i hi hf
   obtain ⟨f,rfl⟩:∃ q,f=q+1:=⟨f-1,by omega⟩
   have hiM:i < n+1:=by omega
   rw [z71_l2,hw,lt_t hiM,← hw,hrow i i hiM hiM,w64_succ (by omega)]
   simp only [cT,idx_nat,hR2.at' i i hiM hiM,bS]
   by_cases c:A2 i i < 0
   ·rw [dT c]
    exact .inl ⟨i,hiM,c,rfl⟩
   ·rw [dF c]
    rcases ih f (i+1) (by omega) (by omega) with q | ⟨q1,q2⟩
    ·exact .inl q
    ·refine .inr ⟨fun a h1 h2=>?_,q2⟩
     by_cases ea:a=i
     ·subst ea;omega
     ·exact q1 a (by omega) h2
 rw [total]
 unfold z71_k3
 rcases diag (n+1) N 0 (by omega) (by omega) with ⟨a,ha,hlt,e⟩ | ⟨hd,e⟩
 ·exact .inl ⟨e,fun y hy=>no_keep ha hlt y ((hS2.kp y).1 hy)⟩
 ·right
  refine ⟨A2,B2,by rw [← hz];exact e,⟨rfl,hR2,hS2.lo,fun a b ha hb=>Int.le_trans (hS2.hi a b ha hb) (fullV_le a b).2⟩,?_⟩
  rcases hS2.or with hc | ⟨i,j,hi,hj,hij,hlt⟩
  ·exact hc
  ·exfalso
   rcases hij with rfl | hj'
   ·have:=hd i (Nat.zero_le _) hi
    omega
   ·omega
def lst (A:Nat→Nat→Int):Nat→Int:=fun a=>-(A 0 a)
theorem lst_keep' {M:Nat} {A0 A:Nat→Nat→Int} (h:Cl M M A0 A) (h0:0 < M):Keep M A (lst A):=fun a b ha hb=>by
 have:=h.tri a ha 0 b h0 hb
 unfold lst;omega
theorem lst_le {M:Nat} {A:Nat→Nat→Int} {u:Nat→Int} (hu:Keep M A u) (h0:0 < M) (e:u 0=0) (a:Nat) (ha:a < M):lst A a≤u a:=by
 have:=hu 0 a h0 ha
 unfold lst;omega
theorem lst_zero {M:Nat} {A0 A:Nat→Nat→Int} (h:Cl M M A0 A) (h0:0 < M):lst A 0=0:=by
 have:=h.diag 0 h0
 unfold lst;omega
theorem rmodel_is (hN:4194304 < N) (n:Nat) (hn:n≤24) (A:Nat→Nat→Int) (z:T6) (h:Zr n A z):(z33 N z=some ([],false)∧∀ y,¬ Keep (n+1) (cap A) y) ∨
  ∃ (m:List Int) (y:Nat→Int),z33 N z=some (m,true)∧m.length=n∧(∀ i,i < n→m[i]? = some (y (i+1)))∧y 0=0∧Keep (n+1) (cap A) y∧∀ u,Keep (n+1) (cap A) u→u 0=0→∀ a,a < n+1→y a≤u a:=by
 unfold z33
 rcases rclose_is hN n hn A z h with ⟨e,hno⟩ | ⟨A1,B1,e,hz1,hc1⟩
 ·rw [e];exact .inl ⟨rfl,hno⟩
 ·right
  rw [e]
  simp only [bS,Bool.not_true,cF]
  have key:∀ (r f x:Nat) (B:List Int) (Ax:Nat→Nat→Int) (A0:Nat→Nat→Int) (acc:List Int),x+r=n→r < f→Zr n Ax ⟨(n:Int),B⟩→Cl (n+1) (n+1) A0 Ax→(∀ a,a < n+1→lst Ax a=lst A1 a)→acc.length=x→(∀ i,i < x→acc[i]? = some (lst A1 (i+1))) →
    ∃ m,z33_l2 N z f (n:Int) B acc (x:Int)=some (m,true)∧m.length=n∧∀ i,i < n→m[i]? = some (lst A1 (i+1)):=by
   intro r
   induction r with
   | zero =>
    intro f x B Ax A0 acc hx hf hZ hC hl ha hg
    obtain ⟨f,rfl⟩:∃ q,f=q+1:=⟨f-1,by omega⟩
    have:x=n:=by omega
    subst this
    refine ⟨acc,?_,ha,hg⟩
    rw [z33_l2,h.m,lt_f (Nat.le_refl _)];rfl
   | succ r ih =>
    intro f x B Ax A0 acc hx hf hZ hC hl ha hg
    obtain ⟨f,rfl⟩:∃ q,f=q+1:=⟨f-1,by omega⟩
    have hxM:x+1 < n+1:=by omega
    have hg0:=hZ.r.at' 0 (x+1) (by omega) hxM
    rw [Nat.zero_mul,Nat.zero_add] at hg0
    have b1:=hZ.lo 0 (x+1) (by omega) hxM
    have b2:=hZ.hi 0 (x+1) (by omega) hxM
    have b3:=hC.hi 0 (x+1) (by omega) hxM
    have hf0:fullV 0 (x+1)=10000:=by unfold fullV;rw [if_neg (by omega),if_pos rfl]
    have b4:=hC.hi (x+1) 0 hxM (by omega)
    have hf1:fullV (x+1) 0=10000:=by unfold fullV;rw [if_neg (by omega),if_neg (by omega),if_pos rfl]
    have b5:=hC.tri 0 (by omega) (x+1) (x+1) hxM hxM
    have b6:=hC.diag (x+1) hxM
    rw [z33_l2,h.m,lt_t (show x < n by omega),w64_succ (by omega)]
    simp only [cT,idx_nat,hg0,bS]
    rw [appL_some (by simp;omega)]
    simp only [bS]
    have hv:w64 (0-Ax 0 (x+1))=lst Ax (x+1):=by rw [w64_id (by omega) (by omega)];unfold lst;omega
    rw [hv]
    have hvr:-10000≤lst Ax (x+1)∧lst Ax (x+1)≤10000:=by unfold lst;omega
    obtain ⟨B2,ea,hZ2⟩:=radd_is hN hn hZ (x+1) 0 hxM (by omega) (d:=⟨(x:Int),-1,lst Ax (x+1)⟩) (by simp) (by simp)
    rw [ea]
    simp only [bS]
    have hky:Keep (n+1) (cap (upd Ax (x+1) 0 (minI (Ax (x+1) 0) (maxI (lst Ax (x+1)) (-20001))))) (lst Ax):=fun a b ha' hb'=>by
     have k1:=lst_keep' hC (by omega) a b ha' hb'
     have k2:=hC.hi a b ha' hb'
     have m1:=minI_le (upd Ax (x+1) 0 (minI (Ax (x+1) 0) (maxI (lst Ax (x+1)) (-20001))) a b) (fullV a b)
     have m2:=minI_le (Ax (x+1) 0) (maxI (lst Ax (x+1)) (-20001))
     have m3:=maxI_le (lst Ax (x+1)) (-20001)
     have hlz:=lst_zero hC (by omega)
     have hu:lst Ax a-lst Ax b≤upd Ax (x+1) 0 (minI (Ax (x+1) 0) (maxI (lst Ax (x+1)) (-20001))) a b:=by
      unfold upd
      split
      ·rename_i q
       rw [q.1,q.2] at k1 ⊢
       omega
      ·exact k1
     unfold cap
     omega
    rcases rclose_is hN n hn _ _ hZ2 with ⟨_,hno⟩ | ⟨A3,B3,e3,hz3,hc3⟩
    ·exact absurd hky (hno _)
    ·rw [e3]
     simp only [bS]
     have hl3:∀ a,a < n+1→lst A3 a=lst Ax a:=fun a ha'=>by
      have q1:=lst_le ((hc3.keep _).1 hky) (by omega) (lst_zero hC (by omega)) a ha'
      have q2:Keep (n+1) Ax (lst A3):=fun i j hi hj=>by
       have k1:lst A3 i-lst A3 j≤minI (upd Ax (x+1) 0 (minI (Ax (x+1) 0) (maxI (lst Ax (x+1)) (-20001))) i j) (fullV i j):=(hc3.keep _).2 (lst_keep' hc3 (by omega)) i j hi hj
       have m1:=minI_le (upd Ax (x+1) 0 (minI (Ax (x+1) 0) (maxI (lst Ax (x+1)) (-20001))) i j) (fullV i j)
       have m2:=minI_le (Ax (x+1) 0) (maxI (lst Ax (x+1)) (-20001))
       have:upd Ax (x+1) 0 (minI (Ax (x+1) 0) (maxI (lst Ax (x+1)) (-20001))) i j≤Ax i j:=by
        unfold upd
        split
        ·rename_i q;rw [q.1,q.2];omega
        ·exact Int.le_refl _
       omega
      have q3:=lst_le q2 (by omega) (lst_zero hc3 (by omega)) a ha'
      omega
     refine ih f (x+1) B3 A3 _ _ (by omega) (by omega) hz3 hc3 (fun a ha'=>(hl3 a ha').trans (hl a ha')) (by rw [lA,ha];rfl) fun i hi=>?_
     by_cases c:i < x
     ·rw [List.getElem?_append_left (by omega)];exact hg i c
     ·have:i=x:=by omega
      subst this
      rw [← hl (i+1) hxM,List.getElem?_append_right (by omega),ha]
      simp
  obtain ⟨m,em,hm,hg⟩:=key n N 0 B1 A1 _ [] (by omega) (by omega) hz1 hc1 (fun a _=>rfl) rfl (fun i h=>by omega)
  exact ⟨m,lst A1,em,hm,hg,lst_zero hc1 (by omega),(hc1.keep _).2 (lst_keep' hc1 (by omega)),fun u hu h0 a ha=>lst_le ((hc1.keep u).1 hu) (by omega) h0 a ha⟩
end Gp
end
section
namespace Gp
open Go Go.Kx Gx
variable {N:Nat}
theorem rown_is {x:T0} {first:Nat} (hf:x.First=(first:Int)) (hfl:first≤1000) (hfn:x.Fields.length≤4) (y:Nat):z32 N x (y:Int)=some (decide (first≤y∧y < first+x.Fields.length)):=by
 unfold z32
 rw [hf,w64_id (by omega) (by omega)]
 by_cases c1:first≤y
 ·rw [dT (show (y:Int)≥(first:Int) by omega)]
  by_cases c2:y < first+x.Fields.length
  ·rw [dT (show first≤y∧y < first+x.Fields.length from ⟨c1,c2⟩),dT (by omega)];rfl
  ·rw [dF (show ¬ (first≤y∧y < first+x.Fields.length) from fun h=>c2 h.2),dF (by omega)];rfl
 ·rw [dF (show ¬ (y:Int)≥(first:Int) by omega),dF (show ¬ (first≤y∧y < first+x.Fields.length) from fun h=>c1 h.1)];rfl
abbrev Txt:=Nat→Option ByteArray
def upd1 (σ:Txt) (i:Nat) (t:ByteArray):Txt:=fun j=>if j=i then some t else σ j
def srcV (first n:Nat) (ks:List T5) (σ:Txt) (y:Nat):Option ByteArray:=if first≤y∧y < first+n then σ (y-first) else (ks[y]?).map (·.S)
def turnV (first n:Nat) (ks:List T5) (σ:Txt) (p:Nat × Nat):Option Txt :=
 if first≤p.1∧p.1 < first+n then
  match srcV first n ks σ p.2 with
  | none=>some σ
  | some t=>match σ (p.1-first) with
   | none=>some (upd1 σ (p.1-first) t)
   | some u=>bif eqStr u t then some σ else none
 else some σ
def passV (first n:Nat) (ks:List T5):List (Nat × Nat)→Txt→Option Txt
 | [],σ=>some σ
 | p::r,σ=>(turnV first n ks σ p).bind fun σ=>passV first n ks r σ
def roundV (first n:Nat) (ks:List T5) (l:List (Nat × Nat)):Nat→Txt→Option Txt
 | 0,σ=>some σ
 | k+1,σ=>(passV first n ks l σ).bind fun σ=>roundV first n ks l k σ
def pairsV:List (Int × Int)→List (Nat × Nat)
 | []=>[]
 | e::r=>(e.1.toNat,e.2.toNat)::(e.2.toNat,e.1.toNat)::pairsV r
structure Rp (n:Nat) (σ:Txt) (s:List ByteArray) (b:List Bool):Prop where
 ls:s.length=n
 lb:b.length=n
 b:∀ i,i < n→b[i]? = some (σ i).isSome
 s:∀ i t,i < n→σ i=some t→s[i]? = some t
theorem Rp.set {n:Nat} {σ:Txt} {s:List ByteArray} {b:List Bool} (h:Rp n σ s b) {i:Nat} (hi:i < n) (t:ByteArray):Rp n (upd1 σ i t) (s.set i t) (b.set i true):=by
 refine ⟨by rw [List.length_set];exact h.ls,by rw [List.length_set];exact h.lb,fun j hj=>?_,fun j u hj hu=>?_⟩
 ·rw [List.getElem?_set]
  unfold upd1
  by_cases c:j=i
  ·subst c;rw [if_pos rfl,if_pos rfl,if_pos (by rw [h.lb];exact hj)];rfl
  ·rw [if_neg c,if_neg (Ne.symm c)];exact h.b j hj
 ·rw [List.getElem?_set]
  unfold upd1 at hu
  by_cases c:j=i
  ·subst c;rw [if_pos rfl] at hu;cases hu;rw [if_pos rfl,if_pos (by rw [h.ls];exact hj)]
  ·rw [if_neg c] at hu;rw [if_neg (Ne.symm c)];exact h.s j u hj hu
theorem Rp.same {n:Nat} {σ:Txt} {s:List ByteArray} {b:List Bool} (h:Rp n σ s b) {i:Nat} (hi:i < n) {t:ByteArray} (ht:σ i=some t):Rp n σ (s.set i t) (b.set i true):=by
 refine ⟨by rw [List.length_set];exact h.ls,by rw [List.length_set];exact h.lb,fun j hj=>?_,fun j u hj hu=>?_⟩
 ·rw [List.getElem?_set]
  by_cases c:j=i
  ·subst c;rw [if_pos rfl,if_pos (by rw [h.lb];exact hj),ht];rfl
  ·rw [if_neg (Ne.symm c)];exact h.b j hj
 ·rw [List.getElem?_set]
  by_cases c:j=i
  ·subst c;rw [ht] at hu;cases hu;rw [if_pos rfl,if_pos (by rw [h.ls];exact hj)]
  ·rw [if_neg (Ne.symm c)];exact h.s j u hj hu
def failT:(List ByteArray) × (List Bool) × Bool:=([],[],false)
theorem eqStr_eq {a b:ByteArray} (h:eqStr a b=true):a=b:=by
 unfold eqStr at h
 rw [toList_bs,toList_bs] at h
 exact bs_inj (by simpa using h)
theorem k9_is {x:T0} {first:Nat} (hf:x.First=(first:Int)) (hfl:first≤1000) (hfn:x.Fields.length≤4) {ks:List T5} {σ:Txt} {s:List ByteArray} {b:List Bool} (h:Rp x.Fields.length σ s b) (k:Int) (ag:List ByteArray→List Bool→Int→Option ((List ByteArray) × (List Bool) × Bool)) (p:Nat × Nat) (h2:p.2 < ks.length) :
  (turnV first x.Fields.length ks σ p=none∧z28_k9 N x ks s b k ag (p.1:Int) (p.2:Int)=some failT) ∨
  ∃ σ' s' b',turnV first x.Fields.length ks σ p=some σ'∧Rp x.Fields.length σ' s' b'∧z28_k9 N x ks s b k ag (p.1:Int) (p.2:Int)=ag s' b' (w64 (k+1)):=by
 unfold z28_k9 turnV
 rw [rown_is hf hfl hfn,rown_is hf hfl hfn]
 by_cases c1:first≤p.1∧p.1 < first+x.Fields.length
 ·rw [dT c1,if_pos c1]
  have hi:p.1-first < x.Fields.length:=by omega
  have hw:w64 ((p.1:Int)-x.First)=((p.1-first:Nat):Int):=by rw [hf,w64_id (by omega) (by omega)];omega
  -- what a source gives
  have key:∀ t:ByteArray,srcV first x.Fields.length ks σ p.2=some t→(∀ u,u=t→(turnV first x.Fields.length ks σ p=turnV first x.Fields.length ks σ p)) →
    ((match σ (p.1-first) with | none=>some (upd1 σ (p.1-first) t) | some u=>bif eqStr u t then some σ else none)=none∧z28_k8 x s b k ag (p.1:Int) t true=some failT) ∨
    ∃ σ' s' b',(match σ (p.1-first) with | none=>some (upd1 σ (p.1-first) t) | some u=>bif eqStr u t then some σ else none)=some σ'∧Rp x.Fields.length σ' s' b'∧z28_k8 x s b k ag (p.1:Int) t true=ag s' b' (w64 (k+1)):=by
   intro t ht _
   have hb:=h.b _ hi
   unfold z28_k8
   rw [hw,idx_nat,hb]
   have hs0:=List.getElem?_eq_getElem (show p.1-first < s.length by rw [h.ls];exact hi)
   have hb0:=List.getElem?_eq_getElem (show p.1-first < b.length by rw [h.lb];exact hi)
   cases hσ:σ (p.1-first) with
   | none =>
    right
    refine ⟨_,_,_,rfl,h.set hi t,?_⟩
    simp only [Option.isSome_none,cT,cF,bS]
    unfold z28_k7
    simp only [cT,cF,hw,idx_nat,hs0,hb0,bS,setL'_nat]
   | some u =>
    have hsu:=h.s _ _ hi hσ
    simp only [Option.isSome_some,cT,bS,idx_nat,hsu]
    show (_∧z28_k7 x s b k ag (p.1:Int) t true (!(eqStr u t))=some failT)∨∃ σ' s' b',_∧_∧z28_k7 x s b k ag (p.1:Int) t true (!(eqStr u t))=ag s' b' (w64 (k+1))
    unfold z28_k7
    cases e:eqStr u t with
    | false=>exact .inl ⟨rfl,rfl⟩
    | true =>
     right
     have:=eqStr_eq e
     subst this
     refine ⟨_,_,_,rfl,h.same hi hσ,?_⟩
     simp only [Bool.not_true,cT,cF,hw,idx_nat,hs0,hb0,bS,setL'_nat]
  by_cases c2:first≤p.2∧p.2 < first+x.Fields.length
  ·have hj:p.2-first < x.Fields.length:=by omega
   have hw2:w64 ((p.2:Int)-x.First)=((p.2-first:Nat):Int):=by rw [hf,w64_id (by omega) (by omega)];omega
   have hs0:=List.getElem?_eq_getElem (show p.2-first < s.length by rw [h.ls];exact hj)
   have e:srcV first x.Fields.length ks σ p.2=σ (p.2-first):=by unfold srcV;rw [if_pos c2]
   rw [dT c2]
   simp only [bS,Bool.not_true,cF,cT,hw2,idx_nat,hs0,h.b _ hj]
   cases hσ:σ (p.2-first) with
   | none =>
    right
    refine ⟨σ,s,b,by rw [e,hσ],h,?_⟩
    unfold z28_k8 z28_k7;rfl
   | some t =>
    have hst:=h.s _ _ hj hσ
    rw [hs0] at hst
    rw [Option.some.inj hst]
    rw [e,hσ]
    exact key t (by rw [e,hσ]) fun _ _=>rfl
  ·have hv:=List.getElem?_eq_getElem h2
   have e:srcV first x.Fields.length ks σ p.2=some (ks[p.2]).S:=by unfold srcV;rw [if_neg c2,hv];rfl
   rw [dF c2]
   simp only [bS,Bool.not_true,cF,idx_nat,hv]
   rw [e]
   exact key _ e fun _ _=>rfl
 ·rw [dF c1,if_neg c1]
  exact .inr ⟨σ,s,b,rfl,h,rfl⟩
theorem tpair_is {x:T0} {first:Nat} (hf:x.First=(first:Int)) (hfl:first≤1000) (hfn:x.Fields.length≤4) {ks:List T5} {σ:Txt} {s:List ByteArray} {b:List Bool} (h:Rp x.Fields.length σ s b) (j:Nat) (hj:j≤4194304) (ag:List ByteArray→List Bool→Int→Option ((List ByteArray) × (List Bool) × Bool)) {e:Int × Int} (he:x.Guard.Equals[j]? = some e) (h1:0≤e.1∧e.1 < (ks.length:Int)) (h2:0≤e.2∧e.2 < (ks.length:Int)) (n:Nat) (hn3:3≤n) :
  (passV first x.Fields.length ks [(e.1.toNat,e.2.toNat),(e.2.toNat,e.1.toNat)] σ=none∧z28_l6 N x ks (j:Int) ag n s b 0=some failT) ∨
  ∃ σ' s' b',passV first x.Fields.length ks [(e.1.toNat,e.2.toNat),(e.2.toNat,e.1.toNat)] σ=some σ'∧Rp x.Fields.length σ' s' b'∧z28_l6 N x ks (j:Int) ag n s b 0=ag s' b' ((j+1:Nat):Int):=by
 obtain ⟨n,rfl⟩:∃ m,n=m+3:=⟨n-3,by omega⟩
 have e1:e.1=((e.1.toNat:Nat):Int):=by omega
 have e2:e.2=((e.2.toNat:Nat):Int):=by omega
 have t0:decide ((0:Int) < 2)=true:=rfl
 have t1:decide ((1:Int) < 2)=true:=rfl
 have t2:decide ((2:Int) < 2)=false:=rfl
 have w1:w64 ((0:Int)+1)=1:=by rw [w64_id (by omega) (by omega)];rfl
 have w2:w64 ((1:Int)+1)=2:=by rw [w64_id (by omega) (by omega)];rfl
 have q0:w64 ((1:Int)-0)=1:=by rw [w64_id (by omega) (by omega)];rfl
 have q1:w64 ((1:Int)-1)=0:=by rw [w64_id (by omega) (by omega)];rfl
 have b00:((0:Int)==0)=true:=rfl
 have b10:((1:Int)==0)=false:=rfl
 have b11:((1:Int)==1)=true:=rfl
 rw [z28_l6,t0,idx_nat,he,q0]
 simp only [cT,cF,bS,b00,b10,b11]
 have s1:=k9_is (N:=N) hf hfl hfn h 0 (z28_l6 N x ks (j:Int) ag (n+2)) (e.1.toNat,e.2.toNat) (by show e.2.toNat < ks.length;omega)
 simp only [← e1,← e2] at s1
 rcases s1 with ⟨s1,s2⟩ | ⟨σ1,u1,v1,s1,s2,s3⟩
 ·left
  rw [s2]
  exact ⟨by unfold passV;rw [s1];rfl,rfl⟩
 ·rw [s3,w1,z28_l6,t1,idx_nat,he,q1]
  simp only [cT,cF,bS,b00,b10,b11]
  have r1:=k9_is (N:=N) hf hfl hfn s2 1 (z28_l6 N x ks (j:Int) ag (n+1)) (e.2.toNat,e.1.toNat) (by show e.1.toNat < ks.length;omega)
  simp only [← e1,← e2] at r1
  rcases r1 with ⟨r1,r2⟩ | ⟨σ2,u2,v2,r1,r2,r3⟩
  ·left
   rw [r2]
   refine ⟨?_,rfl⟩
   unfold passV;rw [s1,bS];unfold passV;rw [r1];rfl
  ·right
   rw [r3,w2,z28_l6,t2]
   simp only [cF]
   unfold z28_k5
   rw [w64_succ (by omega)]
   refine ⟨σ2,u2,v2,?_,r2,rfl⟩
   unfold passV;rw [s1,bS];unfold passV;rw [r1];rfl
theorem pass_app (first n:Nat) (ks:List T5):∀ (a b:List (Nat × Nat)) (σ:Txt),passV first n ks (a++b) σ=(passV first n ks a σ).bind fun σ=>passV first n ks b σ
 | [],b,σ=>rfl
 | p::a,b,σ=>by
  rw [List.cons_append,passV,passV]
  cases turnV first n ks σ p with
  | none=>rfl
  | some σ'=>exact pass_app first n ks a b σ'
theorem tpass_is (hN:4194304 < N) {x:T0} {first:Nat} (hf:x.First=(first:Int)) (hfl:first≤1000) (hfn:x.Fields.length≤4) {ks:List T5} (hin:InG ks.length x.Guard) (k:Int) (ag:List ByteArray→List Bool→Int→Option ((List ByteArray) × (List Bool) × Bool)) :
  ∀ (r:List (Int × Int)) (n j:Nat) (σ:Txt) (s:List ByteArray) (b:List Bool),x.Guard.Equals.drop j=r→r.length < n→Rp x.Fields.length σ s b →
  (passV first x.Fields.length ks (pairsV r) σ=none∧z28_l4 N x ks k ag n s b (j:Int)=some failT) ∨
  ∃ σ' s' b',passV first x.Fields.length ks (pairsV r) σ=some σ'∧Rp x.Fields.length σ' s' b'∧z28_l4 N x ks k ag n s b (j:Int)=ag s' b' (w64 (k+1))
 | [],n,j,σ,s,b,hd,hn,h=>by
  obtain ⟨n,rfl⟩:∃ m,n=m+1:=⟨n-1,by omega⟩
  rw [z28_l4,lt_f (drop_nil hd)]
  exact .inr ⟨σ,s,b,rfl,h,rfl⟩
 | e::r,n,j,σ,s,b,hd,hn,h=>by
  obtain ⟨n,rfl⟩:∃ m,n=m+1:=⟨n-1,by omega⟩
  obtain ⟨hk,he,hr⟩:=drop_cons hd
  have hel:=hin.el
  obtain ⟨a1,a2⟩:=hin.e e (List.mem_of_getElem? he)
  rw [z28_l4,lt_t hk]
  simp only [cT]
  have hp:pairsV (e::r)=[(e.1.toNat,e.2.toNat),(e.2.toNat,e.1.toNat)]++pairsV r:=rfl
  rw [hp,pass_app]
  rcases tpair_is (N:=N) hf hfl hfn h j (by omega) (z28_l4 N x ks k ag n) he a1 a2 N (by omega) with ⟨q1,q2⟩ | ⟨σ1,s1,b1,q1,q2,q3⟩
  ·left;rw [q1];exact ⟨rfl,q2⟩
  ·rw [q1,q3]
   exact tpass_is hN hf hfl hfn hin k ag r n (j+1) σ1 s1 b1 hr (by simp at hn;omega) q2
theorem trounds_is (hN:4194304 < N) {x:T0} {first:Nat} (hf:x.First=(first:Int)) (hfl:first≤1000) (hfn:x.Fields.length≤4) {ks:List T5} (hin:InG ks.length x.Guard) :
  ∀ (q n k:Nat) (σ:Txt) (s:List ByteArray) (b:List Bool),k+q=x.Fields.length+1→q < n→Rp x.Fields.length σ s b →
  (roundV first x.Fields.length ks (pairsV x.Guard.Equals) q σ=none∧z28_l2 N x ks n s b (k:Int)=some failT) ∨
  ∃ σ' s' b',roundV first x.Fields.length ks (pairsV x.Guard.Equals) q σ=some σ'∧Rp x.Fields.length σ' s' b'∧z28_l2 N x ks n s b (k:Int)=some (s',b',true)
 | 0,n,k,σ,s,b,hk,hn,h=>by
  obtain ⟨n,rfl⟩:∃ m,n=m+1:=⟨n-1,by omega⟩
  rw [z28_l2,dF (by omega)]
  exact .inr ⟨σ,s,b,rfl,h,rfl⟩
 | q+1,n,k,σ,s,b,hk,hn,h=>by
  obtain ⟨n,rfl⟩:∃ m,n=m+1:=⟨n-1,by omega⟩
  have hel:=hin.el
  rw [z28_l2,dT (by omega),roundV]
  simp only [cT]
  rcases tpass_is hN hf hfl hfn hin (k:Int) (z28_l2 N x ks n) x.Guard.Equals N 0 σ s b rfl (by omega) h with ⟨q1,q2⟩ | ⟨σ1,s1,b1,q1,q2,q3⟩
  ·left;rw [q1];exact ⟨rfl,q2⟩
  ·have q3:z28_l4 N x ks (k:Int) (z28_l2 N x ks n) N s b (0:Int)=z28_l2 N x ks n s1 b1 (w64 ((k:Int)+1)):=q3
   rw [q1,q3,w64_succ (by omega)]
   exact trounds_is hN hf hfl hfn hin q n (k+1) σ1 s1 b1 (by omega) (by omega) q2
theorem mkL_ok' {α:Type} (n:Nat) (h:n≤4294967296) (v:α):mkL v (n:Int) (n:Int)=some (List.replicate n v):=by
 unfold mkL
 have h3:decide ((n:Int)≤4294967296)=true:=by simp;omega
 simp
 rw [h3];rfl
theorem rtexts_is (hN:4194304 < N) {x:T0} {first:Nat} (hf:x.First=(first:Int)) (hfl:first≤1000) (hfn:x.Fields.length≤4) {ks:List T5} (hin:InG ks.length x.Guard) :
  (roundV first x.Fields.length ks (pairsV x.Guard.Equals) (x.Fields.length+1) (fun _=>none)=none∧z28 N x ks=some failT) ∨
  ∃ σ' s' b',roundV first x.Fields.length ks (pairsV x.Guard.Equals) (x.Fields.length+1) (fun _=>none)=some σ'∧Rp x.Fields.length σ' s' b'∧z28 N x ks=some (s',b',true):=by
 unfold z28
 rw [mkL_ok' _ (by omega),mkL_ok' _ (by omega)]
 simp only [bS]
 exact trounds_is hN hf hfl hfn hin (x.Fields.length+1) N 0 (fun _=>none) _ _ (by omega) (by omega) ⟨by simp,by simp,fun i hi=>by simp [hi],fun i t _ h=>by cases h⟩
end Gp
end
section
namespace Gp
open Go Go.Kx Gx
variable {first n:Nat} {ks:List T5}
def LeT (σ σ':Txt):Prop:=∀ i t,σ i=some t→σ' i=some t
theorem LeT.trans {a b c:Txt} (h:LeT a b) (k:LeT b c):LeT a c:=fun i t e=>k i t (h i t e)
theorem turn_cases {σ σ':Txt} {p:Nat × Nat} (h:turnV first n ks σ p=some σ'):σ'=σ∨∃ t,(first≤p.1∧p.1 < first+n)∧srcV first n ks σ p.2=some t∧σ (p.1-first)=none∧σ'=upd1 σ (p.1-first) t:=by
 unfold turnV at h
 split at h
 ·rename_i ho
  cases hs:srcV first n ks σ p.2 with
  | none=>rw [hs] at h;cases h;exact .inl rfl
  | some t =>
   rw [hs] at h
   cases hc:σ (p.1-first) with
   | none=>rw [hc] at h;cases h;exact .inr ⟨t,ho,rfl,rfl,rfl⟩
   | some u =>
    rw [hc] at h
    have h:(bif eqStr u t then some σ else none)=some σ':=h
    cases e:eqStr u t with
    | false=>rw [e] at h;cases h
    | true=>rw [e] at h;cases h;exact .inl rfl
 ·cases h;exact .inl rfl
theorem turn_le {σ σ':Txt} {p:Nat × Nat} (h:turnV first n ks σ p=some σ'):LeT σ σ':=by
 rcases turn_cases h with rfl | ⟨t,_,_,h3,rfl⟩
 ·exact fun i u e=>e
 ·intro i u e
  unfold upd1
  by_cases c:i=p.1-first
  ·rw [c,h3] at e;cases e
  ·rw [if_neg c];exact e
theorem turn_set {σ σ':Txt} {p:Nat × Nat} (h:turnV first n ks σ p=some σ') (ho:first≤p.1∧p.1 < first+n) {t:ByteArray} (hs:srcV first n ks σ p.2=some t):σ' (p.1-first)=some t:=by
 unfold turnV at h
 rw [if_pos ho,hs] at h
 cases hc:σ (p.1-first) with
 | none =>
  rw [hc] at h
  cases h
  unfold upd1;rw [if_pos rfl]
 | some u =>
  rw [hc] at h
  have h:(bif eqStr u t then some σ else none)=some σ':=h
  cases e:eqStr u t with
  | false=>rw [e] at h;cases h
  | true=>rw [e] at h;cases h;rw [hc,eqStr_eq e]
theorem pass_le:∀ {l:List (Nat × Nat)} {σ σ':Txt},passV first n ks l σ=some σ'→LeT σ σ'
 | [],σ,σ',h=>by cases h;exact fun i t e=>e
 | p::r,σ,σ',h=>by
  rw [passV] at h
  cases ht:turnV first n ks σ p with
  | none=>rw [ht] at h;cases h
  | some σ1=>rw [ht] at h;exact (turn_le ht).trans (pass_le h)
def Closed (first n:Nat) (ks:List T5) (l:List (Nat × Nat)) (σ:Txt):Prop:=∀ p∈l,first≤p.1∧p.1 < first+n→∀ t,srcV first n ks σ p.2=some t→σ (p.1-first)=some t
theorem src_back {σ σ':Txt} (hle:LeT σ σ') (hng:∀ i,i < n→σ i=none→σ' i=none) {y:Nat} {t:ByteArray} (h:srcV first n ks σ' y=some t):srcV first n ks σ y=some t:=by
 unfold srcV at h ⊢
 split at h
 ·rename_i ho
  cases hc:σ (y-first) with
  | none=>rw [hng _ (by omega) hc] at h;cases h
  | some u =>
   have:=hle _ _ hc
   rw [this] at h
   rw [if_pos ho];exact h
 ·rename_i ho
  rw [if_neg ho];exact h
theorem pass_closed:∀ {l:List (Nat × Nat)} {σ σ':Txt},passV first n ks l σ=some σ'→(∀ i,i < n→σ i=none→σ' i=none)→Closed first n ks l σ'
 | [],σ,σ',h,hng=>fun p hp=>by cases hp
 | p::r,σ,σ',h,hng=>by
  have hall:=pass_le h
  rw [passV] at h
  cases ht:turnV first n ks σ p with
  | none=>rw [ht] at h;cases h
  | some σ1 =>
   rw [ht] at h
   have h:passV first n ks r σ1=some σ':=h
   have l1:=turn_le ht
   have l2:=pass_le h
   have ih:=pass_closed h fun i hi e=>by
    cases hc:σ i with
    | none=>exact hng i hi hc
    | some u=>rw [l1 i u hc] at e;cases e
   intro q hq ho t hs
   rcases List.mem_cons.1 hq with rfl | hq
   ·exact l2 _ _ (turn_set ht ho (src_back hall hng hs))
   ·exact ih q hq ho t hs
theorem closed_pass:∀ {l:List (Nat × Nat)} {σ:Txt},Closed first n ks l σ→passV first n ks l σ=some σ
 | [],σ,h=>rfl
 | p::r,σ,h=>by
  have e:turnV first n ks σ p=some σ:=by
   unfold turnV
   split
   ·rename_i ho
    cases hs:srcV first n ks σ p.2 with
    | none=>rfl
    | some t =>
     have:=h p List.mem_cons_self ho t hs
     rw [this]
     show (bif eqStr t t then some σ else none)=some σ
     rw [eqStr_refl];rfl
   ·rfl
  rw [passV,e]
  exact closed_pass fun q hq=>h q (List.mem_cons_of_mem _ hq)
theorem closed_round {l:List (Nat × Nat)} {σ:Txt} (h:Closed first n ks l σ):∀ k,roundV first n ks l k σ=some σ
 | 0=>rfl
 | k+1=>by rw [roundV,closed_pass h];exact closed_round h k
def cntT:Nat→Txt→Nat
 | 0,_=>0
 | k+1,σ=>cntT k σ+(if (σ k).isNone then 1 else 0)
theorem cnt_le {σ σ':Txt} (h:LeT σ σ'):∀ k,cntT k σ'≤cntT k σ∧(cntT k σ'=cntT k σ→∀ i,i < k→σ i=none→σ' i=none)
 | 0=>⟨Nat.le_refl _,fun _ i hi=>by omega⟩
 | k+1=>by
  obtain ⟨h1,h2⟩:=cnt_le h k
  rw [cntT,cntT]
  cases hc:σ k with
  | none =>
   cases hc':σ' k with
   | none =>
    refine ⟨by simp;exact h1,fun e i hi hn=>?_⟩
    by_cases c:i=k
    ·rw [c];exact hc'
    ·exact h2 (by simpa using e) i (by omega) hn
   | some u =>
    simp only [Option.isNone_none,Option.isNone_some]
    exact ⟨by simp;omega,fun e=>by simp at e;omega⟩
  | some u =>
   have hc':=h k u hc
   rw [hc']
   refine ⟨by simp;exact h1,fun e i hi hn=>?_⟩
   by_cases c:i=k
   ·rw [c,hc] at hn;cases hn
   ·exact h2 (by simpa using e) i (by omega) hn
theorem cnt_none:∀ k σ,cntT k σ≤k
 | 0,_=>Nat.le_refl _
 | k+1,σ=>by
  have:=cnt_none k σ
  rw [cntT]
  split<;>omega
theorem round_closed {l:List (Nat × Nat)}:∀ (k:Nat) {σ σ':Txt},roundV first n ks l k σ=some σ'→cntT n σ < k→Closed first n ks l σ'
 | 0,σ,σ',h,hc=>by omega
 | k+1,σ,σ',h,hc=>by
  rw [roundV] at h
  cases hp:passV first n ks l σ with
  | none=>rw [hp] at h;cases h
  | some σ1 =>
   rw [hp] at h
   have h:roundV first n ks l k σ1=some σ':=h
   obtain ⟨q1,q2⟩:=cnt_le (pass_le hp) n
   by_cases e:cntT n σ1=cntT n σ
   ·have hcl:=pass_closed hp (q2 e)
    rw [closed_round hcl k] at h
    cases h
    exact hcl
   ·exact round_closed k h (by omega)
theorem turn_orig {P:ByteArray→Prop} (hP:∀ v∈ks,P v.S) {σ σ':Txt} {p:Nat × Nat} (h:turnV first n ks σ p=some σ') (hσ:∀ i t,σ i=some t→P t):∀ i t,σ' i=some t→P t:=by
 rcases turn_cases h with rfl | ⟨t,h1,h2,_,rfl⟩
 ·exact hσ
 ·intro i u e
  unfold upd1 at e
  by_cases c:i=p.1-first
  ·rw [if_pos c] at e
   cases e
   unfold srcV at h2
   split at h2
   ·exact hσ _ _ h2
   ·cases hk:ks[p.2]? with
    | none=>rw [hk] at h2;cases h2
    | some v=>rw [hk] at h2;cases h2;exact hP v (List.mem_of_getElem? hk)
  ·rw [if_neg c] at e;exact hσ i u e
theorem pass_orig {P:ByteArray→Prop} (hP:∀ v∈ks,P v.S):∀ {l:List (Nat × Nat)} {σ σ':Txt},passV first n ks l σ=some σ'→(∀ i t,σ i=some t→P t)→∀ i t,σ' i=some t→P t
 | [],σ,σ',h,hσ=>by cases h;exact hσ
 | p::r,σ,σ',h,hσ=>by
  rw [passV] at h
  cases ht:turnV first n ks σ p with
  | none=>rw [ht] at h;cases h
  | some σ1=>rw [ht] at h;exact pass_orig hP h (turn_orig hP ht hσ)
theorem round_orig {P:ByteArray→Prop} (hP:∀ v∈ks,P v.S) {l:List (Nat × Nat)}:∀ (k:Nat) {σ σ':Txt},roundV first n ks l k σ=some σ'→(∀ i t,σ i=some t→P t)→∀ i t,σ' i=some t→P t
 | 0,σ,σ',h,hσ=>by cases h;exact hσ
 | k+1,σ,σ',h,hσ=>by
  rw [roundV] at h
  cases hp:passV first n ks l σ with
  | none=>rw [hp] at h;cases h
  | some σ1=>rw [hp] at h;exact round_orig hP k h (pass_orig hP hp hσ)
structure Wok (first n:Nat) (ks:List T5) (l:List (Nat × Nat)) (W:Nat→Option ByteArray):Prop where
  k:∀ y,¬ (first≤y∧y < first+n)→W y=(ks[y]?).map (·.S)
  e:∀ p∈l,W p.1=W p.2
def AgT (first n:Nat) (σ:Txt) (W:Nat→Option ByteArray):Prop:=∀ i t,i < n→σ i=some t→W (first+i)=some t
theorem turn_ok {W:Nat→Option ByteArray} {l:List (Nat × Nat)} (hW:Wok first n ks l W) {σ:Txt} {p:Nat × Nat} (hp:p∈l) (h:AgT first n σ W):∃ σ',turnV first n ks σ p=some σ'∧AgT first n σ' W:=by
 unfold turnV
 split
 ·rename_i ho
  cases hs:srcV first n ks σ p.2 with
  | none=>exact ⟨σ,rfl,h⟩
  | some t =>
   have hw:W p.2=some t:=by
    unfold srcV at hs
    split at hs
    ·have:=h (p.2-first) t (by omega) hs
     rw [show first+(p.2-first)=p.2 by omega] at this;exact this
    ·rename_i ho2;rw [hW.k _ ho2];exact hs
   have hw1:W p.1=some t:=(hW.e p hp).trans hw
   cases hc:σ (p.1-first) with
   | none =>
    refine ⟨_,rfl,fun i u hi e=>?_⟩
    unfold upd1 at e
    by_cases c:i=p.1-first
    ·rw [if_pos c] at e;cases e
     rw [c,show first+(p.1-first)=p.1 by omega];exact hw1
    ·rw [if_neg c] at e;exact h i u hi e
   | some u =>
    have:=h (p.1-first) u (by omega) hc
    rw [show first+(p.1-first)=p.1 by omega,hw1] at this
    cases this
    refine ⟨σ,?_,h⟩
    show (bif eqStr t t then some σ else none)=some σ
    rw [eqStr_refl];rfl
 ·exact ⟨σ,rfl,h⟩
theorem pass_ok {W:Nat→Option ByteArray} {l:List (Nat × Nat)} (hW:Wok first n ks l W):∀ {r:List (Nat × Nat)} {σ:Txt},(∀ p∈r,p∈l)→AgT first n σ W→∃ σ',passV first n ks r σ=some σ'∧AgT first n σ' W
 | [],σ,_,h=>⟨σ,rfl,h⟩
 | p::r,σ,hr,h=>by
  obtain ⟨σ1,e1,h1⟩:=turn_ok hW (hr p List.mem_cons_self) h
  rw [passV,e1]
  exact pass_ok hW (fun q hq=>hr q (List.mem_cons_of_mem _ hq)) h1
theorem round_ok {W:Nat→Option ByteArray} {l:List (Nat × Nat)} (hW:Wok first n ks l W):∀ (k:Nat) {σ:Txt},AgT first n σ W→∃ σ',roundV first n ks l k σ=some σ'∧AgT first n σ' W
 | 0,σ,h=>⟨σ,rfl,h⟩
 | k+1,σ,h=>by
  obtain ⟨σ1,e1,h1⟩:=pass_ok hW (fun p hp=>hp) h
  rw [roundV,e1]
  exact round_ok hW k h1
theorem pairs_mem:∀ {l:List (Int × Int)} {e:Int × Int},e∈l→(e.1.toNat,e.2.toNat)∈pairsV l∧(e.2.toNat,e.1.toNat)∈pairsV l
 | d::r,e,h=>by
  rcases List.mem_cons.1 h with rfl | h
  ·exact ⟨List.mem_cons_self,List.mem_cons_of_mem _ List.mem_cons_self⟩
  ·obtain ⟨h1,h2⟩:=pairs_mem h
   exact ⟨List.mem_cons_of_mem _ (List.mem_cons_of_mem _ h1),List.mem_cons_of_mem _ (List.mem_cons_of_mem _ h2)⟩
theorem pairs_inv:∀ {l:List (Int × Int)} {p:Nat × Nat},p∈pairsV l→∃ e∈l,p=(e.1.toNat,e.2.toNat)∨p=(e.2.toNat,e.1.toNat)
 | d::r,p,h=>by
  rcases List.mem_cons.1 h with rfl | h
  ·exact ⟨d,List.mem_cons_self,.inl rfl⟩
  rcases List.mem_cons.1 h with rfl | h
  ·exact ⟨d,List.mem_cons_self,.inr rfl⟩
  obtain ⟨e,he,hp⟩:=pairs_inv h
  exact ⟨e,List.mem_cons_of_mem _ he,hp⟩
end Gp
end
section
section
namespace Gp
open Go Go.Kx Gx
variable {N:Nat}
structure Bd (x:T0) (L:Nat) (z:List T1):Prop where
 len:z.length≤33554432
 inn:∀ b∈z,b.X < (L:Int)∧b.Y < (L:Int)
 low:∀ (i:Nat) (f:T2),x.Fields[i]? = some f→(⟨-1,w64 (x.First+(i:Int)),w64 (0-f.Sort'.Lo)⟩:T1)∈z
end Gp
end
section
namespace Gp
open Go Go.Kx Gx
variable {N:Nat}
def Small (ks:List T5):Prop:=∀ (i:Nat) (v:T5),ks[i]? = some v→-1000≤vnum v∧vnum v≤1000
end Gp
end
section
namespace Gp
open Go Go.Kx Gx
variable {N:Nat}
def fldB (first:Nat):Nat→List T2→List T1
 | _,[]=>[]
 | i,f::r=>⟨((first+i:Nat):Int),-1,f.Sort'.Hi⟩::⟨-1,((first+i:Nat):Int),-f.Sort'.Lo⟩::fldB first (i+1) r
def eqB:List (Int × Int)→List T1
 | []=>[]
 | e::r=>⟨e.1,e.2,0⟩::⟨e.2,e.1,0⟩::eqB r
theorem fldB_len (first:Nat):∀ (l:List T2) (i:Nat),(fldB first i l).length=2 * l.length
 | [],_=>rfl
 | f::r,i=>by show (fldB first (i+1) r).length+1+1=2 * (r.length+1);rw [fldB_len first r (i+1)];omega
theorem eqB_len:∀ (l:List (Int × Int)),(eqB l).length=2 * l.length
 | []=>rfl
 | e::r=>by show (eqB r).length+1+1=2 * (r.length+1);rw [eqB_len r];omega
theorem fldB_mem (first:Nat):∀ (l:List T2) (i k:Nat) (f:T2),l[k]? = some f→(⟨((first+(i+k):Nat):Int),-1,f.Sort'.Hi⟩:T1)∈fldB first i l∧(⟨-1,((first+(i+k):Nat):Int),-f.Sort'.Lo⟩:T1)∈fldB first i l
 | [],_,_,_,h=>by simp at h
 | g::r,i,0,f,h=>by
  have:g=f:=by simpa using h
  subst this
  exact ⟨List.mem_cons_self,List.mem_cons_of_mem _ List.mem_cons_self⟩
 | g::r,i,k+1,f,h=>by
  obtain ⟨h1,h2⟩:=fldB_mem first r (i+1) k f (by simpa using h)
  rw [show i+1+k=i+(k+1) by omega] at h1 h2
  exact ⟨List.mem_cons_of_mem _ (List.mem_cons_of_mem _ h1),List.mem_cons_of_mem _ (List.mem_cons_of_mem _ h2)⟩
theorem fldB_inv (first:Nat):∀ (l:List T2) (i:Nat) (b:T1),b∈fldB first i l→∃ k f,l[k]? = some f∧(b=⟨((first+(i+k):Nat):Int),-1,f.Sort'.Hi⟩∨b=⟨-1,((first+(i+k):Nat):Int),-f.Sort'.Lo⟩)
 | [],_,b,h=>by simp [fldB] at h
 | g::r,i,b,h=>by
  rcases List.mem_cons.1 h with h | h
  ·exact ⟨0,g,rfl,.inl h⟩
  ·rcases List.mem_cons.1 h with h | h
   ·exact ⟨0,g,rfl,.inr h⟩
   ·obtain ⟨k,f,h1,h2⟩:=fldB_inv first r (i+1) b h
    rw [show i+1+k=i+(k+1) by omega] at h2
    exact ⟨k+1,f,by simpa using h1,h2⟩
theorem eqB_mem {l:List (Int × Int)} {e:Int × Int} (h:e∈l):(⟨e.1,e.2,0⟩:T1)∈eqB l∧(⟨e.2,e.1,0⟩:T1)∈eqB l:=by
 induction l with
 | nil=>simp at h
 | cons g r ih =>
  rcases List.mem_cons.1 h with h | h
  ·subst h;exact ⟨List.mem_cons_self,List.mem_cons_of_mem _ List.mem_cons_self⟩
  ·obtain ⟨h1,h2⟩:=ih h
   exact ⟨List.mem_cons_of_mem _ (List.mem_cons_of_mem _ h1),List.mem_cons_of_mem _ (List.mem_cons_of_mem _ h2)⟩
theorem eqB_inv {l:List (Int × Int)} {b:T1} (h:b∈eqB l):∃ e∈l,b=⟨e.1,e.2,0⟩∨b=⟨e.2,e.1,0⟩:=by
 induction l with
 | nil=>simp [eqB] at h
 | cons g r ih =>
  rcases List.mem_cons.1 h with h | h
  ·exact ⟨g,List.mem_cons_self,.inl h⟩
  ·rcases List.mem_cons.1 h with h | h
   ·exact ⟨g,List.mem_cons_self,.inr h⟩
   ·obtain ⟨e,h1,h2⟩:=ih h
    exact ⟨e,List.mem_cons_of_mem _ h1,h2⟩
structure BdX (x:T0) (first L:Nat) (z:List T1):Prop where
 bd:Bd x L z
 c:∀ b∈z,-20000≤b.C∧b.C≤20000
 fld:∀ (k:Nat) (f:T2),x.Fields[k]? = some f→(⟨((first+k:Nat):Int),-1,f.Sort'.Hi⟩:T1)∈z∧(⟨-1,((first+k:Nat):Int),-f.Sort'.Lo⟩:T1)∈z
 dif:∀ b∈x.Guard.Diffs,b∈z
 eqs:∀ e∈x.Guard.Equals,(⟨e.1,e.2,0⟩:T1)∈z∧(⟨e.2,e.1,0⟩:T1)∈z
 inv:∀ b∈z,(∃ (k:Nat) (f:T2),x.Fields[k]? = some f∧(b=⟨((first+k:Nat):Int),-1,f.Sort'.Hi⟩∨b=⟨-1,((first+k:Nat):Int),-f.Sort'.Lo⟩))∨b∈x.Guard.Diffs∨∃ e∈x.Guard.Equals,b=⟨e.1,e.2,0⟩∨b=⟨e.2,e.1,0⟩
end Gp
end
section
namespace Gp
open Go Go.Kx Gx
variable {N:Nat}
structure Sg (F:List T2) (x:T0) (first:Nat) (ks:List T5):Prop where
 hx:SizeD x
 hf:x.First=(first:Int)
 hfn:x.Fields.length≤4
 hle:first+x.Fields.length≤ks.length
 hk:ks.length≤24
 hin:InG ks.length x.Guard
 so:∀ f∈F,sortOk f.Sort'
 ff:∀ k,k < x.Fields.length→F[first+k]? = x.Fields[k]?
 fl:F.length=ks.length
 fits:∀ (y:Nat) (v:T5),ks[y]? = some v→zeroV v=true∨∃ f,F[y]? = some f∧fitsV f.Sort' v=true
 tv:∀ e∈x.Guard.Equals,textV F e.1=true∧textV F e.2=true
 dc:∀ b∈x.Guard.Diffs,-20000≤b.C∧b.C≤20000
 sz:∀ v∈ks,v.S.size≤4194304
theorem fits_num {s:T4} {v:T5} (hs:sortOk s) (h:fitsV s v=true):v.Kind=s.Kind∧s.Lo≤vnum v∧vnum v≤s.Hi∧-1000≤vnum v∧vnum v≤1000∧(v.Kind=1∨v.Kind=2):=by
 unfold fitsV at h
 simp only [Bool.and_eq_true,decide_eq_true_eq,beq_iff_eq] at h
 unfold sortOk at hs
 omega
theorem zero_num {v:T5} (h:zeroV v=true):v.Kind=0∧vnum v=0∧v.N=0:=by
 unfold zeroV at h
 simp only [Bool.and_eq_true,beq_iff_eq] at h
 refine ⟨h.1,?_,h.2.1⟩
 unfold vnum
 rw [h.1]
 exact h.2.1
theorem Sg.sx {F:List T2} {x:T0} {first:Nat} {ks:List T5} (h:Sg F x first ks) {f:T2} {k:Nat} (hf:x.Fields[k]? = some f):sortOk f.Sort':=by
 have hk:=(List.getElem?_eq_some_iff.1 hf).1
 exact h.so f (List.mem_of_getElem? ((h.ff k hk).trans hf))
theorem sg_of {d:List T0} (hv:validD d=true) {i:Nat} {x:T0} (hx:d[i]? = some x) (hsx:SizeD x) {ks:List T5} (hkn:knownV (flat d) ks=true) (hsz:∀ v∈ks,v.S.size≤4194304):∃ first,Sg (flat d) x first ks:=by
 obtain ⟨first,f1,f2,f3,f4,hdv⟩:=valid_at hv hx
 have hkl:=known_len hkn
 have hin:InG ks.length x.Guard:=by rw [← hkl];exact inG_of (guard_of hdv)
 have hg:=guard_of hdv
 have hdv2:=hdv
 unfold declV at hdv2
 simp only [Bool.and_eq_true,decide_eq_true_eq] at hdv2
 have hfirst:first=(flat (d.take i)).length:=by have:=hdv2.2.2.1;omega
 unfold guardV at hg
 simp only [Bool.and_eq_true,decide_eq_true_eq] at hg
 obtain ⟨_,g1,g2⟩:=hg
 rw [allV_iff] at g1 g2
 refine ⟨first,hsx,f1,hdv2.2.1,by omega,by omega,hin,fun f hf=>?_,fun k hk=>?_,hkl,fun y v hy=>?_,fun e he=>?_,fun b hb=>?_,hsz⟩
 ·unfold flat at hf
  obtain ⟨l,hl,hfl⟩:=List.mem_flatten.1 hf
  obtain ⟨x',hx',rfl⟩:=List.mem_map.1 hl
  obtain ⟨i',hi'⟩:=List.mem_iff_getElem?.1 hx'
  obtain ⟨_,_,_,_,_,h⟩:=valid_at hv hi'
  unfold declV at h
  simp only [Bool.and_eq_true] at h
  have h:=h.2.2.2.2.1
  rw [allV_iff] at h
  obtain ⟨k,hk⟩:=List.mem_iff_getElem?.1 hfl
  have:=h k f hk
  unfold fieldV at this
  simp only [Bool.and_eq_true,decide_eq_true_eq] at this
  exact this.2.1
 ·have hcut:flat d=flat (d.take i)++(x.Fields++flat (d.drop (i+1))):=by
   have h1:d=d.take i++x::d.drop (i+1):=by
    obtain ⟨h1,h2⟩:=List.getElem?_eq_some_iff.1 hx
    rw [← h2,List.getElem_cons_drop,List.take_append_drop]
   conv=>lhs;rw [h1]
   rw [flat_app,flat_cons]
  rw [hcut,List.getElem?_append_right (by omega),hfirst,Nat.add_sub_cancel_left,List.getElem?_append_left hk]
 ·unfold knownV at hkn
  simp only [Bool.and_eq_true,decide_eq_true_eq] at hkn
  have h2:=hkn.2
  rw [allV_iff] at h2
  have:=h2 y v hy
  rw [Bool.or_eq_true,Nat.zero_add] at this
  rcases this with h | h
  ·exact .inl h
  ·unfold fitAt at h
   right
   split at h
   ·rename_i f hf
    exact ⟨f,hf,h⟩
   ·cases h
 ·obtain ⟨j,hj⟩:=List.mem_iff_getElem?.1 he
  have:=g2 j e hj
  rwa [Bool.and_eq_true] at this
 ·obtain ⟨j,hj⟩:=List.mem_iff_getElem?.1 hb
  have:=g1 j b hj
  rw [decide_eq_true_eq] at this
  unfold diffOk at this
  omega
end Gp
end
section
namespace Gp
open Go Go.Kx Gx
variable {N:Nat}
theorem nv_small {W:List T5} (h:Small W) (y:Int):-1000≤nvV W y∧nvV W y≤1000:=by
 unfold nvV
 cases decide (y < 0) with
 | true=>simp
 | false =>
  simp only [cF]
  split
  ·rename_i v hv
   obtain ⟨i,rfl,hi⟩:=idx_mem hv
   exact h i v hi
  ·omega
def Fts (F:List T2) (W:List T5):Prop:=∀ (y:Nat) (v:T5),W[y]? = some v→zeroV v=true∨∃ f,F[y]? = some f∧fitsV f.Sort' v=true
theorem fit_get {fs:List T2} {vs:List T5} (h:fitV fs vs=true) {k:Nat} {f:T2} {v:T5} (h1:fs[k]? = some f) (h2:vs[k]? = some v):fitsV f.Sort' v=true:=by
 unfold fitV at h
 rw [Bool.and_eq_true] at h
 have h:=h.2
 rw [allV_iff] at h
 have:=h k v h2
 rw [Nat.zero_add] at this
 unfold fitAt at this
 rw [h1] at this
 exact this
theorem fts_behind {F:List T2} {x:T0} {first:Nat} {ks:List T5} (g:Sg F x first ks) {V:List T5} (hV:fitV x.Fields V=true):Fts F (behindV first V ks):=fun y v hy=>by
 have hl:=fit_len' hV
 rw [behind_get first V ks (by have:=g.hle;omega)] at hy
 split at hy
 ·rename_i c
  obtain ⟨f,hf⟩:∃ f,x.Fields[y-first]? = some f:=⟨x.Fields[y-first]'(by omega),by simp⟩
  refine .inr ⟨f,?_,fit_get hV hf hy⟩
  have:=g.ff (y-first) (by omega)
  rw [show first+(y-first)=y by omega] at this
  rw [this,hf]
 ·exact g.fits y v hy
where
 fit_len' {fs:List T2} {vs:List T5} (h:fitV fs vs=true):vs.length=fs.length:=by
  unfold fitV at h
  simp only [Bool.and_eq_true,decide_eq_true_eq] at h
  exact h.1.symm
theorem text_kind {F:List T2} {y:Nat} (h:textV F (y:Int)=true) {f:T2} (hf:F[y]? = some f):f.Sort'.Kind=2:=by
 unfold textV at h
 rw [idx_nat,hf] at h
 simpa using h
theorem str_eq {a b:ByteArray} (h:(a.toList==b.toList)=true):a=b:=by
 rw [toList_bs,toList_bs] at h
 exact bs_inj (by simpa using h)
end Gp
end
section
namespace Gp
open Go Go.Kx Gx
variable {N:Nat}
theorem eq_unk {l:List T5} {e:Int × Int} (h:eqV l e=true):∃ a b:Nat,∃ v w:T5,e.1=(a:Int)∧e.2=(b:Int)∧l[a]? = some v∧l[b]? = some w∧(v.Kind==0)=false∧(w.Kind==0)=false∧v.S=w.S:=by
 unfold eqV at h
 cases ha:idx l e.1 with
 | none=>rw [ha] at h;cases h
 | some v =>
  cases hb:idx l e.2 with
  | none=>rw [ha,hb] at h;cases h
  | some w =>
   rw [ha,hb] at h
   simp only [Bool.and_eq_true,Bool.not_eq_true'] at h
   obtain ⟨a,e1,hk⟩:=idx_mem ha
   obtain ⟨b,e2,hl⟩:=idx_mem hb
   exact ⟨a,b,v,w,e1,e2,hk,hl,h.1,h.2.1,str_eq h.2.2⟩
theorem unk_nat {l:List T5} {k:Nat} {v:T5} (h:l[k]? = some v):unkV l (k:Int)=(v.Kind==0)∧nvV l (k:Int)=vnum v:=by
 unfold unkV nvV
 rw [dF (show ¬ (k:Int) < 0 by omega),idx_nat,h]
 exact ⟨rfl,rfl⟩
end Gp
end
end
section
namespace Gp
open Go Go.Kx Gx
variable {N:Nat}
theorem rb2_is (x:T0) (hel:x.Guard.Equals.length≤20):∀ (r:List (Int × Int)) (n k:Nat) (a:List T1),x.Guard.Equals.drop k=r→r.length < n→a.length+2 * r.length≤33554432→z26_l2 x n a (k:Int)=some (a++eqB r,0)
 | [],n,k,a,h,hn,ha=>by
  obtain ⟨n,rfl⟩:∃ m,n=m+1:=⟨n-1,by simp at hn;omega⟩
  rw [z26_l2,lt_f (drop_nil h)]
  simp [z26_k1,eqB]
 | e::r,n,k,a,h,hn,ha=>by
  obtain ⟨n,rfl⟩:∃ m,n=m+1:=⟨n-1,by simp at hn;omega⟩
  obtain ⟨hk,he,hr⟩:=drop_cons h
  simp only [List.length_cons] at hn ha
  rw [z26_l2,lt_t hk,idx_nat,he]
  simp only [cT,bS]
  rw [appL_some (by simp;omega),bS,w64_succ (by omega),rb2_is x hel r n (k+1) _ hr (by omega) (by simp;omega)]
  simp [eqB]
theorem rb4_is (x:T0) {first:Nat} (hf:x.First=(first:Int)) (hfl:first≤1000) (hfn:x.Fields.length≤4) (hs:∀ f∈x.Fields,-1000≤f.Sort'.Lo∧f.Sort'.Lo≤1000):∀ (r:List T2) (n k:Nat) (a:List T1),x.Fields.drop k=r→r.length < n→a.length+2 * r.length≤33554432→z26_l4 N x n a (k:Int)=z26_k3 N x (a++fldB first k r)
 | [],n,k,a,h,hn,ha=>by
  obtain ⟨n,rfl⟩:∃ m,n=m+1:=⟨n-1,by simp at hn;omega⟩
  rw [z26_l4,lt_f (drop_nil h)]
  simp [fldB]
 | f::r,n,k,a,h,hn,ha=>by
  obtain ⟨n,rfl⟩:∃ m,n=m+1:=⟨n-1,by simp at hn;omega⟩
  obtain ⟨hk,he,hr⟩:=drop_cons h
  have:=hs f (List.mem_of_getElem? he)
  simp only [List.length_cons] at hn ha
  rw [z26_l4,lt_t hk,idx_nat,he]
  simp only [cT,bS]
  rw [appL_some (by simp;omega),bS,w64_succ (by omega),rb4_is x hf hfl hfn hs r n (k+1) _ hr (by omega) (by simp;omega),hf,w64_id (n:=(first:Int)+(k:Int)) (by omega) (by omega),w64_id (by omega) (by omega)]
  have e:(0:Int)-f.Sort'.Lo=-f.Sort'.Lo:=by omega
  rw [e]
  simp [fldB]
def allB (first:Nat) (x:T0):List T1:=fldB first 0 x.Fields++x.Guard.Diffs++eqB x.Guard.Equals
section
variable {F:List T2} {x:T0} {first:Nat} {ks:List T5}
theorem Sg.first_le (g:Sg F x first ks):first≤1000:=by have:=g.hle;have:=g.hk;omega
theorem Sg.lohi (g:Sg F x first ks) {f:T2} (hf:f∈x.Fields):-1000≤f.Sort'.Lo∧f.Sort'.Lo≤1000∧-1000≤f.Sort'.Hi∧f.Sort'.Hi≤1000:=by
 obtain ⟨k,hk⟩:=List.mem_iff_getElem?.1 hf
 have:=g.sx hk
 unfold sortOk at this
 omega
theorem rbounds_is (hN:4194304 < N) (g:Sg F x first ks):z26_l4 N x N [] 0=some (allB first x,0):=by
 have h1:=g.hin.dl
 have h2:=g.hin.el
 have h3:=g.hfn
 have:=rb4_is (N:=N) x g.hf g.first_le g.hfn (fun f hf=>by have:=g.lohi hf;omega) x.Fields N 0 [] rfl (by omega) (by simp;omega)
 rw [show ((0:Nat):Int)=0 from rfl] at this
 rw [this]
 unfold z26_k3
 have hl:=fldB_len first x.Fields 0
 rw [List.nil_append,appL_some (by omega),bS]
 exact rb2_is x h2 x.Guard.Equals N 0 _ rfl (by omega) (by simp;omega)
theorem allB_in (g:Sg F x first ks) {b:T1} (h:b∈allB first x):((-1≤b.X∧b.X < (ks.length:Int))∧(-1≤b.Y∧b.Y < (ks.length:Int)))∨(b∈x.Guard.Diffs):=by
 have hle:=g.hle
 unfold allB at h
 rcases List.mem_append.1 h with h | h
 ·rcases List.mem_append.1 h with h | h
  ·obtain ⟨k,f,hk,rfl | rfl⟩:=fldB_inv first _ _ _ h
   ·have:=(List.getElem?_eq_some_iff.1 hk).1
    left;simp;omega
   ·have:=(List.getElem?_eq_some_iff.1 hk).1
    left;simp;omega
  ·exact .inr h
 ·obtain ⟨e,he,rfl | rfl⟩:=eqB_inv h
  ·have:=g.hin.e e he;left;simp;omega
  ·have:=g.hin.e e he;left;simp;omega
def mis (first n:Nat) (ks:List T5) (y:Int):Bool:=decide (0≤y) && (!(decide (first≤y.toNat∧y.toNat < first+n)) && (match ks[y.toNat]? with | some v=>v.Kind==0 | none=>false))
theorem rmissing_is (g:Sg F x first ks) {y:Int} (hy:y < (ks.length:Int)):z27 N x ks y=some (mis first x.Fields.length ks y):=by
 unfold z27 mis
 by_cases c:0≤y
 ·obtain ⟨k,rfl⟩:=Int.eq_ofNat_of_zero_le c
  have hv:=List.getElem?_eq_getElem (show k < ks.length by omega)
  rw [dT (show (k:Int)≥0 by omega),rown_is g.hf g.first_le g.hfn,show ((k:Int)).toNat=k from rfl,hv,idx_nat,hv]
  cases decide (first≤k∧k < first+x.Fields.length)<;>rfl
 ·rw [dF (show ¬ y≥0 by omega)];rfl
theorem rmiss_loop (g:Sg F x first ks) (z:List T1) (hz:∀ b∈z,(-1≤b.X∧b.X < (ks.length:Int))∧(-1≤b.Y∧b.Y < (ks.length:Int))) (hzl:z.length≤1000):∀ (r:List T1) (n k:Nat),z.drop k=r→r.length < n →
  ((∃ b∈r,(mis first x.Fields.length ks b.X || mis first x.Fields.length ks b.Y)=true)∧z7_l10 N ks x (z,0) n (k:Int)=some ([],false)) ∨
  ((∀ b∈r,mis first x.Fields.length ks b.X=false∧mis first x.Fields.length ks b.Y=false)∧z7_l10 N ks x (z,0) n (k:Int)=z7_k9 N ks x (z,0))
 | [],n,k,h,hn=>by
  obtain ⟨n,rfl⟩:∃ m,n=m+1:=⟨n-1,by simp at hn;omega⟩
  right
  refine ⟨fun b hb=>absurd hb List.not_mem_nil,?_⟩
  rw [z7_l10]
  simp only []
  rw [lt_f (drop_nil h)];rfl
 | b::r,n,k,h,hn=>by
  obtain ⟨n,rfl⟩:∃ m,n=m+1:=⟨n-1,by simp at hn;omega⟩
  obtain ⟨hk,he,hr⟩:=drop_cons h
  obtain ⟨⟨_,h1⟩,_,h2⟩:=hz b (List.mem_of_getElem? he)
  rw [z7_l10]
  simp only []
  rw [lt_t hk,idx_nat,he]
  simp only [cT,bS]
  rw [rmissing_is g h1,rmissing_is g h2]
  simp only [bS]
  cases e1:mis first x.Fields.length ks b.X with
  | true=>exact .inl ⟨⟨b,List.mem_cons_self,by rw [e1];rfl⟩,rfl⟩
  | false =>
   cases e2:mis first x.Fields.length ks b.Y with
   | true=>exact .inl ⟨⟨b,List.mem_cons_self,by rw [e2];simp⟩,rfl⟩
   | false =>
    simp only [cF]
    rw [w64_succ (by omega)]
    rcases rmiss_loop g z hz hzl r n (k+1) hr (by simp at hn;omega) with ⟨⟨c,hc,hm⟩,e⟩ | ⟨h3,e⟩
    ·exact .inl ⟨⟨c,List.mem_cons_of_mem _ hc,hm⟩,e⟩
    ·refine .inr ⟨fun c hc=>?_,e⟩
     rcases List.mem_cons.1 hc with rfl | hc
     ·exact ⟨e1,e2⟩
     ·exact h3 c hc
theorem rzone_loop (hN:4194304 < N) (g:Sg F x first ks) (z:List T1) (hz:∀ b∈z,(-1≤b.X∧b.X < (ks.length:Int))∧(-1≤b.Y∧b.Y < (ks.length:Int))) (hzl:z.length≤1000) (q:(List ByteArray) × (List Bool) × Bool) :
  ∀ (r:List T1) (n k:Nat) (zn:Int) (B:List Int) (A:Nat→Nat→Int),z.drop k=r→r.length < n→Zr ks.length A ⟨zn,B⟩ →
  ∃ B' A',z7_l8 N ks x (z,0) q n zn B (k:Int)=z7_k7 N ks x q (ks.length:Int) B'∧Zr ks.length A' ⟨(ks.length:Int),B'⟩ ∧
   ∀ u,Keep (ks.length+1) A' u↔Keep (ks.length+1) A u∧∀ b∈r,u (b.X+1).toNat-u (b.Y+1).toNat≤maxI b.C (-20001)
 | [],n,k,zn,B,A,h,hn,hZ=>by
  obtain ⟨n,rfl⟩:∃ m,n=m+1:=⟨n-1,by simp at hn;omega⟩
  have hm:zn=(ks.length:Int):=hZ.m
  subst hm
  refine ⟨B,A,?_,hZ,fun u=>⟨fun h=>⟨h,fun b hb=>by cases hb⟩,fun h=>h.1⟩⟩
  rw [z7_l8]
  simp only []
  rw [lt_f (drop_nil h)];rfl
 | b::r,n,k,zn,B,A,h,hn,hZ=>by
  obtain ⟨n,rfl⟩:∃ m,n=m+1:=⟨n-1,by simp at hn;omega⟩
  obtain ⟨hk,he,hr⟩:=drop_cons h
  obtain ⟨⟨a1,a2⟩,a3,a4⟩:=hz b (List.mem_of_getElem? he)
  have hkl:=g.hk
  obtain ⟨B1,e1,hZ1⟩:=radd_is hN hkl hZ (b.X+1).toNat (b.Y+1).toNat (by omega) (by omega) (d:=b) (by omega) (by omega)
  obtain ⟨B',A',e2,hZ2,hK⟩:=rzone_loop hN g z hz hzl q r n (k+1) (ks.length:Int) B1 _ hr (by simp at hn;omega) hZ1
  refine ⟨B',A',?_,hZ2,fun u=>(hK u).trans ?_⟩
  ·rw [z7_l8]
   simp only []
   rw [lt_t hk,idx_nat,he]
   simp only [cT,bS]
   rw [e1]
   simp only [bS]
   rw [w64_succ (by omega)]
   exact e2
  ·rw [keep_upd (by omega) (by omega)]
   constructor
   ·rintro ⟨⟨h1,h2⟩,h3⟩
    refine ⟨h1,fun c hc=>?_⟩
    rcases List.mem_cons.1 hc with rfl | hc
    ·exact h2
    ·exact h3 c hc
   ·rintro ⟨h1,h2⟩
    exact ⟨⟨h1,h2 b List.mem_cons_self⟩,fun c hc=>h2 c (List.mem_cons_of_mem _ hc)⟩
def fixV (first n:Nat) (ks:List T5) (σ:Txt) (y:Nat):Option Int:=if first≤y∧y < first+n then (σ (y-first)).map fun t=>(t.size:Int) else match ks[y]? with
 | some v=>if v.Kind=0 then none else some (vnum v)
 | none=>none
theorem keep_two (hN:4194304 < N) {n:Nat} (hn:n≤24) {A:Nat→Nat→Int} {zn:Int} {B:List Int} (h:Zr n A ⟨zn,B⟩) (y:Nat) (hy:y < n) (c:Int) (hc:-1000000000≤c∧c≤1000000000) :
  ∃ B1 e1 B2 A2,z30 N ⟨zn,B⟩ ⟨(y:Int),-1,c⟩=some (⟨(n:Int),B1⟩,e1)∧z30 N ⟨(n:Int),B1⟩ ⟨-1,(y:Int),w64 (0-c)⟩=some (⟨(n:Int),B2⟩,0)∧Zr n A2 ⟨(n:Int),B2⟩ ∧
   ∀ u,Keep (n+1) A2 u↔Keep (n+1) A u∧u (y+1)-u 0≤maxI c (-20001)∧u 0-u (y+1)≤maxI (-c) (-20001):=by
 obtain ⟨B1,e1,hZ1⟩:=radd_is hN hn h (y+1) 0 (by omega) (by omega) (d:=⟨(y:Int),-1,c⟩) (by simp) (by simp)
 have hw:w64 (0-c)=-c:=by rw [w64_id (by omega) (by omega)];omega
 obtain ⟨B2,e2,hZ2⟩:=radd_is hN hn hZ1 0 (y+1) (by omega) (by omega) (d:=⟨-1,(y:Int),w64 (0-c)⟩) (by simp) (by simp)
 refine ⟨B1,0,B2,_,e1,e2,hZ2,fun u=>?_⟩
 rw [keep_upd (by omega) (by omega),keep_upd (by omega) (by omega)]
 show ((Keep (n+1) A u∧u (y+1)-u 0≤maxI c (-20001))∧u 0-u (y+1)≤maxI (w64 (0-c)) (-20001))↔_
 rw [hw,and_assoc]
theorem rfix_loop (hN:4194304 < N) (g:Sg F x first ks) {σ:Txt} {s:List ByteArray} {b:List Bool} (hR:Rp x.Fields.length σ s b) (hsz:∀ i t,σ i=some t→t.size≤1000) :
  ∀ (r n k:Nat) (zn:Int) (B:List Int) (A:Nat→Nat→Int),k+r=ks.length→r < n→Zr ks.length A ⟨zn,B⟩ →
  ∃ B' A',z7_l4 N ks x (s,b,true) n zn B (k:Int)=z7_k3 N ks x (s,b,true) (ks.length:Int) B'∧Zr ks.length A' ⟨(ks.length:Int),B'⟩ ∧
   ∀ u,Keep (ks.length+1) A' u↔Keep (ks.length+1) A u∧∀ y,k≤y→y < ks.length→∀ c,fixV first x.Fields.length ks σ y=some c→u (y+1)-u 0≤maxI c (-20001)∧u 0-u (y+1)≤maxI (-c) (-20001)
 | 0,n,k,zn,B,A,h,hn,hZ=>by
  obtain ⟨n,rfl⟩:∃ m,n=m+1:=⟨n-1,by omega⟩
  have hm:zn=(ks.length:Int):=hZ.m
  subst hm
  refine ⟨B,A,?_,hZ,fun u=>⟨fun h=>⟨h,fun y h1 h2=>by omega⟩,fun h=>h.1⟩⟩
  rw [z7_l4,lt_f (by omega)];rfl
 | r+1,n,k,zn,B,A,h,hn,hZ=>by
  obtain ⟨n,rfl⟩:∃ m,n=m+1:=⟨n-1,by omega⟩
  have hkl:=g.hk
  have hk:k < ks.length:=by omega
  have hv:=List.getElem?_eq_getElem hk
  generalize hvv:ks[k]=v at hv
  have hsm:-1000≤vnum v∧vnum v≤1000:=by
   rcases g.fits k v hv with h1 | ⟨f,h1,h2⟩
   ·have:=(zero_num h1).2.1;omega
   ·have:=fits_num (g.so f (List.mem_of_getElem? h1)) h2;omega
  have hm:zn=(ks.length:Int):=hZ.m
  -- one step: with a number, or without
  have with_:∀ c,fixV first x.Fields.length ks σ k=some c→-1000000000≤c∧c≤1000000000→(∀ B1 e1 B2,z30 N ⟨zn,B⟩ ⟨(k:Int),-1,c⟩=some (⟨(ks.length:Int),B1⟩,e1)→z30 N ⟨(ks.length:Int),B1⟩ ⟨-1,(k:Int),w64 (0-c)⟩=some (⟨(ks.length:Int),B2⟩,0)→z7_l4 N ks x (s,b,true) (n+1) zn B (k:Int)=z7_l4 N ks x (s,b,true) n (ks.length:Int) B2 ((k+1:Nat):Int)) →
    ∃ B' A',z7_l4 N ks x (s,b,true) (n+1) zn B (k:Int)=z7_k3 N ks x (s,b,true) (ks.length:Int) B'∧Zr ks.length A' ⟨(ks.length:Int),B'⟩ ∧
     ∀ u,Keep (ks.length+1) A' u↔Keep (ks.length+1) A u∧∀ y,k≤y→y < ks.length→∀ c,fixV first x.Fields.length ks σ y=some c→u (y+1)-u 0≤maxI c (-20001)∧u 0-u (y+1)≤maxI (-c) (-20001):=by
   intro c hc hcr hstep
   obtain ⟨B1,e1,B2,A2,a1,a2,hZ2,hK2⟩:=keep_two hN hkl hZ k hk c hcr
   obtain ⟨B',A',e3,hZ3,hK3⟩:=rfix_loop hN g hR hsz r n (k+1) (ks.length:Int) B2 A2 (by omega) (by omega) hZ2
   refine ⟨B',A',(hstep B1 e1 B2 a1 a2).trans e3,hZ3,fun u=>(hK3 u).trans ?_⟩
   rw [hK2 u]
   constructor
   ·rintro ⟨⟨h1,h2,h3⟩,h4⟩
    refine ⟨h1,fun y q1 q2 c' hc'=>?_⟩
    by_cases e:y=k
    ·subst e;rw [hc] at hc';cases hc';exact ⟨h2,h3⟩
    ·exact h4 y (by omega) q2 c' hc'
   ·rintro ⟨h1,h2⟩
    obtain ⟨q1,q2⟩:=h2 k (Nat.le_refl _) hk c hc
    exact ⟨⟨h1,q1,q2⟩,fun y q1 q2 c' hc'=>h2 y (by omega) q2 c' hc'⟩
  have without:fixV first x.Fields.length ks σ k=none→z7_l4 N ks x (s,b,true) (n+1) zn B (k:Int)=z7_l4 N ks x (s,b,true) n zn B ((k+1:Nat):Int) →
    ∃ B' A',z7_l4 N ks x (s,b,true) (n+1) zn B (k:Int)=z7_k3 N ks x (s,b,true) (ks.length:Int) B'∧Zr ks.length A' ⟨(ks.length:Int),B'⟩ ∧
     ∀ u,Keep (ks.length+1) A' u↔Keep (ks.length+1) A u∧∀ y,k≤y→y < ks.length→∀ c,fixV first x.Fields.length ks σ y=some c→u (y+1)-u 0≤maxI c (-20001)∧u 0-u (y+1)≤maxI (-c) (-20001):=by
   intro hc hstep
   obtain ⟨B',A',e3,hZ3,hK3⟩:=rfix_loop hN g hR hsz r n (k+1) zn B A (by omega) (by omega) hZ
   refine ⟨B',A',hstep.trans e3,hZ3,fun u=>(hK3 u).trans ⟨fun ⟨h1,h2⟩=>⟨h1,fun y q1 q2 c' hc'=>?_⟩,fun ⟨h1,h2⟩=>⟨h1,fun y q1 q2 c' hc'=>h2 y (by omega) q2 c' hc'⟩⟩⟩
   by_cases e:y=k
   ·subst e;rw [hc] at hc';cases hc'
   ·exact h2 y (by omega) q2 c' hc'
  by_cases co:first≤k∧k < first+x.Fields.length
  ·have hi:k-first < x.Fields.length:=by omega
   have hw:w64 ((k:Int)-x.First)=((k-first:Nat):Int):=by rw [g.hf,w64_id (by omega) (by omega)];omega
   cases hσ:σ (k-first) with
   | none =>
    refine without (by unfold fixV;rw [if_pos co,hσ];rfl) ?_
    rw [z7_l4,lt_t hk,idx_nat,hv,rown_is g.hf g.first_le g.hfn,dT co,hw]
    simp only [cT,cF,bS,Bool.not_true,refNumber_eq,idx_nat,hR.b _ hi,hσ,Option.isSome_none]
    unfold z7_k6
    rw [w64_succ (by omega)];rfl
   | some t =>
    have hst:=hR.s _ _ hi hσ
    have hts:=hsz _ _ hσ
    refine with_ (t.size:Int) (by unfold fixV;rw [if_pos co,hσ];rfl) (by omega) fun B1 e1 B2 a1 a2=>?_
    rw [z7_l4,lt_t hk,idx_nat,hv,rown_is g.hf g.first_le g.hfn,dT co,hw]
    simp only [cT,cF,bS,Bool.not_true,refNumber_eq,idx_nat,hR.b _ hi,hσ,Option.isSome_some,hst]
    unfold z7_k6
    simp only [cT]
    rw [a1]
    simp only [bS]
    rw [a2]
    simp only [bS]
    rw [w64_succ (by omega)]
  ·by_cases c0:v.Kind=0
   ·refine without (by unfold fixV;rw [if_neg co,hv];simp [c0]) ?_
    rw [z7_l4,lt_t hk,idx_nat,hv,rown_is g.hf g.first_le g.hfn,dF co]
    have e0:(v.Kind != 0)=false:=by simp [c0]
    simp only [cT,cF,bS,Bool.not_false,refNumber_eq,e0]
    rw [w64_succ (by omega)]
   ·refine with_ (vnum v) (by unfold fixV;rw [if_neg co,hv];simp [c0]) (by omega) fun B1 e1 B2 a1 a2=>?_
    rw [z7_l4,lt_t hk,idx_nat,hv,rown_is g.hf g.first_le g.hfn,dF co]
    have e0:(v.Kind != 0)=true:=by simp [c0]
    simp only [cT,cF,bS,Bool.not_false,refNumber_eq,e0]
    rw [a1]
    simp only [bS]
    rw [a2]
    simp only [bS]
    rw [w64_succ (by omega)]
end
end Gp
end
section
namespace Gp
open Go Go.Kx Gx
variable {N:Nat}
theorem rcat_mk {a b:List UInt8} (h:a.length+b.length≤4611686018427387904):catS (mkB a) (mkB b)=some (mkB (a++b)):=by
 unfold catS
 have e:(mkB a).size=a.length∧(mkB b).size=b.length:=⟨by rw [size_bs,bs_mkB],by rw [size_bs,bs_mkB]⟩
 rw [e.1,e.2,dF (by simp only [IntKind.max];simp [IntKind.bits,IntKind.signed];omega)]
 simp only [cF]
 refine congrArg some (bs_inj ?_)
 rw [show bs (mkB a++mkB b)=bs (mkB a)++bs (mkB b) from by unfold bs;rw [ByteArray.data_append,Array.toList_append],bs_mkB,bs_mkB,bs_mkB]
theorem letters_loop (c:Int) (hc:c≤1000000):∀ (r n k:Nat),k+r=c.toNat→r < n→z34_l2 c n (mkB (List.replicate k 97)) (k:Int)=some (mkB (List.replicate c.toNat 97))
 | 0,n,k,h,hn=>by
  obtain ⟨n,rfl⟩:∃ m,n=m+1:=⟨n-1,by omega⟩
  rw [z34_l2,dF (show ¬ (k:Int) < c by omega),show c.toNat=k by omega];rfl
 | r+1,n,k,h,hn=>by
  obtain ⟨n,rfl⟩:∃ m,n=m+1:=⟨n-1,by omega⟩
  rw [z34_l2,dT (show (k:Int) < c by omega),show str [97]=mkB [97] from rfl,rcat_mk (by simp;omega)]
  simp only [cT,bS]
  rw [w64_succ (by omega),show List.replicate k (97:UInt8)++[97]=List.replicate (k+1) 97 from by rw [List.replicate_succ']]
  exact letters_loop c hc r n (k+1) (by omega) (by omega)
theorem letters_is (hN:4194304 < N) (c:Int) (hc:c≤1000000):z34 N c=some (mkB (List.replicate c.toNat 97)) :=
 letters_loop c hc c.toNat N 0 (by omega) (by omega)
def lettersV (c:Int):ByteArray:=mkB (List.replicate c.toNat 97)
def valR (first:Nat) (σ:Txt) (y:Nat→Int) (k:Nat) (f:T2):T5 :=
 bif f.Sort'.Kind==1 then ⟨f.Sort'.Kind,y (first+k+1),str []⟩ else match σ k with
 | some t=>⟨f.Sort'.Kind,0,t⟩
 | none=>⟨f.Sort'.Kind,0,lettersV (y (first+k+1))⟩
def valsR (first:Nat) (σ:Txt) (y:Nat→Int):Nat→List T2→List T5
 | _,[]=>[]
 | k,f::r=>valR first σ y k f::valsR first σ y (k+1) r
theorem valsR_len (first:Nat) (σ:Txt) (y:Nat→Int):∀ (k:Nat) (l:List T2),(valsR first σ y k l).length=l.length
 | _,[]=>rfl
 | k,f::r=>by rw [valsR,List.length_cons,List.length_cons,valsR_len first σ y (k+1) r]
theorem valsR_get (first:Nat) (σ:Txt) (y:Nat→Int):∀ (k:Nat) (l:List T2) (i:Nat) (f:T2),l[i]? = some f→(valsR first σ y k l)[i]? = some (valR first σ y (k+i) f)
 | k,g::r,0,f,h=>by rw [List.getElem?_cons_zero] at h;cases h;rfl
 | k,g::r,i+1,f,h=>by
  rw [List.getElem?_cons_succ] at h
  rw [valsR,List.getElem?_cons_succ,valsR_get first σ y (k+1) r i f h,show k+1+i=k+(i+1) by omega]
section
variable {F:List T2} {x:T0} {first:Nat} {ks:List T5}
theorem rvals_loop (hN:4194304 < N) (g:Sg F x first ks) {σ:Txt} {s:List ByteArray} {b:List Bool} (hR:Rp x.Fields.length σ s b) {m:List Int} {y:Nat→Int} (hm:∀ i,i < ks.length→m[i]? = some (y (i+1))) (hy:∀ i,i < ks.length→y (i+1)≤1000000) :
  ∀ (r:List T2) (n k:Nat) (acc:List T5),x.Fields.drop k=r→r.length < n→acc.length+r.length≤1000 →
  z7_l2 N ks x (s,b,true) (m,true) n acc (k:Int)=z7_k1 N ks x (acc++valsR first σ y k r)
 | [],n,k,acc,h,hn,ha=>by
  obtain ⟨n,rfl⟩:∃ q,n=q+1:=⟨n-1,by simp at hn;omega⟩
  rw [z7_l2,lt_f (drop_nil h)]
  simp [valsR]
 | f::r,n,k,acc,h,hn,ha=>by
  obtain ⟨n,rfl⟩:∃ q,n=q+1:=⟨n-1,by simp at hn;omega⟩
  obtain ⟨hk,he,hr⟩:=drop_cons h
  have hle:=g.hle
  have hkl:=g.hk
  simp only [List.length_cons] at hn ha
  have hw:w64 (x.First+(k:Int))=((first+k:Nat):Int):=by rw [g.hf,w64_id (by omega) (by omega)];omega
  have hmk:=hm (first+k) (by omega)
  have nxt:=fun v:T5=>rvals_loop hN g hR hm hy r n (k+1) (acc++[v]) hr (by omega) (by simp;omega)
  have hnext:w64 ((k:Int)+1)=((k+1:Nat):Int):=w64_succ (by omega)
  rw [z7_l2,lt_t hk,idx_nat,he,hw,hnext]
  simp only [cT,bS,idx_nat,hmk,hR.b k hk]
  rw [valsR]
  unfold valR
  cases hc:(f.Sort'.Kind==1) with
  | true =>
   simp only [cT]
   rw [appL_some (by simp;omega),bS,nxt]
   simp
  | false =>
   simp only [cF]
   cases hσ:σ k with
   | some t =>
    simp only [Option.isSome_some,cT,hR.s k t hk hσ,bS]
    rw [appL_some (by simp;omega),bS,nxt]
    simp
   | none =>
    simp only [Option.isSome_none,cF]
    rw [letters_is hN _ (hy (first+k) (by omega)),bS,appL_some (by simp;omega),bS,nxt]
    simp [lettersV]
structure ZK (x:T0) (first:Nat) (ks:List T5) (σ:Txt) (u:Nat→Int):Prop where
 f:Keep (ks.length+1) fullV u
 b:∀ b∈allB first x,u (b.X+1).toNat-u (b.Y+1).toNat≤maxI b.C (-20001)
 k:∀ y,y < ks.length→∀ c,fixV first x.Fields.length ks σ y=some c→u (y+1)-u 0≤maxI c (-20001)∧u 0-u (y+1)≤maxI (-c) (-20001)
theorem keep_cap {M:Nat} {A:Nat→Nat→Int} {u:Nat→Int}:Keep M (cap A) u↔Keep M A u∧Keep M fullV u:=by
 constructor
 ·intro h
  refine ⟨fun a b ha hb=>?_,fun a b ha hb=>?_⟩
  ·have:=h a b ha hb
   have:=minI_le (A a b) (fullV a b)
   unfold cap at *
   omega
  ·have:=h a b ha hb
   have:=minI_le (A a b) (fullV a b)
   unfold cap at *
   omega
 ·intro ⟨h,k⟩ a b ha hb
  have:=h a b ha hb
  have:=k a b ha hb
  have:=minI_le (A a b) (fullV a b)
  unfold cap
  omega
theorem rfill_flow (hN:4194304 < N) (d:List T0) (label:Int) (g:Sg F x first ks) (hex:z24 N d label=some true) (hkn:z25 N d ks=some true) (hidx:idx d label=some x) (hdx:∀ b∈x.Guard.Diffs,-1≤b.X∧-1≤b.Y) (hbad:∀ v∈ks,v.S.size≤1000) :
  (z7 N d label ks=some ([],false)∧∃ b∈allB first x,(mis first x.Fields.length ks b.X || mis first x.Fields.length ks b.Y)=true) ∨
  ((∀ b∈allB first x,mis first x.Fields.length ks b.X=false∧mis first x.Fields.length ks b.Y=false) ∧
   ((z7 N d label ks=some ([],false)∧roundV first x.Fields.length ks (pairsV x.Guard.Equals) (x.Fields.length+1) (fun _=>none)=none) ∨
   ∃ σ,roundV first x.Fields.length ks (pairsV x.Guard.Equals) (x.Fields.length+1) (fun _=>none)=some σ ∧
    ((z7 N d label ks=some ([],false)∧∀ u,¬ ZK x first ks σ u) ∨
    ∃ y,y 0=0∧ZK x first ks σ y∧(∀ u,ZK x first ks σ u→u 0=0→∀ a,a < ks.length+1→y a≤u a) ∧
     z7 N d label ks=bif keepsV x.Guard (behindV first (valsR first σ y 0 x.Fields) ks) then some (valsR first σ y 0 x.Fields,true) else some ([],false)))):=by
 have hfn:=g.hfn
 have hdl:=g.hin.dl
 have hel:=g.hin.el
 have hkl:=g.hk
 have hz:∀ b∈allB first x,(-1≤b.X∧b.X < (ks.length:Int))∧(-1≤b.Y∧b.Y < (ks.length:Int)):=fun b hb=>by
  rcases allB_in g hb with h | h
  ·exact h
  ·have:=hdx b h
   have:=g.hin.d b h
   omega
 have hzl:(allB first x).length≤1000:=by
  unfold allB
  rw [lA,lA,fldB_len,eqB_len]
  omega
 have e0:z7 N d label ks=z7_l10 N ks x (allB first x,0) N 0:=by
  unfold z7 z26
  rw [hex,hkn,hidx]
  simp only [bS,Bool.not_true,cF]
  rw [rbounds_is hN g];rfl
 rw [e0]
 rcases rmiss_loop (N:=N) g (allB first x) hz hzl (allB first x) N 0 rfl (by omega) with ⟨hm,e1⟩ | ⟨hm,e1⟩
 ·exact .inl ⟨e1,hm⟩
 ·right
  refine ⟨hm,?_⟩
  have e1:z7_l10 N ks x (allB first x,0) N 0=z7_k9 N ks x (allB first x,0):=e1
  rw [e1]
  unfold z7_k9
  rcases rtexts_is hN g.hf g.first_le g.hfn g.hin with ⟨h1,h2⟩ | ⟨σ,s,b,h1,hR,h2⟩
  ·rw [h2];exact .inl ⟨rfl,h1⟩
  ·right
   refine ⟨σ,h1,?_⟩
   rw [h2]
   simp only [bS,Bool.not_true,cF]
   obtain ⟨B0,e2,hZ0⟩:=rnew_is hN ks.length hkl
   rw [e2]
   simp only [bS]
   obtain ⟨B1,A1,e3,hZ1,hK1⟩:=rzone_loop hN g (allB first x) hz hzl (s,b,true) (allB first x) N 0 (ks.length:Int) B0 fullV rfl (by omega) hZ0
   have e3:z7_l8 N ks x (allB first x,0) (s,b,true) N (ks.length:Int) B0 0=z7_k7 N ks x (s,b,true) (ks.length:Int) B1:=e3
   rw [e3]
   unfold z7_k7
   obtain ⟨B2,A2,e4,hZ2,hK2⟩:=rfix_loop hN g hR (fun i t h=>round_orig (P:=fun t=>t.size≤1000) hbad _ h1 (fun i t h=>by cases h) i t h) ks.length N 0 (ks.length:Int) B1 A1 (by omega) (by omega) hZ1
   have e4:z7_l4 N ks x (s,b,true) N (ks.length:Int) B1 0=z7_k3 N ks x (s,b,true) (ks.length:Int) B2:=e4
   rw [e4]
   have hZK:∀ u,Keep (ks.length+1) (cap A2) u↔ZK x first ks σ u:=fun u=>by
    rw [keep_cap,hK2 u,hK1 u]
    constructor
    ·rintro ⟨⟨⟨p1,p2⟩,p3⟩,p4⟩
     exact ⟨p4,p2,fun y hy c hc=>p3 y (Nat.zero_le _) hy c hc⟩
    ·rintro ⟨p1,p2,p3⟩
     exact ⟨⟨⟨p1,p2⟩,fun y _ hy c hc=>p3 y hy c hc⟩,p1⟩
   unfold z7_k3
   rcases rmodel_is hN ks.length hkl A2 _ hZ2 with ⟨e5,hno⟩ | ⟨m,y,e5,hml,hmg,hy0,hyk,hyl⟩
   ·rw [e5]
    exact .inl ⟨rfl,fun u hu=>hno u ((hZK u).2 hu)⟩
   ·rw [e5]
    simp only [bS,Bool.not_true,cF]
    have hyZ:=(hZK y).1 hyk
    refine .inr ⟨y,hy0,hyZ,fun u hu h0 a ha=>hyl u ((hZK u).2 hu) h0 a ha,?_⟩
    have hyb:∀ i,i < ks.length→y (i+1)≤1000000:=fun i hi=>by
     have:=hyZ.f (i+1) 0 (by omega) (by omega)
     have:=fullV_le (i+1) 0
     omega
    have e6:=rvals_loop hN g hR hmg hyb x.Fields N 0 [] rfl (by omega) (by simp;omega)
    have e6:z7_l2 N ks x (s,b,true) (m,true) N [] 0=z7_k1 N ks x ([]++valsR first σ y 0 x.Fields):=e6
    rw [e6,List.nil_append]
    unfold z7_k1
    have hvl:=valsR_len first σ y 0 x.Fields
    have hle:=g.hle
    rw [learned_eq hN x _ ks first g.hf (by rw [hvl];exact hle) (by omega)]
    simp only [bS]
    rw [keeps_eq hN x.Guard _ (by rw [behind_len _ _ _ (by rw [hvl];exact hle)];exact g.hin)]
    simp only [bS]
    cases keepsV x.Guard (behindV first (valsR first σ y 0 x.Fields) ks)<;>rfl
end
end Gp
end
