/- The plain law, part 1: what the functions compute answers as the statement says. -/
import Derived.Lib.Bytealg
import Derived.Test.YteimgnlbpphmjaaGreatDoorSyntaxPrintPure
set_option linter.all false
section
section
namespace Gp
open Go Go.Kx
theorem dF {p:Prop} [Decidable p] (h:¬p):decide p=false:=decide_eq_false h
theorem dT {p:Prop} [Decidable p] (h:p):decide p=true:=decide_eq_true h
theorem bS {α β:Type _} (a:α) (f:α→Option β):(some a).bind f=f a:=rfl
theorem cF {α:Sort _} {a b:α}:(bif false then a else b)=b:=rfl
theorem cT {α:Sort _} {a b:α}:(bif true then a else b)=a:=rfl
theorem aA {α:Type _} (a b c:List α):(a++b)++c=a++(b++c):=List.append_assoc a b c
theorem lA {α:Type _} {a b:List α}:(a++b).length=a.length+b.length:=List.length_append
theorem w64_id {n:Int} (h1:-9223372036854775808≤n) (h2:n≤9223372036854775807):w64 n=n:=by
 show IntKind.i64.wrap n=n
 simp [IntKind.wrap,IntKind.signed,IntKind.bits]
 omega
theorem w64_succ {n:Nat} (h:n < 4611686018427387904):w64 ((n:Int)+1)=((n+1:Nat):Int):=by rw [w64_id (by omega) (by omega)];omega
theorem idx_nat {α:Type} (xs:List α) (k:Nat):idx xs (k:Int)=xs[k]? := by
 unfold idx
 have:decide (0≤(k:Int))=true:=by simp
 rw [this];simp
theorem idx_int {α:Type} {xs:List α} {i:Int} {k:Nat} (h:i=k):idx xs i=xs[k]? := by rw [h,idx_nat]
theorem setL'_nat {α:Type} (xs:List α) (k:Nat) (e:α):setL' xs (k:Int) e=xs.set k e:=by unfold setL';simp
theorem setL'_int {α:Type} {xs:List α} {i:Int} {k:Nat} (h:i=k) (e:α):setL' xs i e=xs.set k e:=by rw [h,setL'_nat]
theorem get_mid {α:Type} (A:List α) (x:α) (B:List α) {k:Nat} (h:A.length=k):(A++x::B)[k]? = some x:=by
 subst h;simp
theorem set_mid {α:Type} (A:List α) (x y:α) (B:List α) {k:Nat} (h:A.length=k):(A++x::B).set k y=A++y::B:=by
 subst h;simp
theorem idx_mid {α:Type} {L A:List α} {x:α} {B:List α} {i:Int} (hL:L=A++x::B) (h:i=(A.length:Int)):idx L i=some x:=by
 rw [idx_int h,hL];exact get_mid A x B rfl
theorem setL'_mid {α:Type} {L A:List α} {x:α} {B:List α} {i:Int} (hL:L=A++x::B) (h:i=(A.length:Int)) (y:α):setL' L i y=A++y::B:=by
 rw [setL'_int h,hL];exact set_mid A x y B rfl
theorem appL_some {α:Type} {xs ys:List α} (h:xs.length+ys.length≤4294967296):appL xs ys=some (xs++ys):=by
 unfold appL
 have:Nat.ble (xs.length+ys.length) lim=true:=Nat.ble_eq_true_of_le h
 rw [this];rfl
theorem drop_cons {α:Type} {xs:List α} {k:Nat} {x:α} {l:List α} (h:xs.drop k=x::l):k < xs.length∧xs[k]? = some x∧xs.drop (k+1)=l:=by
 have hlt:k < xs.length:=by
  rcases Nat.lt_or_ge k xs.length with h' | h'
  ·exact h'
  ·rw [List.drop_eq_nil_of_le h'] at h;cases h
 rw [List.drop_eq_getElem_cons hlt] at h
 simp only [List.cons.injEq] at h
 exact ⟨hlt,by rw [List.getElem?_eq_getElem hlt,h.1],h.2⟩
theorem drop_nil {α:Type} {xs:List α} {k:Nat} (h:xs.drop k=[]):xs.length≤k:=by simpa using h
def lv {α γ:Type} (b:α→Nat→γ→γ) (e:γ):List α→Nat→γ
 | [],_=>e
 | x::l,k=>b x k (lv b e l (k+1))
theorem lv_of {α γ:Type} (xs:List α) (F:Nat→Int→γ) (b:α→Nat→γ→γ) (e:γ)
  (h1:∀ n k x,k < xs.length→xs[k]? = some x→F (n+1) (k:Int)=b x k (F n ((k+1:Nat):Int)))
  (h2:∀ n k,xs.length≤k→F (n+1) (k:Int)=e) :
  ∀ (l:List α) (k n:Nat),xs.drop k=l→l.length < n→F n (k:Int)=lv b e l k:=by
 intro l
 induction l with
 | nil =>
  intro k n h hn
  obtain ⟨n,rfl⟩:∃ m,n=m+1:=⟨n-1,by simp at hn;omega⟩
  exact h2 n k (drop_nil h)
 | cons x l ih =>
  intro k n h hn
  obtain ⟨n,rfl⟩:∃ m,n=m+1:=⟨n-1,by simp at hn;omega⟩
  obtain ⟨a,c,d⟩:=drop_cons h
  rw [h1 n k x a c,ih (k+1) n d (by simp at hn;omega)];rfl
theorem lv_from {α γ:Type} {xs:List α} {F:Nat→Int→γ} {b:α→Nat→γ→γ} {e:γ} {n:Nat} {i:Int} (hn:xs.length < n) (hi:i=((0:Nat):Int))
  (h1:∀ n k x,k < xs.length→xs[k]? = some x→F (n+1) (k:Int)=b x k (F n ((k+1:Nat):Int)))
  (h2:∀ n k,xs.length≤k→F (n+1) (k:Int)=e):F n i=lv b e xs 0:=by
 rw [hi];exact lv_of xs F b e h1 h2 xs 0 n rfl hn
theorem lt_t {k n:Nat} (h:k < n):decide ((k:Int) < (n:Int))=true:=by simp [h]
theorem lt_f {k n:Nat} (h:n≤k):decide ((k:Int) < (n:Int))=false:=by simp;omega
end Gp
end
section
namespace Gp
open Go Go.Kx
def Lt {α:Type} (K:α→Int) (r:α→α→Prop) (x y:α):Prop:=K x < K y∨(K x=K y∧r x y)
def Srt {α:Type} (K:α→Int) (r:α→α→Prop) (l:List α):Prop:=l.Pairwise (Lt K r)
variable {α:Type} {K:α→Int} {r:α→α→Prop}
theorem get_at {L A:List α} {x:α} {B:List α} {k:Nat} (hL:L=A++x::B) (h:A.length=k):L[k]? = some x:=by rw [hL];exact get_mid A x B h
inductive Bk (K:α→Int) (r:α→α→Prop) (n:Nat):List α→List α→Prop
 | last (o c:List α):c.length≤n→c.Perm o→Srt K r c→Bk K r n o c
 | cons (o1 c1 o2 c2:List α):c1.length=n→c1.Perm o1→Srt K r c1→Bk K r n o2 c2→Bk K r n (o1++o2) (c1++c2)
theorem Bk.few {n:Nat} {o c:List α} (h:Bk K r n o c) (hn:0 < n) (hc:c.length < 2 * n) :
  (c.length≤n∧c.Perm o∧Srt K r c)∨∃ o1 o2 c1 c2,o=o1++o2∧c=c1++c2∧c1.length=n∧0 < c2.length∧c2.length≤n∧c1.Perm o1∧c2.Perm o2∧Srt K r c1∧Srt K r c2:=by
 cases h with
 | last _ _ h1 h2 h3=>exact .inl ⟨h1,h2,h3⟩
 | cons o1 c1 o2 c2 h1 h2 h3 h4 =>
  cases h4 with
  | last _ _ g1 g2 g3 =>
   rcases Nat.eq_zero_or_pos c2.length with h0 | h0
   ·have:c2=[]:=List.length_eq_zero_iff.mp h0
    subst this
    have:o2=[]:=by simpa using g2.symm
    subst this
    exact .inl ⟨by simp;omega,by simpa using h2,by simpa using h3⟩
   ·exact .inr ⟨o1,o2,c1,c2,rfl,rfl,h1,h0,g1,h2,g2,h3,g3⟩
  | cons p1 d1 p2 d2 g1 g2 g3 g4=>simp at hc;omega
theorem Bk.all {n:Nat} {o c:List α} (h:Bk K r n o c) (hn:0 < n) (hc:c.length≤n):c.Perm o∧Srt K r c:=by
 rcases h.few hn (by omega) with h | ⟨o1,o2,c1,c2,h1,h2,h3,h4,_⟩
 ·exact h.2
 ·subst h2;simp at hc;omega
end Gp
end
section
namespace Gp
open Go Go.Kx Gx
theorem look {α γ:Type} (xs:List α) (hs:xs.length≤4194304) (b:α→Int→γ→γ) (F:Nat→Int→γ) (e:γ) {n:Nat} (hn:4194304 < n)
  (h1:∀ n k x,k < xs.length→xs[k]? = some x→F (n+1) (k:Int)=b x k (F n (w64 ((k:Int)+1))))
  (h2:∀ n k,xs.length≤k→F (n+1) (k:Int)=e):F n (0:Int)=lv (fun x (k:Nat) r=>b x (k:Int) r) e xs 0 :=
 lv_from (by omega) rfl (fun n k x hk hx=>by rw [h1 n k x hk hx,w64_succ (by omega)]) h2
def eqStr (a b:ByteArray):Bool:=a.toList==b.toList
theorem eqStr_refl (a:ByteArray):eqStr a a=true:=by simp [eqStr]
variable {N:Nat} (hN:4194304 < N)
end Gp
end
section
namespace Gp
open Go Go.Kx Gx
variable {N:Nat} (hN:4194304 < N)
def whereV {α:Type} (f:α→Bool) (l:List α):Option Int:=lv (fun x (k:Nat) r=>bif f x then some (k:Int) else r) (some (-1)) l 0
theorem bcomm (a b:ByteArray):(a.toList==b.toList)=(b.toList==a.toList):=by
 rw [Bool.eq_iff_iff,beq_iff_eq,beq_iff_eq];exact ⟨Eq.symm,Eq.symm⟩
include hN in
theorem Index_eq (l:List ByteArray) (hl:l.length≤4194304) (v:ByteArray):z126 N l v=whereV (fun x=>eqStr x v) l:=by
 unfold z126 whereV
 refine look l hl (fun x k r=>bif eqStr x v then some k else r) (z126_l2 l v) _ hN ?_ ?_
 ·intro n k x hk hx
  simp only [z126_l2,lt_t hk,idx_nat,hx,cT,bS,eqStr,bcomm v x]
 ·intro n k hk
  simp only [z126_l2,lt_f hk,cF,z126_k1]
end Gp
end
section
namespace Gp
open Go Go.Kx Gx
theorem lsl_to {α:Type} {L A B:List α} {i:Int} (hL:L=A++B) (hi:i=(A.length:Int)):lsl L none (some i)=some A:=by
 subst hL hi
 have h:decide ((A.length:Int)≤((A++B).length:Int))=true:=by simp;omega
 have h2:decide ((0:Int)≤(A.length:Int))=true:=by simp
 unfold lsl bnd
 simp only [Option.getD_some,Option.getD_none,h,h2]
 simp
end Gp
end
section
namespace Gp
open Go Go.Kx Gx
def allV {α:Type} (p:α→Nat→Bool):List α→Nat→Bool
 | [],_=>true
 | x::l,k=>p x k && allV p l (k+1)
theorem allV_of {α:Type} (p:α→Nat→Bool) (xs:List α) (F:Nat→Int→Option Bool) (e:Option Bool)
  (h1:∀ n k x,k < xs.length→xs[k]? = some x→F (n+1) (k:Int)=bif p x k then F n ((k+1:Nat):Int) else some false)
  (h2:∀ n k,xs.length≤k→F (n+1) (k:Int)=e) :
  ∀ (l:List α) (k n:Nat),xs.drop k=l→l.length < n→F n (k:Int)=bif allV p l k then e else some false:=by
 intro l
 induction l with
 | nil =>
  intro k n h hn
  obtain ⟨n,rfl⟩:∃ m,n=m+1:=⟨n-1,by simp at hn;omega⟩
  exact h2 n k (drop_nil h)
 | cons x l ih =>
  intro k n h hn
  obtain ⟨n,rfl⟩:∃ m,n=m+1:=⟨n-1,by simp at hn;omega⟩
  obtain ⟨a,c,d⟩:=drop_cons h
  rw [h1 n k x a c,ih (k+1) n d (by simp at hn;omega)]
  show _=bif (p x k && allV p l (k+1)) then e else some false
  cases p x k<;>rfl
theorem allV_from {α:Type} (p:α→Nat→Bool) {xs:List α} {F:Nat→Int→Option Bool} {e:Option Bool} {n:Nat} (hn:xs.length < n)
  (h1:∀ n k x,k < xs.length→xs[k]? = some x→F (n+1) (k:Int)=bif p x k then F n ((k+1:Nat):Int) else some false)
  (h2:∀ n k,xs.length≤k→F (n+1) (k:Int)=e):F n (0:Int)=bif allV p xs 0 then e else some false :=
 allV_of p xs F e h1 h2 xs 0 n rfl hn
theorem allV_iff {α:Type} (p:α→Nat→Bool):∀ (l:List α) (k:Nat),allV p l k=true↔∀ i x,l[i]? = some x→p x (k+i)=true
 | [],k=>by simp [allV]
 | x::l,k=>by
  show (p x k && allV p l (k+1))=true↔_
  rw [Bool.and_eq_true,allV_iff p l (k+1)]
  constructor
  ·rintro ⟨h0,h1⟩ i y hy
   cases i with
   | zero=>simp at hy;subst hy;exact h0
   | succ i=>have:=h1 i y (by simpa using hy);rw [show k+(i+1)=k+1+i by omega];exact this
  ·intro h
   exact ⟨by simpa using h 0 x (by simp),fun i y hy=>by rw [show k+1+i=k+(i+1) by omega];exact h (i+1) y (by simpa using hy)⟩
def bs (s:ByteArray):List UInt8:=s.data.toList
theorem size_bs (s:ByteArray):s.size=(bs s).length:=rfl
theorem slt_t {s:ByteArray} {k:Nat} (h:k < (bs s).length):decide ((k:Int) < (s.size:Int))=true:=lt_t h
theorem slt_f {s:ByteArray} {k:Nat} (h:(bs s).length≤k):decide ((k:Int) < (s.size:Int))=false:=lt_f h
theorem toList_bs (s:ByteArray):s.toList=bs s:=ByteArray.toList_eq s
theorem bs_inj {a b:ByteArray} (h:bs a=bs b):a=b:=by
 cases a with | mk a=>cases b with | mk b=>simpa [bs] using h
theorem sidx_bs (s:ByteArray) (k:Nat):sidx s (k:Int)=(bs s)[k]?.map (fun b=>(b.toNat:Int)):=by
 unfold sidx
 have h:decide (0≤(k:Int))=true:=by simp
 rw [h,cT]
 have e:s[(k:Int).toNat]? = (bs s)[k]? := by
  simp [getElem?_def,bs]
  split<;>simp_all
  rfl
 rw [e]
theorem eqStr_iff (a b:ByteArray):eqStr a b=true↔a=b:=by
 unfold eqStr
 rw [beq_iff_eq,toList_bs,toList_bs]
 exact ⟨bs_inj,fun h=>by rw [h]⟩
variable {N:Nat} (hN:4194304 < N)
def letterV (c:Int):Bool:=(decide (97≤c) && decide (c≤122)) || (decide (65≤c) && decide (c≤90))
def innerV (c:Int):Bool:=letterV c || ((decide (48≤c) && decide (c≤57)) || c==95)
theorem letter_eq (N:Nat) (c:Int):z52 N c=some (letterV c):=by
 unfold z52 letterV
 cases decide (97≤c)<;>cases decide (c≤122)<;>cases decide (65≤c)<;>rfl
theorem refLetter_eq (N:Nat) (c:Int):z112 N c=some (letterV c):=letter_eq N c
theorem inner_eq (N:Nat) (c:Int):z103 N c=some (innerV c):=by
 unfold z103 innerV z54
 rw [letter_eq]
 simp only [bS]
 cases letterV c
 ·cases decide (48≤c)<;>cases decide (c≤57)<;>rfl
 ·rfl
theorem refInner_eq (N:Nat) (c:Int):z113 N c=some (innerV c):=inner_eq N c
def isName (s:ByteArray):Bool :=
 match bs s with
 | []=>false
 | x::l=>letterV (x.toNat:Int) && (decide (l.length < 16) && allV (fun (c:UInt8) _=>innerV (c.toNat:Int)) (x::l) 0)
def keywords:List ByteArray:=[(str [97,103,97,105,110]),(str [97,110,100]),(str [97,115]),(str [97,116]),(str [99,97,108,108]),(str [99,104,111,105,99,101]),(str [101,108,115,101]),(str [102,114,111,109]),(str [105,102]),(str [105,110,116]),(str [108,101,110]),(str [108,111,111,112]),(str [109,101,115,115,97,103,101]),(str [111,102]),(str [111,102,102,101,114]),(str [111,110]),(str [111,114]),(str [112,97,114]),(str [112,108,97,121,115]),(str [112,114,111,116,111,99,111,108]),(str [115,101,114,118,105,99,101]),(str [116,101,120,116]),(str [116,105,109,101,115]),(str [116,111]),(str [118,97,114]),(str [119,104,101,114,101]),(str [119,104,105,108,101]),(str [119,105,116,104,105,110])]
def isWord (s:ByteArray):Bool:=isName s && !(keywords.any fun k=>eqStr k s)
include hN in
theorem nameL (s:ByteArray) (hs:s.size≤4194304):z73_l2 N s N (0:Int)=some (allV (fun (c:UInt8) _=>innerV (c.toNat:Int)) (bs s) 0):=by
 rw [size_bs] at hs
 rw [allV_from (xs:=bs s) (fun (c:UInt8) _=>innerV (c.toNat:Int)) (F:=z73_l2 N s) (e:=some true) (by omega)]
 ·cases allV (fun (c:UInt8) _=>innerV (c.toNat:Int)) (bs s) 0<;>rfl
 ·intro n k x hk hx
  simp only [z73_l2,slt_t hk,cT,sidx_bs,hx,Option.map_some,bS,inner_eq,w64_succ (show k < 4611686018427387904 by omega)]
  cases innerV (x.toNat:Int)<;>rfl
 ·intro n k hk
  simp only [z73_l2,slt_f hk,cF,z73_k1]
theorem nameL_ref (s:ByteArray):∀ n k,z137_l2 N s n k=z73_l2 N s n k
 | 0,_=>rfl
 | n+1,k=>by
  simp only [z137_l2,z73_l2,nameL_ref s n]
  rfl
theorem bs_nil:bs (str [])=[]:=rfl
include hN in
theorem name_eq (s:ByteArray) (hs:s.size≤4194304):z73 N s=some (isName s)∧z137 N s=some (isName s):=by
 unfold z73 z137
 rw [nameL_ref,nameL hN s hs,toList_bs,toList_bs,bs_nil,size_bs,show sidx s (0:Int)=sidx s ((0:Nat):Int) from rfl,sidx_bs]
 unfold isName
 cases h:bs s with
 | nil=>exact ⟨rfl,rfl⟩
 | cons x l =>
  have e:(x::l==([]:List UInt8))=false:=rfl
  rw [e]
  simp only [cF,List.getElem?_cons_zero,Option.map_some,bS,letter_eq,refLetter_eq]
  have d:decide (((x::l).length:Int) > 16) = !decide (l.length < 16):=by
   by_cases q:l.length < 16
   ·rw [dT q];simp;omega
   ·rw [dF q];simp;omega
  rw [d]
  cases letterV (x.toNat:Int)<;>cases decide (l.length < 16)<;>exact ⟨rfl,rfl⟩
theorem whereV_any {α:Type} (f:α→Bool) (l:List α) (k:Nat):∃ i,lv (fun x (k:Nat) r=>bif f x then some (k:Int) else r) (some (-1)) l k=some i∧decide (i≥0)=l.any f:=by
 induction l generalizing k with
 | nil=>exact ⟨-1,rfl,rfl⟩
 | cons x l ih =>
  show ∃ i,(bif f x then some (k:Int) else lv _ _ l (k+1))=some i∧_
  rw [List.any_cons]
  cases f x
  ·exact ih (k+1)
  ·exact ⟨k,rfl,by simp⟩
include hN in
theorem contains_eq (l:List ByteArray) (hl:l.length≤4194304) (v:ByteArray):z74 N l v=some (l.any fun x=>eqStr x v):=by
 unfold z74
 rw [Index_eq hN l hl]
 obtain ⟨i,h1,h2⟩:=whereV_any (fun x=>eqStr x v) l 0
 unfold whereV
 rw [h1,bS,h2]
include hN in
theorem refIn_eq (l:List ByteArray) (hl:l.length≤4194304) (v:ByteArray):z117 N l v=some (l.any fun x=>eqStr x v):=by
 unfold z117
 rw [look l hl (fun x k r=>bif eqStr x v then some true else r) (z117_l2 l v) (some false) hN]
 ·generalize (0:Nat)=k
  induction l generalizing k with
  | nil=>rfl
  | cons x l ih =>
   show (bif eqStr x v then some true else lv _ _ l (k+1))=_
   rw [List.any_cons,ih (by simp at hl;omega)]
   cases eqStr x v<;>rfl
 ·intro n k x hk hx
  simp only [z117_l2,lt_t hk,idx_nat,hx,cT,bS,eqStr]
 ·intro n k hk
  simp only [z117_l2,lt_f hk,cF,z117_k1]
include hN in
theorem word_eq (s:ByteArray) (hs:s.size≤4194304):z32 N s=some (isWord s)∧z87 N s=some (isWord s):=by
 obtain ⟨h1,h2⟩:=name_eq hN s hs
 unfold z32 z87 z138
 rw [h1,h2]
 simp only [bS]
 have c1:=contains_eq hN keywords (by decide) s
 have c2:=refIn_eq hN keywords (by decide) s
 unfold keywords at c1 c2
 rw [c1,c2]
 unfold isWord keywords
 simp only [bS]
 cases isName s<;>exact ⟨rfl,rfl⟩
end Gp
end
section
namespace Gp
open Go Go.Kx Gx
def mkB (l:List UInt8):ByteArray:=⟨l.toArray⟩
theorem bs_mkB (l:List UInt8):bs (mkB l)=l:=by simp [bs,mkB]
theorem mkB_bs (s:ByteArray):mkB (bs s)=s:=bs_inj (bs_mkB _)
theorem bs_extract (s:ByteArray) (a b:Nat):bs (s.extract a b)=((bs s).take b).drop a:=by
 unfold bs
 rw [ByteArray.data_extract,Array.toList_extract]
 simp [List.extract,List.drop_take]
theorem ssl_mid {s:ByteArray} {x y z:List UInt8} {i j:Int} (h:bs s=x++(y++z)) (hi:i=(x.length:Int)) (hj:j=((x.length+y.length:Nat):Int)):ssl s (some i) (some j)=some (mkB y):=by
 subst hi hj
 have q1:decide ((0:Int)≤(x.length:Int))=true:=by simp
 have q2:decide ((x.length:Int)≤((x.length+y.length:Nat):Int))=true:=by simp;omega
 have q3:decide (((x.length+y.length:Nat):Int)≤(s.size:Int))=true:=by rw [size_bs,h];simp;omega
 unfold ssl bnd
 simp only [Option.getD_some,q1,q2,q3,Bool.and_self,cT,Option.map_some,Int.toNat_natCast]
 congr 1
 apply bs_inj
 rw [bs_extract,bs_mkB,h,← aA,List.take_append_of_le_length (by simp),List.take_of_length_le (by simp)]
 simp
theorem ssl_to {s:ByteArray} {x y:List UInt8} {j:Int} (h:bs s=x++y) (hj:j=(x.length:Int)):ssl s none (some j)=some (mkB x):=by
 have e:ssl s none (some j)=ssl s (some 0) (some j):=rfl
 rw [e]
 exact ssl_mid (x:=[]) (y:=x) (z:=y) (by rw [h];rfl) rfl (by rw [hj];simp)
theorem ssl_from {s:ByteArray} {x y:List UInt8} {i:Int} (h:bs s=x++y) (hi:i=(x.length:Int)):ssl s (some i) none=some (mkB y):=by
 have e:ssl s (some i) none=ssl s (some i) (some (s.size:Int)):=rfl
 rw [e]
 exact ssl_mid (x:=x) (y:=y) (z:=[]) (by rw [h];simp) hi (by rw [size_bs,h];simp)
theorem indexB_none {l:List UInt8} {c:UInt8} (h:l.count c=0):Go.Lib.indexByte l c=-1:=by
 induction l with
 | nil=>rfl
 | cons b l ih =>
  rw [List.count_cons] at h
  have hb:(b==c)=false:=by
   cases hc:(b==c)
   ·rfl
   ·rw [hc] at h;simp at h
  unfold Go.Lib.indexByte
  rw [hb,ih (by omega)];rfl
theorem indexB_some {l:List UInt8} {c:UInt8} (h:0 < l.count c):∃ p q,l=p++c::q∧p.count c=0∧Go.Lib.indexByte l c=(p.length:Int):=by
 induction l with
 | nil=>simp at h
 | cons b l ih =>
  cases hc:(b==c)
  ·rw [List.count_cons,hc] at h
   obtain ⟨p,q,h1,h2,h3⟩:=ih (by simpa using h)
   refine ⟨b::p,q,by rw [h1];rfl,by rw [List.count_cons,h2,hc];rfl,?_⟩
   unfold Go.Lib.indexByte
   rw [hc,h3,show ((p.length:Int)==-1)=false by simp]
   simp
  ·have:b=c:=by simpa using hc
   subst this
   exact ⟨[],l,rfl,by simp,by unfold Go.Lib.indexByte;rw [hc];rfl⟩
def splitA (acc:List UInt8):List UInt8→List (List UInt8)
 | []=>[acc]
 | c::l=>if c=46 then acc::splitA [] l else splitA (acc++[c]) l
theorem splitA_cons (acc:List UInt8) (c:UInt8) (l:List UInt8):splitA acc (c::l)=if c=46 then acc::splitA [] l else splitA (acc++[c]) l:=rfl
theorem splitA_none:∀ (l acc:List UInt8),l.count 46=0→splitA acc l=[acc++l]
 | [],acc,_=>by simp [splitA]
 | c::l,acc,h=>by
  rw [List.count_cons] at h
  have hc:¬ c=46:=by intro hc;subst hc;simp at h
  rw [splitA_cons,if_neg hc,splitA_none l _ (by omega)];simp
theorem splitA_some:∀ (p acc q:List UInt8),p.count 46=0→splitA acc (p++46::q)=(acc++p)::splitA [] q
 | [],acc,q,_=>by rw [List.nil_append,splitA_cons,if_pos rfl,List.append_nil]
 | c::p,acc,q,h=>by
  rw [List.count_cons] at h
  have hc:¬ c=46:=by intro hc;subst hc;simp at h
  show splitA acc (c::(p++46::q))=_
  rw [splitA_cons,if_neg hc,splitA_some p _ q (by omega)];simp
theorem splitA_len:∀ (l acc:List UInt8),(splitA acc l).length=l.count 46+1
 | [],acc=>by simp [splitA]
 | c::l,acc=>by
  rw [splitA_cons,List.count_cons]
  split
  ·rename_i h;subst h
   rw [List.length_cons,splitA_len l];simp
  ·rename_i h
   rw [splitA_len l];simp [h]
variable {N:Nat}
theorem index_eq (s:ByteArray):z145 N s (str [46])=some (Go.Lib.indexByte (bs s) 46):=by
 unfold z145 z165
 have h1:(((str [46]).size:Int)==0)=false:=rfl
 have h2:(((str [46]).size:Int)==1)=true:=rfl
 have h3:sidx (str [46]) (0:Int)=some 46:=by
  rw [show (0:Int)=((0:Nat):Int) from rfl,sidx_bs];rfl
 rw [h1,h2,h3]
 simp only [cT,cF,bS,z148]
 have hf:firstB s 46=Go.Lib.indexByte (bs s) 46:=Go.Lib.firstIdx_eq s 46
 rw [hf,toList_bs,toList_bs]
 cases he:(bs (str [46])==bs s)
 ·rfl
 ·have he:bs (str [46])=bs s:=eq_of_beq he
  rw [← he];rfl
theorem count_eq (s:ByteArray):z144 N s (str [46])=some (((bs s).count 46:Nat):Int):=by
 unfold z144
 have h1:(((str [46]).size:Int)==0)=false:=rfl
 have h2:(((str [46]).size:Int)==1)=true:=rfl
 have h3:sidx (str [46]) (0:Int)=some 46:=by
  rw [show (0:Int)=((0:Nat):Int) from rfl,sidx_bs];rfl
 rw [h1,h2,h3]
 simp only [cT,cF,bS]
 congr 1
 unfold countB
 rw [show s.foldl (fun (n:Int) x=>if x==Kx.byteOf 46 then n+1 else n) ((0:Nat):Int)=(bs s).foldl (fun (n:Int) x=>if x==Kx.byteOf 46 then n+1 else n) ((0:Nat):Int) from Go.Lib.foldl_data _ _ _,Go.Lib.count_foldl]
 simp [Go.Lib.countByte,Kx.byteOf]
theorem gen_loop (s sep:ByteArray) (hsep:sep=str [46]) (cnt:Nat) (hc:cnt≤s.size) (hs:s.size≤4194304) :
  ∀ (n:Nat) (cur:ByteArray) (D R:List ByteArray),(bs cur).count 46 < n→(bs cur).length≤4194304→D.length+(bs cur).count 46=cnt→R.length=(bs cur).count 46+1 →
  z97_l2 N s sep (0:Int) ((cnt+1:Nat):Int) n cur (D++R) (D.length:Int)=some (D++(splitA [] (bs cur)).map mkB):=by
 subst hsep
 intro n
 induction n with
 | zero=>intro cur D R h;omega
 | succ n ih =>
  intro cur D R hn hcur hD hR
  have hw:w64 ((s.size:Int)+1)=((s.size+1:Nat):Int):=w64_succ (by omega)
  have hmin:minI ((cnt+1:Nat):Int) ((s.size+1:Nat):Int)=((cnt+1:Nat):Int):=by unfold minI;rw [if_neg (by omega)]
  have hw2:w64 (((cnt+1:Nat):Int)-1)=(cnt:Int):=by rw [w64_id (by omega) (by omega)];omega
  have fin:(bs cur).count 46=0→z97_k1 cur (D++R) (D.length:Int)=some (D++(splitA [] (bs cur)).map mkB):=by
   intro h0
   rw [h0] at hR
   obtain ⟨r,rfl⟩:=List.length_eq_one_iff.mp hR
   unfold z97_k1
   rw [idx_mid (A:=D) (x:=r) (B:=[]) rfl rfl,bS,setL'_mid (A:=D) (x:=r) (B:=[]) rfl rfl,w64_succ (by omega),lsl_to (A:=D++[cur]) (B:=[]) (by simp) (by simp),splitA_none _ _ h0]
   simp [mkB_bs]
  by_cases hlt:D.length < cnt
  ·have hd:decide ((D.length:Int) < (cnt:Int))=true:=by simp;omega
   obtain ⟨p,q,e1,e2,e3⟩:=indexB_some (l:=bs cur) (c:=46) (by omega)
   have hlen:(bs cur).length=p.length+(q.length+1):=by rw [e1];simp
   have hcnt:(bs cur).count 46=q.count 46+1:=by rw [e1,List.count_append,List.count_cons,e2];simp
   obtain ⟨r,R',rfl⟩:∃ r R',R=r::R':=by
    cases R with
    | nil=>simp at hR
    | cons r R'=>exact ⟨r,R',rfl⟩
   simp only [List.length_cons] at hR
   have hneg:decide ((p.length:Int) < 0)=false:=by simp
   have wp:w64 ((p.length:Int)+0)=(p.length:Int):=by rw [w64_id (by omega) (by omega)];omega
   have wp1:w64 ((p.length:Int)+((str [46]).size:Int))=((p++[46]:List UInt8).length:Int):=by
    rw [show ((str [46]).size:Int)=1 from rfl,w64_succ (by omega)];simp
   simp only [z97_l2,hw,hmin,hw2,hd,cT,index_eq,e3,bS,hneg,cF,wp,wp1]
   rw [ssl_to e1 rfl,bS,idx_mid (A:=D) (x:=r) (B:=R') rfl rfl,bS,ssl_from (x:=p++[46]) (y:=q) (by rw [e1];simp) rfl,bS,setL'_mid (A:=D) (x:=r) (B:=R') rfl rfl,w64_succ (by omega)]
   have:=ih (mkB q) (D++[mkB p]) R' (by rw [bs_mkB];omega) (by rw [bs_mkB];omega) (by rw [bs_mkB];simp;omega) (by rw [bs_mkB];omega)
   rw [bs_mkB] at this
   rw [show ((D.length+1:Nat):Int)=((D++[mkB p]).length:Int) by simp,show D++mkB p::R'=(D++[mkB p])++R' by simp,this,e1,splitA_some _ _ _ e2]
   simp
  ·have hd:decide ((D.length:Int) < (cnt:Int))=false:=by simp;omega
   simp only [z97_l2,hw,hmin,hw2,hd,cF]
   exact fin (by omega)
theorem split_eq (hN:4194304 < N) (s:ByteArray) (hs:s.size≤1000000):z48 N s (str [46])=some ((splitA [] (bs s)).map mkB):=by
 unfold z48 z97
 have h0:((-1:Int)==0)=false:=rfl
 have h1:((str [46]).toList==(str []).toList)=false:=by rw [toList_bs,toList_bs];rfl
 have h2:decide ((-1:Int) < 0)=true:=rfl
 have hcl:(bs s).count 46≤(bs s).length:=List.count_le_length
 rw [h0,h1,h2,count_eq]
 simp only [cT,cF,bS,z97_k3]
 rw [size_bs] at hs
 rw [w64_succ (by omega)]
 have hw:w64 ((s.size:Int)+1)=((s.size+1:Nat):Int):=w64_succ (by rw [size_bs];omega)
 have hmin:minI (((bs s).count 46+1:Nat):Int) ((s.size+1:Nat):Int)=(((bs s).count 46+1:Nat):Int):=by unfold minI;rw [if_neg (by rw [size_bs];omega)]
 have m:mkL (str []) (((bs s).count 46+1:Nat):Int) (((bs s).count 46+1:Nat):Int)=some (List.replicate ((bs s).count 46+1) (str [])):=by
  unfold mkL
  have q1:decide ((0:Int)≤(((bs s).count 46+1:Nat):Int))=true:=by simp;omega
  have q2:decide ((((bs s).count 46+1:Nat):Int)≤4294967296)=true:=by simp;omega
  simp only [q1,q2,Int.le_refl,decide_true,Bool.and_self,cT]
  simp
 rw [hw,hmin,m,bS]
 have:=gen_loop (N:=N) s (str [46]) rfl ((bs s).count 46) (by rw [size_bs];omega) (by rw [size_bs];omega) N s [] (List.replicate ((bs s).count 46+1) (str [])) (by omega) (by omega) (by simp) (by simp)
 rw [List.nil_append] at this
 have this':z97_l2 N s (str [46]) (0:Int) (((bs s).count 46+1:Nat):Int) N s (List.replicate ((bs s).count 46+1) (str [])) (0:Int)=some ([]++(splitA [] (bs s)).map mkB):=this
 rw [this'];simp
def pathV (s:ByteArray):Bool:=decide (s.size≤50) && (splitA [] (bs s)).all fun p=>isWord (mkB p)
theorem piece_len:∀ (l acc:List UInt8),∀ p∈splitA acc l,p.length≤acc.length+l.length
 | [],acc,p,h=>by simp [splitA] at h;subst h;simp
 | c::l,acc,p,h=>by
  rw [splitA_cons] at h
  split at h
  ·rcases List.mem_cons.mp h with h | h
   ·subst h;simp
   ·have:=piece_len l [] p h;simp at this;simp;omega
  ·have:=piece_len l _ p h;simp at this;simp;omega
theorem path_eq (hN:4194304 < N) (s:ByteArray):z21 N s=some (pathV s):=by
 unfold z21 pathV
 by_cases h:s.size≤50
 ·rw [dT (show (s.size:Int)≤50 by omega),dT h,cT,split_eq hN s (by omega),bS]
  unfold z47_5 z96_4
  have hl:(splitA [] (bs s)).length≤51:=by
   rw [splitA_len]
   have:(bs s).count 46≤(bs s).length:=List.count_le_length
   rw [size_bs] at h;omega
  rw [look ((splitA [] (bs s)).map mkB) (by simp;omega) (fun x k r=>bif !(isWord x) then some k else r) (z96_4_l2 N ((splitA [] (bs s)).map mkB)) (some (-1)) hN]
  ·obtain ⟨i,h1,h2⟩:=whereV_any (fun x => !(isWord x)) ((splitA [] (bs s)).map mkB) 0
   rw [h1,bS,h2,bS,List.any_map,List.not_any_eq_all_not]
   simp [Function.comp_def]
  ·intro n k x hk hx
   have hx':=List.mem_of_getElem? hx
   obtain ⟨p,hp,rfl⟩:=List.mem_map.mp hx'
   have hpl:=piece_len _ _ p hp
   have hw:=(word_eq hN (mkB p) (by rw [size_bs,bs_mkB];rw [size_bs] at h;simp at hpl;omega)).1
   simp only [z96_4_l2,lt_t hk,idx_nat,hx,cT,bS,z49,hw]
  ·intro n k hk
   simp only [z96_4_l2,lt_f hk,cF,z96_4_k1]
 ·rw [dF (show ¬ (s.size:Int)≤50 by omega),dF h];rfl
theorem refPath_loop (hN:4194304 < N) (s:ByteArray) (hs:s.size≤4194304):∀ (n:Nat) (x acc l:List UInt8) (i j:Int),l.length+1 < n→bs s=x++(acc++l)→i=(x.length:Int)→j=((x.length+acc.length:Nat):Int) →
  z22_l2 N s n i j=bif (splitA acc l).all fun p=>isWord (mkB p) then z22_k1 s else some false:=by
 intro n
 induction n with
 | zero=>intro x acc l i j h;omega
 | succ n ih =>
  intro x acc l i j hn he hi hj
  have hsz:s.size=x.length+(acc.length+l.length):=by rw [size_bs,he];simp
  have hle:decide (j≤(s.size:Int))=true:=by simp;omega
  have hw:=(word_eq hN (mkB acc) (by rw [size_bs,bs_mkB];omega)).2
  have wj:w64 (j+1)=((x.length+acc.length+1:Nat):Int):=by rw [hj];exact w64_succ (by omega)
  cases l with
  | nil =>
   have hend:(j==(s.size:Int))=true:=by simp at hsz;simp;omega
   obtain ⟨n,rfl⟩:∃ m,n=m+1:=⟨n-1,by simp at hn;omega⟩
   have hgt:decide (w64 (j+1)≤(s.size:Int))=false:=by rw [wj];simp at hsz;simp;omega
   unfold z22_l2
   rw [hle,cT,hend,cT]
   unfold z22_k3
   rw [cT,ssl_mid he hi hj,bS]
   unfold z40
   rw [hw]
   simp only [bS,splitA,List.all_cons,List.all_nil,Bool.and_true]
   cases isWord (mkB acc)
   ·rfl
   ·simp only [Bool.not_true,cF,cT]
    unfold z22_l2
    rw [hgt];rfl
  | cons c l =>
   have hne:(j==(s.size:Int))=false:=by simp at hsz;simp;omega
   have hgc:sidx s j=some (c.toNat:Int):=by
    rw [hj,sidx_bs,get_at (A:=x++acc) (x:=c) (B:=l) (by rw [he];simp) (by simp)];rfl
   unfold z22_l2
   rw [hle,cT,hne,cF,hgc,bS]
   by_cases hc:c=46
   ·subst hc
    have hb:(((46:UInt8).toNat:Int)==46)=true:=rfl
    rw [hb]
    unfold z22_k3
    rw [cT,ssl_mid he hi hj,bS]
    unfold z40
    rw [hw]
    have e0:splitA acc (46::l)=acc::splitA [] l:=by rw [splitA_cons,if_pos rfl]
    rw [e0,List.all_cons]
    simp only [bS]
    cases isWord (mkB acc)
    ·rfl
    ·simp only [Bool.not_true,cF,Bool.true_and]
     rw [wj]
     exact ih (x++acc++[46]) [] l _ _ (by simp at hn;omega) (by rw [he];simp) (by simp;omega) (by simp;omega)
   ·have hb:((c.toNat:Int)==46)=false:=by
     rw [beq_eq_false_iff_ne]
     intro h
     apply hc
     apply UInt8.toNat_inj.mp
     show c.toNat=46
     omega
    rw [hb]
    unfold z22_k3
    have e0:splitA acc (c::l)=splitA (acc++[c]) l:=by rw [splitA_cons,if_neg hc]
    rw [cF,wj,e0]
    exact ih x (acc++[c]) l _ _ (by simp at hn;omega) (by rw [he];simp) hi (by simp;omega)
theorem refPath_eq (hN:4194304 < N) (s:ByteArray) (hs:s.size≤4000000):z22 N s=some (pathV s):=by
 unfold z22
 rw [refPath_loop hN s (by omega) N [] [] (bs s) (0:Int) (0:Int) (by rw [size_bs] at hs;omega) rfl rfl rfl]
 unfold z22_k1 pathV
 by_cases h:s.size≤50
 ·rw [dT (show (s.size:Int)≤50 by omega),dT h]
  cases (splitA [] (bs s)).all fun p=>isWord (mkB p)<;>rfl
 ·rw [dF (show ¬ (s.size:Int)≤50 by omega),dF h]
  cases (splitA [] (bs s)).all fun p=>isWord (mkB p)<;>rfl
end Gp
end
end
section
namespace Gp
open Go Go.Kx Gx
mutual
def oI:T5→T10
 | ⟨k,f,t,n,a,x,b⟩=>⟨k,f,t,n,a,x,oLL b⟩
def oL:List T5→List T10
 | []=>[]
 | x::l=>oI x::oL l
def oLL:List (List T5)→List (List T10)
 | []=>[]
 | x::l=>oL x::oLL l
end
mutual
def tI:T10→T5
 | ⟨k,f,t,n,a,x,b⟩=>⟨k,f,t,n,a,x,tLL b⟩
def tL:List T10→List T5
 | []=>[]
 | x::l=>tI x::tL l
def tLL:List (List T10)→List (List T5)
 | []=>[]
 | x::l=>tL x::tLL l
end
mutual
theorem ot_I:∀ x,oI (tI x)=x
 | ⟨k,f,t,n,a,x,b⟩=>by simp only [tI,oI,ot_LL b]
theorem ot_L:∀ l,oL (tL l)=l
 | []=>by simp only [tL,oL]
 | x::l=>by simp only [tL,oL,ot_I x,ot_L l]
theorem ot_LL:∀ l,oLL (tLL l)=l
 | []=>by simp only [tLL,oLL]
 | x::l=>by simp only [tLL,oLL,ot_L x,ot_LL l]
end
mutual
theorem to_I:∀ x,tI (oI x)=x
 | ⟨k,f,t,n,a,x,b⟩=>by simp only [tI,oI,to_LL b]
theorem to_L:∀ l,tL (oL l)=l
 | []=>by simp only [tL,oL]
 | x::l=>by simp only [tL,oL,to_I x,to_L l]
theorem to_LL:∀ l,tLL (oLL l)=l
 | []=>by simp only [tLL,oLL]
 | x::l=>by simp only [tLL,oLL,to_L x,to_LL l]
end
theorem oL_map:∀ l,oL l=l.map oI
 | []=>by simp only [oL,List.map_nil]
 | x::l=>by simp only [oL,List.map_cons,oL_map l]
theorem oLL_map:∀ l,oLL l=l.map oL
 | []=>by simp only [oLL,List.map_nil]
 | x::l=>by simp only [oLL,List.map_cons,oLL_map l]
theorem tL_map:∀ l,tL l=l.map tI
 | []=>by simp only [tL,List.map_nil]
 | x::l=>by simp only [tL,List.map_cons,tL_map l]
theorem tLL_map:∀ l,tLL l=l.map tL
 | []=>by simp only [tLL,List.map_nil]
 | x::l=>by simp only [tLL,List.map_cons,tLL_map l]
mutual
def dI:T10→Nat
 | ⟨_,_,_,_,_,_,b⟩=>dLL b+1
def dL:List T10→Nat
 | []=>0
 | x::l=>max (dI x) (dL l)
def dLL:List (List T10)→Nat
 | []=>0
 | x::l=>max (dL x) (dLL l)
end
mutual
def bI:T10→Prop
 | ⟨_,_,t,_,_,_,b⟩=>t.length≤4194304∧b.length≤4194304∧bLL b
def bL:List T10→Prop
 | []=>True
 | x::l=>bI x∧bL l
def bLL:List (List T10)→Prop
 | []=>True
 | x::l=>x.length≤4194304∧bL x∧bLL l
end
theorem dL_mem:∀ {l:List T10} {x},x∈l→dI x≤dL l
 | y::l,x,h=>by
  simp only [dL]
  rcases List.mem_cons.1 h with rfl | h
  ·omega
  ·have:=dL_mem h;omega
theorem dLL_mem:∀ {l:List (List T10)} {x},x∈l→dL x≤dLL l
 | y::l,x,h=>by
  simp only [dLL]
  rcases List.mem_cons.1 h with rfl | h
  ·omega
  ·have:=dLL_mem h;omega
theorem dI_eq (x:T10):dI x=dLL x.Blocks+1:=by cases x;simp only [dI]
theorem bL_mem:∀ {l:List T10} {x},bL l→x∈l→bI x
 | y::l,x,hb,h=>by
  simp only [bL] at hb
  rcases List.mem_cons.1 h with rfl | h
  ·exact hb.1
  ·exact bL_mem hb.2 h
theorem bLL_mem:∀ {l:List (List T10)} {x},bLL l→x∈l→x.length≤4194304∧bL x
 | y::l,x,hb,h=>by
  simp only [bLL] at hb
  rcases List.mem_cons.1 h with rfl | h
  ·exact ⟨hb.1,hb.2.1⟩
  ·exact bLL_mem hb.2.2 h
theorem bI_eq (x:T10):bI x↔x.To.length≤4194304∧x.Blocks.length≤4194304∧bLL x.Blocks:=by cases x;simp only [bI]
theorem oI_eq (x:T5):oI x=⟨x.Kind,x.From,x.To,x.Name,x.As,x.Ticks,oLL x.Blocks⟩:=by cases x;simp only [oI]
theorem tI_eq (x:T10):tI x=⟨x.Kind,x.From,x.To,x.Name,x.As,x.Ticks,tLL x.Blocks⟩:=by cases x;simp only [tI]
def Dq (o:Option Bool) (P:Prop):Prop:=∃ r,o=some r∧(r=true↔P)
theorem Dq.iff {o P Q} (h:Dq o P) (k:P↔Q):Dq o Q:=by
 obtain ⟨r,h1,h2⟩:=h
 exact ⟨r,h1,h2.trans k⟩
theorem Dq.tr:Dq (some true) True:=⟨true,rfl,by simp⟩
theorem Dq.fa:Dq (some false) False:=⟨false,rfl,by simp⟩
theorem Dq.bool (b:Bool):Dq (some b) (b=true):=⟨b,rfl,Iff.rfl⟩
theorem Dq.cA {c:Bool} {C P:Prop} {o:Option Bool} (hc:c=true↔C) (h:C→Dq o P):Dq (bif c then o else some false) (C∧P):=by
 cases c with
 | false=>exact ⟨false,rfl,by simp at hc ⊢;intro h;exact absurd h hc⟩
 | true =>
  have hC:=hc.1 rfl
  obtain ⟨r,h1,h2⟩:=h hC
  exact ⟨r,h1,by rw [h2];exact ⟨fun p=>⟨hC,p⟩,fun p=>p.2⟩⟩
theorem Dq.cN {c:Bool} {C P:Prop} {o:Option Bool} (hc:c=false↔C) (h:C→Dq o P):Dq (bif c then some false else o) (C∧P):=by
 cases c with
 | true=>exact ⟨false,rfl,by simp at hc ⊢;intro h;exact absurd h hc⟩
 | false =>
  have hC:=hc.1 rfl
  obtain ⟨r,h1,h2⟩:=h hC
  exact ⟨r,h1,by rw [h2];exact ⟨fun p=>⟨hC,p⟩,fun p=>p.2⟩⟩
theorem Dq.bA {C P:Prop} {o1 o2:Option Bool} (h1:Dq o1 C) (h:C→Dq o2 P):Dq (o1.bind fun x=>bif x then o2 else some false) (C∧P):=by
 obtain ⟨r,e,hr⟩:=h1
 rw [e]
 exact Dq.cA hr h
theorem Dq.bN {C P:Prop} {o1 o2:Option Bool} (h1:Dq o1 C) (h:C→Dq o2 P):Dq (o1.bind fun x=>bif (!x) then some false else o2) (C∧P):=by
 obtain ⟨r,e,hr⟩:=h1
 rw [e]
 exact Dq.cN (by rw [← hr];cases r<;>simp) h
theorem Dq.bS {C:Prop} {o1:Option Bool} (h1:Dq o1 C):Dq (o1.bind fun x=>some x) C:=by
 obtain ⟨r,e,hr⟩:=h1
 exact ⟨r,by rw [e];rfl,hr⟩
theorem nbeq {a b:Int}:(a != b)=false↔a=b:=by simp
theorem nlen {a b:Nat}:((a:Int) != (b:Int))=false↔a=b:=by simp;omega
theorem ibeq {a b:Int}:(a==b)=true↔a=b:=by simp
theorem seq' {a b:ByteArray}:(a.toList==b.toList)=true↔a=b:=eqStr_iff a b
theorem nseq {a b:ByteArray}:(!(a.toList==b.toList))=false↔a=b:=by
 rw [← eqStr_iff a b];unfold eqStr;cases (a.toList==b.toList)<;>simp
theorem get_lt {α:Type} {l:List α} {i:Nat} {x:α} (h:l[i]? = some x):i < l.length:=(List.getElem?_eq_some_iff.1 h).1
theorem dq_loop {α β:Type} {xs:List α} {ys:List β} (hl:xs.length=ys.length) (hs:xs.length≤4194304) {R:α→β→Prop} (F:Nat→Int→Option Bool) {E:Prop}
  (h1:∀ (n k:Nat) x y Q,k < 4194304→xs[k]? = some x→ys[k]? = some y→Dq (F n ((k+1:Nat):Int)) Q→Dq (F (n+1) (k:Int)) (R x y∧Q))
  (h2:∀ (n k:Nat),xs.length≤k→Dq (F (n+1) (k:Int)) E) {N:Nat} (hN:xs.length < N):Dq (F N (0:Int)) ((∀ (i:Nat) (x:α) (y:β),xs[i]? = some x→ys[i]? = some y→R x y)∧E):=by
 have key:∀ d k n,xs.length-k=d→d < n→Dq (F n (k:Int)) ((∀ (i:Nat) (x:α) (y:β),k≤i→xs[i]? = some x→ys[i]? = some y→R x y)∧E):=by
  intro d
  induction d with
  | zero =>
   intro k n h hn
   obtain ⟨n,rfl⟩:∃ m,n=m+1:=⟨n-1,by omega⟩
   refine (h2 n k (by omega)).iff ⟨fun h'=>⟨fun i x y hi hx _=>?_,h'⟩,fun h'=>h'.2⟩
   have:=get_lt hx;omega
  | succ d ih =>
   intro k n h hn
   obtain ⟨n,rfl⟩:∃ m,n=m+1:=⟨n-1,by omega⟩
   have hk:k < xs.length:=by omega
   have hk':k < ys.length:=by omega
   refine (h1 n k _ _ _ (by omega) (List.getElem?_eq_getElem hk) (List.getElem?_eq_getElem hk') (ih (k+1) n (by omega) (by omega))).iff ⟨fun h'=>⟨fun i x y hi hx hy=>?_,h'.2.2⟩,fun h'=>⟨?_,fun i x y hi hx hy=>h'.1 i x y (by omega) hx hy,h'.2⟩⟩
   ·rcases Nat.eq_or_lt_of_le hi with rfl | hi
    ·rw [List.getElem?_eq_getElem hk] at hx;rw [List.getElem?_eq_getElem hk'] at hy
     cases hx;cases hy;exact h'.1
    ·exact h'.2.1 i x y hi hx hy
   ·exact h'.1 k _ _ (Nat.le_refl _) (List.getElem?_eq_getElem hk) (List.getElem?_eq_getElem hk')
 refine (key xs.length 0 N rfl hN).iff ⟨fun h=>⟨fun i x y hx hy=>h.1 i x y (Nat.zero_le _) hx hy,h.2⟩,fun h=>⟨fun i x y _ hx hy=>h.1 i x y hx hy,h.2⟩⟩
theorem list_pt {α:Type} {xs ys:List α} (hl:xs.length=ys.length):((∀ (i:Nat) (x y:α),xs[i]? = some x→ys[i]? = some y→x=y)∧True)↔xs=ys:=by
 refine ⟨fun h=>List.ext_getElem? fun i=>?_,fun h=>⟨fun i x y hx hy=>by subst h;rw [hx] at hy;exact Option.some.inj hy,trivial⟩⟩
 rcases Nat.lt_or_ge i xs.length with hi | hi
 ·rw [List.getElem?_eq_getElem hi,List.getElem?_eq_getElem (by omega:i < ys.length),h.1 i _ _ (List.getElem?_eq_getElem hi) (List.getElem?_eq_getElem (by omega))]
 ·rw [List.getElem?_eq_none hi,List.getElem?_eq_none (by omega)]
theorem dq_list {α:Type} {xs ys:List α} (hs:xs.length≤4194304) (F:Nat→Int→Option Bool)
  (h1:∀ (n k:Nat) x y Q,k < 4194304→xs[k]? = some x→ys[k]? = some y→Dq (F n ((k+1:Nat):Int)) Q→Dq (F (n+1) (k:Int)) (x=y∧Q))
  (h2:∀ (n k:Nat),xs.length≤k→F (n+1) (k:Int)=some true) {N:Nat} (hN:4194304 < N) :
  Dq (bif ((xs.length:Int) != (ys.length:Int)) then some false else F N (0:Int)) (xs=ys):=by
 by_cases hl:xs.length=ys.length
 ·have:=dq_loop hl hs (R:=fun x y=>x=y) (E:=True) F h1 (fun n k hk=>by rw [h2 n k hk];exact Dq.tr) (N:=N) (by omega)
  rw [nlen.2 hl]
  exact this.iff (list_pt hl)
 ·have:((xs.length:Int) != (ys.length:Int))=true:=by simp;omega
  rw [this]
  exact Dq.fa.iff ⟨fun h=>h.elim,fun h=>hl (by rw [h])⟩
variable {N:Nat} (hN:4194304 < N)
include hN in
theorem rstrs_dq (xs ys:List ByteArray) (hs:xs.length≤4194304):Dq (z28 N xs ys) (xs=ys):=by
 unfold z28
 refine dq_list hs _ (fun n k x y Q hk hx hy h=>?_) (fun n k hk=>?_) hN
 ·simp only [z28_l2,lt_t (get_lt hx),cT,idx_nat,hx,hy,bS,w64_succ (show k < 4611686018427387904 by omega)]
  exact Dq.cN nseq fun _=>h
 ·simp only [z28_l2,lt_f hk,cF,z28_k1]
theorem fld_test (x y:T0):(!((x.Name.toList==y.Name.toList) && (((x.Sort'.Kind==y.Sort'.Kind) && ((x.Sort'.Lo==y.Sort'.Lo) && ((x.Sort'.Hi==y.Sort'.Hi) && true))) && true)))=false↔x=y:=by
 obtain ⟨n,⟨k,l,h⟩⟩:=x
 obtain ⟨n',⟨k',l',h'⟩⟩:=y
 simp only [Bool.not_eq_false',Bool.and_eq_true,seq',ibeq,T0.mk.injEq,T1.mk.injEq]
 constructor
 ·rintro ⟨a,⟨b,c,d,_⟩,_⟩;exact ⟨a,b,c,d⟩
 ·rintro ⟨a,b,c,d⟩;exact ⟨a,⟨b,c,d,trivial⟩,trivial⟩
theorem ratm_test (x y:T4):(!(((x.Left.Kind==y.Left.Kind) && ((x.Left.Message.toList==y.Left.Message.toList) && ((x.Left.Field.toList==y.Left.Field.toList) && ((x.Left.N==y.Left.N) && true)))) && ((x.Op.toList==y.Op.toList) && (((x.Right.Kind==y.Right.Kind) && ((x.Right.Message.toList==y.Right.Message.toList) && ((x.Right.Field.toList==y.Right.Field.toList) && ((x.Right.N==y.Right.N) && true)))) && true))))=false↔x=y:=by
 obtain ⟨⟨k,m,f,n⟩,o,⟨k2,m2,f2,n2⟩⟩:=x
 obtain ⟨⟨k',m',f',n'⟩,o',⟨k2',m2',f2',n2'⟩⟩:=y
 simp only [Bool.not_eq_false',Bool.and_eq_true,seq',ibeq,T4.mk.injEq,T13.mk.injEq]
 constructor
 ·rintro ⟨⟨a,b,c,d,_⟩,e,⟨f,g,h,i,_⟩,_⟩;exact ⟨⟨a,b,c,d⟩,e,f,g,h,i⟩
 ·rintro ⟨⟨a,b,c,d⟩,e,f,g,h,i⟩;exact ⟨⟨a,b,c,d,trivial⟩,e,⟨f,g,h,i,trivial⟩,trivial⟩
def bM (m:T11):Prop:=m.Fields.length≤4194304∧m.Where.length≤4194304
structure bP (p:T12):Prop where
 r:p.Roles.length≤4194304
 m:p.Messages.length≤4194304
 ms:∀ x∈p.Messages,bM x
 l:p.Body.length≤4194304
 b:bL p.Body
end Gp
end
section
namespace Gp
open Go Go.Kx Gx
theorem fold_loop {α γ σ:Type} (xs:List α) (F:Nat→σ→Int→γ) (step:σ→α→σ) (fin:σ→γ) (Inv:Nat→σ→Prop)
  (h1:∀ (n k:Nat) s x,Inv k s→xs[k]? = some x→F (n+1) s (k:Int)=F n (step s x) ((k+1:Nat):Int)∧Inv (k+1) (step s x))
  (h2:∀ (n k:Nat) s,Inv k s→xs.length≤k→F (n+1) s (k:Int)=fin s) {N:Nat} {s:σ} (hN:xs.length < N) (h0:Inv 0 s) :
  F N s (0:Int)=fin (xs.foldl step s)∧Inv xs.length (xs.foldl step s):=by
 have key:∀ (l:List α) (k n:Nat) (s:σ),xs.drop k=l→l.length < n→Inv k s→F n s (k:Int)=fin (l.foldl step s)∧Inv (k+l.length) (l.foldl step s):=by
  intro l
  induction l with
  | nil =>
   intro k n s h hn hi
   obtain ⟨n,rfl⟩:∃ m,n=m+1:=⟨n-1,by simp at hn;omega⟩
   exact ⟨h2 n k s hi (drop_nil h),hi⟩
  | cons x l ih =>
   intro k n s h hn hi
   obtain ⟨n,rfl⟩:∃ m,n=m+1:=⟨n-1,by simp at hn;omega⟩
   obtain ⟨a,c,d⟩:=drop_cons h
   obtain ⟨e1,e2⟩:=h1 n k s x hi c
   obtain ⟨e3,e4⟩:=ih (k+1) n _ d (by simp at hn;omega) e2
   refine ⟨e1.trans e3,?_⟩
   rw [List.length_cons,show k+(l.length+1)=k+1+l.length by omega]
   exact e4
 have:=key xs 0 N s rfl hN h0
 rw [Nat.zero_add] at this
 exact this
mutual
def cI:T10→Nat
 | ⟨_,_,_,_,_,_,b⟩=>cLL b+1
def cL:List T10→Nat
 | []=>0
 | x::l=>cI x+cL l
def cLL:List (List T10)→Nat
 | []=>0
 | x::l=>cL x+cLL l
end
theorem cI_eq (x:T10):cI x=cLL x.Blocks+1:=by cases x;simp only [cI]
mutual
theorem dc_I:∀ x,dI x≤cI x
 | ⟨_,_,_,_,_,_,b⟩=>by simp only [dI,cI];have:=dc_LL b;omega
theorem dc_L:∀ l,dL l≤cL l
 | []=>by simp only [dL,cL];omega
 | x::l=>by simp only [dL,cL];have:=dc_I x;have:=dc_L l;omega
theorem dc_LL:∀ l,dLL l≤cLL l
 | []=>by simp only [dLL,cLL];omega
 | x::l=>by simp only [dLL,cLL];have:=dc_L x;have:=dc_LL l;omega
end
theorem drop_get {α:Type} {xs:List α} {k:Nat} {x:α} (h:xs[k]? = some x):xs.drop k=x::xs.drop (k+1):=by
 obtain ⟨hk,rfl⟩:=List.getElem?_eq_some_iff.1 h
 exact List.drop_eq_getElem_cons hk
theorem cL_fold:∀ (l:List T5) (s:Int),l.foldl (fun s x=>s+(cI (oI x):Int)) s=s+(cL (oL l):Int)
 | [],s=>by simp [oL,cL]
 | x::l,s=>by rw [List.foldl_cons,cL_fold l];simp only [oL,cL];push_cast;omega
theorem cLL_fold:∀ (l:List (List T5)) (s:Int),l.foldl (fun s x=>s+(cL (oL x):Int)) s=s+(cLL (oLL l):Int)
 | [],s=>by simp [oLL,cLL]
 | x::l,s=>by rw [List.foldl_cons,cLL_fold l];simp only [oLL,cLL];push_cast;omega
theorem oLL_len (l:List (List T5)):(oLL l).length=l.length:=by rw [oLL_map,List.length_map]
theorem oL_len (l:List T5):(oL l).length=l.length:=by rw [oL_map,List.length_map]
theorem oL_in {l:List T5} {x} (h:x∈l):oI x∈oL l:=by rw [oL_map];exact List.mem_map.2 ⟨x,h,rfl⟩
theorem oLL_in {l:List (List T5)} {x} (h:x∈l):oL x∈oLL l:=by rw [oLL_map];exact List.mem_map.2 ⟨x,h,rfl⟩
theorem oI_blocks (x:T5):(oI x).Blocks=oLL x.Blocks:=by rw [oI_eq]
theorem oI_to (x:T5):(oI x).To=x.To:=by rw [oI_eq]
theorem count_eq':∀ (N:Nat) (xs:List T5),4194306+dL (oL xs)≤N→xs.length≤4194304→bL (oL xs)→cL (oL xs)≤1099511627776→z37 N xs=some ((cL (oL xs):Nat):Int)
 | 0,_,h,_,_,_=>by omega
 | N+1,xs,h,hs,hb,hc=>by
  show z37_b N (z37 N) xs=_
  unfold z37_b
  have hN:4194304 < N:=by omega
  have inner:∀ (k:Nat) (x:T5) (s:Int) (ag:Int→Int→Option Int),xs[k]? = some x→0≤s→s+(cLL (oLL x.Blocks):Int)≤1099511627776 →
    z37_l4 (z37 N) xs (k:Int) ag N s (0:Int)=ag (s+(cLL (oLL x.Blocks):Int)) ((k+1:Nat):Int):=by
   intro k x s ag hx h0 hle
   have hm:=List.mem_of_getElem? hx
   have hbx:=(bI_eq _).1 (bL_mem hb (oL_in hm))
   rw [oI_blocks,oLL_len] at hbx
   have hdx:=dL_mem (oL_in hm)
   rw [dI_eq,oI_blocks] at hdx
   have hk:=get_lt hx
   have:=(fold_loop x.Blocks (z37_l4 (z37 N) xs (k:Int) ag) (fun s b=>s+(cL (oL b):Int)) (fun s=>ag s ((k+1:Nat):Int))
    (fun j s=>0≤s∧s+(cLL (oLL (x.Blocks.drop j)):Int)≤1099511627776) (fun n j s b hi hj=>?_) (fun n j s hi hj=>?_) (N:=N) (s:=s) (by omega) ⟨h0,by rw [List.drop_zero];exact hle⟩).1
   ·rw [this,cLL_fold]
   ·obtain ⟨h1,h2⟩:=hi
    rw [drop_get hj] at h2
    simp only [oLL,cLL] at h2
    have hmb:=List.mem_of_getElem? hj
    have hbb:=bLL_mem hbx.2.2 (oLL_in hmb)
    have hdb:=dLL_mem (oLL_in hmb)
    rw [oL_len] at hbb
    have e:=count_eq' N b (by omega) hbb.1 hbb.2 (by omega)
    refine ⟨?_,by omega,by push_cast at h2;omega⟩
    simp only [z37_l4,idx_nat,hx,bS,lt_t (get_lt hj),cT,hj,e]
    rw [w64_id (by omega) (by omega),w64_succ (by have:=get_lt hj;omega)]
   ·simp only [z37_l4,idx_nat,hx,bS,lt_f hj,cF,z37_k3]
    rw [w64_succ (by omega)]
  have:=(fold_loop xs (z37_l2 N (z37 N) xs) (fun s x=>s+(cI (oI x):Int)) (fun s=>some s)
   (fun j s=>0≤s∧s+(cL (oL (xs.drop j)):Int)≤1099511627776) (fun n k s x hi hx=>?_) (fun n k s hi hk=>?_) (N:=N) (s:=0) (by omega) ⟨by omega,by rw [List.drop_zero];omega⟩).1
  ·rw [this,cL_fold];simp
  ·obtain ⟨h1,h2⟩:=hi
   rw [drop_get hx] at h2
   simp only [oL,cL] at h2
   have hcx:=cI_eq (oI x)
   rw [oI_blocks] at hcx
   refine ⟨?_,by omega,by push_cast at h2;omega⟩
   simp only [z37_l2,lt_t (get_lt hx),cT]
   rw [w64_id (by omega) (by omega),inner k x (s+1) _ hx (by omega) (by omega),hcx]
   congr 1
   push_cast;omega
  ·simp only [z37_l2,lt_f hk,cF,z37_k1]
def oA (a:T4):T9:=⟨a.Left,a.Op,a.Right⟩
def tA (a:T9):T4:=⟨a.Left,a.Op,a.Right⟩
def oM (m:T6):T11:=⟨m.Name,m.Fields,m.Where.map oA⟩
def tM (m:T11):T6:=⟨m.Name,m.Fields,m.Where.map tA⟩
def oP (p:T7):T12:=⟨p.Name,p.Roles,p.Messages.map oM,oL p.Body⟩
def tP (p:T12):T7:=⟨p.Name,p.Roles,p.Messages.map tM,tL p.Body⟩
theorem map_id' {α β:Type} {f:α→β} {g:β→α} (h:∀ x,f (g x)=x) (l:List β):(l.map g).map f=l:=by
 induction l with
 | nil=>rfl
 | cons x l ih=>rw [List.map_cons,List.map_cons,h,ih]
theorem ot_A (a):oA (tA a)=a:=rfl
theorem to_A (a):tA (oA a)=a:=rfl
theorem ot_M (m):oM (tM m)=m:=by obtain ⟨n,f,w⟩:=m;simp only [oM,tM,map_id' ot_A]
theorem to_M (m):tM (oM m)=m:=by obtain ⟨n,f,w⟩:=m;simp only [oM,tM,map_id' to_A]
theorem ot_P (m):oP (tP m)=m:=by obtain ⟨n,f,w,b⟩:=m;simp only [oP,tP,map_id' ot_M,ot_L]
theorem to_P (m):tP (oP m)=m:=by obtain ⟨n,f,w,b⟩:=m;simp only [oP,tP,map_id' to_M,to_L]
theorem snoc_fold {α β:Type} (f:α→β):∀ (l:List α) (s:List β),l.foldl (fun s x=>s++[f x]) s=s++l.map f
 | [],s=>by simp
 | x::l,s=>by rw [List.foldl_cons,snoc_fold f l,List.map_cons];simp
theorem own_items:∀ (N:Nat) (xs:List T5),4194306+dL (oL xs)≤N→xs.length≤4194304→bL (oL xs)→z38 N xs=some (oL xs)
 | 0,_,h,_,_=>by omega
 | N+1,xs,h,hs,hb=>by
  show z38_b N (z38 N) xs=_
  unfold z38_b
  have hN:4194304 < N:=by omega
  have inner:∀ (k:Nat) (x:T5) (acc:List T10) (ag:List T10→Int→Option (List T10)),xs[k]? = some x→acc.length≤4194304 →
    z38_l4 (z38 N) acc (k:Int) ag x N [] (0:Int)=ag (acc++[oI x]) ((k+1:Nat):Int):=by
   intro k x acc ag hx hacc
   have hm:=List.mem_of_getElem? hx
   have hbx:=(bI_eq _).1 (bL_mem hb (oL_in hm))
   rw [oI_blocks,oLL_len] at hbx
   have hdx:=dL_mem (oL_in hm)
   rw [dI_eq,oI_blocks] at hdx
   have hk:=get_lt hx
   have:=(fold_loop x.Blocks (z38_l4 (z38 N) acc (k:Int) ag x) (fun s b=>s++[oL b]) (fun s=>z38_k3 acc (k:Int) ag x s)
    (fun j s=>s.length=j) (fun n j s b hi hj=>?_) (fun n j s hi hj=>?_) (N:=N) (s:=[]) (by omega) rfl).1
   ·rw [this,snoc_fold,List.nil_append,← oLL_map]
    unfold z38_k3
    rw [appL_some (by simp;omega),bS,w64_succ (by omega),oI_eq]
   ·have hmb:=List.mem_of_getElem? hj
    have hbb:=bLL_mem hbx.2.2 (oLL_in hmb)
    have hdb:=dLL_mem (oLL_in hmb)
    rw [oL_len] at hbb
    have e:=own_items N b (by omega) hbb.1 hbb.2
    have hjl:=get_lt hj
    refine ⟨?_,by simp [hi]⟩
    simp only [z38_l4,lt_t hjl,cT,idx_nat,hj,bS,e]
    rw [appL_some (by simp;omega),bS,w64_succ (by omega)]
   ·simp only [z38_l4,lt_f hj,cF]
  have:=(fold_loop xs (z38_l2 N (z38 N) xs) (fun s x=>s++[oI x]) (fun s=>some s)
   (fun j s=>s.length=j) (fun n k s x hi hx=>?_) (fun n k s hi hk=>?_) (N:=N) (s:=[]) (by omega) rfl).1
  ·rw [this,snoc_fold,List.nil_append,← oL_map]
  ·have hk:=get_lt hx
   refine ⟨?_,by simp [hi]⟩
   simp only [z38_l2,lt_t hk,cT,idx_nat,hx,bS]
   rw [inner k x s _ hx (by omega)]
  ·simp only [z38_l2,lt_f hk,cF,z38_k1]
theorem their_items:∀ (N:Nat) (xs:List T10),4194306+dL xs≤N→xs.length≤4194304→bL xs→z31 N xs=some (tL xs)
 | 0,_,h,_,_=>by omega
 | N+1,xs,h,hs,hb=>by
  show z31_b N (z31 N) xs=_
  unfold z31_b
  have hN:4194304 < N:=by omega
  have inner:∀ (k:Nat) (x:T10) (acc:List T5) (ag:List T5→Int→Option (List T5)),xs[k]? = some x→acc.length≤4194304 →
    z31_l4 (z31 N) acc (k:Int) ag x N [] (0:Int)=ag (acc++[tI x]) ((k+1:Nat):Int):=by
   intro k x acc ag hx hacc
   have hm:=List.mem_of_getElem? hx
   have hbx:=(bI_eq _).1 (bL_mem hb hm)
   have hdx:=dL_mem hm
   rw [dI_eq] at hdx
   have hk:=get_lt hx
   have:=(fold_loop x.Blocks (z31_l4 (z31 N) acc (k:Int) ag x) (fun s b=>s++[tL b]) (fun s=>z31_k3 acc (k:Int) ag x s)
    (fun j s=>s.length=j) (fun n j s b hi hj=>?_) (fun n j s hi hj=>?_) (N:=N) (s:=[]) (by omega) rfl).1
   ·rw [this,snoc_fold,List.nil_append,← tLL_map]
    unfold z31_k3
    rw [appL_some (by simp;omega),bS,w64_succ (by omega),tI_eq]
   ·have hmb:=List.mem_of_getElem? hj
    have hbb:=bLL_mem hbx.2.2 hmb
    have hdb:=dLL_mem hmb
    have e:=their_items N b (by omega) hbb.1 hbb.2
    have hjl:=get_lt hj
    refine ⟨?_,by simp [hi]⟩
    simp only [z31_l4,lt_t hjl,cT,idx_nat,hj,bS,e]
    rw [appL_some (by simp;omega),bS,w64_succ (by omega)]
   ·simp only [z31_l4,lt_f hj,cF]
  have:=(fold_loop xs (z31_l2 N (z31 N) xs) (fun s x=>s++[tI x]) (fun s=>some s)
   (fun j s=>s.length=j) (fun n k s x hi hx=>?_) (fun n k s hi hk=>?_) (N:=N) (s:=[]) (by omega) rfl).1
  ·rw [this,snoc_fold,List.nil_append,← tL_map]
  ·have hk:=get_lt hx
   refine ⟨?_,by simp [hi]⟩
   simp only [z31_l2,lt_t hk,cT,idx_nat,hx,bS]
   rw [inner k x s _ hx (by omega)]
  ·simp only [z31_l2,lt_f hk,cF,z31_k1]
end Gp
end
section
namespace Gp
open Go Go.Kx Gx
variable {N:Nat} (hN:4194304 < N)
def RP (p:T7):Prop:=bP (oP p)
theorem oM_w (m:T6):(oM m).Where.length=m.Where.length:=by show (m.Where.map oA).length=_;simp
theorem RP_ms {p:T7} (h:RP p) {m} (hm:m∈p.Messages):m.Fields.length≤4194304∧m.Where.length≤4194304:=by
 have:=h.ms (oM m) (List.mem_map.2 ⟨m,hm,rfl⟩)
 have h2:=this.2
 rw [oM_w] at h2
 exact ⟨this.1,h2⟩
theorem RP_m {p:T7} (h:RP p):p.Messages.length≤4194304:=by
 have:=h.m
 have e:(oP p).Messages.length=p.Messages.length:=by show (p.Messages.map oM).length=_;simp
 omega
theorem RP_l {p:T7} (h:RP p):p.Body.length≤4194304:=by
 have:=h.l
 have e:(oP p).Body.length=p.Body.length:=oL_len _
 omega
include hN in
theorem own_eq (xs:List T7) (hs:xs.length≤4194304) (hb:∀ p∈xs,RP p∧4194306+dL (oL p.Body)≤N):z17 N xs=some (xs.map oP):=by
 unfold z17
 have i3:∀ (ms:List T11) (j:Nat) (ag:List T11→Int→Option (List T12)) (m:T6),ms.length≤4194304→j < 4194304→m.Where.length≤4194304 →
   z17_l6 ms (j:Int) ag m N [] (0:Int)=ag (ms++[oM m]) ((j+1:Nat):Int):=by
  intro ms j ag m h1 h2 h3
  have:=(fold_loop m.Where (z17_l6 ms (j:Int) ag m) (fun s a=>s++[oA a]) (fun s=>z17_k5 ms (j:Int) ag m s) (fun i s=>s.length=i)
   (fun n i s a hi ha=>?_) (fun n i s hi ha=>?_) (N:=N) (s:=[]) (by omega) rfl).1
  ·rw [this,snoc_fold,List.nil_append]
   unfold z17_k5
   rw [appL_some (by simp;omega),bS,w64_succ (by omega)]
   rfl
  ·have hj:=get_lt ha
   refine ⟨?_,by simp [hi]⟩
   simp only [z17_l6,lt_t hj,cT,idx_nat,ha,bS]
   rw [appL_some (by simp;omega),bS,w64_succ (by omega)]
   rfl
  ·simp only [z17_l6,lt_f ha,cF]
 have i2:∀ (ps:List T12) (j:Nat) (ag:List T12→Int→Option (List T12)) (p:T7) (b:List T10),ps.length≤4194304→j < 4194304→RP p →
   z17_l4 N ps (j:Int) ag p b N [] (0:Int)=ag (ps++[⟨p.Name,p.Roles,p.Messages.map oM,b⟩]) ((j+1:Nat):Int):=by
  intro ps j ag p b h1 h2 h3
  have hpm:=RP_m h3
  have:=(fold_loop p.Messages (z17_l4 N ps (j:Int) ag p b) (fun s a=>s++[oM a]) (fun s=>z17_k3 ps (j:Int) ag p b s) (fun i s=>s.length=i)
   (fun n i s a hi ha=>?_) (fun n i s hi ha=>?_) (N:=N) (s:=[]) (by omega) rfl).1
  ·rw [this,snoc_fold,List.nil_append]
   unfold z17_k3
   rw [appL_some (by simp;omega),bS,w64_succ (by omega)]
  ·have hj:=get_lt ha
   refine ⟨?_,by simp [hi]⟩
   simp only [z17_l4,lt_t hj,cT,idx_nat,ha,bS]
   rw [i3 s i _ a (by omega) (by omega) (RP_ms h3 (List.mem_of_getElem? ha)).2]
  ·simp only [z17_l4,lt_f ha,cF]
 have:=(fold_loop xs (z17_l2 N xs) (fun s a=>s++[oP a]) (fun s=>some s) (fun i s=>s.length=i)
   (fun n i s a hi ha=>?_) (fun n i s hi ha=>?_) (N:=N) (s:=[]) (by omega) rfl).1
 ·rw [this,snoc_fold,List.nil_append]
 ·have hj:=get_lt ha
  refine ⟨?_,by simp [hi]⟩
  obtain ⟨h1,h2⟩:=hb a (List.mem_of_getElem? ha)
  simp only [z17_l2,lt_t hj,cT,idx_nat,ha,bS]
  rw [own_items N a.Body h2 (RP_l h1) h1.b,bS,i2 s i _ a _ (by omega) (by omega) h1]
  rfl
 ·simp only [z17_l2,lt_f ha,cF,z17_k1]
include hN in
theorem their_eq (xs:List T12) (hs:xs.length≤4194304) (hb:∀ p∈xs,bP p∧4194306+dL p.Body≤N):z13 N xs=some (xs.map tP):=by
 unfold z13
 have i3:∀ (ms:List T6) (j:Nat) (ag:List T6→Int→Option (List T7)) (m:T11),ms.length≤4194304→j < 4194304→m.Where.length≤4194304 →
   z13_l6 ms (j:Int) ag m N [] (0:Int)=ag (ms++[tM m]) ((j+1:Nat):Int):=by
  intro ms j ag m h1 h2 h3
  have:=(fold_loop m.Where (z13_l6 ms (j:Int) ag m) (fun s a=>s++[tA a]) (fun s=>z13_k5 ms (j:Int) ag m s) (fun i s=>s.length=i)
   (fun n i s a hi ha=>?_) (fun n i s hi ha=>?_) (N:=N) (s:=[]) (by omega) rfl).1
  ·rw [this,snoc_fold,List.nil_append]
   unfold z13_k5
   rw [appL_some (by simp;omega),bS,w64_succ (by omega)]
   rfl
  ·have hj:=get_lt ha
   refine ⟨?_,by simp [hi]⟩
   simp only [z13_l6,lt_t hj,cT,idx_nat,ha,bS]
   rw [appL_some (by simp;omega),bS,w64_succ (by omega)]
   rfl
  ·simp only [z13_l6,lt_f ha,cF]
 have i2:∀ (ps:List T7) (j:Nat) (ag:List T7→Int→Option (List T7)) (p:T12) (b:List T5),ps.length≤4194304→j < 4194304→bP p →
   z13_l4 N ps (j:Int) ag p b N [] (0:Int)=ag (ps++[⟨p.Name,p.Roles,p.Messages.map tM,b⟩]) ((j+1:Nat):Int):=by
  intro ps j ag p b h1 h2 h3
  have hpm:=h3.m
  have:=(fold_loop p.Messages (z13_l4 N ps (j:Int) ag p b) (fun s a=>s++[tM a]) (fun s=>z13_k3 ps (j:Int) ag p b s) (fun i s=>s.length=i)
   (fun n i s a hi ha=>?_) (fun n i s hi ha=>?_) (N:=N) (s:=[]) (by omega) rfl).1
  ·rw [this,snoc_fold,List.nil_append]
   unfold z13_k3
   rw [appL_some (by simp;omega),bS,w64_succ (by omega)]
  ·have hj:=get_lt ha
   refine ⟨?_,by simp [hi]⟩
   simp only [z13_l4,lt_t hj,cT,idx_nat,ha,bS]
   rw [i3 s i _ a (by omega) (by omega) (h3.ms a (List.mem_of_getElem? ha)).2]
  ·simp only [z13_l4,lt_f ha,cF]
 have:=(fold_loop xs (z13_l2 N xs) (fun s a=>s++[tP a]) (fun s=>some s) (fun i s=>s.length=i)
   (fun n i s a hi ha=>?_) (fun n i s hi ha=>?_) (N:=N) (s:=[]) (by omega) rfl).1
 ·rw [this,snoc_fold,List.nil_append]
 ·have hj:=get_lt ha
  refine ⟨?_,by simp [hi]⟩
  obtain ⟨h1,h2⟩:=hb a (List.mem_of_getElem? ha)
  simp only [z13_l2,lt_t hj,cT,idx_nat,ha,bS]
  rw [their_items N a.Body h2 h1.l h1.b,bS,i2 s i _ a _ (by omega) (by omega) h1]
  rfl
 ·simp only [z13_l2,lt_f ha,cF,z13_k1]
theorem ritems_dq:∀ (N:Nat) (xs ys:List T5),4194306+dL (oL xs)≤N→xs.length≤4194304→bL (oL xs)→Dq (z30 N xs ys) (xs=ys)
 | 0,_,_,h,_,_=>by omega
 | N+1,xs,ys,h,hs,hb=>by
  show Dq (z30_b N (z30 N) xs ys) _
  have hN:4194304 < N:=by omega
  unfold z30_b
  refine dq_list hs _ (fun n k x y Q hk hx hy h'=>?_) (fun n k hk=>?_) hN
  ·simp only [z30_l2,lt_t (get_lt hx),cT,idx_nat,hx,hy,bS]
   have hm:=List.mem_of_getElem? hx
   have hbx:=(bI_eq _).1 (bL_mem hb (oL_in hm))
   rw [oI_blocks,oLL_len,oI_to] at hbx
   have hdx:=dL_mem (oL_in hm)
   rw [dI_eq,oI_blocks] at hdx
   refine (Dq.cN nbeq fun _=>Dq.cN nseq fun _=>Dq.bN (rstrs_dq hN _ _ hbx.1) fun _=>Dq.cN nseq fun _=>Dq.cN nseq fun _=>Dq.cN nbeq fun _=>Dq.cN nlen fun hl =>
    dq_loop (R:=fun u v=>u=v) (E:=Q) hl hbx.2.1 _ (fun n j u v Q' hj hu hv h''=>?_) (fun n j hj=>?_) (N:=N) (by omega)).iff ?_
   ·simp only [z30_l4,lt_t (get_lt hu),cT,idx_nat,hu,hv,bS,w64_succ (show j < 4611686018427387904 by omega)]
    have hmu:=List.mem_of_getElem? hu
    have hd:=dLL_mem (oLL_in hmu)
    have hbb:=bLL_mem hbx.2.2 (oLL_in hmu)
    rw [oL_len] at hbb
    exact Dq.bN (ritems_dq N u v (by omega) hbb.1 hbb.2) fun _=>h''
   ·simp only [z30_l4,lt_f hj,cF,z30_k3,w64_succ (show k < 4611686018427387904 by omega)]
    exact h'
   ·obtain ⟨k,f,t,n,a,z,b⟩:=x
    obtain ⟨k',f',t',n',a',z',b'⟩:=y
    simp only [T5.mk.injEq]
    constructor
    ·rintro ⟨e1,e2,e3,e4,e5,e6,e7,e8,e9⟩
     exact ⟨⟨e1,e2,e3,e4,e5,e6,(list_pt e7).1 ⟨e8,trivial⟩⟩,e9⟩
    ·rintro ⟨⟨e1,e2,e3,e4,e5,e6,e7⟩,e9⟩
     exact ⟨e1,e2,e3,e4,e5,e6,by rw [e7],((list_pt (by rw [e7])).2 e7).1,e9⟩
  ·simp only [z30_l2,lt_f hk,cF,z30_k1]
include hN in
theorem rmsgs_dq (xs ys:List T6) (hs:xs.length≤4194304) (hb:∀ m∈xs,m.Fields.length≤4194304∧m.Where.length≤4194304):Dq (z29 N xs ys) (xs=ys):=by
 unfold z29
 refine dq_list hs _ (fun n k x y Q hk hx hy h'=>?_) (fun n k hk=>?_) hN
 ·simp only [z29_l2,lt_t (get_lt hx),cT,idx_nat,hx,hy,bS]
  obtain ⟨b1,b2⟩:=hb x (List.mem_of_getElem? hx)
  refine (Dq.cN nseq fun _=>Dq.cN nlen fun l1=>Dq.cN nlen fun l2 =>
   dq_loop (R:=fun u v=>u=v) l1 b1 _ (E:=(∀ (i:Nat) u v,x.Where[i]? = some u→y.Where[i]? = some v→u=v)∧Q) (fun n j u v Q' hj hu hv h''=>?_) (fun n j hj=>?_) (N:=N) (by omega)).iff ?_
  ·simp only [z29_l6,idx_nat,hx,hy,bS,lt_t (get_lt hu),cT,hu,hv,w64_succ (show j < 4611686018427387904 by omega)]
   exact Dq.cN (fld_test u v) fun _=>h''
  ·simp only [z29_l6,idx_nat,hx,bS,lt_f hj,cF,z29_k5]
   refine dq_loop (R:=fun u v=>u=v) l2 b2 _ (E:=Q) (fun n j u v Q' hj hu hv h''=>?_) (fun n j hj=>?_) (N:=N) (by omega)
   ·simp only [z29_l4,idx_nat,hx,hy,bS,lt_t (get_lt hu),cT,hu,hv,w64_succ (show j < 4611686018427387904 by omega)]
    exact Dq.cN (ratm_test u v) fun _=>h''
   ·simp only [z29_l4,idx_nat,hx,bS,lt_f hj,cF,z29_k3,w64_succ (show k < 4611686018427387904 by omega)]
    exact h'
  ·obtain ⟨n,f,w⟩:=x
   obtain ⟨n',f',w'⟩:=y
   simp only [T6.mk.injEq]
   constructor
   ·rintro ⟨e1,e2,e3,e4,e5,e6⟩
    exact ⟨⟨e1,(list_pt e2).1 ⟨e4,trivial⟩,(list_pt e3).1 ⟨e5,trivial⟩⟩,e6⟩
   ·rintro ⟨⟨e1,e2,e3⟩,e6⟩
    exact ⟨e1,by rw [e2],by rw [e3],((list_pt (by rw [e2])).2 e2).1,((list_pt (by rw [e3])).2 e3).1,e6⟩
 ·simp only [z29_l2,lt_f hk,cF,z29_k1]
include hN in
theorem requal_dq (xs ys:List T7) (hs:xs.length≤4194304) (hb:∀ p∈xs,RP p∧4194306+dL (oL p.Body)≤N):Dq (z12 N xs ys) (xs=ys):=by
 unfold z12
 refine dq_list hs _ (fun n k x y Q hk hx hy h'=>?_) (fun n k hk=>?_) hN
 ·simp only [z12_l2,lt_t (get_lt hx),cT,idx_nat,hx,hy,bS,w64_succ (show k < 4611686018427387904 by omega)]
  obtain ⟨h1,h2⟩:=hb x (List.mem_of_getElem? hx)
  refine (Dq.cN nseq fun _=>Dq.bN (rstrs_dq hN _ _ h1.r) fun _=>Dq.bN (rmsgs_dq hN _ _ (RP_m h1) fun m hm=>RP_ms h1 hm) fun _=>Dq.bN (ritems_dq N _ _ h2 (RP_l h1) h1.b) fun _=>h').iff ?_
  obtain ⟨n,f,w,b⟩:=x
  obtain ⟨n',f',w',b'⟩:=y
  simp only [T7.mk.injEq]
  constructor
  ·rintro ⟨e1,e2,e3,e4,e5⟩;exact ⟨⟨e1,e2,e3,e4⟩,e5⟩
  ·rintro ⟨⟨e1,e2,e3,e4⟩,e5⟩;exact ⟨e1,e2,e3,e4,e5⟩
 ·simp only [z12_l2,lt_f hk,cF,z12_k1]
end Gp
end
section
namespace Gp
open Go Go.Kx Gx
variable {N:Nat} (hN:4194304 < N)
def cPs (l:List T7):Nat:=(l.map fun p=>cL (oL p.Body)).sum
def mPs (l:List T7):Nat:=(l.map fun p=>p.Messages.length).sum
def MsOk (p:T7):Prop:=∀ m∈p.Messages,m.Fields.length≤8∧m.Where.length≤10
def FewP (l:List T7):Prop:=(∀ p∈l,MsOk p)∧l.length≤12∧cPs l≤320∧mPs l≤60
theorem gt_lem {a b:Nat}:decide ((a:Int) > (b:Int))=false↔a≤b:=by simp
include hN in
theorem few_dq (l:List T7) (hs:l.length≤4194304) (hb:∀ p∈l,RP p∧4194306+dL (oL p.Body)≤N) (hc:cPs l≤1099511627776):Dq (z15 N l) (FewP l):=by
 unfold z15
 have key:∀ (l2:List T7) (k n:Nat) (s t:Nat),l.drop k=l2→l2.length < n→s+cPs l2≤1099511627776→t≤k * 4194304 →
   Dq (z15_l2 N l n (s:Int) (t:Int) (k:Int)) ((∀ p∈l2,MsOk p)∧l.length≤12∧s+cPs l2≤320∧t+mPs l2≤60):=by
  intro l2
  induction l2 with
  | nil =>
   intro k n s t h hn hcs ht
   obtain ⟨n,rfl⟩:∃ m,n=m+1:=⟨n-1,by simp at hn;omega⟩
   simp only [z15_l2,lt_f (drop_nil h),cF,z15_k1]
   refine (Dq.cA (C:=l.length≤12) (by rw [decide_eq_true_eq];omega) fun _=>Dq.cA (C:=s≤320) (by rw [decide_eq_true_eq];omega) fun _=>Dq.bool _).iff ?_
   simp only [decide_eq_true_eq,cPs,mPs,List.map_nil,List.sum_nil,Nat.add_zero,List.not_mem_nil,false_implies,implies_true,true_and]
   omega
  | cons p l2 ih =>
   intro k n s t h hn hcs ht
   obtain ⟨n,rfl⟩:∃ m,n=m+1:=⟨n-1,by simp at hn;omega⟩
   obtain ⟨a,c,d⟩:=drop_cons h
   have hm:=List.mem_of_getElem? c
   obtain ⟨h1,h2⟩:=hb p hm
   have e0:cPs (p::l2)=cL (oL p.Body)+cPs l2:=by simp [cPs]
   have e1:mPs (p::l2)=p.Messages.length+mPs l2:=by simp [mPs]
   have hpm:=RP_m h1
   simp only [z15_l2,lt_t a,cT,idx_nat,c,bS]
   rw [count_eq' N p.Body h2 (RP_l h1) h1.b (by omega),bS]
   refine (dq_loop (xs:=p.Messages) (ys:=p.Messages) rfl hpm (R:=fun m _=>m.Fields.length≤8∧m.Where.length≤10)
    (z15_l4 l (s:Int) (t:Int) (k:Int) (z15_l2 N l n) ((cL (oL p.Body):Nat):Int) p)
    (E:=(∀ p∈l2,MsOk p)∧l.length≤12∧s+cL (oL p.Body)+cPs l2≤320∧t+p.Messages.length+mPs l2≤60) (fun n' j u v Q hj hu hv h'=>?_) (fun n' j hj=>?_) (N:=N) (by omega)).iff ?_
   ·simp only [z15_l4,idx_nat,c,bS,lt_t (get_lt hu),cT,hu,w64_succ (show j < 4611686018427387904 by omega)]
    refine (Dq.cN (C:=u.Fields.length≤8) (gt_lem (b:=8)) fun _=>Dq.cN (C:=u.Where.length≤10) (gt_lem (b:=10)) fun _=>h').iff ⟨fun q=>⟨⟨q.1,q.2.1⟩,q.2.2⟩,fun q=>⟨q.1.1,q.1.2,q.2⟩⟩
   ·simp only [z15_l4,idx_nat,c,bS,lt_f hj,cF,z15_k3]
    rw [w64_id (by omega) (by omega),w64_id (by omega) (by omega),w64_succ (by omega)]
    have:=ih (k+1) n (s+cL (oL p.Body)) (t+p.Messages.length) d (by simp at hn;omega) (by omega) (by omega)
    push_cast at this
    exact this
   ·rw [e0,e1]
    constructor
    ·rintro ⟨q1,q2,q3,q4,q5⟩
     refine ⟨fun x hx=>?_,q3,by omega,by omega⟩
     rcases List.mem_cons.1 hx with rfl | hx
     ·intro m hm
      obtain ⟨i,hi⟩:=List.mem_iff_getElem?.1 hm
      exact q1 i m m hi hi
     ·exact q2 x hx
    ·rintro ⟨q1,q2,q3,q4⟩
     exact ⟨fun i u v hu _=>q1 p (List.mem_cons_self ..) u (List.mem_of_getElem? hu),fun x hx=>q1 x (List.mem_cons_of_mem _ hx),q2,by omega,by omega⟩
 have:=key l 0 N 0 0 rfl (by omega) (by omega) (by omega)
 refine this.iff ?_
 unfold FewP
 simp only [Nat.zero_add]
end Gp
end
section
namespace Gp
open Go Go.Kx Gx
abbrev Tok:=T2
inductive Rr (α:Type) where
 | ok (a:α) (n:Nat)
 | er (k:Nat) (e:Int)
 | out
def Rr.bind {α β:Type}:Rr α→(α→Nat→Rr β)→Rr β
 | .ok a n,f=>f a n
 | .er k e,_=>.er k e
 | .out,_=>.out
def zt:Tok:=⟨0,str [],0,0⟩
def tk (l:List Tok) (n:Nat):Tok:=(l[n]?).getD zt
def isT (s:ByteArray) (t:Tok):Bool:=(t.Kind==4 || t.Kind==1) && eqStr t.Text s
abbrev Pm (α:Type):=List Tok→Nat→Rr α
def sWants (s:ByteArray):Pm Unit:=fun l n=>bif isT s (tk l n) then .ok () (n+1) else .er n 3
def wordT (t:Tok):Bool:=t.Kind==1 && isWord t.Text
def sWord:Pm ByteArray:=fun l n=>bif wordT (tk l n) then .ok (tk l n).Text (n+1) else .er n 3
def sNum:Pm Int:=fun l n=>bif (tk l n).Kind==2 then .ok (tk l n).Value (n+1) else .er n 3
def sSigned:Pm Int:=fun l n=>bif isT (str [45]) (tk l n) then (sNum l (n+1)).bind fun v m=>.ok (w64 (0-v)) m else sNum l n
def sLoop {α β:Type} (s:ByteArray) (p:Pm α) (upd:β→α→β):Nat→β→Pm β
 | 0,_,_,_=>.out
 | F+1,acc,l,n=>bif isT s (tk l n) then (p l (n+1)).bind fun a m=>sLoop s p upd F (upd acc a) l m else .ok acc n
def snoc {α:Type} (l:List α) (a:α):List α:=l++[a]
def dotW (a w:ByteArray):ByteArray:=a++(str [46]++w)
def sWords (F:Nat):Pm (List ByteArray):=fun l n=>(sWord l n).bind fun w m=>sLoop (str [44]) sWord snoc F [w] l m
def sPath (F:Nat):Pm ByteArray:=fun l n=>(sWord l n).bind fun w m=>sLoop (str [46]) sWord dotW F w l m
def sField:Pm T0:=fun l n=>(sWord l n).bind fun w n=>(sWants (str [58]) l n).bind fun _ n =>
 bif isT (str [105,110,116]) (tk l n) then (sSigned l (n+1)).bind fun lo n=>(sWants (str [46,46]) l n).bind fun _ n=>(sSigned l n).bind fun hi n=>.ok ⟨w,⟨1,lo,hi⟩⟩ n
 else (sWants (str [116,101,120,116]) l n).bind fun _ n=>(sNum l n).bind fun lo n=>(sWants (str [46,46]) l n).bind fun _ n=>(sNum l n).bind fun hi n=>.ok ⟨w,⟨2,lo,hi⟩⟩ n
def lastDot:List UInt8→Option Nat
 | []=>none
 | c::l=>match lastDot l with
  | some i=>some (i+1)
  | none=>if c=46 then some 0 else none
def splitP (s:ByteArray):ByteArray × ByteArray:=match lastDot (bs s) with
 | some i=>(mkB ((bs s).take i),mkB ((bs s).drop (i+1)))
 | none=>(str [],s)
def sTail (k:Int) (s:ByteArray):Pm T13:=fun l n =>
 bif isT (str [43]) (tk l n) then (sNum l (n+1)).bind fun v n=>.ok ⟨k,(splitP s).1,(splitP s).2,v⟩ n
 else bif isT (str [45]) (tk l n) then (sNum l (n+1)).bind fun v n=>.ok ⟨k,(splitP s).1,(splitP s).2,w64 (0-v)⟩ n
 else .ok ⟨k,(splitP s).1,(splitP s).2,0⟩ n
def sTerm (F:Nat):Pm T13:=fun l n =>
 bif (isT (str [45]) (tk l n) || (tk l n).Kind==2) then (sSigned l n).bind fun v n=>.ok ⟨1,str [],str [],v⟩ n
 else bif isT (str [108,101,110]) (tk l n) then (sWants (str [40]) l (n+1)).bind fun _ n=>(sPath F l n).bind fun s n=>(sWants (str [41]) l n).bind fun _ n=>sTail 3 s l n
 else (sPath F l n).bind fun s n=>sTail 2 s l n
def marksL:List ByteArray:=[(str [60]),(str [60,61]),(str [61,61]),(str [62,61]),(str [62])]
def markT (t:Tok):Bool:=t.Kind==4 && marksL.any fun k=>eqStr k t.Text
def sAtom (F:Nat):Pm T9:=fun l n=>(sTerm F l n).bind fun a n=>bif markT (tk l n) then (sTerm F l (n+1)).bind fun b m=>.ok ⟨a,(tk l n).Text,b⟩ m else .er n 3
def sWhere (F:Nat) (nm:ByteArray) (fs:List T0):Pm T11:=fun l n =>
 bif isT (str [119,104,101,114,101]) (tk l n) then (sAtom F l (n+1)).bind fun a n=>(sLoop (str [97,110,100]) (sAtom F) snoc F [a] l n).bind fun as' n=>(sWants (str [59]) l n).bind fun _ n=>.ok ⟨nm,fs,as'⟩ n
 else (sWants (str [59]) l n).bind fun _ n=>.ok ⟨nm,fs,[]⟩ n
def sMessage (F:Nat):Pm T11:=fun l n=>(sPath F l n).bind fun nm n=>(sWants (str [40]) l n).bind fun _ n =>
 bif isT (str [41]) (tk l n) then sWhere F nm [] l (n+1)
 else (sField l n).bind fun f n=>(sLoop (str [44]) sField snoc F [f] l n).bind fun fs n=>(sWants (str [41]) l n).bind fun _ n=>sWhere F nm fs l n
def sBlock (items:Pm (List T10)):Pm (List T10):=fun l n=>(sWants (str [123]) l n).bind fun _ n=>(items l n).bind fun x n=>(sWants (str [125]) l n).bind fun _ n=>.ok x n
def sElse (block:Pm (List T10)) (who:ByteArray) (ticks:Int) (bl:List (List T10)):Pm T10:=fun l n =>
 bif decide (ticks > 0) then (sWants (str [101,108,115,101]) l n).bind fun _ n=>(block l n).bind fun b n=>.ok ⟨2,who,[],str [],str [],ticks,snoc bl b⟩ n
 else .ok ⟨2,who,[],str [],str [],ticks,bl⟩ n
def sBranches (F:Nat) (block:Pm (List T10)) (who:ByteArray) (ticks:Int):Pm T10:=fun l n =>
 (block l n).bind fun b n=>(sLoop (str [111,114]) block snoc F [b] l n).bind fun bl n=>sElse block who ticks bl l n
def sTicks:Pm Int:=fun l n=>bif ((tk l n).Kind==2 && (decide ((tk l n).Value < 1) || decide ((tk l n).Value > 1000))) then .er n 2 else sNum l n
def sChoice (F:Nat) (block:Pm (List T10)):Pm T10:=fun l n=>(sWants (str [97,116]) l n).bind fun _ n=>(sWord l n).bind fun who n =>
 bif isT (str [119,105,116,104,105,110]) (tk l n) then (sTicks l (n+1)).bind fun t n=>sBranches F block who t l n
 else sBranches F block who 0 l n
def sSend (F:Nat):Pm T10:=fun l n=>(sWord l n).bind fun f n=>(sWants (str [45,62]) l n).bind fun _ n=>(sWords F l n).bind fun t n=>(sWants (str [58]) l n).bind fun _ n=>(sPath F l n).bind fun nm n =>
 (sWants (str [59]) l n).bind fun _ n=>.ok ⟨1,f,t,nm,str [],0,[]⟩ n
def sCall (F:Nat):Pm T10:=fun l n=>(sWord l n).bind fun nm n=>(sWants (str [40]) l n).bind fun _ n=>(sWords F l n).bind fun t n=>(sWants (str [41]) l n).bind fun _ n=>(sWants (str [97,115]) l n).bind fun _ n =>
 (sWord l n).bind fun a n=>(sWants (str [59]) l n).bind fun _ n=>.ok ⟨6,str [],t,nm,a,0,[]⟩ n
def sItem (F:Nat) (block:Pm (List T10)):Pm T10:=fun l n =>
 bif isT (str [99,104,111,105,99,101]) (tk l n) then sChoice F block l (n+1)
 else bif isT (str [108,111,111,112]) (tk l n) then (sPath F l (n+1)).bind fun nm n=>(block l n).bind fun b n=>.ok ⟨3,str [],[],nm,str [],0,[b]⟩ n
 else bif isT (str [97,103,97,105,110]) (tk l n) then (sPath F l (n+1)).bind fun nm n=>(sWants (str [59]) l n).bind fun _ n=>.ok ⟨4,str [],[],nm,str [],0,[]⟩ n
 else bif isT (str [112,97,114]) (tk l n) then (block l (n+1)).bind fun b n=>(sWants (str [97,110,100]) l n).bind fun _ n=>(block l n).bind fun c n=>(sLoop (str [97,110,100]) block snoc F [b,c] l n).bind fun bl n=>.ok ⟨5,str [],[],str [],str [],0,bl⟩ n
 else bif isT (str [99,97,108,108]) (tk l n) then sCall F l (n+1)
 else sSend F l n
def starters:List ByteArray:=[(str [99,104,111,105,99,101]),(str [108,111,111,112]),(str [97,103,97,105,110]),(str [112,97,114]),(str [99,97,108,108])]
def begT (t:Tok):Bool:=t.Kind==1 && (isWord t.Text || starters.any fun k=>eqStr k t.Text)
def sList (item:Pm T10):Nat→List T10→Pm (List T10)
 | 0,_,_,_=>.out
 | F+1,acc,l,n=>bif begT (tk l n) then (item l n).bind fun x m=>sList item F (snoc acc x) l m else .ok acc n
def sItems:Nat→Pm (List T10)
 | 0=>fun _ _=>.out
 | F+1=>sList (sItem F (sBlock (sItems F))) F []
def sProtocol (F:Nat):Pm T12:=fun l n=>(sWants (str [112,114,111,116,111,99,111,108]) l n).bind fun _ n=>(sWord l n).bind fun nm n=>(sWants (str [40]) l n).bind fun _ n=>(sWords F l n).bind fun rs n =>
 (sWants (str [41]) l n).bind fun _ n=>(sWants (str [123]) l n).bind fun _ n=>(sLoop (str [109,101,115,115,97,103,101]) (sMessage F) snoc F [] l n).bind fun ms n=>(sItems F l n).bind fun b n =>
 (sWants (str [125]) l n).bind fun _ n=>.ok ⟨nm,rs,ms,b⟩ n
def sParse (F:Nat):Nat→List T12→Pm (List T12)
 | 0,_,_,_=>.out
 | G+1,acc,l,n=>bif decide (n < l.length) then (sProtocol F l n).bind fun p m=>sParse F G (snoc acc p) l m else .ok acc n
end Gp
end
section
namespace Gp
open Go Go.Kx Gx
theorem isT_lt {s:ByteArray} {l:List Tok} {n:Nat} (h:isT s (tk l n)=true):n < l.length:=by
 rcases Nat.lt_or_ge n l.length with q | q
 ·exact q
 ·rw [show tk l n=zt by unfold tk;rw [List.getElem?_eq_none q];rfl] at h
  simp [isT,zt] at h
theorem kind_lt {l:List Tok} {n:Nat} {k:Int} (hk:k≠0) (h:((tk l n).Kind==k)=true):n < l.length:=by
 rcases Nat.lt_or_ge n l.length with q | q
 ·exact q
 ·rw [show tk l n=zt by unfold tk;rw [List.getElem?_eq_none q];rfl] at h
  simp [zt] at h;omega
theorem tk_get {l:List Tok} {n:Nat} (h:n < l.length):l[n]? = some (tk l n):=by
 unfold tk;rw [List.getElem?_eq_getElem h];rfl
theorem tk_end {l:List Tok} {n:Nat} (h:l.length≤n):tk l n=zt:=by unfold tk;rw [List.getElem?_eq_none h];rfl
theorem tk_mem {l:List Tok} {n:Nat} (h:n < l.length):tk l n∈l:=List.mem_of_getElem? (tk_get h)
def off (l:List Tok) (e:Int) (k:Nat):Int:=bif decide (k < l.length) then (tk l k).From else e
section
variable {σ:Type} (l:List Tok) (okS:Nat→σ) (erS:Nat→Int→σ)
def Ot {α β:Type} (Gd:α→Prop) (c:β→α) (n0:Nat) (r:Rr β) (o:Option (α × σ)):Prop :=
 match r with
 | .ok b n=>o=some (c b,okS n)∧Gd (c b)∧n0≤n∧n≤l.length
 | .er k e=>e≠0∧∃ a,o=some (a,erS k e)∧Gd a
 | .out=>True
theorem Ot.le {α β:Type} {Gd:α→Prop} {c:β→α} {n0 n1:Nat} {r:Rr β} {o:Option (α × σ)} (h:Ot l okS erS Gd c n1 r o) (hn:n0≤n1):Ot l okS erS Gd c n0 r o:=by
 cases r with
 | ok b n=>exact ⟨h.1,h.2.1,Nat.le_trans hn h.2.2.1,h.2.2.2⟩
 | er k e=>exact h
 | out=>trivial
structure Bj {α β:Type} (Gd:α→Prop) (c:β→α) (S:Nat→Rr β) (g:σ→Option (α × σ)):Prop where
 ok:∀ n,n≤l.length→Ot l okS erS Gd c n (S n) (g (okS n))
 st:∀ k e,e≠0→∃ a,g (erS k e)=some (a,erS k e)∧Gd a
structure BjU (S:Nat→Rr Unit) (g:σ→Option σ):Prop where
 ok:∀ n,n≤l.length→match S n with
  | .ok _ m=>g (okS n)=some (okS m)∧n≤m∧m≤l.length
  | .er k e=>e≠0∧g (okS n)=some (erS k e)
  | .out=>True
 st:∀ k e,e≠0→g (erS k e)=some (erS k e)
structure Tk (s:ByteArray) (t:σ→Option (Bool × σ)):Prop where
 ok:∀ n,t (okS n)=some (bif isT s (tk l n) then (true,okS (n+1)) else (false,okS n))
 st:∀ k e,e≠0→t (erS k e)=some (false,erS k e)
structure Is (s:ByteArray) (t:σ→Option Bool):Prop where
 ok:∀ n,t (okS n)=some (isT s (tk l n))
 st:∀ k e,e≠0→t (erS k e)=some false
structure Nx (t:σ→Option Tok):Prop where
 ok:∀ n,t (okS n)=some (tk l n)
 st:∀ k e,e≠0→t (erS k e)=some zt
variable {l okS erS}
theorem Bj.ret {α β:Type} {Gd:α→Prop} {c:β→α} {b:β} {a:α} (h:c b=a) (hg:Gd a):Bj l okS erS Gd c (fun n=>.ok b n) (fun s=>some (a,s)) :=
 ⟨fun n hn=>⟨by rw [h],by rw [h];exact hg,Nat.le_refl _,hn⟩,fun k e _=>⟨a,rfl,hg⟩⟩
theorem Bj.bind {α β α' β':Type} {Gd:α→Prop} {Gd':α'→Prop} {c:β→α} {c':β'→α'} (hc:∀ a,∃ b,c b=a) {S:Nat→Rr β} {g:σ→Option (α × σ)} (h:Bj l okS erS Gd c S g) {T:β→Nat→Rr β'} {G:α × σ→Option (α' × σ)}
  (hG:∀ b,Gd (c b)→Bj l okS erS Gd' c' (T b) (fun s=>G (c b,s))):Bj l okS erS Gd' c' (fun n=>(S n).bind T) (fun s=>(g s).bind G):=by
 refine ⟨fun n hn=>?_,fun k e he=>?_⟩
 ·have h1:=h.ok n hn
  show Ot l okS erS Gd' c' n ((S n).bind T) ((g (okS n)).bind G)
  cases hS:S n with
  | ok b m =>
   rw [hS] at h1
   obtain ⟨e,h4,h2,h3⟩:=h1
   rw [e]
   exact ((hG b h4).ok m h3).le _ _ _ h2
  | er k e =>
   rw [hS] at h1
   obtain ⟨he,a,e1,h4⟩:=h1
   obtain ⟨b,rfl⟩:=hc a
   refine ⟨he,?_⟩
   rw [e1]
   exact (hG b h4).st k e he
  | out=>trivial
 ·obtain ⟨a,e1,h4⟩:=h.st k e he
  obtain ⟨b,rfl⟩:=hc a
  show ∃ a,(g (erS k e)).bind G=_∧_
  rw [e1]
  exact (hG b h4).st k e he
theorem BjU.bind {α' β':Type} {Gd':α'→Prop} {c':β'→α'} {S:Nat→Rr Unit} {g:σ→Option σ} (h:BjU l okS erS S g) {T:Unit→Nat→Rr β'} {G:σ→Option (α' × σ)}
  (hG:Bj l okS erS Gd' c' (T ()) G):Bj l okS erS Gd' c' (fun n=>(S n).bind T) (fun s=>(g s).bind G):=by
 refine ⟨fun n hn=>?_,fun k e he=>?_⟩
 ·have h1:=h.ok n hn
  show Ot l okS erS Gd' c' n ((S n).bind T) ((g (okS n)).bind G)
  cases hS:S n with
  | ok b m =>
   rw [hS] at h1
   obtain ⟨e,h2,h3⟩:=h1
   rw [e]
   exact (hG.ok m h3).le _ _ _ h2
  | er k e =>
   rw [hS] at h1
   obtain ⟨he,e1⟩:=h1
   refine ⟨he,?_⟩
   rw [e1]
   exact hG.st k e he
  | out=>trivial
 ·show ∃ a,(g (erS k e)).bind G=_∧_
  rw [h.st k e he]
  exact hG.st k e he
theorem Bj.takes {α β:Type} {Gd:α→Prop} {c:β→α} {s:ByteArray} {t:σ→Option (Bool × σ)} (h:Tk l okS erS s t) {A B:Nat→Rr β} {G:Bool × σ→Option (α × σ)}
  (hA:Bj l okS erS Gd c A (fun p=>G (true,p))) (hB:Bj l okS erS Gd c B (fun p=>G (false,p))):Bj l okS erS Gd c (fun n=>bif isT s (tk l n) then A (n+1) else B n) (fun p=>(t p).bind G):=by
 refine ⟨fun n hn=>?_,fun k e he=>?_⟩
 ·show Ot l okS erS Gd c n (bif isT s (tk l n) then A (n+1) else B n) ((t (okS n)).bind G)
  rw [h.ok n]
  cases hi:isT s (tk l n) with
  | true=>exact (hA.ok (n+1) (isT_lt hi)).le _ _ _ (Nat.le_succ n)
  | false=>exact hB.ok n hn
 ·show ∃ a,(t (erS k e)).bind G=_∧_
  rw [h.st k e he]
  exact hB.st k e he
theorem Bj.is {α β:Type} {Gd:α→Prop} {c:β→α} {s:ByteArray} {t:σ→Option Bool} (h:Is l okS erS s t) {A B:Nat→Rr β} {G:Bool→σ→Option (α × σ)}
  (hA:Bj l okS erS Gd c A (G true)) (hB:Bj l okS erS Gd c B (G false)):Bj l okS erS Gd c (fun n=>bif isT s (tk l n) then A n else B n) (fun p=>(t p).bind fun x=>G x p):=by
 refine ⟨fun n hn=>?_,fun k e he=>?_⟩
 ·show Ot l okS erS Gd c n (bif isT s (tk l n) then A n else B n) ((t (okS n)).bind fun x=>G x (okS n))
  rw [h.ok n]
  cases hi:isT s (tk l n) with
  | true=>exact hA.ok n hn
  | false=>exact hB.ok n hn
 ·show ∃ a,(t (erS k e)).bind (fun x=>G x (erS k e))=_∧_
  rw [h.st k e he]
  exact hB.st k e he
theorem Bj.next {α β:Type} {Gd:α→Prop} {c:β→α} {t:σ→Option Tok} (h:Nx l okS erS t) {A B:Nat→Rr β} {G:Tok→σ→Option (α × σ)} (q:Tok→Bool) (hq:q zt=false)
  (hA:∀ n,n < l.length→q (tk l n)=true→Ot l okS erS Gd c n (A n) (G (tk l n) (okS n))) (hB:∀ n,n≤l.length→q (tk l n)=false→Ot l okS erS Gd c n (B n) (G (tk l n) (okS n)))
  (hS:∀ k e,e≠0→∃ a,G zt (erS k e)=some (a,erS k e)∧Gd a):Bj l okS erS Gd c (fun n=>bif q (tk l n) then A n else B n) (fun p=>(t p).bind fun x=>G x p):=by
 refine ⟨fun n hn=>?_,fun k e he=>?_⟩
 ·show Ot l okS erS Gd c n (bif q (tk l n) then A n else B n) ((t (okS n)).bind fun x=>G x (okS n))
  rw [h.ok n]
  cases hi:q (tk l n) with
  | true =>
   have hlt:n < l.length:=by
    rcases Nat.lt_or_ge n l.length with k | k
    ·exact k
    ·rw [tk_end k,hq] at hi;cases hi
   exact hA n hlt hi
  | false=>exact hB n hn hi
 ·show ∃ a,(t (erS k e)).bind (fun x=>G x (erS k e))=_∧_
  rw [h.st k e he]
  exact hS k e he
theorem Bj.congr {α β:Type} {Gd:α→Prop} {c:β→α} {S S':Nat→Rr β} {g g':σ→Option (α × σ)} (h:Bj l okS erS Gd c S g) (hS:∀ n,n≤l.length→S' n=S n) (hg:∀ s,g' s=g s):Bj l okS erS Gd c S' g' :=
 ⟨fun n hn=>by rw [hS n hn,hg];exact h.ok n hn,fun k e he=>by rw [hg];exact h.st k e he⟩
theorem Bj.loop {α β α' β':Type} {Gd:α→Prop} {Gd':α'→Prop} {c:β→α} {c':β'→α'} (hc:∀ a,∃ b,c b=a) (hl:l.length≤8100) {s:ByteArray} {t:σ→Option (Bool × σ)} (ht:Tk l okS erS s t) {p:Pm β} {f:σ→Option (α × σ)} (hf:Bj l okS erS Gd c (p l) f)
  (F:Nat→σ→List α→Option (α' × σ)) (K:σ→List α→Option (α' × σ))
  (hF:∀ n q acc,F (n+1) q acc=(t q).bind fun x=>bif x.1 then (f x.2).bind fun y=>(appL acc [y.1]).bind fun acc'=>F n y.2 acc' else K x.2 acc)
  {T:List β→Nat→Rr β'} (hK:∀ acc,acc.length≤8192→Bj l okS erS Gd' c' (T acc) (fun q=>K q (acc.map c))) :
  ∀ (M N:Nat) (acc:List β),M < N→acc.length≤4→Bj l okS erS Gd' c' (fun n=>(sLoop s p snoc M acc l n).bind T) (fun q=>F N q (acc.map c)):=by
 have hst:∀ N (acc:List β),0 < N→acc.length≤8192→∀ k e,e≠0→∃ a,F N (erS k e) (acc.map c)=some (a,erS k e)∧Gd' a:=by
  intro N acc hN ha k e he
  obtain ⟨n,rfl⟩:∃ m,N=m+1:=⟨N-1,by omega⟩
  rw [hF,ht.st k e he]
  exact (hK acc ha).st k e he
 have key:∀ (M N:Nat) (acc:List β) (n:Nat),M < N→acc.length≤n+4→n≤l.length→Ot l okS erS Gd' c' n ((sLoop s p snoc M acc l n).bind T) (F N (okS n) (acc.map c)):=by
  intro M
  induction M with
  | zero=>intro N acc n h1 h2 h3;trivial
  | succ M ih =>
   intro N acc n h1 h2 h3
   obtain ⟨N,rfl⟩:∃ m,N=m+1:=⟨N-1,by omega⟩
   rw [hF,ht.ok n]
   simp only [sLoop]
   cases hi:isT s (tk l n) with
   | false=>exact (hK acc (by omega)).ok n h3
   | true =>
    have hn:=isT_lt hi
    have h4:=hf.ok (n+1) hn
    simp only [cT,bS]
    cases hp:p l (n+1) with
    | ok b m =>
     rw [hp] at h4
     obtain ⟨e,_,h5,h6⟩:=h4
     rw [e,bS,appL_some (by simp;omega),bS]
     have:=ih N (snoc acc b) m (by omega) (by simp [snoc];omega) h6
     have e2:(snoc acc b).map c=acc.map c++[c b]:=by simp [snoc]
     rw [e2] at this
     exact this.le _ _ _ (by omega)
    | er k e =>
     rw [hp] at h4
     obtain ⟨he,a,e1,_⟩:=h4
     obtain ⟨b,rfl⟩:=hc a
     refine ⟨he,?_⟩
     rw [e1,bS,appL_some (by simp;omega),bS]
     have e2:acc.map c++[c b]=(acc++[b]).map c:=by simp
     rw [e2]
     exact hst N _ (by omega) (by simp;omega) k e he
    | out=>trivial
 intro M N acc h1 h2
 exact ⟨fun n hn=>key M N acc n h1 (by omega) hn,hst N acc (by omega) (by omega)⟩
end
theorem sur_id {α:Type}:∀ a:α,∃ b,id b=a:=fun a=>⟨a,rfl⟩
theorem map_idd {α:Type} (l:List α):l.map id=l:=List.map_id l
end Gp
end
section
namespace Gp
open Go Go.Kx Gx
theorem rr_bind_ok {α:Type} (r:Rr α):r.bind (fun a n=>.ok a n)=r:=by cases r<;>rfl
theorem pair_eta {α σ:Type} (o:Option (α × σ)):(o.bind fun x=>some (x.1,x.2))=o:=by cases o<;>rfl
theorem cat_ok {x y:ByteArray} (h:x.size+y.size≤4611686018427387904):catS x y=some (x++y):=by
 unfold catS
 rw [show decide (((x.size+y.size:Nat):Int) > IntKind.i64.max)=false by simp [IntKind.max,IntKind.signed,IntKind.bits];omega]
 rfl
theorem wordT_iff (t:Tok):wordT t=true↔t.Kind=1∧isWord t.Text=true:=by unfold wordT;simp
theorem isWord_size {s:ByteArray} (h:isWord s=true):s.size≤16:=by
 unfold isWord isName at h
 rw [size_bs]
 cases hb:bs s with
 | nil=>simp
 | cons x l=>rw [hb] at h;simp at h;simp;omega
def okP (l:List Tok) (e:Int) (n:Nat):T14:=⟨l,n,e,0,0⟩
def erP (l:List Tok) (e:Int) (k:Nat) (c:Int):T14:=⟨l,k,e,off l e k,c⟩
abbrev Tr {α:Type}:α→Prop:=fun _=>True
abbrev BP (l:List Tok) (e:Int) {α:Type} (Gd:α→Prop) (S:Nat→Rr α) (g:T14→Option (α × T14)):Prop:=Bj l (okP l e) (erP l e) Gd id S g
variable {N:Nat} (hN:4194304 < N) {l:List Tok} (hl:l.length≤8100) (hW:∀ t∈l,t.Text.size≤8100) (e:Int)
theorem next_nx (N:Nat) (l:List Tok) (e:Int):Nx l (okP l e) (erP l e) (z106 N):=by
 refine ⟨fun n=>?_,fun k c hc=>?_⟩
 ·show (bif ((0:Int) != 0) then some zt else bif decide ((n:Int)≥(l.length:Int)) then some zt else (idx l (n:Int)).bind fun x1=>some x1)=some (tk l n)
  rw [show ((0:Int) != 0)=false from rfl,cF]
  rcases Nat.lt_or_ge n l.length with h | h
  ·rw [show decide ((n:Int)≥(l.length:Int))=false by simp;omega,cF,idx_nat,tk_get h];rfl
  ·rw [show decide ((n:Int)≥(l.length:Int))=true by simp;omega,tk_end h];rfl
 ·simp only [z106,erP]
  rw [show (c != (0:Int))=true by simp [hc]];rfl
theorem sees_is (N:Nat) (l:List Tok) (e:Int) (s:ByteArray):Is l (okP l e) (erP l e) s (fun p=>z107 N p s):=by
 refine ⟨fun n=>?_,fun k c hc=>?_⟩
 ·unfold z107
  rw [(next_nx N l e).ok n,bS]
  unfold isT eqStr
  cases ((tk l n).Kind==4)<;>cases ((tk l n).Kind==1)<;>rfl
 ·show (z106 N _).bind _=_
  rw [(next_nx N l e).st k c hc];rfl
include hl in
theorem takes_tk (N:Nat) (s:ByteArray):Tk l (okP l e) (erP l e) s (fun p=>z61 N p s):=by
 refine ⟨fun n=>?_,fun k c hc=>?_⟩
 ·show (z107 N (okP l e n) s).bind _=_
  rw [(sees_is N l e s).ok n,bS]
  cases h:isT s (tk l n) with
  | false=>rfl
  | true =>
   have:=isT_lt h
   show some (true,(⟨l,w64 ((n:Int)+1),e,0,0⟩:T14))=_
   rw [w64_succ (by omega)];rfl
 ·show (z107 N (erP l e k c) s).bind _=_
  rw [(sees_is N l e s).st k c hc];rfl
theorem fail_ok (N:Nat) (l:List Tok) (e:Int) (n:Nat) (c:Int):z105 N (okP l e n) c=some (erP l e n c):=by
 show (bif ((0:Int) != 0) then some (okP l e n) else bif decide ((n:Int) < (l.length:Int)) then ((idx l (n:Int)).bind fun x1=>some (⟨l,n,e,x1.From,c⟩:T14)) else some ⟨l,n,e,e,c⟩)=_
 rw [show ((0:Int) != 0)=false from rfl,cF]
 unfold erP off
 rcases Nat.lt_or_ge n l.length with h | h
 ·rw [lt_t h,cT,idx_nat,tk_get h,bS,dT h];rfl
 ·rw [lt_f h,cF,dF (by omega)];rfl
theorem fail_er (N:Nat) (l:List Tok) (e:Int) (k:Nat) (c c':Int) (hc:c≠0):z105 N (erP l e k c) c'=some (erP l e k c):=by
 simp only [z105,erP]
 rw [show (c != (0:Int))=true by simp [hc]];rfl
include hl in
theorem wants_u (N:Nat) (s:ByteArray):BjU l (okP l e) (erP l e) (sWants s l) (fun p=>z58 N p s):=by
 refine ⟨fun n hn=>?_,fun k c hc=>?_⟩
 ·unfold sWants z58
  rw [(takes_tk hl e N s).ok n]
  cases h:isT s (tk l n) with
  | true=>exact ⟨rfl,Nat.le_succ n,isT_lt h⟩
  | false =>
   refine ⟨by decide,?_⟩
   show (z105 N (okP l e n) 3).bind _=_
   rw [fail_ok];rfl
 ·show (z61 N _ s).bind _=_
  rw [(takes_tk hl e N s).st k c hc]
  show (z105 N (erP l e k c) 3).bind _=_
  rw [fail_er _ _ _ _ _ _ hc];rfl
include hN hl hW in
theorem word_val (n:Nat):z59 N (okP l e n)=some (bif wordT (tk l n) then ((tk l n).Text,okP l e (n+1)) else (str [],erP l e n 3)):=by
 unfold z59
 rw [(next_nx N l e).ok n,bS]
 by_cases hk:(tk l n).Kind=1
 ·have hn:=kind_lt (l:=l) (n:=n) (k:=1) (by decide) (by simp [hk])
  rw [show ((tk l n).Kind != 1)=false by simp [hk],cF,(word_eq hN _ (by have:=hW _ (tk_mem hn);omega)).1,bS]
  cases hw:isWord (tk l n).Text with
  | true =>
   rw [(wordT_iff _).2 ⟨hk,hw⟩]
   show some ((tk l n).Text,(⟨l,w64 ((n:Int)+1),e,0,0⟩:T14))=_
   rw [w64_succ (by omega)];rfl
  | false =>
   rw [show wordT (tk l n)=false by unfold wordT;rw [hw];simp]
   show (z105 N (okP l e n) 3).bind _=_
   rw [fail_ok];rfl
 ·rw [show ((tk l n).Kind != 1)=true by simp [hk],show wordT (tk l n)=false by unfold wordT;simp [hk]]
  show (z105 N (okP l e n) 3).bind _=_
  rw [fail_ok];rfl
theorem word_er (N:Nat) (l:List Tok) (e:Int) (k:Nat) (c:Int) (hc:c≠0):z59 N (erP l e k c)=some (str [],erP l e k c):=by
 unfold z59
 rw [(next_nx N l e).st k c hc]
 show (z105 N (erP l e k c) 3).bind _=_
 rw [fail_er _ _ _ _ _ _ hc];rfl
def Sm (s:ByteArray):Prop:=s.size≤16
include hN hl hW in
theorem word_bj:BP l e Sm (sWord l) (z59 N):=by
 refine ⟨fun n hn=>?_,fun k c hc=>⟨_,word_er N l e k c hc,by unfold Sm;decide⟩⟩
 rw [word_val hN hl hW e n]
 unfold sWord
 cases h:wordT (tk l n) with
 | true=>exact ⟨rfl,isWord_size ((wordT_iff _).1 h).2,Nat.le_succ n,kind_lt (k:=1) (by decide) (by simp [((wordT_iff _).1 h).1])⟩
 | false=>exact ⟨by decide,_,rfl,by unfold Sm;decide⟩
include hl in
theorem num_bj (N:Nat):BP l e Tr (sNum l) (z151 N):=by
 refine ⟨fun n hn=>?_,fun k c hc=>?_⟩
 ·unfold sNum z151
  rw [(next_nx N l e).ok n,bS]
  cases h:((tk l n).Kind==2) with
  | true =>
   have hlt:=kind_lt (k:=2) (by decide) h
   rw [show ((tk l n).Kind != 2)=false by simp [bne,h]]
   refine ⟨?_,trivial,Nat.le_succ n,hlt⟩
   show some ((tk l n).Value,(⟨l,w64 ((n:Int)+1),e,0,0⟩:T14))=_
   rw [w64_succ (by omega)];rfl
  | false =>
   rw [show ((tk l n).Kind != 2)=true by simp [bne,h]]
   refine ⟨by decide,0,?_,trivial⟩
   show (z105 N (okP l e n) 3).bind _=_
   rw [fail_ok];rfl
 ·refine ⟨0,?_,trivial⟩
  show (z106 N _).bind _=_
  rw [(next_nx N l e).st k c hc]
  show (z105 N (erP l e k c) 3).bind _=_
  rw [fail_er _ _ _ _ _ _ hc];rfl
include hl in
theorem signed_bj (N:Nat):BP l e Tr (sSigned l) (z150 N):=by
 refine Bj.takes (takes_tk hl e N (str [45])) (A:=fun m=>(sNum l m).bind fun v k=>.ok (w64 (0-v)) k) ?_ ?_
 ·refine Bj.bind sur_id (num_bj hl e N) fun v _=>?_
  try dsimp only [id]
  exact Bj.ret rfl trivial
 ·exact Bj.congr (num_bj hl e N) (fun _ _=>rfl) (fun s=>pair_eta _)
include hN hl hW in
theorem words_bj {F:Nat} (hF:F < N):BP l e Tr (sWords F l) (z60 N):=by
 refine Bj.bind sur_id (word_bj hN hl hW e) fun w _=>?_
 have:=Bj.loop (Gd':=Tr) sur_id hl (takes_tk hl e N (str [44])) (word_bj hN hl hW e) (fun n q acc=>z60_l2 N n q.l' q.n' q.end' q.at' q.err' acc) (fun q acc=>some (acc,q)) (fun _ _ _=>rfl)
  (T:=fun acc n=>.ok acc n) (c':=id) (fun acc _=>Bj.ret (map_idd acc).symm trivial) F N [w] hF (by simp)
 exact Bj.congr this (fun n _=>(rr_bind_ok _).symm) (fun s=>rfl)
def Pz (s:ByteArray):Prop:=s.size≤200000
theorem size_dotW (a w:ByteArray):(dotW a w).size=a.size+1+w.size:=by
 unfold dotW;rw [ByteArray.size_append,ByteArray.size_append];show _+(1+_)=_;omega
include hN hl hW in
theorem path_loop:∀ (M N':Nat) (acc:ByteArray) (n:Nat),M < N'→acc.size≤17 * n→n≤l.length →
  Ot l (okP l e) (erP l e) Pz id n (sLoop (str [46]) sWord dotW M acc l n) (z108_l2 N N' l n e 0 0 acc)
 | 0,_,_,_,_,_,_=>trivial
 | M+1,0,_,_,h,_,_=>by omega
 | M+1,N'+1,acc,n,h,h1,h2=>by
  show Ot l _ _ Pz id n (bif isT (str [46]) (tk l n) then _ else _) ((z61 N (okP l e n) (str [46])).bind _)
  rw [(takes_tk hl e N (str [46])).ok n]
  cases hi:isT (str [46]) (tk l n) with
  | false=>exact ⟨rfl,by unfold Pz;show acc.size≤200000;omega,Nat.le_refl _,h2⟩
  | true =>
   have hn:=isT_lt hi
   simp only [cT,bS]
   rw [word_val hN hl hW e (n+1)]
   show Ot l _ _ Pz id n ((sWord l (n+1)).bind _) _
   unfold sWord
   cases hw:wordT (tk l (n+1)) with
   | true =>
    have hs:=isWord_size ((wordT_iff _).1 hw).2
    have hn2:=kind_lt (l:=l) (n:=n+1) (k:=1) (by decide) (by simp [((wordT_iff _).1 hw).1])
    simp only [cT,bS,Rr.bind]
    rw [cat_ok (x:=str [46]) (by show 1+_≤_;omega),bS,cat_ok (by rw [ByteArray.size_append];show _+(1+_)≤_;omega),bS]
    exact (path_loop M N' (dotW acc (tk l (n+1)).Text) (n+2) (by omega) (by rw [size_dotW];omega) hn2).le _ _ _ (by omega)
   | false =>
    simp only [cF,bS,Rr.bind]
    refine ⟨by decide,acc++(str [46]++str []),?_,by unfold Pz;rw [ByteArray.size_append];show _+1≤_;omega⟩
    rw [cat_ok (x:=str [46]) (by decide),bS,cat_ok (by rw [ByteArray.size_append];show _+1≤_;omega),bS]
    obtain ⟨N',rfl⟩:∃ m,N'=m+1:=⟨N'-1,by omega⟩
    show (z61 N (erP l e (n+1) 3) (str [46])).bind _=_
    rw [(takes_tk hl e N (str [46])).st _ _ (by decide)];rfl
include hN hl hW in
theorem path_bj {F:Nat} (hF:F < N):BP l e Pz (sPath F l) (z108 N):=by
 refine ⟨fun n hn=>?_,fun k c hc=>?_⟩
 ·unfold sPath z108
  rw [word_val hN hl hW e n]
  unfold sWord
  cases hw:wordT (tk l n) with
  | true =>
   have hs:=isWord_size ((wordT_iff _).1 hw).2
   have hn2:=kind_lt (l:=l) (n:=n) (k:=1) (by decide) (by simp [((wordT_iff _).1 hw).1])
   exact (path_loop hN hl hW e F N (tk l n).Text (n+1) hF (by omega) hn2).le _ _ _ (by omega)
  | false =>
   refine ⟨by decide,str [],?_,by unfold Pz;decide⟩
   rw [cF,bS]
   obtain ⟨N,rfl⟩:∃ m,N=m+1:=⟨N-1,by omega⟩
   show (z61 (N+1) (erP l e n 3) (str [46])).bind _=_
   rw [(takes_tk hl e _ (str [46])).st _ _ (by decide)];rfl
 ·refine ⟨str [],?_,by unfold Pz;decide⟩
  unfold z108
  rw [word_er N l e k c hc,bS]
  obtain ⟨N,rfl⟩:∃ m,N=m+1:=⟨N-1,by omega⟩
  show (z61 (N+1) (erP l e k c) (str [46])).bind _=_
  rw [(takes_tk hl e _ (str [46])).st _ _ hc];rfl
include hN hl hW in
theorem field_bj:BP l e Tr (sField l) (z109 N):=by
 unfold sField z109
 refine Bj.bind sur_id (word_bj hN hl hW e) fun w _=>?_
 try dsimp only [id]
 refine BjU.bind (wants_u hl e N (str [58])) ?_
 refine Bj.takes (takes_tk hl e N (str [105,110,116])) (A:=fun m=>(sSigned l m).bind fun lo n=>(sWants (str [46,46]) l n).bind fun _ n=>(sSigned l n).bind fun hi n=>.ok (⟨w,⟨1,lo,hi⟩⟩:T0) n) ?_ ?_
 ·refine Bj.bind sur_id (signed_bj hl e N) fun lo _=>?_
  try dsimp only [id]
  refine BjU.bind (wants_u hl e N (str [46,46])) ?_
  refine Bj.bind sur_id (signed_bj hl e N) fun hi _=>?_
  try dsimp only [id]
  exact Bj.ret rfl trivial
 ·refine BjU.bind (wants_u hl e N (str [116,101,120,116])) ?_
  refine Bj.bind sur_id (num_bj hl e N) fun lo _=>?_
  try dsimp only [id]
  refine BjU.bind (wants_u hl e N (str [46,46])) ?_
  refine Bj.bind sur_id (num_bj hl e N) fun hi _=>?_
  try dsimp only [id]
  exact Bj.ret rfl trivial
end Gp
end
section
namespace Gp
open Go Go.Kx Gx
theorem lastDot_snoc (c:UInt8):∀ p:List UInt8,lastDot (p++[c])=if c=46 then some p.length else lastDot p
 | []=>by simp only [List.nil_append,lastDot];split<;>rfl
 | d::p=>by
  rw [List.cons_append]
  simp only [lastDot]
  rw [lastDot_snoc c p]
  by_cases h:c=46
  ·rw [if_pos h,if_pos h];rfl
  ·rw [if_neg h,if_neg h]
theorem lastDot_lt:∀ {p:List UInt8} {i:Nat},lastDot p=some i→i < p.length
 | c::p,i,h=>by
  simp only [lastDot] at h
  cases hp:lastDot p with
  | some j =>
   rw [hp] at h
   simp only [Option.some.injEq] at h
   subst h
   have:=lastDot_lt hp
   simp;omega
  | none =>
   rw [hp] at h
   simp only [] at h
   split at h
   ·simp only [Option.some.injEq] at h;subst h;simp
   ·cases h
theorem b46 (c:UInt8):((c.toNat:Int)==46)=decide (c=46):=by
 rw [Bool.eq_iff_iff,beq_iff_eq,decide_eq_true_eq]
 constructor
 ·intro h
  apply UInt8.toNat_inj.mp
  show c.toNat=46
  omega
 ·rintro rfl;rfl
theorem take_snoc {α:Type} {l:List α} {k:Nat} {x:α} (h:l[k]? = some x):l.take (k+1)=l.take k++[x]:=by
 obtain ⟨hk,rfl⟩:=List.getElem?_eq_some_iff.1 h
 rw [List.take_succ_eq_append_getElem hk]
theorem lastIx_loop (s:ByteArray) (hs:s.size≤4194304):∀ (k n:Nat),k < n→k≤(bs s).length →
  z179_l2 s 46 n ((k:Int)-1)=some (match lastDot ((bs s).take k) with | some i=>(i:Int) | none=>-1)
 | 0,0,h,_=>by omega
 | 0,n+1,_,_=>by
  simp only [z179_l2,List.take_zero,lastDot]
  rfl
 | k+1,0,h,_=>by omega
 | k+1,n+1,h,hk=>by
  rw [size_bs] at hs
  have e:(((k+1:Nat):Int)-1)=(k:Int):=by omega
  rw [e]
  simp only [z179_l2]
  have hg:(bs s)[k]? = some (bs s)[k]:=List.getElem?_eq_getElem (by omega)
  rw [show decide ((k:Int)≥0)=true by simp,cT,sidx_bs,hg,Option.map_some,bS,b46,take_snoc hg,lastDot_snoc]
  by_cases h46:(bs s)[k]=46
  ·rw [dT h46,cT,if_pos h46]
   simp;omega
  ·rw [dF h46,cF,if_neg h46,w64_id (by omega) (by omega)]
   exact lastIx_loop s (by rw [size_bs];exact hs) k n (by omega) (by omega)
theorem lastIx_eq {N:Nat} (hN:4194304 < N) (s:ByteArray) (hs:s.size≤200000):z171 N s 46=some (match lastDot (bs s) with | some i=>(i:Int) | none=>-1):=by
 unfold z171 z179
 have hb:(bs s).length=s.size:=(size_bs s).symm
 rw [w64_id (by omega) (by omega),size_bs,lastIx_loop s (by omega) _ N (by omega) (Nat.le_refl _),List.take_length]
 rfl
theorem split_ssl {s:ByteArray} {i:Nat} (h:lastDot (bs s)=some i) (hs:s.size≤200000):ssl s none (some (i:Int))=some (splitP s).1∧ssl s (some (w64 ((i:Int)+1))) none=some (splitP s).2:=by
 have hi:=lastDot_lt h
 rw [size_bs] at hs
 unfold splitP
 rw [h]
 refine ⟨ssl_to (x:=(bs s).take i) (y:=(bs s).drop i) (List.take_append_drop _ _).symm (by simp;omega),?_⟩
 rw [w64_succ (by omega)]
 exact ssl_from (x:=(bs s).take (i+1)) (y:=(bs s).drop (i+1)) (List.take_append_drop _ _).symm (by simp;omega)
variable {N:Nat} (hN:4194304 < N) {l:List Tok} (hl:l.length≤8100) (hW:∀ t∈l,t.Text.size≤8100) (e:Int)
include hN in
theorem k2_eq (q:T14) (k:Int) (s:ByteArray) (hs:Pz s):z152_k2 N q.l' q.n' q.end' q.at' q.err' k s=z152_k1 N q.l' q.n' q.end' q.at' q.err' k (splitP s).1 (splitP s).2:=by
 unfold z152_k2
 rw [lastIx_eq hN s hs,bS]
 cases h:lastDot (bs s) with
 | none =>
  simp only [h]
  rw [show decide ((-1:Int)≥0)=false from rfl,cF]
  unfold splitP;rw [h]
 | some i =>
  simp only [h]
  obtain ⟨h1,h2⟩:=split_ssl h hs
  rw [show decide ((i:Int)≥0)=true by simp,cT,h1,bS,h2,bS]
include hN hl in
theorem tail_bj (k:Int) (s:ByteArray) (hs:Pz s):BP l e Tr (sTail k s l) (fun q=>z152_k2 N q.l' q.n' q.end' q.at' q.err' k s):=by
 have h:BP l e Tr (sTail k s l) (fun q=>z152_k1 N q.l' q.n' q.end' q.at' q.err' k (splitP s).1 (splitP s).2):=by
  unfold sTail z152_k1
  refine Bj.takes (takes_tk hl e N (str [43])) (A:=fun m=>(sNum l m).bind fun v n=>.ok (⟨k,(splitP s).1,(splitP s).2,v⟩:T13) n) ?_ ?_
  ·refine Bj.bind sur_id (num_bj hl e N) fun v _=>?_
   try dsimp only [id]
   exact Bj.ret rfl trivial
  ·refine Bj.takes (takes_tk hl e N (str [45])) (A:=fun m=>(sNum l m).bind fun v n=>.ok (⟨k,(splitP s).1,(splitP s).2,w64 (0-v)⟩:T13) n) ?_ ?_
   ·refine Bj.bind sur_id (num_bj hl e N) fun v _=>?_
    try dsimp only [id]
    exact Bj.ret rfl trivial
   ·exact Bj.ret rfl trivial
 exact Bj.congr h (fun _ _=>rfl) (fun q=>k2_eq hN q k s hs)
include hN hl hW in
theorem term_bj {F:Nat} (hF:F < N):BP l e Tr (sTerm F l) (z152 N):=by
 have hs:BP l e Tr (fun n=>(sSigned l n).bind fun v n=>.ok ⟨1,str [],str [],v⟩ n) (fun p=>(z150 N p).bind fun x2=>some ((⟨(1:Int),(str []),(str []),x2.1⟩:T13),x2.2)):=by
  refine Bj.bind sur_id (signed_bj hl e N) fun v _=>?_
  try dsimp only [id]
  exact Bj.ret rfl trivial
 have hp:BP l e Tr (fun n=>bif isT (str [108,101,110]) (tk l n) then (sWants (str [40]) l (n+1)).bind fun _ n=>(sPath F l n).bind fun s n=>(sWants (str [41]) l n).bind fun _ n=>sTail 3 s l n else (sPath F l n).bind fun s n=>sTail 2 s l n)
   (fun p=>(z61 N p (str [108,101,110])).bind fun x5=>bif x5.1 then ((z58 N x5.2 (str [40])).bind fun x19=>(z108 N x19).bind fun x20=>(z58 N x20.2 (str [41])).bind fun x21 =>
    z152_k2 N x21.l' x21.n' x21.end' x21.at' x21.err' (3:Int) x20.1) else (z108 N x5.2).bind fun x22=>z152_k2 N x22.2.l' x22.2.n' x22.2.end' x22.2.at' x22.2.err' (2:Int) x22.1):=by
  refine Bj.takes (takes_tk hl e N (str [108,101,110])) (A:=fun m=>(sWants (str [40]) l m).bind fun _ n=>(sPath F l n).bind fun s n=>(sWants (str [41]) l n).bind fun _ n=>sTail 3 s l n) ?_ ?_
  ·refine BjU.bind (wants_u hl e N (str [40])) ?_
   refine Bj.bind sur_id (path_bj hN hl hW e hF) fun s hs=>?_
   try dsimp only [id]
   refine BjU.bind (wants_u hl e N (str [41])) ?_
   exact tail_bj hN hl e 3 s hs
  ·refine Bj.bind sur_id (path_bj hN hl hW e hF) fun s hs=>?_
   try dsimp only [id]
   exact tail_bj hN hl e 2 s hs
 have hn:=Bj.next (next_nx N l e) (Gd:=Tr) (c:=id) (fun t=>t.Kind==2) rfl (A:=fun n=>(sSigned l n).bind fun v n=>.ok ⟨1,str [],str [],v⟩ n)
  (B:=fun n=>bif isT (str [108,101,110]) (tk l n) then (sWants (str [40]) l (n+1)).bind fun _ n=>(sPath F l n).bind fun s n=>(sWants (str [41]) l n).bind fun _ n=>sTail 3 s l n else (sPath F l n).bind fun s n=>sTail 2 s l n)
  (G:=fun x3 p=>bif (x3.Kind==(2:Int)) then ((z150 N p).bind fun x4=>some ((⟨(1:Int),(str []),(str []),x4.1⟩:T13),x4.2)) else (z61 N p (str [108,101,110])).bind fun x5=>bif x5.1 then ((z58 N x5.2 (str [40])).bind fun x19=>(z108 N x19).bind fun x20=>(z58 N x20.2 (str [41])).bind fun x21 =>
    z152_k2 N x21.l' x21.n' x21.end' x21.at' x21.err' (3:Int) x20.1) else (z108 N x5.2).bind fun x22=>z152_k2 N x22.2.l' x22.2.n' x22.2.end' x22.2.at' x22.2.err' (2:Int) x22.1)
  (fun n hn h=>by
   have h':((tk l n).Kind==2)=true:=h
   simp only [h',cT]
   exact hs.ok n (Nat.le_of_lt hn))
  (fun n hn h=>by
   have h':((tk l n).Kind==2)=false:=h
   simp only [h',cF]
   exact hp.ok n hn)
  (fun k c hc=>hp.st k c hc)
 refine Bj.congr (Bj.is (sees_is N l e (str [45])) hs hn) (fun n _=>?_) (fun s=>rfl)
 unfold sTerm
 cases isT (str [45]) (tk l n)<;>cases ((tk l n).Kind==2)<;>rfl
include hN hl hW in
theorem atom_bj {F:Nat} (hF:F < N):BP l e Tr (sAtom F l) (z110 N):=by
 unfold sAtom z110
 refine Bj.bind sur_id (term_bj hN hl hW e hF) fun a _=>?_
 dsimp only [id]
 refine Bj.next (next_nx N l e) markT rfl (A:=fun n=>(sTerm F l (n+1)).bind fun b m=>.ok (⟨a,(tk l n).Text,b⟩:T9) m) (B:=fun n=>.er n 3)
  (fun n hn h=>?_) (fun n hn h=>?_) (fun k c hc=>?_)
 ·unfold markT at h
  rw [Bool.and_eq_true] at h
  have hm:=contains_eq hN marksL (by decide) (tk l n).Text
  rw [h.2] at hm
  simp only [h.1,cT]
  show Ot _ _ _ _ _ _ _ ((z74 N marksL (tk l n).Text).bind _)
  rw [hm,bS]
  show Ot _ _ _ _ _ _ _ ((z152 N ⟨l,w64 ((n:Int)+1),e,0,0⟩).bind _)
  rw [w64_succ (by omega)]
  exact ((Bj.bind (c':=id) sur_id (term_bj hN hl hW e hF) (T:=fun b m=>.ok (⟨a,(tk l n).Text,b⟩:T9) m) (G:=fun x5=>some ((⟨a,(tk l n).Text,x5.1⟩:T9),x5.2)) fun b _=>Bj.ret rfl trivial).ok (n+1) hn).le _ _ _ (by omega)
 ·have fin:∀ k c,c≠0→∃ r,((z152 N (erP l e k c)).bind fun x7=>some ((⟨a,(str []),x7.1⟩:T9),x7.2))=some (r,erP l e k c)∧Tr r:=fun k c hc=>by
   obtain ⟨b,hb,_⟩:=(term_bj hN hl hW e hF).st k c hc
   exact ⟨_,by rw [hb];rfl,trivial⟩
  refine ⟨by decide,?_⟩
  unfold markT at h
  cases h4:((tk l n).Kind==4) with
  | false =>
   simp only [cF,id]
   show ∃ r,((z105 N (okP l e n) 3).bind _)=_∧_
   rw [fail_ok]
   exact fin n 3 (by decide)
  | true =>
   rw [h4,Bool.true_and] at h
   have hm:=contains_eq hN marksL (by decide) (tk l n).Text
   rw [h] at hm
   simp only [cT,id]
   show ∃ r,((z74 N marksL (tk l n).Text).bind _)=_∧_
   rw [hm,bS]
   show ∃ r,((z105 N (okP l e n) 3).bind _)=_∧_
   rw [fail_ok]
   exact fin n 3 (by decide)
 ·show ∃ r,((z105 N (erP l e k c) 3).bind _)=_∧_
  rw [fail_er _ _ _ _ _ _ hc]
  obtain ⟨b,hb,_⟩:=(term_bj hN hl hW e hF).st k c hc
  exact ⟨_,by rw [bS,hb];rfl,trivial⟩
def s0:T14:=⟨[],0,0,0,0⟩
theorem ml2_cong (x:ByteArray × T14) (fs:List T0):∀ n a b c d f acc,z62_l2 N x fs n a b c d f acc=z62_l2 N (x.1,s0) fs n a b c d f acc
 | 0,_,_,_,_,_,_=>rfl
 | n+1,a,b,c,d,f,acc=>by simp only [z62_l2,ml2_cong x fs n];rfl
theorem mk3_cong (x:ByteArray × T14) (a b c d f fs):z62_k3 N x a b c d f fs=z62_k3 N (x.1,s0) a b c d f fs:=by
 unfold z62_k3
 simp only [ml2_cong x]
theorem ml5_cong (x:ByteArray × T14):∀ n a b c d f acc,z62_l5 N x n a b c d f acc=z62_l5 N (x.1,s0) n a b c d f acc
 | 0,_,_,_,_,_,_=>rfl
 | n+1,a,b,c,d,f,acc=>by simp only [z62_l5,ml5_cong x n,z62_k4,mk3_cong x]
theorem app1 {α:Type} (x:α):appL ([]:List α) [x]=some [x]:=rfl
include hN hl hW in
theorem where_bj {F:Nat} (hF:F < N) (nm:ByteArray) (fs:List T0):BP l e Tr (sWhere F nm fs l) (fun q=>z62_k3 N (nm,s0) q.l' q.n' q.end' q.at' q.err' fs):=by
 unfold sWhere z62_k3
 refine Bj.takes (takes_tk hl e N (str [119,104,101,114,101])) (A:=fun m=>(sAtom F l m).bind fun a n=>(sLoop (str [97,110,100]) (sAtom F) snoc F [a] l n).bind fun as' n=>(sWants (str [59]) l n).bind fun _ n=>.ok (⟨nm,fs,as'⟩:T11) n) ?_ ?_
 ·refine Bj.bind sur_id (atom_bj hN hl hW e hF) fun a _=>?_
  dsimp only [id]
  have:=Bj.loop (Gd':=Tr) sur_id hl (takes_tk hl e N (str [97,110,100])) (atom_bj hN hl hW e hF) (fun n q acc=>z62_l2 N (nm,s0) fs n q.l' q.n' q.end' q.at' q.err' acc)
   (fun q acc=>(z58 N q (str [59])).bind fun x46=>some ((⟨nm,fs,acc⟩:T11),x46)) (fun _ _ _=>rfl)
   (T:=fun as' n=>(sWants (str [59]) l n).bind fun _ n=>.ok (⟨nm,fs,as'⟩:T11) n) (c':=id) (fun acc _=>BjU.bind (wants_u hl e N (str [59])) (Bj.ret (by rw [map_idd];rfl) trivial)) F N [a] hF (by simp)
  exact Bj.congr this (fun n _=>rfl) (fun s=>rfl)
 ·exact BjU.bind (wants_u hl e N (str [59])) (Bj.ret rfl trivial)
include hN hl hW in
theorem message_bj {F:Nat} (hF:F < N):BP l e Tr (sMessage F l) (z62 N):=by
 have h:BP l e Tr (sMessage F l) (fun p=>(z108 N p).bind fun x1=>(z58 N x1.2 (str [40])).bind fun x2=>(z61 N x2 (str [41])).bind fun x3 =>
   bif x3.1 then z62_k3 N (x1.1,s0) x3.2.l' x3.2.n' x3.2.end' x3.2.at' x3.2.err' ([]:List T0)
   else (z109 N x3.2).bind fun x63=>z62_l5 N (x1.1,s0) N x63.2.l' x63.2.n' x63.2.end' x63.2.at' x63.2.err' [x63.1]):=by
  refine Bj.bind sur_id (path_bj hN hl hW e hF) fun nm _=>?_
  try dsimp only [id]
  refine BjU.bind (wants_u hl e N (str [40])) ?_
  refine Bj.takes (takes_tk hl e N (str [41])) (A:=sWhere F nm [] l) (where_bj hN hl hW e hF nm []) ?_
  refine Bj.bind sur_id (field_bj hN hl hW e) fun f _=>?_
  dsimp only [id]
  have:=Bj.loop (Gd':=Tr) sur_id hl (takes_tk hl e N (str [44])) (field_bj hN hl hW e) (fun n q acc=>z62_l5 N (nm,s0) n q.l' q.n' q.end' q.at' q.err' acc)
   (fun q acc=>(z58 N q (str [41])).bind fun x77=>z62_k3 N (nm,s0) x77.l' x77.n' x77.end' x77.at' x77.err' acc) (fun _ _ _=>rfl)
   (T:=fun fs n=>(sWants (str [41]) l n).bind fun _ n=>sWhere F nm fs l n) (c':=id) (fun acc _=>BjU.bind (wants_u hl e N (str [41])) (by rw [map_idd];exact where_bj hN hl hW e hF nm acc)) F N [f] hF (by simp)
  exact Bj.congr this (fun n _=>rfl) (fun s=>rfl)
 refine Bj.congr h (fun _ _=>rfl) (fun p=>?_)
 unfold z62
 simp only [app1,bS]
 congr 1;funext x1;congr 1;funext x2;congr 1;funext x3
 cases x3.1
 ·simp only [Bool.not_false,cT,cF]
  congr 1;funext x63
  exact ml5_cong x1 _ _ _ _ _ _ _
 ·simp only [Bool.not_true,cT,cF]
  exact mk3_cong x1 _ _ _ _ _ _
end Gp
end
section
namespace Gp
open Go Go.Kx Gx
variable {N:Nat} (hN:4194304 < N) {l:List Tok} (hl:l.length≤8100) (hW:∀ t∈l,t.Text.size≤8100) (e:Int)
include hl in
theorem block_bj (N:Nat) {items:Pm (List T10)} {rc} (hrc:BP l e Tr (items l) rc):BP l e Tr (sBlock items l) (fun p=>z154 N rc p):=by
 unfold sBlock z154
 refine BjU.bind (wants_u hl e N (str [123])) ?_
 refine Bj.bind sur_id (hrc) fun x _=>?_
 try dsimp only [id]
 refine BjU.bind (wants_u hl e N (str [125])) ?_
 exact Bj.ret rfl trivial
theorem cl2_cong (rc) (x:ByteArray × T14) (t:Int):∀ n a b c d f acc,z153_l2 N rc x t n a b c d f acc=z153_l2 N rc (x.1,s0) t n a b c d f acc
 | 0,_,_,_,_,_,_=>rfl
 | n+1,a,b,c,d,f,acc=>by simp only [z153_l2,cl2_cong rc x t n];rfl
theorem ck3_cong (rc) (x:ByteArray × T14) (a b c d f t):z153_k3 N rc x a b c d f t=z153_k3 N rc (x.1,s0) a b c d f t:=by
 unfold z153_k3
 simp only [cl2_cong rc x]
include hl in
theorem else_bj (N:Nat) {block:Pm (List T10)} {rc} (hb:BP l e Tr (block l) (fun p=>z154 N rc p)) (who:ByteArray) (t:Int) (acc:List (List T10)) (ha:acc.length≤8192) :
  BP l e Tr (sElse block who t acc l) (fun q=>z153_k1 N rc (who,s0) t q.l' q.n' q.end' q.at' q.err' acc):=by
 unfold sElse z153_k1
 cases decide (t > 0) with
 | false=>exact Bj.ret rfl trivial
 | true =>
  refine BjU.bind (wants_u hl e N (str [101,108,115,101])) ?_
  refine Bj.bind sur_id (hb) fun b _=>?_
  try dsimp only [id]
  refine Bj.congr (Bj.ret (Gd:=Tr) (c:=id) (b:=(⟨2,who,[],str [],str [],t,snoc acc b⟩:T10)) rfl trivial) (fun _ _=>rfl) (fun s=>?_)
  show (appL acc [b]).bind _=_
  rw [appL_some (by simp;omega)];rfl
include hl in
theorem branches_bj {F:Nat} (hF:F < N) {block:Pm (List T10)} {rc} (hb:BP l e Tr (block l) (fun p=>z154 N rc p)) (who:ByteArray) (t:Int) :
  BP l e Tr (sBranches F block who t l) (fun q=>z153_k3 N rc (who,s0) q.l' q.n' q.end' q.at' q.err' t):=by
 unfold sBranches z153_k3
 refine Bj.bind sur_id hb fun b _=>?_
 dsimp only [id]
 have:=Bj.loop (Gd':=Tr) sur_id hl (takes_tk hl e N (str [111,114])) hb (fun n q acc=>z153_l2 N rc (who,s0) t n q.l' q.n' q.end' q.at' q.err' acc)
  (fun q acc=>z153_k1 N rc (who,s0) t q.l' q.n' q.end' q.at' q.err' acc) (fun _ _ _=>rfl)
  (T:=fun bl n=>sElse block who t bl l n) (c':=id) (fun acc ha=>by rw [map_idd];exact else_bj hl e N hb who t acc ha) F N [b] hF (by simp)
 exact Bj.congr this (fun n _=>rfl) (fun s=>rfl)
def ticksF (N:Nat) (q:T14):Option (Int × T14) :=
 (z106 N q).bind fun x=>bif (x.Kind==(2:Int)) then (bif (decide (x.Value < (1:Int))) then ((z105 N q (2:Int)).bind fun y=>z151 N y)
  else bif (decide (x.Value > (1000:Int))) then ((z105 N q (2:Int)).bind fun y=>z151 N y) else z151 N q) else z151 N q
include hl in
theorem ticks_bj (N:Nat):BP l e Tr (sTicks l) (ticksF N):=by
 refine ⟨fun n hn=>?_,fun k c hc=>?_⟩
 ·have h1:=(num_bj hl e N).ok n hn
  obtain ⟨v,hv,_⟩:=(num_bj hl e N).st n 2 (by decide)
  unfold ticksF sTicks
  rw [(next_nx N l e).ok n,bS,fail_ok,bS,hv]
  cases ((tk l n).Kind==2) with
  | false=>exact h1
  | true =>
   cases decide ((tk l n).Value < 1) with
   | true=>exact ⟨by decide,v,rfl,trivial⟩
   | false =>
    cases decide ((tk l n).Value > 1000) with
    | true=>exact ⟨by decide,v,rfl,trivial⟩
    | false=>exact h1
 ·unfold ticksF
  rw [(next_nx N l e).st k c hc]
  exact (num_bj hl e N).st k c hc
include hN hl hW in
theorem choice_bj {F:Nat} (hF:F < N) {block:Pm (List T10)} {rc} (hb:BP l e Tr (block l) (fun p=>z154 N rc p)):BP l e Tr (sChoice F block l) (fun p=>z153 N rc p):=by
 have h:BP l e Tr (sChoice F block l) (fun p=>(z58 N p (str [97,116])).bind fun x1=>(z59 N x1).bind fun x2=>(z61 N x2.2 (str [119,105,116,104,105,110])).bind fun x3 =>
   bif x3.1 then ((ticksF N x3.2).bind fun y=>z153_k3 N rc (x2.1,s0) y.2.l' y.2.n' y.2.end' y.2.at' y.2.err' y.1)
   else z153_k3 N rc (x2.1,s0) x3.2.l' x3.2.n' x3.2.end' x3.2.at' x3.2.err' 0):=by
  unfold sChoice
  refine BjU.bind (wants_u hl e N (str [97,116])) ?_
  refine Bj.bind sur_id (word_bj hN hl hW e) fun who _=>?_
  try dsimp only [id]
  refine Bj.takes (takes_tk hl e N (str [119,105,116,104,105,110])) (A:=fun m=>(sTicks l m).bind fun t n=>sBranches F block who t l n) ?_ ?_
  ·refine Bj.bind sur_id (ticks_bj hl e N) fun t _=>?_
   try dsimp only [id]
   exact branches_bj hl e hF hb who t
  ·exact branches_bj hl e hF hb who 0
 refine Bj.congr h (fun _ _=>rfl) (fun p=>?_)
 unfold z153
 congr 1;funext x1;congr 1;funext x2;congr 1;funext x3
 simp only [ck3_cong rc x2]
 cases x3.1
 ·rfl
 ·simp only [cT]
  unfold ticksF
  cases hn:z106 N x3.2 with
  | none=>rfl
  | some t =>
   simp only [bS]
   cases (t.Kind==2)
   ·rfl
   ·cases decide (t.Value < 1)
    ·cases decide (t.Value > 1000)
     ·rfl
     ·simp only [cT,cF,Option.bind_assoc]
    ·simp only [cT,Option.bind_assoc]
include hN hl hW in
theorem item_bj {F:Nat} (hF:F < N) {block:Pm (List T10)} {rc} (hb:BP l e Tr (block l) (fun p=>z154 N rc p)):BP l e Tr (sItem F block l) (fun p=>z111 N rc p):=by
 unfold sItem z111
 refine Bj.takes (takes_tk hl e N (str [99,104,111,105,99,101])) (A:=sChoice F block l) (Bj.congr (choice_bj hN hl hW e hF hb) (fun _ _=>rfl) (fun s=>pair_eta _)) ?_
 refine Bj.takes (takes_tk hl e N (str [108,111,111,112])) (A:=fun m=>(sPath F l m).bind fun nm n=>(block l n).bind fun b n=>.ok (⟨3,str [],[],nm,str [],0,[b]⟩:T10) n) ?_ ?_
 ·refine Bj.bind sur_id (path_bj hN hl hW e hF) fun nm _=>?_
  try dsimp only [id]
  refine Bj.bind sur_id (hb) fun b _=>?_
  try dsimp only [id]
  exact Bj.ret rfl trivial
 refine Bj.takes (takes_tk hl e N (str [97,103,97,105,110])) (A:=fun m=>(sPath F l m).bind fun nm n=>(sWants (str [59]) l n).bind fun _ n=>.ok (⟨4,str [],[],nm,str [],0,[]⟩:T10) n) ?_ ?_
 ·refine Bj.bind sur_id (path_bj hN hl hW e hF) fun nm _=>?_
  try dsimp only [id]
  refine BjU.bind (wants_u hl e N (str [59])) ?_
  exact Bj.ret rfl trivial
 refine Bj.takes (takes_tk hl e N (str [112,97,114])) (A:=fun m=>(block l m).bind fun b n=>(sWants (str [97,110,100]) l n).bind fun _ n=>(block l n).bind fun c n=>(sLoop (str [97,110,100]) block snoc F [b,c] l n).bind fun bl n=>.ok (⟨5,str [],[],str [],str [],0,bl⟩:T10) n) ?_ ?_
 ·refine Bj.bind sur_id (hb) fun b _=>?_
  try dsimp only [id]
  refine BjU.bind (wants_u hl e N (str [97,110,100])) ?_
  refine Bj.bind sur_id (hb) fun c _=>?_
  try dsimp only [id]
  have:=Bj.loop (Gd':=Tr) sur_id hl (takes_tk hl e N (str [97,110,100])) hb (fun n q acc=>z111_l2 N rc n q.l' q.n' q.end' q.at' q.err' acc)
   (fun q acc=>some ((⟨(5:Int),(str []),([]:List ByteArray),(str []),(str []),(0:Int),acc⟩:T10),q)) (fun _ _ _=>rfl)
   (T:=fun bl n=>.ok (⟨5,str [],[],str [],str [],0,bl⟩:T10) n) (c':=id) (fun acc _=>Bj.ret (by rw [map_idd];rfl) trivial) F N [b,c] hF (by simp)
  exact Bj.congr this (fun n _=>rfl) (fun s=>rfl)
 refine Bj.takes (takes_tk hl e N (str [99,97,108,108])) (A:=sCall F l) ?_ ?_
 ·unfold sCall
  refine Bj.bind sur_id (word_bj hN hl hW e) fun nm _=>?_
  try dsimp only [id]
  refine BjU.bind (wants_u hl e N (str [40])) ?_
  refine Bj.bind sur_id (words_bj hN hl hW e hF) fun t _=>?_
  try dsimp only [id]
  refine BjU.bind (wants_u hl e N (str [41])) ?_
  refine BjU.bind (wants_u hl e N (str [97,115])) ?_
  refine Bj.bind sur_id (word_bj hN hl hW e) fun a _=>?_
  try dsimp only [id]
  refine BjU.bind (wants_u hl e N (str [59])) ?_
  exact Bj.ret rfl trivial
 ·unfold sSend
  refine Bj.bind sur_id (word_bj hN hl hW e) fun f _=>?_
  try dsimp only [id]
  refine BjU.bind (wants_u hl e N (str [45,62])) ?_
  refine Bj.bind sur_id (words_bj hN hl hW e hF) fun t _=>?_
  try dsimp only [id]
  refine BjU.bind (wants_u hl e N (str [58])) ?_
  refine Bj.bind sur_id (path_bj hN hl hW e hF) fun nm _=>?_
  try dsimp only [id]
  refine BjU.bind (wants_u hl e N (str [59])) ?_
  exact Bj.ret rfl trivial
include hN hW in
theorem items_step (rc) (n:Nat) (n':Nat) (acc:List T10):z63_l1 N rc (n'+1) l n e 0 0 acc =
  bif begT (tk l n) then ((z111 N rc (okP l e n)).bind fun x=>(appL acc [x.1]).bind fun a=>z63_l1 N rc n' x.2.l' x.2.n' x.2.end' x.2.at' x.2.err' a) else some (acc,okP l e n):=by
 show (z106 N (okP l e n)).bind _=_
 rw [(next_nx N l e).ok n,bS]
 by_cases hk:(tk l n).Kind=1
 ·have hn:=kind_lt (l:=l) (n:=n) (k:=1) (by decide) (by simp [hk])
  rw [show ((tk l n).Kind != 1)=false by simp [hk],cF,(word_eq hN _ (by have:=hW _ (tk_mem hn);omega)).1,bS]
  have hm:=contains_eq hN starters (by decide) (tk l n).Text
  unfold begT
  rw [show ((tk l n).Kind==1)=true by simp [hk],Bool.true_and]
  cases isWord (tk l n).Text with
  | true=>rfl
  | false =>
   show (z74 N starters (tk l n).Text).bind _=_
   rw [hm,bS]
   cases starters.any fun x=>eqStr x (tk l n).Text<;>rfl
 ·rw [show ((tk l n).Kind != 1)=true by simp [hk],show begT (tk l n)=false by unfold begT;simp [hk]]
  rfl
include hN hl hW in
theorem list_bj {item:Pm T10} {rc} (hit:BP l e Tr (item l) (fun p=>z111 N rc p)) :
  ∀ (M N':Nat) (acc:List T10),M < N'→acc.length+M≤4200000→BP l e Tr (sList item M acc l) (fun q=>z63_l1 N rc N' q.l' q.n' q.end' q.at' q.err' acc):=by
 have hst:∀ N' (acc:List T10),0 < N'→∀ (k:Nat) c,c≠0→∃ a,z63_l1 N rc N' l k e (off l e k) c acc=some (a,erP l e k c)∧Tr a:=by
  intro N' acc hN' k c hc
  obtain ⟨n,rfl⟩:∃ m,N'=m+1:=⟨N'-1,by omega⟩
  refine ⟨acc,?_,trivial⟩
  show (z106 N (erP l e k c)).bind _=_
  rw [(next_nx N l e).st k c hc];rfl
 have key:∀ (M N':Nat) (acc:List T10) (n:Nat),M < N'→acc.length+M≤4200000→n≤l.length→Ot l (okP l e) (erP l e) Tr id n (sList item M acc l n) (z63_l1 N rc N' l n e 0 0 acc):=by
  intro M
  induction M with
  | zero=>intro N' acc n h1 h2 h3;trivial
  | succ M ih =>
   intro N' acc n h1 h2 h3
   obtain ⟨N',rfl⟩:∃ m,N'=m+1:=⟨N'-1,by omega⟩
   rw [items_step hN hW e]
   simp only [sList]
   cases hi:begT (tk l n) with
   | false=>exact ⟨rfl,trivial,Nat.le_refl _,h3⟩
   | true =>
    have hn:n < l.length:=by
     unfold begT at hi
     rw [Bool.and_eq_true] at hi
     exact kind_lt (k:=1) (by decide) hi.1
    have h4:=hit.ok n h3
    simp only [cT]
    cases hp:item l n with
    | ok b m =>
     rw [hp] at h4
     obtain ⟨e1,_,h5,h6⟩:=h4
     rw [e1,bS,appL_some (by simp;omega),bS]
     exact (ih N' (snoc acc b) m (by omega) (by simp [snoc];omega) h6).le _ _ _ (by omega)
    | er k c =>
     rw [hp] at h4
     obtain ⟨hc,a,e1,_⟩:=h4
     refine ⟨hc,?_⟩
     rw [e1,bS,appL_some (by simp;omega),bS]
     exact hst N' _ (by omega) k c hc
    | out=>trivial
 intro M N' acc h1 h2
 exact ⟨fun n hn=>key M N' acc n h1 h2 hn,fun k c hc=>hst N' acc (by omega) k c hc⟩
include hl hW in
theorem items_bj:∀ (F N:Nat),F≤4194304→F+4194306 < N→BP l e Tr (sItems F l) (z63 N)
 | F,0,_,h=>by omega
 | 0,N+1,_,h=>by
  refine ⟨fun n hn=>trivial,fun k c hc=>⟨[],?_,trivial⟩⟩
  show z63_b N (z63 N) (erP l e k c)=_
  obtain ⟨N,rfl⟩:∃ m,N=m+1:=⟨N-1,by omega⟩
  show (z106 (N+1) (erP l e k c)).bind _=_
  rw [(next_nx _ l e).st k c hc];rfl
 | F+1,N+1,hf,h=>by
  have hN:4194304 < N:=by omega
  exact list_bj hN hl hW e (item_bj hN hl hW e (by omega) (block_bj hl e N (items_bj F N (by omega) (by omega)))) F N [] (by omega) (by simp;omega)
end Gp
end
section
namespace Gp
open Go Go.Kx Gx
variable {N:Nat} {l:List Tok} (hl:l.length≤8100) (hW:∀ t∈l,t.Text.size≤8100) (e:Int)
theorem pl2_cong (x:ByteArray × T14) (y:List ByteArray × T14):∀ n a b c d f acc,z25_l2 N x y n a b c d f acc=z25_l2 N (x.1,s0) (y.1,s0) n a b c d f acc
 | 0,_,_,_,_,_,_=>rfl
 | n+1,a,b,c,d,f,acc=>by simp only [z25_l2,pl2_cong x y n];rfl
include hl hW in
theorem protocol_bj {F:Nat} (hF:F≤4194304) (hN:F+4194306 < N):BP l e Tr (sProtocol F l) (z25 N):=by
 have hN1:4194304 < N:=by omega
 have hFN:F < N:=by omega
 have h:BP l e Tr (sProtocol F l) (fun p=>(z58 N p (str [112,114,111,116,111,99,111,108])).bind fun x1=>(z59 N x1).bind fun x2=>(z58 N x2.2 (str [40])).bind fun x3 =>
   (z60 N x3).bind fun x4=>(z58 N x4.2 (str [41])).bind fun x5=>(z58 N x5 (str [123])).bind fun x6 =>
   z25_l2 N (x2.1,s0) (x4.1,s0) N x6.l' x6.n' x6.end' x6.at' x6.err' ([]:List T11)):=by
  unfold sProtocol
  refine BjU.bind (wants_u hl e N (str [112,114,111,116,111,99,111,108])) ?_
  refine Bj.bind sur_id (word_bj hN1 hl hW e) fun nm _=>?_
  try dsimp only [id]
  refine BjU.bind (wants_u hl e N (str [40])) ?_
  refine Bj.bind sur_id (words_bj hN1 hl hW e hFN) fun rs _=>?_
  try dsimp only [id]
  refine BjU.bind (wants_u hl e N (str [41])) ?_
  refine BjU.bind (wants_u hl e N (str [123])) ?_
  have:=Bj.loop (Gd':=Tr) sur_id hl (takes_tk hl e N (str [109,101,115,115,97,103,101])) (message_bj hN1 hl hW e hFN) (fun n q acc=>z25_l2 N (nm,s0) (rs,s0) n q.l' q.n' q.end' q.at' q.err' acc)
   (fun q acc=>(z63 N q).bind fun x19=>(z58 N x19.2 (str [125])).bind fun x20=>some ((⟨nm,rs,acc,x19.1⟩:T12),x20)) (fun _ _ _=>rfl)
   (T:=fun ms n=>(sItems F l n).bind fun b n=>(sWants (str [125]) l n).bind fun _ n=>.ok (⟨nm,rs,ms,b⟩:T12) n) (c':=id) (fun acc _=>by
    rw [map_idd]
    refine Bj.bind sur_id (items_bj hl hW e F N hF hN) fun b _=>?_
    try dsimp only [id]
    refine BjU.bind (wants_u hl e N (str [125])) ?_
    exact Bj.ret rfl trivial
    ) F N [] hFN (by simp)
  exact Bj.congr this (fun n _=>rfl) (fun s=>rfl)
 refine Bj.congr h (fun _ _=>rfl) (fun p=>?_)
 unfold z25
 congr 1;funext x1;congr 1;funext x2;congr 1;funext x3;congr 1;funext x4;congr 1;funext x5;congr 1;funext x6
 exact pl2_cong x2 x4 _ _ _ _ _ _ _
include hl hW in
theorem parse_loop {F:Nat} (hF:F≤4194304) (hN:F+4194306 < N) (x:List Tok × Int × Int) (hx:x.1=l):∀ (G N':Nat) (acc:List T12) (n:Nat),G < N'→acc.length+G≤4200000→n≤l.length →
  match sParse F G acc l n with
  | .ok ps m=>z10_l2 N x N' acc l n e 0 0=z10_k1 N ps l m e 0 0
  | .er k c=>c≠0∧∃ ps,z10_l2 N x N' acc l n e 0 0=z10_k1 N ps l k e (off l e k) c
  | .out=>True
 | 0,_,_,_,_,_,_=>trivial
 | G+1,0,_,_,h,_,_=>by omega
 | G+1,N'+1,acc,n,h,h1,h2=>by
  simp only [sParse,z10_l2,hx]
  rcases Nat.lt_or_ge n l.length with hn | hn
  ·rw [dT hn,lt_t hn,cT,cT,show ((0:Int)==0)=true from rfl,cT]
   have h4:=(protocol_bj hl hW e hF hN).ok n h2
   have e0:(⟨l,(n:Int),e,0,0⟩:T14)=okP l e n:=rfl
   rw [e0]
   cases hp:sProtocol F l n with
   | ok b m =>
    rw [hp] at h4
    obtain ⟨e1,_,h5,h6⟩:=h4
    rw [e1,bS,appL_some (by simp;omega),bS]
    exact parse_loop hF hN x hx G N' (snoc acc b) m (by omega) (by simp [snoc];omega) h6
   | er k c =>
    rw [hp] at h4
    obtain ⟨hc,a,e1,_⟩:=h4
    refine ⟨hc,acc++[a],?_⟩
    rw [e1,bS,appL_some (by simp;omega),bS]
    obtain ⟨N',rfl⟩:∃ m,N'=m+1:=⟨N'-1,by omega⟩
    show z10_l2 N x (N'+1) (acc++[a]) l k e (off l e k) c=_
    simp only [z10_l2]
    rw [show (c==(0:Int))=false by simp [hc]]
    cases decide ((k:Int) < (x.1.length:Int))<;>rfl
   | out=>trivial
  ·rw [dF (by omega),lt_f hn,cF,cF]
end Gp
end
section
namespace Gp
open Go Go.Kx Gx
def okR (z:ByteArray) (l:List Tok) (n:Nat):T8:=⟨z,l,n,0,0⟩
def erR (z:ByteArray) (l:List Tok) (k:Nat) (c:Int):T8:=⟨z,l,k,off l (z.size:Int) k,c⟩
abbrev BR (z:ByteArray) (l:List Tok) {α β:Type} (Gd:α→Prop) (c:β→α) (S:Nat→Rr β) (g:T8→Option (α × T8)):Prop:=Bj l (okR z l) (erR z l) Gd c S g
variable {N:Nat} (hN:4194304 < N) {l:List Tok} (hl:l.length≤8100) (hW:∀ t∈l,t.Text.size≤8100) (z:ByteArray)
theorem rnext_nx (N:Nat) (z:ByteArray) (l:List Tok):Nx l (okR z l) (erR z l) (Pref10_parser_token N):=by
 refine ⟨fun n=>?_,fun k c hc=>?_⟩
 ·show (bif ((0:Int) != 0) then some zt else bif decide ((n:Int)≥(l.length:Int)) then some zt else (idx l (n:Int)).bind fun x1=>some x1)=some (tk l n)
  rw [show ((0:Int) != 0)=false from rfl,cF]
  rcases Nat.lt_or_ge n l.length with h | h
  ·rw [show decide ((n:Int)≥(l.length:Int))=false by simp;omega,cF,idx_nat,tk_get h];rfl
  ·rw [show decide ((n:Int)≥(l.length:Int))=true by simp;omega,tk_end h];rfl
 ·simp only [Pref10_parser_token,erR]
  rw [show (c != (0:Int))=true by simp [hc]];rfl
theorem rsees_is (N:Nat) (z:ByteArray) (l:List Tok) (s:ByteArray):Is l (okR z l) (erR z l) s (fun p=>Pref10_parser_is N p s):=by
 refine ⟨fun n=>?_,fun k c hc=>?_⟩
 ·unfold Pref10_parser_is
  rw [(rnext_nx N z l).ok n,bS]
  unfold isT eqStr
  cases ((tk l n).Kind==4)<;>cases ((tk l n).Kind==1)<;>rfl
 ·show (Pref10_parser_token N _).bind _=_
  rw [(rnext_nx N z l).st k c hc];rfl
include hl in
theorem rtakes_tk (N:Nat) (s:ByteArray):Tk l (okR z l) (erR z l) s (fun p=>Pref10_parser_eat N p s):=by
 refine ⟨fun n=>?_,fun k c hc=>?_⟩
 ·show (Pref10_parser_is N (okR z l n) s).bind _=_
  rw [(rsees_is N z l s).ok n,bS]
  cases h:isT s (tk l n) with
  | false=>rfl
  | true =>
   have:=isT_lt h
   show some (true,(⟨z,l,w64 ((n:Int)+1),0,0⟩:T8))=_
   rw [w64_succ (by omega)];rfl
 ·show (Pref10_parser_is N (erR z l k c) s).bind _=_
  rw [(rsees_is N z l s).st k c hc];rfl
theorem rfail_ok (N:Nat) (z:ByteArray) (l:List Tok) (n:Nat) (c:Int):Pref10_parser_fail N (okR z l n) c=some (erR z l n c):=by
 show (bif ((0:Int) != 0) then some (okR z l n) else bif decide ((n:Int) < (l.length:Int)) then ((idx l (n:Int)).bind fun x1=>some (⟨z,l,n,x1.From,c⟩:T8)) else some ⟨z,l,n,(z.size:Int),c⟩)=_
 rw [show ((0:Int) != 0)=false from rfl,cF]
 unfold erR off
 rcases Nat.lt_or_ge n l.length with h | h
 ·rw [lt_t h,cT,idx_nat,tk_get h,bS,dT h];rfl
 ·rw [lt_f h,cF,dF (by omega)];rfl
theorem rfail_er (N:Nat) (z:ByteArray) (l:List Tok) (k:Nat) (c c':Int) (hc:c≠0):Pref10_parser_fail N (erR z l k c) c'=some (erR z l k c):=by
 simp only [Pref10_parser_fail,erR]
 rw [show (c != (0:Int))=true by simp [hc]];rfl
include hl in
theorem rwants_u (N:Nat) (s:ByteArray):BjU l (okR z l) (erR z l) (sWants s l) (fun p=>Pref10_parser_want N p s):=by
 refine ⟨fun n hn=>?_,fun k c hc=>?_⟩
 ·unfold sWants Pref10_parser_want
  rw [(rtakes_tk hl z N s).ok n]
  cases h:isT s (tk l n) with
  | true=>exact ⟨rfl,Nat.le_succ n,isT_lt h⟩
  | false =>
   refine ⟨by decide,?_⟩
   show (Pref10_parser_fail N (okR z l n) 3).bind _=_
   rw [rfail_ok];rfl
 ·show (Pref10_parser_eat N _ s).bind _=_
  rw [(rtakes_tk hl z N s).st k c hc]
  show (Pref10_parser_fail N (erR z l k c) 3).bind _=_
  rw [rfail_er _ _ _ _ _ _ hc];rfl
include hN in
theorem rword (s:ByteArray) (hs:s.size≤4194304):z40 N s=some (isWord s):=by
 unfold z40
 rw [(word_eq hN s hs).2];rfl
include hN hl hW in
theorem rword_val (n:Nat):Pref10_parser_word N (okR z l n)=some (bif wordT (tk l n) then ((tk l n).Text,okR z l (n+1)) else (str [],erR z l n 3)):=by
 unfold Pref10_parser_word
 rw [(rnext_nx N z l).ok n,bS]
 by_cases hk:(tk l n).Kind=1
 ·have hn:=kind_lt (l:=l) (n:=n) (k:=1) (by decide) (by simp [hk])
  rw [show ((tk l n).Kind != 1)=false by simp [hk],cF,rword hN _ (by have:=hW _ (tk_mem hn);omega),bS]
  cases hw:isWord (tk l n).Text with
  | true =>
   rw [(wordT_iff _).2 ⟨hk,hw⟩]
   show some ((tk l n).Text,(⟨z,l,w64 ((n:Int)+1),0,0⟩:T8))=_
   rw [w64_succ (by omega)];rfl
  | false =>
   rw [show wordT (tk l n)=false by unfold wordT;rw [hw];simp]
   show (Pref10_parser_fail N (okR z l n) 3).bind _=_
   rw [rfail_ok];rfl
 ·rw [show ((tk l n).Kind != 1)=true by simp [hk],show wordT (tk l n)=false by unfold wordT;simp [hk]]
  show (Pref10_parser_fail N (okR z l n) 3).bind _=_
  rw [rfail_ok];rfl
theorem rword_er (N:Nat) (z:ByteArray) (l:List Tok) (k:Nat) (c:Int) (hc:c≠0):Pref10_parser_word N (erR z l k c)=some (str [],erR z l k c):=by
 unfold Pref10_parser_word
 rw [(rnext_nx N z l).st k c hc]
 show (Pref10_parser_fail N (erR z l k c) 3).bind _=_
 rw [rfail_er _ _ _ _ _ _ hc];rfl
include hN hl hW in
theorem rword_bj:BR z l Sm id (sWord l) (Pref10_parser_word N):=by
 refine ⟨fun n hn=>?_,fun k c hc=>⟨_,rword_er N z l k c hc,by unfold Sm;decide⟩⟩
 rw [rword_val hN hl hW z n]
 unfold sWord
 cases h:wordT (tk l n) with
 | true=>exact ⟨rfl,isWord_size ((wordT_iff _).1 h).2,Nat.le_succ n,kind_lt (k:=1) (by decide) (by simp [((wordT_iff _).1 h).1])⟩
 | false=>exact ⟨by decide,_,rfl,by unfold Sm;decide⟩
include hl in
theorem rnum_bj (N:Nat):BR z l Tr id (sNum l) (Pref10_parser_number N):=by
 refine ⟨fun n hn=>?_,fun k c hc=>?_⟩
 ·unfold sNum Pref10_parser_number
  rw [(rnext_nx N z l).ok n,bS]
  cases h:((tk l n).Kind==2) with
  | true =>
   have hlt:=kind_lt (k:=2) (by decide) h
   rw [show ((tk l n).Kind != 2)=false by simp [bne,h]]
   refine ⟨?_,trivial,Nat.le_succ n,hlt⟩
   show some ((tk l n).Value,(⟨z,l,w64 ((n:Int)+1),0,0⟩:T8))=_
   rw [w64_succ (by omega)];rfl
  | false =>
   rw [show ((tk l n).Kind != 2)=true by simp [bne,h]]
   refine ⟨by decide,0,?_,trivial⟩
   show (Pref10_parser_fail N (okR z l n) 3).bind _=_
   rw [rfail_ok];rfl
 ·refine ⟨0,?_,trivial⟩
  show (Pref10_parser_token N _).bind _=_
  rw [(rnext_nx N z l).st k c hc]
  show (Pref10_parser_fail N (erR z l k c) 3).bind _=_
  rw [rfail_er _ _ _ _ _ _ hc];rfl
include hl in
theorem rsigned_bj (N:Nat):BR z l Tr id (sSigned l) (Pref10_parser_signed N):=by
 refine Bj.takes (rtakes_tk hl z N (str [45])) (A:=fun m=>(sNum l m).bind fun v k=>.ok (w64 (0-v)) k) ?_ ?_
 ·refine Bj.bind sur_id (rnum_bj hl z N) fun v _=>?_
  try dsimp only [id]
  exact Bj.ret rfl trivial
 ·exact Bj.congr (rnum_bj hl z N) (fun _ _=>rfl) (fun s=>pair_eta _)
include hN hl hW in
theorem rwords_bj {F:Nat} (hF:F < N):BR z l Tr id (sWords F l) (Pref10_parser_words N):=by
 refine Bj.bind sur_id (rword_bj hN hl hW z) fun w _=>?_
 have:=Bj.loop (Gd':=Tr) sur_id hl (rtakes_tk hl z N (str [44])) (rword_bj hN hl hW z) (fun n q acc=>Pref10_parser_words_l2 N n q.s' q.l' q.next' q.at' q.e' acc) (fun q acc=>some (acc,q)) (fun _ _ _=>rfl)
  (T:=fun acc n=>.ok acc n) (c':=id) (fun acc _=>Bj.ret (map_idd acc).symm trivial) F N [w] hF (by simp)
 exact Bj.congr this (fun n _=>(rr_bind_ok _).symm) (fun s=>rfl)
include hN hl hW in
theorem rpath_loop:∀ (M N':Nat) (acc:ByteArray) (n:Nat),M < N'→acc.size≤17 * n→n≤l.length →
  Ot l (okR z l) (erR z l) Pz id n (sLoop (str [46]) sWord dotW M acc l n) (Pref10_parser_path_l2 N N' z l n 0 0 acc)
 | 0,_,_,_,_,_,_=>trivial
 | M+1,0,_,_,h,_,_=>by omega
 | M+1,N'+1,acc,n,h,h1,h2=>by
  show Ot l _ _ Pz id n (bif isT (str [46]) (tk l n) then _ else _) ((Pref10_parser_eat N (okR z l n) (str [46])).bind _)
  rw [(rtakes_tk hl z N (str [46])).ok n]
  cases hi:isT (str [46]) (tk l n) with
  | false=>exact ⟨rfl,by unfold Pz;show acc.size≤200000;omega,Nat.le_refl _,h2⟩
  | true =>
   have hn:=isT_lt hi
   simp only [cT,bS]
   rw [rword_val hN hl hW z (n+1)]
   show Ot l _ _ Pz id n ((sWord l (n+1)).bind _) _
   unfold sWord
   cases hw:wordT (tk l (n+1)) with
   | true =>
    have hs:=isWord_size ((wordT_iff _).1 hw).2
    have hn2:=kind_lt (l:=l) (n:=n+1) (k:=1) (by decide) (by simp [((wordT_iff _).1 hw).1])
    simp only [cT,bS,Rr.bind]
    rw [cat_ok (x:=str [46]) (by show 1+_≤_;omega),bS,cat_ok (by rw [ByteArray.size_append];show _+(1+_)≤_;omega),bS]
    exact (rpath_loop M N' (dotW acc (tk l (n+1)).Text) (n+2) (by omega) (by rw [size_dotW];omega) hn2).le _ _ _ (by omega)
   | false =>
    simp only [cF,bS,Rr.bind]
    refine ⟨by decide,acc++(str [46]++str []),?_,by unfold Pz;rw [ByteArray.size_append];show _+1≤_;omega⟩
    rw [cat_ok (x:=str [46]) (by decide),bS,cat_ok (by rw [ByteArray.size_append];show _+1≤_;omega),bS]
    obtain ⟨N',rfl⟩:∃ m,N'=m+1:=⟨N'-1,by omega⟩
    show (Pref10_parser_eat N (erR z l (n+1) 3) (str [46])).bind _=_
    rw [(rtakes_tk hl z N (str [46])).st _ _ (by decide)];rfl
include hN hl hW in
theorem rpath_bj {F:Nat} (hF:F < N):BR z l Pz id (sPath F l) (Pref10_parser_path N):=by
 refine ⟨fun n hn=>?_,fun k c hc=>?_⟩
 ·unfold sPath Pref10_parser_path
  rw [rword_val hN hl hW z n]
  unfold sWord
  cases hw:wordT (tk l n) with
  | true =>
   have hs:=isWord_size ((wordT_iff _).1 hw).2
   have hn2:=kind_lt (l:=l) (n:=n) (k:=1) (by decide) (by simp [((wordT_iff _).1 hw).1])
   exact (rpath_loop hN hl hW z F N (tk l n).Text (n+1) hF (by omega) hn2).le _ _ _ (by omega)
  | false =>
   refine ⟨by decide,str [],?_,by unfold Pz;decide⟩
   rw [cF,bS]
   obtain ⟨N,rfl⟩:∃ m,N=m+1:=⟨N-1,by omega⟩
   show (Pref10_parser_eat (N+1) (erR z l n 3) (str [46])).bind _=_
   rw [(rtakes_tk hl z _ (str [46])).st _ _ (by decide)];rfl
 ·refine ⟨str [],?_,by unfold Pz;decide⟩
  unfold Pref10_parser_path
  rw [rword_er N z l k c hc,bS]
  obtain ⟨N,rfl⟩:∃ m,N=m+1:=⟨N-1,by omega⟩
  show (Pref10_parser_eat (N+1) (erR z l k c) (str [46])).bind _=_
  rw [(rtakes_tk hl z _ (str [46])).st _ _ hc];rfl
end Gp
end
section
namespace Gp
open Go Go.Kx Gx
theorem isT_excl {s s':ByteArray} {t:Tok} (hs:s≠s') (h:isT s t=true):isT s' t=false:=by
 unfold isT at h ⊢
 rw [Bool.and_eq_true,eqStr_iff] at h
 rw [Bool.and_eq_false_iff]
 right
 cases hx:eqStr t.Text s' with
 | false=>rfl
 | true=>rw [eqStr_iff] at hx;exact absurd (h.2.symm.trans hx) hs
theorem str_ne {a b:List UInt8} (h:a≠b):mkB a≠mkB b:=fun q=>h (by rw [← bs_mkB a,q,bs_mkB])
theorem rsplit_loop (s:ByteArray) (hs:s.size≤200000):∀ (k n:Nat),k < n→k≤(bs s).length →
  ref10_split_l2 s n ((k:Int)-1)=some (match lastDot ((bs s).take k) with | some i=>(mkB ((bs s).take i),mkB ((bs s).drop (i+1))) | none=>(str [],s))
 | 0,0,h,_=>by omega
 | 0,n+1,_,_=>by
  simp only [ref10_split_l2,List.take_zero,lastDot]
  rfl
 | k+1,0,h,_=>by omega
 | k+1,n+1,h,hk=>by
  have hs2:=hs
  rw [size_bs] at hs
  have e:(((k+1:Nat):Int)-1)=(k:Int):=by omega
  rw [e]
  simp only [ref10_split_l2]
  have hg:(bs s)[k]? = some (bs s)[k]:=List.getElem?_eq_getElem (by omega)
  rw [show decide ((k:Int)≥0)=true by simp,cT,sidx_bs,hg,Option.map_some,bS,b46,take_snoc hg,lastDot_snoc]
  by_cases h46:(bs s)[k]=46
  ·rw [dT h46,cT,if_pos h46]
   have hlen:((bs s).take k).length=k:=by simp;omega
   rw [ssl_to (x:=(bs s).take k) (y:=(bs s).drop k) (List.take_append_drop _ _).symm (by rw [hlen]),bS,w64_succ (by omega),
    ssl_from (x:=(bs s).take (k+1)) (y:=(bs s).drop (k+1)) (List.take_append_drop _ _).symm (by simp;omega),bS]
   simp only [hlen]
  ·rw [dF h46,cF,if_neg h46,w64_id (by omega) (by omega)]
   exact rsplit_loop s hs2 k n (by omega) (by omega)
theorem rsplit_eq {N:Nat} (hN:4194304 < N) (s:ByteArray) (hs:s.size≤200000):ref10_split N s=some (splitP s):=by
 unfold ref10_split
 have hb:(bs s).length=s.size:=(size_bs s).symm
 rw [w64_id (by omega) (by omega),size_bs,rsplit_loop s hs _ N (by omega) (Nat.le_refl _),List.take_length]
 unfold splitP
 cases lastDot (bs s)<;>rfl
def WfT (l:List Tok):Prop:=∀ t∈l,(t.Kind=1→(marksL.any fun k=>eqStr k t.Text)=false)∧(t.Kind=4→(starters.any fun k=>eqStr k t.Text)=false)
variable {N:Nat} (hN:4194304 < N) {l:List Tok} (hl:l.length≤8100) (hW:∀ t∈l,t.Text.size≤8100) (hT:WfT l) (z:ByteArray)
include hN hl hW in
theorem rfield_bj:BR z l Tr id (sField l) (Pref10_parser_field N):=by
 have h:BR z l Tr id (fun n=>(sWord l n).bind fun w n=>(sWants (str [58]) l n).bind fun _ n =>
   bif isT (str [116,101,120,116]) (tk l n) then (sNum l (n+1)).bind fun lo n=>(sWants (str [46,46]) l n).bind fun _ n=>(sNum l n).bind fun hi n=>.ok (⟨w,⟨2,lo,hi⟩⟩:T0) n
   else (sWants (str [105,110,116]) l n).bind fun _ n=>(sSigned l n).bind fun lo n=>(sWants (str [46,46]) l n).bind fun _ n=>(sSigned l n).bind fun hi n=>.ok (⟨w,⟨1,lo,hi⟩⟩:T0) n) (Pref10_parser_field N):=by
  unfold Pref10_parser_field
  refine Bj.bind sur_id (rword_bj hN hl hW z) fun w _=>?_
  try dsimp only [id]
  refine BjU.bind (rwants_u hl z N (str [58])) ?_
  refine Bj.takes (rtakes_tk hl z N (str [116,101,120,116])) (A:=fun m=>(sNum l m).bind fun lo n=>(sWants (str [46,46]) l n).bind fun _ n=>(sNum l n).bind fun hi n=>.ok (⟨w,⟨2,lo,hi⟩⟩:T0) n) ?_ ?_
  ·refine Bj.bind sur_id (rnum_bj hl z N) fun lo _=>?_
   try dsimp only [id]
   refine BjU.bind (rwants_u hl z N (str [46,46])) ?_
   refine Bj.bind sur_id (rnum_bj hl z N) fun hi _=>?_
   try dsimp only [id]
   exact Bj.ret rfl trivial
  ·refine BjU.bind (rwants_u hl z N (str [105,110,116])) ?_
   refine Bj.bind sur_id (rsigned_bj hl z N) fun lo _=>?_
   try dsimp only [id]
   refine BjU.bind (rwants_u hl z N (str [46,46])) ?_
   refine Bj.bind sur_id (rsigned_bj hl z N) fun hi _=>?_
   try dsimp only [id]
   exact Bj.ret rfl trivial
 refine Bj.congr h (fun n _=>?_) (fun _=>rfl)
 unfold sField
 cases sWord l n with
 | ok w n =>
  show (sWants (str [58]) l n).bind _=(sWants (str [58]) l n).bind _
  cases sWants (str [58]) l n with
  | ok u n =>
   show (bif isT (str [105,110,116]) (tk l n) then _ else _)=(bif isT (str [116,101,120,116]) (tk l n) then _ else _)
   cases h1:isT (str [105,110,116]) (tk l n) with
   | true =>
    rw [isT_excl (s':=str [116,101,120,116]) (str_ne (by decide)) h1,cT,cF]
    unfold sWants
    rw [h1];rfl
   | false =>
    cases h2:isT (str [116,101,120,116]) (tk l n) with
    | true=>unfold sWants;rw [h2];rfl
    | false=>unfold sWants;rw [h1,h2];rfl
  | er k c=>rfl
  | out=>rfl
 | er k c=>rfl
 | out=>rfl
include hN hl in
theorem rtail_bj (k:Int) (s:ByteArray):BR z l Tr id (sTail k s l) (fun q=>Pref10_parser_term_k1 N q.s' q.l' q.next' q.at' q.e' k (splitP s).1 (splitP s).2):=by
 unfold sTail Pref10_parser_term_k1
 refine Bj.takes (rtakes_tk hl z N (str [43])) (A:=fun m=>(sNum l m).bind fun v n=>.ok (⟨k,(splitP s).1,(splitP s).2,v⟩:T13) n) ?_ ?_
 ·refine Bj.bind sur_id (rnum_bj hl z N) fun v _=>?_
  try dsimp only [id]
  exact Bj.ret rfl trivial
 ·refine Bj.takes (rtakes_tk hl z N (str [45])) (A:=fun m=>(sNum l m).bind fun v n=>.ok (⟨k,(splitP s).1,(splitP s).2,w64 (0-v)⟩:T13) n) ?_ ?_
  ·refine Bj.bind sur_id (rnum_bj hl z N) fun v _=>?_
   try dsimp only [id]
   exact Bj.ret rfl trivial
  ·exact Bj.ret rfl trivial
include hN hl hW in
theorem rterm_bj {F:Nat} (hF:F < N):BR z l Tr id (sTerm F l) (Pref10_parser_term N):=by
 have hs:BR z l Tr id (fun n=>(sSigned l n).bind fun v n=>.ok ⟨1,str [],str [],v⟩ n) (fun p=>(Pref10_parser_signed N p).bind fun x2=>some ((⟨(1:Int),(str []),(str []),x2.1⟩:T13),x2.2)):=by
  refine Bj.bind sur_id (rsigned_bj hl z N) fun v _=>?_
  try dsimp only [id]
  exact Bj.ret rfl trivial
 have hp:BR z l Tr id (fun n=>bif isT (str [108,101,110]) (tk l n) then (sWants (str [40]) l (n+1)).bind fun _ n=>(sPath F l n).bind fun s n=>(sWants (str [41]) l n).bind fun _ n=>sTail 3 s l n else (sPath F l n).bind fun s n=>sTail 2 s l n)
   (fun p=>(Pref10_parser_eat N p (str [108,101,110])).bind fun x5=>bif x5.1 then ((Pref10_parser_want N x5.2 (str [40])).bind fun x16=>(Pref10_parser_path N x16).bind fun x17=>(ref10_split N x17.1).bind fun x18=>(Pref10_parser_want N x17.2 (str [41])).bind fun x19 =>
    Pref10_parser_term_k1 N x19.s' x19.l' x19.next' x19.at' x19.e' (3:Int) x18.1 x18.2) else (Pref10_parser_path N x5.2).bind fun x20=>(ref10_split N x20.1).bind fun x21=>Pref10_parser_term_k1 N x20.2.s' x20.2.l' x20.2.next' x20.2.at' x20.2.e' (2:Int) x21.1 x21.2):=by
  refine Bj.takes (rtakes_tk hl z N (str [108,101,110])) (A:=fun m=>(sWants (str [40]) l m).bind fun _ n=>(sPath F l n).bind fun s n=>(sWants (str [41]) l n).bind fun _ n=>sTail 3 s l n) ?_ ?_
  ·refine BjU.bind (rwants_u hl z N (str [40])) ?_
   refine Bj.bind sur_id (rpath_bj hN hl hW z hF) fun s hs=>?_
   try dsimp only [id]
   rw [rsplit_eq hN s hs]
   refine BjU.bind (rwants_u hl z N (str [41])) ?_
   exact rtail_bj hN hl z 3 s
  ·refine Bj.bind sur_id (rpath_bj hN hl hW z hF) fun s hs=>?_
   try dsimp only [id]
   rw [rsplit_eq hN s hs]
   exact rtail_bj hN hl z 2 s
 have hn:BR z l Tr id (fun n=>bif isT (str [45]) (tk l n) then (sSigned l n).bind fun v n=>.ok ⟨1,str [],str [],v⟩ n else bif isT (str [108,101,110]) (tk l n) then (sWants (str [40]) l (n+1)).bind fun _ n=>(sPath F l n).bind fun s n=>(sWants (str [41]) l n).bind fun _ n=>sTail 3 s l n else (sPath F l n).bind fun s n=>sTail 2 s l n)
  (fun p=>(Pref10_parser_is N p (str [45])).bind fun x3=>bif x3 then ((Pref10_parser_signed N p).bind fun x4=>some ((⟨(1:Int),(str []),(str []),x4.1⟩:T13),x4.2)) else (Pref10_parser_eat N p (str [108,101,110])).bind fun x5=>bif x5.1 then ((Pref10_parser_want N x5.2 (str [40])).bind fun x16=>(Pref10_parser_path N x16).bind fun x17=>(ref10_split N x17.1).bind fun x18=>(Pref10_parser_want N x17.2 (str [41])).bind fun x19 =>
    Pref10_parser_term_k1 N x19.s' x19.l' x19.next' x19.at' x19.e' (3:Int) x18.1 x18.2) else (Pref10_parser_path N x5.2).bind fun x20=>(ref10_split N x20.1).bind fun x21=>Pref10_parser_term_k1 N x20.2.s' x20.2.l' x20.2.next' x20.2.at' x20.2.e' (2:Int) x21.1 x21.2) :=
  Bj.is (rsees_is N z l (str [45])) hs hp
 refine Bj.congr (Bj.next (rnext_nx N z l) (Gd:=Tr) (c:=id) (fun t=>t.Kind==2) rfl (A:=fun n=>(sSigned l n).bind fun v n=>.ok ⟨1,str [],str [],v⟩ n) (B:=fun n=>bif isT (str [45]) (tk l n) then (sSigned l n).bind fun v n=>.ok ⟨1,str [],str [],v⟩ n else bif isT (str [108,101,110]) (tk l n) then (sWants (str [40]) l (n+1)).bind fun _ n=>(sPath F l n).bind fun s n=>(sWants (str [41]) l n).bind fun _ n=>sTail 3 s l n else (sPath F l n).bind fun s n=>sTail 2 s l n)
  (G:=fun x1 p=>bif (x1.Kind==(2:Int)) then ((Pref10_parser_signed N p).bind fun x2=>some ((⟨(1:Int),(str []),(str []),x2.1⟩:T13),x2.2)) else (Pref10_parser_is N p (str [45])).bind fun x3=>bif x3 then ((Pref10_parser_signed N p).bind fun x4=>some ((⟨(1:Int),(str []),(str []),x4.1⟩:T13),x4.2)) else (Pref10_parser_eat N p (str [108,101,110])).bind fun x5=>bif x5.1 then ((Pref10_parser_want N x5.2 (str [40])).bind fun x16=>(Pref10_parser_path N x16).bind fun x17=>(ref10_split N x17.1).bind fun x18=>(Pref10_parser_want N x17.2 (str [41])).bind fun x19 =>
    Pref10_parser_term_k1 N x19.s' x19.l' x19.next' x19.at' x19.e' (3:Int) x18.1 x18.2) else (Pref10_parser_path N x5.2).bind fun x20=>(ref10_split N x20.1).bind fun x21=>Pref10_parser_term_k1 N x20.2.s' x20.2.l' x20.2.next' x20.2.at' x20.2.e' (2:Int) x21.1 x21.2)
  (fun n hn h=>by
   have h':((tk l n).Kind==2)=true:=h
   simp only [h',cT]
   exact hs.ok n (Nat.le_of_lt hn))
  (fun n hn' h=>by
   have h':((tk l n).Kind==2)=false:=h
   simp only [h',cF]
   exact hn.ok n hn')
  (fun k c hc=>hn.st k c hc)) (fun n _=>?_) (fun s=>rfl)
 unfold sTerm
 cases isT (str [45]) (tk l n)<;>cases ((tk l n).Kind==2)<;>rfl
theorem isT4 {s:ByteArray} {t:Tok} (hk:(t.Kind==4)=true):isT s t=eqStr t.Text s:=by unfold isT;rw [hk];rfl
include hT in
theorem noMark {n:Nat} (h:markT (tk l n)=false) (s:ByteArray) (hs:(marksL.any fun k=>eqStr k s)=true):isT s (tk l n)=false:=by
 cases hi:isT s (tk l n) with
 | false=>rfl
 | true =>
  have hn:=isT_lt hi
  obtain ⟨h1,_⟩:=hT _ (tk_mem hn)
  unfold isT at hi
  rw [Bool.and_eq_true,eqStr_iff,Bool.or_eq_true,beq_iff_eq,beq_iff_eq] at hi
  rw [← hi.2] at hs
  rcases hi.1 with h4 | h4
  ·unfold markT at h;rw [h4,hs] at h;cases h
  ·rw [h1 h4] at hs;cases hs
include hN hl hW hT in
theorem ratom_bj {F:Nat} (hF:F < N):BR z l Tr tA (sAtom F l) (Pref10_parser_atom N):=by
 unfold sAtom Pref10_parser_atom
 refine Bj.bind sur_id (rterm_bj hN hl hW z hF) fun a _=>?_
 dsimp only [id]
 have last:∀ tx:ByteArray,BR z l Tr tA (fun n=>(sTerm F l n).bind fun b m=>.ok (⟨a,tx,b⟩:T9) m) (fun s=>(Pref10_parser_term N s).bind fun x8=>some ((⟨a,tx,x8.1⟩:T4),x8.2)):=fun tx=>by
  refine Bj.bind sur_id (rterm_bj hN hl hW z hF) fun b _=>?_
  try dsimp only [id]
  exact Bj.ret rfl trivial
 refine Bj.next (rnext_nx N z l) markT rfl (A:=fun n=>(sTerm F l (n+1)).bind fun b m=>.ok (⟨a,(tk l n).Text,b⟩:T9) m) (B:=fun n=>.er n 3)
  (fun n hn h=>?_) (fun n hn h=>?_) (fun k c hc=>?_)
 ·have L:=((last (tk l n).Text).ok (n+1) hn).le _ _ _ (n0:=n) (by omega)
  simp only [(rtakes_tk hl z N _).ok n,bS]
  cases h1:isT (str [60]) (tk l n) with
  | true=>exact L
  | false =>
   simp only [cF,Bool.not_false,cT,(rtakes_tk hl z N _).ok n,bS]
   cases h2:isT (str [60,61]) (tk l n) with
   | true=>exact L
   | false =>
    simp only [cF,Bool.not_false,cT,(rtakes_tk hl z N _).ok n,bS]
    cases h3:isT (str [61,61]) (tk l n) with
    | true=>exact L
    | false =>
     simp only [cF,Bool.not_false,cT,(rtakes_tk hl z N _).ok n,bS]
     cases h4:isT (str [62,61]) (tk l n) with
     | true=>exact L
     | false =>
      simp only [cF,Bool.not_false,cT]
      have hw:=(rwants_u hl z N (str [62])).ok n (Nat.le_of_lt hn)
      have h5:isT (str [62]) (tk l n)=true:=by
       unfold markT at h
       rw [Bool.and_eq_true] at h
       have hh:=h.2
       rw [isT4 h.1] at h1 h2 h3 h4 ⊢
       unfold eqStr at h1 h2 h3 h4 ⊢
       simp only [marksL,List.any_cons,List.any_nil,Bool.or_false,eqStr,bcomm _ (tk l n).Text,h1,h2,h3,h4,Bool.false_or] at hh
       exact hh
      unfold sWants at hw
      rw [h5] at hw
      rw [hw.1]
      exact L
 ·have fin:∀ k c,c≠0→∃ r,((Pref10_parser_term N (erR z l k c)).bind fun x8=>some ((⟨a,(tk l n).Text,x8.1⟩:T4),x8.2))=some (r,erR z l k c)∧Tr r:=fun k c hc=>(last _).st k c hc
  refine ⟨by decide,?_⟩
  have q:=noMark hT h
  simp only [(rtakes_tk hl z N _).ok n,bS,q _ (show (marksL.any fun k=>eqStr k (str [60]))=true by kernel_rfl),q _ (show (marksL.any fun k=>eqStr k (str [60,61]))=true by kernel_rfl),q _ (show (marksL.any fun k=>eqStr k (str [61,61]))=true by kernel_rfl),q _ (show (marksL.any fun k=>eqStr k (str [62,61]))=true by kernel_rfl),cF,Bool.not_false,cT]
  have hw:=(rwants_u hl z N (str [62])).ok n hn
  unfold sWants at hw
  rw [q _ (show (marksL.any fun k=>eqStr k (str [62]))=true by kernel_rfl)] at hw
  rw [hw.2,bS]
  exact fin n 3 (by decide)
 ·simp only [(rtakes_tk hl z N _).st k c hc,bS,Bool.not_false,cT,(rwants_u hl z N _).st k c hc]
  exact (last _).st k c hc
def s0r:T8:=⟨str [],[],0,0,0⟩
theorem rml2_cong (x:ByteArray × T8) (fs:List T0):∀ n a b c d f acc,Pref10_parser_message_l2 N x fs n a b c d f acc=Pref10_parser_message_l2 N (x.1,s0r) fs n a b c d f acc
 | 0,_,_,_,_,_,_=>rfl
 | n+1,a,b,c,d,f,acc=>by simp only [Pref10_parser_message_l2,rml2_cong x fs n];rfl
theorem rmk3_cong (x:ByteArray × T8) (a b c d f fs):Pref10_parser_message_k3 N x a b c d f fs=Pref10_parser_message_k3 N (x.1,s0r) a b c d f fs:=by
 unfold Pref10_parser_message_k3
 simp only [rml2_cong x]
theorem rml5_cong (x:ByteArray × T8):∀ n a b c d f acc,Pref10_parser_message_l5 N x n a b c d f acc=Pref10_parser_message_l5 N (x.1,s0r) n a b c d f acc
 | 0,_,_,_,_,_,_=>rfl
 | n+1,a,b,c,d,f,acc=>by simp only [Pref10_parser_message_l5,rml5_cong x n,Pref10_parser_message_k4,rmk3_cong x]
theorem sur_tA:∀ a,∃ b,tA b=a:=fun a=>⟨oA a,to_A a⟩
theorem sur_tM:∀ a,∃ b,tM b=a:=fun a=>⟨oM a,to_M a⟩
theorem sur_tI:∀ a,∃ b,tI b=a:=fun a=>⟨oI a,to_I a⟩
theorem sur_tL:∀ a,∃ b,tL b=a:=fun a=>⟨oL a,to_L a⟩
include hN hl hW hT in
theorem rwhere_bj {F:Nat} (hF:F < N) (nm:ByteArray) (fs:List T0):BR z l Tr tM (fun n=>(sWants (str [41]) l n).bind fun _ n=>sWhere F nm fs l n) (fun q=>Pref10_parser_message_k3 N (nm,s0r) q.s' q.l' q.next' q.at' q.e' fs):=by
 unfold sWhere Pref10_parser_message_k3
 refine BjU.bind (rwants_u hl z N (str [41])) ?_
 refine Bj.takes (rtakes_tk hl z N (str [119,104,101,114,101])) (A:=fun m=>(sAtom F l m).bind fun a n=>(sLoop (str [97,110,100]) (sAtom F) snoc F [a] l n).bind fun as' n=>(sWants (str [59]) l n).bind fun _ n=>.ok (⟨nm,fs,as'⟩:T11) n) ?_ ?_
 ·refine Bj.bind sur_tA (ratom_bj hN hl hW hT z hF) fun a _=>?_
  dsimp only
  have:=Bj.loop (Gd':=Tr) sur_tA hl (rtakes_tk hl z N (str [97,110,100])) (ratom_bj hN hl hW hT z hF) (fun n q acc=>Pref10_parser_message_l2 N (nm,s0r) fs n q.s' q.l' q.next' q.at' q.e' acc)
   (fun q acc=>(Pref10_parser_want N q (str [59])).bind fun x46=>some ((⟨nm,fs,acc⟩:T6),x46)) (fun _ _ _=>rfl)
   (T:=fun as' n=>(sWants (str [59]) l n).bind fun _ n=>.ok (⟨nm,fs,as'⟩:T11) n) (c':=tM) (fun acc _=>BjU.bind (rwants_u hl z N (str [59])) (Bj.ret rfl trivial)) F N [a] hF (by simp)
  exact Bj.congr this (fun n _=>rfl) (fun s=>rfl)
 ·refine BjU.bind (rwants_u hl z N (str [59])) ?_
  exact Bj.ret rfl trivial
include hN hl hW hT in
theorem rmessage_bj {F:Nat} (hF:F < N):BR z l Tr tM (sMessage F l) (Pref10_parser_message N):=by
 have h:BR z l Tr tM (fun n=>(sPath F l n).bind fun nm n=>(sWants (str [40]) l n).bind fun _ n =>
   bif isT (str [41]) (tk l n) then (sWants (str [41]) l n).bind fun _ n=>sWhere F nm [] l n
   else (sField l n).bind fun f n=>(sLoop (str [44]) sField snoc F [f] l n).bind fun fs n=>(sWants (str [41]) l n).bind fun _ n=>sWhere F nm fs l n)
   (fun p=>(Pref10_parser_path N p).bind fun x1=>(Pref10_parser_want N x1.2 (str [40])).bind fun x2=>(Pref10_parser_is N x2 (str [41])).bind fun x3 =>
   bif x3 then Pref10_parser_message_k3 N (x1.1,s0r) x2.s' x2.l' x2.next' x2.at' x2.e' ([]:List T0)
   else (Pref10_parser_field N x2).bind fun x63=>Pref10_parser_message_l5 N (x1.1,s0r) N x63.2.s' x63.2.l' x63.2.next' x63.2.at' x63.2.e' [x63.1]):=by
  refine Bj.bind sur_id (rpath_bj hN hl hW z hF) fun nm _=>?_
  try dsimp only [id]
  refine BjU.bind (rwants_u hl z N (str [40])) ?_
  refine Bj.is (rsees_is N z l (str [41])) (rwhere_bj hN hl hW hT z hF nm []) ?_
  refine Bj.bind sur_id (rfield_bj hN hl hW z) fun f _=>?_
  dsimp only [id]
  have:=Bj.loop (Gd':=Tr) sur_id hl (rtakes_tk hl z N (str [44])) (rfield_bj hN hl hW z) (fun n q acc=>Pref10_parser_message_l5 N (nm,s0r) n q.s' q.l' q.next' q.at' q.e' acc)
   (fun q acc=>Pref10_parser_message_k3 N (nm,s0r) q.s' q.l' q.next' q.at' q.e' acc) (fun _ _ _=>rfl)
   (T:=fun fs n=>(sWants (str [41]) l n).bind fun _ n=>sWhere F nm fs l n) (c':=tM) (fun acc _=>by rw [map_idd];exact rwhere_bj hN hl hW hT z hF nm acc) F N [f] hF (by simp)
  exact Bj.congr this (fun n _=>rfl) (fun s=>rfl)
 refine Bj.congr h (fun n _=>?_) (fun p=>?_)
 ·unfold sMessage
  cases sPath F l n with
  | ok nm n =>
   show (sWants (str [40]) l n).bind _=(sWants (str [40]) l n).bind _
   cases sWants (str [40]) l n with
   | ok u n =>
    show (bif isT (str [41]) (tk l n) then _ else _)=(bif isT (str [41]) (tk l n) then _ else _)
    cases h1:isT (str [41]) (tk l n) with
    | true=>unfold sWants;rw [h1];rfl
    | false=>rfl
   | er k c=>rfl
   | out=>rfl
  | er k c=>rfl
  | out=>rfl
 ·unfold Pref10_parser_message
  simp only [app1,bS]
  congr 1;funext x1;congr 1;funext x2;congr 1;funext x3
  cases x3
  ·simp only [Bool.not_false,cT,cF]
   congr 1;funext x63
   exact rml5_cong x1 _ _ _ _ _ _ _
  ·simp only [Bool.not_true,cT,cF]
   exact rmk3_cong x1 _ _ _ _ _ _
end Gp
end
section
namespace Gp
open Go Go.Kx Gx
theorem rr_assoc {α β γ:Type} (r:Rr α) (f:α→Nat→Rr β) (g:β→Nat→Rr γ):(r.bind f).bind g=r.bind fun a n=>(f a n).bind g:=by cases r<;>rfl
theorem sLoop_cons {α:Type} (s:ByteArray) (p:Pm α) (l:List Tok) (b:α):∀ (M:Nat) (acc:List α) (n:Nat),sLoop s p snoc M (b::acc) l n=(sLoop s p snoc M acc l n).bind fun bl m=>.ok (b::bl) m
 | 0,_,_=>rfl
 | M+1,acc,n=>by
  simp only [sLoop]
  cases isT s (tk l n) with
  | false=>rfl
  | true =>
   simp only [cT]
   rw [rr_assoc]
   congr 1;funext a m
   exact sLoop_cons s p l b M (snoc acc a) m
def sIt (F:Nat):Pm T10:=sItem F (sBlock (sItems F))
variable {N:Nat} (hN:4194304 < N) {l:List Tok} (hl:l.length≤8100) (hW:∀ t∈l,t.Text.size≤8100) (hT:WfT l) (z:ByteArray)
theorem brace_beg {t:Tok} (h:isT (str [125]) t=true):begT t=false:=by
 unfold isT at h
 rw [Bool.and_eq_true,eqStr_iff] at h
 unfold begT
 rw [h.2,show (isWord (str [125]) || starters.any fun k=>eqStr k (str [125]))=false by kernel_rfl]
 simp
include hT in
theorem notBeg {n:Nat} (h:begT (tk l n)=false) (s:ByteArray) (hs:(starters.any fun k=>eqStr k s)=true):isT s (tk l n)=false:=by
 cases hi:isT s (tk l n) with
 | false=>rfl
 | true =>
  have hn:=isT_lt hi
  obtain ⟨_,h1⟩:=hT _ (tk_mem hn)
  unfold isT at hi
  rw [Bool.and_eq_true,eqStr_iff,Bool.or_eq_true,beq_iff_eq,beq_iff_eq] at hi
  rw [← hi.2] at hs
  rcases hi.1 with h4 | h4
  ·rw [h1 h4] at hs;cases hs
  ·unfold begT at h;rw [h4,hs] at h;simp at h
include hT in
theorem item_not {F:Nat} {block:Pm (List T10)} {n:Nat} (h:begT (tk l n)=false):sItem F block l n=.er n 3:=by
 have q:=notBeg hT h
 unfold sItem
 rw [q _ (show (starters.any fun k=>eqStr k (str [99,104,111,105,99,101]))=true by kernel_rfl),q _ (show (starters.any fun k=>eqStr k (str [108,111,111,112]))=true by kernel_rfl),q _ (show (starters.any fun k=>eqStr k (str [97,103,97,105,110]))=true by kernel_rfl),
  q _ (show (starters.any fun k=>eqStr k (str [112,97,114]))=true by kernel_rfl),q _ (show (starters.any fun k=>eqStr k (str [99,97,108,108]))=true by kernel_rfl)]
 simp only [cF]
 unfold sSend sWord
 rw [show wordT (tk l n)=false by
  unfold begT at h;unfold wordT
  cases hk:((tk l n).Kind==1) with
  | false=>rfl
  | true=>rw [hk] at h;simp at h;simp [h.1]]
 rfl
include hl in
theorem rblock_bj {it:Pm T10} {rc} {M:Nat} (hM:M < N) (hM2:M≤4194304) (hrc:M=0∨BR z l Tr tI (it l) rc) (hnb:∀ n,begT (tk l n)=false→it l n=.er n 3) :
  BR z l Tr tL (sBlock (sList it M []) l) (fun p=>Pref10_parser_block N rc p):=by
 have hst:∀ N' (acc:List T5),0 < N'→∀ (k:Nat) c,c≠0→∃ a,Pref10_parser_block_l2 N rc N' z l k (off l (z.size:Int) k) c acc=some (a,erR z l k c)∧Tr a:=by
  intro N' acc hN' k c hc
  obtain ⟨n,rfl⟩:∃ m,N'=m+1:=⟨N'-1,by omega⟩
  refine ⟨acc,?_,trivial⟩
  simp only [Pref10_parser_block_l2]
  rw [show (c==(0:Int))=false by simp [hc],cF]
  show (Pref10_parser_want N (erR z l k c) (str [125])).bind _=_
  rw [(rwants_u hl z N (str [125])).st k c hc];rfl
 have key:∀ (M N':Nat) (acc:List T10) (n:Nat),M < N'→M≤4194304→(M=0∨BR z l Tr tI (it l) rc)→acc.length+M≤4200000→n≤l.length →
   Ot l (okR z l) (erR z l) Tr tL n ((sList it M acc l n).bind fun x n=>(sWants (str [125]) l n).bind fun _ n=>.ok x n) (Pref10_parser_block_l2 N rc N' z l n 0 0 (acc.map tI)):=by
  intro M
  induction M with
  | zero=>intro N' acc n _ _ _ _ _;trivial
  | succ M ih =>
   intro N' acc n h1 h0 hrc h2 h3
   obtain ⟨N',rfl⟩:∃ m,N'=m+1:=⟨N'-1,by omega⟩
   have hrc':BR z l Tr tI (it l) rc:=by
    rcases hrc with h | h
    ·omega
    ·exact h
   simp only [Pref10_parser_block_l2]
   rw [show ((0:Int)==0)=true from rfl,cT]
   show Ot l _ _ Tr tL n _ ((Pref10_parser_is N (okR z l n) (str [125])).bind _)
   rw [(rsees_is N z l (str [125])).ok n,bS]
   simp only [sList]
   have hw:=(rwants_u hl z N (str [125])).ok n h3
   unfold sWants at hw
   cases hb:isT (str [125]) (tk l n) with
   | true =>
    rw [brace_beg hb]
    rw [hb] at hw
    show Ot l _ _ Tr tL n ((sWants (str [125]) l n).bind _) ((Pref10_parser_want N (okR z l n) (str [125])).bind _)
    unfold sWants
    rw [hb,hw.1]
    exact ⟨by rw [tL_map];rfl,trivial,Nat.le_succ n,isT_lt hb⟩
   | false =>
    simp only [Bool.not_false,cT]
    show Ot l _ _ Tr tL n _ ((rc (okR z l n)).bind _)
    have h4:=hrc'.ok n h3
    cases hi:begT (tk l n) with
    | false =>
     rw [hnb n hi] at h4
     obtain ⟨hc,a,e1,_⟩:=h4
     obtain ⟨b,rfl⟩:=sur_tI a
     show Ot l _ _ Tr tL n ((sWants (str [125]) l n).bind _) _
     unfold sWants
     rw [hb]
     refine ⟨by decide,?_⟩
     rw [e1,bS,appL_some (by simp;omega),bS]
     exact hst N' _ (by omega) n 3 (by decide)
    | true =>
     simp only [cT]
     cases hp:it l n with
     | ok b m =>
      rw [hp] at h4
      obtain ⟨e1,_,h5,h6⟩:=h4
      rw [e1,bS,appL_some (by simp;omega),bS]
      have:=ih N' (snoc acc b) m (by omega) (by omega) (.inr hrc') (by simp [snoc];omega) h6
      have e2:(snoc acc b).map tI=acc.map tI++[tI b]:=by simp [snoc]
      rw [e2] at this
      exact this.le _ _ _ h5
     | er k c =>
      rw [hp] at h4
      obtain ⟨hc,a,e1,_⟩:=h4
      refine ⟨hc,?_⟩
      rw [e1,bS,appL_some (by simp;omega),bS]
      exact hst N' _ (by omega) k c hc
     | out=>trivial
 unfold sBlock Pref10_parser_block
 refine BjU.bind (rwants_u hl z N (str [123])) ?_
 exact ⟨fun n hn=>key M N [] n hM hM2 hrc (by simp;omega) hn,fun k c hc=>hst N [] (by omega) k c hc⟩
def Sh {α:Type} (x:List α):Prop:=x.length≤8300
theorem sur_map {α β:Type} {c:β→α} (hc:∀ a,∃ b,c b=a):∀ a:List α,∃ b:List β,b.map c=a
 | []=>⟨[],rfl⟩
 | x::a=>by
  obtain ⟨b,hb⟩:=sur_map hc a
  obtain ⟨y,hy⟩:=hc x
  exact ⟨y::b,by rw [List.map_cons,hb,hy]⟩
include hl in
theorem rblocks_bj {F:Nat} (hF:F < N) {block:Pm (List T10)} {rc} (hb:BR z l Tr tL (block l) (fun p=>Pref10_parser_block N rc p)) (kw:ByteArray) :
  BR z l Sh (List.map tL) (fun n=>(block l n).bind fun b n=>sLoop kw block snoc F [b] l n) (fun p=>Pref10_parser_blocks N rc p kw):=by
 unfold Pref10_parser_blocks
 refine Bj.bind sur_tL hb fun b _=>?_
 dsimp only
 have:=Bj.loop (Gd':=Sh) sur_tL hl (rtakes_tk hl z N kw) hb (fun n q acc=>Pref10_parser_blocks_l2 N rc kw n q.s' q.l' q.next' q.at' q.e' acc)
  (fun q acc=>some (acc,q)) (fun _ _ _=>rfl)
  (T:=fun bl n=>.ok bl n) (c':=List.map tL) (fun acc ha=>Bj.ret rfl (by unfold Sh;rw [List.length_map];omega)) F N [b] hF (by simp)
 exact Bj.congr this (fun n _=>(rr_bind_ok _).symm) (fun s=>rfl)
theorem rck1_cong (rc) (x:ByteArray × T8) (a b c d f t):Pref10_parser_choice_k1 N rc x a b c d f t=Pref10_parser_choice_k1 N rc (x.1,s0r) a b c d f t:=rfl
theorem tI_mk (k f t n a x b):tI ⟨k,f,t,n,a,x,b⟩=⟨k,f,t,n,a,x,b.map tL⟩:=by simp only [tI,tLL_map]
include hl in
theorem rbranches_bj {F:Nat} (hF:F < N) {block:Pm (List T10)} {rc} (hb:BR z l Tr tL (block l) (fun p=>Pref10_parser_block N rc p)) (who:ByteArray) (t:Int) :
  BR z l Tr tI (sBranches F block who t l) (fun q=>Pref10_parser_choice_k1 N rc (who,s0r) q.s' q.l' q.next' q.at' q.e' t):=by
 have h:BR z l Tr tI (fun n=>((block l n).bind fun b n=>sLoop (str [111,114]) block snoc F [b] l n).bind fun bl n=>sElse block who t bl l n) (fun q=>Pref10_parser_choice_k1 N rc (who,s0r) q.s' q.l' q.next' q.at' q.e' t):=by
  unfold Pref10_parser_choice_k1
  refine Bj.bind (sur_map sur_tL) (rblocks_bj hl z hF hb (str [111,114])) fun bl hbl=>?_
  dsimp only
  unfold Sh at hbl
  rw [List.length_map] at hbl
  unfold sElse
  cases decide (t > 0) with
  | false=>exact Bj.ret (tI_mk _ _ _ _ _ _ _) trivial
  | true =>
   refine BjU.bind (rwants_u hl z N (str [101,108,115,101])) ?_
   refine Bj.bind sur_tL hb fun b _=>?_
   dsimp only
   refine Bj.congr (Bj.ret (Gd:=Tr) (c:=tI) (b:=(⟨2,who,[],str [],str [],t,snoc bl b⟩:T10)) rfl trivial) (fun _ _=>rfl) (fun s=>?_)
   rw [appL_some (by simp;omega),bS,tI_mk]
   simp [snoc]
 exact Bj.congr h (fun n _=>by unfold sBranches;rw [rr_assoc]) (fun _=>rfl)
def rticksF (N:Nat) (q:T8):Option (Int × T8) :=
 (Pref10_parser_token N q).bind fun x=>bif (x.Kind==(2:Int)) then (bif (decide (x.Value < (1:Int))) then ((Pref10_parser_fail N q (2:Int)).bind fun y=>Pref10_parser_number N y)
  else bif (decide (x.Value > (1000:Int))) then ((Pref10_parser_fail N q (2:Int)).bind fun y=>Pref10_parser_number N y) else Pref10_parser_number N q) else Pref10_parser_number N q
include hl in
theorem rticks_bj (N:Nat):BR z l Tr id (sTicks l) (rticksF N):=by
 refine ⟨fun n hn=>?_,fun k c hc=>?_⟩
 ·have h1:=(rnum_bj hl z N).ok n hn
  obtain ⟨v,hv,_⟩:=(rnum_bj hl z N).st n 2 (by decide)
  unfold rticksF sTicks
  rw [(rnext_nx N z l).ok n,bS,rfail_ok,bS,hv]
  cases ((tk l n).Kind==2) with
  | false=>exact h1
  | true =>
   cases decide ((tk l n).Value < 1) with
   | true=>exact ⟨by decide,v,rfl,trivial⟩
   | false =>
    cases decide ((tk l n).Value > 1000) with
    | true=>exact ⟨by decide,v,rfl,trivial⟩
    | false=>exact h1
 ·unfold rticksF
  rw [(rnext_nx N z l).st k c hc]
  exact (rnum_bj hl z N).st k c hc
include hN hl hW in
theorem rchoice_bj {F:Nat} (hF:F < N) {block:Pm (List T10)} {rc} (hb:BR z l Tr tL (block l) (fun p=>Pref10_parser_block N rc p)):BR z l Tr tI (sChoice F block l) (fun p=>Pref10_parser_choice N rc p):=by
 have h:BR z l Tr tI (sChoice F block l) (fun p=>(Pref10_parser_want N p (str [97,116])).bind fun x1=>(Pref10_parser_word N x1).bind fun x2=>(Pref10_parser_eat N x2.2 (str [119,105,116,104,105,110])).bind fun x3 =>
   bif x3.1 then ((rticksF N x3.2).bind fun y=>Pref10_parser_choice_k1 N rc (x2.1,s0r) y.2.s' y.2.l' y.2.next' y.2.at' y.2.e' y.1)
   else Pref10_parser_choice_k1 N rc (x2.1,s0r) x3.2.s' x3.2.l' x3.2.next' x3.2.at' x3.2.e' 0):=by
  unfold sChoice
  refine BjU.bind (rwants_u hl z N (str [97,116])) ?_
  refine Bj.bind sur_id (rword_bj hN hl hW z) fun who _=>?_
  try dsimp only [id]
  refine Bj.takes (rtakes_tk hl z N (str [119,105,116,104,105,110])) (A:=fun m=>(sTicks l m).bind fun t n=>sBranches F block who t l n) ?_ ?_
  ·refine Bj.bind sur_id (rticks_bj hl z N) fun t _=>?_
   try dsimp only [id]
   exact rbranches_bj hl z hF hb who t
  ·exact rbranches_bj hl z hF hb who 0
 refine Bj.congr h (fun _ _=>rfl) (fun p=>?_)
 unfold Pref10_parser_choice
 congr 1;funext x1;congr 1;funext x2;congr 1;funext x3
 simp only [rck1_cong rc x2]
 cases x3.1
 ·rfl
 ·simp only [cT]
  unfold rticksF
  cases hn:Pref10_parser_token N x3.2 with
  | none=>rfl
  | some t =>
   simp only [bS]
   cases (t.Kind==2)
   ·rfl
   ·cases decide (t.Value < 1)
    ·cases decide (t.Value > 1000)
     ·rfl
     ·simp only [cT,cF,Option.bind_assoc]
    ·simp only [cT,Option.bind_assoc]
include hN hl hW in
theorem ritem_bj {F:Nat} (hF:F < N) {block:Pm (List T10)} {rc} (hb:BR z l Tr tL (block l) (fun p=>Pref10_parser_block N rc p)):BR z l Tr tI (sItem F block l) (fun p=>Pref10_parser_item_b N rc p):=by
 have h:BR z l Tr tI (fun n =>
   bif isT (str [99,104,111,105,99,101]) (tk l n) then sChoice F block l (n+1)
   else bif isT (str [108,111,111,112]) (tk l n) then (sPath F l (n+1)).bind fun nm n=>(block l n).bind fun b n=>.ok ⟨3,str [],[],nm,str [],0,[b]⟩ n
   else bif isT (str [97,103,97,105,110]) (tk l n) then (sPath F l (n+1)).bind fun nm n=>(sWants (str [59]) l n).bind fun _ n=>.ok ⟨4,str [],[],nm,str [],0,[]⟩ n
   else bif isT (str [112,97,114]) (tk l n) then (block l (n+1)).bind fun b n=>(sWants (str [97,110,100]) l n).bind fun _ n=>((block l n).bind fun c n=>sLoop (str [97,110,100]) block snoc F [c] l n).bind fun bl n=>.ok ⟨5,str [],[],str [],str [],0,b::bl⟩ n
   else bif isT (str [99,97,108,108]) (tk l n) then sCall F l (n+1)
   else sSend F l n) (fun p=>Pref10_parser_item_b N rc p):=by
  unfold Pref10_parser_item_b
  refine Bj.takes (rtakes_tk hl z N (str [99,104,111,105,99,101])) (A:=sChoice F block l) (Bj.congr (rchoice_bj hN hl hW z hF hb) (fun _ _=>rfl) (fun s=>pair_eta _)) ?_
  refine Bj.takes (rtakes_tk hl z N (str [108,111,111,112])) (A:=fun m=>(sPath F l m).bind fun nm n=>(block l n).bind fun b n=>.ok (⟨3,str [],[],nm,str [],0,[b]⟩:T10) n) ?_ ?_
  ·refine Bj.bind sur_id (rpath_bj hN hl hW z hF) fun nm _=>?_
   try dsimp only [id]
   refine Bj.bind sur_tL hb fun b _=>?_
   dsimp only
   exact Bj.ret (tI_mk _ _ _ _ _ _ _) trivial
  refine Bj.takes (rtakes_tk hl z N (str [97,103,97,105,110])) (A:=fun m=>(sPath F l m).bind fun nm n=>(sWants (str [59]) l n).bind fun _ n=>.ok (⟨4,str [],[],nm,str [],0,[]⟩:T10) n) ?_ ?_
  ·refine Bj.bind sur_id (rpath_bj hN hl hW z hF) fun nm _=>?_
   try dsimp only [id]
   refine BjU.bind (rwants_u hl z N (str [59])) ?_
   exact Bj.ret (tI_mk _ _ _ _ _ _ _) trivial
  refine Bj.takes (rtakes_tk hl z N (str [112,97,114])) (A:=fun m=>(block l m).bind fun b n=>(sWants (str [97,110,100]) l n).bind fun _ n=>((block l n).bind fun c n=>sLoop (str [97,110,100]) block snoc F [c] l n).bind fun bl n=>.ok (⟨5,str [],[],str [],str [],0,b::bl⟩:T10) n) ?_ ?_
  ·refine Bj.bind sur_tL hb fun b _=>?_
   dsimp only
   refine BjU.bind (rwants_u hl z N (str [97,110,100])) ?_
   refine Bj.bind (sur_map sur_tL) (rblocks_bj hl z hF hb (str [97,110,100])) fun bl hbl=>?_
   dsimp only
   unfold Sh at hbl
   rw [List.length_map] at hbl
   refine Bj.congr (Bj.ret (Gd:=Tr) (c:=tI) (b:=(⟨5,str [],[],str [],str [],0,b::bl⟩:T10)) rfl trivial) (fun _ _=>rfl) (fun s=>?_)
   rw [appL_some (by simp;omega),bS,tI_mk]
   simp
  refine Bj.takes (rtakes_tk hl z N (str [99,97,108,108])) (A:=sCall F l) ?_ ?_
  ·unfold sCall
   refine Bj.bind sur_id (rword_bj hN hl hW z) fun nm _=>?_
   try dsimp only [id]
   refine BjU.bind (rwants_u hl z N (str [40])) ?_
   refine Bj.bind sur_id (rwords_bj hN hl hW z hF) fun t _=>?_
   try dsimp only [id]
   refine BjU.bind (rwants_u hl z N (str [41])) ?_
   refine BjU.bind (rwants_u hl z N (str [97,115])) ?_
   refine Bj.bind sur_id (rword_bj hN hl hW z) fun a _=>?_
   try dsimp only [id]
   refine BjU.bind (rwants_u hl z N (str [59])) ?_
   exact Bj.ret (tI_mk _ _ _ _ _ _ _) trivial
  ·unfold sSend
   refine Bj.bind sur_id (rword_bj hN hl hW z) fun f _=>?_
   try dsimp only [id]
   refine BjU.bind (rwants_u hl z N (str [45,62])) ?_
   refine Bj.bind sur_id (rwords_bj hN hl hW z hF) fun t _=>?_
   try dsimp only [id]
   refine BjU.bind (rwants_u hl z N (str [58])) ?_
   refine Bj.bind sur_id (rpath_bj hN hl hW z hF) fun nm _=>?_
   try dsimp only [id]
   refine BjU.bind (rwants_u hl z N (str [59])) ?_
   exact Bj.ret (tI_mk _ _ _ _ _ _ _) trivial
 refine Bj.congr h (fun n _=>?_) (fun _=>rfl)
 unfold sItem
 cases isT (str [112,97,114]) (tk l n) with
 | false=>rfl
 | true =>
  have e:(fun (b:List T10) (n:Nat)=>(sWants (str [97,110,100]) l n).bind fun _ n=>(block l n).bind fun c n=>(sLoop (str [97,110,100]) block snoc F [b,c] l n).bind fun bl n=>Rr.ok (⟨5,str [],[],str [],str [],0,bl⟩:T10) n) =
    (fun (b:List T10) (n:Nat)=>(sWants (str [97,110,100]) l n).bind fun _ n=>((block l n).bind fun c n=>sLoop (str [97,110,100]) block snoc F [c] l n).bind fun bl n=>.ok (⟨5,str [],[],str [],str [],0,b::bl⟩:T10) n):=by
   funext b n
   congr 1;funext u m
   rw [rr_assoc]
   congr 1;funext c m
   rw [sLoop_cons,rr_assoc];rfl
  rw [e]
include hl hW hT in
theorem rit_bj:∀ (F N:Nat),F≤4194304→F+4194306 < N→BR z l Tr tI (sIt F l) (Pref10_parser_item N)
 | F,0,_,h=>by omega
 | 0,N+1,_,h=>by
  have hN:4194304 < N:=by omega
  have hb:BR z l Tr tL (sBlock (sItems 0) l) (fun p=>Pref10_parser_block N (Pref10_parser_item N) p) :=
   rblock_bj hl z (it:=fun l n=>.er n 3) (M:=0) (by omega) (by omega) (.inl rfl) (fun n _=>rfl)
  exact ritem_bj hN hl hW z (by omega) hb
 | F+1,N+1,hf,h=>by
  have hN:4194304 < N:=by omega
  have hb:BR z l Tr tL (sBlock (sItems (F+1)) l) (fun p=>Pref10_parser_block N (Pref10_parser_item N) p) :=
   rblock_bj hl z (it:=sIt F) (M:=F) (by omega) (by omega) (.inr (rit_bj F N (by omega) (by omega))) (fun n hn=>item_not hT hn)
  exact ritem_bj hN hl hW z (by omega) hb
theorem rpl2_cong (x:ByteArray × T8) (y:List ByteArray × T8) (ms:List T6):∀ n a b c d f acc,Pref10_parser_protocol_l2 N x y ms n a b c d f acc=Pref10_parser_protocol_l2 N (x.1,s0r) (y.1,s0r) ms n a b c d f acc
 | 0,_,_,_,_,_,_=>rfl
 | n+1,a,b,c,d,f,acc=>by simp only [Pref10_parser_protocol_l2,rpl2_cong x y ms n];rfl
theorem rpl4_cong (x:ByteArray × T8) (y:List ByteArray × T8):∀ n a b c d f acc,Pref10_parser_protocol_l4 N x y n a b c d f acc=Pref10_parser_protocol_l4 N (x.1,s0r) (y.1,s0r) n a b c d f acc
 | 0,_,_,_,_,_,_=>rfl
 | n+1,a,b,c,d,f,acc=>by simp only [Pref10_parser_protocol_l4,rpl4_cong x y n,Pref10_parser_protocol_k3,rpl2_cong x y]
include hl hW hT in
theorem rbody_bj {F:Nat} (hF:F≤4194304) (hN:F+4194306 < N) (nm:ByteArray) (rs:List ByteArray) (ms:List T11) :
  BR z l Tr tP (fun n=>(sItems F l n).bind fun b n=>(sWants (str [125]) l n).bind fun _ n=>.ok (⟨nm,rs,ms,b⟩:T12) n)
   (fun q=>Pref10_parser_protocol_l2 N (nm,s0r) (rs,s0r) (ms.map tM) N q.s' q.l' q.next' q.at' q.e' []):=by
 have hst:∀ N' (acc:List T5),0 < N'→∀ (k:Nat) c,c≠0→∃ a,Pref10_parser_protocol_l2 N (nm,s0r) (rs,s0r) (ms.map tM) N' z l k (off l (z.size:Int) k) c acc=some (a,erR z l k c)∧Tr a:=by
  intro N' acc hN' k c hc
  obtain ⟨n,rfl⟩:∃ m,N'=m+1:=⟨N'-1,by omega⟩
  refine ⟨⟨nm,rs,ms.map tM,acc⟩,?_,trivial⟩
  ·simp only [Pref10_parser_protocol_l2]
   rw [show (c==(0:Int))=false by simp [hc],cF]
   show (Pref10_parser_want N (erR z l k c) (str [125])).bind _=_
   rw [(rwants_u hl z N (str [125])).st k c hc];rfl
 have key:∀ (G M N':Nat) (acc:List T10) (n:Nat),M < N'→M≤4194304→G+4194306 < N→G≤4194304→acc.length+M≤4200000→n≤l.length →
   Ot l (okR z l) (erR z l) Tr tP n ((sList (sIt G) M acc l n).bind fun x n=>(sWants (str [125]) l n).bind fun _ n=>.ok (⟨nm,rs,ms,x⟩:T12) n) (Pref10_parser_protocol_l2 N (nm,s0r) (rs,s0r) (ms.map tM) N' z l n 0 0 (acc.map tI)):=by
  intro G M
  induction M with
  | zero=>intro N' acc n _ _ _ _ _ _;trivial
  | succ M ih =>
   intro N' acc n h1 h0 hG hG2 h2 h3
   obtain ⟨N',rfl⟩:∃ m,N'=m+1:=⟨N'-1,by omega⟩
   have hrc:=rit_bj hl hW hT z G N hG2 hG
   simp only [Pref10_parser_protocol_l2]
   rw [show ((0:Int)==0)=true from rfl,cT]
   show Ot l _ _ Tr tP n _ ((Pref10_parser_is N (okR z l n) (str [125])).bind _)
   rw [(rsees_is N z l (str [125])).ok n,bS]
   simp only [sList]
   have hw:=(rwants_u hl z N (str [125])).ok n h3
   unfold sWants at hw
   cases hb:isT (str [125]) (tk l n) with
   | true =>
    rw [brace_beg hb]
    rw [hb] at hw
    show Ot l _ _ Tr tP n ((sWants (str [125]) l n).bind _) ((Pref10_parser_want N (okR z l n) (str [125])).bind _)
    unfold sWants
    rw [hb,hw.1]
    exact ⟨by simp only [tP,tL_map];rfl,trivial,Nat.le_succ n,isT_lt hb⟩
   | false =>
    simp only [Bool.not_false,cT]
    show Ot l _ _ Tr tP n _ ((Pref10_parser_item N (okR z l n)).bind _)
    have h4:=hrc.ok n h3
    cases hi:begT (tk l n) with
    | false =>
     rw [show sIt G l n=.er n 3 from item_not hT hi] at h4
     obtain ⟨hc,a,e1,_⟩:=h4
     show Ot l _ _ Tr tP n ((sWants (str [125]) l n).bind _) _
     unfold sWants
     rw [hb]
     refine ⟨by decide,?_⟩
     rw [e1,bS,appL_some (by simp;omega),bS]
     exact hst N' _ (by omega) n 3 (by decide)
    | true =>
     simp only [cT]
     cases hp:sIt G l n with
     | ok b m =>
      rw [hp] at h4
      obtain ⟨e1,_,h5,h6⟩:=h4
      rw [e1,bS,appL_some (by simp;omega),bS]
      have:=ih N' (snoc acc b) m (by omega) (by omega) hG hG2 (by simp [snoc];omega) h6
      have e2:(snoc acc b).map tI=acc.map tI++[tI b]:=by simp [snoc]
      rw [e2] at this
      exact this.le _ _ _ h5
     | er k c =>
      rw [hp] at h4
      obtain ⟨hc,a,e1,_⟩:=h4
      refine ⟨hc,?_⟩
      rw [e1,bS,appL_some (by simp;omega),bS]
      exact hst N' _ (by omega) k c hc
     | out=>trivial
 refine ⟨fun n hn=>?_,fun k c hc=>hst N [] (by omega) k c hc⟩
 cases F with
 | zero=>trivial
 | succ F=>exact key F F N [] n (by omega) (by omega) (by omega) (by omega) (by simp;omega) hn
include hl hW hT in
theorem rprotocol_bj {F:Nat} (hF:F≤4194304) (hN:F+4194306 < N):BR z l Tr tP (sProtocol F l) (Pref10_parser_protocol N):=by
 have hN1:4194304 < N:=by omega
 have hFN:F < N:=by omega
 have h:BR z l Tr tP (sProtocol F l) (fun p=>(Pref10_parser_want N p (str [112,114,111,116,111,99,111,108])).bind fun x1=>(Pref10_parser_word N x1).bind fun x2=>(Pref10_parser_want N x2.2 (str [40])).bind fun x3 =>
   (Pref10_parser_words N x3).bind fun x4=>(Pref10_parser_want N x4.2 (str [41])).bind fun x5=>(Pref10_parser_want N x5 (str [123])).bind fun x6 =>
   Pref10_parser_protocol_l4 N (x2.1,s0r) (x4.1,s0r) N x6.s' x6.l' x6.next' x6.at' x6.e' ([]:List T6)):=by
  unfold sProtocol
  refine BjU.bind (rwants_u hl z N (str [112,114,111,116,111,99,111,108])) ?_
  refine Bj.bind sur_id (rword_bj hN1 hl hW z) fun nm _=>?_
  try dsimp only [id]
  refine BjU.bind (rwants_u hl z N (str [40])) ?_
  refine Bj.bind sur_id (rwords_bj hN1 hl hW z hFN) fun rs _=>?_
  try dsimp only [id]
  refine BjU.bind (rwants_u hl z N (str [41])) ?_
  refine BjU.bind (rwants_u hl z N (str [123])) ?_
  have:=Bj.loop (Gd':=Tr) sur_tM hl (rtakes_tk hl z N (str [109,101,115,115,97,103,101])) (rmessage_bj hN1 hl hW hT z hFN) (fun n q acc=>Pref10_parser_protocol_l4 N (nm,s0r) (rs,s0r) n q.s' q.l' q.next' q.at' q.e' acc)
   (fun q acc=>Pref10_parser_protocol_l2 N (nm,s0r) (rs,s0r) acc N q.s' q.l' q.next' q.at' q.e' []) (fun _ _ _=>rfl)
   (T:=fun ms n=>(sItems F l n).bind fun b n=>(sWants (str [125]) l n).bind fun _ n=>.ok (⟨nm,rs,ms,b⟩:T12) n) (c':=tP) (fun acc _=>rbody_bj hl hW hT z hF hN nm rs acc) F N [] hFN (by simp)
  exact Bj.congr this (fun n _=>rfl) (fun s=>rfl)
 refine Bj.congr h (fun _ _=>rfl) (fun p=>?_)
 unfold Pref10_parser_protocol
 congr 1;funext x1;congr 1;funext x2;congr 1;funext x3;congr 1;funext x4;congr 1;funext x5;congr 1;funext x6
 exact rpl4_cong x2 x4 _ _ _ _ _ _ _
include hl hW hT in
theorem rparse_loop {F:Nat} (hF:F≤4194304) (hN:F+4194306 < N) (x:List Tok × Int × Int) (hx:x.1=l):∀ (G N':Nat) (acc:List T12) (n:Nat),G < N'→acc.length+G≤4200000→n≤l.length →
  match sParse F G acc l n with
  | .ok ps m=>ref10_Parse_l2 N x N' z l n 0 0 (acc.map tP)=ref10_Parse_k1 N z l m 0 0 (ps.map tP)
  | .er k c=>c≠0∧∃ ps,ref10_Parse_l2 N x N' z l n 0 0 (acc.map tP)=ref10_Parse_k1 N z l k (off l (z.size:Int) k) c ps
  | .out=>True
 | 0,_,_,_,_,_,_=>trivial
 | G+1,0,_,_,h,_,_=>by omega
 | G+1,N'+1,acc,n,h,h1,h2=>by
  simp only [sParse,ref10_Parse_l2,hx]
  rw [show ((0:Int)==0)=true from rfl,cT]
  rcases Nat.lt_or_ge n l.length with hn | hn
  ·rw [dT hn,lt_t hn,cT,cT]
   have h4:=(rprotocol_bj hl hW hT z hF hN).ok n h2
   have e0:(⟨z,l,(n:Int),0,0⟩:T8)=okR z l n:=rfl
   rw [e0]
   cases hp:sProtocol F l n with
   | ok b m =>
    rw [hp] at h4
    obtain ⟨e1,_,h5,h6⟩:=h4
    rw [e1,bS,appL_some (by simp;omega),bS]
    have:=rparse_loop hF hN x hx G N' (snoc acc b) m (by omega) (by simp [snoc];omega) h6
    have e2:(snoc acc b).map tP=acc.map tP++[tP b]:=by simp [snoc]
    rw [e2] at this
    exact this
   | er k c =>
    rw [hp] at h4
    obtain ⟨hc,a,e1,_⟩:=h4
    refine ⟨hc,acc.map tP++[a],?_⟩
    rw [e1,bS,appL_some (by simp;omega),bS]
    obtain ⟨N',rfl⟩:∃ m,N'=m+1:=⟨N'-1,by omega⟩
    show ref10_Parse_l2 N x (N'+1) z l k (off l (z.size:Int) k) c (acc.map tP++[a])=_
    simp only [ref10_Parse_l2]
    rw [show (c==(0:Int))=false by simp [hc]]
    rfl
   | out=>trivial
  ·rw [dF (by omega),lt_f hn,cF,cF]
end Gp
end
section
namespace Gp
open Go Go.Kx Gx
def blankB (c:UInt8):Bool:=c==32 || (c==9 || (c==10 || c==13))
def skW:Bool→List UInt8→Nat
 | _,[]=>0
 | false,c::l=>bif blankB c then skW false l+1 else bif (c==47 && l.head? == some 47) then skW true l+1 else 0
 | true,c::l=>bif c==10 then skW false l+1 else skW true l+1
def innB (c:UInt8):Bool:=innerV (c.toNat:Int)
def digB (c:UInt8):Bool:=decide (48≤(c.toNat:Int)) && decide ((c.toNat:Int)≤57)
def letB (c:UInt8):Bool:=letterV (c.toNat:Int)
inductive Lx where
 | ok (k:Int) (tx:List UInt8) (v:Int) (n:Nat)
 | er (e:Int)
def valD (d:List UInt8):Int:=d.foldl (fun v c=>10 * v+((c.toNat:Int)-48)) 0
def badB (c:UInt8):Bool:=decide ((c.toNat:Int) < 32) || decide ((c.toNat:Int) > 126)
def txtB:List UInt8→Option (List UInt8 × Nat)
 | []=>none
 | [c]=>bif c==34 then some ([],1) else none
 | c::d::l=>bif c==34 then some ([],1) else bif c==92 then (bif (d==34 || d==92) then (txtB l).map fun x=>(d::x.1,x.2+2) else none)
  else bif badB c then none else (txtB (d::l)).map fun x=>(c::x.1,x.2+1)
def marks2:List (List UInt8):=[[45,62],[46,46],[60,61],[62,61],[61,61],[33,61],[38,38],[124,124]]
def marks1:List UInt8:=[40,41,123,125,44,59,58,46,43,45,42,47,37,60,62,61,33]
def numK (d r:List UInt8) (h:Option UInt8):Lx:=bif r.head?.any innB then .er 3 else bif (decide (d.length > 6) || (decide (d.length > 1) && h==some 48)) then .er 2 else .ok 2 [] (valD d) d.length
def numB (s:List UInt8):Lx:=numK (s.takeWhile digB) (s.drop (s.takeWhile digB).length) s.head?
def tokB (s:List UInt8):Lx :=
 match s with
 | []=>.er 3
 | c::l =>
  bif letB c then (bif decide ((l.takeWhile innB).length+1 > 16) then .er 6 else .ok 1 (c::l.takeWhile innB) 0 ((l.takeWhile innB).length+1))
  else bif digB c then numB (c::l)
  else bif c==34 then (match txtB l with
   | none=>.er 3
   | some (t,n)=>bif decide (t.length > 40) then .er 6 else .ok 3 t 0 (n+1))
  else bif (decide (l≠[]) && marks2.any fun m=>m==(c::l).take 2) then .ok 4 ((c::l).take 2) 0 2
  else bif marks1.any fun m=>m==c then .ok 4 [c] 0 1 else .er 3
def lexL:Nat→List UInt8→Nat→Sum (Nat × Int) (List Tok)
 | 0,_,_=>.inl (0,99)
 | F+1,s,a =>
  match s.drop (skW false s) with
  | []=>.inr []
  | c::l=>match tokB (c::l) with
   | .er e=>.inl (a+skW false s,e)
   | .ok k tx v n=>match lexL F ((c::l).drop n) (a+skW false s+n) with
    | .inl x=>.inl x
    | .inr ts=>.inr (⟨k,mkB tx,v,((a+skW false s:Nat):Int)⟩::ts)
theorem skW_le:∀ (b:Bool) (l:List UInt8),skW b l≤l.length
 | true,[]=>by simp [skW]
 | false,[]=>by simp [skW]
 | false,c::l=>by
  have h1:=skW_le false l;have h2:=skW_le true l
  simp only [skW,List.length_cons]
  cases blankB c
  ·cases (c==47 && l.head? == some 47)<;>simp<;>omega
  ·simp;omega
 | true,c::l=>by
  have h1:=skW_le false l;have h2:=skW_le true l
  simp only [skW,List.length_cons]
  cases (c==10)<;>simp<;>omega
variable {N:Nat} (hN:4194304 < N)
theorem u8_eq {c:UInt8} {n:Nat} (hn:n < 256):((c.toNat:Int)==(n:Int))=(c==UInt8.ofNat n):=by
 rw [Bool.eq_iff_iff,beq_iff_eq,beq_iff_eq]
 constructor
 ·intro h
  apply UInt8.toNat_inj.mp
  rw [UInt8.toNat_ofNat']
  omega
 ·rintro rfl
  rw [UInt8.toNat_ofNat']
  omega
theorem contRune (k:Nat):((List.range 256).all fun r=>z98 (k+5) (str [32,9,10,13]) (wk .i32 (r:Int))==some (blankB (UInt8.ofNat r)))=true:=by kernel_rfl
include hN in
theorem contRune_eq (c:UInt8):z98 N (str [32,9,10,13]) (wk .i32 (c.toNat:Int))=some (blankB c):=by
 obtain ⟨k,rfl⟩:∃ k,N=k+5:=⟨N-5,by omega⟩
 have:=List.all_eq_true.1 (contRune k) c.toNat (List.mem_range.2 c.toNat_lt)
 rw [beq_iff_eq] at this
 rw [this]
 congr 2
 exact UInt8.ofNat_toNat
theorem skW_none:∀ l:List UInt8,l.count 10=0→skW true l=l.length
 | [],_=>rfl
 | c::l,h=>by
  rw [List.count_cons] at h
  have hc:(c==10)=false:=by
   cases hb:(c==10) with
   | false=>rfl
   | true=>rw [hb] at h;simp at h
  simp only [skW,hc,cF,List.length_cons]
  rw [skW_none l (by omega)]
theorem skW_some:∀ (p q:List UInt8),p.count 10=0→skW true (p++10::q)=p.length+1+skW false q
 | [],q,_=>by
  simp only [List.nil_append,skW,List.length_nil]
  rw [show ((10:UInt8)==10)=true from rfl,cT]
  omega
 | c::p,q,h=>by
  rw [List.count_cons] at h
  have hc:(c==10)=false:=by
   cases hb:(c==10) with
   | false=>rfl
   | true=>rw [hb] at h;simp at h
  rw [List.cons_append]
  simp only [skW,hc,cF,List.length_cons]
  rw [skW_some p q (by omega)]
  omega
theorem firstB_eq (s:ByteArray):firstB s 10=Go.Lib.indexByte (bs s) 10:=Go.Lib.firstIdx_eq s 10
theorem hasPre (s:ByteArray) (a b:UInt8) (hs:s.size≤4194304):z99 N s (str [a,b])=some ((bs s).take 2==[a,b]):=by
 unfold z99 z147
 have h2:(str [a,b]).size=2:=rfl
 rw [h2]
 by_cases h:2≤s.size
 ·rw [show decide ((s.size:Int)≥((2:Nat):Int))=true by simp;omega,cT]
  rw [size_bs] at h
  rw [ssl_to (x:=(bs s).take 2) (y:=(bs s).drop 2) (List.take_append_drop _ _).symm (by simp;omega)]
  simp only [bS]
  rw [toList_bs,toList_bs,bs_mkB]
  rfl
 ·rw [show decide ((s.size:Int)≥((2:Nat):Int))=false by simp;omega,cF]
  rw [size_bs] at h
  simp only [bS]
  congr 1
  symm
  rw [beq_eq_false_iff_ne]
  intro h3
  have:=congrArg List.length h3
  simp at this;omega
theorem bs_from {s:ByteArray} {x y:List UInt8} (h:bs s=x++y):ssl s (some (x.length:Int)) none=some (mkB y):=ssl_from h rfl
include hN in
theorem skip_eq (s:ByteArray) (hs:s.size≤200000) (a0:Int):∀ (n:Nat) (x y:List UInt8) (a:Nat),y.length < n→bs s=x++y→x.length=a →
  z50_l2 N ⟨s,a0⟩ n (a:Int)=some ⟨s,((a+skW false y:Nat):Int)⟩:=by
 intro n
 induction n with
 | zero=>intro x y a h;omega
 | succ n ih =>
  intro x y a hn he ha
  subst ha
  have hsz:s.size=x.length+y.length:=by rw [size_bs,he];simp
  unfold z50_l2
  cases y with
  | nil =>
   rw [show decide ((x.length:Int) < (((⟨s,a0⟩:T3).s').size:Int))=false by show decide ((x.length:Int) < (s.size:Int))=false;simp at hsz;simp;omega]
   rfl
  | cons c l =>
   rw [show decide ((x.length:Int) < (((⟨s,a0⟩:T3).s').size:Int))=true by show decide ((x.length:Int) < (s.size:Int))=true;simp at hsz;simp;omega]
   show (ssl s (some (x.length:Int)) none).bind _=_
   rw [bs_from he,bS,show sidx (mkB (c::l)) 0=some (c.toNat:Int) by rw [show (0:Int)=((0:Nat):Int) from rfl,sidx_bs,bs_mkB];rfl,bS,contRune_eq hN c,bS]
   simp only [skW]
   simp only [List.length_cons] at hsz hn
   cases hb:blankB c with
   | true =>
    rw [cT,cT,w64_succ (by omega)]
    rw [ih (x++[c]) l (x.length+1) (by omega) (by rw [he];simp) (by simp)]
    congr 3;omega
   | false =>
    rw [cF,cF,hasPre _ 47 47 (by rw [size_bs,bs_mkB];simp;omega),bS,bs_mkB]
    cases l with
    | nil =>
     rw [show (List.take 2 [c]==[(47:UInt8),47])=false by rw [beq_eq_false_iff_ne];simp]
     simp
    | cons d l =>
     have e2:(List.take 2 (c::d::l)==[(47:UInt8),47])=(c==47 && (d::l).head? == some 47):=by
      rw [Bool.eq_iff_iff,beq_iff_eq,Bool.and_eq_true,beq_iff_eq,beq_iff_eq]
      simp
     rw [e2]
     cases hc:(c==47 && (d::l).head? == some 47) with
     | false=>rfl
     | true =>
      rw [cT,cT]
      have h47:c=47:=by rw [Bool.and_eq_true,beq_iff_eq] at hc;exact hc.1
      unfold z100 z148
      rw [bS,bS,firstB_eq,bs_mkB]
      have hcount:(c::d::l).count 10=(d::l).count 10:=by rw [h47,List.count_cons];rfl
      by_cases h0:(d::l).count 10=0
      ·rw [indexB_none (by rw [hcount];exact h0)]
       rw [show decide ((-1:Int) < 0)=true from rfl,cT,skW_none _ h0]
       have e3:w64 ((x.length:Int)+w64 (w64 (((mkB (c::d::l)).size:Int)-1)+1))=((x.length+((d::l).length+1):Nat):Int):=by
        rw [size_bs,bs_mkB]
        simp only [List.length_cons] at hsz ⊢
        rw [w64_id (n:=(((l.length+1+1:Nat):Int)-1)) (by omega) (by omega),w64_id (n:=(((l.length+1+1:Nat):Int)-1+1)) (by omega) (by omega),w64_id (by omega) (by omega)]
        omega
       rw [e3]
       rw [ih (bs s) [] (x.length+((d::l).length+1)) (by simp;omega) (by simp) (by rw [he];simp)]
       rfl
      ·obtain ⟨p,q,hp,hp0,hi⟩:=indexB_some (l:=c::d::l) (c:=10) (by rw [hcount];omega)
       rw [hi,show decide ((p.length:Int) < 0)=false by simp,cF]
       cases p with
       | nil=>simp at hp;rw [h47] at hp;exact absurd hp.1 (by decide)
       | cons c' p =>
        rw [List.cons_append] at hp
        injection hp with hp1 hp2
        have hp0':p.count 10=0:=by rw [List.count_cons] at hp0;omega
        rw [hp2,skW_some p q hp0']
        have hlen:=congrArg List.length hp2
        simp only [List.length_cons,lA] at hlen hsz ⊢
        rw [w64_id (n:=(((p.length+1:Nat):Int)+1)) (by omega) (by omega),w64_id (by omega) (by omega)]
        have e4:(x.length:Int)+(((p.length+1:Nat):Int)+1)=((x.length+(p.length+2):Nat):Int):=by omega
        rw [e4,ih (x++(c::p++[10])) q (x.length+(p.length+2)) (by simp only [List.length_cons] at hn;omega) (by rw [he,hp2];simp) (by simp)]
        congr 3;omega
end Gp
end
