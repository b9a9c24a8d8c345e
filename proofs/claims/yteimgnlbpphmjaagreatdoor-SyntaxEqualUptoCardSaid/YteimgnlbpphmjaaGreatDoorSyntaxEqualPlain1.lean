/- The plain law, part 1: what the functions compute answers as the statement says. -/
import Derived.Lib.Bytealg
import Derived.Test.YteimgnlbpphmjaaGreatDoorSyntaxEqualPure
set_option linter.all false
section
section
namespace Gp
open Go Go.Kx
theorem dF {p:Prop} [Decidable p] (h:¬p):decide p=false:=decide_eq_false h
theorem dT {p:Prop} [Decidable p] (h:p):decide p=true:=decide_eq_true h
theorem bS {α β:Type _} (a:α) (f:α→Option β):(some a).bind f=f a:=rfl
theorem cF {α:Sort _} {a b:α}:(bif false then a else b)=b:=rfl
theorem cT {α:Sort _} {a b:α}:(bif true then a else b)=a:=rfl
theorem aA {α:Type _} (a b c:List α):(a++b)++c=a++(b++c):=List.append_assoc a b c
theorem lA {α:Type _} {a b:List α}:(a++b).length=a.length+b.length:=List.length_append
theorem w64_id {n:Int} (h1:-9223372036854775808≤n) (h2:n≤9223372036854775807):w64 n=n:=by
 show IntKind.i64.wrap n=n
 simp [IntKind.wrap,IntKind.signed,IntKind.bits]
 omega
theorem w64_succ {n:Nat} (h:n < 4611686018427387904):w64 ((n:Int)+1)=((n+1:Nat):Int):=by rw [w64_id (by omega) (by omega)];omega
theorem idx_nat {α:Type} (xs:List α) (k:Nat):idx xs (k:Int)=xs[k]? := by
 unfold idx
 have:decide (0≤(k:Int))=true:=by simp
 rw [this];simp
theorem idx_int {α:Type} {xs:List α} {i:Int} {k:Nat} (h:i=k):idx xs i=xs[k]? := by rw [h,idx_nat]
theorem setL'_nat {α:Type} (xs:List α) (k:Nat) (e:α):setL' xs (k:Int) e=xs.set k e:=by unfold setL';simp
theorem setL'_int {α:Type} {xs:List α} {i:Int} {k:Nat} (h:i=k) (e:α):setL' xs i e=xs.set k e:=by rw [h,setL'_nat]
theorem get_mid {α:Type} (A:List α) (x:α) (B:List α) {k:Nat} (h:A.length=k):(A++x::B)[k]? = some x:=by
 subst h;simp
theorem set_mid {α:Type} (A:List α) (x y:α) (B:List α) {k:Nat} (h:A.length=k):(A++x::B).set k y=A++y::B:=by
 subst h;simp
theorem idx_mid {α:Type} {L A:List α} {x:α} {B:List α} {i:Int} (hL:L=A++x::B) (h:i=(A.length:Int)):idx L i=some x:=by
 rw [idx_int h,hL];exact get_mid A x B rfl
theorem setL'_mid {α:Type} {L A:List α} {x:α} {B:List α} {i:Int} (hL:L=A++x::B) (h:i=(A.length:Int)) (y:α):setL' L i y=A++y::B:=by
 rw [setL'_int h,hL];exact set_mid A x y B rfl
theorem appL_some {α:Type} {xs ys:List α} (h:xs.length+ys.length≤4294967296):appL xs ys=some (xs++ys):=by
 unfold appL
 have:Nat.ble (xs.length+ys.length) lim=true:=Nat.ble_eq_true_of_le h
 rw [this];rfl
theorem drop_cons {α:Type} {xs:List α} {k:Nat} {x:α} {l:List α} (h:xs.drop k=x::l):k < xs.length∧xs[k]? = some x∧xs.drop (k+1)=l:=by
 have hlt:k < xs.length:=by
  rcases Nat.lt_or_ge k xs.length with h' | h'
  ·exact h'
  ·rw [List.drop_eq_nil_of_le h'] at h;cases h
 rw [List.drop_eq_getElem_cons hlt] at h
 simp only [List.cons.injEq] at h
 exact ⟨hlt,by rw [List.getElem?_eq_getElem hlt,h.1],h.2⟩
theorem drop_nil {α:Type} {xs:List α} {k:Nat} (h:xs.drop k=[]):xs.length≤k:=by simpa using h
def lv {α γ:Type} (b:α→Nat→γ→γ) (e:γ):List α→Nat→γ
 | [],_=>e
 | x::l,k=>b x k (lv b e l (k+1))
theorem lv_of {α γ:Type} (xs:List α) (F:Nat→Int→γ) (b:α→Nat→γ→γ) (e:γ)
  (h1:∀ n k x,k < xs.length→xs[k]? = some x→F (n+1) (k:Int)=b x k (F n ((k+1:Nat):Int)))
  (h2:∀ n k,xs.length≤k→F (n+1) (k:Int)=e) :
  ∀ (l:List α) (k n:Nat),xs.drop k=l→l.length < n→F n (k:Int)=lv b e l k:=by
 intro l
 induction l with
 | nil =>
  intro k n h hn
  obtain ⟨n,rfl⟩:∃ m,n=m+1:=⟨n-1,by simp at hn;omega⟩
  exact h2 n k (drop_nil h)
 | cons x l ih =>
  intro k n h hn
  obtain ⟨n,rfl⟩:∃ m,n=m+1:=⟨n-1,by simp at hn;omega⟩
  obtain ⟨a,c,d⟩:=drop_cons h
  rw [h1 n k x a c,ih (k+1) n d (by simp at hn;omega)];rfl
theorem lv_from {α γ:Type} {xs:List α} {F:Nat→Int→γ} {b:α→Nat→γ→γ} {e:γ} {n:Nat} {i:Int} (hn:xs.length < n) (hi:i=((0:Nat):Int))
  (h1:∀ n k x,k < xs.length→xs[k]? = some x→F (n+1) (k:Int)=b x k (F n ((k+1:Nat):Int)))
  (h2:∀ n k,xs.length≤k→F (n+1) (k:Int)=e):F n i=lv b e xs 0:=by
 rw [hi];exact lv_of xs F b e h1 h2 xs 0 n rfl hn
theorem lt_t {k n:Nat} (h:k < n):decide ((k:Int) < (n:Int))=true:=by simp [h]
theorem lt_f {k n:Nat} (h:n≤k):decide ((k:Int) < (n:Int))=false:=by simp;omega
end Gp
end
section
namespace Gp
open Go Go.Kx
def Lt {α:Type} (K:α→Int) (r:α→α→Prop) (x y:α):Prop:=K x < K y∨(K x=K y∧r x y)
def Srt {α:Type} (K:α→Int) (r:α→α→Prop) (l:List α):Prop:=l.Pairwise (Lt K r)
variable {α:Type} {K:α→Int} {r:α→α→Prop}
theorem get_at {L A:List α} {x:α} {B:List α} {k:Nat} (hL:L=A++x::B) (h:A.length=k):L[k]? = some x:=by rw [hL];exact get_mid A x B h
inductive Bk (K:α→Int) (r:α→α→Prop) (n:Nat):List α→List α→Prop
 | last (o c:List α):c.length≤n→c.Perm o→Srt K r c→Bk K r n o c
 | cons (o1 c1 o2 c2:List α):c1.length=n→c1.Perm o1→Srt K r c1→Bk K r n o2 c2→Bk K r n (o1++o2) (c1++c2)
theorem Bk.few {n:Nat} {o c:List α} (h:Bk K r n o c) (hn:0 < n) (hc:c.length < 2 * n) :
  (c.length≤n∧c.Perm o∧Srt K r c)∨∃ o1 o2 c1 c2,o=o1++o2∧c=c1++c2∧c1.length=n∧0 < c2.length∧c2.length≤n∧c1.Perm o1∧c2.Perm o2∧Srt K r c1∧Srt K r c2:=by
 cases h with
 | last _ _ h1 h2 h3=>exact .inl ⟨h1,h2,h3⟩
 | cons o1 c1 o2 c2 h1 h2 h3 h4 =>
  cases h4 with
  | last _ _ g1 g2 g3 =>
   rcases Nat.eq_zero_or_pos c2.length with h0 | h0
   ·have:c2=[]:=List.length_eq_zero_iff.mp h0
    subst this
    have:o2=[]:=by simpa using g2.symm
    subst this
    exact .inl ⟨by simp;omega,by simpa using h2,by simpa using h3⟩
   ·exact .inr ⟨o1,o2,c1,c2,rfl,rfl,h1,h0,g1,h2,g2,h3,g3⟩
  | cons p1 d1 p2 d2 g1 g2 g3 g4=>simp at hc;omega
theorem Bk.all {n:Nat} {o c:List α} (h:Bk K r n o c) (hn:0 < n) (hc:c.length≤n):c.Perm o∧Srt K r c:=by
 rcases h.few hn (by omega) with h | ⟨o1,o2,c1,c2,h1,h2,h3,h4,_⟩
 ·exact h.2
 ·subst h2;simp at hc;omega
end Gp
end
section
namespace Gp
open Go Go.Kx Gx
theorem look {α γ:Type} (xs:List α) (hs:xs.length≤4194304) (b:α→Int→γ→γ) (F:Nat→Int→γ) (e:γ) {n:Nat} (hn:4194304 < n)
  (h1:∀ n k x,k < xs.length→xs[k]? = some x→F (n+1) (k:Int)=b x k (F n (w64 ((k:Int)+1))))
  (h2:∀ n k,xs.length≤k→F (n+1) (k:Int)=e):F n (0:Int)=lv (fun x (k:Nat) r=>b x (k:Int) r) e xs 0 :=
 lv_from (by omega) rfl (fun n k x hk hx=>by rw [h1 n k x hk hx,w64_succ (by omega)]) h2
def eqStr (a b:ByteArray):Bool:=a.toList==b.toList
variable {N:Nat} (hN:4194304 < N)
end Gp
end
section
namespace Gp
open Go Go.Kx Gx
variable {N:Nat} (hN:4194304 < N)
def whereV {α:Type} (f:α→Bool) (l:List α):Option Int:=lv (fun x (k:Nat) r=>bif f x then some (k:Int) else r) (some (-1)) l 0
theorem bcomm (a b:ByteArray):(a.toList==b.toList)=(b.toList==a.toList):=by
 rw [Bool.eq_iff_iff,beq_iff_eq,beq_iff_eq];exact ⟨Eq.symm,Eq.symm⟩
include hN in
theorem Index_eq (l:List ByteArray) (hl:l.length≤4194304) (v:ByteArray):z126 N l v=whereV (fun x=>eqStr x v) l:=by
 unfold z126 whereV
 refine look l hl (fun x k r=>bif eqStr x v then some k else r) (z126_l2 l v) _ hN ?_ ?_
 ·intro n k x hk hx
  simp only [z126_l2,lt_t hk,idx_nat,hx,cT,bS,eqStr,bcomm v x]
 ·intro n k hk
  simp only [z126_l2,lt_f hk,cF,z126_k1]
end Gp
end
section
namespace Gp
open Go Go.Kx Gx
theorem lsl_to {α:Type} {L A B:List α} {i:Int} (hL:L=A++B) (hi:i=(A.length:Int)):lsl L none (some i)=some A:=by
 subst hL hi
 have h:decide ((A.length:Int)≤((A++B).length:Int))=true:=by simp;omega
 have h2:decide ((0:Int)≤(A.length:Int))=true:=by simp
 unfold lsl bnd
 simp only [Option.getD_some,Option.getD_none,h,h2]
 simp
end Gp
end
section
namespace Gp
open Go Go.Kx Gx
def allV {α:Type} (p:α→Nat→Bool):List α→Nat→Bool
 | [],_=>true
 | x::l,k=>p x k && allV p l (k+1)
theorem allV_of {α:Type} (p:α→Nat→Bool) (xs:List α) (F:Nat→Int→Option Bool) (e:Option Bool)
  (h1:∀ n k x,k < xs.length→xs[k]? = some x→F (n+1) (k:Int)=bif p x k then F n ((k+1:Nat):Int) else some false)
  (h2:∀ n k,xs.length≤k→F (n+1) (k:Int)=e) :
  ∀ (l:List α) (k n:Nat),xs.drop k=l→l.length < n→F n (k:Int)=bif allV p l k then e else some false:=by
 intro l
 induction l with
 | nil =>
  intro k n h hn
  obtain ⟨n,rfl⟩:∃ m,n=m+1:=⟨n-1,by simp at hn;omega⟩
  exact h2 n k (drop_nil h)
 | cons x l ih =>
  intro k n h hn
  obtain ⟨n,rfl⟩:∃ m,n=m+1:=⟨n-1,by simp at hn;omega⟩
  obtain ⟨a,c,d⟩:=drop_cons h
  rw [h1 n k x a c,ih (k+1) n d (by simp at hn;omega)]
  show _=bif (p x k && allV p l (k+1)) then e else some false
  cases p x k<;>rfl
theorem allV_from {α:Type} (p:α→Nat→Bool) {xs:List α} {F:Nat→Int→Option Bool} {e:Option Bool} {n:Nat} (hn:xs.length < n)
  (h1:∀ n k x,k < xs.length→xs[k]? = some x→F (n+1) (k:Int)=bif p x k then F n ((k+1:Nat):Int) else some false)
  (h2:∀ n k,xs.length≤k→F (n+1) (k:Int)=e):F n (0:Int)=bif allV p xs 0 then e else some false :=
 allV_of p xs F e h1 h2 xs 0 n rfl hn
def bs (s:ByteArray):List UInt8:=s.data.toList
theorem size_bs (s:ByteArray):s.size=(bs s).length:=rfl
theorem slt_t {s:ByteArray} {k:Nat} (h:k < (bs s).length):decide ((k:Int) < (s.size:Int))=true:=lt_t h
theorem slt_f {s:ByteArray} {k:Nat} (h:(bs s).length≤k):decide ((k:Int) < (s.size:Int))=false:=lt_f h
theorem toList_bs (s:ByteArray):s.toList=bs s:=ByteArray.toList_eq s
theorem bs_inj {a b:ByteArray} (h:bs a=bs b):a=b:=by
 cases a with | mk a=>cases b with | mk b=>simpa [bs] using h
theorem sidx_bs (s:ByteArray) (k:Nat):sidx s (k:Int)=(bs s)[k]?.map (fun b=>(b.toNat:Int)):=by
 unfold sidx
 have h:decide (0≤(k:Int))=true:=by simp
 rw [h,cT]
 have e:s[(k:Int).toNat]? = (bs s)[k]? := by
  simp [getElem?_def,bs]
  split<;>simp_all
  rfl
 rw [e]
theorem eqStr_iff (a b:ByteArray):eqStr a b=true↔a=b:=by
 unfold eqStr
 rw [beq_iff_eq,toList_bs,toList_bs]
 exact ⟨bs_inj,fun h=>by rw [h]⟩
variable {N:Nat} (hN:4194304 < N)
def letterV (c:Int):Bool:=(decide (97≤c) && decide (c≤122)) || (decide (65≤c) && decide (c≤90))
def innerV (c:Int):Bool:=letterV c || ((decide (48≤c) && decide (c≤57)) || c==95)
theorem letter_eq (N:Nat) (c:Int):z52 N c=some (letterV c):=by
 unfold z52 letterV
 cases decide (97≤c)<;>cases decide (c≤122)<;>cases decide (65≤c)<;>rfl
theorem refLetter_eq (N:Nat) (c:Int):z112 N c=some (letterV c):=letter_eq N c
theorem inner_eq (N:Nat) (c:Int):z103 N c=some (innerV c):=by
 unfold z103 innerV z54
 rw [letter_eq]
 simp only [bS]
 cases letterV c
 ·cases decide (48≤c)<;>cases decide (c≤57)<;>rfl
 ·rfl
def isName (s:ByteArray):Bool :=
 match bs s with
 | []=>false
 | x::l=>letterV (x.toNat:Int) && (decide (l.length < 16) && allV (fun (c:UInt8) _=>innerV (c.toNat:Int)) (x::l) 0)
def keywords:List ByteArray:=[(str [97,103,97,105,110]),(str [97,110,100]),(str [97,115]),(str [97,116]),(str [99,97,108,108]),(str [99,104,111,105,99,101]),(str [101,108,115,101]),(str [102,114,111,109]),(str [105,102]),(str [105,110,116]),(str [108,101,110]),(str [108,111,111,112]),(str [109,101,115,115,97,103,101]),(str [111,102]),(str [111,102,102,101,114]),(str [111,110]),(str [111,114]),(str [112,97,114]),(str [112,108,97,121,115]),(str [112,114,111,116,111,99,111,108]),(str [115,101,114,118,105,99,101]),(str [116,101,120,116]),(str [116,105,109,101,115]),(str [116,111]),(str [118,97,114]),(str [119,104,101,114,101]),(str [119,104,105,108,101]),(str [119,105,116,104,105,110])]
def isWord (s:ByteArray):Bool:=isName s && !(keywords.any fun k=>eqStr k s)
include hN in
theorem nameL (s:ByteArray) (hs:s.size≤4194304):z73_l2 N s N (0:Int)=some (allV (fun (c:UInt8) _=>innerV (c.toNat:Int)) (bs s) 0):=by
 rw [size_bs] at hs
 rw [allV_from (xs:=bs s) (fun (c:UInt8) _=>innerV (c.toNat:Int)) (F:=z73_l2 N s) (e:=some true) (by omega)]
 ·cases allV (fun (c:UInt8) _=>innerV (c.toNat:Int)) (bs s) 0<;>rfl
 ·intro n k x hk hx
  simp only [z73_l2,slt_t hk,cT,sidx_bs,hx,Option.map_some,bS,inner_eq,w64_succ (show k < 4611686018427387904 by omega)]
  cases innerV (x.toNat:Int)<;>rfl
 ·intro n k hk
  simp only [z73_l2,slt_f hk,cF,z73_k1]
theorem nameL_ref (s:ByteArray):∀ n k,z137_l2 N s n k=z73_l2 N s n k
 | 0,_=>rfl
 | n+1,k=>by
  simp only [z137_l2,z73_l2,nameL_ref s n]
  rfl
theorem bs_nil:bs (str [])=[]:=rfl
include hN in
theorem name_eq (s:ByteArray) (hs:s.size≤4194304):z73 N s=some (isName s)∧z137 N s=some (isName s):=by
 unfold z73 z137
 rw [nameL_ref,nameL hN s hs,toList_bs,toList_bs,bs_nil,size_bs,show sidx s (0:Int)=sidx s ((0:Nat):Int) from rfl,sidx_bs]
 unfold isName
 cases h:bs s with
 | nil=>exact ⟨rfl,rfl⟩
 | cons x l =>
  have e:(x::l==([]:List UInt8))=false:=rfl
  rw [e]
  simp only [cF,List.getElem?_cons_zero,Option.map_some,bS,letter_eq,refLetter_eq]
  have d:decide (((x::l).length:Int) > 16) = !decide (l.length < 16):=by
   by_cases q:l.length < 16
   ·rw [dT q];simp;omega
   ·rw [dF q];simp;omega
  rw [d]
  cases letterV (x.toNat:Int)<;>cases decide (l.length < 16)<;>exact ⟨rfl,rfl⟩
theorem whereV_any {α:Type} (f:α→Bool) (l:List α) (k:Nat):∃ i,lv (fun x (k:Nat) r=>bif f x then some (k:Int) else r) (some (-1)) l k=some i∧decide (i≥0)=l.any f:=by
 induction l generalizing k with
 | nil=>exact ⟨-1,rfl,rfl⟩
 | cons x l ih =>
  show ∃ i,(bif f x then some (k:Int) else lv _ _ l (k+1))=some i∧_
  rw [List.any_cons]
  cases f x
  ·exact ih (k+1)
  ·exact ⟨k,rfl,by simp⟩
include hN in
theorem contains_eq (l:List ByteArray) (hl:l.length≤4194304) (v:ByteArray):z74 N l v=some (l.any fun x=>eqStr x v):=by
 unfold z74
 rw [Index_eq hN l hl]
 obtain ⟨i,h1,h2⟩:=whereV_any (fun x=>eqStr x v) l 0
 unfold whereV
 rw [h1,bS,h2]
include hN in
theorem refIn_eq (l:List ByteArray) (hl:l.length≤4194304) (v:ByteArray):z117 N l v=some (l.any fun x=>eqStr x v):=by
 unfold z117
 rw [look l hl (fun x k r=>bif eqStr x v then some true else r) (z117_l2 l v) (some false) hN]
 ·generalize (0:Nat)=k
  induction l generalizing k with
  | nil=>rfl
  | cons x l ih =>
   show (bif eqStr x v then some true else lv _ _ l (k+1))=_
   rw [List.any_cons,ih (by simp at hl;omega)]
   cases eqStr x v<;>rfl
 ·intro n k x hk hx
  simp only [z117_l2,lt_t hk,idx_nat,hx,cT,bS,eqStr]
 ·intro n k hk
  simp only [z117_l2,lt_f hk,cF,z117_k1]
include hN in
theorem word_eq (s:ByteArray) (hs:s.size≤4194304):z32 N s=some (isWord s)∧z87 N s=some (isWord s):=by
 obtain ⟨h1,h2⟩:=name_eq hN s hs
 unfold z32 z87 z138
 rw [h1,h2]
 simp only [bS]
 have c1:=contains_eq hN keywords (by decide) s
 have c2:=refIn_eq hN keywords (by decide) s
 unfold keywords at c1 c2
 rw [c1,c2]
 unfold isWord keywords
 simp only [bS]
 cases isName s<;>exact ⟨rfl,rfl⟩
end Gp
end
section
namespace Gp
open Go Go.Kx Gx
def mkB (l:List UInt8):ByteArray:=⟨l.toArray⟩
theorem bs_mkB (l:List UInt8):bs (mkB l)=l:=by simp [bs,mkB]
theorem mkB_bs (s:ByteArray):mkB (bs s)=s:=bs_inj (bs_mkB _)
theorem bs_extract (s:ByteArray) (a b:Nat):bs (s.extract a b)=((bs s).take b).drop a:=by
 unfold bs
 rw [ByteArray.data_extract,Array.toList_extract]
 simp [List.extract,List.drop_take]
theorem ssl_mid {s:ByteArray} {x y z:List UInt8} {i j:Int} (h:bs s=x++(y++z)) (hi:i=(x.length:Int)) (hj:j=((x.length+y.length:Nat):Int)):ssl s (some i) (some j)=some (mkB y):=by
 subst hi hj
 have q1:decide ((0:Int)≤(x.length:Int))=true:=by simp
 have q2:decide ((x.length:Int)≤((x.length+y.length:Nat):Int))=true:=by simp;omega
 have q3:decide (((x.length+y.length:Nat):Int)≤(s.size:Int))=true:=by rw [size_bs,h];simp;omega
 unfold ssl bnd
 simp only [Option.getD_some,q1,q2,q3,Bool.and_self,cT,Option.map_some,Int.toNat_natCast]
 congr 1
 apply bs_inj
 rw [bs_extract,bs_mkB,h,← aA,List.take_append_of_le_length (by simp),List.take_of_length_le (by simp)]
 simp
theorem ssl_to {s:ByteArray} {x y:List UInt8} {j:Int} (h:bs s=x++y) (hj:j=(x.length:Int)):ssl s none (some j)=some (mkB x):=by
 have e:ssl s none (some j)=ssl s (some 0) (some j):=rfl
 rw [e]
 exact ssl_mid (x:=[]) (y:=x) (z:=y) (by rw [h];rfl) rfl (by rw [hj];simp)
theorem ssl_from {s:ByteArray} {x y:List UInt8} {i:Int} (h:bs s=x++y) (hi:i=(x.length:Int)):ssl s (some i) none=some (mkB y):=by
 have e:ssl s (some i) none=ssl s (some i) (some (s.size:Int)):=rfl
 rw [e]
 exact ssl_mid (x:=x) (y:=y) (z:=[]) (by rw [h];simp) hi (by rw [size_bs,h];simp)
theorem indexB_some {l:List UInt8} {c:UInt8} (h:0 < l.count c):∃ p q,l=p++c::q∧p.count c=0∧Go.Lib.indexByte l c=(p.length:Int):=by
 induction l with
 | nil=>simp at h
 | cons b l ih =>
  cases hc:(b==c)
  ·rw [List.count_cons,hc] at h
   obtain ⟨p,q,h1,h2,h3⟩:=ih (by simpa using h)
   refine ⟨b::p,q,by rw [h1];rfl,by rw [List.count_cons,h2,hc];rfl,?_⟩
   unfold Go.Lib.indexByte
   rw [hc,h3,show ((p.length:Int)==-1)=false by simp]
   simp
  ·have:b=c:=by simpa using hc
   subst this
   exact ⟨[],l,rfl,by simp,by unfold Go.Lib.indexByte;rw [hc];rfl⟩
def splitA (acc:List UInt8):List UInt8→List (List UInt8)
 | []=>[acc]
 | c::l=>if c=46 then acc::splitA [] l else splitA (acc++[c]) l
theorem splitA_cons (acc:List UInt8) (c:UInt8) (l:List UInt8):splitA acc (c::l)=if c=46 then acc::splitA [] l else splitA (acc++[c]) l:=rfl
theorem splitA_none:∀ (l acc:List UInt8),l.count 46=0→splitA acc l=[acc++l]
 | [],acc,_=>by simp [splitA]
 | c::l,acc,h=>by
  rw [List.count_cons] at h
  have hc:¬ c=46:=by intro hc;subst hc;simp at h
  rw [splitA_cons,if_neg hc,splitA_none l _ (by omega)];simp
theorem splitA_some:∀ (p acc q:List UInt8),p.count 46=0→splitA acc (p++46::q)=(acc++p)::splitA [] q
 | [],acc,q,_=>by rw [List.nil_append,splitA_cons,if_pos rfl,List.append_nil]
 | c::p,acc,q,h=>by
  rw [List.count_cons] at h
  have hc:¬ c=46:=by intro hc;subst hc;simp at h
  show splitA acc (c::(p++46::q))=_
  rw [splitA_cons,if_neg hc,splitA_some p _ q (by omega)];simp
theorem splitA_len:∀ (l acc:List UInt8),(splitA acc l).length=l.count 46+1
 | [],acc=>by simp [splitA]
 | c::l,acc=>by
  rw [splitA_cons,List.count_cons]
  split
  ·rename_i h;subst h
   rw [List.length_cons,splitA_len l];simp
  ·rename_i h
   rw [splitA_len l];simp [h]
variable {N:Nat}
theorem index_eq (s:ByteArray):z145 N s (str [46])=some (Go.Lib.indexByte (bs s) 46):=by
 unfold z145 z165
 have h1:(((str [46]).size:Int)==0)=false:=rfl
 have h2:(((str [46]).size:Int)==1)=true:=rfl
 have h3:sidx (str [46]) (0:Int)=some 46:=by
  rw [show (0:Int)=((0:Nat):Int) from rfl,sidx_bs];rfl
 rw [h1,h2,h3]
 simp only [cT,cF,bS,z148]
 have hf:firstB s 46=Go.Lib.indexByte (bs s) 46:=Go.Lib.firstIdx_eq s 46
 rw [hf,toList_bs,toList_bs]
 cases he:(bs (str [46])==bs s)
 ·rfl
 ·have he:bs (str [46])=bs s:=eq_of_beq he
  rw [← he];rfl
theorem count_eq (s:ByteArray):z144 N s (str [46])=some (((bs s).count 46:Nat):Int):=by
 unfold z144
 have h1:(((str [46]).size:Int)==0)=false:=rfl
 have h2:(((str [46]).size:Int)==1)=true:=rfl
 have h3:sidx (str [46]) (0:Int)=some 46:=by
  rw [show (0:Int)=((0:Nat):Int) from rfl,sidx_bs];rfl
 rw [h1,h2,h3]
 simp only [cT,cF,bS]
 congr 1
 unfold countB
 rw [show s.foldl (fun (n:Int) x=>if x==Kx.byteOf 46 then n+1 else n) ((0:Nat):Int)=(bs s).foldl (fun (n:Int) x=>if x==Kx.byteOf 46 then n+1 else n) ((0:Nat):Int) from Go.Lib.foldl_data _ _ _,Go.Lib.count_foldl]
 simp [Go.Lib.countByte,Kx.byteOf]
theorem gen_loop (s sep:ByteArray) (hsep:sep=str [46]) (cnt:Nat) (hc:cnt≤s.size) (hs:s.size≤4194304) :
  ∀ (n:Nat) (cur:ByteArray) (D R:List ByteArray),(bs cur).count 46 < n→(bs cur).length≤4194304→D.length+(bs cur).count 46=cnt→R.length=(bs cur).count 46+1 →
  z97_l2 N s sep (0:Int) ((cnt+1:Nat):Int) n cur (D++R) (D.length:Int)=some (D++(splitA [] (bs cur)).map mkB):=by
 subst hsep
 intro n
 induction n with
 | zero=>intro cur D R h;omega
 | succ n ih =>
  intro cur D R hn hcur hD hR
  have hw:w64 ((s.size:Int)+1)=((s.size+1:Nat):Int):=w64_succ (by omega)
  have hmin:minI ((cnt+1:Nat):Int) ((s.size+1:Nat):Int)=((cnt+1:Nat):Int):=by unfold minI;rw [if_neg (by omega)]
  have hw2:w64 (((cnt+1:Nat):Int)-1)=(cnt:Int):=by rw [w64_id (by omega) (by omega)];omega
  have fin:(bs cur).count 46=0→z97_k1 cur (D++R) (D.length:Int)=some (D++(splitA [] (bs cur)).map mkB):=by
   intro h0
   rw [h0] at hR
   obtain ⟨r,rfl⟩:=List.length_eq_one_iff.mp hR
   unfold z97_k1
   rw [idx_mid (A:=D) (x:=r) (B:=[]) rfl rfl,bS,setL'_mid (A:=D) (x:=r) (B:=[]) rfl rfl,w64_succ (by omega),lsl_to (A:=D++[cur]) (B:=[]) (by simp) (by simp),splitA_none _ _ h0]
   simp [mkB_bs]
  by_cases hlt:D.length < cnt
  ·have hd:decide ((D.length:Int) < (cnt:Int))=true:=by simp;omega
   obtain ⟨p,q,e1,e2,e3⟩:=indexB_some (l:=bs cur) (c:=46) (by omega)
   have hlen:(bs cur).length=p.length+(q.length+1):=by rw [e1];simp
   have hcnt:(bs cur).count 46=q.count 46+1:=by rw [e1,List.count_append,List.count_cons,e2];simp
   obtain ⟨r,R',rfl⟩:∃ r R',R=r::R':=by
    cases R with
    | nil=>simp at hR
    | cons r R'=>exact ⟨r,R',rfl⟩
   simp only [List.length_cons] at hR
   have hneg:decide ((p.length:Int) < 0)=false:=by simp
   have wp:w64 ((p.length:Int)+0)=(p.length:Int):=by rw [w64_id (by omega) (by omega)];omega
   have wp1:w64 ((p.length:Int)+((str [46]).size:Int))=((p++[46]:List UInt8).length:Int):=by
    rw [show ((str [46]).size:Int)=1 from rfl,w64_succ (by omega)];simp
   simp only [z97_l2,hw,hmin,hw2,hd,cT,index_eq,e3,bS,hneg,cF,wp,wp1]
   rw [ssl_to e1 rfl,bS,idx_mid (A:=D) (x:=r) (B:=R') rfl rfl,bS,ssl_from (x:=p++[46]) (y:=q) (by rw [e1];simp) rfl,bS,setL'_mid (A:=D) (x:=r) (B:=R') rfl rfl,w64_succ (by omega)]
   have:=ih (mkB q) (D++[mkB p]) R' (by rw [bs_mkB];omega) (by rw [bs_mkB];omega) (by rw [bs_mkB];simp;omega) (by rw [bs_mkB];omega)
   rw [bs_mkB] at this
   rw [show ((D.length+1:Nat):Int)=((D++[mkB p]).length:Int) by simp,show D++mkB p::R'=(D++[mkB p])++R' by simp,this,e1,splitA_some _ _ _ e2]
   simp
  ·have hd:decide ((D.length:Int) < (cnt:Int))=false:=by simp;omega
   simp only [z97_l2,hw,hmin,hw2,hd,cF]
   exact fin (by omega)
theorem split_eq (hN:4194304 < N) (s:ByteArray) (hs:s.size≤1000000):z48 N s (str [46])=some ((splitA [] (bs s)).map mkB):=by
 unfold z48 z97
 have h0:((-1:Int)==0)=false:=rfl
 have h1:((str [46]).toList==(str []).toList)=false:=by rw [toList_bs,toList_bs];rfl
 have h2:decide ((-1:Int) < 0)=true:=rfl
 have hcl:(bs s).count 46≤(bs s).length:=List.count_le_length
 rw [h0,h1,h2,count_eq]
 simp only [cT,cF,bS,z97_k3]
 rw [size_bs] at hs
 rw [w64_succ (by omega)]
 have hw:w64 ((s.size:Int)+1)=((s.size+1:Nat):Int):=w64_succ (by rw [size_bs];omega)
 have hmin:minI (((bs s).count 46+1:Nat):Int) ((s.size+1:Nat):Int)=(((bs s).count 46+1:Nat):Int):=by unfold minI;rw [if_neg (by rw [size_bs];omega)]
 have m:mkL (str []) (((bs s).count 46+1:Nat):Int) (((bs s).count 46+1:Nat):Int)=some (List.replicate ((bs s).count 46+1) (str [])):=by
  unfold mkL
  have q1:decide ((0:Int)≤(((bs s).count 46+1:Nat):Int))=true:=by simp;omega
  have q2:decide ((((bs s).count 46+1:Nat):Int)≤4294967296)=true:=by simp;omega
  simp only [q1,q2,Int.le_refl,decide_true,Bool.and_self,cT]
  simp
 rw [hw,hmin,m,bS]
 have:=gen_loop (N:=N) s (str [46]) rfl ((bs s).count 46) (by rw [size_bs];omega) (by rw [size_bs];omega) N s [] (List.replicate ((bs s).count 46+1) (str [])) (by omega) (by omega) (by simp) (by simp)
 rw [List.nil_append] at this
 have this':z97_l2 N s (str [46]) (0:Int) (((bs s).count 46+1:Nat):Int) N s (List.replicate ((bs s).count 46+1) (str [])) (0:Int)=some ([]++(splitA [] (bs s)).map mkB):=this
 rw [this'];simp
def pathV (s:ByteArray):Bool:=decide (s.size≤50) && (splitA [] (bs s)).all fun p=>isWord (mkB p)
theorem piece_len:∀ (l acc:List UInt8),∀ p∈splitA acc l,p.length≤acc.length+l.length
 | [],acc,p,h=>by simp [splitA] at h;subst h;simp
 | c::l,acc,p,h=>by
  rw [splitA_cons] at h
  split at h
  ·rcases List.mem_cons.mp h with h | h
   ·subst h;simp
   ·have:=piece_len l [] p h;simp at this;simp;omega
  ·have:=piece_len l _ p h;simp at this;simp;omega
theorem path_eq (hN:4194304 < N) (s:ByteArray):z21 N s=some (pathV s):=by
 unfold z21 pathV
 by_cases h:s.size≤50
 ·rw [dT (show (s.size:Int)≤50 by omega),dT h,cT,split_eq hN s (by omega),bS]
  unfold z47_5 z96_4
  have hl:(splitA [] (bs s)).length≤51:=by
   rw [splitA_len]
   have:(bs s).count 46≤(bs s).length:=List.count_le_length
   rw [size_bs] at h;omega
  rw [look ((splitA [] (bs s)).map mkB) (by simp;omega) (fun x k r=>bif !(isWord x) then some k else r) (z96_4_l2 N ((splitA [] (bs s)).map mkB)) (some (-1)) hN]
  ·obtain ⟨i,h1,h2⟩:=whereV_any (fun x => !(isWord x)) ((splitA [] (bs s)).map mkB) 0
   rw [h1,bS,h2,bS,List.any_map,List.not_any_eq_all_not]
   simp [Function.comp_def]
  ·intro n k x hk hx
   have hx':=List.mem_of_getElem? hx
   obtain ⟨p,hp,rfl⟩:=List.mem_map.mp hx'
   have hpl:=piece_len _ _ p hp
   have hw:=(word_eq hN (mkB p) (by rw [size_bs,bs_mkB];rw [size_bs] at h;simp at hpl;omega)).1
   simp only [z96_4_l2,lt_t hk,idx_nat,hx,cT,bS,z49,hw]
  ·intro n k hk
   simp only [z96_4_l2,lt_f hk,cF,z96_4_k1]
 ·rw [dF (show ¬ (s.size:Int)≤50 by omega),dF h];rfl
theorem refPath_loop (hN:4194304 < N) (s:ByteArray) (hs:s.size≤4194304):∀ (n:Nat) (x acc l:List UInt8) (i j:Int),l.length+1 < n→bs s=x++(acc++l)→i=(x.length:Int)→j=((x.length+acc.length:Nat):Int) →
  z22_l2 N s n i j=bif (splitA acc l).all fun p=>isWord (mkB p) then z22_k1 s else some false:=by
 intro n
 induction n with
 | zero=>intro x acc l i j h;omega
 | succ n ih =>
  intro x acc l i j hn he hi hj
  have hsz:s.size=x.length+(acc.length+l.length):=by rw [size_bs,he];simp
  have hle:decide (j≤(s.size:Int))=true:=by simp;omega
  have hw:=(word_eq hN (mkB acc) (by rw [size_bs,bs_mkB];omega)).2
  have wj:w64 (j+1)=((x.length+acc.length+1:Nat):Int):=by rw [hj];exact w64_succ (by omega)
  cases l with
  | nil =>
   have hend:(j==(s.size:Int))=true:=by simp at hsz;simp;omega
   obtain ⟨n,rfl⟩:∃ m,n=m+1:=⟨n-1,by simp at hn;omega⟩
   have hgt:decide (w64 (j+1)≤(s.size:Int))=false:=by rw [wj];simp at hsz;simp;omega
   unfold z22_l2
   rw [hle,cT,hend,cT]
   unfold z22_k3
   rw [cT,ssl_mid he hi hj,bS]
   unfold z40
   rw [hw]
   simp only [bS,splitA,List.all_cons,List.all_nil,Bool.and_true]
   cases isWord (mkB acc)
   ·rfl
   ·simp only [Bool.not_true,cF,cT]
    unfold z22_l2
    rw [hgt];rfl
  | cons c l =>
   have hne:(j==(s.size:Int))=false:=by simp at hsz;simp;omega
   have hgc:sidx s j=some (c.toNat:Int):=by
    rw [hj,sidx_bs,get_at (A:=x++acc) (x:=c) (B:=l) (by rw [he];simp) (by simp)];rfl
   unfold z22_l2
   rw [hle,cT,hne,cF,hgc,bS]
   by_cases hc:c=46
   ·subst hc
    have hb:(((46:UInt8).toNat:Int)==46)=true:=rfl
    rw [hb]
    unfold z22_k3
    rw [cT,ssl_mid he hi hj,bS]
    unfold z40
    rw [hw]
    have e0:splitA acc (46::l)=acc::splitA [] l:=by rw [splitA_cons,if_pos rfl]
    rw [e0,List.all_cons]
    simp only [bS]
    cases isWord (mkB acc)
    ·rfl
    ·simp only [Bool.not_true,cF,Bool.true_and]
     rw [wj]
     exact ih (x++acc++[46]) [] l _ _ (by simp at hn;omega) (by rw [he];simp) (by simp;omega) (by simp;omega)
   ·have hb:((c.toNat:Int)==46)=false:=by
     rw [beq_eq_false_iff_ne]
     intro h
     apply hc
     apply UInt8.toNat_inj.mp
     show c.toNat=46
     omega
    rw [hb]
    unfold z22_k3
    have e0:splitA acc (c::l)=splitA (acc++[c]) l:=by rw [splitA_cons,if_neg hc]
    rw [cF,wj,e0]
    exact ih x (acc++[c]) l _ _ (by simp at hn;omega) (by rw [he];simp) hi (by simp;omega)
theorem refPath_eq (hN:4194304 < N) (s:ByteArray) (hs:s.size≤4000000):z22 N s=some (pathV s):=by
 unfold z22
 rw [refPath_loop hN s (by omega) N [] [] (bs s) (0:Int) (0:Int) (by rw [size_bs] at hs;omega) rfl rfl rfl]
 unfold z22_k1 pathV
 by_cases h:s.size≤50
 ·rw [dT (show (s.size:Int)≤50 by omega),dT h]
  cases (splitA [] (bs s)).all fun p=>isWord (mkB p)<;>rfl
 ·rw [dF (show ¬ (s.size:Int)≤50 by omega),dF h]
  cases (splitA [] (bs s)).all fun p=>isWord (mkB p)<;>rfl
end Gp
end
end
section
namespace Gp
open Go Go.Kx Gx
mutual
def oI:T5→T10
 | ⟨k,f,t,n,a,x,b⟩=>⟨k,f,t,n,a,x,oLL b⟩
def oL:List T5→List T10
 | []=>[]
 | x::l=>oI x::oL l
def oLL:List (List T5)→List (List T10)
 | []=>[]
 | x::l=>oL x::oLL l
end
mutual
def tI:T10→T5
 | ⟨k,f,t,n,a,x,b⟩=>⟨k,f,t,n,a,x,tLL b⟩
def tL:List T10→List T5
 | []=>[]
 | x::l=>tI x::tL l
def tLL:List (List T10)→List (List T5)
 | []=>[]
 | x::l=>tL x::tLL l
end
mutual
theorem to_I:∀ x,tI (oI x)=x
 | ⟨k,f,t,n,a,x,b⟩=>by simp only [tI,oI,to_LL b]
theorem to_L:∀ l,tL (oL l)=l
 | []=>by simp only [tL,oL]
 | x::l=>by simp only [tL,oL,to_I x,to_L l]
theorem to_LL:∀ l,tLL (oLL l)=l
 | []=>by simp only [tLL,oLL]
 | x::l=>by simp only [tLL,oLL,to_L x,to_LL l]
end
theorem oL_map:∀ l,oL l=l.map oI
 | []=>by simp only [oL,List.map_nil]
 | x::l=>by simp only [oL,List.map_cons,oL_map l]
theorem oLL_map:∀ l,oLL l=l.map oL
 | []=>by simp only [oLL,List.map_nil]
 | x::l=>by simp only [oLL,List.map_cons,oLL_map l]
mutual
def dI:T10→Nat
 | ⟨_,_,_,_,_,_,b⟩=>dLL b+1
def dL:List T10→Nat
 | []=>0
 | x::l=>max (dI x) (dL l)
def dLL:List (List T10)→Nat
 | []=>0
 | x::l=>max (dL x) (dLL l)
end
mutual
def bI:T10→Prop
 | ⟨_,_,t,_,_,_,b⟩=>t.length≤4194304∧b.length≤4194304∧bLL b
def bL:List T10→Prop
 | []=>True
 | x::l=>bI x∧bL l
def bLL:List (List T10)→Prop
 | []=>True
 | x::l=>x.length≤4194304∧bL x∧bLL l
end
theorem dL_mem:∀ {l:List T10} {x},x∈l→dI x≤dL l
 | y::l,x,h=>by
  simp only [dL]
  rcases List.mem_cons.1 h with rfl | h
  ·omega
  ·have:=dL_mem h;omega
theorem dLL_mem:∀ {l:List (List T10)} {x},x∈l→dL x≤dLL l
 | y::l,x,h=>by
  simp only [dLL]
  rcases List.mem_cons.1 h with rfl | h
  ·omega
  ·have:=dLL_mem h;omega
theorem dI_eq (x:T10):dI x=dLL x.Blocks+1:=by cases x;simp only [dI]
theorem bL_mem:∀ {l:List T10} {x},bL l→x∈l→bI x
 | y::l,x,hb,h=>by
  simp only [bL] at hb
  rcases List.mem_cons.1 h with rfl | h
  ·exact hb.1
  ·exact bL_mem hb.2 h
theorem bLL_mem:∀ {l:List (List T10)} {x},bLL l→x∈l→x.length≤4194304∧bL x
 | y::l,x,hb,h=>by
  simp only [bLL] at hb
  rcases List.mem_cons.1 h with rfl | h
  ·exact ⟨hb.1,hb.2.1⟩
  ·exact bLL_mem hb.2.2 h
theorem bI_eq (x:T10):bI x↔x.To.length≤4194304∧x.Blocks.length≤4194304∧bLL x.Blocks:=by cases x;simp only [bI]
theorem oI_eq (x:T5):oI x=⟨x.Kind,x.From,x.To,x.Name,x.As,x.Ticks,oLL x.Blocks⟩:=by cases x;simp only [oI]
def Dq (o:Option Bool) (P:Prop):Prop:=∃ r,o=some r∧(r=true↔P)
theorem Dq.iff {o P Q} (h:Dq o P) (k:P↔Q):Dq o Q:=by
 obtain ⟨r,h1,h2⟩:=h
 exact ⟨r,h1,h2.trans k⟩
theorem Dq.tr:Dq (some true) True:=⟨true,rfl,by simp⟩
theorem Dq.fa:Dq (some false) False:=⟨false,rfl,by simp⟩
theorem Dq.bool (b:Bool):Dq (some b) (b=true):=⟨b,rfl,Iff.rfl⟩
theorem Dq.cA {c:Bool} {C P:Prop} {o:Option Bool} (hc:c=true↔C) (h:C→Dq o P):Dq (bif c then o else some false) (C∧P):=by
 cases c with
 | false=>exact ⟨false,rfl,by simp at hc ⊢;intro h;exact absurd h hc⟩
 | true =>
  have hC:=hc.1 rfl
  obtain ⟨r,h1,h2⟩:=h hC
  exact ⟨r,h1,by rw [h2];exact ⟨fun p=>⟨hC,p⟩,fun p=>p.2⟩⟩
theorem Dq.cN {c:Bool} {C P:Prop} {o:Option Bool} (hc:c=false↔C) (h:C→Dq o P):Dq (bif c then some false else o) (C∧P):=by
 cases c with
 | true=>exact ⟨false,rfl,by simp at hc ⊢;intro h;exact absurd h hc⟩
 | false =>
  have hC:=hc.1 rfl
  obtain ⟨r,h1,h2⟩:=h hC
  exact ⟨r,h1,by rw [h2];exact ⟨fun p=>⟨hC,p⟩,fun p=>p.2⟩⟩
theorem Dq.bA {C P:Prop} {o1 o2:Option Bool} (h1:Dq o1 C) (h:C→Dq o2 P):Dq (o1.bind fun x=>bif x then o2 else some false) (C∧P):=by
 obtain ⟨r,e,hr⟩:=h1
 rw [e]
 exact Dq.cA hr h
theorem Dq.bN {C P:Prop} {o1 o2:Option Bool} (h1:Dq o1 C) (h:C→Dq o2 P):Dq (o1.bind fun x=>bif (!x) then some false else o2) (C∧P):=by
 obtain ⟨r,e,hr⟩:=h1
 rw [e]
 exact Dq.cN (by rw [← hr];cases r<;>simp) h
theorem Dq.bS {C:Prop} {o1:Option Bool} (h1:Dq o1 C):Dq (o1.bind fun x=>some x) C:=by
 obtain ⟨r,e,hr⟩:=h1
 exact ⟨r,by rw [e];rfl,hr⟩
theorem nbeq {a b:Int}:(a != b)=false↔a=b:=by simp
theorem nlen {a b:Nat}:((a:Int) != (b:Int))=false↔a=b:=by simp;omega
theorem ibeq {a b:Int}:(a==b)=true↔a=b:=by simp
theorem seq' {a b:ByteArray}:(a.toList==b.toList)=true↔a=b:=eqStr_iff a b
theorem nseq {a b:ByteArray}:(!(a.toList==b.toList))=false↔a=b:=by
 rw [← eqStr_iff a b];unfold eqStr;cases (a.toList==b.toList)<;>simp
theorem get_lt {α:Type} {l:List α} {i:Nat} {x:α} (h:l[i]? = some x):i < l.length:=(List.getElem?_eq_some_iff.1 h).1
theorem dq_loop {α β:Type} {xs:List α} {ys:List β} (hl:xs.length=ys.length) (hs:xs.length≤4194304) {R:α→β→Prop} (F:Nat→Int→Option Bool) {E:Prop}
  (h1:∀ (n k:Nat) x y Q,k < 4194304→xs[k]? = some x→ys[k]? = some y→Dq (F n ((k+1:Nat):Int)) Q→Dq (F (n+1) (k:Int)) (R x y∧Q))
  (h2:∀ (n k:Nat),xs.length≤k→Dq (F (n+1) (k:Int)) E) {N:Nat} (hN:xs.length < N):Dq (F N (0:Int)) ((∀ (i:Nat) (x:α) (y:β),xs[i]? = some x→ys[i]? = some y→R x y)∧E):=by
 have key:∀ d k n,xs.length-k=d→d < n→Dq (F n (k:Int)) ((∀ (i:Nat) (x:α) (y:β),k≤i→xs[i]? = some x→ys[i]? = some y→R x y)∧E):=by
  intro d
  induction d with
  | zero =>
   intro k n h hn
   obtain ⟨n,rfl⟩:∃ m,n=m+1:=⟨n-1,by omega⟩
   refine (h2 n k (by omega)).iff ⟨fun h'=>⟨fun i x y hi hx _=>?_,h'⟩,fun h'=>h'.2⟩
   have:=get_lt hx;omega
  | succ d ih =>
   intro k n h hn
   obtain ⟨n,rfl⟩:∃ m,n=m+1:=⟨n-1,by omega⟩
   have hk:k < xs.length:=by omega
   have hk':k < ys.length:=by omega
   refine (h1 n k _ _ _ (by omega) (List.getElem?_eq_getElem hk) (List.getElem?_eq_getElem hk') (ih (k+1) n (by omega) (by omega))).iff ⟨fun h'=>⟨fun i x y hi hx hy=>?_,h'.2.2⟩,fun h'=>⟨?_,fun i x y hi hx hy=>h'.1 i x y (by omega) hx hy,h'.2⟩⟩
   ·rcases Nat.eq_or_lt_of_le hi with rfl | hi
    ·rw [List.getElem?_eq_getElem hk] at hx;rw [List.getElem?_eq_getElem hk'] at hy
     cases hx;cases hy;exact h'.1
    ·exact h'.2.1 i x y hi hx hy
   ·exact h'.1 k _ _ (Nat.le_refl _) (List.getElem?_eq_getElem hk) (List.getElem?_eq_getElem hk')
 refine (key xs.length 0 N rfl hN).iff ⟨fun h=>⟨fun i x y hx hy=>h.1 i x y (Nat.zero_le _) hx hy,h.2⟩,fun h=>⟨fun i x y _ hx hy=>h.1 i x y hx hy,h.2⟩⟩
theorem list_pt {α:Type} {xs ys:List α} (hl:xs.length=ys.length):((∀ (i:Nat) (x y:α),xs[i]? = some x→ys[i]? = some y→x=y)∧True)↔xs=ys:=by
 refine ⟨fun h=>List.ext_getElem? fun i=>?_,fun h=>⟨fun i x y hx hy=>by subst h;rw [hx] at hy;exact Option.some.inj hy,trivial⟩⟩
 rcases Nat.lt_or_ge i xs.length with hi | hi
 ·rw [List.getElem?_eq_getElem hi,List.getElem?_eq_getElem (by omega:i < ys.length),h.1 i _ _ (List.getElem?_eq_getElem hi) (List.getElem?_eq_getElem (by omega))]
 ·rw [List.getElem?_eq_none hi,List.getElem?_eq_none (by omega)]
theorem dq_list {α:Type} {xs ys:List α} (hs:xs.length≤4194304) (F:Nat→Int→Option Bool)
  (h1:∀ (n k:Nat) x y Q,k < 4194304→xs[k]? = some x→ys[k]? = some y→Dq (F n ((k+1:Nat):Int)) Q→Dq (F (n+1) (k:Int)) (x=y∧Q))
  (h2:∀ (n k:Nat),xs.length≤k→F (n+1) (k:Int)=some true) {N:Nat} (hN:4194304 < N) :
  Dq (bif ((xs.length:Int) != (ys.length:Int)) then some false else F N (0:Int)) (xs=ys):=by
 by_cases hl:xs.length=ys.length
 ·have:=dq_loop hl hs (R:=fun x y=>x=y) (E:=True) F h1 (fun n k hk=>by rw [h2 n k hk];exact Dq.tr) (N:=N) (by omega)
  rw [nlen.2 hl]
  exact this.iff (list_pt hl)
 ·have:((xs.length:Int) != (ys.length:Int))=true:=by simp;omega
  rw [this]
  exact Dq.fa.iff ⟨fun h=>h.elim,fun h=>hl (by rw [h])⟩
variable {N:Nat} (hN:4194304 < N)
include hN in
theorem strs_dq (xs ys:List ByteArray) (hs:xs.length≤4194304):Dq (z91 N xs ys) (xs=ys):=by
 unfold z91
 refine dq_list hs _ (fun n k x y Q hk hx hy h=>?_) (fun n k hk=>?_) hN
 ·simp only [z91_l2,lt_t (get_lt hx),cT,idx_nat,hx,hy,bS,w64_succ (show k < 4611686018427387904 by omega)]
  exact Dq.cN nseq fun _=>h
 ·simp only [z91_l2,lt_f hk,cF,z91_k1]
include hN in
theorem rstrs_dq (xs ys:List ByteArray) (hs:xs.length≤4194304):Dq (z28 N xs ys) (xs=ys):=by
 unfold z28
 refine dq_list hs _ (fun n k x y Q hk hx hy h=>?_) (fun n k hk=>?_) hN
 ·simp only [z28_l2,lt_t (get_lt hx),cT,idx_nat,hx,hy,bS,w64_succ (show k < 4611686018427387904 by omega)]
  exact Dq.cN nseq fun _=>h
 ·simp only [z28_l2,lt_f hk,cF,z28_k1]
theorem fld_test (x y:T0):(!((x.Name.toList==y.Name.toList) && (((x.Sort'.Kind==y.Sort'.Kind) && ((x.Sort'.Lo==y.Sort'.Lo) && ((x.Sort'.Hi==y.Sort'.Hi) && true))) && true)))=false↔x=y:=by
 obtain ⟨n,⟨k,l,h⟩⟩:=x
 obtain ⟨n',⟨k',l',h'⟩⟩:=y
 simp only [Bool.not_eq_false',Bool.and_eq_true,seq',ibeq,T0.mk.injEq,T1.mk.injEq]
 constructor
 ·rintro ⟨a,⟨b,c,d,_⟩,_⟩;exact ⟨a,b,c,d⟩
 ·rintro ⟨a,b,c,d⟩;exact ⟨a,⟨b,c,d,trivial⟩,trivial⟩
theorem atm_test (x y:T9):(!(((x.Left.Kind==y.Left.Kind) && ((x.Left.Message.toList==y.Left.Message.toList) && ((x.Left.Field.toList==y.Left.Field.toList) && ((x.Left.N==y.Left.N) && true)))) && ((x.Op.toList==y.Op.toList) && (((x.Right.Kind==y.Right.Kind) && ((x.Right.Message.toList==y.Right.Message.toList) && ((x.Right.Field.toList==y.Right.Field.toList) && ((x.Right.N==y.Right.N) && true)))) && true))))=false↔x=y:=by
 obtain ⟨⟨k,m,f,n⟩,o,⟨k2,m2,f2,n2⟩⟩:=x
 obtain ⟨⟨k',m',f',n'⟩,o',⟨k2',m2',f2',n2'⟩⟩:=y
 simp only [Bool.not_eq_false',Bool.and_eq_true,seq',ibeq,T9.mk.injEq,T13.mk.injEq]
 constructor
 ·rintro ⟨⟨a,b,c,d,_⟩,e,⟨f,g,h,i,_⟩,_⟩;exact ⟨⟨a,b,c,d⟩,e,f,g,h,i⟩
 ·rintro ⟨⟨a,b,c,d⟩,e,f,g,h,i⟩;exact ⟨⟨a,b,c,d,trivial⟩,e,⟨f,g,h,i,trivial⟩,trivial⟩
theorem ratm_test (x y:T4):(!(((x.Left.Kind==y.Left.Kind) && ((x.Left.Message.toList==y.Left.Message.toList) && ((x.Left.Field.toList==y.Left.Field.toList) && ((x.Left.N==y.Left.N) && true)))) && ((x.Op.toList==y.Op.toList) && (((x.Right.Kind==y.Right.Kind) && ((x.Right.Message.toList==y.Right.Message.toList) && ((x.Right.Field.toList==y.Right.Field.toList) && ((x.Right.N==y.Right.N) && true)))) && true))))=false↔x=y:=by
 obtain ⟨⟨k,m,f,n⟩,o,⟨k2,m2,f2,n2⟩⟩:=x
 obtain ⟨⟨k',m',f',n'⟩,o',⟨k2',m2',f2',n2'⟩⟩:=y
 simp only [Bool.not_eq_false',Bool.and_eq_true,seq',ibeq,T4.mk.injEq,T13.mk.injEq]
 constructor
 ·rintro ⟨⟨a,b,c,d,_⟩,e,⟨f,g,h,i,_⟩,_⟩;exact ⟨⟨a,b,c,d⟩,e,f,g,h,i⟩
 ·rintro ⟨⟨a,b,c,d⟩,e,f,g,h,i⟩;exact ⟨⟨a,b,c,d,trivial⟩,e,⟨f,g,h,i,trivial⟩,trivial⟩
include hN in
theorem flds_dq (xs ys:List T0) (hs:xs.length≤4194304):Dq (z139 N xs ys) (xs=ys):=by
 unfold z139
 refine dq_list hs _ (fun n k x y Q hk hx hy h=>?_) (fun n k hk=>?_) hN
 ·simp only [z139_l2,lt_t (get_lt hx),cT,idx_nat,hx,hy,bS,w64_succ (show k < 4611686018427387904 by omega)]
  exact Dq.cN (fld_test x y) fun _=>h
 ·simp only [z139_l2,lt_f hk,cF,z139_k1]
include hN in
theorem atms_dq (xs ys:List T9) (hs:xs.length≤4194304):Dq (z140 N xs ys) (xs=ys):=by
 unfold z140
 refine dq_list hs _ (fun n k x y Q hk hx hy h=>?_) (fun n k hk=>?_) hN
 ·simp only [z140_l2,lt_t (get_lt hx),cT,idx_nat,hx,hy,bS,w64_succ (show k < 4611686018427387904 by omega)]
  exact Dq.cN (atm_test x y) fun _=>h
 ·simp only [z140_l2,lt_f hk,cF,z140_k1]
def bM (m:T11):Prop:=m.Fields.length≤4194304∧m.Where.length≤4194304
include hN in
theorem msg_dq (x y:T11) (hx:bM x):Dq (z93 N x y) (x=y):=by
 unfold z93
 refine (Dq.cA seq' fun _=>Dq.bA (flds_dq hN _ _ hx.1) fun _=>Dq.bS (atms_dq hN _ _ hx.2)).iff ?_
 obtain ⟨n,f,w⟩:=x
 obtain ⟨n',f',w'⟩:=y
 simp only [T11.mk.injEq]
include hN in
theorem msgs_dq (xs ys:List T11) (hs:xs.length≤4194304) (hb:∀ x∈xs,bM x):Dq (z92_17 N xs ys) (xs=ys):=by
 unfold z92_17
 refine dq_list hs _ (fun n k x y Q hk hx hy h=>?_) (fun n k hk=>?_) hN
 ·simp only [z92_17_l2,lt_t (get_lt hx),cT,idx_nat,hx,hy,bS,w64_succ (show k < 4611686018427387904 by omega)]
  exact Dq.bN (msg_dq hN x y (hb x (List.mem_of_getElem? hx))) fun _=>h
 ·simp only [z92_17_l2,lt_f hk,cF,z92_17_k1]
theorem items_dq:∀ (N:Nat) (xs ys:List T10),4194306+dL xs≤N→xs.length≤4194304→bL xs→Dq (z94_19 N xs ys) (xs=ys)
 | 0,_,_,h,_,_=>by omega
 | N+1,xs,ys,h,hs,hb=>by
  show Dq (z94_19_b N (z94_19 N) xs ys) _
  have hN:4194304 < N:=by omega
  unfold z94_19_b
  refine dq_list hs _ (fun n k x y Q hk hx hy h'=>?_) (fun n k hk=>?_) hN
  ·simp only [z94_19_l2,lt_t (get_lt hx),cT,idx_nat,hx,hy,bS,w64_succ (show k < 4611686018427387904 by omega)]
   have hm:=List.mem_of_getElem? hx
   have hbx:=(bI_eq x).1 (bL_mem hb hm)
   have hdx:=dL_mem hm
   rw [dI_eq] at hdx
   refine Dq.bN ?_ fun _=>h'
   unfold z95
   refine (Dq.cA ibeq fun _=>Dq.cA seq' fun _=>Dq.bA (strs_dq hN _ _ hbx.1) fun _=>Dq.cA seq' fun _=>Dq.cA seq' fun _=>Dq.cA ibeq fun _=>Dq.bS (C:=x.Blocks=y.Blocks) ?_).iff ?_
   ·unfold z141_18
    refine dq_list hbx.2.1 _ (fun n k u v Q hk hu hv h'=>?_) (fun n k hk=>?_) hN
    ·simp only [z141_18_l2,lt_t (get_lt hu),cT,idx_nat,hu,hv,bS,w64_succ (show k < 4611686018427387904 by omega)]
     refine Dq.bN ?_ fun _=>h'
     unfold z142
     have hmu:=List.mem_of_getElem? hu
     have:=dLL_mem hmu
     exact Dq.bS (items_dq N u v (by omega) (bLL_mem hbx.2.2 hmu).1 (bLL_mem hbx.2.2 hmu).2)
    ·simp only [z141_18_l2,lt_f hk,cF,z141_18_k1]
   ·obtain ⟨k,f,t,n,a,z,b⟩:=x
    obtain ⟨k',f',t',n',a',z',b'⟩:=y
    simp only [T10.mk.injEq]
  ·simp only [z94_19_l2,lt_f hk,cF,z94_19_k1]
structure bP (p:T12):Prop where
 r:p.Roles.length≤4194304
 m:p.Messages.length≤4194304
 ms:∀ x∈p.Messages,bM x
 l:p.Body.length≤4194304
 b:bL p.Body
theorem prot_dq (p q:T12) (hp:bP p) (hN:4194306+dL p.Body≤N):Dq (z46 N p q) (p=q):=by
 unfold z46
 refine (Dq.cA seq' fun _=>Dq.bA (strs_dq (by omega) _ _ hp.r) fun _=>Dq.bA (msgs_dq (by omega) _ _ hp.m hp.ms) fun _=>Dq.bS (items_dq N _ _ hN hp.l hp.b)).iff ?_
 obtain ⟨n,f,w,b⟩:=p
 obtain ⟨n',f',w',b'⟩:=q
 simp only [T12.mk.injEq]
include hN in
theorem equal_dq (xs ys:List T12) (hs:xs.length≤4194304) (hb:∀ p∈xs,bP p∧4194306+dL p.Body≤N):Dq (z20 N xs ys) (xs=ys):=by
 unfold z20 z45_20
 refine Dq.bS ?_
 refine dq_list hs _ (fun n k x y Q hk hx hy h=>?_) (fun n k hk=>?_) hN
 ·simp only [z45_20_l2,lt_t (get_lt hx),cT,idx_nat,hx,hy,bS,w64_succ (show k < 4611686018427387904 by omega)]
  obtain ⟨h1,h2⟩:=hb x (List.mem_of_getElem? hx)
  exact Dq.bN (prot_dq x y h1 h2) fun _=>h
 ·simp only [z45_20_l2,lt_f hk,cF,z45_20_k1]
end Gp
end
section
namespace Gp
open Go Go.Kx Gx
theorem fold_loop {α γ σ:Type} (xs:List α) (F:Nat→σ→Int→γ) (step:σ→α→σ) (fin:σ→γ) (Inv:Nat→σ→Prop)
  (h1:∀ (n k:Nat) s x,Inv k s→xs[k]? = some x→F (n+1) s (k:Int)=F n (step s x) ((k+1:Nat):Int)∧Inv (k+1) (step s x))
  (h2:∀ (n k:Nat) s,Inv k s→xs.length≤k→F (n+1) s (k:Int)=fin s) {N:Nat} {s:σ} (hN:xs.length < N) (h0:Inv 0 s) :
  F N s (0:Int)=fin (xs.foldl step s)∧Inv xs.length (xs.foldl step s):=by
 have key:∀ (l:List α) (k n:Nat) (s:σ),xs.drop k=l→l.length < n→Inv k s→F n s (k:Int)=fin (l.foldl step s)∧Inv (k+l.length) (l.foldl step s):=by
  intro l
  induction l with
  | nil =>
   intro k n s h hn hi
   obtain ⟨n,rfl⟩:∃ m,n=m+1:=⟨n-1,by simp at hn;omega⟩
   exact ⟨h2 n k s hi (drop_nil h),hi⟩
  | cons x l ih =>
   intro k n s h hn hi
   obtain ⟨n,rfl⟩:∃ m,n=m+1:=⟨n-1,by simp at hn;omega⟩
   obtain ⟨a,c,d⟩:=drop_cons h
   obtain ⟨e1,e2⟩:=h1 n k s x hi c
   obtain ⟨e3,e4⟩:=ih (k+1) n _ d (by simp at hn;omega) e2
   refine ⟨e1.trans e3,?_⟩
   rw [List.length_cons,show k+(l.length+1)=k+1+l.length by omega]
   exact e4
 have:=key xs 0 N s rfl hN h0
 rw [Nat.zero_add] at this
 exact this
mutual
def cI:T10→Nat
 | ⟨_,_,_,_,_,_,b⟩=>cLL b+1
def cL:List T10→Nat
 | []=>0
 | x::l=>cI x+cL l
def cLL:List (List T10)→Nat
 | []=>0
 | x::l=>cL x+cLL l
end
theorem cI_eq (x:T10):cI x=cLL x.Blocks+1:=by cases x;simp only [cI]
mutual
theorem dc_I:∀ x,dI x≤cI x
 | ⟨_,_,_,_,_,_,b⟩=>by simp only [dI,cI];have:=dc_LL b;omega
theorem dc_L:∀ l,dL l≤cL l
 | []=>by simp only [dL,cL];omega
 | x::l=>by simp only [dL,cL];have:=dc_I x;have:=dc_L l;omega
theorem dc_LL:∀ l,dLL l≤cLL l
 | []=>by simp only [dLL,cLL];omega
 | x::l=>by simp only [dLL,cLL];have:=dc_L x;have:=dc_LL l;omega
end
theorem drop_get {α:Type} {xs:List α} {k:Nat} {x:α} (h:xs[k]? = some x):xs.drop k=x::xs.drop (k+1):=by
 obtain ⟨hk,rfl⟩:=List.getElem?_eq_some_iff.1 h
 exact List.drop_eq_getElem_cons hk
theorem cL_fold:∀ (l:List T5) (s:Int),l.foldl (fun s x=>s+(cI (oI x):Int)) s=s+(cL (oL l):Int)
 | [],s=>by simp [oL,cL]
 | x::l,s=>by rw [List.foldl_cons,cL_fold l];simp only [oL,cL];push_cast;omega
theorem cLL_fold:∀ (l:List (List T5)) (s:Int),l.foldl (fun s x=>s+(cL (oL x):Int)) s=s+(cLL (oLL l):Int)
 | [],s=>by simp [oLL,cLL]
 | x::l,s=>by rw [List.foldl_cons,cLL_fold l];simp only [oLL,cLL];push_cast;omega
theorem oLL_len (l:List (List T5)):(oLL l).length=l.length:=by rw [oLL_map,List.length_map]
theorem oL_len (l:List T5):(oL l).length=l.length:=by rw [oL_map,List.length_map]
theorem oL_in {l:List T5} {x} (h:x∈l):oI x∈oL l:=by rw [oL_map];exact List.mem_map.2 ⟨x,h,rfl⟩
theorem oLL_in {l:List (List T5)} {x} (h:x∈l):oL x∈oLL l:=by rw [oLL_map];exact List.mem_map.2 ⟨x,h,rfl⟩
theorem oI_blocks (x:T5):(oI x).Blocks=oLL x.Blocks:=by rw [oI_eq]
theorem oI_to (x:T5):(oI x).To=x.To:=by rw [oI_eq]
theorem count_eq':∀ (N:Nat) (xs:List T5),4194306+dL (oL xs)≤N→xs.length≤4194304→bL (oL xs)→cL (oL xs)≤1099511627776→z37 N xs=some ((cL (oL xs):Nat):Int)
 | 0,_,h,_,_,_=>by omega
 | N+1,xs,h,hs,hb,hc=>by
  show z37_b N (z37 N) xs=_
  unfold z37_b
  have hN:4194304 < N:=by omega
  have inner:∀ (k:Nat) (x:T5) (s:Int) (ag:Int→Int→Option Int),xs[k]? = some x→0≤s→s+(cLL (oLL x.Blocks):Int)≤1099511627776 →
    z37_l4 (z37 N) xs (k:Int) ag N s (0:Int)=ag (s+(cLL (oLL x.Blocks):Int)) ((k+1:Nat):Int):=by
   intro k x s ag hx h0 hle
   have hm:=List.mem_of_getElem? hx
   have hbx:=(bI_eq _).1 (bL_mem hb (oL_in hm))
   rw [oI_blocks,oLL_len] at hbx
   have hdx:=dL_mem (oL_in hm)
   rw [dI_eq,oI_blocks] at hdx
   have hk:=get_lt hx
   have:=(fold_loop x.Blocks (z37_l4 (z37 N) xs (k:Int) ag) (fun s b=>s+(cL (oL b):Int)) (fun s=>ag s ((k+1:Nat):Int))
    (fun j s=>0≤s∧s+(cLL (oLL (x.Blocks.drop j)):Int)≤1099511627776) (fun n j s b hi hj=>?_) (fun n j s hi hj=>?_) (N:=N) (s:=s) (by omega) ⟨h0,by rw [List.drop_zero];exact hle⟩).1
   ·rw [this,cLL_fold]
   ·obtain ⟨h1,h2⟩:=hi
    rw [drop_get hj] at h2
    simp only [oLL,cLL] at h2
    have hmb:=List.mem_of_getElem? hj
    have hbb:=bLL_mem hbx.2.2 (oLL_in hmb)
    have hdb:=dLL_mem (oLL_in hmb)
    rw [oL_len] at hbb
    have e:=count_eq' N b (by omega) hbb.1 hbb.2 (by omega)
    refine ⟨?_,by omega,by push_cast at h2;omega⟩
    simp only [z37_l4,idx_nat,hx,bS,lt_t (get_lt hj),cT,hj,e]
    rw [w64_id (by omega) (by omega),w64_succ (by have:=get_lt hj;omega)]
   ·simp only [z37_l4,idx_nat,hx,bS,lt_f hj,cF,z37_k3]
    rw [w64_succ (by omega)]
  have:=(fold_loop xs (z37_l2 N (z37 N) xs) (fun s x=>s+(cI (oI x):Int)) (fun s=>some s)
   (fun j s=>0≤s∧s+(cL (oL (xs.drop j)):Int)≤1099511627776) (fun n k s x hi hx=>?_) (fun n k s hi hk=>?_) (N:=N) (s:=0) (by omega) ⟨by omega,by rw [List.drop_zero];omega⟩).1
  ·rw [this,cL_fold];simp
  ·obtain ⟨h1,h2⟩:=hi
   rw [drop_get hx] at h2
   simp only [oL,cL] at h2
   have hcx:=cI_eq (oI x)
   rw [oI_blocks] at hcx
   refine ⟨?_,by omega,by push_cast at h2;omega⟩
   simp only [z37_l2,lt_t (get_lt hx),cT]
   rw [w64_id (by omega) (by omega),inner k x (s+1) _ hx (by omega) (by omega),hcx]
   congr 1
   push_cast;omega
  ·simp only [z37_l2,lt_f hk,cF,z37_k1]
def oA (a:T4):T9:=⟨a.Left,a.Op,a.Right⟩
def tA (a:T9):T4:=⟨a.Left,a.Op,a.Right⟩
def oM (m:T6):T11:=⟨m.Name,m.Fields,m.Where.map oA⟩
def tM (m:T11):T6:=⟨m.Name,m.Fields,m.Where.map tA⟩
def oP (p:T7):T12:=⟨p.Name,p.Roles,p.Messages.map oM,oL p.Body⟩
def tP (p:T12):T7:=⟨p.Name,p.Roles,p.Messages.map tM,tL p.Body⟩
theorem map_id' {α β:Type} {f:α→β} {g:β→α} (h:∀ x,f (g x)=x) (l:List β):(l.map g).map f=l:=by
 induction l with
 | nil=>rfl
 | cons x l ih=>rw [List.map_cons,List.map_cons,h,ih]
theorem to_A (a):tA (oA a)=a:=rfl
theorem to_M (m):tM (oM m)=m:=by obtain ⟨n,f,w⟩:=m;simp only [oM,tM,map_id' to_A]
theorem to_P (m):tP (oP m)=m:=by obtain ⟨n,f,w,b⟩:=m;simp only [oP,tP,map_id' to_M,to_L]
theorem oPs_inj {a b:List T7}:a.map oP=b.map oP↔a=b:=⟨fun h=>by rw [← map_id' to_P a,h,map_id' to_P],fun h=>by rw [h]⟩
theorem snoc_fold {α β:Type} (f:α→β):∀ (l:List α) (s:List β),l.foldl (fun s x=>s++[f x]) s=s++l.map f
 | [],s=>by simp
 | x::l,s=>by rw [List.foldl_cons,snoc_fold f l,List.map_cons];simp
theorem own_items:∀ (N:Nat) (xs:List T5),4194306+dL (oL xs)≤N→xs.length≤4194304→bL (oL xs)→z38 N xs=some (oL xs)
 | 0,_,h,_,_=>by omega
 | N+1,xs,h,hs,hb=>by
  show z38_b N (z38 N) xs=_
  unfold z38_b
  have hN:4194304 < N:=by omega
  have inner:∀ (k:Nat) (x:T5) (acc:List T10) (ag:List T10→Int→Option (List T10)),xs[k]? = some x→acc.length≤4194304 →
    z38_l4 (z38 N) acc (k:Int) ag x N [] (0:Int)=ag (acc++[oI x]) ((k+1:Nat):Int):=by
   intro k x acc ag hx hacc
   have hm:=List.mem_of_getElem? hx
   have hbx:=(bI_eq _).1 (bL_mem hb (oL_in hm))
   rw [oI_blocks,oLL_len] at hbx
   have hdx:=dL_mem (oL_in hm)
   rw [dI_eq,oI_blocks] at hdx
   have hk:=get_lt hx
   have:=(fold_loop x.Blocks (z38_l4 (z38 N) acc (k:Int) ag x) (fun s b=>s++[oL b]) (fun s=>z38_k3 acc (k:Int) ag x s)
    (fun j s=>s.length=j) (fun n j s b hi hj=>?_) (fun n j s hi hj=>?_) (N:=N) (s:=[]) (by omega) rfl).1
   ·rw [this,snoc_fold,List.nil_append,← oLL_map]
    unfold z38_k3
    rw [appL_some (by simp;omega),bS,w64_succ (by omega),oI_eq]
   ·have hmb:=List.mem_of_getElem? hj
    have hbb:=bLL_mem hbx.2.2 (oLL_in hmb)
    have hdb:=dLL_mem (oLL_in hmb)
    rw [oL_len] at hbb
    have e:=own_items N b (by omega) hbb.1 hbb.2
    have hjl:=get_lt hj
    refine ⟨?_,by simp [hi]⟩
    simp only [z38_l4,lt_t hjl,cT,idx_nat,hj,bS,e]
    rw [appL_some (by simp;omega),bS,w64_succ (by omega)]
   ·simp only [z38_l4,lt_f hj,cF]
  have:=(fold_loop xs (z38_l2 N (z38 N) xs) (fun s x=>s++[oI x]) (fun s=>some s)
   (fun j s=>s.length=j) (fun n k s x hi hx=>?_) (fun n k s hi hk=>?_) (N:=N) (s:=[]) (by omega) rfl).1
  ·rw [this,snoc_fold,List.nil_append,← oL_map]
  ·have hk:=get_lt hx
   refine ⟨?_,by simp [hi]⟩
   simp only [z38_l2,lt_t hk,cT,idx_nat,hx,bS]
   rw [inner k x s _ hx (by omega)]
  ·simp only [z38_l2,lt_f hk,cF,z38_k1]
end Gp
end
section
namespace Gp
open Go Go.Kx Gx
variable {N:Nat} (hN:4194304 < N)
def RP (p:T7):Prop:=bP (oP p)
theorem oM_w (m:T6):(oM m).Where.length=m.Where.length:=by show (m.Where.map oA).length=_;simp
theorem RP_ms {p:T7} (h:RP p) {m} (hm:m∈p.Messages):m.Fields.length≤4194304∧m.Where.length≤4194304:=by
 have:=h.ms (oM m) (List.mem_map.2 ⟨m,hm,rfl⟩)
 have h2:=this.2
 rw [oM_w] at h2
 exact ⟨this.1,h2⟩
theorem RP_m {p:T7} (h:RP p):p.Messages.length≤4194304:=by
 have:=h.m
 have e:(oP p).Messages.length=p.Messages.length:=by show (p.Messages.map oM).length=_;simp
 omega
theorem RP_l {p:T7} (h:RP p):p.Body.length≤4194304:=by
 have:=h.l
 have e:(oP p).Body.length=p.Body.length:=oL_len _
 omega
include hN in
theorem own_eq (xs:List T7) (hs:xs.length≤4194304) (hb:∀ p∈xs,RP p∧4194306+dL (oL p.Body)≤N):z17 N xs=some (xs.map oP):=by
 unfold z17
 have i3:∀ (ms:List T11) (j:Nat) (ag:List T11→Int→Option (List T12)) (m:T6),ms.length≤4194304→j < 4194304→m.Where.length≤4194304 →
   z17_l6 ms (j:Int) ag m N [] (0:Int)=ag (ms++[oM m]) ((j+1:Nat):Int):=by
  intro ms j ag m h1 h2 h3
  have:=(fold_loop m.Where (z17_l6 ms (j:Int) ag m) (fun s a=>s++[oA a]) (fun s=>z17_k5 ms (j:Int) ag m s) (fun i s=>s.length=i)
   (fun n i s a hi ha=>?_) (fun n i s hi ha=>?_) (N:=N) (s:=[]) (by omega) rfl).1
  ·rw [this,snoc_fold,List.nil_append]
   unfold z17_k5
   rw [appL_some (by simp;omega),bS,w64_succ (by omega)]
   rfl
  ·have hj:=get_lt ha
   refine ⟨?_,by simp [hi]⟩
   simp only [z17_l6,lt_t hj,cT,idx_nat,ha,bS]
   rw [appL_some (by simp;omega),bS,w64_succ (by omega)]
   rfl
  ·simp only [z17_l6,lt_f ha,cF]
 have i2:∀ (ps:List T12) (j:Nat) (ag:List T12→Int→Option (List T12)) (p:T7) (b:List T10),ps.length≤4194304→j < 4194304→RP p →
   z17_l4 N ps (j:Int) ag p b N [] (0:Int)=ag (ps++[⟨p.Name,p.Roles,p.Messages.map oM,b⟩]) ((j+1:Nat):Int):=by
  intro ps j ag p b h1 h2 h3
  have hpm:=RP_m h3
  have:=(fold_loop p.Messages (z17_l4 N ps (j:Int) ag p b) (fun s a=>s++[oM a]) (fun s=>z17_k3 ps (j:Int) ag p b s) (fun i s=>s.length=i)
   (fun n i s a hi ha=>?_) (fun n i s hi ha=>?_) (N:=N) (s:=[]) (by omega) rfl).1
  ·rw [this,snoc_fold,List.nil_append]
   unfold z17_k3
   rw [appL_some (by simp;omega),bS,w64_succ (by omega)]
  ·have hj:=get_lt ha
   refine ⟨?_,by simp [hi]⟩
   simp only [z17_l4,lt_t hj,cT,idx_nat,ha,bS]
   rw [i3 s i _ a (by omega) (by omega) (RP_ms h3 (List.mem_of_getElem? ha)).2]
  ·simp only [z17_l4,lt_f ha,cF]
 have:=(fold_loop xs (z17_l2 N xs) (fun s a=>s++[oP a]) (fun s=>some s) (fun i s=>s.length=i)
   (fun n i s a hi ha=>?_) (fun n i s hi ha=>?_) (N:=N) (s:=[]) (by omega) rfl).1
 ·rw [this,snoc_fold,List.nil_append]
 ·have hj:=get_lt ha
  refine ⟨?_,by simp [hi]⟩
  obtain ⟨h1,h2⟩:=hb a (List.mem_of_getElem? ha)
  simp only [z17_l2,lt_t hj,cT,idx_nat,ha,bS]
  rw [own_items N a.Body h2 (RP_l h1) h1.b,bS,i2 s i _ a _ (by omega) (by omega) h1]
  rfl
 ·simp only [z17_l2,lt_f ha,cF,z17_k1]
theorem ritems_dq:∀ (N:Nat) (xs ys:List T5),4194306+dL (oL xs)≤N→xs.length≤4194304→bL (oL xs)→Dq (z30 N xs ys) (xs=ys)
 | 0,_,_,h,_,_=>by omega
 | N+1,xs,ys,h,hs,hb=>by
  show Dq (z30_b N (z30 N) xs ys) _
  have hN:4194304 < N:=by omega
  unfold z30_b
  refine dq_list hs _ (fun n k x y Q hk hx hy h'=>?_) (fun n k hk=>?_) hN
  ·simp only [z30_l2,lt_t (get_lt hx),cT,idx_nat,hx,hy,bS]
   have hm:=List.mem_of_getElem? hx
   have hbx:=(bI_eq _).1 (bL_mem hb (oL_in hm))
   rw [oI_blocks,oLL_len,oI_to] at hbx
   have hdx:=dL_mem (oL_in hm)
   rw [dI_eq,oI_blocks] at hdx
   refine (Dq.cN nbeq fun _=>Dq.cN nseq fun _=>Dq.bN (rstrs_dq hN _ _ hbx.1) fun _=>Dq.cN nseq fun _=>Dq.cN nseq fun _=>Dq.cN nbeq fun _=>Dq.cN nlen fun hl =>
    dq_loop (R:=fun u v=>u=v) (E:=Q) hl hbx.2.1 _ (fun n j u v Q' hj hu hv h''=>?_) (fun n j hj=>?_) (N:=N) (by omega)).iff ?_
   ·simp only [z30_l4,lt_t (get_lt hu),cT,idx_nat,hu,hv,bS,w64_succ (show j < 4611686018427387904 by omega)]
    have hmu:=List.mem_of_getElem? hu
    have hd:=dLL_mem (oLL_in hmu)
    have hbb:=bLL_mem hbx.2.2 (oLL_in hmu)
    rw [oL_len] at hbb
    exact Dq.bN (ritems_dq N u v (by omega) hbb.1 hbb.2) fun _=>h''
   ·simp only [z30_l4,lt_f hj,cF,z30_k3,w64_succ (show k < 4611686018427387904 by omega)]
    exact h'
   ·obtain ⟨k,f,t,n,a,z,b⟩:=x
    obtain ⟨k',f',t',n',a',z',b'⟩:=y
    simp only [T5.mk.injEq]
    constructor
    ·rintro ⟨e1,e2,e3,e4,e5,e6,e7,e8,e9⟩
     exact ⟨⟨e1,e2,e3,e4,e5,e6,(list_pt e7).1 ⟨e8,trivial⟩⟩,e9⟩
    ·rintro ⟨⟨e1,e2,e3,e4,e5,e6,e7⟩,e9⟩
     exact ⟨e1,e2,e3,e4,e5,e6,by rw [e7],((list_pt (by rw [e7])).2 e7).1,e9⟩
  ·simp only [z30_l2,lt_f hk,cF,z30_k1]
include hN in
theorem rmsgs_dq (xs ys:List T6) (hs:xs.length≤4194304) (hb:∀ m∈xs,m.Fields.length≤4194304∧m.Where.length≤4194304):Dq (z29 N xs ys) (xs=ys):=by
 unfold z29
 refine dq_list hs _ (fun n k x y Q hk hx hy h'=>?_) (fun n k hk=>?_) hN
 ·simp only [z29_l2,lt_t (get_lt hx),cT,idx_nat,hx,hy,bS]
  obtain ⟨b1,b2⟩:=hb x (List.mem_of_getElem? hx)
  refine (Dq.cN nseq fun _=>Dq.cN nlen fun l1=>Dq.cN nlen fun l2 =>
   dq_loop (R:=fun u v=>u=v) l1 b1 _ (E:=(∀ (i:Nat) u v,x.Where[i]? = some u→y.Where[i]? = some v→u=v)∧Q) (fun n j u v Q' hj hu hv h''=>?_) (fun n j hj=>?_) (N:=N) (by omega)).iff ?_
  ·simp only [z29_l6,idx_nat,hx,hy,bS,lt_t (get_lt hu),cT,hu,hv,w64_succ (show j < 4611686018427387904 by omega)]
   exact Dq.cN (fld_test u v) fun _=>h''
  ·simp only [z29_l6,idx_nat,hx,bS,lt_f hj,cF,z29_k5]
   refine dq_loop (R:=fun u v=>u=v) l2 b2 _ (E:=Q) (fun n j u v Q' hj hu hv h''=>?_) (fun n j hj=>?_) (N:=N) (by omega)
   ·simp only [z29_l4,idx_nat,hx,hy,bS,lt_t (get_lt hu),cT,hu,hv,w64_succ (show j < 4611686018427387904 by omega)]
    exact Dq.cN (ratm_test u v) fun _=>h''
   ·simp only [z29_l4,idx_nat,hx,bS,lt_f hj,cF,z29_k3,w64_succ (show k < 4611686018427387904 by omega)]
    exact h'
  ·obtain ⟨n,f,w⟩:=x
   obtain ⟨n',f',w'⟩:=y
   simp only [T6.mk.injEq]
   constructor
   ·rintro ⟨e1,e2,e3,e4,e5,e6⟩
    exact ⟨⟨e1,(list_pt e2).1 ⟨e4,trivial⟩,(list_pt e3).1 ⟨e5,trivial⟩⟩,e6⟩
   ·rintro ⟨⟨e1,e2,e3⟩,e6⟩
    exact ⟨e1,by rw [e2],by rw [e3],((list_pt (by rw [e2])).2 e2).1,((list_pt (by rw [e3])).2 e3).1,e6⟩
 ·simp only [z29_l2,lt_f hk,cF,z29_k1]
include hN in
theorem requal_dq (xs ys:List T7) (hs:xs.length≤4194304) (hb:∀ p∈xs,RP p∧4194306+dL (oL p.Body)≤N):Dq (z12 N xs ys) (xs=ys):=by
 unfold z12
 refine dq_list hs _ (fun n k x y Q hk hx hy h'=>?_) (fun n k hk=>?_) hN
 ·simp only [z12_l2,lt_t (get_lt hx),cT,idx_nat,hx,hy,bS,w64_succ (show k < 4611686018427387904 by omega)]
  obtain ⟨h1,h2⟩:=hb x (List.mem_of_getElem? hx)
  refine (Dq.cN nseq fun _=>Dq.bN (rstrs_dq hN _ _ h1.r) fun _=>Dq.bN (rmsgs_dq hN _ _ (RP_m h1) fun m hm=>RP_ms h1 hm) fun _=>Dq.bN (ritems_dq N _ _ h2 (RP_l h1) h1.b) fun _=>h').iff ?_
  obtain ⟨n,f,w,b⟩:=x
  obtain ⟨n',f',w',b'⟩:=y
  simp only [T7.mk.injEq]
  constructor
  ·rintro ⟨e1,e2,e3,e4,e5⟩;exact ⟨⟨e1,e2,e3,e4⟩,e5⟩
  ·rintro ⟨⟨e1,e2,e3,e4⟩,e5⟩;exact ⟨e1,e2,e3,e4,e5⟩
 ·simp only [z12_l2,lt_f hk,cF,z12_k1]
end Gp
end
section
namespace Gp
open Go Go.Kx Gx
variable {N:Nat} (hN:4194304 < N)
def cPs (l:List T7):Nat:=(l.map fun p=>cL (oL p.Body)).sum
def mPs (l:List T7):Nat:=(l.map fun p=>p.Messages.length).sum
def MsOk (p:T7):Prop:=∀ m∈p.Messages,m.Fields.length≤8∧m.Where.length≤10
def FewP (l:List T7):Prop:=(∀ p∈l,MsOk p)∧l.length≤12∧cPs l≤320∧mPs l≤60
theorem gt_lem {a b:Nat}:decide ((a:Int) > (b:Int))=false↔a≤b:=by simp
include hN in
theorem few_dq (l:List T7) (hs:l.length≤4194304) (hb:∀ p∈l,RP p∧4194306+dL (oL p.Body)≤N) (hc:cPs l≤1099511627776):Dq (z15 N l) (FewP l):=by
 unfold z15
 have key:∀ (l2:List T7) (k n:Nat) (s t:Nat),l.drop k=l2→l2.length < n→s+cPs l2≤1099511627776→t≤k * 4194304 →
   Dq (z15_l2 N l n (s:Int) (t:Int) (k:Int)) ((∀ p∈l2,MsOk p)∧l.length≤12∧s+cPs l2≤320∧t+mPs l2≤60):=by
  intro l2
  induction l2 with
  | nil =>
   intro k n s t h hn hcs ht
   obtain ⟨n,rfl⟩:∃ m,n=m+1:=⟨n-1,by simp at hn;omega⟩
   simp only [z15_l2,lt_f (drop_nil h),cF,z15_k1]
   refine (Dq.cA (C:=l.length≤12) (by rw [decide_eq_true_eq];omega) fun _=>Dq.cA (C:=s≤320) (by rw [decide_eq_true_eq];omega) fun _=>Dq.bool _).iff ?_
   simp only [decide_eq_true_eq,cPs,mPs,List.map_nil,List.sum_nil,Nat.add_zero,List.not_mem_nil,false_implies,implies_true,true_and]
   omega
  | cons p l2 ih =>
   intro k n s t h hn hcs ht
   obtain ⟨n,rfl⟩:∃ m,n=m+1:=⟨n-1,by simp at hn;omega⟩
   obtain ⟨a,c,d⟩:=drop_cons h
   have hm:=List.mem_of_getElem? c
   obtain ⟨h1,h2⟩:=hb p hm
   have e0:cPs (p::l2)=cL (oL p.Body)+cPs l2:=by simp [cPs]
   have e1:mPs (p::l2)=p.Messages.length+mPs l2:=by simp [mPs]
   have hpm:=RP_m h1
   simp only [z15_l2,lt_t a,cT,idx_nat,c,bS]
   rw [count_eq' N p.Body h2 (RP_l h1) h1.b (by omega),bS]
   refine (dq_loop (xs:=p.Messages) (ys:=p.Messages) rfl hpm (R:=fun m _=>m.Fields.length≤8∧m.Where.length≤10)
    (z15_l4 l (s:Int) (t:Int) (k:Int) (z15_l2 N l n) ((cL (oL p.Body):Nat):Int) p)
    (E:=(∀ p∈l2,MsOk p)∧l.length≤12∧s+cL (oL p.Body)+cPs l2≤320∧t+p.Messages.length+mPs l2≤60) (fun n' j u v Q hj hu hv h'=>?_) (fun n' j hj=>?_) (N:=N) (by omega)).iff ?_
   ·simp only [z15_l4,idx_nat,c,bS,lt_t (get_lt hu),cT,hu,w64_succ (show j < 4611686018427387904 by omega)]
    refine (Dq.cN (C:=u.Fields.length≤8) (gt_lem (b:=8)) fun _=>Dq.cN (C:=u.Where.length≤10) (gt_lem (b:=10)) fun _=>h').iff ⟨fun q=>⟨⟨q.1,q.2.1⟩,q.2.2⟩,fun q=>⟨q.1.1,q.1.2,q.2⟩⟩
   ·simp only [z15_l4,idx_nat,c,bS,lt_f hj,cF,z15_k3]
    rw [w64_id (by omega) (by omega),w64_id (by omega) (by omega),w64_succ (by omega)]
    have:=ih (k+1) n (s+cL (oL p.Body)) (t+p.Messages.length) d (by simp at hn;omega) (by omega) (by omega)
    push_cast at this
    exact this
   ·rw [e0,e1]
    constructor
    ·rintro ⟨q1,q2,q3,q4,q5⟩
     refine ⟨fun x hx=>?_,q3,by omega,by omega⟩
     rcases List.mem_cons.1 hx with rfl | hx
     ·intro m hm
      obtain ⟨i,hi⟩:=List.mem_iff_getElem?.1 hm
      exact q1 i m m hi hi
     ·exact q2 x hx
    ·rintro ⟨q1,q2,q3,q4⟩
     exact ⟨fun i u v hu _=>q1 p (List.mem_cons_self ..) u (List.mem_of_getElem? hu),fun x hx=>q1 x (List.mem_cons_of_mem _ hx),q2,by omega,by omega⟩
 have:=key l 0 N 0 0 rfl (by omega) (by omega) (by omega)
 refine this.iff ?_
 unfold FewP
 simp only [Nat.zero_add]
theorem equal_law (a b:List T7) (s:ByteArray) (hw:z9 N=some true) (ha:a.length≤4194304) (hA:∀ p∈a,RP p∧4194306+dL (oL p.Body)≤N) (hca:cPs a≤1099511627776)
  (hb:b.length≤4194304) (hB:∀ p∈b,RP p∧4194306+dL (oL p.Body)≤N) (hcb:cPs b≤1099511627776) (hN:4194304 < N):law10_SyntaxEqual N a b s=some true:=by
 obtain ⟨f1,e1,_⟩:=few_dq hN a ha hA hca
 obtain ⟨f2,e2,_⟩:=few_dq hN b hb hB hcb
 have o1:=own_eq hN a ha hA
 have o2:=own_eq hN b hb hB
 have hA':∀ p∈a.map oP,bP p∧4194306+dL p.Body≤N:=fun p hp=>by
  obtain ⟨q,hq,rfl⟩:=List.mem_map.1 hp
  exact hA q hq
 obtain ⟨r1,q1,h1⟩:=equal_dq hN (a.map oP) (b.map oP) (by simp;omega) hA'
 obtain ⟨r2,q2,h2⟩:=equal_dq hN (a.map oP) (a.map oP) (by simp;omega) hA'
 obtain ⟨r3,q3,h3⟩:=requal_dq hN a b ha hA
 have hr2:r2=true:=h2.2 rfl
 have hr:r1=r3:=by rw [Bool.eq_iff_iff,h1,h3,oPs_inj]
 unfold law10_SyntaxEqual
 rw [hw,e1,e2,o1,o2]
 simp only [bS,q1,q2,q3,Bool.not_true,cF]
 cases f1
 ·rfl
 cases f2
 ·rfl
 simp only [Bool.not_true,cF]
 by_cases hs:s.size≤200
 ·rw [show decide ((s.size:Int) > 200)=false by simp;omega,cF]
  rw [hr,hr2,beq_self_eq_true,cT,cT,path_eq hN s,refPath_eq hN s (by omega)]
  simp
 ·rw [show decide ((s.size:Int) > 200)=true by simp;omega];rfl
end Gp
end
section
namespace Gx
open Go Go.Kx
def k_api_Sort (x:T1):Prop:=((Lit.int .i64 x.Kind).wf=true)∧((Lit.int .i64 x.Lo).wf=true)∧((Lit.int .i64 x.Hi).wf=true)
def k_api_Field (x:T0):Prop:=(x.Name.size≤bd)∧(k_api_Sort x.Sort')
def k_ref10_Term (x:T13):Prop:=((Lit.int .i64 x.Kind).wf=true)∧(x.Message.size≤bd)∧(x.Field.size≤bd)∧((Lit.int .i64 x.N).wf=true)
def k_ref10_Atom (x:T4):Prop:=(k_ref10_Term x.Left)∧(x.Op.size≤bd)∧(k_ref10_Term x.Right)
def k_ref10_Message (x:T6):Prop:=(x.Name.size≤bd)∧(x.Fields.length≤bd∧∀ y∈x.Fields,k_api_Field y)∧(x.Where.length≤bd∧∀ y∈x.Where,k_ref10_Atom y)
mutual
def k_ref10_Item:T5→Prop
 | ⟨a0,a1,a2,a3,a4,a5,a6⟩=>((Lit.int .i64 a0).wf=true)∧(a1.size≤bd)∧(a2.length≤bd∧∀ y∈a2,y.size≤bd)∧(a3.size≤bd)∧(a4.size≤bd)∧((Lit.int .i64 a5).wf=true)∧(a6.length≤bd∧kLL_ref10_Item a6)
def kL_ref10_Item:List T5→Prop
 | []=>True
 | x::l=>k_ref10_Item x∧kL_ref10_Item l
def kLL_ref10_Item:List (List T5)→Prop
 | []=>True
 | x::l=>(x.length≤bd∧kL_ref10_Item x)∧kLL_ref10_Item l
end
mutual
def w_ref10_Item:T5→Nat
 | ⟨_,_,_,_,_,_,a6⟩=>wLL_ref10_Item a6+1
def wL_ref10_Item:List T5→Nat
 | []=>0
 | x::l=>w_ref10_Item x+wL_ref10_Item l
def wLL_ref10_Item:List (List T5)→Nat
 | []=>0
 | x::l=>wL_ref10_Item x+wLL_ref10_Item l
end
theorem wL_ref10_Item_eq:∀ l,wL_ref10_Item l=wsum w_ref10_Item l
 | []=>by simp only [wL_ref10_Item,wsum]
 | x::l=>by simp only [wL_ref10_Item,wsum];rw [wL_ref10_Item_eq l]
theorem kL_ref10_Item_of:∀ l,(∀ x∈l,k_ref10_Item x)→kL_ref10_Item l
 | [],_=>by simp only [kL_ref10_Item]
 | x::l,h=>by simp only [kL_ref10_Item];exact ⟨h x (List.mem_cons_self ..),kL_ref10_Item_of l fun y hy=>h y (List.mem_cons_of_mem _ hy)⟩
theorem wLL_ref10_Item_eq:∀ l,wLL_ref10_Item l=wsum (wsum w_ref10_Item) l
 | []=>by simp only [wLL_ref10_Item,wsum]
 | x::l=>by simp only [wLL_ref10_Item,wsum];rw [wLL_ref10_Item_eq l,wL_ref10_Item_eq]
theorem kLL_ref10_Item_of:∀ l,(∀ x∈l,x.length≤bd∧∀ y∈x,k_ref10_Item y)→kLL_ref10_Item l
 | [],_=>by simp only [kLL_ref10_Item]
 | x::l,h=>by simp only [kLL_ref10_Item];exact ⟨⟨(h x (List.mem_cons_self ..)).1,kL_ref10_Item_of x (h x (List.mem_cons_self ..)).2⟩,kLL_ref10_Item_of l fun y hy=>h y (List.mem_cons_of_mem _ hy)⟩
def k_ref10_Protocol (x:T7):Prop:=(x.Name.size≤bd)∧(x.Roles.length≤bd∧∀ y∈x.Roles,y.size≤bd)∧(x.Messages.length≤bd∧∀ y∈x.Messages,k_ref10_Message y)∧(x.Body.length≤bd∧∀ y∈x.Body,k_ref10_Item y)
def w_ref10_Protocol (x:T7):Nat:=wsum w_ref10_Item x.Body
end Gx
end
section
namespace Gp
open Go Go.Kx Gx
set_option maxRecDepth 100000
theorem awake_some (k:Nat):z9 (k+300)=some true:=by kernel_rfl
mutual
theorem cw_I:∀ x,cI (oI x)=w_ref10_Item x
 | ⟨k,f,t,n,a,x,b⟩=>by simp only [oI,cI,w_ref10_Item,cw_LL b]
theorem cw_L:∀ l,cL (oL l)=wL_ref10_Item l
 | []=>by simp only [oL,cL,wL_ref10_Item]
 | x::l=>by simp only [oL,cL,wL_ref10_Item,cw_I x,cw_L l]
theorem cw_LL:∀ l,cLL (oLL l)=wLL_ref10_Item l
 | []=>by simp only [oLL,cLL,wLL_ref10_Item]
 | x::l=>by simp only [oLL,cLL,wLL_ref10_Item,cw_L x,cw_LL l]
end
mutual
theorem bk_I:∀ x,k_ref10_Item x→bI (oI x)
 | ⟨k,f,t,n,a,x,b⟩,h=>by
  simp only [k_ref10_Item] at h
  simp only [oI,bI]
  rw [oLL_len]
  have h1:=h.2.2.1.1;have h2:=h.2.2.2.2.2.2.1
  unfold bd at h1 h2
  exact ⟨by omega,by omega,bk_LL b h.2.2.2.2.2.2.2⟩
theorem bk_L:∀ l,kL_ref10_Item l→bL (oL l)
 | [],_=>by simp only [oL,bL]
 | x::l,h=>by
  simp only [kL_ref10_Item] at h
  simp only [oL,bL]
  exact ⟨bk_I x h.1,bk_L l h.2⟩
theorem bk_LL:∀ l,kLL_ref10_Item l→bLL (oLL l)
 | [],_=>by simp only [oLL,bLL]
 | x::l,h=>by
  simp only [kLL_ref10_Item] at h
  simp only [oLL,bLL]
  have h1:=h.1.1
  unfold bd at h1
  exact ⟨by rw [oL_len];omega,bk_L x h.1.2,bk_LL l h.2⟩
end
theorem RP_of {p:T7} (h:k_ref10_Protocol p):RP p:=by
 obtain ⟨_,h1,h2,h3⟩:=h
 refine ⟨?_,?_,fun x hx=>?_,?_,?_⟩
 ·have:=h1.1;unfold bd at this;show p.Roles.length≤_;omega
 ·have:=h2.1;unfold bd at this;show (p.Messages.map oM).length≤_;rw [List.length_map];omega
 ·obtain ⟨m,hm,rfl⟩:=List.mem_map.1 hx
  obtain ⟨_,q1,q2⟩:=h2.2 m hm
  have q1:=q1.1;have q2:=q2.1
  unfold bd at q1 q2
  exact ⟨by show m.Fields.length≤_;omega,by show (m.Where.map oA).length≤_;rw [List.length_map];omega⟩
 ·have:=h3.1;unfold bd at this;show (oL p.Body).length≤_;rw [oL_len];omega
 ·exact bk_L _ (kL_ref10_Item_of _ h3.2)
theorem cw_P (p:T7):cL (oL p.Body)=w_ref10_Protocol p:=by
 rw [cw_L,wL_ref10_Item_eq];rfl
theorem cPs_w:∀ l,cPs l=wsum w_ref10_Protocol l
 | []=>rfl
 | p::l=>by
  have:=cPs_w l
  unfold cPs at this ⊢
  simp only [List.map_cons,List.sum_cons,wsum]
  rw [this,cw_P]
theorem le_wsum {α:Type} {f:α→Nat}:∀ {l:List α} {x},x∈l→f x≤wsum f l
 | y::l,x,h=>by
  rcases List.mem_cons.1 h with rfl | h
  ·show _≤f x+_;omega
  ·have:=le_wsum (f:=f) h
   show _≤f y+_;omega
theorem sizes_of {l:List T7} (h:(l.length≤bd∧∀ y∈l,k_ref10_Protocol y)∧wsum w_ref10_Protocol l≤bd) :
  l.length≤4194304∧(∀ p∈l,RP p∧4194306+dL (oL p.Body)≤10000000+300)∧cPs l≤1099511627776:=by
 obtain ⟨⟨h1,h2⟩,h3⟩:=h
 unfold bd at h1 h3
 refine ⟨by omega,fun p hp=>⟨RP_of (h2 p hp),?_⟩,by rw [cPs_w];omega⟩
 have:=dc_L (oL p.Body)
 have:=le_wsum (f:=w_ref10_Protocol) hp
 rw [← cw_P] at this
 omega
theorem plain:∀ (x0:List T7) (x1:List T7) (x2:ByteArray),((x0.length≤bd∧∀ y∈x0,k_ref10_Protocol y)∧wsum w_ref10_Protocol x0≤bd)→((x1.length≤bd∧∀ y∈x1,k_ref10_Protocol y)∧wsum w_ref10_Protocol x1≤bd)→(x2.size≤bd)→∃ N,law10_SyntaxEqual N x0 x1 x2=some true:=by
 intro a b s ha hb _
 obtain ⟨a1,a2,a3⟩:=sizes_of ha
 obtain ⟨b1,b2,b3⟩:=sizes_of hb
 exact ⟨10000000+300,equal_law a b s (awake_some _) a1 a2 a3 b1 b2 b3 (by omega)⟩
end Gp
end
