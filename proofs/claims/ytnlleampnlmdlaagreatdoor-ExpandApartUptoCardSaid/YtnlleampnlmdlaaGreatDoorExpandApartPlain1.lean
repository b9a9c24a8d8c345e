/- The plain law, part 1: what the functions compute answers as the statement says. -/
import Derived.Lib.Bytealg
import Derived.Test.YtnlleampnlmdlaaGreatDoorExpandApartPure
set_option linter.all false
section
section
namespace Gp
open Go Go.Kx
theorem dF {p:Prop} [Decidable p] (h:¬p):decide p=false:=decide_eq_false h
theorem dT {p:Prop} [Decidable p] (h:p):decide p=true:=decide_eq_true h
theorem bS {α β:Type _} (a:α) (f:α→Option β):(some a).bind f=f a:=rfl
theorem cF {α:Sort _} {a b:α}:(bif false then a else b)=b:=rfl
theorem cT {α:Sort _} {a b:α}:(bif true then a else b)=a:=rfl
theorem aA {α:Type _} (a b c:List α):(a++b)++c=a++(b++c):=List.append_assoc a b c
theorem lA {α:Type _} {a b:List α}:(a++b).length=a.length+b.length:=List.length_append
theorem w64_id {n:Int} (h1:-9223372036854775808≤n) (h2:n≤9223372036854775807):w64 n=n:=by
 show IntKind.i64.wrap n=n
 simp [IntKind.wrap,IntKind.signed,IntKind.bits]
 omega
theorem w64_succ {n:Nat} (h:n < 4611686018427387904):w64 ((n:Int)+1)=((n+1:Nat):Int):=by rw [w64_id (by omega) (by omega)];omega
theorem idx_nat {α:Type} (xs:List α) (k:Nat):idx xs (k:Int)=xs[k]? := by
 unfold idx
 have:decide (0≤(k:Int))=true:=by simp
 rw [this];simp
theorem idx_int {α:Type} {xs:List α} {i:Int} {k:Nat} (h:i=k):idx xs i=xs[k]? := by rw [h,idx_nat]
theorem setL'_nat {α:Type} (xs:List α) (k:Nat) (e:α):setL' xs (k:Int) e=xs.set k e:=by unfold setL';simp
theorem setL'_int {α:Type} {xs:List α} {i:Int} {k:Nat} (h:i=k) (e:α):setL' xs i e=xs.set k e:=by rw [h,setL'_nat]
theorem get_mid {α:Type} (A:List α) (x:α) (B:List α) {k:Nat} (h:A.length=k):(A++x::B)[k]? = some x:=by
 subst h;simp
theorem set_mid {α:Type} (A:List α) (x y:α) (B:List α) {k:Nat} (h:A.length=k):(A++x::B).set k y=A++y::B:=by
 subst h;simp
theorem idx_mid {α:Type} {L A:List α} {x:α} {B:List α} {i:Int} (hL:L=A++x::B) (h:i=(A.length:Int)):idx L i=some x:=by
 rw [idx_int h,hL];exact get_mid A x B rfl
theorem setL'_mid {α:Type} {L A:List α} {x:α} {B:List α} {i:Int} (hL:L=A++x::B) (h:i=(A.length:Int)) (y:α):setL' L i y=A++y::B:=by
 rw [setL'_int h,hL];exact set_mid A x y B rfl
theorem appL_some {α:Type} {xs ys:List α} (h:xs.length+ys.length≤4294967296):appL xs ys=some (xs++ys):=by
 unfold appL
 have:Nat.ble (xs.length+ys.length) lim=true:=Nat.ble_eq_true_of_le h
 rw [this];rfl
theorem drop_cons {α:Type} {xs:List α} {k:Nat} {x:α} {l:List α} (h:xs.drop k=x::l):k < xs.length∧xs[k]? = some x∧xs.drop (k+1)=l:=by
 have hlt:k < xs.length:=by
  rcases Nat.lt_or_ge k xs.length with h' | h'
  ·exact h'
  ·rw [List.drop_eq_nil_of_le h'] at h;cases h
 rw [List.drop_eq_getElem_cons hlt] at h
 simp only [List.cons.injEq] at h
 exact ⟨hlt,by rw [List.getElem?_eq_getElem hlt,h.1],h.2⟩
theorem drop_nil {α:Type} {xs:List α} {k:Nat} (h:xs.drop k=[]):xs.length≤k:=by simpa using h
def lv {α γ:Type} (b:α→Nat→γ→γ) (e:γ):List α→Nat→γ
 | [],_=>e
 | x::l,k=>b x k (lv b e l (k+1))
theorem lv_of {α γ:Type} (xs:List α) (F:Nat→Int→γ) (b:α→Nat→γ→γ) (e:γ)
  (h1:∀ n k x,k < xs.length→xs[k]? = some x→F (n+1) (k:Int)=b x k (F n ((k+1:Nat):Int)))
  (h2:∀ n k,xs.length≤k→F (n+1) (k:Int)=e) :
  ∀ (l:List α) (k n:Nat),xs.drop k=l→l.length < n→F n (k:Int)=lv b e l k:=by
 intro l
 induction l with
 | nil =>
  intro k n h hn
  obtain ⟨n,rfl⟩:∃ m,n=m+1:=⟨n-1,by simp at hn;omega⟩
  exact h2 n k (drop_nil h)
 | cons x l ih =>
  intro k n h hn
  obtain ⟨n,rfl⟩:∃ m,n=m+1:=⟨n-1,by simp at hn;omega⟩
  obtain ⟨a,c,d⟩:=drop_cons h
  rw [h1 n k x a c,ih (k+1) n d (by simp at hn;omega)];rfl
theorem lv_from {α γ:Type} {xs:List α} {F:Nat→Int→γ} {b:α→Nat→γ→γ} {e:γ} {n:Nat} {i:Int} (hn:xs.length < n) (hi:i=((0:Nat):Int))
  (h1:∀ n k x,k < xs.length→xs[k]? = some x→F (n+1) (k:Int)=b x k (F n ((k+1:Nat):Int)))
  (h2:∀ n k,xs.length≤k→F (n+1) (k:Int)=e):F n i=lv b e xs 0:=by
 rw [hi];exact lv_of xs F b e h1 h2 xs 0 n rfl hn
theorem lt_t {k n:Nat} (h:k < n):decide ((k:Int) < (n:Int))=true:=by simp [h]
theorem lt_f {k n:Nat} (h:n≤k):decide ((k:Int) < (n:Int))=false:=by simp;omega
end Gp
end
section
namespace Gp
open Go Go.Kx
def Lt {α:Type} (K:α→Int) (r:α→α→Prop) (x y:α):Prop:=K x < K y∨(K x=K y∧r x y)
def Srt {α:Type} (K:α→Int) (r:α→α→Prop) (l:List α):Prop:=l.Pairwise (Lt K r)
variable {α:Type} {K:α→Int} {r:α→α→Prop}
inductive Bk (K:α→Int) (r:α→α→Prop) (n:Nat):List α→List α→Prop
 | last (o c:List α):c.length≤n→c.Perm o→Srt K r c→Bk K r n o c
 | cons (o1 c1 o2 c2:List α):c1.length=n→c1.Perm o1→Srt K r c1→Bk K r n o2 c2→Bk K r n (o1++o2) (c1++c2)
theorem Bk.few {n:Nat} {o c:List α} (h:Bk K r n o c) (hn:0 < n) (hc:c.length < 2 * n) :
  (c.length≤n∧c.Perm o∧Srt K r c)∨∃ o1 o2 c1 c2,o=o1++o2∧c=c1++c2∧c1.length=n∧0 < c2.length∧c2.length≤n∧c1.Perm o1∧c2.Perm o2∧Srt K r c1∧Srt K r c2:=by
 cases h with
 | last _ _ h1 h2 h3=>exact .inl ⟨h1,h2,h3⟩
 | cons o1 c1 o2 c2 h1 h2 h3 h4 =>
  cases h4 with
  | last _ _ g1 g2 g3 =>
   rcases Nat.eq_zero_or_pos c2.length with h0 | h0
   ·have:c2=[]:=List.length_eq_zero_iff.mp h0
    subst this
    have:o2=[]:=by simpa using g2.symm
    subst this
    exact .inl ⟨by simp;omega,by simpa using h2,by simpa using h3⟩
   ·exact .inr ⟨o1,o2,c1,c2,rfl,rfl,h1,h0,g1,h2,g2,h3,g3⟩
  | cons p1 d1 p2 d2 g1 g2 g3 g4=>simp at hc;omega
theorem Bk.all {n:Nat} {o c:List α} (h:Bk K r n o c) (hn:0 < n) (hc:c.length≤n):c.Perm o∧Srt K r c:=by
 rcases h.few hn (by omega) with h | ⟨o1,o2,c1,c2,h1,h2,h3,h4,_⟩
 ·exact h.2
 ·subst h2;simp at hc;omega
end Gp
end
section
namespace Gp
open Go Go.Kx Gx
theorem look {α γ:Type} (xs:List α) (hs:xs.length≤4194304) (b:α→Int→γ→γ) (F:Nat→Int→γ) (e:γ) {n:Nat} (hn:4194304 < n)
  (h1:∀ n k x,k < xs.length→xs[k]? = some x→F (n+1) (k:Int)=b x k (F n (w64 ((k:Int)+1))))
  (h2:∀ n k,xs.length≤k→F (n+1) (k:Int)=e):F n (0:Int)=lv (fun x (k:Nat) r=>b x (k:Int) r) e xs 0 :=
 lv_from (by omega) rfl (fun n k x hk hx=>by rw [h1 n k x hk hx,w64_succ (by omega)]) h2
def eqStr (a b:ByteArray):Bool:=a.toList==b.toList
theorem eqStr_refl (a:ByteArray):eqStr a a=true:=by simp [eqStr]
variable {N:Nat} (hN:4194304 < N)
end Gp
end
section
namespace Gp
open Go Go.Kx Gx
variable {N:Nat} (hN:4194304 < N)
def whereV {α:Type} (f:α→Bool) (l:List α):Option Int:=lv (fun x (k:Nat) r=>bif f x then some (k:Int) else r) (some (-1)) l 0
theorem bcomm (a b:ByteArray):(a.toList==b.toList)=(b.toList==a.toList):=by
 rw [Bool.eq_iff_iff,beq_iff_eq,beq_iff_eq];exact ⟨Eq.symm,Eq.symm⟩
include hN in
theorem Index_eq (l:List ByteArray) (hl:l.length≤4194304) (v:ByteArray):z122 N l v=whereV (fun x=>eqStr x v) l:=by
 unfold z122 whereV
 refine look l hl (fun x k r=>bif eqStr x v then some k else r) (z122_l2 l v) _ hN ?_ ?_
 ·intro n k x hk hx
  simp only [z122_l2,lt_t hk,idx_nat,hx,cT,bS,eqStr,bcomm v x]
 ·intro n k hk
  simp only [z122_l2,lt_f hk,cF,z122_k1]
end Gp
end
section
namespace Gp
open Go Go.Kx Gx
theorem lsl_to {α:Type} {L A B:List α} {i:Int} (hL:L=A++B) (hi:i=(A.length:Int)):lsl L none (some i)=some A:=by
 subst hL hi
 have h:decide ((A.length:Int)≤((A++B).length:Int))=true:=by simp;omega
 have h2:decide ((0:Int)≤(A.length:Int))=true:=by simp
 unfold lsl bnd
 simp only [Option.getD_some,Option.getD_none,h,h2]
 simp
end Gp
end
section
namespace Gp
open Go Go.Kx Gx
def allV {α:Type} (p:α→Nat→Bool):List α→Nat→Bool
 | [],_=>true
 | x::l,k=>p x k && allV p l (k+1)
theorem allV_of {α:Type} (p:α→Nat→Bool) (xs:List α) (F:Nat→Int→Option Bool) (e:Option Bool)
  (h1:∀ n k x,k < xs.length→xs[k]? = some x→F (n+1) (k:Int)=bif p x k then F n ((k+1:Nat):Int) else some false)
  (h2:∀ n k,xs.length≤k→F (n+1) (k:Int)=e) :
  ∀ (l:List α) (k n:Nat),xs.drop k=l→l.length < n→F n (k:Int)=bif allV p l k then e else some false:=by
 intro l
 induction l with
 | nil =>
  intro k n h hn
  obtain ⟨n,rfl⟩:∃ m,n=m+1:=⟨n-1,by simp at hn;omega⟩
  exact h2 n k (drop_nil h)
 | cons x l ih =>
  intro k n h hn
  obtain ⟨n,rfl⟩:∃ m,n=m+1:=⟨n-1,by simp at hn;omega⟩
  obtain ⟨a,c,d⟩:=drop_cons h
  rw [h1 n k x a c,ih (k+1) n d (by simp at hn;omega)]
  show _=bif (p x k && allV p l (k+1)) then e else some false
  cases p x k<;>rfl
theorem allV_from {α:Type} (p:α→Nat→Bool) {xs:List α} {F:Nat→Int→Option Bool} {e:Option Bool} {n:Nat} (hn:xs.length < n)
  (h1:∀ n k x,k < xs.length→xs[k]? = some x→F (n+1) (k:Int)=bif p x k then F n ((k+1:Nat):Int) else some false)
  (h2:∀ n k,xs.length≤k→F (n+1) (k:Int)=e):F n (0:Int)=bif allV p xs 0 then e else some false :=
 allV_of p xs F e h1 h2 xs 0 n rfl hn
def bs (s:ByteArray):List UInt8:=s.data.toList
theorem size_bs (s:ByteArray):s.size=(bs s).length:=rfl
theorem slt_t {s:ByteArray} {k:Nat} (h:k < (bs s).length):decide ((k:Int) < (s.size:Int))=true:=lt_t h
theorem slt_f {s:ByteArray} {k:Nat} (h:(bs s).length≤k):decide ((k:Int) < (s.size:Int))=false:=lt_f h
theorem toList_bs (s:ByteArray):s.toList=bs s:=ByteArray.toList_eq s
theorem bs_inj {a b:ByteArray} (h:bs a=bs b):a=b:=by
 cases a with | mk a=>cases b with | mk b=>simpa [bs] using h
theorem sidx_bs (s:ByteArray) (k:Nat):sidx s (k:Int)=(bs s)[k]?.map (fun b=>(b.toNat:Int)):=by
 unfold sidx
 have h:decide (0≤(k:Int))=true:=by simp
 rw [h,cT]
 have e:s[(k:Int).toNat]? = (bs s)[k]? := by
  simp [getElem?_def,bs]
  split<;>simp_all
  rfl
 rw [e]
theorem eqStr_iff (a b:ByteArray):eqStr a b=true↔a=b:=by
 unfold eqStr
 rw [beq_iff_eq,toList_bs,toList_bs]
 exact ⟨bs_inj,fun h=>by rw [h]⟩
variable {N:Nat} (hN:4194304 < N)
def letterV (c:Int):Bool:=(decide (97≤c) && decide (c≤122)) || (decide (65≤c) && decide (c≤90))
def innerV (c:Int):Bool:=letterV c || ((decide (48≤c) && decide (c≤57)) || c==95)
theorem letter_eq (N:Nat) (c:Int):z82 N c=some (letterV c):=by
 unfold z82 letterV
 cases decide (97≤c)<;>cases decide (c≤122)<;>cases decide (65≤c)<;>rfl
theorem inner_eq (N:Nat) (c:Int):z141 N c=some (innerV c):=by
 unfold z141 innerV z84
 rw [letter_eq]
 simp only [bS]
 cases letterV c
 ·cases decide (48≤c)<;>cases decide (c≤57)<;>rfl
 ·rfl
def isName (s:ByteArray):Bool :=
 match bs s with
 | []=>false
 | x::l=>letterV (x.toNat:Int) && (decide (l.length < 16) && allV (fun (c:UInt8) _=>innerV (c.toNat:Int)) (x::l) 0)
def keywords:List ByteArray:=[(str [97,103,97,105,110]),(str [97,110,100]),(str [97,115]),(str [97,116]),(str [99,97,108,108]),(str [99,104,111,105,99,101]),(str [101,108,115,101]),(str [102,114,111,109]),(str [105,102]),(str [105,110,116]),(str [108,101,110]),(str [108,111,111,112]),(str [109,101,115,115,97,103,101]),(str [111,102]),(str [111,102,102,101,114]),(str [111,110]),(str [111,114]),(str [112,97,114]),(str [112,108,97,121,115]),(str [112,114,111,116,111,99,111,108]),(str [115,101,114,118,105,99,101]),(str [116,101,120,116]),(str [116,105,109,101,115]),(str [116,111]),(str [118,97,114]),(str [119,104,101,114,101]),(str [119,104,105,108,101]),(str [119,105,116,104,105,110])]
def isWord (s:ByteArray):Bool:=isName s && !(keywords.any fun k=>eqStr k s)
include hN in
theorem nameL (s:ByteArray) (hs:s.size≤4194304):z97_l2 N s N (0:Int)=some (allV (fun (c:UInt8) _=>innerV (c.toNat:Int)) (bs s) 0):=by
 rw [size_bs] at hs
 rw [allV_from (xs:=bs s) (fun (c:UInt8) _=>innerV (c.toNat:Int)) (F:=z97_l2 N s) (e:=some true) (by omega)]
 ·cases allV (fun (c:UInt8) _=>innerV (c.toNat:Int)) (bs s) 0<;>rfl
 ·intro n k x hk hx
  simp only [z97_l2,slt_t hk,cT,sidx_bs,hx,Option.map_some,bS,inner_eq,w64_succ (show k < 4611686018427387904 by omega)]
  cases innerV (x.toNat:Int)<;>rfl
 ·intro n k hk
  simp only [z97_l2,slt_f hk,cF,z97_k1]
theorem bs_nil:bs (str [])=[]:=rfl
include hN in
theorem name_own (s:ByteArray) (hs:s.size≤4194304):z97 N s=some (isName s):=by
 unfold z97
 rw [nameL hN s hs,toList_bs,toList_bs,bs_nil,size_bs,show sidx s (0:Int)=sidx s ((0:Nat):Int) from rfl,sidx_bs]
 unfold isName
 cases h:bs s with
 | nil=>rfl
 | cons x l =>
  have e:(x::l==([]:List UInt8))=false:=rfl
  rw [e]
  simp only [cF,List.getElem?_cons_zero,Option.map_some,bS,letter_eq]
  have d:decide (((x::l).length:Int) > 16) = !decide (l.length < 16):=by
   by_cases q:l.length < 16
   ·rw [dT q];simp;omega
   ·rw [dF q];simp;omega
  rw [d]
  cases letterV (x.toNat:Int)<;>cases decide (l.length < 16)<;>rfl
theorem whereV_any {α:Type} (f:α→Bool) (l:List α) (k:Nat):∃ i,lv (fun x (k:Nat) r=>bif f x then some (k:Int) else r) (some (-1)) l k=some i∧decide (i≥0)=l.any f:=by
 induction l generalizing k with
 | nil=>exact ⟨-1,rfl,rfl⟩
 | cons x l ih =>
  show ∃ i,(bif f x then some (k:Int) else lv _ _ l (k+1))=some i∧_
  rw [List.any_cons]
  cases f x
  ·exact ih (k+1)
  ·exact ⟨k,rfl,by simp⟩
include hN in
theorem contains_eq (l:List ByteArray) (hl:l.length≤4194304) (v:ByteArray):z54 N l v=some (l.any fun x=>eqStr x v):=by
 unfold z54
 rw [Index_eq hN l hl]
 obtain ⟨i,h1,h2⟩:=whereV_any (fun x=>eqStr x v) l 0
 unfold whereV
 rw [h1,bS,h2]
include hN in
theorem word_own (s:ByteArray) (hs:s.size≤4194304):z41 N s=some (isWord s):=by
 unfold z41
 rw [name_own hN s hs]
 simp only [bS]
 have c1:=contains_eq hN keywords (by decide) s
 unfold keywords at c1
 rw [c1]
 unfold isWord keywords
 simp only [bS]
 cases isName s<;>rfl
end Gp
end
section
namespace Gp
open Go Go.Kx Gx
def mkB (l:List UInt8):ByteArray:=⟨l.toArray⟩
theorem bs_mkB (l:List UInt8):bs (mkB l)=l:=by simp [bs,mkB]
theorem mkB_bs (s:ByteArray):mkB (bs s)=s:=bs_inj (bs_mkB _)
theorem bs_extract (s:ByteArray) (a b:Nat):bs (s.extract a b)=((bs s).take b).drop a:=by
 unfold bs
 rw [ByteArray.data_extract,Array.toList_extract]
 simp [List.extract,List.drop_take]
theorem ssl_mid {s:ByteArray} {x y z:List UInt8} {i j:Int} (h:bs s=x++(y++z)) (hi:i=(x.length:Int)) (hj:j=((x.length+y.length:Nat):Int)):ssl s (some i) (some j)=some (mkB y):=by
 subst hi hj
 have q1:decide ((0:Int)≤(x.length:Int))=true:=by simp
 have q2:decide ((x.length:Int)≤((x.length+y.length:Nat):Int))=true:=by simp;omega
 have q3:decide (((x.length+y.length:Nat):Int)≤(s.size:Int))=true:=by rw [size_bs,h];simp;omega
 unfold ssl bnd
 simp only [Option.getD_some,q1,q2,q3,Bool.and_self,cT,Option.map_some,Int.toNat_natCast]
 congr 1
 apply bs_inj
 rw [bs_extract,bs_mkB,h,← aA,List.take_append_of_le_length (by simp),List.take_of_length_le (by simp)]
 simp
theorem ssl_to {s:ByteArray} {x y:List UInt8} {j:Int} (h:bs s=x++y) (hj:j=(x.length:Int)):ssl s none (some j)=some (mkB x):=by
 have e:ssl s none (some j)=ssl s (some 0) (some j):=rfl
 rw [e]
 exact ssl_mid (x:=[]) (y:=x) (z:=y) (by rw [h];rfl) rfl (by rw [hj];simp)
theorem ssl_from {s:ByteArray} {x y:List UInt8} {i:Int} (h:bs s=x++y) (hi:i=(x.length:Int)):ssl s (some i) none=some (mkB y):=by
 have e:ssl s (some i) none=ssl s (some i) (some (s.size:Int)):=rfl
 rw [e]
 exact ssl_mid (x:=x) (y:=y) (z:=[]) (by rw [h];simp) hi (by rw [size_bs,h];simp)
theorem indexB_some {l:List UInt8} {c:UInt8} (h:0 < l.count c):∃ p q,l=p++c::q∧p.count c=0∧Go.Lib.indexByte l c=(p.length:Int):=by
 induction l with
 | nil=>simp at h
 | cons b l ih =>
  cases hc:(b==c)
  ·rw [List.count_cons,hc] at h
   obtain ⟨p,q,h1,h2,h3⟩:=ih (by simpa using h)
   refine ⟨b::p,q,by rw [h1];rfl,by rw [List.count_cons,h2,hc];rfl,?_⟩
   unfold Go.Lib.indexByte
   rw [hc,h3,show ((p.length:Int)==-1)=false by simp]
   simp
  ·have:b=c:=by simpa using hc
   subst this
   exact ⟨[],l,rfl,by simp,by unfold Go.Lib.indexByte;rw [hc];rfl⟩
def splitA (acc:List UInt8):List UInt8→List (List UInt8)
 | []=>[acc]
 | c::l=>if c=46 then acc::splitA [] l else splitA (acc++[c]) l
theorem splitA_cons (acc:List UInt8) (c:UInt8) (l:List UInt8):splitA acc (c::l)=if c=46 then acc::splitA [] l else splitA (acc++[c]) l:=rfl
theorem splitA_none:∀ (l acc:List UInt8),l.count 46=0→splitA acc l=[acc++l]
 | [],acc,_=>by simp [splitA]
 | c::l,acc,h=>by
  rw [List.count_cons] at h
  have hc:¬ c=46:=by intro hc;subst hc;simp at h
  rw [splitA_cons,if_neg hc,splitA_none l _ (by omega)];simp
theorem splitA_some:∀ (p acc q:List UInt8),p.count 46=0→splitA acc (p++46::q)=(acc++p)::splitA [] q
 | [],acc,q,_=>by rw [List.nil_append,splitA_cons,if_pos rfl,List.append_nil]
 | c::p,acc,q,h=>by
  rw [List.count_cons] at h
  have hc:¬ c=46:=by intro hc;subst hc;simp at h
  show splitA acc (c::(p++46::q))=_
  rw [splitA_cons,if_neg hc,splitA_some p _ q (by omega)];simp
theorem splitA_len:∀ (l acc:List UInt8),(splitA acc l).length=l.count 46+1
 | [],acc=>by simp [splitA]
 | c::l,acc=>by
  rw [splitA_cons,List.count_cons]
  split
  ·rename_i h;subst h
   rw [List.length_cons,splitA_len l];simp
  ·rename_i h
   rw [splitA_len l];simp [h]
variable {N:Nat}
theorem index_eq (s:ByteArray):z181 N s (str [46])=some (Go.Lib.indexByte (bs s) 46):=by
 unfold z181 z209
 have h1:(((str [46]).size:Int)==0)=false:=rfl
 have h2:(((str [46]).size:Int)==1)=true:=rfl
 have h3:sidx (str [46]) (0:Int)=some 46:=by
  rw [show (0:Int)=((0:Nat):Int) from rfl,sidx_bs];rfl
 rw [h1,h2,h3]
 simp only [cT,cF,bS,z180]
 have hf:firstB s 46=Go.Lib.indexByte (bs s) 46:=Go.Lib.firstIdx_eq s 46
 rw [hf,toList_bs,toList_bs]
 cases he:(bs (str [46])==bs s)
 ·rfl
 ·have he:bs (str [46])=bs s:=eq_of_beq he
  rw [← he];rfl
theorem count_eq (s:ByteArray):z212 N s (str [46])=some (((bs s).count 46:Nat):Int):=by
 unfold z212
 have h1:(((str [46]).size:Int)==0)=false:=rfl
 have h2:(((str [46]).size:Int)==1)=true:=rfl
 have h3:sidx (str [46]) (0:Int)=some 46:=by
  rw [show (0:Int)=((0:Nat):Int) from rfl,sidx_bs];rfl
 rw [h1,h2,h3]
 simp only [cT,cF,bS]
 congr 1
 unfold countB
 rw [show s.foldl (fun (n:Int) x=>if x==Kx.byteOf 46 then n+1 else n) ((0:Nat):Int)=(bs s).foldl (fun (n:Int) x=>if x==Kx.byteOf 46 then n+1 else n) ((0:Nat):Int) from Go.Lib.foldl_data _ _ _,Go.Lib.count_foldl]
 simp [Go.Lib.countByte,Kx.byteOf]
theorem gen_loop (s sep:ByteArray) (hsep:sep=str [46]) (cnt:Nat) (hc:cnt≤s.size) (hs:s.size≤4194304) :
  ∀ (n:Nat) (cur:ByteArray) (D R:List ByteArray),(bs cur).count 46 < n→(bs cur).length≤4194304→D.length+(bs cur).count 46=cnt→R.length=(bs cur).count 46+1 →
  z187_l2 N s sep (0:Int) ((cnt+1:Nat):Int) n cur (D++R) (D.length:Int)=some (D++(splitA [] (bs cur)).map mkB):=by
 subst hsep
 intro n
 induction n with
 | zero=>intro cur D R h;omega
 | succ n ih =>
  intro cur D R hn hcur hD hR
  have hw:w64 ((s.size:Int)+1)=((s.size+1:Nat):Int):=w64_succ (by omega)
  have hmin:minI ((cnt+1:Nat):Int) ((s.size+1:Nat):Int)=((cnt+1:Nat):Int):=by unfold minI;rw [if_neg (by omega)]
  have hw2:w64 (((cnt+1:Nat):Int)-1)=(cnt:Int):=by rw [w64_id (by omega) (by omega)];omega
  have fin:(bs cur).count 46=0→z187_k1 cur (D++R) (D.length:Int)=some (D++(splitA [] (bs cur)).map mkB):=by
   intro h0
   rw [h0] at hR
   obtain ⟨r,rfl⟩:=List.length_eq_one_iff.mp hR
   unfold z187_k1
   rw [idx_mid (A:=D) (x:=r) (B:=[]) rfl rfl,bS,setL'_mid (A:=D) (x:=r) (B:=[]) rfl rfl,w64_succ (by omega),lsl_to (A:=D++[cur]) (B:=[]) (by simp) (by simp),splitA_none _ _ h0]
   simp [mkB_bs]
  by_cases hlt:D.length < cnt
  ·have hd:decide ((D.length:Int) < (cnt:Int))=true:=by simp;omega
   obtain ⟨p,q,e1,e2,e3⟩:=indexB_some (l:=bs cur) (c:=46) (by omega)
   have hlen:(bs cur).length=p.length+(q.length+1):=by rw [e1];simp
   have hcnt:(bs cur).count 46=q.count 46+1:=by rw [e1,List.count_append,List.count_cons,e2];simp
   obtain ⟨r,R',rfl⟩:∃ r R',R=r::R':=by
    cases R with
    | nil=>simp at hR
    | cons r R'=>exact ⟨r,R',rfl⟩
   simp only [List.length_cons] at hR
   have hneg:decide ((p.length:Int) < 0)=false:=by simp
   have wp:w64 ((p.length:Int)+0)=(p.length:Int):=by rw [w64_id (by omega) (by omega)];omega
   have wp1:w64 ((p.length:Int)+((str [46]).size:Int))=((p++[46]:List UInt8).length:Int):=by
    rw [show ((str [46]).size:Int)=1 from rfl,w64_succ (by omega)];simp
   simp only [z187_l2,hw,hmin,hw2,hd,cT,index_eq,e3,bS,hneg,cF,wp,wp1]
   rw [ssl_to e1 rfl,bS,idx_mid (A:=D) (x:=r) (B:=R') rfl rfl,bS,ssl_from (x:=p++[46]) (y:=q) (by rw [e1];simp) rfl,bS,setL'_mid (A:=D) (x:=r) (B:=R') rfl rfl,w64_succ (by omega)]
   have:=ih (mkB q) (D++[mkB p]) R' (by rw [bs_mkB];omega) (by rw [bs_mkB];omega) (by rw [bs_mkB];simp;omega) (by rw [bs_mkB];omega)
   rw [bs_mkB] at this
   rw [show ((D.length+1:Nat):Int)=((D++[mkB p]).length:Int) by simp,show D++mkB p::R'=(D++[mkB p])++R' by simp,this,e1,splitA_some _ _ _ e2]
   simp
  ·have hd:decide ((D.length:Int) < (cnt:Int))=false:=by simp;omega
   simp only [z187_l2,hw,hmin,hw2,hd,cF]
   exact fin (by omega)
theorem split_eq (hN:4194304 < N) (s:ByteArray) (hs:s.size≤1000000):z149 N s (str [46])=some ((splitA [] (bs s)).map mkB):=by
 unfold z149 z187
 have h0:((-1:Int)==0)=false:=rfl
 have h1:((str [46]).toList==(str []).toList)=false:=by rw [toList_bs,toList_bs];rfl
 have h2:decide ((-1:Int) < 0)=true:=rfl
 have hcl:(bs s).count 46≤(bs s).length:=List.count_le_length
 rw [h0,h1,h2,count_eq]
 simp only [cT,cF,bS,z187_k3]
 rw [size_bs] at hs
 rw [w64_succ (by omega)]
 have hw:w64 ((s.size:Int)+1)=((s.size+1:Nat):Int):=w64_succ (by rw [size_bs];omega)
 have hmin:minI (((bs s).count 46+1:Nat):Int) ((s.size+1:Nat):Int)=(((bs s).count 46+1:Nat):Int):=by unfold minI;rw [if_neg (by rw [size_bs];omega)]
 have m:mkL (str []) (((bs s).count 46+1:Nat):Int) (((bs s).count 46+1:Nat):Int)=some (List.replicate ((bs s).count 46+1) (str [])):=by
  unfold mkL
  have q1:decide ((0:Int)≤(((bs s).count 46+1:Nat):Int))=true:=by simp;omega
  have q2:decide ((((bs s).count 46+1:Nat):Int)≤4294967296)=true:=by simp;omega
  simp only [q1,q2,Int.le_refl,decide_true,Bool.and_self,cT]
  simp
 rw [hw,hmin,m,bS]
 have:=gen_loop (N:=N) s (str [46]) rfl ((bs s).count 46) (by rw [size_bs];omega) (by rw [size_bs];omega) N s [] (List.replicate ((bs s).count 46+1) (str [])) (by omega) (by omega) (by simp) (by simp)
 rw [List.nil_append] at this
 have this':z187_l2 N s (str [46]) (0:Int) (((bs s).count 46+1:Nat):Int) N s (List.replicate ((bs s).count 46+1) (str [])) (0:Int)=some ([]++(splitA [] (bs s)).map mkB):=this
 rw [this'];simp
def pathV (s:ByteArray):Bool:=decide (s.size≤50) && (splitA [] (bs s)).all fun p=>isWord (mkB p)
theorem piece_len:∀ (l acc:List UInt8),∀ p∈splitA acc l,p.length≤acc.length+l.length
 | [],acc,p,h=>by simp [splitA] at h;subst h;simp
 | c::l,acc,p,h=>by
  rw [splitA_cons] at h
  split at h
  ·rcases List.mem_cons.mp h with h | h
   ·subst h;simp
   ·have:=piece_len l [] p h;simp at this;simp;omega
  ·have:=piece_len l _ p h;simp at this;simp;omega
theorem path_eq (hN:4194304 < N) (s:ByteArray):z101 N s=some (pathV s):=by
 unfold z101 pathV
 by_cases h:s.size≤50
 ·rw [dT (show (s.size:Int)≤50 by omega),dT h,cT,split_eq hN s (by omega),bS]
  unfold z98_5 z131_4
  have hl:(splitA [] (bs s)).length≤51:=by
   rw [splitA_len]
   have:(bs s).count 46≤(bs s).length:=List.count_le_length
   rw [size_bs] at h;omega
  rw [look ((splitA [] (bs s)).map mkB) (by simp;omega) (fun x k r=>bif !(isWord x) then some k else r) (z131_4_l2 N ((splitA [] (bs s)).map mkB)) (some (-1)) hN]
  ·obtain ⟨i,h1,h2⟩:=whereV_any (fun x => !(isWord x)) ((splitA [] (bs s)).map mkB) 0
   rw [h1,bS,h2,bS,List.any_map,List.not_any_eq_all_not]
   simp [Function.comp_def]
  ·intro n k x hk hx
   have hx':=List.mem_of_getElem? hx
   obtain ⟨p,hp,rfl⟩:=List.mem_map.mp hx'
   have hpl:=piece_len _ _ p hp
   have hw:=word_own hN (mkB p) (by rw [size_bs,bs_mkB];rw [size_bs] at h;simp at hpl;omega)
   simp only [z131_4_l2,lt_t hk,idx_nat,hx,cT,bS,z150,hw]
  ·intro n k hk
   simp only [z131_4_l2,lt_f hk,cF,z131_4_k1]
 ·rw [dF (show ¬ (s.size:Int)≤50 by omega),dF h];rfl
end Gp
end
end
section
namespace Gp
open Go Go.Kx Gx
mutual
def oI:T10→T15
 | ⟨k,f,t,n,a,x,b⟩=>⟨k,f,t,n,a,x,oLL b⟩
def oL:List T10→List T15
 | []=>[]
 | x::l=>oI x::oL l
def oLL:List (List T10)→List (List T15)
 | []=>[]
 | x::l=>oL x::oLL l
end
theorem oL_map:∀ l,oL l=l.map oI
 | []=>by simp only [oL,List.map_nil]
 | x::l=>by simp only [oL,List.map_cons,oL_map l]
theorem oLL_map:∀ l,oLL l=l.map oL
 | []=>by simp only [oLL,List.map_nil]
 | x::l=>by simp only [oLL,List.map_cons,oLL_map l]
mutual
def dI:T15→Nat
 | ⟨_,_,_,_,_,_,b⟩=>dLL b+1
def dL:List T15→Nat
 | []=>0
 | x::l=>max (dI x) (dL l)
def dLL:List (List T15)→Nat
 | []=>0
 | x::l=>max (dL x) (dLL l)
end
mutual
def bI:T15→Prop
 | ⟨_,_,t,_,_,_,b⟩=>t.length≤4194304∧b.length≤4194304∧bLL b
def bL:List T15→Prop
 | []=>True
 | x::l=>bI x∧bL l
def bLL:List (List T15)→Prop
 | []=>True
 | x::l=>x.length≤4194304∧bL x∧bLL l
end
theorem dL_mem:∀ {l:List T15} {x},x∈l→dI x≤dL l
 | y::l,x,h=>by
  simp only [dL]
  rcases List.mem_cons.1 h with rfl | h
  ·omega
  ·have:=dL_mem h;omega
theorem dLL_mem:∀ {l:List (List T15)} {x},x∈l→dL x≤dLL l
 | y::l,x,h=>by
  simp only [dLL]
  rcases List.mem_cons.1 h with rfl | h
  ·omega
  ·have:=dLL_mem h;omega
theorem dI_eq (x:T15):dI x=dLL x.Blocks+1:=by cases x;simp only [dI]
theorem bL_mem:∀ {l:List T15} {x},bL l→x∈l→bI x
 | y::l,x,hb,h=>by
  simp only [bL] at hb
  rcases List.mem_cons.1 h with rfl | h
  ·exact hb.1
  ·exact bL_mem hb.2 h
theorem bLL_mem:∀ {l:List (List T15)} {x},bLL l→x∈l→x.length≤4194304∧bL x
 | y::l,x,hb,h=>by
  simp only [bLL] at hb
  rcases List.mem_cons.1 h with rfl | h
  ·exact ⟨hb.1,hb.2.1⟩
  ·exact bLL_mem hb.2.2 h
theorem bI_eq (x:T15):bI x↔x.To.length≤4194304∧x.Blocks.length≤4194304∧bLL x.Blocks:=by cases x;simp only [bI]
theorem oI_eq (x:T10):oI x=⟨x.Kind,x.From,x.To,x.Name,x.As,x.Ticks,oLL x.Blocks⟩:=by cases x;simp only [oI]
def Dq (o:Option Bool) (P:Prop):Prop:=∃ r,o=some r∧(r=true↔P)
theorem Dq.iff {o P Q} (h:Dq o P) (k:P↔Q):Dq o Q:=by
 obtain ⟨r,h1,h2⟩:=h
 exact ⟨r,h1,h2.trans k⟩
theorem Dq.tr:Dq (some true) True:=⟨true,rfl,by simp⟩
theorem Dq.fa:Dq (some false) False:=⟨false,rfl,by simp⟩
theorem Dq.bool (b:Bool):Dq (some b) (b=true):=⟨b,rfl,Iff.rfl⟩
theorem Dq.cA {c:Bool} {C P:Prop} {o:Option Bool} (hc:c=true↔C) (h:C→Dq o P):Dq (bif c then o else some false) (C∧P):=by
 cases c with
 | false=>exact ⟨false,rfl,by simp at hc ⊢;intro h;exact absurd h hc⟩
 | true =>
  have hC:=hc.1 rfl
  obtain ⟨r,h1,h2⟩:=h hC
  exact ⟨r,h1,by rw [h2];exact ⟨fun p=>⟨hC,p⟩,fun p=>p.2⟩⟩
theorem Dq.cN {c:Bool} {C P:Prop} {o:Option Bool} (hc:c=false↔C) (h:C→Dq o P):Dq (bif c then some false else o) (C∧P):=by
 cases c with
 | true=>exact ⟨false,rfl,by simp at hc ⊢;intro h;exact absurd h hc⟩
 | false =>
  have hC:=hc.1 rfl
  obtain ⟨r,h1,h2⟩:=h hC
  exact ⟨r,h1,by rw [h2];exact ⟨fun p=>⟨hC,p⟩,fun p=>p.2⟩⟩
theorem Dq.bA {C P:Prop} {o1 o2:Option Bool} (h1:Dq o1 C) (h:C→Dq o2 P):Dq (o1.bind fun x=>bif x then o2 else some false) (C∧P):=by
 obtain ⟨r,e,hr⟩:=h1
 rw [e]
 exact Dq.cA hr h
theorem Dq.bN {C P:Prop} {o1 o2:Option Bool} (h1:Dq o1 C) (h:C→Dq o2 P):Dq (o1.bind fun x=>bif (!x) then some false else o2) (C∧P):=by
 obtain ⟨r,e,hr⟩:=h1
 rw [e]
 exact Dq.cN (by rw [← hr];cases r<;>simp) h
theorem Dq.bS {C:Prop} {o1:Option Bool} (h1:Dq o1 C):Dq (o1.bind fun x=>some x) C:=by
 obtain ⟨r,e,hr⟩:=h1
 exact ⟨r,by rw [e];rfl,hr⟩
theorem nbeq {a b:Int}:(a != b)=false↔a=b:=by simp
theorem nlen {a b:Nat}:((a:Int) != (b:Int))=false↔a=b:=by simp;omega
theorem ibeq {a b:Int}:(a==b)=true↔a=b:=by simp
theorem seq' {a b:ByteArray}:(a.toList==b.toList)=true↔a=b:=eqStr_iff a b
theorem nseq {a b:ByteArray}:(!(a.toList==b.toList))=false↔a=b:=by
 rw [← eqStr_iff a b];unfold eqStr;cases (a.toList==b.toList)<;>simp
theorem get_lt {α:Type} {l:List α} {i:Nat} {x:α} (h:l[i]? = some x):i < l.length:=(List.getElem?_eq_some_iff.1 h).1
theorem dq_loop {α β:Type} {xs:List α} {ys:List β} (hl:xs.length=ys.length) (hs:xs.length≤4194304) {R:α→β→Prop} (F:Nat→Int→Option Bool) {E:Prop}
  (h1:∀ (n k:Nat) x y Q,k < 4194304→xs[k]? = some x→ys[k]? = some y→Dq (F n ((k+1:Nat):Int)) Q→Dq (F (n+1) (k:Int)) (R x y∧Q))
  (h2:∀ (n k:Nat),xs.length≤k→Dq (F (n+1) (k:Int)) E) {N:Nat} (hN:xs.length < N):Dq (F N (0:Int)) ((∀ (i:Nat) (x:α) (y:β),xs[i]? = some x→ys[i]? = some y→R x y)∧E):=by
 have key:∀ d k n,xs.length-k=d→d < n→Dq (F n (k:Int)) ((∀ (i:Nat) (x:α) (y:β),k≤i→xs[i]? = some x→ys[i]? = some y→R x y)∧E):=by
  intro d
  induction d with
  | zero =>
   intro k n h hn
   obtain ⟨n,rfl⟩:∃ m,n=m+1:=⟨n-1,by omega⟩
   refine (h2 n k (by omega)).iff ⟨fun h'=>⟨fun i x y hi hx _=>?_,h'⟩,fun h'=>h'.2⟩
   have:=get_lt hx;omega
  | succ d ih =>
   intro k n h hn
   obtain ⟨n,rfl⟩:∃ m,n=m+1:=⟨n-1,by omega⟩
   have hk:k < xs.length:=by omega
   have hk':k < ys.length:=by omega
   refine (h1 n k _ _ _ (by omega) (List.getElem?_eq_getElem hk) (List.getElem?_eq_getElem hk') (ih (k+1) n (by omega) (by omega))).iff ⟨fun h'=>⟨fun i x y hi hx hy=>?_,h'.2.2⟩,fun h'=>⟨?_,fun i x y hi hx hy=>h'.1 i x y (by omega) hx hy,h'.2⟩⟩
   ·rcases Nat.eq_or_lt_of_le hi with rfl | hi
    ·rw [List.getElem?_eq_getElem hk] at hx;rw [List.getElem?_eq_getElem hk'] at hy
     cases hx;cases hy;exact h'.1
    ·exact h'.2.1 i x y hi hx hy
   ·exact h'.1 k _ _ (Nat.le_refl _) (List.getElem?_eq_getElem hk) (List.getElem?_eq_getElem hk')
 refine (key xs.length 0 N rfl hN).iff ⟨fun h=>⟨fun i x y hx hy=>h.1 i x y (Nat.zero_le _) hx hy,h.2⟩,fun h=>⟨fun i x y _ hx hy=>h.1 i x y hx hy,h.2⟩⟩
theorem list_pt {α:Type} {xs ys:List α} (hl:xs.length=ys.length):((∀ (i:Nat) (x y:α),xs[i]? = some x→ys[i]? = some y→x=y)∧True)↔xs=ys:=by
 refine ⟨fun h=>List.ext_getElem? fun i=>?_,fun h=>⟨fun i x y hx hy=>by subst h;rw [hx] at hy;exact Option.some.inj hy,trivial⟩⟩
 rcases Nat.lt_or_ge i xs.length with hi | hi
 ·rw [List.getElem?_eq_getElem hi,List.getElem?_eq_getElem (by omega:i < ys.length),h.1 i _ _ (List.getElem?_eq_getElem hi) (List.getElem?_eq_getElem (by omega))]
 ·rw [List.getElem?_eq_none hi,List.getElem?_eq_none (by omega)]
theorem dq_list {α:Type} {xs ys:List α} (hs:xs.length≤4194304) (F:Nat→Int→Option Bool)
  (h1:∀ (n k:Nat) x y Q,k < 4194304→xs[k]? = some x→ys[k]? = some y→Dq (F n ((k+1:Nat):Int)) Q→Dq (F (n+1) (k:Int)) (x=y∧Q))
  (h2:∀ (n k:Nat),xs.length≤k→F (n+1) (k:Int)=some true) {N:Nat} (hN:4194304 < N) :
  Dq (bif ((xs.length:Int) != (ys.length:Int)) then some false else F N (0:Int)) (xs=ys):=by
 by_cases hl:xs.length=ys.length
 ·have:=dq_loop hl hs (R:=fun x y=>x=y) (E:=True) F h1 (fun n k hk=>by rw [h2 n k hk];exact Dq.tr) (N:=N) (by omega)
  rw [nlen.2 hl]
  exact this.iff (list_pt hl)
 ·have:((xs.length:Int) != (ys.length:Int))=true:=by simp;omega
  rw [this]
  exact Dq.fa.iff ⟨fun h=>h.elim,fun h=>hl (by rw [h])⟩
variable {N:Nat} (hN:4194304 < N)
include hN in
theorem strs_dq (xs ys:List ByteArray) (hs:xs.length≤4194304):Dq (z75 N xs ys) (xs=ys):=by
 unfold z75
 refine dq_list hs _ (fun n k x y Q hk hx hy h=>?_) (fun n k hk=>?_) hN
 ·simp only [z75_l2,lt_t (get_lt hx),cT,idx_nat,hx,hy,bS,w64_succ (show k < 4611686018427387904 by omega)]
  exact Dq.cN nseq fun _=>h
 ·simp only [z75_l2,lt_f hk,cF,z75_k1]
theorem fld_test (x y:T0):(!((x.Name.toList==y.Name.toList) && (((x.Sort'.Kind==y.Sort'.Kind) && ((x.Sort'.Lo==y.Sort'.Lo) && ((x.Sort'.Hi==y.Sort'.Hi) && true))) && true)))=false↔x=y:=by
 obtain ⟨n,⟨k,l,h⟩⟩:=x
 obtain ⟨n',⟨k',l',h'⟩⟩:=y
 simp only [Bool.not_eq_false',Bool.and_eq_true,seq',ibeq,T0.mk.injEq,T1.mk.injEq]
 constructor
 ·rintro ⟨a,⟨b,c,d,_⟩,_⟩;exact ⟨a,b,c,d⟩
 ·rintro ⟨a,b,c,d⟩;exact ⟨a,⟨b,c,d,trivial⟩,trivial⟩
theorem atm_test (x y:T14):(!(((x.Left.Kind==y.Left.Kind) && ((x.Left.Message.toList==y.Left.Message.toList) && ((x.Left.Field.toList==y.Left.Field.toList) && ((x.Left.N==y.Left.N) && true)))) && ((x.Op.toList==y.Op.toList) && (((x.Right.Kind==y.Right.Kind) && ((x.Right.Message.toList==y.Right.Message.toList) && ((x.Right.Field.toList==y.Right.Field.toList) && ((x.Right.N==y.Right.N) && true)))) && true))))=false↔x=y:=by
 obtain ⟨⟨k,m,f,n⟩,o,⟨k2,m2,f2,n2⟩⟩:=x
 obtain ⟨⟨k',m',f',n'⟩,o',⟨k2',m2',f2',n2'⟩⟩:=y
 simp only [Bool.not_eq_false',Bool.and_eq_true,seq',ibeq,T14.mk.injEq,T18.mk.injEq]
 constructor
 ·rintro ⟨⟨a,b,c,d,_⟩,e,⟨f,g,h,i,_⟩,_⟩;exact ⟨⟨a,b,c,d⟩,e,f,g,h,i⟩
 ·rintro ⟨⟨a,b,c,d⟩,e,f,g,h,i⟩;exact ⟨⟨a,b,c,d,trivial⟩,e,⟨f,g,h,i,trivial⟩,trivial⟩
include hN in
theorem flds_dq (xs ys:List T0) (hs:xs.length≤4194304):Dq (z132 N xs ys) (xs=ys):=by
 unfold z132
 refine dq_list hs _ (fun n k x y Q hk hx hy h=>?_) (fun n k hk=>?_) hN
 ·simp only [z132_l2,lt_t (get_lt hx),cT,idx_nat,hx,hy,bS,w64_succ (show k < 4611686018427387904 by omega)]
  exact Dq.cN (fld_test x y) fun _=>h
 ·simp only [z132_l2,lt_f hk,cF,z132_k1]
include hN in
theorem atms_dq (xs ys:List T14) (hs:xs.length≤4194304):Dq (z133 N xs ys) (xs=ys):=by
 unfold z133
 refine dq_list hs _ (fun n k x y Q hk hx hy h=>?_) (fun n k hk=>?_) hN
 ·simp only [z133_l2,lt_t (get_lt hx),cT,idx_nat,hx,hy,bS,w64_succ (show k < 4611686018427387904 by omega)]
  exact Dq.cN (atm_test x y) fun _=>h
 ·simp only [z133_l2,lt_f hk,cF,z133_k1]
def bM (m:T16):Prop:=m.Fields.length≤4194304∧m.Where.length≤4194304
include hN in
theorem msg_dq (x y:T16) (hx:bM x):Dq (z77 N x y) (x=y):=by
 unfold z77
 refine (Dq.cA seq' fun _=>Dq.bA (flds_dq hN _ _ hx.1) fun _=>Dq.bS (atms_dq hN _ _ hx.2)).iff ?_
 obtain ⟨n,f,w⟩:=x
 obtain ⟨n',f',w'⟩:=y
 simp only [T16.mk.injEq]
include hN in
theorem msgs_dq (xs ys:List T16) (hs:xs.length≤4194304) (hb:∀ x∈xs,bM x):Dq (z76_51 N xs ys) (xs=ys):=by
 unfold z76_51
 refine dq_list hs _ (fun n k x y Q hk hx hy h=>?_) (fun n k hk=>?_) hN
 ·simp only [z76_51_l2,lt_t (get_lt hx),cT,idx_nat,hx,hy,bS,w64_succ (show k < 4611686018427387904 by omega)]
  exact Dq.bN (msg_dq hN x y (hb x (List.mem_of_getElem? hx))) fun _=>h
 ·simp only [z76_51_l2,lt_f hk,cF,z76_51_k1]
theorem items_dq:∀ (N:Nat) (xs ys:List T15),4194306+dL xs≤N→xs.length≤4194304→bL xs→Dq (z78_53 N xs ys) (xs=ys)
 | 0,_,_,h,_,_=>by omega
 | N+1,xs,ys,h,hs,hb=>by
  show Dq (z78_53_b N (z78_53 N) xs ys) _
  have hN:4194304 < N:=by omega
  unfold z78_53_b
  refine dq_list hs _ (fun n k x y Q hk hx hy h'=>?_) (fun n k hk=>?_) hN
  ·simp only [z78_53_l2,lt_t (get_lt hx),cT,idx_nat,hx,hy,bS,w64_succ (show k < 4611686018427387904 by omega)]
   have hm:=List.mem_of_getElem? hx
   have hbx:=(bI_eq x).1 (bL_mem hb hm)
   have hdx:=dL_mem hm
   rw [dI_eq] at hdx
   refine Dq.bN ?_ fun _=>h'
   unfold z79
   refine (Dq.cA ibeq fun _=>Dq.cA seq' fun _=>Dq.bA (strs_dq hN _ _ hbx.1) fun _=>Dq.cA seq' fun _=>Dq.cA seq' fun _=>Dq.cA ibeq fun _=>Dq.bS (C:=x.Blocks=y.Blocks) ?_).iff ?_
   ·unfold z134_52
    refine dq_list hbx.2.1 _ (fun n k u v Q hk hu hv h'=>?_) (fun n k hk=>?_) hN
    ·simp only [z134_52_l2,lt_t (get_lt hu),cT,idx_nat,hu,hv,bS,w64_succ (show k < 4611686018427387904 by omega)]
     refine Dq.bN ?_ fun _=>h'
     unfold z135
     have hmu:=List.mem_of_getElem? hu
     have:=dLL_mem hmu
     exact Dq.bS (items_dq N u v (by omega) (bLL_mem hbx.2.2 hmu).1 (bLL_mem hbx.2.2 hmu).2)
    ·simp only [z134_52_l2,lt_f hk,cF,z134_52_k1]
   ·obtain ⟨k,f,t,n,a,z,b⟩:=x
    obtain ⟨k',f',t',n',a',z',b'⟩:=y
    simp only [T15.mk.injEq]
  ·simp only [z78_53_l2,lt_f hk,cF,z78_53_k1]
structure bP (p:T17):Prop where
 r:p.Roles.length≤4194304
 m:p.Messages.length≤4194304
 ms:∀ x∈p.Messages,bM x
 l:p.Body.length≤4194304
 b:bL p.Body
theorem prot_dq (p q:T17) (hp:bP p) (hN:4194306+dL p.Body≤N):Dq (z31 N p q) (p=q):=by
 unfold z31
 refine (Dq.cA seq' fun _=>Dq.bA (strs_dq (by omega) _ _ hp.r) fun _=>Dq.bA (msgs_dq (by omega) _ _ hp.m hp.ms) fun _=>Dq.bS (items_dq N _ _ hN hp.l hp.b)).iff ?_
 obtain ⟨n,f,w,b⟩:=p
 obtain ⟨n',f',w',b'⟩:=q
 simp only [T17.mk.injEq]
include hN in
theorem equal_dq (xs ys:List T17) (hs:xs.length≤4194304) (hb:∀ p∈xs,bP p∧4194306+dL p.Body≤N):Dq (z14 N xs ys) (xs=ys):=by
 unfold z14 z30_54
 refine Dq.bS ?_
 refine dq_list hs _ (fun n k x y Q hk hx hy h=>?_) (fun n k hk=>?_) hN
 ·simp only [z30_54_l2,lt_t (get_lt hx),cT,idx_nat,hx,hy,bS,w64_succ (show k < 4611686018427387904 by omega)]
  obtain ⟨h1,h2⟩:=hb x (List.mem_of_getElem? hx)
  exact Dq.bN (prot_dq x y h1 h2) fun _=>h
 ·simp only [z30_54_l2,lt_f hk,cF,z30_54_k1]
end Gp
end
section
namespace Gp
open Go Go.Kx Gx
theorem fold_loop {α γ σ:Type} (xs:List α) (F:Nat→σ→Int→γ) (step:σ→α→σ) (fin:σ→γ) (Inv:Nat→σ→Prop)
  (h1:∀ (n k:Nat) s x,Inv k s→xs[k]? = some x→F (n+1) s (k:Int)=F n (step s x) ((k+1:Nat):Int)∧Inv (k+1) (step s x))
  (h2:∀ (n k:Nat) s,Inv k s→xs.length≤k→F (n+1) s (k:Int)=fin s) {N:Nat} {s:σ} (hN:xs.length < N) (h0:Inv 0 s) :
  F N s (0:Int)=fin (xs.foldl step s)∧Inv xs.length (xs.foldl step s):=by
 have key:∀ (l:List α) (k n:Nat) (s:σ),xs.drop k=l→l.length < n→Inv k s→F n s (k:Int)=fin (l.foldl step s)∧Inv (k+l.length) (l.foldl step s):=by
  intro l
  induction l with
  | nil =>
   intro k n s h hn hi
   obtain ⟨n,rfl⟩:∃ m,n=m+1:=⟨n-1,by simp at hn;omega⟩
   exact ⟨h2 n k s hi (drop_nil h),hi⟩
  | cons x l ih =>
   intro k n s h hn hi
   obtain ⟨n,rfl⟩:∃ m,n=m+1:=⟨n-1,by simp at hn;omega⟩
   obtain ⟨a,c,d⟩:=drop_cons h
   obtain ⟨e1,e2⟩:=h1 n k s x hi c
   obtain ⟨e3,e4⟩:=ih (k+1) n _ d (by simp at hn;omega) e2
   refine ⟨e1.trans e3,?_⟩
   rw [List.length_cons,show k+(l.length+1)=k+1+l.length by omega]
   exact e4
 have:=key xs 0 N s rfl hN h0
 rw [Nat.zero_add] at this
 exact this
mutual
def cI:T15→Nat
 | ⟨_,_,_,_,_,_,b⟩=>cLL b+1
def cL:List T15→Nat
 | []=>0
 | x::l=>cI x+cL l
def cLL:List (List T15)→Nat
 | []=>0
 | x::l=>cL x+cLL l
end
theorem cI_eq (x:T15):cI x=cLL x.Blocks+1:=by cases x;simp only [cI]
mutual
theorem dc_I:∀ x,dI x≤cI x
 | ⟨_,_,_,_,_,_,b⟩=>by simp only [dI,cI];have:=dc_LL b;omega
theorem dc_L:∀ l,dL l≤cL l
 | []=>by simp only [dL,cL];omega
 | x::l=>by simp only [dL,cL];have:=dc_I x;have:=dc_L l;omega
theorem dc_LL:∀ l,dLL l≤cLL l
 | []=>by simp only [dLL,cLL];omega
 | x::l=>by simp only [dLL,cLL];have:=dc_L x;have:=dc_LL l;omega
end
theorem drop_get {α:Type} {xs:List α} {k:Nat} {x:α} (h:xs[k]? = some x):xs.drop k=x::xs.drop (k+1):=by
 obtain ⟨hk,rfl⟩:=List.getElem?_eq_some_iff.1 h
 exact List.drop_eq_getElem_cons hk
theorem cL_fold:∀ (l:List T10) (s:Int),l.foldl (fun s x=>s+(cI (oI x):Int)) s=s+(cL (oL l):Int)
 | [],s=>by simp [oL,cL]
 | x::l,s=>by rw [List.foldl_cons,cL_fold l];simp only [oL,cL];push_cast;omega
theorem cLL_fold:∀ (l:List (List T10)) (s:Int),l.foldl (fun s x=>s+(cL (oL x):Int)) s=s+(cLL (oLL l):Int)
 | [],s=>by simp [oLL,cLL]
 | x::l,s=>by rw [List.foldl_cons,cLL_fold l];simp only [oLL,cLL];push_cast;omega
theorem oLL_len (l:List (List T10)):(oLL l).length=l.length:=by rw [oLL_map,List.length_map]
theorem oL_len (l:List T10):(oL l).length=l.length:=by rw [oL_map,List.length_map]
theorem oL_in {l:List T10} {x} (h:x∈l):oI x∈oL l:=by rw [oL_map];exact List.mem_map.2 ⟨x,h,rfl⟩
theorem oLL_in {l:List (List T10)} {x} (h:x∈l):oL x∈oLL l:=by rw [oLL_map];exact List.mem_map.2 ⟨x,h,rfl⟩
theorem oI_blocks (x:T10):(oI x).Blocks=oLL x.Blocks:=by rw [oI_eq]
theorem count_eq':∀ (N:Nat) (xs:List T10),4194306+dL (oL xs)≤N→xs.length≤4194304→bL (oL xs)→cL (oL xs)≤1099511627776→z46 N xs=some ((cL (oL xs):Nat):Int)
 | 0,_,h,_,_,_=>by omega
 | N+1,xs,h,hs,hb,hc=>by
  show z46_b N (z46 N) xs=_
  unfold z46_b
  have hN:4194304 < N:=by omega
  have inner:∀ (k:Nat) (x:T10) (s:Int) (ag:Int→Int→Option Int),xs[k]? = some x→0≤s→s+(cLL (oLL x.Blocks):Int)≤1099511627776 →
    z46_l4 (z46 N) xs (k:Int) ag N s (0:Int)=ag (s+(cLL (oLL x.Blocks):Int)) ((k+1:Nat):Int):=by
   intro k x s ag hx h0 hle
   have hm:=List.mem_of_getElem? hx
   have hbx:=(bI_eq _).1 (bL_mem hb (oL_in hm))
   rw [oI_blocks,oLL_len] at hbx
   have hdx:=dL_mem (oL_in hm)
   rw [dI_eq,oI_blocks] at hdx
   have hk:=get_lt hx
   have:=(fold_loop x.Blocks (z46_l4 (z46 N) xs (k:Int) ag) (fun s b=>s+(cL (oL b):Int)) (fun s=>ag s ((k+1:Nat):Int))
    (fun j s=>0≤s∧s+(cLL (oLL (x.Blocks.drop j)):Int)≤1099511627776) (fun n j s b hi hj=>?_) (fun n j s hi hj=>?_) (N:=N) (s:=s) (by omega) ⟨h0,by rw [List.drop_zero];exact hle⟩).1
   ·rw [this,cLL_fold]
   ·obtain ⟨h1,h2⟩:=hi
    rw [drop_get hj] at h2
    simp only [oLL,cLL] at h2
    have hmb:=List.mem_of_getElem? hj
    have hbb:=bLL_mem hbx.2.2 (oLL_in hmb)
    have hdb:=dLL_mem (oLL_in hmb)
    rw [oL_len] at hbb
    have e:=count_eq' N b (by omega) hbb.1 hbb.2 (by omega)
    refine ⟨?_,by omega,by push_cast at h2;omega⟩
    simp only [z46_l4,idx_nat,hx,bS,lt_t (get_lt hj),cT,hj,e]
    rw [w64_id (by omega) (by omega),w64_succ (by have:=get_lt hj;omega)]
   ·simp only [z46_l4,idx_nat,hx,bS,lt_f hj,cF,z46_k3]
    rw [w64_succ (by omega)]
  have:=(fold_loop xs (z46_l2 N (z46 N) xs) (fun s x=>s+(cI (oI x):Int)) (fun s=>some s)
   (fun j s=>0≤s∧s+(cL (oL (xs.drop j)):Int)≤1099511627776) (fun n k s x hi hx=>?_) (fun n k s hi hk=>?_) (N:=N) (s:=0) (by omega) ⟨by omega,by rw [List.drop_zero];omega⟩).1
  ·rw [this,cL_fold];simp
  ·obtain ⟨h1,h2⟩:=hi
   rw [drop_get hx] at h2
   simp only [oL,cL] at h2
   have hcx:=cI_eq (oI x)
   rw [oI_blocks] at hcx
   refine ⟨?_,by omega,by push_cast at h2;omega⟩
   simp only [z46_l2,lt_t (get_lt hx),cT]
   rw [w64_id (by omega) (by omega),inner k x (s+1) _ hx (by omega) (by omega),hcx]
   congr 1
   push_cast;omega
  ·simp only [z46_l2,lt_f hk,cF,z46_k1]
def oA (a:T9):T14:=⟨a.Left,a.Op,a.Right⟩
def oM (m:T11):T16:=⟨m.Name,m.Fields,m.Where.map oA⟩
def oP (p:T12):T17:=⟨p.Name,p.Roles,p.Messages.map oM,oL p.Body⟩
theorem snoc_fold {α β:Type} (f:α→β):∀ (l:List α) (s:List β),l.foldl (fun s x=>s++[f x]) s=s++l.map f
 | [],s=>by simp
 | x::l,s=>by rw [List.foldl_cons,snoc_fold f l,List.map_cons];simp
theorem own_items:∀ (N:Nat) (xs:List T10),4194306+dL (oL xs)≤N→xs.length≤4194304→bL (oL xs)→z20 N xs=some (oL xs)
 | 0,_,h,_,_=>by omega
 | N+1,xs,h,hs,hb=>by
  show z20_b N (z20 N) xs=_
  unfold z20_b
  have hN:4194304 < N:=by omega
  have inner:∀ (k:Nat) (x:T10) (acc:List T15) (ag:List T15→Int→Option (List T15)),xs[k]? = some x→acc.length≤4194304 →
    z20_l4 (z20 N) acc (k:Int) ag x N [] (0:Int)=ag (acc++[oI x]) ((k+1:Nat):Int):=by
   intro k x acc ag hx hacc
   have hm:=List.mem_of_getElem? hx
   have hbx:=(bI_eq _).1 (bL_mem hb (oL_in hm))
   rw [oI_blocks,oLL_len] at hbx
   have hdx:=dL_mem (oL_in hm)
   rw [dI_eq,oI_blocks] at hdx
   have hk:=get_lt hx
   have:=(fold_loop x.Blocks (z20_l4 (z20 N) acc (k:Int) ag x) (fun s b=>s++[oL b]) (fun s=>z20_k3 acc (k:Int) ag x s)
    (fun j s=>s.length=j) (fun n j s b hi hj=>?_) (fun n j s hi hj=>?_) (N:=N) (s:=[]) (by omega) rfl).1
   ·rw [this,snoc_fold,List.nil_append,← oLL_map]
    unfold z20_k3
    rw [appL_some (by simp;omega),bS,w64_succ (by omega),oI_eq]
   ·have hmb:=List.mem_of_getElem? hj
    have hbb:=bLL_mem hbx.2.2 (oLL_in hmb)
    have hdb:=dLL_mem (oLL_in hmb)
    rw [oL_len] at hbb
    have e:=own_items N b (by omega) hbb.1 hbb.2
    have hjl:=get_lt hj
    refine ⟨?_,by simp [hi]⟩
    simp only [z20_l4,lt_t hjl,cT,idx_nat,hj,bS,e]
    rw [appL_some (by simp;omega),bS,w64_succ (by omega)]
   ·simp only [z20_l4,lt_f hj,cF]
  have:=(fold_loop xs (z20_l2 N (z20 N) xs) (fun s x=>s++[oI x]) (fun s=>some s)
   (fun j s=>s.length=j) (fun n k s x hi hx=>?_) (fun n k s hi hk=>?_) (N:=N) (s:=[]) (by omega) rfl).1
  ·rw [this,snoc_fold,List.nil_append,← oL_map]
  ·have hk:=get_lt hx
   refine ⟨?_,by simp [hi]⟩
   simp only [z20_l2,lt_t hk,cT,idx_nat,hx,bS]
   rw [inner k x s _ hx (by omega)]
  ·simp only [z20_l2,lt_f hk,cF,z20_k1]
end Gp
end
section
namespace Gp
open Go Go.Kx Gx
variable {N:Nat} (hN:4194304 < N)
def RP (p:T12):Prop:=bP (oP p)
theorem oM_w (m:T11):(oM m).Where.length=m.Where.length:=by show (m.Where.map oA).length=_;simp
theorem RP_ms {p:T12} (h:RP p) {m} (hm:m∈p.Messages):m.Fields.length≤4194304∧m.Where.length≤4194304:=by
 have:=h.ms (oM m) (List.mem_map.2 ⟨m,hm,rfl⟩)
 have h2:=this.2
 rw [oM_w] at h2
 exact ⟨this.1,h2⟩
theorem RP_m {p:T12} (h:RP p):p.Messages.length≤4194304:=by
 have:=h.m
 have e:(oP p).Messages.length=p.Messages.length:=by show (p.Messages.map oM).length=_;simp
 omega
theorem RP_l {p:T12} (h:RP p):p.Body.length≤4194304:=by
 have:=h.l
 have e:(oP p).Body.length=p.Body.length:=oL_len _
 omega
include hN in
theorem own_eq (xs:List T12) (hs:xs.length≤4194304) (hb:∀ p∈xs,RP p∧4194306+dL (oL p.Body)≤N):z10 N xs=some (xs.map oP):=by
 unfold z10
 have i3:∀ (ms:List T16) (j:Nat) (ag:List T16→Int→Option (List T17)) (m:T11),ms.length≤4194304→j < 4194304→m.Where.length≤4194304 →
   z10_l6 ms (j:Int) ag m N [] (0:Int)=ag (ms++[oM m]) ((j+1:Nat):Int):=by
  intro ms j ag m h1 h2 h3
  have:=(fold_loop m.Where (z10_l6 ms (j:Int) ag m) (fun s a=>s++[oA a]) (fun s=>z10_k5 ms (j:Int) ag m s) (fun i s=>s.length=i)
   (fun n i s a hi ha=>?_) (fun n i s hi ha=>?_) (N:=N) (s:=[]) (by omega) rfl).1
  ·rw [this,snoc_fold,List.nil_append]
   unfold z10_k5
   rw [appL_some (by simp;omega),bS,w64_succ (by omega)]
   rfl
  ·have hj:=get_lt ha
   refine ⟨?_,by simp [hi]⟩
   simp only [z10_l6,lt_t hj,cT,idx_nat,ha,bS]
   rw [appL_some (by simp;omega),bS,w64_succ (by omega)]
   rfl
  ·simp only [z10_l6,lt_f ha,cF]
 have i2:∀ (ps:List T17) (j:Nat) (ag:List T17→Int→Option (List T17)) (p:T12) (b:List T15),ps.length≤4194304→j < 4194304→RP p →
   z10_l4 N ps (j:Int) ag p b N [] (0:Int)=ag (ps++[⟨p.Name,p.Roles,p.Messages.map oM,b⟩]) ((j+1:Nat):Int):=by
  intro ps j ag p b h1 h2 h3
  have hpm:=RP_m h3
  have:=(fold_loop p.Messages (z10_l4 N ps (j:Int) ag p b) (fun s a=>s++[oM a]) (fun s=>z10_k3 ps (j:Int) ag p b s) (fun i s=>s.length=i)
   (fun n i s a hi ha=>?_) (fun n i s hi ha=>?_) (N:=N) (s:=[]) (by omega) rfl).1
  ·rw [this,snoc_fold,List.nil_append]
   unfold z10_k3
   rw [appL_some (by simp;omega),bS,w64_succ (by omega)]
  ·have hj:=get_lt ha
   refine ⟨?_,by simp [hi]⟩
   simp only [z10_l4,lt_t hj,cT,idx_nat,ha,bS]
   rw [i3 s i _ a (by omega) (by omega) (RP_ms h3 (List.mem_of_getElem? ha)).2]
  ·simp only [z10_l4,lt_f ha,cF]
 have:=(fold_loop xs (z10_l2 N xs) (fun s a=>s++[oP a]) (fun s=>some s) (fun i s=>s.length=i)
   (fun n i s a hi ha=>?_) (fun n i s hi ha=>?_) (N:=N) (s:=[]) (by omega) rfl).1
 ·rw [this,snoc_fold,List.nil_append]
 ·have hj:=get_lt ha
  refine ⟨?_,by simp [hi]⟩
  obtain ⟨h1,h2⟩:=hb a (List.mem_of_getElem? ha)
  simp only [z10_l2,lt_t hj,cT,idx_nat,ha,bS]
  rw [own_items N a.Body h2 (RP_l h1) h1.b,bS,i2 s i _ a _ (by omega) (by omega) h1]
  rfl
 ·simp only [z10_l2,lt_f ha,cF,z10_k1]
end Gp
end
section
namespace Gp
open Go Go.Kx Gx
variable {N:Nat} (hN:4194304 < N)
def cPs (l:List T12):Nat:=(l.map fun p=>cL (oL p.Body)).sum
def mPs (l:List T12):Nat:=(l.map fun p=>p.Messages.length).sum
def MsOk (p:T12):Prop:=∀ m∈p.Messages,m.Fields.length≤8∧m.Where.length≤10
def FewP (l:List T12):Prop:=(∀ p∈l,MsOk p)∧l.length≤12∧cPs l≤320∧mPs l≤60
theorem gt_lem {a b:Nat}:decide ((a:Int) > (b:Int))=false↔a≤b:=by simp
include hN in
theorem few_dq (l:List T12) (hs:l.length≤4194304) (hb:∀ p∈l,RP p∧4194306+dL (oL p.Body)≤N) (hc:cPs l≤1099511627776):Dq (z19 N l) (FewP l):=by
 unfold z19
 have key:∀ (l2:List T12) (k n:Nat) (s t:Nat),l.drop k=l2→l2.length < n→s+cPs l2≤1099511627776→t≤k * 4194304 →
   Dq (z19_l2 N l n (s:Int) (t:Int) (k:Int)) ((∀ p∈l2,MsOk p)∧l.length≤12∧s+cPs l2≤320∧t+mPs l2≤60):=by
  intro l2
  induction l2 with
  | nil =>
   intro k n s t h hn hcs ht
   obtain ⟨n,rfl⟩:∃ m,n=m+1:=⟨n-1,by simp at hn;omega⟩
   simp only [z19_l2,lt_f (drop_nil h),cF,z19_k1]
   refine (Dq.cA (C:=l.length≤12) (by rw [decide_eq_true_eq];omega) fun _=>Dq.cA (C:=s≤320) (by rw [decide_eq_true_eq];omega) fun _=>Dq.bool _).iff ?_
   simp only [decide_eq_true_eq,cPs,mPs,List.map_nil,List.sum_nil,Nat.add_zero,List.not_mem_nil,false_implies,implies_true,true_and]
   omega
  | cons p l2 ih =>
   intro k n s t h hn hcs ht
   obtain ⟨n,rfl⟩:∃ m,n=m+1:=⟨n-1,by simp at hn;omega⟩
   obtain ⟨a,c,d⟩:=drop_cons h
   have hm:=List.mem_of_getElem? c
   obtain ⟨h1,h2⟩:=hb p hm
   have e0:cPs (p::l2)=cL (oL p.Body)+cPs l2:=by simp [cPs]
   have e1:mPs (p::l2)=p.Messages.length+mPs l2:=by simp [mPs]
   have hpm:=RP_m h1
   simp only [z19_l2,lt_t a,cT,idx_nat,c,bS]
   rw [count_eq' N p.Body h2 (RP_l h1) h1.b (by omega),bS]
   refine (dq_loop (xs:=p.Messages) (ys:=p.Messages) rfl hpm (R:=fun m _=>m.Fields.length≤8∧m.Where.length≤10)
    (z19_l4 l (s:Int) (t:Int) (k:Int) (z19_l2 N l n) ((cL (oL p.Body):Nat):Int) p)
    (E:=(∀ p∈l2,MsOk p)∧l.length≤12∧s+cL (oL p.Body)+cPs l2≤320∧t+p.Messages.length+mPs l2≤60) (fun n' j u v Q hj hu hv h'=>?_) (fun n' j hj=>?_) (N:=N) (by omega)).iff ?_
   ·simp only [z19_l4,idx_nat,c,bS,lt_t (get_lt hu),cT,hu,w64_succ (show j < 4611686018427387904 by omega)]
    refine (Dq.cN (C:=u.Fields.length≤8) (gt_lem (b:=8)) fun _=>Dq.cN (C:=u.Where.length≤10) (gt_lem (b:=10)) fun _=>h').iff ⟨fun q=>⟨⟨q.1,q.2.1⟩,q.2.2⟩,fun q=>⟨q.1.1,q.1.2,q.2⟩⟩
   ·simp only [z19_l4,idx_nat,c,bS,lt_f hj,cF,z19_k3]
    rw [w64_id (by omega) (by omega),w64_id (by omega) (by omega),w64_succ (by omega)]
    have:=ih (k+1) n (s+cL (oL p.Body)) (t+p.Messages.length) d (by simp at hn;omega) (by omega) (by omega)
    push_cast at this
    exact this
   ·rw [e0,e1]
    constructor
    ·rintro ⟨q1,q2,q3,q4,q5⟩
     refine ⟨fun x hx=>?_,q3,by omega,by omega⟩
     rcases List.mem_cons.1 hx with rfl | hx
     ·intro m hm
      obtain ⟨i,hi⟩:=List.mem_iff_getElem?.1 hm
      exact q1 i m m hi hi
     ·exact q2 x hx
    ·rintro ⟨q1,q2,q3,q4⟩
     exact ⟨fun i u v hu _=>q1 p (List.mem_cons_self ..) u (List.mem_of_getElem? hu),fun x hx=>q1 x (List.mem_cons_of_mem _ hx),q2,by omega,by omega⟩
 have:=key l 0 N 0 0 rfl (by omega) (by omega) (by omega)
 refine this.iff ?_
 unfold FewP
 simp only [Nat.zero_add]
end Gp
end
section
namespace Gp
open Go Go.Kx Gx
abbrev Tok:=T4
inductive Rr (α:Type) where
 | ok (a:α) (n:Nat)
 | er (k:Nat) (e:Int)
 | out
def Rr.bind {α β:Type}:Rr α→(α→Nat→Rr β)→Rr β
 | .ok a n,f=>f a n
 | .er k e,_=>.er k e
 | .out,_=>.out
def zt:Tok:=⟨0,str [],0,0⟩
def tk (l:List Tok) (n:Nat):Tok:=(l[n]?).getD zt
def isT (s:ByteArray) (t:Tok):Bool:=(t.Kind==4 || t.Kind==1) && eqStr t.Text s
def marksL:List ByteArray:=[(str [60]),(str [60,61]),(str [61,61]),(str [62,61]),(str [62])]
def starters:List ByteArray:=[(str [99,104,111,105,99,101]),(str [108,111,111,112]),(str [97,103,97,105,110]),(str [112,97,114]),(str [99,97,108,108])]
end Gp
end
section
namespace Gp
open Go Go.Kx Gx
theorem tk_end {l:List Tok} {n:Nat} (h:l.length≤n):tk l n=zt:=by unfold tk;rw [List.getElem?_eq_none h];rfl
section
variable {σ:Type} (l:List Tok) (okS:Nat→σ) (erS:Nat→Int→σ)
def Ot {α β:Type} (Gd:α→Prop) (c:β→α) (n0:Nat) (r:Rr β) (o:Option (α × σ)):Prop :=
 match r with
 | .ok b n=>o=some (c b,okS n)∧Gd (c b)∧n0≤n∧n≤l.length
 | .er k e=>e≠0∧∃ a,o=some (a,erS k e)∧Gd a
 | .out=>True
theorem Ot.le {α β:Type} {Gd:α→Prop} {c:β→α} {n0 n1:Nat} {r:Rr β} {o:Option (α × σ)} (h:Ot l okS erS Gd c n1 r o) (hn:n0≤n1):Ot l okS erS Gd c n0 r o:=by
 cases r with
 | ok b n=>exact ⟨h.1,h.2.1,Nat.le_trans hn h.2.2.1,h.2.2.2⟩
 | er k e=>exact h
 | out=>trivial
structure Bj {α β:Type} (Gd:α→Prop) (c:β→α) (S:Nat→Rr β) (g:σ→Option (α × σ)):Prop where
 ok:∀ n,n≤l.length→Ot l okS erS Gd c n (S n) (g (okS n))
 st:∀ k e,e≠0→∃ a,g (erS k e)=some (a,erS k e)∧Gd a
structure BjU (S:Nat→Rr Unit) (g:σ→Option σ):Prop where
 ok:∀ n,n≤l.length→match S n with
  | .ok _ m=>g (okS n)=some (okS m)∧n≤m∧m≤l.length
  | .er k e=>e≠0∧g (okS n)=some (erS k e)
  | .out=>True
 st:∀ k e,e≠0→g (erS k e)=some (erS k e)
structure Tk (s:ByteArray) (t:σ→Option (Bool × σ)):Prop where
 ok:∀ n,t (okS n)=some (bif isT s (tk l n) then (true,okS (n+1)) else (false,okS n))
 st:∀ k e,e≠0→t (erS k e)=some (false,erS k e)
structure Is (s:ByteArray) (t:σ→Option Bool):Prop where
 ok:∀ n,t (okS n)=some (isT s (tk l n))
 st:∀ k e,e≠0→t (erS k e)=some false
structure Nx (t:σ→Option Tok):Prop where
 ok:∀ n,t (okS n)=some (tk l n)
 st:∀ k e,e≠0→t (erS k e)=some zt
variable {l okS erS}
theorem Bj.bind {α β α' β':Type} {Gd:α→Prop} {Gd':α'→Prop} {c:β→α} {c':β'→α'} (hc:∀ a,∃ b,c b=a) {S:Nat→Rr β} {g:σ→Option (α × σ)} (h:Bj l okS erS Gd c S g) {T:β→Nat→Rr β'} {G:α × σ→Option (α' × σ)}
  (hG:∀ b,Gd (c b)→Bj l okS erS Gd' c' (T b) (fun s=>G (c b,s))):Bj l okS erS Gd' c' (fun n=>(S n).bind T) (fun s=>(g s).bind G):=by
 refine ⟨fun n hn=>?_,fun k e he=>?_⟩
 ·have h1:=h.ok n hn
  show Ot l okS erS Gd' c' n ((S n).bind T) ((g (okS n)).bind G)
  cases hS:S n with
  | ok b m =>
   rw [hS] at h1
   obtain ⟨e,h4,h2,h3⟩:=h1
   rw [e]
   exact ((hG b h4).ok m h3).le _ _ _ h2
  | er k e =>
   rw [hS] at h1
   obtain ⟨he,a,e1,h4⟩:=h1
   obtain ⟨b,rfl⟩:=hc a
   refine ⟨he,?_⟩
   rw [e1]
   exact (hG b h4).st k e he
  | out=>trivial
 ·obtain ⟨a,e1,h4⟩:=h.st k e he
  obtain ⟨b,rfl⟩:=hc a
  show ∃ a,(g (erS k e)).bind G=_∧_
  rw [e1]
  exact (hG b h4).st k e he
theorem BjU.bind {α' β':Type} {Gd':α'→Prop} {c':β'→α'} {S:Nat→Rr Unit} {g:σ→Option σ} (h:BjU l okS erS S g) {T:Unit→Nat→Rr β'} {G:σ→Option (α' × σ)}
  (hG:Bj l okS erS Gd' c' (T ()) G):Bj l okS erS Gd' c' (fun n=>(S n).bind T) (fun s=>(g s).bind G):=by
 refine ⟨fun n hn=>?_,fun k e he=>?_⟩
 ·have h1:=h.ok n hn
  show Ot l okS erS Gd' c' n ((S n).bind T) ((g (okS n)).bind G)
  cases hS:S n with
  | ok b m =>
   rw [hS] at h1
   obtain ⟨e,h2,h3⟩:=h1
   rw [e]
   exact (hG.ok m h3).le _ _ _ h2
  | er k e =>
   rw [hS] at h1
   obtain ⟨he,e1⟩:=h1
   refine ⟨he,?_⟩
   rw [e1]
   exact hG.st k e he
  | out=>trivial
 ·show ∃ a,(g (erS k e)).bind G=_∧_
  rw [h.st k e he]
  exact hG.st k e he
theorem Bj.is {α β:Type} {Gd:α→Prop} {c:β→α} {s:ByteArray} {t:σ→Option Bool} (h:Is l okS erS s t) {A B:Nat→Rr β} {G:Bool→σ→Option (α × σ)}
  (hA:Bj l okS erS Gd c A (G true)) (hB:Bj l okS erS Gd c B (G false)):Bj l okS erS Gd c (fun n=>bif isT s (tk l n) then A n else B n) (fun p=>(t p).bind fun x=>G x p):=by
 refine ⟨fun n hn=>?_,fun k e he=>?_⟩
 ·show Ot l okS erS Gd c n (bif isT s (tk l n) then A n else B n) ((t (okS n)).bind fun x=>G x (okS n))
  rw [h.ok n]
  cases hi:isT s (tk l n) with
  | true=>exact hA.ok n hn
  | false=>exact hB.ok n hn
 ·show ∃ a,(t (erS k e)).bind (fun x=>G x (erS k e))=_∧_
  rw [h.st k e he]
  exact hB.st k e he
theorem Bj.next {α β:Type} {Gd:α→Prop} {c:β→α} {t:σ→Option Tok} (h:Nx l okS erS t) {A B:Nat→Rr β} {G:Tok→σ→Option (α × σ)} (q:Tok→Bool) (hq:q zt=false)
  (hA:∀ n,n < l.length→q (tk l n)=true→Ot l okS erS Gd c n (A n) (G (tk l n) (okS n))) (hB:∀ n,n≤l.length→q (tk l n)=false→Ot l okS erS Gd c n (B n) (G (tk l n) (okS n)))
  (hS:∀ k e,e≠0→∃ a,G zt (erS k e)=some (a,erS k e)∧Gd a):Bj l okS erS Gd c (fun n=>bif q (tk l n) then A n else B n) (fun p=>(t p).bind fun x=>G x p):=by
 refine ⟨fun n hn=>?_,fun k e he=>?_⟩
 ·show Ot l okS erS Gd c n (bif q (tk l n) then A n else B n) ((t (okS n)).bind fun x=>G x (okS n))
  rw [h.ok n]
  cases hi:q (tk l n) with
  | true =>
   have hlt:n < l.length:=by
    rcases Nat.lt_or_ge n l.length with k | k
    ·exact k
    ·rw [tk_end k,hq] at hi;cases hi
   exact hA n hlt hi
  | false=>exact hB n hn hi
 ·show ∃ a,(t (erS k e)).bind (fun x=>G x (erS k e))=_∧_
  rw [h.st k e he]
  exact hS k e he
theorem Bj.congr {α β:Type} {Gd:α→Prop} {c:β→α} {S S':Nat→Rr β} {g g':σ→Option (α × σ)} (h:Bj l okS erS Gd c S g) (hS:∀ n,n≤l.length→S' n=S n) (hg:∀ s,g' s=g s):Bj l okS erS Gd c S' g' :=
 ⟨fun n hn=>by rw [hS n hn,hg];exact h.ok n hn,fun k e he=>by rw [hg];exact h.st k e he⟩
end
end Gp
end
section
namespace Gp
open Go Go.Kx Gx
variable {N:Nat} (hN:4194304 < N) {l:List Tok} (hl:l.length≤8100) (hW:∀ t∈l,t.Text.size≤8100) (e:Int)
end Gp
end
section
namespace Gp
open Go Go.Kx Gx
variable {N:Nat} (hN:4194304 < N) {l:List Tok} (hl:l.length≤8100) (hW:∀ t∈l,t.Text.size≤8100) (e:Int)
end Gp
end
section
namespace Gp
open Go Go.Kx Gx
variable {N:Nat} (hN:4194304 < N) {l:List Tok} (hl:l.length≤8100) (hW:∀ t∈l,t.Text.size≤8100) (e:Int)
end Gp
end
section
namespace Gp
open Go Go.Kx Gx
variable {N:Nat} {l:List Tok} (hl:l.length≤8100) (hW:∀ t∈l,t.Text.size≤8100) (e:Int)
end Gp
end
section
namespace Gp
open Go Go.Kx Gx
variable {N:Nat} (hN:4194304 < N) {l:List Tok} (hl:l.length≤8100) (hW:∀ t∈l,t.Text.size≤8100) (z:ByteArray)
end Gp
end
section
namespace Gp
open Go Go.Kx Gx
def WfT (l:List Tok):Prop:=∀ t∈l,(t.Kind=1→(marksL.any fun k=>eqStr k t.Text)=false)∧(t.Kind=4→(starters.any fun k=>eqStr k t.Text)=false)
variable {N:Nat} (hN:4194304 < N) {l:List Tok} (hl:l.length≤8100) (hW:∀ t∈l,t.Text.size≤8100) (hT:WfT l) (z:ByteArray)
end Gp
end
section
namespace Gp
open Go Go.Kx Gx
variable {N:Nat} (hN:4194304 < N) {l:List Tok} (hl:l.length≤8100) (hW:∀ t∈l,t.Text.size≤8100) (hT:WfT l) (z:ByteArray)
end Gp
end
section
namespace Gp
open Go Go.Kx Gx
def letB (c:UInt8):Bool:=letterV (c.toNat:Int)
inductive Lx where
 | ok (k:Int) (tx:List UInt8) (v:Int) (n:Nat)
 | er (e:Int)
def marks2:List (List UInt8):=[[45,62],[46,46],[60,61],[62,61],[61,61],[33,61],[38,38],[124,124]]
def marks1:List UInt8:=[40,41,123,125,44,59,58,46,43,45,42,47,37,60,62,61,33]
variable {N:Nat} (hN:4194304 < N)
end Gp
end
section
namespace Gp
open Go Go.Kx Gx
variable {N:Nat} (hN:4194304 < N)
end Gp
end
section
namespace Gp
open Go Go.Kx Gx
variable {N:Nat} (hN:4194304 < N)
end Gp
end
section
namespace Gp
open Go Go.Kx Gx
structure TokOk (s:List UInt8) (k:Int) (tx:List UInt8) (n:Nat):Prop where
 pos:1≤n
 le:n≤s.length
 len:tx.length≤n
 name:k=1→∃ c l,tx=c::l∧letB c=true
 mark:k=4→(tx∈marks2∨∃ c,c∈marks1∧tx=[c])
variable {N:Nat} (hN:4194304 < N)
end Gp
end
section
namespace Gp
open Go Go.Kx Gx
variable {N:Nat} (hN:4194304 < N)
end Gp
end
section
namespace Gp
open Go Go.Kx Gx
variable {N:Nat} (hN:4194304 < N)
end Gp
end
section
namespace Gp
open Go Go.Kx Gx
section
variable (l:List Tok)
structure Nm {β:Type} (d:Nat) (z:β→Nat) (c:Nat) (S:Nat→Rr β) (B:Nat):Prop where
 out:∀ n,B≤n→n≤l.length→S n≠.out
 ok:∀ n,B≤n→n≤l.length→∀ a m,S n=.ok a m→n+d≤m∧m≤l.length∧z a+n≤m+c
variable {l}
theorem Nm.bind {α β:Type} {d1 d2:Nat} {z1:α→Nat} {z2:β→Nat} {c:Nat} {S:Nat→Rr α} {T:α→Nat→Rr β} {B:Nat} (h:Nm l d1 z1 0 S B) (hT:∀ a,Nm l d2 z2 (c+z1 a) (T a) B):Nm l (d1+d2) z2 c (fun n=>(S n).bind T) B:=by
 refine ⟨fun n hB hn=>?_,fun n hB hn b m hm=>?_⟩
 ·cases hS:S n with
  | ok a m => 
   obtain ⟨h1,h2,_⟩:=h.ok n hB hn a m hS
   exact (hT a).out m (by omega) h2
  | er k e=>intro h;cases h
  | out=>exact absurd hS (h.out n hB hn)
 ·have hm:(S n).bind T=.ok b m:=hm
  cases hS:S n with
  | ok a m1 =>
   rw [hS] at hm
   obtain ⟨h1,h2,h3⟩:=h.ok n hB hn a m1 hS
   obtain ⟨h4,h5,h6⟩:=(hT a).ok m1 (by omega) h2 b m hm
   exact ⟨by omega,h5,by omega⟩
  | er k e=>rw [hS] at hm;cases hm
  | out=>rw [hS] at hm;cases hm
theorem Nm.weak {β:Type} {d d':Nat} {z z':β→Nat} {c c':Nat} {S:Nat→Rr β} {B B':Nat} (h:Nm l d z c S B) (hd:d'≤d) (hz:∀ a,z' a≤z a) (hc:c≤c') (hB:B≤B'):Nm l d' z' c' S B' :=
 ⟨fun n h1 h2=>h.out n (by omega) h2,fun n h1 h2 a m hm=>by
  obtain ⟨q1,q2,q3⟩:=h.ok n (by omega) h2 a m hm
  have:=hz a
  exact ⟨by omega,q2,by omega⟩⟩
theorem word_size {s:ByteArray} (h:isWord s=true):s.size≤16:=by
 rw [size_bs]
 unfold isWord isName at h
 rw [Bool.and_eq_true] at h
 cases hb:bs s with
 | nil=>simp
 | cons x l =>
  rw [hb] at h
  have:=h.1
  simp only [Bool.and_eq_true,decide_eq_true_eq] at this
  simp only [List.length_cons];omega
end
end Gp
end
section
namespace Gp
open Go Go.Kx Gx
section
variable {l:List Tok}
theorem Nm.congr {β:Type} {d:Nat} {z:β→Nat} {c:Nat} {S S':Nat→Rr β} {B:Nat} (h:Nm l d z c S B) (e:∀ n,S' n=S n):Nm l d z c S' B :=
 ⟨fun n h1 h2=>by rw [e];exact h.out n h1 h2,fun n h1 h2 a m hm=>h.ok n h1 h2 a m (by rw [← e];exact hm)⟩
theorem Nm.b0 {α β:Type} {d1:Nat} {z1:α→Nat} {z2:β→Nat} {c:Nat} {S:Nat→Rr α} {T:α→Nat→Rr β} {B:Nat} (h:Nm l d1 z1 0 S B) (hT:∀ a,Nm l 0 z2 (c+z1 a) (T a) B):Nm l 0 z2 c (fun n=>(S n).bind T) B :=
 (Nm.bind h hT).weak (Nat.zero_le _) (fun _=>Nat.le_refl _) (Nat.le_refl _) (Nat.le_refl _)
theorem Nm.b1 {α β:Type} {z1:α→Nat} {z2:β→Nat} {c:Nat} {S:Nat→Rr α} {T:α→Nat→Rr β} {B:Nat} (h:Nm l 1 z1 0 S B) (hT:∀ a,Nm l 0 z2 (c+z1 a) (T a) B):Nm l 1 z2 c (fun n=>(S n).bind T) B :=
 Nm.bind (d2:=0) h hT
end
end Gp
end
section
namespace Gp
open Go Go.Kx Gx
theorem Dq.ite {c:Bool} {C P:Prop} {o1 o2:Option Bool} (hc:c=true↔C) (h1:C→Dq o1 P) (h2:¬C→Dq o2 P):Dq (bif c then o1 else o2) P:=by
 cases c with
 | false=>exact h2 (fun h=>by have:=hc.2 h;cases this)
 | true=>exact h1 (hc.1 rfl)
theorem Dq.of {o:Option Bool} {b:Bool} {P:Prop} (h:o=some b) (hb:b=true↔P):Dq o P:=⟨b,h,hb⟩
theorem Dq.dec {P:Prop} [Decidable P] {Q:Prop} (h:P↔Q):Dq (some (decide P)) Q:=⟨decide P,rfl,by rw [decide_eq_true_eq,h]⟩
theorem dq_all {α:Type} {xs:List α} (hs:xs.length≤4194304) {P:α→Prop} (F:Nat→Int→Option Bool) {E:Prop}
  (h1:∀ (n k:Nat) x Q,k < 4194304→xs[k]? = some x→(P x→Dq (F n ((k+1:Nat):Int)) Q)→Dq (F (n+1) (k:Int)) (P x∧Q))
  (h2:(∀ x∈xs,P x)→∀ (n k:Nat),xs.length≤k→Dq (F (n+1) (k:Int)) E) {N:Nat} (hN:xs.length < N):Dq (F N (0:Int)) ((∀ x∈xs,P x)∧E):=by
 have key:∀ (l:List α) (k n:Nat),xs.drop k=l→l.length < n→(∀ x∈xs.take k,P x)→Dq (F n (k:Int)) ((∀ x∈l,P x)∧E):=by
  intro l
  induction l with
  | nil =>
   intro k n h hn ht
   obtain ⟨n,rfl⟩:∃ m,n=m+1:=⟨n-1,by simp at hn;omega⟩
   have hk:=drop_nil h
   rw [List.take_of_length_le hk] at ht
   exact (h2 ht n k hk).iff ⟨fun h=>⟨by simp,h⟩,fun h=>h.2⟩
  | cons x l ih =>
   intro k n h hn ht
   obtain ⟨n,rfl⟩:∃ m,n=m+1:=⟨n-1,by simp at hn;omega⟩
   obtain ⟨a,c,d⟩:=drop_cons h
   refine (h1 n k x _ (by omega) c fun hp=>ih (k+1) n d (by simp at hn;omega) ?_).iff ?_
   ·intro y hy
    rw [List.take_succ,c] at hy
    rcases List.mem_append.1 hy with hy | hy
    ·exact ht y hy
    ·simp at hy;subst hy;exact hp
   ·simp only [List.mem_cons,forall_eq_or_imp,and_assoc]
 have:=key xs 0 N rfl hN (by simp)
 exact this
variable {N:Nat} (hN:4194304 < N)
include hN in
theorem word_own' (s:ByteArray):z41 N s=some (isWord s):=by
 by_cases hs:s.size≤4194304
 ·exact word_own hN s hs
 ·have hb:bs s≠[]:=fun h=>by rw [size_bs,h] at hs;simp at hs
  have hw:isWord s=false:=by
   cases h:isWord s with
   | false=>rfl
   | true=>have:=word_size h;omega
  obtain ⟨x,l,hx⟩:∃ x l,bs s=x::l:=by
   cases h:bs s with
   | nil=>exact absurd h hb
   | cons x l=>exact ⟨x,l,rfl⟩
  have e1:(s.toList==(str []).toList)=false:=by rw [toList_bs,toList_bs,hx];rfl
  have e2:decide ((s.size:Int) > 16)=true:=dT (by omega)
  have e3:sidx s (0:Int)=some (x.toNat:Int):=by rw [show sidx s (0:Int)=sidx s ((0:Nat):Int) from rfl,sidx_bs,hx];rfl
  rw [hw]
  unfold z41 z97
  rw [e1,e2,e3]
  simp only [cF,cT,bS]
include hN in
theorem word_dq (s:ByteArray):Dq (z41 N s) (isWord s=true):=Dq.of (word_own' hN s) Iff.rfl
include hN in
theorem path_dq (s:ByteArray):Dq (z101 N s) (pathV s=true):=Dq.of (path_eq hN s) Iff.rfl
theorem emp {a:ByteArray}:(a.toList==(str []).toList)=true↔a=str []:=seq'
def WordsP (l:List ByteArray) (k:Nat):Prop:=1≤l.length∧l.length≤k∧∀ w∈l,isWord w=true
include hN in
theorem words_dq (l:List ByteArray) (hl:l.length≤4194304) (k:Nat):Dq (z42 N l (k:Int)) (WordsP l k):=by
 unfold z42
 refine Dq.cA (by rw [decide_eq_true_eq];omega) fun _=>Dq.cA (by rw [decide_eq_true_eq];omega) fun _=>?_
 unfold z98_3 z131_2
 rw [look l hl (fun x k r=>bif !isWord x then some k else r) (z131_2_l2 N l) (some (-1)) hN]
 ·obtain ⟨i,h1,h2⟩:=whereV_any (fun x => !isWord x) l 0
  rw [h1]
  simp only [bS]
  refine ⟨_,rfl,?_⟩
  rw [h2]
  simp
 ·intro n k x hk hx
  simp only [z131_2_l2,lt_t (get_lt hx),cT,idx_nat,hx,bS,z99,word_own' hN x,w64_succ (show k < 4611686018427387904 by omega)]
 ·intro n k hk
  simp only [z131_2_l2,lt_f hk,cF,z131_2_k1]
def ShP (x:T15):Prop :=
 (x.Kind=1∧isWord x.From=true∧WordsP x.To 5∧pathV x.Name=true∧x.As=str []∧x.Ticks=0∧x.Blocks.length=0) ∨
 (x.Kind=2∧isWord x.From=true∧x.To.length=0∧x.Name=str []∧x.As=str []∧0≤x.Ticks∧x.Ticks≤1000∧1+min x.Ticks 1≤(x.Blocks.length:Int)∧x.Blocks.length≤8) ∨
 (x.Kind=3∧x.From=str []∧x.To.length=0∧pathV x.Name=true∧x.As=str []∧x.Ticks=0∧x.Blocks.length=1) ∨
 (x.Kind=4∧x.From=str []∧x.To.length=0∧pathV x.Name=true∧x.As=str []∧x.Ticks=0∧x.Blocks.length=0) ∨
 (x.Kind=5∧x.From=str []∧x.To.length=0∧x.Name=str []∧x.As=str []∧x.Ticks=0∧2≤x.Blocks.length∧x.Blocks.length≤8) ∨
 (x.Kind=6∧x.From=str []∧WordsP x.To 6∧isWord x.Name=true∧isWord x.As=true∧x.Ticks=0∧x.Blocks.length=0)
theorem len0 {n:Nat}:((n:Int)==0)=true↔n=0:=by simp
include hN in
theorem shaped_dq (x:T15) (ht:x.To.length≤4194304):Dq (z100 N x) (ShP x):=by
 unfold z100
 refine Dq.ite ibeq (fun h1=>?_) fun h1=>Dq.ite ibeq (fun h2=>?_) fun h2=>?_
 ·refine (Dq.bA (word_dq hN _) fun _=>Dq.bA (words_dq hN _ ht 5) fun _=>Dq.bA (path_dq hN _) fun _=>Dq.cA emp fun _=>Dq.cA ibeq fun _=>Dq.of rfl len0).iff ?_
  unfold ShP
  simp [h1]
 ·refine (Dq.bA (word_dq hN _) fun _=>Dq.cA len0 fun _=>Dq.cA emp fun _=>Dq.cA emp fun _=>Dq.cA (C:=0≤x.Ticks) decide_eq_true_iff fun _=>Dq.cA (C:=x.Ticks≤1000) decide_eq_true_iff fun _ =>
   Dq.cA (C:=1+min x.Ticks 1≤(x.Blocks.length:Int)) ?_ fun _=>Dq.dec (Q:=x.Blocks.length≤8) (by omega)).iff ?_
  ·rw [decide_eq_true_eq]
   unfold minI
   rw [w64_id (by split<;>omega) (by split<;>omega)]
   split<;>omega
  ·unfold ShP
   simp [h2]
 have hk:∀ k,(k=3∧x.Kind=3)∨(k=4∧x.Kind=4)→Dq (z100_k1 N x true) (ShP x):=by
  intro k hk
  unfold z100_k1
  simp only [cT]
  refine (Dq.cA emp fun _=>Dq.cA len0 fun _=>Dq.bA (path_dq hN _) fun _=>Dq.cA emp fun _=>Dq.cA ibeq fun _=>Dq.cA (C:=x.Kind=3↔x.Blocks.length=1) ?_ fun _=>Dq.dec (Q:=x.Blocks.length≤1) (by omega)).iff ?_
  ·rw [beq_iff_eq,Bool.eq_iff_iff];simp;omega
  ·unfold ShP
   rcases hk with ⟨_,hk⟩ | ⟨_,hk⟩
   ·simp only [hk]
    constructor
    ·rintro ⟨a,b,c,d,e,f,g⟩;exact Or.inr (Or.inr (Or.inl ⟨trivial,a,b,c,d,e,by simpa using f⟩))
    ·rintro (h | h | h | h | h | h)<;>simp at h
     obtain ⟨a,b,c,d,e,f⟩:=h
     exact ⟨a,by simpa using b,c,d,e,by simpa using f,by omega⟩
   ·simp only [hk]
    constructor
    ·rintro ⟨a,b,c,d,e,f,g⟩
     refine Or.inr (Or.inr (Or.inr (Or.inl ⟨trivial,a,b,c,d,e,?_⟩)))
     have:¬ x.Blocks.length=1:=fun h=>by simpa using f.2 h
     omega
    ·rintro (h | h | h | h | h | h)<;>simp at h
     obtain ⟨a,b,c,d,e,f⟩:=h
     have f:x.Blocks.length=0:=by rw [f];rfl
     exact ⟨a,by simpa using b,c,d,e,⟨fun h=>by omega,fun h=>by omega⟩,by omega⟩
 refine Dq.ite ibeq (fun h3=>hk 3 (Or.inl ⟨rfl,h3⟩)) fun h3=>?_
 cases h4:(x.Kind==4) with
 | true=>exact hk 4 (Or.inr ⟨rfl,ibeq.1 h4⟩)
 | false =>
  have h4:¬ x.Kind=4:=fun h=>by rw [h] at h4;cases h4
  unfold z100_k1
  simp only [cF]
  refine Dq.ite ibeq (fun h5=>?_) fun h5=>Dq.ite ibeq (fun h6=>?_) fun h6=>?_
  ·refine (Dq.cA emp fun _=>Dq.cA len0 fun _=>Dq.cA emp fun _=>Dq.cA emp fun _=>Dq.cA ibeq fun _=>Dq.cA (C:=2≤x.Blocks.length) (by rw [decide_eq_true_eq];omega) fun _=>Dq.dec (Q:=x.Blocks.length≤8) (by omega)).iff ?_
   unfold ShP
   simp [h5]
  ·refine (Dq.cA emp fun _=>Dq.bA (words_dq hN _ ht 6) fun _=>Dq.bA (word_dq hN _) fun _=>Dq.bA (word_dq hN _) fun _=>Dq.cA ibeq fun _=>Dq.of rfl len0).iff ?_
   unfold ShP
   simp [h6]
  ·refine Dq.fa.iff ⟨fun h=>h.elim,fun h=>?_⟩
   unfold ShP at h
   rcases h with h | h | h | h | h | h
   ·exact h1 h.1
   ·exact h2 h.1
   ·exact h3 h.1
   ·exact h4 h.1
   ·exact h5 h.1
   ·exact h6 h.1
end Gp
end
section
namespace Gp
open Go Go.Kx Gx
mutual
def shI:T15→Prop
 | ⟨k,f,t,n,a,x,b⟩=>ShP ⟨k,f,t,n,a,x,b⟩∧shLL b
def shL:List T15→Prop
 | []=>True
 | x::l=>shI x∧shL l
def shLL:List (List T15)→Prop
 | []=>True
 | x::l=>shL x∧shLL l
end
theorem shI_eq (x:T15):shI x↔ShP x∧shLL x.Blocks:=by cases x;simp only [shI]
def Vq (o:Option (Bool × Int)) (P:Prop) (m:Int):Prop:=∃ r k,o=some (r,k)∧(r=true↔P)∧(r=true→k=m)
theorem Vq.iff {o P Q m m'} (h:Vq o P m) (k:P↔Q) (e:Q→m=m'):Vq o Q m':=by
 obtain ⟨r,j,h1,h2,h3⟩:=h
 exact ⟨r,j,h1,h2.trans k,fun hr=>(h3 hr).trans (e (k.1 (h2.1 hr)))⟩
theorem Vq.fa {k:Int} {P:Prop} {m:Int} (h:¬P):Vq (some (false,k)) P m:=⟨false,k,rfl,by simp [h],fun h=>by cases h⟩
theorem vi_inner {rc:List T15→Int→Int→Option (Bool × Int)} {d k:Nat} {ag:Int→Int→Option (Bool × Int)} {x:T15} {rest:List T15} (hd:d≤10) (hk:k < 4194304) (hbl:x.Blocks.length≤4194304)
  (hrc:∀ b∈x.Blocks,∀ n:Nat,n≤300→Vq (rc b ((d+1:Nat):Int) (n:Int)) (shL b∧dL b+(d+1)≤11∧n+cL b≤300) ((n+cL b:Nat):Int))
  (hag:∀ n:Nat,n≤300→Vq (ag (n:Int) ((k+1:Nat):Int)) (shL rest∧dL rest+d≤11∧n+cL rest≤300) ((n+cL rest:Nat):Int)) :
  ∀ (bl:List (List T15)) (j n' n:Nat),x.Blocks.drop j=bl→bl.length < n'→n≤300 →
   Vq (z43_l4 rc (d:Int) (k:Int) ag x n' (n:Int) (j:Int)) (shLL bl∧dLL bl+d≤10∧n+cLL bl≤300∧shL rest∧dL rest+d≤11∧n+cLL bl+cL rest≤300) ((n+cLL bl+cL rest:Nat):Int):=by
 intro bl
 induction bl with
 | nil =>
  intro j n' n h hn hc
  obtain ⟨n',rfl⟩:∃ m,n'=m+1:=⟨n'-1,by simp at hn;omega⟩
  simp only [z43_l4,lt_f (drop_nil h),cF,z43_k3,w64_succ (show k < 4611686018427387904 by omega),shLL,dLL,cLL]
  exact (hag n hc).iff ⟨fun q=>⟨trivial,by omega,by omega,q.1,q.2.1,by omega⟩,fun q=>⟨q.2.2.2.1,q.2.2.2.2.1,by omega⟩⟩ (fun _=>rfl)
 | cons b bl ih =>
  intro j n' n h hn hc
  obtain ⟨n',rfl⟩:∃ m,n'=m+1:=⟨n'-1,by simp at hn;omega⟩
  obtain ⟨a,c,e⟩:=drop_cons h
  obtain ⟨r,m,e1,e2,e3⟩:=hrc b (List.mem_of_getElem? c) n hc
  simp only [z43_l4,lt_t a,cT,idx_nat,c,bS,w64_succ (show d < 4611686018427387904 by omega),w64_succ (show j < 4611686018427387904 by omega),e1,shLL,dLL,cLL]
  cases r with
  | false =>
   refine Vq.fa fun q=>?_
   have:false=true:=e2.2 ⟨q.1.1,by omega,by omega⟩
   cases this
  | true =>
   obtain ⟨q1,q2,q3⟩:=e2.1 rfl
   rw [e3 rfl]
   simp only [Bool.not_true,cF]
   refine (ih (j+1) n' (n+cL b) e (by simp at hn;omega) (by omega)).iff ⟨fun q=>⟨⟨q1,q.1⟩,by omega,by omega,q.2.2.2.1,q.2.2.2.2.1,by omega⟩,fun q=>⟨q.1.2,by omega,by omega,q.2.2.2.1,q.2.2.2.2.1,by omega⟩⟩ (fun _=>by congr 1;omega)
theorem valid_items:∀ (N:Nat) (xs:List T15) (d n:Nat),4194317≤N+d→xs.length≤4194304→bL xs→d≤11→n≤300 →
  Vq (z43 N xs (d:Int) (n:Int)) (shL xs∧dL xs+d≤11∧n+cL xs≤300) ((n+cL xs:Nat):Int)
 | 0,_,_,_,h,_,_,_,_=>by omega
 | N+1,xs,d,n,h,hs,hb,hd,hn=>by
  show Vq (z43_b N (z43 N) xs (d:Int) (n:Int)) _ _
  unfold z43_b
  have hN:4194304 < N:=by omega
  have key:∀ (l:List T15) (k n' n:Nat),xs.drop k=l→l.length < n'→n≤300 →
    Vq (z43_l2 N (z43 N) xs (d:Int) n' (n:Int) (k:Int)) (shL l∧dL l+d≤11∧n+cL l≤300) ((n+cL l:Nat):Int):=by
   intro l
   induction l with
   | nil =>
    intro k n' n h hn hc
    obtain ⟨n',rfl⟩:∃ m,n'=m+1:=⟨n'-1,by simp at hn;omega⟩
    simp only [z43_l2,lt_f (drop_nil h),cF,z43_k1,shL,dL,cL]
    exact ⟨true,n,rfl,by simp;omega,fun _=>rfl⟩
   | cons x l ih =>
    intro k n' n h hn hc
    obtain ⟨n',rfl⟩:∃ m,n'=m+1:=⟨n'-1,by simp at hn;omega⟩
    obtain ⟨a,c,e⟩:=drop_cons h
    have hm:=List.mem_of_getElem? c
    have hbx:=(bI_eq _).1 (bL_mem hb hm)
    simp only [z43_l2,lt_t a,cT,idx_nat,c,bS,w64_succ (show n < 4611686018427387904 by omega)]
    have hdI:=dI_eq x
    have hcI:=cI_eq x
    have hsI:=shI_eq x
    by_cases h10:d≤10
    ·rw [dF (show ¬ (d:Int) > 10 by omega),cF]
     by_cases h300:n+1≤300
     ·rw [dF (show ¬ ((n+1:Nat):Int) > 300 by omega),cF]
      obtain ⟨r,e1,e2⟩:=shaped_dq hN x hbx.1
      rw [e1,bS]
      cases r with
      | false =>
       refine Vq.fa fun q=>?_
       have:=e2.2 (hsI.1 (by simp only [shL] at q;exact q.1.1)).1
       cases this
      | true =>
       simp only [Bool.not_true,cF]
       refine (vi_inner (rest:=l) h10 (by omega) hbx.2.1 (fun b hb' n2 hn2=>?_) (fun n2 hn2=>ih (k+1) n' n2 e (by simp at hn;omega) hn2) x.Blocks 0 N (n+1) rfl (by omega) h300).iff ?_ ?_
       ·have hbb:=bLL_mem hbx.2.2 hb'
        exact valid_items N b (d+1) n2 (by omega) hbb.1 hbb.2 (by omega) hn2
       ·simp only [shL,dL,cL,hdI,hcI,hsI]
        exact ⟨fun q=>⟨⟨⟨e2.1 rfl,q.1⟩,q.2.2.2.1⟩,by omega,by omega⟩,fun q=>⟨q.1.1.2,by omega,by omega,q.1.2,by omega,by omega⟩⟩
       ·intro _
        simp only [cL,hcI]
        congr 1;omega
     ·rw [dT (show ((n+1:Nat):Int) > 300 by omega),cT]
      refine Vq.fa fun q=>?_
      simp only [cL,hcI] at q
      omega
    ·rw [dT (show (d:Int) > 10 by omega),cT]
     refine Vq.fa fun q=>?_
     simp only [dL,hdI] at q
     omega
  exact key xs 0 N n rfl (by omega) hn
end Gp
end
section
namespace Gp
open Go Go.Kx Gx
variable {N:Nat}
end Gp
end
section
namespace Gp
open Go Go.Kx Gx
variable {N:Nat} (hN:4194304 < N)
def Small (n:Int):Prop:=-999999≤n∧n≤999999
theorem within_dq (n:Int):Dq (z151 N n) (Small n):=Dq.cA (C:=-999999≤n) decide_eq_true_iff fun _=>Dq.dec Iff.rfl
def TermP (t:T18):Prop:=Small t.N∧((t.Kind=1∧t.Message=str []∧t.Field=str [])∨((t.Kind=2∨t.Kind=3)∧isWord t.Field=true∧(t.Message=str []∨pathV t.Message=true)))
theorem Dq.orE {c:Bool} {C P:Prop} {o:Option Bool} (hc:c=true↔C) (h:¬C→Dq o P):Dq (bif c then some true else o) (C∨P) :=
 Dq.ite hc (fun h'=>Dq.tr.iff ⟨fun _=>Or.inl h',fun _=>trivial⟩) (fun h'=>(h h').iff ⟨fun p=>Or.inr p,fun p=>p.resolve_left h'⟩)
include hN in
theorem term_dq (t:T18):Dq (z102 N t) (TermP t):=by
 unfold z102
 refine Dq.bN (within_dq _) fun _=>Dq.ite ibeq (fun h1=>?_) fun h1=>?_
 ·refine (Dq.cA emp fun _=>Dq.of rfl emp).iff ?_
  simp [h1]
 have hk:(t.Kind=2∨t.Kind=3)→Dq (z102_k1 N t true) ((t.Kind=1∧t.Message=str []∧t.Field=str [])∨((t.Kind=2∨t.Kind=3)∧isWord t.Field=true∧(t.Message=str []∨pathV t.Message=true))):=by
  intro hk
  unfold z102_k1
  simp only [cT]
  refine (Dq.bA (word_dq hN _) fun _=>Dq.orE emp fun _=>Dq.bS (path_dq hN _)).iff ?_
  simp [h1,hk]
 refine Dq.ite ibeq (fun h2=>hk (Or.inl h2)) fun h2=>?_
 cases h3:(t.Kind==3) with
 | true=>exact hk (Or.inr (ibeq.1 h3))
 | false =>
  have h3:¬ t.Kind=3:=fun h=>by rw [h] at h3;cases h3
  unfold z102_k1
  simp only [cF]
  exact Dq.fa.iff (by simp [h1,h2,h3])
def FldP (f:T0):Prop:=isWord f.Name=true∧(f.Sort'.Kind=1∨f.Sort'.Kind=2)∧Small f.Sort'.Lo∧Small f.Sort'.Hi∧(f.Sort'.Kind=2→0≤f.Sort'.Lo∧0≤f.Sort'.Hi)
def AtomP (a:T14):Prop:=TermP a.Left∧TermP a.Right∧a.Op∈marksL
def MsgP (m:T16):Prop:=pathV m.Name=true∧m.Fields.length≤4∧m.Where.length≤6∧(∀ f∈m.Fields,FldP f)∧∀ a∈m.Where,AtomP a
theorem minI_lt {a b c:Int}:decide (minI a b < c)=false↔c≤a∧c≤b:=by rw [decide_eq_false_iff_not];unfold minI;split<;>omega
theorem maxI_gt {a b c:Int}:decide (maxI a b > c)=false↔a≤c∧b≤c:=by rw [decide_eq_false_iff_not];unfold maxI;split<;>omega
include hN in
theorem mark_dq (s:ByteArray):Dq ((z103 N).bind fun x=>z54 N x s) (s∈marksL):=by
 have h:=contains_eq hN marksL (by decide) s
 refine Dq.of (b:=marksL.any fun x=>eqStr x s) h ?_
 rw [List.any_eq_true]
 constructor
 ·rintro ⟨x,hx,h⟩;rw [(eqStr_iff _ _).1 h] at hx;exact hx
 ·intro h;exact ⟨s,h,eqStr_refl s⟩
include hN in
theorem mval_dq (m:T16):Dq (z44 N m) (MsgP m):=by
 unfold z44
 refine Dq.bN (path_dq hN _) fun _=>Dq.cN (C:=m.Fields.length≤4) gt_lem fun h4=>Dq.cN (C:=m.Where.length≤6) gt_lem fun h6=>?_
 refine dq_all (P:=FldP) (E:=∀ a∈m.Where,AtomP a) (by omega) _ (fun n k x Q hk hx hq=>?_) (fun _ n k hk=>?_) (by omega)
 ·have key:∀ (lo:Int),(x.Sort'.Kind=2∧lo=0)∨(x.Sort'.Kind≠2∧lo=-999999)→Dq (z44_k5 N (k:Int) (z44_l4 N m n) x lo) (FldP x∧Q):=by
   intro lo hlo
   unfold z44_k5
   rw [w64_succ (show k < 4611686018427387904 by omega)]
   refine (Dq.bN (P:=(x.Sort'.Kind=1∨x.Sort'.Kind=2)∧(lo≤x.Sort'.Lo∧lo≤x.Sort'.Hi)∧(x.Sort'.Lo≤999999∧x.Sort'.Hi≤999999)∧Q) (word_dq hN _) fun hw=>?_).iff ?_
   ·have rest:(x.Sort'.Kind=1∨x.Sort'.Kind=2)→Dq (bif decide (minI x.Sort'.Lo x.Sort'.Hi < lo) then some false else bif decide (maxI x.Sort'.Lo x.Sort'.Hi > (999999:Int)) then some false else z44_l4 N m n ((k+1:Nat):Int)) ((lo≤x.Sort'.Lo∧lo≤x.Sort'.Hi)∧(x.Sort'.Lo≤999999∧x.Sort'.Hi≤999999)∧Q):=fun hkk =>
     Dq.cN minI_lt fun ha=>Dq.cN maxI_gt fun hb=>hq (by unfold FldP Small;exact ⟨hw,hkk,⟨by omega,by omega⟩,⟨by omega,by omega⟩,fun h2=>by omega⟩)
    cases h1:(x.Sort'.Kind != 1) with
    | false =>
     have h1:=nbeq.1 h1
     simp only [cF]
     exact (rest (Or.inl h1)).iff (by simp [h1])
    | true =>
     simp only [cT]
     have h1':¬ x.Sort'.Kind=1:=fun h=>by rw [h] at h1;cases h1
     refine (Dq.cN (C:=x.Sort'.Kind=2) nbeq fun h2=>rest (Or.inr h2)).iff ?_
     simp [h1']
   ·unfold FldP Small
    constructor
    ·rintro ⟨a,b,c,d,e⟩;exact ⟨⟨a,b,by omega,by omega,by omega⟩,e⟩
    ·rintro ⟨⟨a,b,c,d,e⟩,f⟩
     refine ⟨a,b,?_,by omega,f⟩
     rcases hlo with ⟨h,hl⟩ | ⟨h,hl⟩
     ·have:=e h;omega
     ·omega
  simp only [z44_l4,lt_t (get_lt hx),cT,idx_nat,hx,bS]
  exact Dq.ite ibeq (fun h2=>key 0 (Or.inl ⟨h2,rfl⟩)) fun h2=>key (-999999) (Or.inr ⟨h2,rfl⟩)
 ·simp only [z44_l4,lt_f hk,cF,z44_k3]
  refine (dq_all (xs:=m.Where) (P:=AtomP) (E:=True) (by omega) _ (fun n k x Q hk hx hq=>?_) (fun _ n k hk=>?_) (by omega)).iff (by simp)
  ·simp only [z44_l2,lt_t (get_lt hx),cT,idx_nat,hx,bS,w64_succ (show k < 4611686018427387904 by omega)]
   refine (Dq.bN (term_dq hN _) fun h1=>Dq.bN (term_dq hN _) fun h2=>?_:Dq _ (TermP x.Left∧TermP x.Right∧x.Op∈marksL∧Q)).iff (by unfold AtomP;simp only [and_assoc])
   exact Dq.bN (o1:=(z103 N).bind fun y=>z54 N y x.Op) (mark_dq hN _) fun h3=>hq ⟨h1,h2,h3⟩
  ·simp only [z44_l2,lt_f hk,cF,z44_k1]
   exact Dq.tr
end Gp
end
section
namespace Gp
open Go Go.Kx Gx
variable {N:Nat}
def I64 (n:Int):Prop:=-9223372036854775808≤n∧n≤9223372036854775807
theorem bs_app (a b:ByteArray):bs (a++b)=bs a++bs b:=by
 unfold bs
 rw [ByteArray.data_append,Array.toList_append]
theorem cat_mk {a b:List UInt8} (h:a.length+b.length≤9223372036854775807):catS (mkB a) (mkB b)=some (mkB (a++b)):=by
 unfold catS
 have e:(mkB a).size=a.length∧(mkB b).size=b.length:=⟨by rw [size_bs,bs_mkB],by rw [size_bs,bs_mkB]⟩
 rw [e.1,e.2,dF (by simp only [IntKind.max];simp [IntKind.bits,IntKind.signed];omega)]
 simp only [cF]
 refine congrArg some (bs_inj ?_)
 rw [bs_app,bs_mkB,bs_mkB,bs_mkB]
theorem digN_len:∀ f u,(digN f u).length≤f
 | 0,_=>Nat.le_refl _
 | f+1,u=>by
  rw [digN]
  cases hb:Nat.blt u 10 with
  | true=>simp
  | false =>
   have:=digN_len f (u / 10)
   simp only [cF,lA,List.length_singleton]
   omega
theorem itoa_eq {n:Int} (h:I64 n):z155 N n=some (itoaS n):=by
 unfold z155
 rw [dT h.1,dT h.2];rfl
theorem itoa_len (n:Int):(itoaS n).size≤26:=by
 unfold itoaS
 have h1:=digN_len 25 n.natAbs
 have h2:=digN_len 25 n.toNat
 show (bif decide (n < 0) then 45::digN 25 n.natAbs else digN 25 n.toNat).toArray.size≤26
 cases decide (n < 0)<;>simp<;>omega
theorem cat_eq {a b:ByteArray} (h:(bs a).length+(bs b).length≤140737488355328):catS a b=some (mkB (bs a++bs b)):=by
 have:=cat_mk (a:=bs a) (b:=bs b) (by omega)
 rw [mkB_bs,mkB_bs] at this
 exact this
theorem bs_str (l:List UInt8):bs (str l)=l:=bs_mkB l
def tabs (k:Nat):List UInt8:=List.replicate k 9
theorem tabs_len (k:Nat):(tabs k).length=k:=List.length_replicate
def lineT (k:Nat) (F:List UInt8):List UInt8:=tabs k++(F++[10])
theorem lineT_len (k:Nat) (F:List UInt8):(lineT k F).length=k+(F.length+1):=by simp [lineT,tabs]
def dig (n:Int):List UInt8:=bs (itoaS n)
theorem dig_len (n:Int):(dig n).length≤26:=itoa_len n
theorem rep_eq (k:Nat) (hk:k≤1000000):z153 N (str [9]) (k:Int)=some (mkB (tabs k)):=by
 unfold z153
 have e:∀ k,repL (str [9]).data.toList k=List.replicate k 9:=by
  intro k
  induction k with
  | zero=>rfl
  | succ k ih=>rw [repL,ih];rfl
 rw [dT (show (0:Int)≤(k:Int) by omega),dT (show (k:Int)≤140737488355328 by omega),dT (show (str [9]).size * ((k:Int)).toNat≤140737488355328 by show 1 * _≤_;omega),e,Int.toNat_natCast]
 rfl
def joinT (sep:List UInt8) (l:List ByteArray):List UInt8:=joinL sep (l.map bs)
theorem join_eq (l:List ByteArray) (sep:List UInt8) (hl:l.length≤4194304) (h:(joinT sep l).length≤140737488355328):z105 N l (str sep)=some (mkB (joinT sep l)):=by
  unfold z105
  have e:joinL (str sep).data.toList (l.map (·.data.toList))=joinT sep l:=rfl
  rw [e,dT (show l.length≤140737488355328 by omega),dT h]
  rfl
theorem joinL_nil:∀ l:List (List UInt8),joinL [] l=l.flatten
  | []=>rfl
  | x::r=>by
    show x++(r.map (([]:List UInt8)++·)).flatten=(x::r).flatten
    have e:r.map (([]:List UInt8)++·)=r:=by
      have:(fun y:List UInt8=>[]++y)=id:=by funext y;simp
      show r.map (fun y=>[]++y)=r
      rw [this,List.map_id]
    rw [e];rfl
theorem joinL_len (sep:List UInt8) (M:Nat):∀ l:List (List UInt8),(∀ x∈l,x.length≤M)→(joinL sep l).length≤l.length * (M+sep.length)
  | [],_=>by simp [joinL]
  | x::r,h=>by
    have hx:=h x (List.mem_cons_self ..)
    have hr:∀ r:List (List UInt8),(∀ x∈r,x.length≤M)→((r.map (sep++·)).flatten).length≤r.length * (M+sep.length):=by
      intro r
      induction r with
      | nil=>intro _;simp
      | cons y r ih =>
        intro h
        have h1:=h y (List.mem_cons_self ..)
        have h2:=ih fun z hz=>h z (List.mem_cons_of_mem _ hz)
        simp only [List.map_cons,List.flatten_cons,lA,List.length_cons,Nat.add_mul,Nat.one_mul]
        omega
    have h2:=hr r fun z hz=>h z (List.mem_cons_of_mem _ hz)
    show (x++(r.map (sep++·)).flatten).length≤_
    simp only [lA,List.length_cons,Nat.add_mul,Nat.one_mul]
    omega
theorem apB_eq {B F:List UInt8} (h:B.length+F.length≤4294967296):apB (mkB B) (mkB F)=some (mkB (B++F)):=by
 unfold apB
 have e:(mkB B).size=B.length∧(mkB F).size=F.length:=⟨by rw [size_bs,bs_mkB],by rw [size_bs,bs_mkB]⟩
 rw [e.1,e.2,Nat.ble_eq_true_of_le (show B.length+F.length≤lim by show B.length+F.length≤4294967296;omega)]
 simp only [cT]
 refine congrArg some (bs_inj ?_)
 rw [bs_app,bs_mkB,bs_mkB,bs_mkB]
theorem line_eq (parts:List ByteArray) (B F:List UInt8) (k:Nat) (hF:(parts.map bs).flatten=F) (hp:parts.length≤4194304) (hk:k≤1000000) (h:B.length+(lineT k F).length≤4294967296) :
  z104_11 N parts ⟨mkB B,(k:Int)⟩=some ⟨mkB (B++lineT k F),(k:Int)⟩:=by
 subst hF
 rw [lineT_len] at h
 unfold z104_11
 have ej:joinT [] parts=(parts.map bs).flatten:=joinL_nil _
 rw [rep_eq k hk,bS,join_eq parts [] hp (by rw [ej];omega),bS,ej,cat_mk (by rw [tabs_len];omega),bS,show str [10]=mkB [10] from rfl,cat_mk (by simp only [lA,List.length_singleton,tabs_len,List.length_nil];omega),bS]
 unfold z152_10 z188_9
 simp only [bS]
 rw [apB_eq (by simp only [lA,List.length_singleton,tabs_len,List.length_nil];omega)]
 simp only [bS,lineT,aA]
theorem line_eq0 (parts:List ByteArray) (F:List UInt8) (hF:(parts.map bs).flatten=F) (hp:parts.length≤4194304) (h:(lineT 0 F).length≤4294967296) :
  z104_8 N parts ⟨ByteArray.empty,(0:Int)⟩=some ⟨mkB (lineT 0 F),(0:Int)⟩:=by
 subst hF
 rw [lineT_len] at h
 unfold z104_8
 have ej:joinT [] parts=(parts.map bs).flatten:=joinL_nil _
 show (z153 N (str [9]) ((0:Nat):Int)).bind _=_
 rw [rep_eq 0 (by omega),bS,join_eq parts [] hp (by rw [ej];omega),bS,ej,cat_mk (by rw [tabs_len];omega),bS,show str [10]=mkB [10] from rfl,cat_mk (by simp only [lA,List.length_singleton,tabs_len,List.length_nil];omega),bS]
 unfold z152_7 z188_6
 simp only [bS]
 rw [show ByteArray.empty=mkB [] from rfl,apB_eq (by simp only [lA,List.length_singleton,tabs_len,List.length_nil];omega)]
 simp only [bS,lineT,aA,List.nil_append]
end Gp
end
section
namespace Gp
open Go Go.Kx Gx
def termB (t:T18):List UInt8:=bif eqStr t.Message (str []) then bs t.Field else bs t.Message++[46]++bs t.Field
def termN (t:T18):List UInt8:=bif decide (t.N > 0) then [32,43,32]++dig t.N else bif decide (t.N < 0) then [32,45,32]++dig (0-t.N) else []
def termT (t:T18):List UInt8:=bif t.Kind==1 then dig t.N else (bif t.Kind==3 then [108,101,110,40]++termB t++[41] else termB t)++termN t
def fldT (f:T0):List UInt8:=bs f.Name++(bif f.Sort'.Kind==2 then [58,32,116,101,120,116,32] else [58,32,105,110,116,32])++dig f.Sort'.Lo++[46,46]++dig f.Sort'.Hi
def atomT (a:T14):List UInt8:=termT a.Left++[32]++bs a.Op++[32]++termT a.Right
def whereT (l:List T14):List UInt8:=match l with
 | []=>[]
 | _::_=>[32,119,104,101,114,101,32]++joinL [32,97,110,100,32] (l.map atomT)
def msgT (m:T16):List UInt8:=[109,101,115,115,97,103,101,32]++bs m.Name++[40]++joinL [44,32] (m.Fields.map fldT)++[41]++whereT m.Where++[59]
theorem word_len {s:ByteArray} (h:isWord s=true):(bs s).length≤16:=word_size h
theorem path_len {s:ByteArray} (h:pathV s=true):(bs s).length≤50:=by
 unfold pathV at h
 rw [Bool.and_eq_true,decide_eq_true_eq] at h
 exact h.1
theorem small_I64 {n:Int} (h:Small n):I64 n:=by unfold Small at h;unfold I64;omega
theorem termP_len {t:T18} (h:TermP t):(bs t.Message).length≤50∧(bs t.Field).length≤16:=by
 rcases h.2 with ⟨_,h1,h2⟩ | ⟨_,h1,h2⟩
 ·rw [h1,h2,bs_str];simp
 ·refine ⟨?_,word_len h1⟩
  rcases h2 with h2 | h2
  ·rw [h2,bs_str];simp
  ·exact path_len h2
theorem mark_len {s:ByteArray} (h:s∈marksL):(bs s).length≤2:=by
 have:∀ x∈marksL,(bs x).length≤2:=by
  intro x hx
  simp only [marksL,List.mem_cons,List.not_mem_nil,or_false] at hx
  rcases hx with h | h | h | h | h<;>subst h<;>(rw [bs_str];simp)
 exact this s h
theorem termT_len {t:T18} (h:TermP t):(termT t).length≤150:=by
 obtain ⟨h1,h2⟩:=termP_len h
 have hb:(termB t).length≤67:=by unfold termB;cases eqStr t.Message (str [])<;>simp<;>omega
 have hd:=dig_len t.N
 have hd2:=dig_len (0-t.N)
 have hn:(termN t).length≤29:=by
  unfold termN
  cases decide (t.N > 0)<;>cases decide (t.N < 0)<;>simp only [cT,cF,lA,List.length_cons,List.length_nil]<;>omega
 unfold termT
 cases (t.Kind==1)<;>cases (t.Kind==3)<;>simp only [cT,cF,lA,List.length_cons,List.length_nil]<;>omega
theorem fldT_len {f:T0} (h:FldP f):(fldT f).length≤100:=by
 have:=word_len h.1
 have h1:=dig_len f.Sort'.Lo
 have h2:=dig_len f.Sort'.Hi
 unfold fldT
 cases (f.Sort'.Kind==2)<;>simp only [cT,cF,lA,List.length_cons,List.length_nil]<;>omega
theorem atomT_len {a:T14} (h:AtomP a):(atomT a).length≤350:=by
 have h1:=termT_len h.1
 have h2:=termT_len h.2.1
 have h3:=mark_len h.2.2
 unfold atomT
 simp only [lA,List.length_cons,List.length_nil];omega
variable {N:Nat} (hN:4194304 < N)
theorem term_k1 {t:T18} (h:TermP t) (A:List UInt8) (hA:A.length≤100):z156_k1 N t (mkB A)=some (mkB (A++termN t)):=by
 unfold z156_k1 termN
 have hs:=h.1;unfold Small at hs
 have h1:=dig_len t.N
 have h2:=dig_len (0-t.N)
 unfold dig at h1 h2
 rw [itoa_eq (small_I64 h.1),w64_id (by omega) (by omega),itoa_eq (by unfold I64;omega)]
 cases decide (t.N > 0)<;>cases decide (t.N < 0)<;>simp only [cT,cF,bS,List.append_nil]
 all_goals simp (disch:=(simp only [bs_mkB,bs_str,lA,List.length_cons,List.length_nil];omega)) only [cat_eq,bS,bs_mkB,bs_str,dig]
theorem term_k2 {t:T18} (h:TermP t) (h1:(t.Kind==1)=false):z156_k2 N t (mkB (termB t))=some (mkB (termT t)):=by
 obtain ⟨q1,q2⟩:=termP_len h
 have hb:(termB t).length≤67:=by unfold termB;cases eqStr t.Message (str [])<;>simp<;>omega
 unfold z156_k2 termT
 rw [h1]
 cases (t.Kind==3)<;>simp only [cT,cF]
 ·exact term_k1 h _ (by omega)
 ·simp (disch:=(simp only [bs_mkB,bs_str,lA,List.length_cons,List.length_nil];omega)) only [cat_eq,bS,bs_mkB,bs_str]
  exact term_k1 h _ (by simp only [lA,List.length_cons,List.length_nil];omega)
theorem show_eq {t:T18} (h:TermP t):z156 N t=some (mkB (termT t)):=by
 obtain ⟨q1,q2⟩:=termP_len h
 unfold z156
 cases h1:(t.Kind==1) with
 | true =>
  simp only [cT,itoa_eq (small_I64 h.1),bS]
  unfold termT
  rw [h1];simp only [cT,dig,mkB_bs]
 | false =>
  simp only [cF]
  have e:(t.Message.toList==(str []).toList)=eqStr t.Message (str []):=rfl
  have k2:=term_k2 (N:=N) h h1
  unfold termB at k2
  rw [e]
  cases he:eqStr t.Message (str []) with
  | true =>
   rw [he] at k2
   simp only [cT,mkB_bs] at k2
   simp only [Bool.not_true,cF]
   exact k2
  | false =>
   rw [he] at k2
   simp only [cF] at k2
   simp only [Bool.not_false,cT]
   simp (disch:=(simp only [bs_mkB,bs_str,lA,List.length_cons,List.length_nil];omega)) only [cat_eq,bS,bs_mkB,bs_str]
   exact k2
theorem map_mk (f:T0→List UInt8) (l:List T0):(l.map fun x=>mkB (f x)).map bs=l.map f:=by
 rw [List.map_map];congr 1
theorem map_mk' (f:T14→List UInt8) (l:List T14):(l.map fun x=>mkB (f x)).map bs=l.map f:=by
 rw [List.map_map];congr 1
theorem fields_len {m:T16} (h:MsgP m):(joinL [44,32] (m.Fields.map fldT)).length≤500:=by
 have:=joinL_len [44,32] 100 (m.Fields.map fldT) (fun x hx=>by obtain ⟨f,hf,rfl⟩:=List.mem_map.1 hx;exact fldT_len (h.2.2.2.1 f hf))
 simp only [List.length_map,List.length_cons,List.length_nil] at this
 have:=h.2.1
 omega
theorem atoms_len {m:T16} (h:MsgP m):(joinL [32,97,110,100,32] (m.Where.map atomT)).length≤2200:=by
 have:=joinL_len [32,97,110,100,32] 350 (m.Where.map atomT) (fun x hx=>by obtain ⟨f,hf,rfl⟩:=List.mem_map.1 hx;exact atomT_len (h.2.2.2.2 f hf))
 simp only [List.length_map,List.length_cons,List.length_nil] at this
 have:=h.2.2.1
 omega
theorem whereT_len {m:T16} (h:MsgP m):(whereT m.Where).length≤2300:=by
 have:=atoms_len h
 unfold whereT
 cases hw:m.Where with
 | nil=>simp
 | cons a l=>rw [hw] at this;simp only [lA,List.length_cons,List.length_nil] at this ⊢;omega
theorem msgT_len {m:T16} (h:MsgP m):(msgT m).length≤3000:=by
 have h1:=fields_len h
 have h2:=whereT_len h
 have h3:=path_len h.1
 unfold msgT
 simp only [lA,List.length_cons,List.length_nil];omega
include hN in
theorem message_line {m:T16} (h:MsgP m) (B:List UInt8) (k:Nat) (hk:k≤1000) (hB:B.length+(lineT k (msgT m)).length≤4294967296) :
  z106_12 N m ⟨mkB B,(k:Int)⟩=some ⟨mkB (B++lineT k (msgT m)),(k:Int)⟩:=by
 have hf:=fields_len h
 have hw:=atoms_len h
 have hl1:=h.2.1;have hl2:=h.2.2.1
 unfold z106_12
 rw [(fold_loop m.Fields (z106_12_l4 N m ⟨mkB B,(k:Int)⟩) (fun s f=>s++[mkB (fldT f)]) (fun s=>z106_12_k3 N m ⟨mkB B,(k:Int)⟩ s) (fun j s=>s.length=j) (fun n j s f hi hx=>?_) (fun n j s hi hj=>?_) (N:=N) (s:=[]) (by omega) rfl).1]
 ·rw [snoc_fold (fun f=>mkB (fldT f))]
  rw [List.nil_append]
  unfold z106_12_k3
  rw [(fold_loop m.Where (z106_12_l2 N m ⟨mkB B,(k:Int)⟩ (m.Fields.map fun f=>mkB (fldT f))) (fun s a=>s++[mkB (atomT a)]) (fun s=>z106_12_k1 N m ⟨mkB B,(k:Int)⟩ (m.Fields.map fun f=>mkB (fldT f)) s) (fun j s=>s.length=j) (fun n j s a hi hx=>?_) (fun n j s hi hj=>?_) (N:=N) (s:=[]) (by omega) rfl).1]
  ·rw [snoc_fold (fun a=>mkB (atomT a)),List.nil_append]
   unfold z106_12_k1
   have j1:joinT [44,32] (m.Fields.map fun f=>mkB (fldT f))=joinL [44,32] (m.Fields.map fldT):=by unfold joinT;rw [map_mk]
   have j2:joinT [32,97,110,100,32] (m.Where.map fun f=>mkB (atomT f))=joinL [32,97,110,100,32] (m.Where.map atomT):=by unfold joinT;rw [map_mk']
   rw [join_eq (m.Where.map fun f=>mkB (atomT f)) _ (by simp;omega) (by rw [j2];omega),join_eq (m.Fields.map fun f=>mkB (fldT f)) _ (by simp;omega) (by rw [j1];omega),j1,j2]
   simp only [bS]
   cases hw':m.Where with
   | nil =>
    simp only [List.map_nil,List.length_nil]
    rw [show decide (((0:Nat):Int) > 0)=false from rfl,cF]
    rw [line_eq _ B (msgT m) k (by simp [bs_str,bs_mkB,msgT,whereT,hw',aA]) (by simp) (by omega) hB];rfl
   | cons a l =>
    rw [hw'] at hw
    rw [dT (by simp:(((((a::l).map fun a=>mkB (atomT a)).length:Nat)):Int) > 0),cT]
    rw [show str [32,119,104,101,114,101,32]=mkB [32,119,104,101,114,101,32] from rfl,cat_mk (by simp only [List.length_cons,List.length_nil] at hw ⊢;omega)]
    simp only [bS]
    rw [line_eq _ B (msgT m) k (by simp [bs_str,bs_mkB,msgT,whereT,hw',aA]) (by simp) (by omega) hB];rfl
  ·refine ⟨?_,by simp [hi]⟩
   have hx':=get_lt hx
   have ha:=h.2.2.2.2 a (List.mem_of_getElem? hx)
   have q1:=termT_len ha.1
   have q2:=termT_len ha.2.1
   have q3:=mark_len ha.2.2
   simp only [z106_12_l2,lt_t hx',cT,idx_nat,hx,bS,show_eq ha.1,show_eq ha.2.1,w64_succ (show j < 4611686018427387904 by omega)]
   simp (disch:=(simp only [bs_mkB,bs_str,lA,List.length_cons,List.length_nil];omega)) only [cat_eq,bS,bs_mkB,bs_str]
   rw [appL_some (by simp [hi];omega)]
   rfl
  ·simp only [z106_12_l2,lt_f hj,cF]
 ·refine ⟨?_,by simp [hi]⟩
  have hx':=get_lt hx
  have ha:=h.2.2.2.1 f (List.mem_of_getElem? hx)
  have q1:=word_len ha.1
  have q2:=dig_len f.Sort'.Lo
  have q3:=dig_len f.Sort'.Hi
  unfold dig at q2 q3
  have key:∀ T:List UInt8,T.length≤10→fldT f=bs f.Name++T++dig f.Sort'.Lo++[46,46]++dig f.Sort'.Hi→∀ ag:List ByteArray→Int→Option T20,z106_12_k5 N s (j:Int) ag f (str T)=ag (s++[mkB (fldT f)]) ((j+1:Nat):Int):=by
   intro T hT e ag
   unfold z106_12_k5
   rw [itoa_eq (small_I64 ha.2.2.1),itoa_eq (small_I64 ha.2.2.2.1),w64_succ (by omega),e]
   simp (disch:=(simp only [bs_mkB,bs_str,lA,List.length_cons,List.length_nil];omega)) only [cat_eq,bS,bs_mkB,bs_str]
   rw [appL_some (by simp [hi];omega)]
   rfl
  simp only [z106_12_l4,lt_t hx',cT,idx_nat,hx,bS]
  cases h2:(f.Sort'.Kind==2) with
  | true=>exact key [58,32,116,101,120,116,32] (by simp) (by unfold fldT;rw [h2];rfl) _
  | false=>exact key [58,32,105,110,116,32] (by simp) (by unfold fldT;rw [h2];rfl) _
 ·simp only [z106_12_l4,lt_f hj,cF]
end Gp
end
section
namespace Gp
open Go Go.Kx Gx
variable {N:Nat} (hN:4194304 < N)
end Gp
end
section
namespace Gp
open Go Go.Kx Gx
def commaT (l:List ByteArray):List UInt8:=joinT [44,32] l
def headT (first:Bool) (hd w last:List UInt8) (atEnd:Bool):List UInt8:=bif first then hd++[32,123] else [125,32]++(bif (atEnd && !last.isEmpty) then last else w)++[32,123]
def sendT (f:ByteArray) (t:List ByteArray) (n:ByteArray):List UInt8:=bs f++[32,45,62,32]++commaT t++[58,32]++bs n++[59]
def againT (n:ByteArray):List UInt8:=[97,103,97,105,110,32]++bs n++[59]
def callT (n:ByteArray) (t:List ByteArray) (a:ByteArray):List UInt8:=[99,97,108,108,32]++bs n++[40]++commaT t++[41,32,97,115,32]++bs a++[59]
def choiceT (f:ByteArray):List UInt8:=[99,104,111,105,99,101,32,97,116,32]++bs f
def withinT (f:ByteArray) (x:Int):List UInt8:=choiceT f++[32,119,105,116,104,105,110,32]++dig x
def loopT (n:ByteArray):List UInt8:=[108,111,111,112,32]++bs n
abbrev parT:List UInt8:=[112,97,114]
abbrev orT:List UInt8:=[111,114]
abbrev andT:List UInt8:=[97,110,100]
abbrev elseT:List UInt8:=[101,108,115,101]
mutual
def xI (k:Nat):T15→List UInt8
 | ⟨kd,f,t,n,a,x,b⟩ =>
  bif kd==1 then lineT k (sendT f t n)
  else bif kd==2 then (bif decide (x > 0) then xR k true (withinT f x) orT elseT b else xR k true (choiceT f) orT [] b)
  else bif kd==3 then xR k true (loopT n) [] [] b
  else bif kd==4 then lineT k (againT n)
  else bif kd==5 then xR k true parT andT [] b
  else bif kd==6 then lineT k (callT n t a)
  else []
def xL (k:Nat):List T15→List UInt8
 | []=>[]
 | x::l=>xI k x++xL k l
def xR (k:Nat) (first:Bool) (hd w last:List UInt8):List (List T15)→List UInt8
 | []=>lineT k [125]
 | b::l=>lineT k (headT first hd w last l.isEmpty)++(xL (k+1) b++xR k false hd w last l)
end
theorem xI_eq (k:Nat) (x:T15):xI k x=(bif x.Kind==1 then lineT k (sendT x.From x.To x.Name)
  else bif x.Kind==2 then (bif decide (x.Ticks > 0) then xR k true (withinT x.From x.Ticks) orT elseT x.Blocks else xR k true (choiceT x.From) orT [] x.Blocks)
  else bif x.Kind==3 then xR k true (loopT x.Name) [] [] x.Blocks
  else bif x.Kind==4 then lineT k (againT x.Name)
  else bif x.Kind==5 then xR k true parT andT [] x.Blocks
  else bif x.Kind==6 then lineT k (callT x.Name x.To x.As)
  else []):=by cases x;simp only [xI]
variable {N:Nat}
theorem blocks_line (hN:4194304 < N) {rc:List T15→T20→Option T20} {bl:List (List T15)} {k:Nat} (hk:k≤1000) (hbl:bl.length≤4194304) (hd w last:List UInt8)
  (hrc:∀ b∈bl,∀ B:List UInt8,B.length+(xL (k+1) b).length≤4294967296→rc b ⟨mkB B,((k+1:Nat):Int)⟩=some ⟨mkB (B++xL (k+1) b),((k+1:Nat):Int)⟩)
  (B:List UInt8) (hB:B.length+(xR k true hd w last bl).length≤4294967296) :
  z157_13 N rc (str hd) (str w) (str last) bl ⟨mkB B,(k:Int)⟩=some ⟨mkB (B++xR k true hd w last bl),(k:Int)⟩:=by
 unfold z157_13
 have key:∀ (l:List (List T15)) (j n:Nat) (B:List UInt8),bl.drop j=l→l.length < n→B.length+(xR k (decide (j=0)) hd w last l).length≤4294967296 →
   z157_13_l2 N rc (str hd) (str w) (str last) bl n (mkB B) (k:Int) (j:Int)=some ⟨mkB (B++xR k (decide (j=0)) hd w last l),(k:Int)⟩:=by
  intro l
  induction l with
  | nil =>
   intro j n B h hn hL
   obtain ⟨n,rfl⟩:∃ m,n=m+1:=⟨n-1,by simp at hn;omega⟩
   simp only [xR] at hL ⊢
   simp only [z157_13_l2,lt_f (drop_nil h),cF,z157_13_k1]
   rw [line_eq [str [125]] B [125] k (by simp [bs_str]) (by simp) (by omega) hL];rfl
  | cons b l ih =>
   intro j n B h hn hL
   obtain ⟨n,rfl⟩:∃ m,n=m+1:=⟨n-1,by simp at hn;omega⟩
   obtain ⟨a,c,d⟩:=drop_cons h
   simp only [xR,lA] at hL
   have hlen:bl.length=j+1+l.length:=by
    have:=congrArg List.length d
    rw [List.length_drop] at this;omega
   have ih':=ih (j+1) n (B++lineT k (headT (decide (j=0)) hd w last l.isEmpty)++xL (k+1) b) d (by simp at hn;omega) (by
    rw [dF (by omega:¬ j+1=0)];simp only [lA];omega)
   rw [dF (by omega:¬ j+1=0)] at ih'
   have rest:z157_13_k3 rc (j:Int) (z157_13_l2 N rc (str hd) (str w) (str last) bl n) b (mkB (B++lineT k (headT (decide (j=0)) hd w last l.isEmpty))) (k:Int)=some ⟨mkB (B++xR k (decide (j=0)) hd w last (b::l)),(k:Int)⟩:=by
    unfold z157_13_k3
    rw [w64_succ (by omega:k < 4611686018427387904),hrc b (List.mem_of_getElem? c) _ (by simp only [lA];omega)]
    simp only [bS]
    rw [w64_id (by omega) (by omega),w64_succ (by omega),show ((k+1:Nat):Int)-1=(k:Int) by omega,ih']
    simp only [xR,aA]
   have ln:∀ parts:List ByteArray,parts.length≤3→(parts.map bs).flatten=headT (decide (j=0)) hd w last l.isEmpty→z104_11 N parts ⟨mkB B,(k:Int)⟩=some ⟨mkB (B++lineT k (headT (decide (j=0)) hd w last l.isEmpty)),(k:Int)⟩:=fun parts h3 hp =>
    line_eq parts B _ k hp (by omega) (by omega) (by omega)
   simp only [z157_13_l2,lt_t a,cT,idx_nat,c,bS]
   by_cases h0:j=0
   ·rw [show ((j:Int)==0)=true by simp [h0],cT]
    rw [ln [str hd,str [32,123]] (by simp) (by simp [bs_str,headT,h0])]
    exact rest
   ·rw [show ((j:Int)==0)=false by simp;omega,cF]
    cases l with
    | nil =>
     rw [show ((j:Int)==w64 ((bl.length:Int)-1))=true by rw [w64_id (by omega) (by omega)];simp at hlen ⊢;omega,cT]
     cases last with
     | nil =>
      rw [show (!((str []).toList==(str []).toList))=false by rw [toList_bs,bs_str];rfl,cF]
      rw [ln [str [125,32],str w,str [32,123]] (by simp) (by simp [bs_str,headT,h0])]
      exact rest
     | cons z zs =>
      rw [show (!((str (z::zs)).toList==(str []).toList))=true by rw [toList_bs,toList_bs,bs_str,bs_str];rfl,cT]
      rw [ln [str [125,32],str (z::zs),str [32,123]] (by simp) (by simp [bs_str,headT,h0])]
      exact rest
    | cons z zs =>
     rw [show ((j:Int)==w64 ((bl.length:Int)-1))=false by rw [w64_id (by omega) (by omega)];simp at hlen ⊢;omega,cF]
     rw [ln [str [125,32],str w,str [32,123]] (by simp) (by simp [bs_str,headT,h0])]
     exact rest
 have:=key bl 0 N B rfl (by omega) hB
 exact this
theorem items_src:∀ (N:Nat) (xs:List T15) (k:Nat) (B:List UInt8),4194306+dL xs≤N→xs.length≤4194304→bL xs→shL xs→k+dL xs≤1000→B.length+(xL k xs).length≤4294967296 →
  z107_14 N xs ⟨mkB B,(k:Int)⟩=some ⟨mkB (B++xL k xs),(k:Int)⟩
 | 0,_,_,_,h,_,_,_,_,_=>by omega
 | N+1,xs,k,B,h,hs,hb,hsh,hk,hB=>by
  show z107_14_b N (z107_14 N) xs ⟨mkB B,(k:Int)⟩=_
  unfold z107_14_b
  have hN:4194304 < N:=by omega
  have key:∀ (l:List T15) (j n:Nat) (B:List UInt8),xs.drop j=l→l.length < n→shL l→dL l≤dL xs→B.length+(xL k l).length≤4294967296 →
    z107_14_l2 N (z107_14 N) xs n (mkB B) (k:Int) (j:Int)=some ⟨mkB (B++xL k l),(k:Int)⟩:=by
   intro l
   induction l with
   | nil =>
    intro j n B h hn _ _ hL
    obtain ⟨n,rfl⟩:∃ m,n=m+1:=⟨n-1,by simp at hn;omega⟩
    simp only [z107_14_l2,lt_f (drop_nil h),cF,z107_14_k1,xL,List.append_nil]
   | cons x l ih =>
    intro j n B h hn hsh' hdl hL
    obtain ⟨n,rfl⟩:∃ m,n=m+1:=⟨n-1,by simp at hn;omega⟩
    obtain ⟨a,c,d⟩:=drop_cons h
    have hm:=List.mem_of_getElem? c
    have hbx:=(bI_eq _).1 (bL_mem hb hm)
    have hdx:=dL_mem hm
    rw [dI_eq] at hdx
    simp only [shL,shI_eq] at hsh'
    obtain ⟨⟨hP,hsb⟩,hsl⟩:=hsh'
    simp only [xL,lA] at hL
    simp only [dL] at hdl
    have step:∀ (o:Option T20),o=some ⟨mkB (B++xI k x),(k:Int)⟩→(o.bind fun y=>z107_14_l2 N (z107_14 N) xs n y.Builder y.depth' (w64 ((j:Int)+1)))=some ⟨mkB (B++xL k (x::l)),(k:Int)⟩:=by
     intro o ho
     rw [ho,bS,w64_succ (by omega:j < 4611686018427387904)]
     have:=ih (j+1) n (B++xI k x) d (by simp at hn;omega) hsl (by omega) (by simp only [lA];omega)
     rw [this];simp only [xL,aA]
    have blk:∀ hd w last,B.length+(xR k true hd w last x.Blocks).length≤4294967296→z157_13 N (z107_14 N) (str hd) (str w) (str last) x.Blocks ⟨mkB B,(k:Int)⟩=some ⟨mkB (B++xR k true hd w last x.Blocks),(k:Int)⟩:=by
     intro hd w last hB
     refine blocks_line hN (by omega) hbx.2.1 hd w last (fun b hb' B' hB'=>?_) B hB
     have hbb:=bLL_mem hbx.2.2 hb'
     have hdb:=dLL_mem hb'
     have hsb':∀ {l:List (List T15)},shLL l→∀ {b},b∈l→shL b:=by
      intro l
      induction l with
      | nil=>intro _ b hb;cases hb
      | cons y l ih =>
       intro hy b hb
       simp only [shLL] at hy
       rcases List.mem_cons.1 hb with rfl | hb
       ·exact hy.1
       ·exact ih hy.2 hb
     exact items_src N b (k+1) B' (by omega) hbb.1 hbb.2 (hsb' hsb hb') (by omega) hB'
    have hx:=xI_eq k x
    simp only [z107_14_l2,lt_t a,cT,idx_nat,c,bS]
    unfold ShP at hP
    rcases hP with hP | hP | hP | hP | hP | hP
    ·rw [hP.1] at hx ⊢
     rw [hx] at hL
     have hx:xI k x=lineT k (sendT x.From x.To x.Name):=hx
     have hL:B.length+((lineT k (sendT x.From x.To x.Name)).length+(xL k l).length)≤4294967296:=hL
     have hc:(joinT [44,32] x.To).length≤4294967296:=by
      rw [lineT_len] at hL
      unfold sendT commaT at hL
      simp only [lA] at hL;omega
     show ((z105 N x.To (str [44,32])).bind _)=_
     rw [join_eq x.To [44,32] hbx.1 (by omega),bS]
     refine step _ ?_
     rw [hx]
     exact line_eq _ B _ k (by simp [bs_str,bs_mkB,sendT,commaT,aA]) (by simp) (by omega) (by omega)
    ·rw [hP.1] at hx ⊢
     have hw:=word_len hP.2.1
     have hx:xI k x=(bif decide (x.Ticks > 0) then xR k true (withinT x.From x.Ticks) orT elseT x.Blocks else xR k true (choiceT x.From) orT [] x.Blocks):=hx
     rw [hx] at hL
     show (bif decide (x.Ticks > 0) then _ else _)=_
     have hd:=dig_len x.Ticks
     unfold dig at hd
     cases ht:decide (x.Ticks > 0) with
     | true =>
      rw [ht] at hx hL
      simp only [cT] at hL hx ⊢
      rw [itoa_eq (by unfold I64;omega)]
      have e:str (withinT x.From x.Ticks)=mkB ([99,104,111,105,99,101,32,97,116,32]++bs x.From++[32,119,105,116,104,105,110,32]++bs (itoaS x.Ticks)):=rfl
      simp (disch:=(simp only [bs_mkB,bs_str,lA,List.length_cons,List.length_nil];omega)) only [cat_eq,bS,bs_mkB,bs_str]
      rw [← e]
      refine step _ ?_
      rw [hx]
      exact blk (withinT x.From x.Ticks) orT elseT (by omega)
     | false =>
      rw [ht] at hx hL
      simp only [cF] at hL hx ⊢
      have e:str (choiceT x.From)=mkB ([99,104,111,105,99,101,32,97,116,32]++bs x.From):=rfl
      simp (disch:=(simp only [bs_mkB,bs_str,lA,List.length_cons,List.length_nil];omega)) only [cat_eq,bS,bs_mkB,bs_str]
      rw [← e]
      refine step _ ?_
      rw [hx]
      exact blk (choiceT x.From) orT [] (by omega)
    ·rw [hP.1] at hx ⊢
     have hw:=path_len hP.2.2.2.1
     have hx:xI k x=xR k true (loopT x.Name) [] [] x.Blocks:=hx
     rw [hx] at hL
     show ((catS (str [108,111,111,112,32]) x.Name).bind _)=_
     have e:str (loopT x.Name)=mkB ([108,111,111,112,32]++bs x.Name):=rfl
     simp (disch:=(simp only [bs_mkB,bs_str,lA,List.length_cons,List.length_nil];omega)) only [cat_eq,bS,bs_mkB,bs_str]
     rw [← e]
     refine step _ ?_
     rw [hx]
     exact blk (loopT x.Name) [] [] (by omega)
    ·rw [hP.1] at hx ⊢
     have hx:xI k x=lineT k (againT x.Name):=hx
     rw [hx] at hL
     refine step _ ?_
     rw [hx]
     exact line_eq _ B _ k (by simp [bs_str,againT,aA]) (by simp) (by omega) (by omega)
    ·rw [hP.1] at hx ⊢
     have hx:xI k x=xR k true parT andT [] x.Blocks:=hx
     rw [hx] at hL
     refine step _ ?_
     rw [hx]
     exact blk parT andT [] (by omega)
    ·rw [hP.1] at hx ⊢
     have hx:xI k x=lineT k (callT x.Name x.To x.As):=hx
     rw [hx] at hL
     have hc:(joinT [44,32] x.To).length≤4294967296:=by
      rw [lineT_len] at hL
      unfold callT commaT at hL
      simp only [lA] at hL;omega
     show ((z105 N x.To (str [44,32])).bind _)=_
     rw [join_eq x.To [44,32] hbx.1 (by omega),bS]
     refine step _ ?_
     rw [hx]
     exact line_eq _ B _ k (by simp [bs_str,bs_mkB,callT,commaT,aA]) (by simp) (by omega) (by omega)
  exact key xs 0 N B rfl (by omega) hsh (Nat.le_refl _) hB
end Gp
end
section
namespace Gp
open Go Go.Kx Gx
variable {N:Nat}
end Gp
end
section
namespace Gp
open Go Go.Kx Gx
theorem lines_at {α γ:Type} (xs:List α) (F:Nat→ByteArray→Int→γ) (fin:ByteArray→γ) (g:α→List UInt8) (L:Nat) (hs:xs.length≤4194304)
  (h1:∀ (n k:Nat) x A,k < 4194304→xs[k]? = some x→A.length+(g x).length≤L→F (n+1) (mkB A) (k:Int)=F n (mkB (A++g x)) ((k+1:Nat):Int))
  (h2:∀ (n k:Nat) A,xs.length≤k→k≤xs.length→A.length≤L→F (n+1) (mkB A) (k:Int)=fin (mkB A)):∀ (l:List α) (k n:Nat) (A:List UInt8),k≤xs.length→xs.drop k=l→l.length < n→A.length+((l.map g).flatten).length≤L→F n (mkB A) (k:Int)=fin (mkB (A++(l.map g).flatten)):=by
 intro l
 induction l with
 | nil =>
  intro k n A hk h hn hL
  obtain ⟨n,rfl⟩:∃ m,n=m+1:=⟨n-1,by simp at hn;omega⟩
  rw [h2 n k A (drop_nil h) hk (by omega)];simp
 | cons x l ih =>
  intro k n A hk h hn hL
  obtain ⟨n,rfl⟩:∃ m,n=m+1:=⟨n-1,by simp at hn;omega⟩
  obtain ⟨a,c,d⟩:=drop_cons h
  rw [List.map_cons,List.flatten_cons,lA] at hL
  rw [h1 n k x A (by omega) c (by omega),ih (k+1) n _ (by omega) d (by simp at hn;omega) (by rw [lA];omega)]
  simp only [List.map_cons,List.flatten_cons,aA]
def protHead (p:T17):List UInt8:=[112,114,111,116,111,99,111,108,32]++bs p.Name++[40]++commaT p.Roles++[41,32,123]
def msgLine (m:T16):List UInt8:=lineT 1 (msgT m)
def protT (p:T17):List UInt8:=lineT 0 (protHead p)++(p.Messages.map msgLine).flatten++xL 1 p.Body++lineT 0 [125]
def srcT (l:List T17):List UInt8:=(l.map protT).flatten
def ProtP (p:T17):Prop:=isWord p.Name=true∧WordsP p.Roles 6∧p.Messages.length≤40∧shL p.Body∧dL p.Body≤10∧cL p.Body≤300∧∀ m∈p.Messages,MsgP m
theorem comma_len {l:List ByteArray} {k:Nat} (h:WordsP l k) (hk:k≤6):(commaT l).length≤108:=by
 have:=joinL_len [44,32] 16 (l.map bs) (fun x hx=>by obtain ⟨w,hw,rfl⟩:=List.mem_map.1 hx;exact word_len (h.2.2 w hw))
 simp only [List.length_map,List.length_cons,List.length_nil] at this
 have:=h.2.1
 unfold commaT joinT
 omega
theorem headT_len (first:Bool) (hd w last:List UInt8) (e:Bool) (h1:hd.length≤70) (h2:w.length≤10) (h3:last.length≤10):(headT first hd w last e).length≤72:=by
 unfold headT
 cases first<;>cases (e && !last.isEmpty)<;>simp only [cT,cF,lA,List.length_cons,List.length_nil]<;>omega
mutual
theorem xI_len:∀ (x:T15) (k:Nat),shI x→k+dI x≤20→(xI k x).length≤1000 * cI x
 | ⟨kd,f,t,n,a,x,b⟩,k,hs,hk=>by
  simp only [shI,dI,cI] at hs hk ⊢
  obtain ⟨hP,hsb⟩:=hs
  have hr:∀ hd w last,hd.length≤70→w.length≤10→last.length≤10→(xR k true hd w last b).length≤100 * (b.length+1)+1000 * cLL b:=fun hd w last h1 h2 h3=>xR_len b k true hd w last hsb (by omega) h1 h2 h3
  unfold ShP at hP
  simp only at hP
  rcases hP with hP | hP | hP | hP | hP | hP
  ·rw [hP.1]
   have h1:=word_len hP.2.1
   have h2:=comma_len hP.2.2.1 (by omega)
   have h3:=path_len hP.2.2.2.1
   show (lineT k (sendT f t n)).length≤_
   rw [lineT_len];unfold sendT
   simp only [lA,List.length_cons,List.length_nil];omega
  ·rw [hP.1]
   have h1:=word_len hP.2.1
   have h2:=dig_len x
   show (bif decide (x > 0) then xR k true (withinT f x) orT elseT b else xR k true (choiceT f) orT [] b).length≤_
   have h3:(withinT f x).length≤70:=by unfold withinT choiceT;simp only [lA,List.length_cons,List.length_nil];omega
   have h4:(choiceT f).length≤70:=by unfold choiceT;simp only [lA,List.length_cons,List.length_nil];omega
   have q1:=hr (withinT f x) orT elseT h3 (by simp) (by simp)
   have q2:=hr (choiceT f) orT [] h4 (by simp) (by simp)
   cases decide (x > 0)<;>simp only [cT,cF]<;>omega
  ·rw [hP.1]
   have h1:=path_len hP.2.2.2.1
   show (xR k true (loopT n) [] [] b).length≤_
   have h4:(loopT n).length≤70:=by unfold loopT;simp only [lA,List.length_cons,List.length_nil];omega
   have q:=hr (loopT n) [] [] h4 (by simp) (by simp)
   omega
  ·rw [hP.1]
   have h3:=path_len hP.2.2.2.1
   show (lineT k (againT n)).length≤_
   rw [lineT_len];unfold againT
   simp only [lA,List.length_cons,List.length_nil];omega
  ·rw [hP.1]
   show (xR k true parT andT [] b).length≤_
   have q:=hr parT andT [] (by simp) (by simp) (by simp)
   omega
  ·rw [hP.1]
   have h1:=word_len hP.2.2.2.1
   have h2:=comma_len hP.2.2.1 (by omega)
   have h3:=word_len hP.2.2.2.2.1
   show (lineT k (callT n t a)).length≤_
   rw [lineT_len];unfold callT
   simp only [lA,List.length_cons,List.length_nil];omega
theorem xL_len:∀ (l:List T15) (k:Nat),shL l→k+dL l≤20→(xL k l).length≤1000 * cL l
 | [],k,_,_=>by simp [xL]
 | x::l,k,hs,hk=>by
  simp only [shL,dL] at hs hk
  have h1:=xI_len x k hs.1 (by omega)
  have h2:=xL_len l k hs.2 (by omega)
  simp only [xL,cL,lA];omega
theorem xR_len:∀ (l:List (List T15)) (k:Nat) (first:Bool) (hd w last:List UInt8),shLL l→k+dLL l+1≤20→hd.length≤70→w.length≤10→last.length≤10→(xR k first hd w last l).length≤100 * (l.length+1)+1000 * cLL l
 | [],k,first,hd,w,last,_,hk,_,_,_=>by simp only [xR,lineT_len,List.length_cons,List.length_nil];omega
 | b::l,k,first,hd,w,last,hs,hk,h1,h2,h3=>by
  simp only [shLL,dLL] at hs hk
  have q1:=xL_len b (k+1) hs.1 (by omega)
  have q2:=xR_len l k false hd w last hs.2 (by omega) h1 h2 h3
  have q3:=headT_len first hd w last l.isEmpty h1 h2 h3
  simp only [xR,cLL,lA,lineT_len,List.length_cons];omega
end
theorem flat_len {α:Type} (g:α→List UInt8) (M:Nat):∀ l:List α,(∀ x∈l,(g x).length≤M)→((l.map g).flatten).length≤l.length * M
 | [],_=>by simp
 | x::l,h=>by
  have h1:=h x (List.mem_cons_self ..)
  have h2:=flat_len g M l fun z hz=>h z (List.mem_cons_of_mem _ hz)
  simp only [List.map_cons,List.flatten_cons,lA,List.length_cons,Nat.add_mul,Nat.one_mul];omega
theorem protT_len {p:T17} (h:ProtP p):(protT p).length≤1000000:=by
 obtain ⟨h1,h2,h3,h4,h5,h6,h7⟩:=h
 have q1:=word_len h1
 have q2:=comma_len h2 (Nat.le_refl _)
 have q3:=flat_len msgLine 3010 p.Messages (fun m hm=>by have:=msgT_len (h7 m hm);unfold msgLine;rw [lineT_len];omega)
 have q4:=xL_len p.Body 1 h4 (by omega)
 have q5:p.Messages.length * 3010≤40 * 3010:=Nat.mul_le_mul_right _ h3
 unfold protT protHead
 simp only [lA,lineT_len,List.length_cons,List.length_nil];omega
theorem srcT_len {l:List T17} (hl:l.length≤4194304) (h:∀ p∈l,ProtP p) (h10:l.length≤10):(srcT l).length≤10000000:=by
 have:=flat_len protT 1000000 l fun p hp=>protT_len (h p hp)
 unfold srcT
 have:l.length * 1000000≤10 * 1000000:=Nat.mul_le_mul_right _ h10
 omega
end Gp
end
section
namespace Gp
open Go Go.Kx Gx
variable {N:Nat}
structure Pk (N:Nat) (p:T17):Prop where
 v:ProtP p
 l:p.Body.length≤4194304
 b:bL p.Body
theorem Pk.r {p:T17} (h:Pk N p):p.Roles.length≤6:=h.v.2.1.2.1
theorem done_eq (A:List UInt8) (h0:0 < A.length) (hA:A.length≤4294967296):z108_15 N ⟨mkB A,(0:Int)⟩=some (mkB A):=by
 unfold z108_15
 have e:(mkB A).size=A.length:=by rw [size_bs,bs_mkB]
 have g:gdB (mkB A)=some ():=by
  unfold gdB
  rw [e,show Nat.beq A.length 0=false by cases h:A.length with | zero=>omega | succ n=>rfl,Nat.ble_eq_true_of_le (show A.length≤lim by show A.length≤4294967296;omega)]
  rfl
 rw [g];rfl
theorem prot_body (hN:4194320 < N) {p:T17} (h:Pk N p) (A:List UInt8) (hA:A.length≤100000000) :
  (z107_14 N p.Body ⟨mkB A,(1:Int)⟩).bind (fun y=>z104_11 N ([(str [125])]:List ByteArray) (⟨y.Builder,(w64 (y.depth'-(1:Int)))⟩:T20))=some ⟨mkB (A++xL 1 p.Body++lineT 0 [125]),(0:Int)⟩:=by
 obtain ⟨h1,h2,h3,h4,h5,h6,h7⟩:=h.v
 have q4:=xL_len p.Body 1 h4 (by omega)
 rw [show (1:Int)=((1:Nat):Int) from rfl,items_src N p.Body 1 A (by omega) h.l h.b h4 (by omega) (by omega),bS]
 show z104_11 N [str [125]] ⟨mkB (A++xL 1 p.Body),w64 (((1:Nat):Int)-((1:Nat):Int))⟩=_
 rw [show w64 (((1:Nat):Int)-((1:Nat):Int))=((0:Nat):Int) from rfl]
 rw [line_eq [str [125]] _ [125] 0 (by simp [bs_str]) (by simp) (by omega) (by simp only [lA,lineT_len,List.length_cons,List.length_nil];omega)]
 rfl
theorem msgs_len {p:T17} (h:ProtP p):((p.Messages.map msgLine).flatten).length≤120400:=by
 have q3:=flat_len msgLine 3010 p.Messages (fun m hm=>by have:=msgT_len (h.2.2.2.2.2.2 m hm);unfold msgLine;rw [lineT_len];omega)
 have q5:p.Messages.length * 3010≤40 * 3010:=Nat.mul_le_mul_right _ h.2.2.1
 omega
theorem head_parts (p:T17):(([(str [112,114,111,116,111,99,111,108,32]),p.Name,(str [40]),mkB (joinT [44,32] p.Roles),(str [41,32,123])]:List ByteArray).map bs).flatten=protHead p:=by
 simp [bs_str,bs_mkB,protHead,commaT,aA]
theorem source_eq (hN:4194320 < N) (l:List T17) (hl:l.length≤10) (h:∀ p∈l,Pk N p):z45 N l=some (mkB (srcT l)):=by
 have hs:=srcT_len (l:=l) (by omega) (fun p hp=>(h p hp).v) hl
 unfold z45
 cases hll:l with
 | nil=>rfl
 | cons p r =>
  rw [← hll]
  have hlt:decide ((0:Int) < (l.length:Int))=true:=dT (by rw [hll];simp)
  have h0:l[0]? = some p:=by rw [hll];rfl
  have hp:=h p (List.mem_of_getElem? h0)
  have e:srcT l=protT p++(r.map protT).flatten:=by rw [hll];rfl
  have hpl:=protT_len hp.v
  have hml:=msgs_len hp.v
  have hL:=hs
  rw [e,lA] at hL
  have hh:(lineT 0 (protHead p)).length≤200:=by
   have:=word_len hp.v.1
   have:=comma_len hp.v.2.1 (Nat.le_refl _)
   unfold protHead;simp only [lA,lineT_len,List.length_cons,List.length_nil];omega
  have hc:∀ q:T17,ProtP q→(joinT [44,32] q.Roles).length≤108:=fun q hq=>comma_len hq.2.1 (Nat.le_refl _)
  rw [hlt,cT,show idx l (0:Int)=some p by rw [show (0:Int)=((0:Nat):Int) from rfl,idx_nat,h0]]
  simp only [bS]
  rw [join_eq p.Roles [44,32] (by have:=hp.r;omega) (by have:=hc p hp.v;omega),bS,line_eq0 _ _ (head_parts p) (by simp) (by omega)]
  simp only [bS]
  rw [show w64 ((0:Int)+1)=(1:Int) from rfl]
  -- the first protocol's messages
  have msgs:∀ (q:T17),Pk N q→∀ (F:Nat→ByteArray→Int→Option ByteArray) (fin:ByteArray→Option ByteArray) (A:List UInt8),A.length≤50000000 →
    (∀ (n k:Nat) (m:T16) (A:List UInt8),q.Messages[k]? = some m→z106_12 N m ⟨mkB A,(1:Int)⟩=some ⟨mkB (A++msgLine m),(1:Int)⟩→k < 4194304→F (n+1) (mkB A) (k:Int)=F n (mkB (A++msgLine m)) ((k+1:Nat):Int)) →
    (∀ (n k:Nat) (A:List UInt8),q.Messages.length≤k→F (n+1) (mkB A) (k:Int)=fin (mkB A))→F N (mkB A) (0:Int)=fin (mkB (A++(q.Messages.map msgLine).flatten)):=by
   intro q hq F fin A hA g1 g2
   have hq3:=hq.v.2.2.1
   have hml:=msgs_len hq.v
   exact lines_at q.Messages F fin msgLine 100000000 (by omega) (fun n k m A hk hm hA=>g1 n k m A hm (by
    have hm':=hq.v.2.2.2.2.2.2 m (List.mem_of_getElem? hm)
    exact message_line (by omega) hm' A 1 (by omega) (by show A.length+(msgLine m).length≤_;omega)) hk) (fun n k A h1 _ h3=>g2 n k A h1) q.Messages 0 N A (by omega) rfl (by omega) (by omega)
  rw [msgs p hp (fun n b k=>z45_l5 N l p n b (1:Int) k) (fun b=>z45_k4 N l p b (1:Int)) (lineT 0 (protHead p)) (by omega) (fun n k m A hm hline hk=>?_) (fun n k A hk=>?_)]
  ·unfold z45_k4
   have hb:=prot_body hN hp (lineT 0 (protHead p)++(p.Messages.map msgLine).flatten) (by simp only [lA];omega)
   rw [← Option.bind_assoc] 
   rw [hb,bS]
   show z45_l1 N l N (mkB _) (0:Int) (w64 ((0:Int)+1))=_
   rw [show w64 ((0:Int)+1)=((1:Nat):Int) from rfl]
   have e2:lineT 0 (protHead p)++(p.Messages.map msgLine).flatten++xL 1 p.Body++lineT 0 [125]=protT p:=rfl
   rw [e2]
   rw [lines_at l (fun n b k=>z45_l1 N l n b (0:Int) k) (fun b=>(z108_15 N (⟨b,0⟩:T20)).bind fun x=>some x) protT 10000000 (by omega) (fun n k q A hk hq hA=>?_) (fun n k A hk _ hA=>?_) r 1 N (protT p) (by rw [hll];simp) (by rw [hll];rfl) (by rw [hll] at hl;simp at hl;omega) (by omega)]
   ·rw [← e,done_eq _ (by rw [e];unfold protT protHead;simp only [lA,lineT_len,List.length_cons];omega) (by omega)]
    rfl
   ·have hq':=h q (List.mem_of_getElem? hq)
    have hqr:=hq'.r
    have hqc:=hc q hq'.v
    have hqm:=msgs_len hq'.v
    have hqh:(lineT 0 (protHead q)).length≤200:=by
     have:=word_len hq'.v.1
     have:=comma_len hq'.v.2.1 (Nat.le_refl _)
     unfold protHead;simp only [lA,lineT_len,List.length_cons,List.length_nil];omega
    simp only [z45_l1,lt_t (get_lt hq),cT,idx_nat,hq,bS]
    rw [join_eq q.Roles [44,32] (by omega) (by omega),bS]
    have hline:=line_eq (N:=N) _ A _ 0 (head_parts q) (by simp) (by omega) (by omega)
    rw [show (((0:Nat):Int))=(0:Int) from rfl] at hline
    rw [hline]
    simp only [bS]
    rw [show w64 ((0:Int)+1)=(1:Int) from rfl]
    rw [msgs q hq' (fun n' b j=>z45_l3 N (k:Int) (z45_l1 N l n) q n' b (1:Int) j) (fun b=>z45_k2 N (k:Int) (z45_l1 N l n) q b (1:Int)) (A++lineT 0 (protHead q)) (by simp only [lA];omega) (fun n' j m A hm hline hj=>?_) (fun n' j A hj=>?_)]
    ·unfold z45_k2
     have hb:=prot_body hN hq' (A++lineT 0 (protHead q)++(q.Messages.map msgLine).flatten) (by simp only [lA];omega)
     rw [← Option.bind_assoc]
     rw [hb,bS,w64_succ (by omega)]
     simp only [protT,aA]
    ·simp only [z45_l3,lt_t (get_lt hm),cT,idx_nat,hm,bS,hline,w64_succ (show j < 4611686018427387904 by omega)]
    ·simp only [z45_l3,lt_f hj,cF]
   ·simp only [z45_l1,lt_f hk,cF]
  ·simp only [z45_l5,lt_t (get_lt hm),cT,idx_nat,hm,bS,hline,w64_succ (show k < 4611686018427387904 by omega)]
  ·simp only [z45_l5,lt_f hk,cF]
end Gp
end
section
namespace Gp
open Go Go.Kx Gx
variable {N:Nat}
def ValidP (l:List T17):Prop:=l.length≤10∧(∀ p∈l,ProtP p)∧(srcT l).length≤8000
theorem prot_iff (p:T17) (Q:Prop):(isWord p.Name=true∧WordsP p.Roles 6∧p.Messages.length≤40∧(shL p.Body∧dL p.Body≤10∧cL p.Body≤300)∧(∀ m∈p.Messages,MsgP m)∧Q)↔ProtP p∧Q:=by
 unfold ProtP
 constructor
 ·rintro ⟨a,b,c,⟨d,e,f⟩,g,h⟩;exact ⟨⟨a,b,c,d,e,f,g⟩,h⟩
 ·rintro ⟨⟨a,b,c,d,e,f,g⟩,h⟩;exact ⟨a,b,c,⟨d,e,f⟩,g,h⟩
theorem valid_dq (hN:4194320 < N) (l:List T17) (hl:l.length≤4194304) (hb:∀ p∈l,bP p):Dq (z18 N l) (ValidP l):=by
 unfold z18
 refine Dq.cN (C:=l.length≤10) gt_lem fun h10=>?_
 refine dq_all (P:=ProtP) (E:=(srcT l).length≤8000) (by omega) _ (fun n k p Q hk hp hq=>?_) (fun hall n k hk=>?_) (by omega)
 ·have hbp:=hb p (List.mem_of_getElem? hp)
  simp only [z18_l2,lt_t (get_lt hp),cT,idx_nat,hp,bS]
  refine (Dq.bN (word_dq (by omega) _) fun h1=>Dq.bN (words_dq (by omega) _ hbp.r 6) fun h2=>Dq.cN (C:=p.Messages.length≤40) gt_lem fun h3=>?_).iff (prot_iff p Q)
  obtain ⟨r,m,v1,v2,v3⟩:=valid_items N p.Body 1 0 (by omega) hbp.l hbp.b (by omega) (by omega)
  rw [show z43 N p.Body (1:Int) (0:Int)=some (r,m) from v1,bS]
  refine Dq.cN (C:=shL p.Body∧dL p.Body≤10∧cL p.Body≤300) ?_ fun h4=>?_
  ·have:r=true↔shL p.Body∧dL p.Body≤10∧cL p.Body≤300:=v2.trans ⟨fun q=>⟨q.1,by omega,by omega⟩,fun q=>⟨q.1,by omega,by omega⟩⟩
   rw [← this];cases r<;>simp
  ·refine dq_all (P:=MsgP) (E:=Q) (by omega) (z18_l4 N (k:Int) (z18_l2 N l n) p) (fun n' j m Q' hj hm hq'=>?_) (fun hall n' j hj=>?_) (by omega)
   ·simp only [z18_l4,lt_t (get_lt hm),cT,idx_nat,hm,bS,w64_succ (show j < 4611686018427387904 by omega)]
    exact Dq.bN (mval_dq (by omega) m) hq'
   ·simp only [z18_l4,lt_f hj,cF,z18_k3,w64_succ (show k < 4611686018427387904 by omega)]
    exact hq ⟨h1,h2,h3,h4.1,h4.2.1,h4.2.2,hall⟩
 ·simp only [z18_l2,lt_f hk,cF,z18_k1]
  rw [source_eq hN l h10 fun p hp=>⟨hall p hp,(hb p hp).l,(hb p hp).b⟩,bS]
  exact Dq.dec (by rw [size_bs,bs_mkB];omega)
end Gp
end
section
namespace Gp
open Go Go.Kx Gx
def atI {α:Type} (p:α→Bool) (xs:List α):Int:=match xs.findIdx? p with
 | some i=>(i:Int)
 | none=>-1
theorem atI_ge {α:Type} (p:α→Bool) (xs:List α):decide (atI p xs≥0)=xs.any p:=by
 unfold atI
 rw [← List.findIdx?_isSome]
 cases h:xs.findIdx? p with
 | none=>simp
 | some i=>simp
theorem find_loop {α:Type} (xs:List α) (p:α→Bool) (F:Nat→Int→Option Int)
  (h1:∀ (n k:Nat) x,xs[k]? = some x→F (n+1) (k:Int)=bif p x then some (k:Int) else F n ((k+1:Nat):Int))
  (h2:∀ (n k:Nat),xs.length≤k→F (n+1) (k:Int)=some (-1)) {N:Nat} (hN:xs.length < N):F N (0:Int)=some (atI p xs):=by
 have key:∀ (l:List α) (k n:Nat),xs.drop k=l→l.length < n→F n (k:Int)=some (match l.findIdx? p with | some i=>((k+i:Nat):Int) | none=>-1):=by
  intro l
  induction l with
  | nil =>
   intro k n h hn
   obtain ⟨n,rfl⟩:∃ m,n=m+1:=⟨n-1,by simp at hn;omega⟩
   rw [h2 n k (drop_nil h)];rfl
  | cons x l ih =>
   intro k n h hn
   obtain ⟨n,rfl⟩:∃ m,n=m+1:=⟨n-1,by simp at hn;omega⟩
   obtain ⟨a,c,d⟩:=drop_cons h
   rw [h1 n k x c,List.findIdx?_cons]
   cases p x with
   | true=>simp
   | false =>
    rw [cF,ih (k+1) n d (by simp at hn;omega),if_neg (by simp)]
    cases l.findIdx? p with
    | none=>rfl
    | some i =>
     show some (((k+1+i:Nat):Int))=some (((k+(i+1):Nat):Int))
     rw [show k+1+i=k+(i+1) by omega]
 have:=key xs 0 N rfl hN
 rw [show ((0:Nat):Int)=0 from rfl] at this
 rw [this]
 unfold atI
 cases xs.findIdx? p with
 | none=>rfl
 | some i=>simp
theorem w64_suc {n:Nat} (h:n < 9223372036854775807):w64 ((n:Int)+1)=((n+1:Nat):Int):=by rw [w64_id (by omega) (by omega)];omega
def inL (v:ByteArray) (l:List ByteArray):Bool:=l.any fun x=>v.toList==x.toList
theorem inL_iff (v:ByteArray) (l:List ByteArray):inL v l=true↔v∈l:=by
 unfold inL
 rw [List.any_eq_true]
 constructor
 ·rintro ⟨x,hx,h⟩;rw [seq'.1 h];exact hx
 ·exact fun h=>⟨v,h,by simp⟩
theorem cont_eq {N:Nat} (l:List ByteArray) (hl:l.length < N) (hb:l.length < 4611686018427387904) (v:ByteArray):z54 N l v=some (inL v l):=by
 unfold z54 z122
 rw [find_loop l (fun x=>v.toList==x.toList) (z122_l2 l v) (fun n k x hx=>?_) (fun n k hk=>?_) hl,bS,atI_ge]
 ·rfl
 ·simp only [z122_l2,lt_t (get_lt hx),cT,idx_nat,hx,bS]
  rw [w64_suc (by have:=get_lt hx;omega)]
 ·simp only [z122_l2,lt_f hk,cF,z122_k1]
def hdR (x:T15):List ByteArray:=(if x.Kind=1∨x.Kind=2 then [x.From] else [])++(if x.Kind=1∨x.Kind=6 then x.To else [])
mutual
def rcI:T15→List ByteArray
 | ⟨k,f,t,n,a,x,b⟩=>hdR ⟨k,f,t,n,a,x,b⟩++rcLL b
def rcL:List T15→List ByteArray
 | []=>[]
 | x::l=>rcI x++rcL l
def rcLL:List (List T15)→List ByteArray
 | []=>[]
 | x::l=>rcL x++rcLL l
end
theorem rcI_eq (x:T15):rcI x=hdR x++rcLL x.Blocks:=by cases x;simp only [rcI]
theorem rcL_fold:∀ (l:List T15) (s:List ByteArray),l.foldl (fun s x=>s++rcI x) s=s++rcL l
 | [],s=>by simp [rcL]
 | x::l,s=>by rw [List.foldl_cons,rcL_fold l];simp only [rcL,aA]
theorem rcLL_fold:∀ (l:List (List T15)) (s:List ByteArray),l.foldl (fun s x=>s++rcL x) s=s++rcLL l
 | [],s=>by simp [rcLL]
 | x::l,s=>by rw [List.foldl_cons,rcLL_fold l];simp only [rcLL,aA]
theorem hdR_len (x:T15):(hdR x).length≤x.To.length+1:=by
 unfold hdR
 split<;>split<;>simp
theorem col_head {N:Nat} (rc) (x:T15) (s:List ByteArray) (k:Int) (ag) (h:s.length+(hdR x).length≤4294967296) :
  (bif (x.Kind==(1:Int)) then (z93_k8 N rc s k ag x true) else z93_k8 N rc s k ag x (x.Kind==(2:Int)))=z93_l4 rc k ag x N (s++hdR x) (0:Int):=by
 unfold hdR at h ⊢
 simp only [z93_k8,z93_k7,z93_k6,z93_k5,cT]
 by_cases h1:x.Kind=1
 ·rw [if_pos (.inl h1),if_pos (.inl h1)] at h ⊢
  simp only [lA,List.length_cons,List.length_nil] at h
  simp only [h1,beq_self_eq_true,cT]
  rw [appL_some (by simp;omega),bS,appL_some (by simp;omega),bS,aA]
 ·have e1:(x.Kind==1)=false:=by simpa using h1
  simp only [e1,cF]
  by_cases h2:x.Kind=2
  ·rw [if_pos (.inr h2),if_neg (by omega)] at h ⊢
   have e6:(x.Kind==6)=false:=by simp [h2]
   simp only [lA,List.length_cons,List.length_nil] at h
   simp only [h2,beq_self_eq_true,cT]
   rw [appL_some (by simp;omega),bS]
   have:((2:Int)==6)=false:=rfl
   simp
  ·have e2:(x.Kind==2)=false:=by simpa using h2
   rw [if_neg (by omega)] at h ⊢
   simp only [e2,cF]
   by_cases h6:x.Kind=6
   ·rw [if_pos (.inr h6)] at h ⊢
    simp only [h6,beq_self_eq_true,cT]
    simp only [List.nil_append] at h ⊢
    rw [appL_some h,bS]
   ·have e6:(x.Kind==6)=false:=by simpa using h6
    rw [if_neg (by omega)]
    simp [e6]
theorem collect_eq:∀ (N:Nat) (xs:List T15) (out:List ByteArray),4194306+dL xs≤N→xs.length≤4194304→bL xs→out.length+(rcL xs).length≤4294967296→z93 N xs out=some (out++rcL xs)
 | 0,_,_,h,_,_,_=>by omega
 | N+1,xs,out,h,hs,hb,hc=>by
  show z93_b N (z93 N) xs out=_
  unfold z93_b
  have hN:4194304 < N:=by omega
  have inner:∀ (k:Nat) (x:T15) (s:List ByteArray) (ag:List ByteArray→Int→Option (List ByteArray)),xs[k]? = some x→s.length+(rcLL x.Blocks).length≤4294967296 →
    z93_l4 (z93 N) (k:Int) ag x N s (0:Int)=ag (s++rcLL x.Blocks) ((k+1:Nat):Int):=by
   intro k x s ag hx hle
   have hm:=List.mem_of_getElem? hx
   have hbx:=(bI_eq _).1 (bL_mem hb hm)
   have hdx:=dL_mem hm
   rw [dI_eq] at hdx
   have hk:=get_lt hx
   have:=(fold_loop x.Blocks (z93_l4 (z93 N) (k:Int) ag x) (fun s b=>s++rcL b) (fun s=>ag s ((k+1:Nat):Int))
    (fun j s=>s.length+(rcLL (x.Blocks.drop j)).length≤4294967296) (fun n j s b hi hj=>?_) (fun n j s hi hj=>?_) (N:=N) (s:=s) (by omega) (by rw [List.drop_zero];exact hle)).1
   ·rw [this,rcLL_fold]
   ·rw [drop_get hj] at hi
    simp only [rcLL,lA] at hi
    have hmb:=List.mem_of_getElem? hj
    have hbb:=bLL_mem hbx.2.2 hmb
    have hdb:=dLL_mem hmb
    have e:=collect_eq N b s (by omega) hbb.1 hbb.2 (by omega)
    refine ⟨?_,by rw [lA];omega⟩
    simp only [z93_l4,lt_t (get_lt hj),cT,idx_nat,hj,bS,e]
    rw [w64_succ (by have:=get_lt hj;omega)]
   ·simp only [z93_l4,lt_f hj,cF,z93_k3]
    rw [w64_succ (by omega)]
  have:=(fold_loop xs (z93_l2 N (z93 N) xs) (fun s x=>s++rcI x) (fun s=>some s)
   (fun j s=>s.length+(rcL (xs.drop j)).length≤4294967296) (fun n k s x hi hx=>?_) (fun n k s hi hk=>?_) (N:=N) (s:=out) (by omega) (by rw [List.drop_zero];exact hc)).1
  ·rw [this,rcL_fold]
  ·rw [drop_get hx] at hi
   simp only [rcL,lA] at hi
   have hi':=hi
   rw [rcI_eq,lA] at hi'
   refine ⟨?_,by rw [lA];omega⟩
   simp only [z93_l2,lt_t (get_lt hx),cT,idx_nat,hx,bS]
   rw [col_head _ _ _ _ _ (by omega),inner k x _ _ hx (by rw [lA];omega),rcI_eq,aA]
  ·simp only [z93_l2,lt_f hk,cF,z93_k1]
theorem filt_fold (q:ByteArray→Bool):∀ (l:List ByteArray) (s:List ByteArray),l.foldl (fun s x=>bif q x then s++[x] else s) s=s++l.filter q
 | [],s=>by simp
 | x::l,s=>by
  rw [List.foldl_cons,filt_fold q l,List.filter_cons]
  cases q x<;>simp
theorem ownTakes_eq {N:Nat} (hN:4194304 < N) (roles:List ByteArray) (hr:roles.length≤4194304) (xs:List T15) (h:4194306+dL xs≤N) (hs:xs.length≤4194304) (hb:bL xs) (hc:(rcL xs).length≤4294967296) (hn:(rcL xs).length < N) :
  z35 N roles xs=some (roles.filter fun r=>inL r (rcL xs)):=by
 unfold z35
 rw [collect_eq N xs [] h hs hb (by simpa using hc),bS,List.nil_append]
 have:=(fold_loop roles (z35_l2 N roles (rcL xs)) (fun s x=>bif inL x (rcL xs) then s++[x] else s) (fun s=>some s) (fun j s=>s.length≤j)
  (fun n j s x hi hx=>?_) (fun n j s hi hj=>?_) (N:=N) (s:=[]) (by omega) (by simp)).1
 ·rw [this,filt_fold];simp
 ·have hj:=get_lt hx
  simp only [z35_l2,lt_t hj,cT,idx_nat,hx,bS,cont_eq (rcL xs) hn (by omega)]
  rw [w64_succ (by omega)]
  cases inL x (rcL xs) with
  | true =>
   simp only [cT]
   rw [appL_some (by simp;omega),bS]
   exact ⟨rfl,by simp;omega⟩
  | false=>exact ⟨rfl,by simp only [cF];omega⟩
 ·simp only [z35_l2,lt_f hj,cF,z35_k1]
end Gp
end
section
namespace Gp
open Go Go.Kx Gx
theorem ix_Check_1 {N:Nat} (s:List T17) (c:T17) (hs:s.length < N) (hb:s.length < 4611686018427387904):z53_18 N s c=some (atI (fun x=>x.Name.toList==c.Name.toList) s):=by
 unfold z53_18
 refine find_loop s (fun x=>x.Name.toList==c.Name.toList) (z53_18_l2 N s c) (fun n k x hx=>?_) (fun n k hk=>?_) hs
 ·simp only [z53_18_l2,lt_t (get_lt hx),cT,idx_nat,hx,bS,z23_17]
  rw [w64_suc (by have:=get_lt hx;omega)]
 ·simp only [z53_18_l2,lt_f hk,cF,z53_18_k1]
theorem cf_Check_1 {N:Nat} (s:List T17) (c:T17) (hs:s.length < N) (hb:s.length < 4611686018427387904):z22_19 N s c=some (s.any fun x=>x.Name.toList==c.Name.toList):=by
 unfold z22_19
 rw [ix_Check_1 s c hs hb,bS,atI_ge]
theorem ix_sorts_1 {N:Nat} (s:List T16) (c:T16) (hs:s.length < N) (hb:s.length < 4611686018427387904):z123_21 N s c=some (atI (fun x=>x.Name.toList==c.Name.toList) s):=by
 unfold z123_21
 refine find_loop s (fun x=>x.Name.toList==c.Name.toList) (z123_21_l2 N s c) (fun n k x hx=>?_) (fun n k hk=>?_) hs
 ·simp only [z123_21_l2,lt_t (get_lt hx),cT,idx_nat,hx,bS,z56_20]
  rw [w64_suc (by have:=get_lt hx;omega)]
 ·simp only [z123_21_l2,lt_f hk,cF,z123_21_k1]
theorem cf_sorts_1 {N:Nat} (s:List T16) (c:T16) (hs:s.length < N) (hb:s.length < 4611686018427387904):z55_22 N s c=some (s.any fun x=>x.Name.toList==c.Name.toList):=by
 unfold z55_22
 rw [ix_sorts_1 s c hs hb,bS,atI_ge]
theorem ix_sorts_2 {N:Nat} (s:List T0) (c:T0) (hs:s.length < N) (hb:s.length < 4611686018427387904):z124_24 N s c=some (atI (fun x=>x.Name.toList==c.Name.toList) s):=by
 unfold z124_24
 refine find_loop s (fun x=>x.Name.toList==c.Name.toList) (z124_24_l2 N s c) (fun n k x hx=>?_) (fun n k hk=>?_) hs
 ·simp only [z124_24_l2,lt_t (get_lt hx),cT,idx_nat,hx,bS,z58_23]
  rw [w64_suc (by have:=get_lt hx;omega)]
 ·simp only [z124_24_l2,lt_f hk,cF,z124_24_k1]
theorem cf_sorts_2 {N:Nat} (s:List T0) (c:T0) (hs:s.length < N) (hb:s.length < 4611686018427387904):z57_25 N s c=some (s.any fun x=>x.Name.toList==c.Name.toList):=by
 unfold z57_25
 rw [ix_sorts_2 s c hs hb,bS,atI_ge]
theorem ix_find_1 {N:Nat} (s:List T16) (c:T18) (hs:s.length < N) (hb:s.length < 4611686018427387904):z123_27 N s c=some (atI (fun x=>x.Name.toList==c.Message.toList) s):=by
 unfold z123_27
 refine find_loop s (fun x=>x.Name.toList==c.Message.toList) (z123_27_l2 N s c) (fun n k x hx=>?_) (fun n k hk=>?_) hs
 ·simp only [z123_27_l2,lt_t (get_lt hx),cT,idx_nat,hx,bS,z125_26]
  rw [w64_suc (by have:=get_lt hx;omega)]
 ·simp only [z123_27_l2,lt_f hk,cF,z123_27_k1]
theorem ix_find_2 {N:Nat} (s:List T0) (c:T18) (hs:s.length < N) (hb:s.length < 4611686018427387904):z124_29 N s c=some (atI (fun x=>x.Name.toList==c.Field.toList) s):=by
 unfold z124_29
 refine find_loop s (fun x=>x.Name.toList==c.Field.toList) (z124_29_l2 N s c) (fun n k x hx=>?_) (fun n k hk=>?_) hs
 ·simp only [z124_29_l2,lt_t (get_lt hx),cT,idx_nat,hx,bS,z126_28]
  rw [w64_suc (by have:=get_lt hx;omega)]
 ·simp only [z124_29_l2,lt_f hk,cF,z124_29_k1]
theorem ix_send_1 {N:Nat} (s:List T16) (c:T15) (hs:s.length < N) (hb:s.length < 4611686018427387904):z123_31 N s c=some (atI (fun x=>x.Name.toList==c.Name.toList) s):=by
 unfold z123_31
 refine find_loop s (fun x=>x.Name.toList==c.Name.toList) (z123_31_l2 N s c) (fun n k x hx=>?_) (fun n k hk=>?_) hs
 ·simp only [z123_31_l2,lt_t (get_lt hx),cT,idx_nat,hx,bS,z127_30]
  rw [w64_suc (by have:=get_lt hx;omega)]
 ·simp only [z123_31_l2,lt_f hk,cF,z123_31_k1]
theorem cf_send_1 {N:Nat} (s:List T16) (c:T15) (hs:s.length < N) (hb:s.length < 4611686018427387904):z55_32 N s c=some (s.any fun x=>x.Name.toList==c.Name.toList):=by
 unfold z55_32
 rw [ix_send_1 s c hs hb,bS,atI_ge]
theorem ix_items_1 {N:Nat} (s:List T8) (c:T15) (hs:s.length < N) (hb:s.length < 4611686018427387904):z65_34 N s c=some (atI (fun x=>x.name'.toList==c.Name.toList) s):=by
 unfold z65_34
 refine find_loop s (fun x=>x.name'.toList==c.Name.toList) (z65_34_l2 N s c) (fun n k x hx=>?_) (fun n k hk=>?_) hs
 ·simp only [z65_34_l2,lt_t (get_lt hx),cT,idx_nat,hx,bS,z64_33]
  rw [w64_suc (by have:=get_lt hx;omega)]
 ·simp only [z65_34_l2,lt_f hk,cF,z65_34_k1]
theorem cf_items_1 {N:Nat} (s:List T8) (c:T15) (hs:s.length < N) (hb:s.length < 4611686018427387904):z63_35 N s c=some (s.any fun x=>x.name'.toList==c.Name.toList):=by
 unfold z63_35
 rw [ix_items_1 s c hs hb,bS,atI_ge]
theorem ix_items_2 {N:Nat} (s:List T8) (c:T15) (hs:s.length < N) (hb:s.length < 4611686018427387904):z65_37 N s c=some (atI (fun x=>bif x.name'.toList==c.Name.toList then !x.hidden' else false) s):=by
 unfold z65_37
 refine find_loop s (fun x=>bif x.name'.toList==c.Name.toList then !x.hidden' else false) (z65_37_l2 N s c) (fun n k x hx=>?_) (fun n k hk=>?_) hs
 ·simp only [z65_37_l2,lt_t (get_lt hx),cT,idx_nat,hx,bS,z66_36]
  rw [w64_suc (by have:=get_lt hx;omega)]
  cases (x.name'.toList==c.Name.toList)<;>rfl
 ·simp only [z65_37_l2,lt_f hk,cF,z65_37_k1]
theorem ix_call_1 {N:Nat} (s:List T17) (c:T15) (hs:s.length < N) (hb:s.length < 4611686018427387904):z53_39 N s c=some (atI (fun x=>x.Name.toList==c.Name.toList) s):=by
 unfold z53_39
 refine find_loop s (fun x=>x.Name.toList==c.Name.toList) (z53_39_l2 N s c) (fun n k x hx=>?_) (fun n k hk=>?_) hs
 ·simp only [z53_39_l2,lt_t (get_lt hx),cT,idx_nat,hx,bS,z128_38]
  rw [w64_suc (by have:=get_lt hx;omega)]
 ·simp only [z53_39_l2,lt_f hk,cF,z53_39_k1]
theorem ix_chains_1 {N:Nat} (s:List T17) (c:T17) (hs:s.length < N) (hb:s.length < 4611686018427387904):z53_41 N s c=some (atI (fun x=>x.Name.toList==c.Name.toList) s):=by
 unfold z53_41
 refine find_loop s (fun x=>x.Name.toList==c.Name.toList) (z53_41_l2 N s c) (fun n k x hx=>?_) (fun n k hk=>?_) hs
 ·simp only [z53_41_l2,lt_t (get_lt hx),cT,idx_nat,hx,bS,z68_40]
  rw [w64_suc (by have:=get_lt hx;omega)]
 ·simp only [z53_41_l2,lt_f hk,cF,z53_41_k1]
theorem ix_chains_2_1 {N:Nat} (s:List T17) (c:ByteArray) (hs:s.length < N) (hb:s.length < 4611686018427387904):z53_43 N s c=some (atI (fun x=>x.Name.toList==c.toList) s):=by
 unfold z53_43
 refine find_loop s (fun x=>x.Name.toList==c.toList) (z53_43_l2 N s c) (fun n k x hx=>?_) (fun n k hk=>?_) hs
 ·simp only [z53_43_l2,lt_t (get_lt hx),cT,idx_nat,hx,bS,z74_42]
  rw [w64_suc (by have:=get_lt hx;omega)]
 ·simp only [z53_43_l2,lt_f hk,cF,z53_43_k1]
theorem cf_chains_2_1 {N:Nat} (s:List T17) (c:ByteArray) (hs:s.length < N) (hb:s.length < 4611686018427387904):z22_44 N s c=some (s.any fun x=>x.Name.toList==c.toList):=by
 unfold z22_44
 rw [ix_chains_2_1 s c hs hb,bS,atI_ge]
theorem ix_chains_2 {N:Nat} (s:List ByteArray) (c:T7) (hs:s.length < N) (hb:s.length < 4611686018427387904) (ha:c.all'.length < N) (hab:c.all'.length < 4611686018427387904):z131_46 N s c=some (atI (fun x => !(c.all'.any fun q=>q.Name.toList==x.toList)) s):=by
 unfold z131_46
 refine find_loop s (fun x => !(c.all'.any fun q=>q.Name.toList==x.toList)) (z131_46_l2 N s c) (fun n k x hx=>?_) (fun n k hk=>?_) hs
 ·simp only [z131_46_l2,lt_t (get_lt hx),cT,idx_nat,hx,bS,z73_45,cf_chains_2_1 c.all' x ha hab]
  rw [w64_suc (by have:=get_lt hx;omega)]
 ·simp only [z131_46_l2,lt_f hk,cF,z131_46_k1]
end Gp
end
section
namespace Gp
open Go Go.Kx Gx
def ndp:List ByteArray→List ByteArray→Prop
 | _,[]=>True
 | cs,a::r=>a ∉ cs∧ndp (cs++[a]) r
theorem ndp_app:∀ (ns bs cs:List ByteArray),ndp cs (ns++bs)↔ndp cs ns∧ndp (cs++ns) bs
 | [],bs,cs=>by simp [ndp]
 | a::r,bs,cs=>by
  simp only [List.cons_append,ndp,ndp_app r bs (cs++[a]),and_assoc,aA,List.nil_append]
structure Nt (c:T7) (P:Prop) (ns:List ByteArray) (n:Nat) (c':T7):Prop where
 all:c'.all'=c.all'
 p:c'.p'=c.p'
 len:c'.calls'.length≤c.calls'.length+n
 err:c'.out'.Err=0↔c.out'.Err=0∧P∧ndp c.calls' ns
 calls:c'.out'.Err=0→c'.calls'=c.calls'++ns
 st:c.out'.Err≠0→c'.out'=c.out'
def Ck (o:Option T7) (c:T7) (P:Prop) (ns:List ByteArray) (n:Nat):Prop:=∃ c',o=some c'∧Nt c P ns n c'
theorem Ck.iff {o c P Q ns n} (h:Ck o c P ns n) (k:P↔Q):Ck o c Q ns n:=by
 obtain ⟨c',e,g⟩:=h
 exact ⟨c',e,g.all,g.p,g.len,by rw [g.err,k],g.calls,g.st⟩
theorem Ck.le {o c P ns n m} (h:Ck o c P ns n) (k:n≤m):Ck o c P ns m:=by
 obtain ⟨c',e,g⟩:=h
 exact ⟨c',e,g.all,g.p,Nat.le_trans g.len (by omega),g.err,g.calls,g.st⟩
theorem Ck.skip (c:T7):Ck (some c) c True [] 0:=⟨c,rfl,rfl,rfl,Nat.le_refl _,by simp [ndp],by simp,fun _=>rfl⟩
theorem Ck.note {N:Nat} (c:T7) (nm:ByteArray) {e:Int} (he:e≠0) (ns:List ByteArray) (n:Nat):Ck (z24 N c nm e) c False ns n:=by
 unfold z24
 by_cases h:c.out'.Err=0
 ·rw [show (c.out'.Err==(0:Int))=true by simpa using h,cT]
  exact ⟨_,rfl,rfl,rfl,Nat.le_add_right _ _,by simp [he],fun q=>absurd q he,fun q=>absurd h q⟩
 ·rw [show (c.out'.Err==(0:Int))=false by simpa using h,cF]
  exact ⟨_,rfl,rfl,rfl,Nat.le_add_right _ _,by simp [h],fun q=>absurd q h,fun _=>rfl⟩
theorem Nt.seq {c P ns n c1 Q bs m c2} (g:Nt c P ns n c1) (g2:Nt c1 Q bs m c2):Nt c (P∧Q) (ns++bs) (n+m) c2:=by
 refine ⟨by rw [g2.all,g.all],by rw [g2.p,g.p],Nat.le_trans g2.len (by have:=g.len;omega),?_,fun h0=>?_,fun h=>?_⟩
 ·rw [g2.err,g.err,ndp_app]
  constructor
  ·rintro ⟨⟨q1,q2,q3⟩,q4,q5⟩
   rw [g.calls (g.err.2 ⟨q1,q2,q3⟩)] at q5
   exact ⟨q1,⟨q2,q4⟩,q3,q5⟩
  ·rintro ⟨q1,⟨q2,q4⟩,q3,q5⟩
   refine ⟨⟨q1,q2,q3⟩,q4,?_⟩
   rw [g.calls (g.err.2 ⟨q1,q2,q3⟩)]
   exact q5
 ·rw [g2.calls h0,g.calls (g2.err.1 h0).1,aA]
 ·have h1:=g.st h
  rw [g2.st (by rw [h1];exact h),h1]
theorem Ck.seq {o:Option T7} {f:T7→Option T7} {c P Q ns bs n m} (h:Ck o c P ns n)
  (k:∀ c1,c1.all'=c.all'→c1.p'=c.p'→c1.calls'.length≤c.calls'.length+n→Ck (f c1) c1 Q bs m):Ck (o.bind f) c (P∧Q) (ns++bs) (n+m):=by
 obtain ⟨c1,e,g⟩:=h
 obtain ⟨c2,e2,g2⟩:=k c1 g.all g.p g.len
 exact ⟨c2,by rw [e];exact e2,g.seq g2⟩
theorem Nt.iff {c P Q ns n c'} (g:Nt c P ns n c') (k:P↔Q):Nt c Q ns n c':=⟨g.all,g.p,g.len,by rw [g.err,k],g.calls,g.st⟩
theorem Ck.test {N:Nat} {b:Bool} {c:T7} {nm:ByteArray} {e:Int} (he:e≠0):Ck (bif b then z24 N c nm e else some c) c (b=false) [] 0:=by
 cases b with
 | true=>exact (Ck.note (N:=N) c nm he [] 0).iff (by simp)
 | false=>exact (Ck.skip c).iff (by simp)
theorem ck_loop {α γ:Type} (xs:List α) (F:Nat→T7→Int→γ) (fin:T7→γ) (lift:Option T7→(T7→γ)→γ) (hl:∀ c f,lift (some c) f=f c)
  (P:Nat→α→Prop) (ns:α→List ByteArray) (m:α→Nat) (a0:List T17) (p0:T17) (B:Nat)
  (h1:∀ (n k:Nat) x c,xs[k]? = some x→c.all'=a0→c.p'=p0→c.calls'.length+((xs.drop k).map m).sum≤B→∃ o,F (n+1) c (k:Int)=lift o (fun c1=>F n c1 ((k+1:Nat):Int))∧Ck o c (P k x) (ns x) (m x))
  (h2:∀ (n k:Nat) c,xs.length≤k→F (n+1) c (k:Int)=fin c) {N:Nat} (hN:xs.length < N) (c:T7) (ha:c.all'=a0) (hp:c.p'=p0) (hB:c.calls'.length+(xs.map m).sum≤B) :
  ∃ o,F N c (0:Int)=lift o fin∧Ck o c (∀ (k:Nat) x,xs[k]? = some x→P k x) (xs.flatMap ns) (xs.map m).sum:=by
 have key:∀ (l:List α) (k n:Nat) (c:T7),xs.drop k=l→l.length < n→c.all'=a0→c.p'=p0→c.calls'.length+(l.map m).sum≤B →
   ∃ o,F n c (k:Int)=lift o fin∧Ck o c (∀ (i:Nat) x,l[i]? = some x→P (k+i) x) (l.flatMap ns) (l.map m).sum:=by
  intro l
  induction l with
  | nil =>
   intro k n c h hn ha hp hB
   obtain ⟨n,rfl⟩:∃ m,n=m+1:=⟨n-1,by simp at hn;omega⟩
   refine ⟨some c,by rw [h2 n k c (drop_nil h),hl],?_⟩
   exact (Ck.skip c).iff (by simp)
  | cons x l ih =>
   intro k n c h hn ha hp hB
   obtain ⟨n,rfl⟩:∃ m,n=m+1:=⟨n-1,by simp at hn;omega⟩
   obtain ⟨a,e,d⟩:=drop_cons h
   obtain ⟨o1,q1,c1,q2,g⟩:=h1 n k x c e ha hp (by rw [h];exact hB)
   subst q2
   rw [hl] at q1
   rw [List.map_cons,List.sum_cons] at hB
   obtain ⟨o2,r1,r2⟩:=ih (k+1) n c1 d (by simp at hn;omega) (by rw [g.all,ha]) (by rw [g.p,hp]) (by have:=g.len;omega)
   refine ⟨o2,q1.trans r1,?_⟩
   obtain ⟨c2,e2,g2⟩:=r2
   refine ⟨c2,e2,(g.seq g2).iff ?_⟩
   constructor
   ·rintro ⟨q1,q2⟩ i y hy
    cases i with
    | zero=>simp only [List.getElem?_cons_zero,Option.some.injEq] at hy;subst hy;exact q1
    | succ i=>rw [List.getElem?_cons_succ] at hy;have:=q2 i y hy;rwa [show k+(i+1)=k+1+i by omega]
   ·intro q
    refine ⟨q 0 x rfl,fun i y hy=>?_⟩
    have:=q (i+1) y (by rw [List.getElem?_cons_succ];exact hy)
    rwa [show k+(i+1)=k+1+i by omega] at this
 have:=key xs 0 N c rfl hN ha hp hB
 simpa using this
end Gp
end
section
namespace Gp
open Go Go.Kx Gx
theorem bind_id {α:Type} (o:Option α):(o.bind fun x=>some x)=o:=by cases o<;>rfl
theorem lsl_tk {α:Type} {xs:List α} {k:Nat} (h:k≤xs.length):lsl xs none (some (k:Int))=some (xs.take k) :=
 lsl_to (List.take_append_drop k xs).symm (by rw [List.length_take];omega)
theorem role_ck {N:Nat} (c:T7) (l:List ByteArray) (k:Nat) (x:ByteArray) (hx:l[k]? = some x) (hl:l.length < N) (hlb:l.length < 4611686018427387904) (hr:c.p'.Roles.length < N) (hrb:c.p'.Roles.length < 4611686018427387904) :
  Ck (z62 N c l (k:Int)) c (x∈c.p'.Roles∧x ∉ l.take k) [] 0:=by
 have hk:=get_lt hx
 unfold z62 z25
 simp only [idx_nat,hx,bS,cont_eq _ hr hrb,lsl_tk (Nat.le_of_lt hk),bind_id]
 rw [cont_eq _ (by rw [List.length_take];omega) (by rw [List.length_take];omega)]
 simp only [bS]
 cases h1:inL x c.p'.Roles with
 | false =>
  simp only [Bool.not_false,cT]
  refine (Ck.note c x (by decide) [] 0).iff ?_
  have:¬ x∈c.p'.Roles:=fun h=>by rw [(inL_iff _ _).2 h] at h1;cases h1
  simp [this]
 | true =>
  simp only [Bool.not_true,cF]
  have h1:=(inL_iff _ _).1 h1
  cases h2:inL x (l.take k) with
  | true =>
   simp only [cT]
   refine (Ck.note c x (by decide) [] 0).iff ?_
   have:=(inL_iff _ _).1 h2
   simp [this]
  | false =>
   simp only [cF]
   refine (Ck.skip c).iff ?_
   have:¬ x∈l.take k:=fun h=>by rw [(inL_iff _ _).2 h] at h2;cases h2
   simp [this,h1]
def RolesOk (p:T17) (l:List ByteArray):Prop:=∀ (k:Nat) x,l[k]? = some x→x∈p.Roles∧x ∉ l.take k
def SendOk (p:T17) (x:T15):Prop:=RolesOk p (x.From::x.To)∧∃ m∈p.Messages,m.Name=x.Name
def CallOk (all:List T17) (p:T17) (x:T15):Prop:=∃ q,all.find? (fun q=>q.Name.toList==x.Name.toList)=some q∧q.Roles.length=x.To.length∧RolesOk p x.To
theorem sum_zero {α:Type} (xs:List α):(xs.map fun _=>0).sum=0:=by induction xs with
 | nil=>rfl
 | cons x l ih=>rw [List.map_cons,List.sum_cons,ih]
theorem flat_nil {α:Type} (xs:List α):(xs.flatMap fun _=>([]:List ByteArray))=[]:=by induction xs with
 | nil=>rfl
 | cons x l ih=>rw [List.flatMap_cons,ih];rfl
structure Sz (N:Nat) (c:T7):Prop where
 r:c.p'.Roles.length≤4194304
 m:c.p'.Messages.length≤4194304
 a:c.all'.length≤4194304
 n:8388609 < N
theorem Sz.of {N:Nat} {c c':T7} (h:Sz N c) (ha:c'.all'=c.all') (hp:c'.p'=c.p'):Sz N c':=⟨by rw [hp];exact h.r,by rw [hp];exact h.m,by rw [ha];exact h.a,h.n⟩
theorem send_ck {N:Nat} (c:T7) (x:T15) (hs:Sz N c) (hx:x.To.length≤4194304):Ck (z61 N c x) c (SendOk c.p' x) [] 0:=by
 have hN:=hs.n
 unfold z61
 rw [appL_some (by simp;omega),bS,List.singleton_append]
 obtain ⟨o,e,h⟩:=ck_loop (x.From::x.To) (fun n c i=>z61_l2 N x (x.From::x.To) n c.all' c.p'.Name c.p'.Roles c.p'.Messages c.p'.Body c.calls' c.out'.Protocol c.out'.Name c.out'.Err i)
  (fun c=>z61_k1 N x c.all' c.p'.Name c.p'.Roles c.p'.Messages c.p'.Body c.calls' c.out'.Protocol c.out'.Name c.out'.Err) Option.bind (fun _ _=>rfl)
  (fun k y=>y∈c.p'.Roles∧y ∉ (x.From::x.To).take k) (fun _=>[]) (fun _=>0) c.all' c.p' c.calls'.length
  (fun n k y c1 hy ha hp _=>⟨_,by
   simp only [z61_l2,lt_t (get_lt hy),cT]
   rw [w64_suc (by have:=get_lt hy;simp at this;omega)],by
   have:=role_ck (N:=N) c1 (x.From::x.To) k y hy (by simp;omega) (by simp;omega) (by rw [hp];have:=hs.r;omega) (by rw [hp];have:=hs.r;omega)
   rw [hp] at this;exact this⟩)
  (fun n k c1 hk=>by simp only [z61_l2,lt_f hk,cF]) (N:=N) (by simp;omega) c rfl rfl (by rw [sum_zero];omega)
 rw [sum_zero,flat_nil] at h
 refine Eq.mp (congrArg (fun o=>Ck o c _ _ _) e.symm) ?_
 refine (Ck.seq h (f:=fun c=>z61_k1 N x c.all' c.p'.Name c.p'.Roles c.p'.Messages c.p'.Body c.calls' c.out'.Protocol c.out'.Name c.out'.Err) (Q:=∃ m∈c.p'.Messages,m.Name=x.Name) (bs:=[]) (m:=0) (fun c1 ha hp _=>?_))
 unfold z61_k1
 have hm:=hs.m
 rw [cf_send_1 _ x (by rw [hp];omega) (by rw [hp];omega),bS]
 simp only [bind_id]
 refine (Ck.test (N:=N) (c:=c1) (by decide)).iff ?_
 rw [hp,← Bool.not_eq_true',Bool.not_not,List.any_eq_true]
 constructor
 ·rintro ⟨m,h1,h2⟩;exact ⟨m,h1,seq'.1 h2⟩
 ·rintro ⟨m,h1,h2⟩;exact ⟨m,h1,seq'.2 h2⟩
theorem atI_find {α:Type} (p:α→Bool) (xs:List α):(atI p xs=-1∧xs.find? p=none)∨∃ (i:Nat) (x:α),atI p xs=(i:Int)∧xs[i]? = some x∧xs.find? p=some x:=by
 unfold atI
 cases h:xs.findIdx? p with
 | none =>
  refine .inl ⟨rfl,?_⟩
  rw [List.findIdx?_eq_none_iff] at h
  rw [List.find?_eq_none]
  exact fun x hx=>by rw [h x hx];simp
 | some i =>
  rw [List.findIdx?_eq_some_iff_getElem] at h
  obtain ⟨h1,h2,h3⟩:=h
  refine .inr ⟨i,xs[i],rfl,List.getElem?_eq_getElem h1,?_⟩
  rw [List.find?_eq_some_iff_getElem]
  exact ⟨h2,i,h1,rfl,fun j hj=>by have:=h3 j hj;simpa using this⟩
theorem call_ck {N:Nat} (c:T7) (x:T15) (hs:Sz N c) (hx:x.To.length≤4194304) (hc:c.calls'.length≤4194304):Ck (z67 N c x) c (CallOk c.all' c.p' x) [x.As] 1:=by
 have hN:=hs.n
 have ha:=hs.a
 have k1:∀ c1:T7,c1.calls'.length≤4194304→Ck (z67_k1 N x c1.all' c1.p'.Name c1.p'.Roles c1.p'.Messages c1.p'.Body c1.calls' c1.out'.Protocol c1.out'.Name c1.out'.Err) c1 True [x.As] 1:=by
  intro c1 h1
  unfold z67_k1
  rw [cont_eq _ (by omega) (by omega),bS]
  cases h2:inL x.As c1.calls' with
  | true =>
   have h2:=(inL_iff _ _).1 h2
   simp only [cT]
   obtain ⟨c2,e,g⟩:=Ck.note (N:=N) c1 x.As (e:=9) (by decide) [] 0
   rw [show (⟨c1.all',⟨c1.p'.Name,c1.p'.Roles,c1.p'.Messages,c1.p'.Body⟩,c1.calls',⟨c1.out'.Protocol,c1.out'.Name,c1.out'.Err⟩⟩:T7)=c1 from rfl,e,bS]
   have hl:=g.len
   rw [appL_some (by simp;omega),bS]
   have hne:¬ c2.out'.Err=0:=fun h=>(g.err.1 h).2.1
   refine ⟨_,rfl,g.all,g.p,by simp;omega,⟨fun h=>absurd h hne,fun h=>absurd h2 h.2.2.1⟩,fun h=>absurd h hne,g.st⟩
  | false =>
   have h2:¬ x.As∈c1.calls':=fun h=>by rw [(inL_iff _ _).2 h] at h2;cases h2
   simp only [cF]
   rw [appL_some (by simp;omega),bS]
   exact ⟨_,rfl,rfl,rfl,by simp,by simp [ndp,h2],fun _=>rfl,fun _=>rfl⟩
 have k3:∀ c1:T7,c1.all'=c.all'→c1.p'=c.p'→c1.calls'.length≤4194304→Ck (z67_k3 N x c1.all' c1.p'.Name c1.p'.Roles c1.p'.Messages c1.p'.Body c1.calls' c1.out'.Protocol c1.out'.Name c1.out'.Err) c1 (RolesOk c.p' x.To) [x.As] 1:=by
  intro c1 ha1 hp1 h1
  unfold z67_k3
  obtain ⟨o,e,h⟩:=ck_loop x.To (fun n c i=>z67_l2 N x n c.all' c.p'.Name c.p'.Roles c.p'.Messages c.p'.Body c.calls' c.out'.Protocol c.out'.Name c.out'.Err i)
   (fun c=>z67_k1 N x c.all' c.p'.Name c.p'.Roles c.p'.Messages c.p'.Body c.calls' c.out'.Protocol c.out'.Name c.out'.Err) Option.bind (fun _ _=>rfl)
   (fun k y=>y∈c.p'.Roles∧y ∉ x.To.take k) (fun _=>[]) (fun _=>0) c.all' c.p' c1.calls'.length
   (fun n k y c1 hy ha hp _=>⟨_,by
    simp only [z67_l2,lt_t (get_lt hy),cT]
    rw [w64_suc (by have:=get_lt hy;omega)],by
    have:=role_ck (N:=N) c1 x.To k y hy (by omega) (by omega) (by rw [hp];have:=hs.r;omega) (by rw [hp];have:=hs.r;omega)
    rw [hp] at this;exact this⟩)
   (fun n k c1 hk=>by simp only [z67_l2,lt_f hk,cF]) (N:=N) (by omega) c1 ha1 hp1 (by rw [sum_zero];omega)
  rw [sum_zero,flat_nil] at h
  refine Eq.mp (congrArg (fun o=>Ck o c1 _ _ _) e.symm) ?_
  refine (Ck.seq h (f:=fun c=>z67_k1 N x c.all' c.p'.Name c.p'.Roles c.p'.Messages c.p'.Body c.calls' c.out'.Protocol c.out'.Name c.out'.Err) (Q:=True) (bs:=[x.As]) (m:=1) (fun c2 ha2 hp2 hl=>k1 c2 (by omega))).iff ?_
  exact ⟨fun q=>q.1,fun q=>⟨q,trivial⟩⟩
 unfold z67
 rw [ix_call_1 _ x (by omega) (by omega),bS]
 rcases atI_find (fun q:T17=>q.Name.toList==x.Name.toList) c.all' with ⟨h1,h2⟩ | ⟨i,q,h1,h2,h3⟩
 ·rw [h1,show decide ((-1:Int) < 0)=true from rfl,cT,bind_id]
  refine (Ck.note c x.Name (by decide) [x.As] 1).iff ?_
  simp only [false_iff]
  rintro ⟨q,hq,_⟩
  rw [h2] at hq;cases hq
 ·rw [h1,show decide ((i:Int) < 0)=false by simp,cF,idx_nat,h2,bS]
  by_cases hq:q.Roles.length=x.To.length
  ·rw [show ((q.Roles.length:Int) != (x.To.length:Int))=false by simp;omega,cF]
   refine (k3 c rfl rfl hc).iff ⟨fun g=>⟨q,h3,hq,g⟩,?_⟩
   rintro ⟨q',hq',_,g⟩;exact g
  ·rw [show ((q.Roles.length:Int) != (x.To.length:Int))=true by simp;omega,cT]
   refine (Ck.seq (Ck.note c x.Name (e:=1) (by decide) [] 0) (Q:=RolesOk c.p' x.To) (bs:=[x.As]) (m:=1) (fun c1 ha1 hp1 hl=>k3 c1 ha1 hp1 (by omega))).iff ?_
   constructor
   ·exact fun g=>g.1.elim
   ·rintro ⟨q',hq',e,_⟩
    rw [h3] at hq';cases hq';exact absurd e hq
end Gp
end
section
namespace Gp
open Go Go.Kx Gx
def tlL (b:Bool) (ls:List T8):List T8:=ls.map fun o=>⟨o.name',o.tail' && b,o.hidden'⟩
def hdL (b:Bool) (ls:List T8):List T8:=ls.map fun o=>⟨o.name',o.tail',o.hidden' || b⟩
def AgainOk (ls:List T8) (n:ByteArray):Prop:=∃ o,ls.find? (fun o=>bif o.name'.toList==n.toList then !o.hidden' else false)=some o∧o.tail'=true
def HereOk (all:List T17) (p:T17) (ls:List T8) (x:T15):Prop :=
 (x.Kind=1→SendOk p x)∧(x.Kind=2→x.From∈p.Roles)∧(x.Kind=3→∀ o∈ls,o.name'≠x.Name)∧(x.Kind=4→AgainOk ls x.Name)∧(x.Kind=6→CallOk all p x)
def innL (ls:List T8) (x:T15):List T8:=hdL (x.Kind==5) (if x.Kind=3 then ls++[⟨x.Name,true,false⟩] else ls)
mutual
def okI (all:List T17) (p:T17):List T8→T15→Prop
 | ls,⟨k,f,t,n,a,x,b⟩=>HereOk all p ls ⟨k,f,t,n,a,x,b⟩∧okLL all p (innL ls ⟨k,f,t,n,a,x,b⟩) b
def okL (all:List T17) (p:T17):List T8→List T15→Prop
 | _,[]=>True
 | ls,x::l=>okI all p (tlL l.isEmpty ls) x∧okL all p ls l
def okLL (all:List T17) (p:T17):List T8→List (List T15)→Prop
 | _,[]=>True
 | ls,b::r=>okL all p ls b∧okLL all p ls r
end
theorem okI_eq (all p ls) (x:T15):okI all p ls x↔HereOk all p ls x∧okLL all p (innL ls x) x.Blocks:=by cases x;simp only [okI]
def hereA (x:T15):List ByteArray:=if x.Kind=6 then [x.As] else []
mutual
def asI:T15→List ByteArray
 | ⟨k,f,t,n,a,x,b⟩=>hereA ⟨k,f,t,n,a,x,b⟩++asLL b
def asL:List T15→List ByteArray
 | []=>[]
 | x::l=>asI x++asL l
def asLL:List (List T15)→List ByteArray
 | []=>[]
 | b::r=>asL b++asLL r
end
theorem asI_eq (x:T15):asI x=hereA x++asLL x.Blocks:=by cases x;simp only [asI]
theorem asL_flat:∀ l,asL l=l.flatMap asI
 | []=>rfl
 | x::l=>by simp only [asL,List.flatMap_cons,asL_flat l]
theorem asLL_flat:∀ l,asLL l=l.flatMap asL
 | []=>rfl
 | x::l=>by simp only [asLL,List.flatMap_cons,asLL_flat l]
theorem cL_sum:∀ l,cL l=(l.map cI).sum
 | []=>rfl
 | x::l=>by simp only [cL,List.map_cons,List.sum_cons,cL_sum l]
theorem cLL_sum:∀ l,cLL l=(l.map cL).sum
 | []=>rfl
 | x::l=>by simp only [cLL,List.map_cons,List.sum_cons,cLL_sum l]
theorem okL_pt (all p ls):∀ l:List T15,okL all p ls l↔∀ (k:Nat) x,l[k]? = some x→okI all p (tlL (k+1==l.length) ls) x
 | []=>by simp [okL]
 | x::l=>by
  simp only [okL]
  rw [okL_pt all p ls l]
  constructor
  ·rintro ⟨h1,h2⟩ k y hy
   cases k with
   | zero =>
    simp only [List.getElem?_cons_zero,Option.some.injEq] at hy
    subst hy
    have:(0+1==(x::l).length)=l.isEmpty:=by cases l<;>simp
    rw [this];exact h1
   | succ k =>
    rw [List.getElem?_cons_succ] at hy
    have:=h2 k y hy
    have e:(k+1+1==(x::l).length)=(k+1==l.length):=by simp
    rw [e];exact this
  ·intro h
   refine ⟨?_,fun k y hy=>?_⟩
   ·have:=h 0 x rfl
    have e:(0+1==(x::l).length)=l.isEmpty:=by cases l<;>simp
    rw [e] at this;exact this
   ·have:=h (k+1) y (by rw [List.getElem?_cons_succ];exact hy)
    have e:(k+1+1==(x::l).length)=(k+1==l.length):=by simp
    rw [e] at this;exact this
theorem okLL_pt (all p ls):∀ l:List (List T15),okLL all p ls l↔∀ (k:Nat) b,l[k]? = some b→okL all p ls b
 | []=>by simp [okLL]
 | x::l=>by
  simp only [okLL]
  rw [okLL_pt all p ls l]
  constructor
  ·rintro ⟨h1,h2⟩ k y hy
   cases k with
   | zero=>simp only [List.getElem?_cons_zero,Option.some.injEq] at hy;subst hy;exact h1
   | succ k=>rw [List.getElem?_cons_succ] at hy;exact h2 k y hy
  ·exact fun h=>⟨h 0 x rfl,fun k y hy=>h (k+1) y (by rw [List.getElem?_cons_succ];exact hy)⟩
theorem map_loop {α γ:Type} (g:α→α) (xs:List α) (F:Nat→List α→Int→γ) (fin:List α→γ)
  (h1:∀ (n k:Nat) v x,k < xs.length→v[k]? = some x→F (n+1) v (k:Int)=F n (v.set k (g x)) ((k+1:Nat):Int))
  (h2:∀ (n k:Nat) v,xs.length≤k→F (n+1) v (k:Int)=fin v) {N:Nat} (hN:xs.length < N):F N xs (0:Int)=fin (xs.map g):=by
 have key:∀ (B A:List α) (n:Nat),A.length+B.length=xs.length→B.length < n→F n (A++B) (A.length:Int)=fin (A++B.map g):=by
  intro B
  induction B with
  | nil =>
   intro A n h hn
   obtain ⟨n,rfl⟩:∃ m,n=m+1:=⟨n-1,by simp at hn;omega⟩
   rw [h2 n _ _ (by simp at h;omega)];rfl
  | cons x B ih =>
   intro A n h hn
   obtain ⟨n,rfl⟩:∃ m,n=m+1:=⟨n-1,by simp at hn;omega⟩
   rw [h1 n A.length _ x (by simp at h;omega) (get_mid A x B rfl),set_mid A x (g x) B rfl]
   have:=ih (A++[g x]) n (by simp at h ⊢;omega) (by simp at hn;omega)
   rw [aA,List.singleton_append,lA,List.length_singleton,aA,List.singleton_append] at this
   rw [this,List.map_cons]
 have:=key xs [] N (by simp) hN
 simpa using this
theorem tl_len (b ls):(tlL b ls).length=ls.length:=by simp [tlL]
theorem hd_len (b ls):(hdL b ls).length=ls.length:=by simp [hdL]
set_option maxHeartbeats 1000000 in
theorem items_ck:∀ (N:Nat) (c:T7) (l:List T15) (ls:List T8),Sz 8388610 c→8388611+dL l≤N→l.length≤4194304→bL l→ls.length+dL l≤4194304→c.calls'.length+cL l≤4194304 →
  Ck (z28 N c l ls) c (okL c.all' c.p' ls l) (asL l) (cL l)
 | 0,_,_,_,_,h,_,_,_,_=>by omega
 | N+1,c,l,ls,hs,h,hlen,hb,hls,hc=>by
  show Ck (z28_b N (z28 N) c l ls) _ _ _ _
  unfold z28_b
  have hN:8388609 < N:=by omega
  have hsz:∀ c1:T7,c1.all'=c.all'→c1.p'=c.p'→Sz N c1:=fun c1 ha hp=>⟨by rw [hp];exact hs.r,by rw [hp];exact hs.m,by rw [ha];exact hs.a,hN⟩
  have hsz2:∀ c1:T7,c1.all'=c.all'→c1.p'=c.p'→Sz 8388610 c1:=fun c1 ha hp=>hs.of ha hp
  -- the blocks of one item
  have k7:∀ (k:Nat) (x:T15) (c1:T7) (ms:List T8) (ag),l[k]? = some x→c1.all'=c.all'→c1.p'=c.p'→ms.length+dLL x.Blocks≤4194304→c1.calls'.length+cLL x.Blocks≤4194304 →
    ∃ o,z28_k7 N (z28 N) (k:Int) ag x c1.all' c1.p'.Name c1.p'.Roles c1.p'.Messages c1.p'.Body c1.calls' c1.out'.Protocol c1.out'.Name c1.out'.Err ms =
     o.bind (fun c2:T7=>ag c2.all' c2.p'.Name c2.p'.Roles c2.p'.Messages c2.p'.Body c2.calls' c2.out'.Protocol c2.out'.Name c2.out'.Err ((k+1:Nat):Int)) ∧
     Ck o c1 (okLL c.all' c.p' (hdL (x.Kind==5) ms) x.Blocks) (asLL x.Blocks) (cLL x.Blocks):=by
   intro k x c1 ms ag hx ha hp hms hcc
   have hm:=List.mem_of_getElem? hx
   have hbx:=(bI_eq _).1 (bL_mem hb hm)
   have hdx:=dL_mem hm
   rw [dI_eq] at hdx
   have hk:=get_lt hx
   unfold z28_k7
   rw [map_loop (fun o:T8=>(⟨o.name',o.tail',o.hidden' || (x.Kind==5)⟩:T8)) ms
    (fun n v i=>z28_l6 N (z28 N) (k:Int) ag x c1.all' c1.p'.Name c1.p'.Roles c1.p'.Messages c1.p'.Body c1.calls' c1.out'.Protocol c1.out'.Name c1.out'.Err ms n v i)
    (fun v=>z28_k5 N (z28 N) (k:Int) ag x c1.all' c1.p'.Name c1.p'.Roles c1.p'.Messages c1.p'.Body c1.calls' c1.out'.Protocol c1.out'.Name c1.out'.Err v)
    (fun n j v o hj ho=>by
     simp only [z28_l6,lt_t hj,cT,idx_nat,ho,bS,setL'_nat]
     rw [w64_suc (by omega)]
     cases o.hidden'<;>simp)
    (fun n j v hj=>by simp only [z28_l6,lt_f hj,cF]) (N:=N) (by omega)]
   unfold z28_k5
   obtain ⟨o,e,g⟩:=ck_loop x.Blocks (fun n c i=>z28_l4 (z28 N) (k:Int) ag x (hdL (x.Kind==5) ms) n c.all' c.p'.Name c.p'.Roles c.p'.Messages c.p'.Body c.calls' c.out'.Protocol c.out'.Name c.out'.Err i)
    (fun c=>z28_k3 (k:Int) ag c.all' c.p'.Name c.p'.Roles c.p'.Messages c.p'.Body c.calls' c.out'.Protocol c.out'.Name c.out'.Err) Option.bind (fun _ _=>rfl)
    (fun _ b=>okL c.all' c.p' (hdL (x.Kind==5) ms) b) asL cL c.all' c.p' 4194304
    (fun n j b c2 hj ha2 hp2 hc2=>by
     rw [drop_get hj,List.map_cons,List.sum_cons] at hc2
     have hmb:=List.mem_of_getElem? hj
     have hbb:=bLL_mem hbx.2.2 hmb
     have hdb:=dLL_mem hmb
     have:=items_ck N c2 b (hdL (x.Kind==5) ms) (hsz2 c2 ha2 hp2) (by omega) hbb.1 hbb.2 (by rw [hd_len];omega) (by omega)
     rw [ha2,hp2] at this
     refine ⟨_,?_,this⟩
     simp only [z28_l4,lt_t (get_lt hj),cT,idx_nat,hj,bS]
     rw [w64_suc (by have:=get_lt hj;omega)])
    (fun n j c2 hj=>by simp only [z28_l4,lt_f hj,cF]) (N:=N) (by omega) c1 ha hp (by rw [← cLL_sum];omega)
   rw [← asLL_flat,← cLL_sum] at g
   refine ⟨o,e.trans ?_,g.iff (okLL_pt _ _ _ _).symm⟩
   congr 1
   funext c2
   unfold z28_k3
   rw [w64_suc (by omega)]
  -- one item
  have k8:∀ (k:Nat) (x:T15) (c1:T7) (ms:List T8) (ag),l[k]? = some x→c1.all'=c.all'→c1.p'=c.p'→ms.length+dI x≤4194304→c1.calls'.length+cI x≤4194304 →
    ∃ o,z28_k8 N (z28 N) c1.all' c1.p'.Name c1.p'.Roles c1.p'.Messages c1.p'.Body c1.calls' c1.out'.Protocol c1.out'.Name c1.out'.Err (k:Int) ag x ms =
     o.bind (fun c2:T7=>ag c2.all' c2.p'.Name c2.p'.Roles c2.p'.Messages c2.p'.Body c2.calls' c2.out'.Protocol c2.out'.Name c2.out'.Err ((k+1:Nat):Int)) ∧
     Ck o c1 (okI c.all' c.p' ms x) (asI x) (cI x):=by
   intro k x c1 ms ag hx ha hp hms hcc
   have hm:=List.mem_of_getElem? hx
   have hbx:=(bI_eq _).1 (bL_mem hb hm)
   rw [dI_eq] at hms
   rw [cI_eq] at hcc
   have hS:=hsz c1 ha hp
   have hto:=hbx.1
   -- behind a first step
   have fin:∀ (o1:Option T7) (P:Prop) (bs:List ByteArray) (m:Nat) (ns:List T8),Ck o1 c1 P bs m→bs=hereA x→m≤1→ns.length+dLL x.Blocks≤4194304→(P↔HereOk c.all' c.p' ms x)→hdL (x.Kind==5) ns=innL ms x →
     ∃ o,(o1.bind fun c2:T7=>z28_k7 N (z28 N) (k:Int) ag x c2.all' c2.p'.Name c2.p'.Roles c2.p'.Messages c2.p'.Body c2.calls' c2.out'.Protocol c2.out'.Name c2.out'.Err ns) =
      o.bind (fun c2:T7=>ag c2.all' c2.p'.Name c2.p'.Roles c2.p'.Messages c2.p'.Body c2.calls' c2.out'.Protocol c2.out'.Name c2.out'.Err ((k+1:Nat):Int))∧Ck o c1 (okI c.all' c.p' ms x) (asI x) (cI x):=by
    rintro o1 P bs m ns ⟨c2,rfl,g⟩ rfl hm1 hns hP hin
    obtain ⟨o,e,c3,e3,g3⟩:=k7 k x c2 ns ag hx (by rw [g.all,ha]) (by rw [g.p,hp]) hns (by have:=g.len;omega)
    refine ⟨o,e,?_⟩
    have h4:=(g.seq g3).iff (Q:=okI c.all' c.p' ms x) (by rw [okI_eq,hP,hin])
    rw [← asI_eq] at h4
    exact Ck.le ⟨c3,e3,h4⟩ (by rw [cI_eq];omega)
   have none6:x.Kind≠6→([]:List ByteArray)=hereA x:=fun h6=>by unfold hereA;rw [if_neg h6]
   have inn:x.Kind≠3→hdL (x.Kind==5) ms=innL ms x:=fun h3=>by unfold innL;rw [if_neg h3]
   unfold z28_k8
   by_cases h1:x.Kind=1
   ·rw [show (x.Kind==(1:Int))=true by simpa using h1,cT]
    refine fin _ _ _ _ ms (send_ck c1 x hS hto) (none6 (by omega)) (by omega) (by omega) ?_ (inn (by omega))
    rw [hp];unfold HereOk;constructor
    ·exact fun q=>⟨fun _=>q,by omega,by omega,by omega,by omega⟩
    ·exact fun q=>q.1 h1
   rw [show (x.Kind==(1:Int))=false by simpa using h1,cF]
   by_cases h2:x.Kind=2
   ·rw [show (x.Kind==(2:Int))=true by simpa using h2,cT]
    have hrole:=role_ck (N:=N) c1 [x.From] 0 x.From rfl (by simp;omega) (by simp) (by have:=hS.r;omega) (by have:=hS.r;omega)
    refine fin _ _ _ _ ms hrole (none6 (by omega)) (by omega) (by omega) ?_ (inn (by omega))
    rw [hp];unfold HereOk;constructor
    ·exact fun q=>⟨by omega,fun _=>q.1,by omega,by omega,by omega⟩
    ·exact fun q=>⟨q.2.1 h2,by simp⟩
   rw [show (x.Kind==(2:Int))=false by simpa using h2,cF]
   by_cases h3:x.Kind=3
   ·rw [show (x.Kind==(3:Int))=true by simpa using h3,cT,cf_items_1 ms x (by omega) (by omega),bS,appL_some (by simp;omega)]
    simp only [bS]
    have:=fin (bif (ms.any fun o=>o.name'.toList==x.Name.toList) then z24 N c1 x.Name 9 else some c1) _ _ _ (ms++[⟨x.Name,true,false⟩]) (Ck.test (by decide)) (none6 (by omega)) (by omega) (by simp;omega) (by
     unfold HereOk
     rw [List.any_eq_false]
     constructor
     ·exact fun q=>⟨by omega,by omega,fun _ o ho e=>q o ho (by rw [e];simp),by omega,by omega⟩
     ·exact fun q o ho e=>q.2.2.1 h3 o ho (seq'.1 e)) (by unfold innL;rw [if_pos h3])
    obtain ⟨o,e,g⟩:=this
    refine ⟨o,?_,g⟩
    rw [← e]
    cases (ms.any fun o=>o.name'.toList==x.Name.toList)<;>rfl
   rw [show (x.Kind==(3:Int))=false by simpa using h3,cF]
   by_cases h4:x.Kind=4
   ·rw [show (x.Kind==(4:Int))=true by simpa using h4,cT,ix_items_2 ms x (by omega) (by omega),bS]
    have hH:∀ P:Prop,(P↔AgainOk ms x.Name)→(P↔HereOk c.all' c.p' ms x):=fun P q=>by
     rw [q];unfold HereOk;constructor
     ·exact fun q=>⟨by omega,by omega,by omega,fun _=>q,by omega⟩
     ·exact fun q=>q.2.2.2.1 h4
    rcases atI_find (fun o:T8=>bif o.name'.toList==x.Name.toList then !o.hidden' else false) ms with ⟨q1,q2⟩ | ⟨i,o,q1,q2,q3⟩
    ·rw [q1,show decide ((-1:Int) < 0)=true from rfl,cT]
     refine fin _ _ _ _ ms (Ck.note c1 x.Name (by decide) [] 0) (none6 (by omega)) (by omega) (by omega) (hH _ ?_) (inn (by omega))
     simp only [false_iff]
     rintro ⟨o,ho,_⟩;rw [q2] at ho;cases ho
    ·rw [q1,show decide ((i:Int) < 0)=false by simp,cF,idx_nat,q2,bS]
     have:=fin (bif !o.tail' then z24 N c1 x.Name 7 else some c1) _ _ _ ms (Ck.test (by decide)) (none6 (by omega)) (by omega) (by omega) (hH _ (by
      unfold AgainOk
      constructor
      ·exact fun q=>⟨o,q3,by simpa using q⟩
      ·rintro ⟨o',ho',ht⟩;rw [q3] at ho';cases ho';simp [ht])) (inn (by omega))
     obtain ⟨o2,e,g⟩:=this
     refine ⟨o2,?_,g⟩
     rw [← e]
     cases o.tail'<;>rfl
   rw [show (x.Kind==(4:Int))=false by simpa using h4,cF]
   by_cases h6:x.Kind=6
   ·rw [show (x.Kind==(6:Int))=true by simpa using h6,cT]
    refine fin _ _ _ _ ms (call_ck c1 x hS hto (by omega)) (by unfold hereA;rw [if_pos h6]) (by omega) (by omega) ?_ (inn (by omega))
    rw [hp,ha];unfold HereOk;constructor
    ·exact fun q=>⟨by omega,by omega,by omega,by omega,fun _=>q⟩
    ·exact fun q=>q.2.2.2.2 h6
   ·rw [show (x.Kind==(6:Int))=false by simpa using h6,cF]
    have:=fin (some c1) _ _ _ ms (Ck.skip c1) (none6 h6) (by omega) (by omega) (by
     unfold HereOk;constructor
     ·exact fun q=>⟨by omega,by omega,by omega,by omega,by omega⟩
     ·exact fun _=>trivial) (inn h3)
    exact this
  obtain ⟨o,e,g⟩:=ck_loop l (fun n c i=>z28_l2 N (z28 N) l ls n c.all' c.p'.Name c.p'.Roles c.p'.Messages c.p'.Body c.calls' c.out'.Protocol c.out'.Name c.out'.Err i)
   (fun c=>z28_k1 c.all' c.p'.Name c.p'.Roles c.p'.Messages c.p'.Body c.calls' c.out'.Protocol c.out'.Name c.out'.Err) Option.bind (fun _ _=>rfl)
   (fun k x=>okI c.all' c.p' (tlL (k+1==l.length) ls) x) asI cI c.all' c.p' 4194304
   (fun n k x c1 hx ha hp hc1=>by
    rw [drop_get hx,List.map_cons,List.sum_cons] at hc1
    have hm:=List.mem_of_getElem? hx
    have hdx:=dL_mem hm
    have hk:=get_lt hx
    obtain ⟨o,e,g⟩:=k8 k x c1 (tlL (k+1==l.length) ls) (fun a b c d e f g h i j=>z28_l2 N (z28 N) l ls n a b c d e f g h i j) hx ha hp (by rw [tl_len];omega) (by omega)
    refine ⟨o,?_,g⟩
    simp only [z28_l2,lt_t hk,cT,idx_nat,hx,bS,z60]
    rw [appL_some (by simp;omega),bS,bS,List.nil_append]
    rw [map_loop (fun o:T8=>(⟨o.name',o.tail' && (k+1==l.length),o.hidden'⟩:T8)) ls
     (fun m v i=>z28_l9 N (z28 N) l c1.all' c1.p'.Name c1.p'.Roles c1.p'.Messages c1.p'.Body c1.calls' c1.out'.Protocol c1.out'.Name c1.out'.Err (k:Int) (z28_l2 N (z28 N) l ls n) x ls m v i)
     (fun v=>z28_k8 N (z28 N) c1.all' c1.p'.Name c1.p'.Roles c1.p'.Messages c1.p'.Body c1.calls' c1.out'.Protocol c1.out'.Name c1.out'.Err (k:Int) (z28_l2 N (z28 N) l ls n) x v)
     (fun m j v o hj ho=>by
      simp only [z28_l9,lt_t hj,cT,idx_nat,ho,bS,setL'_nat]
      rw [w64_suc (by omega)]
      have:((k:Int)==w64 ((l.length:Int)-1))=(k+1==l.length):=by
       rw [w64_id (by omega) (by omega),Bool.eq_iff_iff];simp;omega
      rw [this]
      cases o.tail'<;>simp)
     (fun m j v hj=>by simp only [z28_l9,lt_f hj,cF]) (N:=N) (by omega)]
    exact e)
   (fun n k c1 hk=>by simp only [z28_l2,lt_f hk,cF]) (N:=N) (by omega) c rfl rfl (by rw [← cL_sum];omega)
  rw [← asL_flat,← cL_sum] at g
  have e':=e.trans (show (o.bind fun c=>z28_k1 c.all' c.p'.Name c.p'.Roles c.p'.Messages c.p'.Body c.calls' c.out'.Protocol c.out'.Name c.out'.Err)=o from bind_id o)
  refine Eq.mp (congrArg (fun o=>Ck o c _ _ _) e'.symm) (g.iff (okL_pt _ _ _ _).symm)
end Gp
end
