/- The plain law, part 1: what the functions compute answers as the statement says. -/
import Derived.Lib.Bytealg
import Derived.Test.YtdomlpmomldmhaaGreatDoorMonitorPrefixPure
set_option linter.all false
section
section
namespace Gp
open Go Go.Kx
theorem dF {p:Prop} [Decidable p] (h:¬p):decide p=false:=decide_eq_false h
theorem dT {p:Prop} [Decidable p] (h:p):decide p=true:=decide_eq_true h
theorem bS {α β:Type _} (a:α) (f:α→Option β):(some a).bind f=f a:=rfl
theorem cT {α:Sort _} {a b:α}:(bif true then a else b)=a:=rfl
theorem aA {α:Type _} (a b c:List α):(a++b)++c=a++(b++c):=List.append_assoc a b c
theorem lA {α:Type _} {a b:List α}:(a++b).length=a.length+b.length:=List.length_append
theorem w64_id {n:Int} (h1:-9223372036854775808≤n) (h2:n≤9223372036854775807):w64 n=n:=by
 show IntKind.i64.wrap n=n
 simp [IntKind.wrap,IntKind.signed,IntKind.bits]
 omega
theorem w64_succ {n:Nat} (h:n < 4611686018427387904):w64 ((n:Int)+1)=((n+1:Nat):Int):=by rw [w64_id (by omega) (by omega)];omega
theorem idx_nat {α:Type} (xs:List α) (k:Nat):idx xs (k:Int)=xs[k]? := by
 unfold idx
 have:decide (0≤(k:Int))=true:=by simp
 rw [this];simp
theorem idx_int {α:Type} {xs:List α} {i:Int} {k:Nat} (h:i=k):idx xs i=xs[k]? := by rw [h,idx_nat]
theorem setL'_nat {α:Type} (xs:List α) (k:Nat) (e:α):setL' xs (k:Int) e=xs.set k e:=by unfold setL';simp
theorem setL'_int {α:Type} {xs:List α} {i:Int} {k:Nat} (h:i=k) (e:α):setL' xs i e=xs.set k e:=by rw [h,setL'_nat]
theorem get_mid {α:Type} (A:List α) (x:α) (B:List α) {k:Nat} (h:A.length=k):(A++x::B)[k]? = some x:=by
 subst h;simp
theorem set_mid {α:Type} (A:List α) (x y:α) (B:List α) {k:Nat} (h:A.length=k):(A++x::B).set k y=A++y::B:=by
 subst h;simp
theorem idx_mid {α:Type} {L A:List α} {x:α} {B:List α} {i:Int} (hL:L=A++x::B) (h:i=(A.length:Int)):idx L i=some x:=by
 rw [idx_int h,hL];exact get_mid A x B rfl
theorem setL'_mid {α:Type} {L A:List α} {x:α} {B:List α} {i:Int} (hL:L=A++x::B) (h:i=(A.length:Int)) (y:α):setL' L i y=A++y::B:=by
 rw [setL'_int h,hL];exact set_mid A x y B rfl
theorem appL_some {α:Type} {xs ys:List α} (h:xs.length+ys.length≤4294967296):appL xs ys=some (xs++ys):=by
 unfold appL
 have:Nat.ble (xs.length+ys.length) lim=true:=Nat.ble_eq_true_of_le h
 rw [this];rfl
theorem drop_cons {α:Type} {xs:List α} {k:Nat} {x:α} {l:List α} (h:xs.drop k=x::l):k < xs.length∧xs[k]? = some x∧xs.drop (k+1)=l:=by
 have hlt:k < xs.length:=by
  rcases Nat.lt_or_ge k xs.length with h' | h'
  ·exact h'
  ·rw [List.drop_eq_nil_of_le h'] at h;cases h
 rw [List.drop_eq_getElem_cons hlt] at h
 simp only [List.cons.injEq] at h
 exact ⟨hlt,by rw [List.getElem?_eq_getElem hlt,h.1],h.2⟩
theorem drop_nil {α:Type} {xs:List α} {k:Nat} (h:xs.drop k=[]):xs.length≤k:=by simpa using h
def lv {α γ:Type} (b:α→Nat→γ→γ) (e:γ):List α→Nat→γ
 | [],_=>e
 | x::l,k=>b x k (lv b e l (k+1))
theorem lv_of {α γ:Type} (xs:List α) (F:Nat→Int→γ) (b:α→Nat→γ→γ) (e:γ)
  (h1:∀ n k x,k < xs.length→xs[k]? = some x→F (n+1) (k:Int)=b x k (F n ((k+1:Nat):Int)))
  (h2:∀ n k,xs.length≤k→F (n+1) (k:Int)=e) :
  ∀ (l:List α) (k n:Nat),xs.drop k=l→l.length < n→F n (k:Int)=lv b e l k:=by
 intro l
 induction l with
 | nil =>
  intro k n h hn
  obtain ⟨n,rfl⟩:∃ m,n=m+1:=⟨n-1,by simp at hn;omega⟩
  exact h2 n k (drop_nil h)
 | cons x l ih =>
  intro k n h hn
  obtain ⟨n,rfl⟩:∃ m,n=m+1:=⟨n-1,by simp at hn;omega⟩
  obtain ⟨a,c,d⟩:=drop_cons h
  rw [h1 n k x a c,ih (k+1) n d (by simp at hn;omega)];rfl
theorem lv_from {α γ:Type} {xs:List α} {F:Nat→Int→γ} {b:α→Nat→γ→γ} {e:γ} {n:Nat} {i:Int} (hn:xs.length < n) (hi:i=((0:Nat):Int))
  (h1:∀ n k x,k < xs.length→xs[k]? = some x→F (n+1) (k:Int)=b x k (F n ((k+1:Nat):Int)))
  (h2:∀ n k,xs.length≤k→F (n+1) (k:Int)=e):F n i=lv b e xs 0:=by
 rw [hi];exact lv_of xs F b e h1 h2 xs 0 n rfl hn
theorem lt_t {k n:Nat} (h:k < n):decide ((k:Int) < (n:Int))=true:=by simp [h]
theorem lt_f {k n:Nat} (h:n≤k):decide ((k:Int) < (n:Int))=false:=by simp;omega
end Gp
end
section
namespace Gp
open Go Go.Kx
def Lt {α:Type} (K:α→Int) (r:α→α→Prop) (x y:α):Prop:=K x < K y∨(K x=K y∧r x y)
def Srt {α:Type} (K:α→Int) (r:α→α→Prop) (l:List α):Prop:=l.Pairwise (Lt K r)
variable {α:Type} {K:α→Int} {r:α→α→Prop}
theorem cut_at (L:List α) (k:Nat) (h:k≤L.length):∃ A B,L=A++B∧A.length=k :=
 ⟨L.take k,L.drop k,(List.take_append_drop k L).symm,by simp;omega⟩
theorem cut_one (L:List α) (k:Nat) (h:k < L.length):∃ A x B,L=A++x::B∧A.length=k:=by
 obtain ⟨A,B,e,hl⟩:=cut_at L k (by omega)
 cases B with
 | nil=>have:=congrArg List.length e;simp at this;omega
 | cons x B=>exact ⟨A,x,B,e,hl⟩
inductive Bk (K:α→Int) (r:α→α→Prop) (n:Nat):List α→List α→Prop
 | last (o c:List α):c.length≤n→c.Perm o→Srt K r c→Bk K r n o c
 | cons (o1 c1 o2 c2:List α):c1.length=n→c1.Perm o1→Srt K r c1→Bk K r n o2 c2→Bk K r n (o1++o2) (c1++c2)
theorem Bk.few {n:Nat} {o c:List α} (h:Bk K r n o c) (hn:0 < n) (hc:c.length < 2 * n) :
  (c.length≤n∧c.Perm o∧Srt K r c)∨∃ o1 o2 c1 c2,o=o1++o2∧c=c1++c2∧c1.length=n∧0 < c2.length∧c2.length≤n∧c1.Perm o1∧c2.Perm o2∧Srt K r c1∧Srt K r c2:=by
 cases h with
 | last _ _ h1 h2 h3=>exact .inl ⟨h1,h2,h3⟩
 | cons o1 c1 o2 c2 h1 h2 h3 h4 =>
  cases h4 with
  | last _ _ g1 g2 g3 =>
   rcases Nat.eq_zero_or_pos c2.length with h0 | h0
   ·have:c2=[]:=List.length_eq_zero_iff.mp h0
    subst this
    have:o2=[]:=by simpa using g2.symm
    subst this
    exact .inl ⟨by simp;omega,by simpa using h2,by simpa using h3⟩
   ·exact .inr ⟨o1,o2,c1,c2,rfl,rfl,h1,h0,g1,h2,g2,h3,g3⟩
  | cons p1 d1 p2 d2 g1 g2 g3 g4=>simp at hc;omega
theorem Bk.all {n:Nat} {o c:List α} (h:Bk K r n o c) (hn:0 < n) (hc:c.length≤n):c.Perm o∧Srt K r c:=by
 rcases h.few hn (by omega) with h | ⟨o1,o2,c1,c2,h1,h2,h3,h4,_⟩
 ·exact h.2
 ·subst h2;simp at hc;omega
end Gp
end
section
namespace Gp
open Go Go.Kx Gx
theorem look {α γ:Type} (xs:List α) (hs:xs.length≤4194304) (b:α→Int→γ→γ) (F:Nat→Int→γ) (e:γ) {n:Nat} (hn:4194304 < n)
  (h1:∀ n k x,k < xs.length→xs[k]? = some x→F (n+1) (k:Int)=b x k (F n (w64 ((k:Int)+1))))
  (h2:∀ n k,xs.length≤k→F (n+1) (k:Int)=e):F n (0:Int)=lv (fun x (k:Nat) r=>b x (k:Int) r) e xs 0 :=
 lv_from (by omega) rfl (fun n k x hk hx=>by rw [h1 n k x hk hx,w64_succ (by omega)]) h2
def eqStr (a b:ByteArray):Bool:=a.toList==b.toList
structure SizeD (x:T0):Prop where
 f:x.Fields.length≤4194304
 d:x.Guard.Diffs.length≤4194304
 e:x.Guard.Equals.length≤4194304
structure SizeG (g:T5):Prop where
 r:g.Roles.length≤4194304
 d:g.Decls.length≤4194304
 dd:∀ x∈g.Decls,SizeD x
 e:g.Edges.length≤4194304
 t:g.Timeouts.length≤4194304
variable {N:Nat} (hN:4194304 < N)
end Gp
end
section
namespace Gp
open Go Go.Kx Gx
variable {N:Nat} (hN:4194304 < N)
def whereV {α:Type} (f:α→Bool) (l:List α):Option Int:=lv (fun x (k:Nat) r=>bif f x then some (k:Int) else r) (some (-1)) l 0
theorem bcomm (a b:ByteArray):(a.toList==b.toList)=(b.toList==a.toList):=by
 rw [Bool.eq_iff_iff,beq_iff_eq,beq_iff_eq];exact ⟨Eq.symm,Eq.symm⟩
include hN in
theorem Index_eq (l:List ByteArray) (hl:l.length≤4194304) (v:ByteArray):z278 N l v=whereV (fun x=>eqStr x v) l:=by
 unfold z278 whereV
 refine look l hl (fun x k r=>bif eqStr x v then some k else r) (z278_l2 l v) _ hN ?_ ?_
 ·intro n k x hk hx
  simp only [z278_l2,lt_t hk,idx_nat,hx,cT,bS,eqStr,bcomm v x]
 ·intro n k hk
  simp only [z278_l2,lt_f hk,cond_false,z278_k1]
end Gp
end
section
namespace Gp
open Go Go.Kx Gx
def ekey (e:T2):Int:=e.Act.To * 1180591620717411303424+e.Act.Label
def key (g:T5) (x:Int):Int:=match g.Edges[x.toNat]? with | some e=>ekey e | none=>0
def Vx (g:T5) (x:Int):Prop:=0≤x∧x < (g.Edges.length:Int)
theorem Vx.get {g:T5} {x:Int} (h:Vx g x):∃ e,idx g.Edges x=some e∧key g x=ekey e∧e∈g.Edges:=by
 obtain ⟨h0,h1⟩:=h
 obtain ⟨k,rfl⟩:∃ k:Nat,x=(k:Int):=⟨x.toNat,by omega⟩
 have hk:k < g.Edges.length:=by omega
 refine ⟨g.Edges[k],by rw [idx_nat,List.getElem?_eq_getElem hk],?_,List.getElem_mem hk⟩
 unfold key
 rw [show (k:Int).toNat=k by simp,List.getElem?_eq_getElem hk]
end Gp
end
section
namespace Gp
open Go Go.Kx Gx
theorem lsl_to {α:Type} {L A B:List α} {i:Int} (hL:L=A++B) (hi:i=(A.length:Int)):lsl L none (some i)=some A:=by
 subst hL hi
 have h:decide ((A.length:Int)≤((A++B).length:Int))=true:=by simp;omega
 have h2:decide ((0:Int)≤(A.length:Int))=true:=by simp
 unfold lsl bnd
 simp only [Option.getD_some,Option.getD_none,h,h2]
 simp
theorem lsl_from {α:Type} {L A B:List α} {i:Int} (hL:L=A++B) (hi:i=(A.length:Int)):lsl L (some i) none=some B:=by
 subst hL hi
 have h:decide ((A.length:Int)≤((A++B).length:Int))=true:=by simp;omega
 have h2:decide ((0:Int)≤(A.length:Int))=true:=by simp
 unfold lsl bnd
 simp only [Option.getD_some,Option.getD_none,h,h2,Int.le_refl,decide_true,Bool.and_self,cT,Option.map_some,Int.toNat_natCast,List.take_length]
 simp
end Gp
end
section
namespace Gp
open Go Go.Kx Gx
def allV {α:Type} (p:α→Nat→Bool):List α→Nat→Bool
 | [],_=>true
 | x::l,k=>p x k && allV p l (k+1)
theorem allV_of {α:Type} (p:α→Nat→Bool) (xs:List α) (F:Nat→Int→Option Bool) (e:Option Bool)
  (h1:∀ n k x,k < xs.length→xs[k]? = some x→F (n+1) (k:Int)=bif p x k then F n ((k+1:Nat):Int) else some false)
  (h2:∀ n k,xs.length≤k→F (n+1) (k:Int)=e) :
  ∀ (l:List α) (k n:Nat),xs.drop k=l→l.length < n→F n (k:Int)=bif allV p l k then e else some false:=by
 intro l
 induction l with
 | nil =>
  intro k n h hn
  obtain ⟨n,rfl⟩:∃ m,n=m+1:=⟨n-1,by simp at hn;omega⟩
  exact h2 n k (drop_nil h)
 | cons x l ih =>
  intro k n h hn
  obtain ⟨n,rfl⟩:∃ m,n=m+1:=⟨n-1,by simp at hn;omega⟩
  obtain ⟨a,c,d⟩:=drop_cons h
  rw [h1 n k x a c,ih (k+1) n d (by simp at hn;omega)]
  show _=bif (p x k && allV p l (k+1)) then e else some false
  cases p x k<;>rfl
theorem allV_from {α:Type} (p:α→Nat→Bool) {xs:List α} {F:Nat→Int→Option Bool} {e:Option Bool} {n:Nat} (hn:xs.length < n)
  (h1:∀ n k x,k < xs.length→xs[k]? = some x→F (n+1) (k:Int)=bif p x k then F n ((k+1:Nat):Int) else some false)
  (h2:∀ n k,xs.length≤k→F (n+1) (k:Int)=e):F n (0:Int)=bif allV p xs 0 then e else some false :=
 allV_of p xs F e h1 h2 xs 0 n rfl hn
theorem allV_iff {α:Type} (p:α→Nat→Bool):∀ (l:List α) (k:Nat),allV p l k=true↔∀ i x,l[i]? = some x→p x (k+i)=true
 | [],k=>by simp [allV]
 | x::l,k=>by
  show (p x k && allV p l (k+1))=true↔_
  rw [Bool.and_eq_true,allV_iff p l (k+1)]
  constructor
  ·rintro ⟨h0,h1⟩ i y hy
   cases i with
   | zero=>simp at hy;subst hy;exact h0
   | succ i=>have:=h1 i y (by simpa using hy);rw [show k+(i+1)=k+1+i by omega];exact this
  ·intro h
   exact ⟨by simpa using h 0 x (by simp),fun i y hy=>by rw [show k+1+i=k+(i+1) by omega];exact h (i+1) y (by simpa using hy)⟩
def bs (s:ByteArray):List UInt8:=s.data.toList
theorem size_bs (s:ByteArray):s.size=(bs s).length:=rfl
theorem slt_t {s:ByteArray} {k:Nat} (h:k < (bs s).length):decide ((k:Int) < (s.size:Int))=true:=lt_t h
theorem slt_f {s:ByteArray} {k:Nat} (h:(bs s).length≤k):decide ((k:Int) < (s.size:Int))=false:=lt_f h
theorem toList_bs (s:ByteArray):s.toList=bs s:=ByteArray.toList_eq s
theorem bs_inj {a b:ByteArray} (h:bs a=bs b):a=b:=by
 cases a with | mk a=>cases b with | mk b=>simpa [bs] using h
theorem sidx_bs (s:ByteArray) (k:Nat):sidx s (k:Int)=(bs s)[k]?.map (fun b=>(b.toNat:Int)):=by
 unfold sidx
 have h:decide (0≤(k:Int))=true:=by simp
 rw [h,cT]
 have e:s[(k:Int).toNat]? = (bs s)[k]? := by
  simp [getElem?_def,bs]
  split<;>simp_all
  rfl
 rw [e]
variable {N:Nat} (hN:4194304 < N)
def letterV (c:Int):Bool:=(decide (97≤c) && decide (c≤122)) || (decide (65≤c) && decide (c≤90))
def innerV (c:Int):Bool:=letterV c || ((decide (48≤c) && decide (c≤57)) || c==95)
theorem letter_eq (N:Nat) (c:Int):z292 N c=some (letterV c):=by
 unfold z292 letterV
 cases decide (97≤c)<;>cases decide (c≤122)<;>cases decide (65≤c)<;>rfl
theorem refLetter_eq (N:Nat) (c:Int):ref09_letter N c=some (letterV c):=letter_eq N c
theorem inner_eq (N:Nat) (c:Int):z293 N c=some (innerV c):=by
 unfold z293 innerV z312
 rw [letter_eq]
 simp only [bS]
 cases letterV c
 ·cases decide (48≤c)<;>cases decide (c≤57)<;>rfl
 ·rfl
def isName (s:ByteArray):Bool :=
 match bs s with
 | []=>false
 | x::l=>letterV (x.toNat:Int) && (decide (l.length < 16) && allV (fun (c:UInt8) _=>innerV (c.toNat:Int)) (x::l) 0)
def keywords:List ByteArray:=[(str [97,103,97,105,110]),(str [97,110,100]),(str [97,115]),(str [97,116]),(str [99,97,108,108]),(str [99,104,111,105,99,101]),(str [101,108,115,101]),(str [102,114,111,109]),(str [105,102]),(str [105,110,116]),(str [108,101,110]),(str [108,111,111,112]),(str [109,101,115,115,97,103,101]),(str [111,102]),(str [111,102,102,101,114]),(str [111,110]),(str [111,114]),(str [112,97,114]),(str [112,108,97,121,115]),(str [112,114,111,116,111,99,111,108]),(str [115,101,114,118,105,99,101]),(str [116,101,120,116]),(str [116,105,109,101,115]),(str [116,111]),(str [118,97,114]),(str [119,104,101,114,101]),(str [119,104,105,108,101]),(str [119,105,116,104,105,110])]
def isWord (s:ByteArray):Bool:=isName s && !(keywords.any fun k=>eqStr k s)
include hN in
theorem nameL (s:ByteArray) (hs:s.size≤4194304):z268_l2 N s N (0:Int)=some (allV (fun (c:UInt8) _=>innerV (c.toNat:Int)) (bs s) 0):=by
 rw [size_bs] at hs
 rw [allV_from (xs:=bs s) (fun (c:UInt8) _=>innerV (c.toNat:Int)) (F:=z268_l2 N s) (e:=some true) (by omega)]
 ·cases allV (fun (c:UInt8) _=>innerV (c.toNat:Int)) (bs s) 0<;>rfl
 ·intro n k x hk hx
  simp only [z268_l2,slt_t hk,cT,sidx_bs,hx,Option.map_some,bS,inner_eq,w64_succ (show k < 4611686018427387904 by omega)]
  cases innerV (x.toNat:Int)<;>rfl
 ·intro n k hk
  simp only [z268_l2,slt_f hk,cond_false,z268_k1]
theorem nameL_ref (s:ByteArray):∀ n k,ref09_IsName_l2 N s n k=z268_l2 N s n k
 | 0,_=>rfl
 | n+1,k=>by
  simp only [ref09_IsName_l2,z268_l2,nameL_ref s n]
  rfl
theorem bs_nil:bs (str [])=[]:=rfl
include hN in
theorem name_eq (s:ByteArray) (hs:s.size≤4194304):z268 N s=some (isName s)∧ref09_IsName N s=some (isName s):=by
 unfold z268 ref09_IsName
 rw [nameL_ref,nameL hN s hs,toList_bs,toList_bs,bs_nil,size_bs,show sidx s (0:Int)=sidx s ((0:Nat):Int) from rfl,sidx_bs]
 unfold isName
 cases h:bs s with
 | nil=>exact ⟨rfl,rfl⟩
 | cons x l =>
  have e:(x::l==([]:List UInt8))=false:=rfl
  rw [e]
  simp only [cond_false,List.getElem?_cons_zero,Option.map_some,bS,letter_eq,refLetter_eq]
  have d:decide (((x::l).length:Int) > 16) = !decide (l.length < 16):=by
   by_cases q:l.length < 16
   ·rw [dT q];simp;omega
   ·rw [dF q];simp;omega
  rw [d]
  cases letterV (x.toNat:Int)<;>cases decide (l.length < 16)<;>exact ⟨rfl,rfl⟩
theorem whereV_any {α:Type} (f:α→Bool) (l:List α) (k:Nat):∃ i,lv (fun x (k:Nat) r=>bif f x then some (k:Int) else r) (some (-1)) l k=some i∧decide (i≥0)=l.any f:=by
 induction l generalizing k with
 | nil=>exact ⟨-1,rfl,rfl⟩
 | cons x l ih =>
  show ∃ i,(bif f x then some (k:Int) else lv _ _ l (k+1))=some i∧_
  rw [List.any_cons]
  cases f x
  ·exact ih (k+1)
  ·exact ⟨k,rfl,by simp⟩
include hN in
theorem contains_eq (l:List ByteArray) (hl:l.length≤4194304) (v:ByteArray):z257 N l v=some (l.any fun x=>eqStr x v):=by
 unfold z257
 rw [Index_eq hN l hl]
 obtain ⟨i,h1,h2⟩:=whereV_any (fun x=>eqStr x v) l 0
 unfold whereV
 rw [h1,bS,h2]
include hN in
theorem refIn_eq (l:List ByteArray) (hl:l.length≤4194304) (v:ByteArray):ref09_in N l v=some (l.any fun x=>eqStr x v):=by
 unfold ref09_in
 rw [look l hl (fun x k r=>bif eqStr x v then some true else r) (ref09_in_l2 l v) (some false) hN]
 ·generalize (0:Nat)=k
  induction l generalizing k with
  | nil=>rfl
  | cons x l ih =>
   show (bif eqStr x v then some true else lv _ _ l (k+1))=_
   rw [List.any_cons,ih (by simp at hl;omega)]
   cases eqStr x v<;>rfl
 ·intro n k x hk hx
  simp only [ref09_in_l2,lt_t hk,idx_nat,hx,cT,bS,eqStr]
 ·intro n k hk
  simp only [ref09_in_l2,lt_f hk,cond_false,ref09_in_k1]
include hN in
theorem word_eq (s:ByteArray) (hs:s.size≤4194304):z220 N s=some (isWord s)∧ref09_IsWord N s=some (isWord s):=by
 obtain ⟨h1,h2⟩:=name_eq hN s hs
 unfold z220 ref09_IsWord ref09_Keywords
 rw [h1,h2]
 simp only [bS]
 have c1:=contains_eq hN keywords (by decide) s
 have c2:=refIn_eq hN keywords (by decide) s
 unfold keywords at c1 c2
 rw [c1,c2]
 unfold isWord keywords
 simp only [bS]
 cases isName s<;>exact ⟨rfl,rfl⟩
end Gp
end
section
namespace Gp
open Go Go.Kx Gx
theorem minI_lt {a b n:Int}:minI a b < n↔a < n∨b < n:=by unfold minI;split<;>omega
theorem maxI_ge {a b n:Int}:maxI a b≥n↔a≥n∨b≥n:=by unfold maxI;split<;>omega
variable {N:Nat} (hN:4194304 < N)
def okE (g:T5) (x:T2):Prop :=
 0≤x.From∧x.From < g.States∧0≤x.To∧x.To < g.States∧0≤x.Act.From∧x.Act.From < (g.Roles.length:Int)∧0≤x.Act.To∧x.Act.To < (g.Roles.length:Int)∧x.Act.From≠x.Act.To∧0≤x.Act.Label∧x.Act.Label < (g.Decls.length:Int)
instance (g:T5) (x:T2):Decidable (okE g x):=by unfold okE;infer_instance
def okH (g:T5):Prop :=
 1≤g.States∧g.States≤200∧0≤g.Start∧g.Start < g.States∧0≤g.End∧g.End < g.States∧g.Edges.length≤400
instance (g:T5):Decidable (okH g):=by unfold okH;infer_instance
def numV (g:T5):Bool:=decide (okH g) && allV (fun x _=>decide (okE g x)) g.Edges 0
include hN in
theorem numbered_eq (g:T5) (hg:g.Edges.length≤4194304):z205 N g=some (numV g):=by
 unfold z205
 rw [allV_from (fun x _=>decide (okE g x)) (xs:=g.Edges) (F:=z205_l2 g) (e:=some true) (by omega)]
 ·unfold numV
  by_cases c1:g.States < 1
  ·rw [dT c1,dF (show ¬ okH g by unfold okH;omega)];rfl
  by_cases c2:g.States > 200
  ·rw [dF c1,dT c2,dF (show ¬ okH g by unfold okH;omega)];rfl
  by_cases c3:minI g.Start g.End < 0
  ·rw [dF c1,dF c2,dT c3,dF (show ¬ okH g by rw [minI_lt] at c3;unfold okH;omega)];rfl
  by_cases c4:maxI g.Start g.End≥g.States
  ·rw [dF c1,dF c2,dF c3,dT c4,dF (show ¬ okH g by rw [maxI_ge] at c4;unfold okH;omega)];rfl
  by_cases c5:(g.Edges.length:Int) > 400
  ·rw [dF c1,dF c2,dF c3,dF c4,dT c5,dF (show ¬ okH g by unfold okH;omega)];rfl
  rw [dF c1,dF c2,dF c3,dF c4,dF c5,dT (show okH g by rw [minI_lt] at c3;rw [maxI_ge] at c4;unfold okH;omega)]
  cases allV (fun x _=>decide (okE g x)) g.Edges 0<;>rfl
 ·intro n k x hk hx
  simp only [z205_l2,lt_t hk,idx_nat,hx,cT,bS,w64_succ (show k < 4611686018427387904 by omega)]
  by_cases c1:minI (minI (minI (minI x.From x.To) x.Act.From) x.Act.To) x.Act.Label < 0
  ·rw [dT c1,dF (show ¬ okE g x by rw [minI_lt,minI_lt,minI_lt,minI_lt] at c1;unfold okE;omega)];rfl
  by_cases c2:maxI x.From x.To≥g.States
  ·rw [dF c1,dT c2,dF (show ¬ okE g x by rw [maxI_ge] at c2;unfold okE;omega)];rfl
  by_cases c3:maxI x.Act.From x.Act.To≥(g.Roles.length:Int)
  ·rw [dF c1,dF c2,dT c3,dF (show ¬ okE g x by rw [maxI_ge] at c3;unfold okE;omega)];rfl
  by_cases c4:x.Act.From=x.Act.To
  ·rw [dF c1,dF c2,dF c3,show (x.Act.From==x.Act.To)=true by simp [c4],dF (show ¬ okE g x by unfold okE;omega)];rfl
  by_cases c5:x.Act.Label≥(g.Decls.length:Int)
  ·rw [dF c1,dF c2,dF c3,show (x.Act.From==x.Act.To)=false by simp [c4],dT c5,dF (show ¬ okE g x by unfold okE;omega)];rfl
  rw [dF c1,dF c2,dF c3,show (x.Act.From==x.Act.To)=false by simp [c4],dF c5,dT (show okE g x by rw [minI_lt,minI_lt,minI_lt,minI_lt] at c1;rw [maxI_ge] at c2 c3;unfold okE;omega)]
  rfl
 ·intro n k hk
  simp only [z205_l2,lt_f hk,cond_false,z205_k1]
def apartP (x y:T2) (same:Bool):Bool :=
 !((!same && (x.From==y.From && ((((x.Act.From==y.Act.From) && ((x.Act.To==y.Act.To) && ((x.Act.Label==y.Act.Label) && true)))) || (x.Act.From != y.Act.From || x.Again)))) || (x.Again && (y.To==x.From && (x.Act.From != y.Act.From || x.Act.Label != y.Act.Label))))
def apartE (g:T5) (x:T2) (k:Nat):Bool := !(x.Again && x.From==g.Start) && allV (fun y i=>apartP x y (decide (k=i))) g.Edges 0
def orderV (g:T5):Bool:=allV (fun x k => !(x.From==g.End) && apartE g x k) g.Edges 0
def apartV (g:T5):Bool:=allV (fun x k=>apartE g x k) g.Edges 0
theorem bne_nat (k i:Nat):((k:Int) != (i:Int)) = !decide (k=i):=by
 by_cases h:k=i
 ·subst h;simp
 ·rw [dF h];simp;omega
include hN in
theorem ordered_eq (g:T5) (hg:g.Edges.length≤4194304):z207 N g=some (orderV g):=by
 unfold z207
 rw [allV_from (fun x k => !(x.From==g.End) && apartE g x k) (xs:=g.Edges) (F:=z207_l2 N g) (e:=some true) (by omega)]
 ·unfold orderV;cases allV _ g.Edges 0<;>rfl
 ·intro n k x hk hx
  have inner:z207_l4 g (k:Int) (z207_l2 N g n) x N (0:Int)=bif allV (fun y i=>apartP x y (decide (k=i))) g.Edges 0 then z207_k3 (k:Int) (z207_l2 N g n) else some false:=by
   refine allV_from (fun y i=>apartP x y (decide (k=i))) (by omega) ?_ ?_
   ·intro m i y hi hy
    simp only [z207_l4,lt_t hi,idx_nat,hy,cT,bS,bne_nat,z207_k5,w64_succ (show i < 4611686018427387904 by omega),apartP]
    cases decide (k=i)<;>cases (x.From==y.From)<;>cases ((x.Act.From==y.Act.From) && ((x.Act.To==y.Act.To) && ((x.Act.Label==y.Act.Label) && true)))<;>cases (x.Act.From != y.Act.From)<;>cases x.Again<;>cases (y.To==x.From)<;>cases (x.Act.Label != y.Act.Label)<;>rfl
   ·intro m i hi
    simp only [z207_l4,lt_f hi,cond_false]
  simp only [z207_l2,lt_t hk,idx_nat,hx,cT,bS,z207_k6,inner,z207_k3,w64_succ (show k < 4611686018427387904 by omega),apartE]
  cases (x.From==g.End)<;>cases x.Again<;>cases (x.From==g.Start)<;>cases allV (fun y i=>apartP x y (decide (k=i))) g.Edges 0<;>rfl
 ·intro n k hk
  simp only [z207_l2,lt_f hk,cond_false,z207_k1]
theorem orderV_eq (g:T5):orderV g=(apartV g && g.Edges.all fun x => !(x.From==g.End)):=by
 unfold orderV apartV
 suffices h:∀ (l:List T2) (k:Nat),allV (fun x k => !(x.From==g.End) && apartE g x k) l k=(allV (fun x k=>apartE g x k) l k && l.all fun x => !(x.From==g.End)) from h _ _
 intro l
 induction l with
 | nil=>intro k;rfl
 | cons x l ih =>
  intro k
  show ((!(x.From==g.End) && apartE g x k) && allV _ l (k+1))=((apartE g x k && allV _ l (k+1)) && _)
  rw [ih,List.all_cons]
  cases (x.From==g.End)<;>cases apartE g x k<;>simp
end Gp
end
section
namespace Gp
open Go Go.Kx Gx
variable {N:Nat} (hN:4194304 < N)
def elseOk (g:T5) (x:T11):Bool:=match idx g.Edges x.Else with | some e=>e.From==x.State && !e.Again | none=>false
def okT (g:T5) (x:T11):Prop:=1≤x.Ticks∧x.Ticks≤1000∧0≤x.Else∧x.Else < (g.Edges.length:Int)∧elseOk g x=true
instance (g:T5) (x:T11):Decidable (okT g x):=by unfold okT;infer_instance
def lastV (g:T5):Nat→Int
 | 0=>-1
 | k+1=>match g.Timeouts[k]? with | some t=>t.State | none=>-1
def timeV (g:T5):Bool:=allV (fun x k=>decide (lastV g k < x.State∧okT g x)) g.Timeouts 0
theorem else_some {g:T5} {i:Int} (h0:0≤i) (h1:i < (g.Edges.length:Int)):∃ e,idx g.Edges i=some e∧e∈g.Edges:=by
 obtain ⟨e,h,_,hm⟩:=(show Vx g i from ⟨h0,h1⟩).get
 exact ⟨e,h,hm⟩
include hN in
theorem timed_eq (g:T5) (hg:g.Timeouts.length≤4194304):z208 N g=some (timeV g):=by
 unfold z208
 have h:=allV_from (fun x k=>decide (lastV g k < x.State∧okT g x)) (xs:=g.Timeouts) (F:=fun n i=>z208_l2 g n (lastV g i.toNat) i) (e:=some true) (n:=N) (by omega) (by
  intro n k x hk hx
  show z208_l2 g (n+1) (lastV g k) (k:Int)=bif decide (lastV g k < x.State∧okT g x) then z208_l2 g n (lastV g (k+1)) ((k+1:Nat):Int) else some false
  have hl:lastV g (k+1)=x.State:=by simp only [lastV,hx]
  rw [hl]
  simp only [z208_l2,lt_t hk,idx_nat,hx,cT,bS,w64_succ (show k < 4611686018427387904 by omega)]
  by_cases c1:x.State≤lastV g k
  ·rw [dT c1,dF (show ¬ (lastV g k < x.State∧okT g x) by omega)];rfl
  by_cases c2:x.Ticks < 1
  ·rw [dF c1,dT c2,dF (show ¬ (lastV g k < x.State∧okT g x) by unfold okT;omega)];rfl
  by_cases c3:x.Ticks > 1000
  ·rw [dF c1,dF c2,dT c3,dF (show ¬ (lastV g k < x.State∧okT g x) by unfold okT;omega)];rfl
  by_cases c4:x.Else < 0
  ·rw [dF c1,dF c2,dF c3,dT c4,dF (show ¬ (lastV g k < x.State∧okT g x) by unfold okT;omega)];rfl
  by_cases c5:x.Else≥(g.Edges.length:Int)
  ·rw [dF c1,dF c2,dF c3,dF c4,dT c5,dF (show ¬ (lastV g k < x.State∧okT g x) by unfold okT;omega)];rfl
  obtain ⟨e,he,_⟩:=else_some (g:=g) (i:=x.Else) (by omega) (by omega)
  rw [dF c1,dF c2,dF c3,dF c4,dF c5,he]
  have hok:decide (lastV g k < x.State∧okT g x)=(e.From==x.State && !e.Again):=by
   rw [Bool.eq_iff_iff,decide_eq_true_iff]
   unfold okT elseOk
   rw [he]
   constructor
   ·intro h;exact h.2.2.2.2.2
   ·intro h;exact ⟨by omega,by omega,by omega,by omega,by omega,h⟩
  rw [hok]
  simp only [bS,cond_false]
  cases hf:(e.From==x.State)
  ·rw [show (e.From != x.State)=true by unfold bne;rw [hf];rfl];rfl
  ·rw [show (e.From != x.State)=false by unfold bne;rw [hf];rfl]
   cases e.Again<;>rfl) (by
  intro n k hk
  show z208_l2 g (n+1) (lastV g k) (k:Int)=some true
  simp only [z208_l2,lt_f hk,cond_false,z208_k1])
 have h':z208_l2 g N (-1) (0:Int)=bif allV (fun x k=>decide (lastV g k < x.State∧okT g x)) g.Timeouts 0 then some true else some false:=h
 rw [h']
 unfold timeV
 cases allV _ g.Timeouts 0<;>rfl
theorem numV_edge {g:T5} (h:numV g=true) {x:T2} (hx:x∈g.Edges):okE g x:=by
 unfold numV at h
 rw [Bool.and_eq_true] at h
 obtain ⟨i,hi⟩:=List.mem_iff_getElem?.mp hx
 exact of_decide_eq_true ((allV_iff _ _ _).mp h.2 i x hi)
theorem numV_head {g:T5} (h:numV g=true):okH g:=by
 unfold numV at h
 rw [Bool.and_eq_true] at h
 exact of_decide_eq_true h.1
end Gp
end
section
namespace Gp
open Go Go.Kx Gx
theorem idx_some {α:Type} {L:List α} {v:Int} {d:α} (h:idx L v=some d):0≤v∧v < (L.length:Int):=by
 by_cases h0:0≤v
 ·obtain ⟨k,rfl⟩:∃ k:Nat,v=(k:Int):=⟨v.toNat,by omega⟩
  rw [idx_nat] at h
  obtain ⟨hk,_⟩:=List.getElem?_eq_some_iff.mp h
  exact ⟨h0,by omega⟩
 ·unfold idx at h
  rw [dF h0] at h;cases h
theorem idx_lt {α:Type} {L:List α} {v:Int} (h0:0≤v) (h1:v < (L.length:Int)):∃ d,idx L v=some d:=by
 obtain ⟨k,rfl⟩:∃ k:Nat,v=(k:Int):=⟨v.toNat,by omega⟩
 exact ⟨L[k]'(by omega),by rw [idx_nat,List.getElem?_eq_getElem]⟩
theorem setL_len {α:Type} (L:List α) {b:Int} (d:α) (h0:0≤b):(setL' L b d).length=L.length:=by
 obtain ⟨k,rfl⟩:∃ k:Nat,b=(k:Int):=⟨b.toNat,by omega⟩
 rw [setL'_nat];simp
theorem idx_set {α:Type} {L:List α} {b:Int} {d:α} (h0:0≤b) (h1:b < (L.length:Int)) (v:Int):idx (setL' L b d) v=if v=b then some d else idx L v:=by
 obtain ⟨k,rfl⟩:∃ k:Nat,b=(k:Int):=⟨b.toNat,by omega⟩
 rw [setL'_nat]
 by_cases hv:0≤v
 ·obtain ⟨j,rfl⟩:∃ j:Nat,v=(j:Int):=⟨v.toNat,by omega⟩
  rw [idx_nat,idx_nat,List.getElem?_set]
  by_cases e:k=j
  ·subst e;simp;omega
  ·rw [if_neg e,if_neg (by omega)]
 ·rw [if_neg (by omega)]
  unfold idx
  rw [dF hv];rfl
theorem count_set {L:List Int} {b d:Int} (h:idx L b=some (-1)) (hd:d≠-1):(setL' L b d).count (-1)+1=L.count (-1):=by
 obtain ⟨h0,h1⟩:=idx_some h
 obtain ⟨k,rfl⟩:∃ k:Nat,b=(k:Int):=⟨b.toNat,by omega⟩
 rw [idx_nat] at h
 rw [setL'_nat]
 obtain ⟨A,x,B,rfl,hl⟩:=cut_one L k (by omega)
 rw [get_mid A x B hl] at h
 cases h
 rw [set_mid A (-1) d B hl]
 simp [List.count_append,List.count_cons,hd]
 omega
def er (back:Bool) (x:T2):Int × Int:=(bif back then x.To else x.From,bif back then x.From else x.To)
def ers (g:T5) (back:Bool):List (Int × Int):=g.Edges.map (er back)
structure Jn (E:List (Int × Int)) (S:Nat) (e da:Int) (out todo:List Int) (mu:Nat):Prop where
 len:out.length=S
 lo:∀ v d,idx out v=some d→-1≤d∧d≤da+1
 ub:∀ v d,idx out v=some d→d+(out.count (-1):Nat)+1≤(S:Int)
 root:idx out e=some 0
 zero:∀ v,idx out v=some 0→v=e
 pred:∀ v d,idx out v=some d→0 < d→∃ u,(u,v)∈E∧idx out u=some (d-1)
 todo_in:∀ v∈todo,∃ d,idx out v=some d∧da≤d∧0≤d
 sorted:todo.Pairwise (fun x y=>∀ dx dy,idx out x=some dx→idx out y=some dy→dx≤dy)
 proc:∀ u v d,(u,v)∈E→idx out u=some d→0≤d→u ∉ todo→∃ d',idx out v=some d'∧0≤d'∧d'≤d+1
 mu_eq:out.count (-1)+todo.length=mu
theorem Jn.push {E:List (Int × Int)} {S:Nat} {e da a v:Int} {out todo:List Int} {mu:Nat} (h:Jn E S e da out todo mu) (ha:idx out a=some da) (ha0:0≤da) (hE:(a,v)∈E) (hv:idx out v=some (-1)) :
  Jn E S e da (setL' out v (da+1)) (todo++[v]) mu∧∀ w d,idx out w=some d→0≤d→idx (setL' out v (da+1)) w=some d:=by
 obtain ⟨v0,v1⟩:=idx_some hv
 have hset:=fun w=>idx_set (L:=out) (d:=da+1) v0 v1 w
 have hcnt:=count_set hv (d:=da+1) (by omega)
 have ext:∀ w d,idx out w=some d→0≤d→idx (setL' out v (da+1)) w=some d:=by
  intro w d hw hd
  rw [hset,if_neg]
  ·exact hw
  ·intro hc;subst hc;rw [hv] at hw;cases hw;omega
 refine ⟨⟨?_,?_,?_,ext _ _ h.root (by omega),?_,?_,?_,?_,?_,?_⟩,ext⟩
 ·rw [setL_len _ _ v0,h.len]
 ·intro w d hw
  rw [hset] at hw
  split at hw
  ·cases hw;omega
  ·exact h.lo w d hw
 ·intro w d hw
  have:=h.ub a da ha
  rw [hset] at hw
  split at hw
  ·cases hw;omega
  ·have:=h.ub w d hw;omega
 ·intro w hw
  rw [hset] at hw
  split at hw
  ·have:=Option.some.inj hw;omega
  ·exact h.zero w hw
 ·intro w d hw hd
  rw [hset] at hw
  split at hw
  ·rename_i hc
   cases hw
   subst hc
   exact ⟨a,hE,by rw [show da+1-1=da by omega];exact ext a da ha ha0⟩
  ·obtain ⟨u,u1,u2⟩:=h.pred w d hw hd
   exact ⟨u,u1,ext _ _ u2 (by omega)⟩
 ·intro w hw
  rcases List.mem_append.mp hw with hw | hw
  ·obtain ⟨d,d1,d2,d3⟩:=h.todo_in w hw
   exact ⟨d,ext _ _ d1 d3,d2,d3⟩
  ·simp at hw;subst hw
   exact ⟨da+1,by rw [hset,if_pos rfl],by omega,by omega⟩
 ·refine List.pairwise_append.mpr ⟨?_,by simp,?_⟩
  ·refine List.Pairwise.imp_of_mem ?_ h.sorted
   intro x y hx hy hxy dx dy h1 h2
   obtain ⟨d,d1,d2,d3⟩:=h.todo_in x hx
   obtain ⟨f,f1,f2,f3⟩:=h.todo_in y hy
   rw [ext _ _ d1 d3] at h1;rw [ext _ _ f1 f3] at h2
   cases h1;cases h2
   exact hxy _ _ d1 f1
  ·intro x hx y hy dx dy h1 h2
   simp at hy;subst hy
   obtain ⟨d,d1,d2,d3⟩:=h.todo_in x hx
   rw [ext _ _ d1 d3] at h1
   rw [hset,if_pos rfl] at h2
   cases h1;cases h2
   exact (h.lo x _ d1).2
 ·intro p q d hpq hp hd hn
  have hpv:p≠v:=fun hc=>hn (by simp [hc])
  rw [hset,if_neg hpv] at hp
  obtain ⟨d',q1,q2,q3⟩:=h.proc p q d hpq hp hd (fun hc=>hn (by simp [hc]))
  exact ⟨d',ext _ _ q1 q2,q2,q3⟩
 ·have:=h.mu_eq
  simp;omega
variable {N:Nat}
theorem spread_in (g:T5) (back:Bool) (S:Nat) (hS:S≤4194304) (hg:g.Edges.length≤4194304) (hE:∀ x∈g.Edges,0≤(er back x).1∧(er back x).1 < (S:Int)∧0≤(er back x).2∧(er back x).2 < (S:Int)) (ag:List Int→List Int→Option (List Int)) (e a da:Int) (ha0:0≤da) (mu:Nat) (hmu:mu≤4194304) :
  ∀ (l:List T2) (k n:Nat) (out rest:List Int),g.Edges.drop k=l→l.length < n→Jn (ers g back) S e da out (a::rest) mu→idx out a=some da →
  (∀ i x,i < k→g.Edges[i]? = some x→(er back x).1=a→∃ d,idx out (er back x).2=some d∧0≤d) →
  ∃ out' rest',z210_l4 g back ag n out (a::rest) (k:Int)=z210_k3 ag out' (a::rest')∧Jn (ers g back) S e da out' (a::rest') mu∧idx out' a=some da ∧
   (∀ x∈g.Edges,(er back x).1=a→∃ d,idx out' (er back x).2=some d∧0≤d):=by
 intro l
 induction l with
 | nil =>
  intro k n out rest h hn hJ ha hd
  obtain ⟨n,rfl⟩:∃ m,n=m+1:=⟨n-1,by simp at hn;omega⟩
  have hk:=drop_nil h
  refine ⟨out,rest,?_,hJ,ha,?_⟩
  ·simp only [z210_l4,lt_f hk,cond_false]
  ·intro x hx hxa
   obtain ⟨i,hi⟩:=List.mem_iff_getElem?.mp hx
   have:i < g.Edges.length:=(List.getElem?_eq_some_iff.mp hi).1
   exact hd i x (by omega) hi hxa
 | cons x l ih =>
  intro k n out rest h hn hJ ha hd
  obtain ⟨n,rfl⟩:∃ m,n=m+1:=⟨n-1,by simp at hn;omega⟩
  obtain ⟨hk,hx,hdr⟩:=drop_cons h
  simp only [List.length_cons] at hn
  have hxm:x∈g.Edges:=List.mem_of_getElem? hx
  obtain ⟨r1,r2,r3,r4⟩:=hE x hxm
  have wk':w64 ((k:Int)+1)=((k+1:Nat):Int):=w64_succ (by omega)
  have e0:idx (a::rest) (0:Int)=some a:=by rw [show (0:Int)=((0:Nat):Int) from rfl,idx_nat];rfl
  have step:z210_l4 g back ag (n+1) out (a::rest) (k:Int)=z210_k5 out (a::rest) (k:Int) (z210_l4 g back ag n) (er back x).1 (er back x).2:=by
   simp only [z210_l4,lt_t hk,idx_nat,hx,cT,bS,er]
   cases back<;>rfl
  rw [step]
  unfold z210_k5
  rw [e0,bS]
  by_cases hxa:(er back x).1=a
  ·rw [show ((er back x).1==a)=true by simp [hxa],cT]
   obtain ⟨d,hdv⟩:=idx_lt (L:=out) r3 (by rw [hJ.len];exact r4)
   rw [hdv,bS]
   by_cases hneg:d < 0
   ·rw [dT hneg,cT,hxa,ha]
    have hm1:d=-1:=by have:=(hJ.lo _ _ hdv).1;omega
    subst hm1
    obtain ⟨hJ',ext⟩:=hJ.push ha ha0 (v:=(er back x).2) (by rw [← hxa];exact List.mem_map.mpr ⟨x,hxm,rfl⟩) hdv
    have hub:=hJ.ub a da ha
    have hml:=hJ.mu_eq
    simp only [List.length_cons] at hml
    simp only [bS,hdv]
    rw [appL_some (by simp;omega),bS,w64_id (n:=da+1) (by omega) (by omega),wk']
    obtain ⟨out',rest',q1,q2,q3,q4⟩:=ih (k+1) n _ (rest++[(er back x).2]) hdr (by omega) hJ' (ext _ _ ha ha0) (by
     intro i y hi hy hya
     by_cases hik:i=k
     ·subst hik
      rw [hx] at hy;cases hy
      exact ⟨da+1,by rw [idx_set r3 (by rw [hJ.len];exact r4),if_pos rfl],by omega⟩
     ·obtain ⟨d',d1,d2⟩:=hd i y (by omega) hy hya
      exact ⟨d',ext _ _ d1 d2,d2⟩)
    exact ⟨out',rest',q1,q2,q3,q4⟩
   ·rw [dF hneg,cond_false,wk']
    exact ih (k+1) n out rest hdr (by omega) hJ ha (by
     intro i y hi hy hya
     by_cases hik:i=k
     ·subst hik
      rw [hx] at hy;cases hy
      exact ⟨d,hdv,by omega⟩
     ·exact hd i y (by omega) hy hya)
  ·rw [show ((er back x).1==a)=false by simp [hxa],cond_false,wk']
   exact ih (k+1) n out rest hdr (by omega) hJ ha (by
    intro i y hi hy hya
    by_cases hik:i=k
    ·subst hik
     rw [hx] at hy;cases hy
     exact absurd hya hxa
    ·exact hd i y (by omega) hy hya)
theorem spread_out (hN:4194304 < N) (g:T5) (back:Bool) (S:Nat) (hS:S≤4194304) (hg:g.Edges.length≤4194304) (hE:∀ x∈g.Edges,0≤(er back x).1∧(er back x).1 < (S:Int)∧0≤(er back x).2∧(er back x).2 < (S:Int)) (e:Int) :
  ∀ (n:Nat) (out todo:List Int) (da:Int) (mu:Nat),mu < n→mu≤4194304→Jn (ers g back) S e da out todo mu →
  ∃ L da' mu',z210_l2 N g back n out todo=some L∧Jn (ers g back) S e da' L [] mu':=by
 intro n
 induction n with
 | zero=>intro out todo da mu h;omega
 | succ n ih =>
  intro out todo da mu hn hmu hJ
  cases todo with
  | nil=>exact ⟨out,da,mu,rfl,hJ⟩
  | cons a rest =>
   obtain ⟨d0,ha,ha1,ha2⟩:=hJ.todo_in a (by simp)
   have hJ':Jn (ers g back) S e d0 out (a::rest) mu:=by
    refine ⟨hJ.len,fun v d hv=>⟨(hJ.lo v d hv).1,by have:=(hJ.lo v d hv).2;omega⟩,hJ.ub,hJ.root,hJ.zero,hJ.pred,?_,hJ.sorted,hJ.proc,hJ.mu_eq⟩
    intro v hv
    rcases List.mem_cons.mp hv with hv | hv
    ·subst hv;exact ⟨d0,ha,by omega,ha2⟩
    ·obtain ⟨d,d1,d2,d3⟩:=hJ.todo_in v (by simp [hv])
     exact ⟨d,d1,(List.pairwise_cons.mp hJ.sorted).1 v hv d0 d ha d1,d3⟩
   obtain ⟨out',rest',q1,q2,q3,q4⟩:=spread_in g back S hS hg hE (z210_l2 N g back n) e a d0 ha2 mu hmu g.Edges 0 N out rest rfl (by omega) hJ' ha (by intro i x hi;omega)
   have hd:decide (((a::rest).length:Int) > 0)=true:=by simp
   have hJ2:Jn (ers g back) S e d0 out' rest' (mu-1):=by
    have hm:=q2.mu_eq
    simp only [List.length_cons] at hm
    refine ⟨q2.len,q2.lo,q2.ub,q2.root,q2.zero,q2.pred,fun v hv=>q2.todo_in v (by simp [hv]),(List.pairwise_cons.mp q2.sorted).2,?_,by omega⟩
    intro u v d hE' hu hd' hnt
    by_cases hua:u=a
    ·subst hua
     rw [q3] at hu;cases hu
     obtain ⟨x,hx,hxe⟩:=List.mem_map.mp hE'
     obtain ⟨d',d1,d2⟩:=q4 x hx (by rw [hxe])
     rw [hxe] at d1
     exact ⟨d',d1,d2,(q2.lo _ _ d1).2⟩
    ·exact q2.proc u v d hE' hu hd' (by simp [hua,hnt])
   have hm:=q2.mu_eq
   simp only [List.length_cons] at hm
   obtain ⟨L,da',mu',p1,p2⟩:=ih out' rest' d0 (mu-1) (by omega) (by omega) hJ2
   refine ⟨L,da',mu',?_,p2⟩
   simp only [z210_l2,hd,cT]
   rw [show (0:Int)=((0:Nat):Int) from rfl,q1]
   unfold z210_k3
   rw [show lsl (a::rest') (some (1:Int)) none=some rest' from lsl_from (A:=[a]) (B:=rest') rfl rfl,bS,p1]
structure Dist (E:List (Int × Int)) (S:Nat) (e:Int) (L:List Int):Prop where
 len:L.length=S
 lo:∀ v d,idx L v=some d→-1≤d∧d < (S:Int)
 root:idx L e=some 0
 zero:∀ v,idx L v=some 0→v=e
 pred:∀ v d,idx L v=some d→0 < d→∃ u,(u,v)∈E∧idx L u=some (d-1)
 succ:∀ u v d,(u,v)∈E→idx L u=some d→0≤d→∃ d',idx L v=some d'∧0≤d'∧d'≤d+1
theorem Jn.dist {E:List (Int × Int)} {S:Nat} {e da:Int} {L:List Int} {mu:Nat} (h:Jn E S e da L [] mu):Dist E S e L :=
 ⟨h.len,fun v d hv=>⟨(h.lo v d hv).1,by have:=h.ub v d hv;omega⟩,h.root,h.zero,h.pred,fun u v d hE hu hd=>h.proc u v d hE hu hd (by simp)⟩
end Gp
end
section
namespace Gp
open Go Go.Kx Gx
variable {N:Nat}
theorem mul_small (N:Nat) {s:Nat} (hs:s≤200):z279 N (wk .u64 (([(-1:Int)]:List Int).length:Int)) (wk .u64 (s:Int))=some ((0:Int),(s:Int)):=by
 have h:∀ s < 201,z279 0 (wk .u64 (([(-1:Int)]:List Int).length:Int)) (wk .u64 ((s:Nat):Int))=some ((0:Int),(s:Int)):=by decide +kernel
 exact h s (by omega)
theorem rep_loop (S:Nat) (hS:S≤200):∀ (n k:Nat),S-k < n→1≤k→k≤S →
  z259_l2 n (List.replicate k (-1)++List.replicate (S-k) 0) (k:Int)=some (List.replicate S (-1)):=by
 intro n
 induction n with
 | zero=>intro k h;omega
 | succ n ih =>
  intro k hn h1 h2
  have hlen:(List.replicate k (-1:Int)++List.replicate (S-k) 0).length=S:=by simp;omega
  by_cases hk:k < S
  ·have hd:decide ((k:Int) < ((List.replicate k (-1:Int)++List.replicate (S-k) 0).length:Int))=true:=by rw [hlen];simp;omega
   have a1:lsl (List.replicate k (-1:Int)++List.replicate (S-k) 0) (some (k:Int)) none=some (List.replicate (S-k) 0):=lsl_from rfl (by simp)
   have a2:lsl (List.replicate k (-1:Int)++List.replicate (S-k) 0) none (some (k:Int))=some (List.replicate k (-1)):=lsl_to rfl (by simp)
   have b1:bnd (some (k:Int)) none (List.replicate k (-1:Int)++List.replicate (S-k) 0).length=some (k,S):=by
    rw [hlen]
    have q1:decide ((0:Int)≤(k:Int))=true:=by simp
    have q2:decide ((k:Int)≤(S:Int))=true:=by simp;omega
    unfold bnd
    simp only [Option.getD_some,Option.getD_none,q1,q2,Int.le_refl,decide_true,Bool.and_self,cT]
    simp
   have a3:cpL (List.replicate k (-1:Int)++List.replicate (S-k) 0) (some (k:Int)) none (List.replicate k (-1))=some (List.replicate (k+min k (S-k)) (-1)++List.replicate (S-(k+min k (S-k))) 0,((min k (S-k):Nat):Int)):=by
    unfold cpL
    rw [b1,Option.map_some]
    have e1:(List.replicate k (-1:Int)++List.replicate (S-k) 0).take k=List.replicate k (-1):=by simp
    have e2:(List.replicate k (-1:Int)).length=k:=by simp
    simp only [e1,e2]
    have e3:(List.replicate k (-1:Int)).take (min k (S-k))=List.replicate (min k (S-k)) (-1):=by rw [List.take_replicate];congr 1;omega
    have e4:(List.replicate k (-1:Int)++List.replicate (S-k) 0).drop (k+min k (S-k))=List.replicate (S-(k+min k (S-k))) 0:=by
     rw [List.drop_append,List.length_replicate,List.drop_replicate,List.drop_replicate,show k-(k+min k (S-k))=0 by omega,show S-k-(k+min k (S-k)-k)=S-(k+min k (S-k)) by omega];rfl
    rw [e3,e4,List.replicate_append_replicate]
   have hw:w64 ((k:Int)+((min k (S-k):Nat):Int))=((k+min k (S-k):Nat):Int):=by rw [w64_id (by omega) (by omega)];omega
   have hmin:1≤min k (S-k)∧k+min k (S-k)≤S:=by omega
   simp only [z259_l2,hd,cT,a1,a2,a3,bS,hw]
   exact ih (k+min k (S-k)) (by omega) (by omega) (by omega)
  ·have hks:k=S:=by omega
   subst hks
   have hd:decide ((k:Int) < ((List.replicate k (-1:Int)++List.replicate (k-k) 0).length:Int))=false:=by rw [hlen];simp
   simp only [z259_l2,hd,cond_false,z259_k1]
   simp
theorem repeat_eq (hN:4194304 < N) {s:Nat} (h1:1≤s) (h2:s≤200):z259 N [(-1:Int)] (s:Int)=some (List.replicate s (-1)):=by
 unfold z259
 have c0:decide ((s:Int) < 0)=false:=by simp
 rw [c0,cond_false,mul_small N h2,bS]
 have c1:decide ((0:Int) > 0)=false:=rfl
 have c2:decide ((s:Int) > 9223372036854775807)=false:=by simp;omega
 simp only [c1,c2,cond_false,z259_k3]
 have w:w64 (s:Int)=(s:Int):=w64_id (by omega) (by omega)
 have m:mkL (0:Int) (w64 (s:Int)) (w64 (s:Int))=some (List.replicate s 0):=by
  rw [w];unfold mkL
  have q1:decide ((0:Int)≤(s:Int))=true:=by simp
  have q2:decide ((s:Int)≤4294967296)=true:=by simp;omega
  simp only [q1,q2,Int.le_refl,decide_true,Bool.and_self,cT]
  simp
 rw [m,bS]
 have cp:cpL (List.replicate s (0:Int)) none none [(-1:Int)]=some (List.replicate 1 (-1)++List.replicate (s-1) 0,((1:Nat):Int)):=by
  unfold cpL bnd
  have q1:decide ((0:Int)≤((List.replicate s (0:Int)).length:Int))=true:=by simp
  simp only [Option.getD_none,q1,Int.le_refl,decide_true,Bool.and_self,cT,Option.map_some]
  have e:min ([(-1:Int)]:List Int).length (((List.replicate s (0:Int)).length:Int).toNat-(0:Int).toNat)=1:=by simp;omega
  rw [e];simp
 rw [cp,bS]
 exact rep_loop s h2 N 1 (by omega) (by omega) h1
theorem spread_eq (hN:4194304 < N) (g:T5) (hv:numV g=true) (back:Bool) (e:Int) (h0:0≤e) (h1:e < g.States):∃ L,z210 N g e back=some L∧Dist (ers g back) g.States.toNat e L:=by
 obtain ⟨o1,o2,o3,o4,o5,o6,o7⟩:=numV_head hv
 have hS:g.States=(g.States.toNat:Int):=by omega
 generalize hs:g.States.toNat=S at *
 have hE:∀ x∈g.Edges,0≤(er back x).1∧(er back x).1 < (S:Int)∧0≤(er back x).2∧(er back x).2 < (S:Int):=by
  intro x hx
  obtain ⟨a1,a2,a3,a4,_⟩:=numV_edge hv hx
  cases back
  ·exact ⟨a1,by rw [← hS];exact a2,a3,by rw [← hS];exact a4⟩
  ·exact ⟨a3,by rw [← hS];exact a4,a1,by rw [← hS];exact a2⟩
 have hrl:(List.replicate S (-1:Int)).length=S:=by simp
 have hri:∀ v:Int,0≤v→v < (S:Int)→idx (List.replicate S (-1:Int)) v=some (-1):=by
  intro v v0 v1
  obtain ⟨k,rfl⟩:∃ k:Nat,v=(k:Int):=⟨v.toNat,by omega⟩
  rw [idx_nat,List.getElem?_replicate,if_pos (by omega)]
 have hre:=hri e h0 (by omega)
 have hset:=fun v=>idx_set (L:=List.replicate S (-1:Int)) (b:=e) (d:=0) h0 (by rw [hrl];omega) v
 have hall:∀ v d,idx (setL' (List.replicate S (-1:Int)) e 0) v=some d→(v=e∧d=0)∨(v≠e∧d=-1):=by
  intro v d hd
  rw [hset] at hd
  split at hd
  ·rename_i h;cases hd;exact .inl ⟨h,rfl⟩
  ·rename_i h
   obtain ⟨v0,v1⟩:=idx_some hd
   rw [hrl] at v1
   rw [hri v v0 v1] at hd
   cases hd;exact .inr ⟨h,rfl⟩
 have hcnt:(setL' (List.replicate S (-1:Int)) e 0).count (-1)+1=S:=by
  rw [count_set hre (by omega)];simp
 have hJ:Jn (ers g back) S e 0 (setL' (List.replicate S (-1:Int)) e 0) [e] S:=by
  refine ⟨by rw [setL_len _ _ h0,hrl],?_,?_,by rw [hset,if_pos rfl],?_,?_,?_,by simp,?_,by simp;omega⟩
  ·intro v d hd;rcases hall v d hd with h | h<;>omega
  ·intro v d hd;rcases hall v d hd with h | h<;>omega
  ·intro v hd;rcases hall v 0 hd with h | h
   ·exact h.1
   ·omega
  ·intro v d hd hp;rcases hall v d hd with h | h<;>omega
  ·intro v hv';simp at hv';subst hv';exact ⟨0,by rw [hset,if_pos rfl],by omega,by omega⟩
  ·intro u v d _ hd hp hn
   rcases hall u d hd with h | h
   ·exact absurd (by simp [h.1]) hn
   ·omega
 obtain ⟨L,da',mu',p1,p2⟩:=spread_out hN g back S (by omega) (by omega) hE e N _ [e] 0 S (by omega) (by omega) hJ
 refine ⟨L,?_,p2.dist⟩
 unfold z210
 rw [hS,repeat_eq hN (by omega) (by omega),bS,hre,bS,p1]
end Gp
end
section
namespace Gp
open Go Go.Kx Gx
variable {N:Nat}
def posV (L:List Int):Bool := !(L.any fun d=>d==-1)
theorem containsInt_eq (hN:4194304 < N) (l:List Int) (hl:l.length≤4194304) (v:Int):z209 N l v=some (l.any fun d=>d==v):=by
 unfold z209 z258
 rw [look l hl (fun x k r=>bif x==v then some k else r) (z258_l2 l v) (some (-1)) hN]
 ·obtain ⟨i,h1,h2⟩:=whereV_any (fun x=>x==v) l 0
  rw [h1,bS,h2]
 ·intro n k x hk hx
  simp only [z258_l2,lt_t hk,idx_nat,hx,cT,bS]
  rw [show (v==x)=(x==v) by rw [Bool.eq_iff_iff,beq_iff_eq,beq_iff_eq];exact ⟨Eq.symm,Eq.symm⟩]
 ·intro n k hk
  simp only [z258_l2,lt_f hk,cond_false,z258_k1]
structure Rc (S:Nat) (F:List Int) (n:Int) (R:List Bool):Prop where
 len:R.length=S
 sound:∀ v,idx R v=some true→∃ d,idx F v=some d∧0≤d
 full:∀ v d,idx F v=some d→0≤d→d≤n→idx R v=some true
theorem Rc.set {S:Nat} {F:List Int} {n:Int} {R:List Bool} (h:Rc S F n R) {v:Int} {b:Bool} (v0:0≤v) (v1:v < (S:Int)) (hb:b=true→∃ d,idx F v=some d∧0≤d) (hm:idx R v=some true→b=true):Rc S F n (setL' R v b):=by
 have hset:=fun w=>idx_set (L:=R) (d:=b) v0 (by rw [h.len];exact v1) w
 refine ⟨by rw [setL_len _ _ v0,h.len],?_,?_⟩
 ·intro w hw
  rw [hset] at hw
  split at hw
  ·rename_i hc;subst hc;exact hb (Option.some.inj hw)
  ·exact h.sound w hw
 ·intro w d hw h0 h1
  rw [hset]
  split
  ·rename_i hc;subst hc
   rw [hm (h.full _ _ hw h0 h1)]
  ·exact h.full w d hw h0 h1
end Gp
end
section
namespace Gp
open Go Go.Kx Gx
def mkB (l:List UInt8):ByteArray:=⟨l.toArray⟩
theorem bs_mkB (l:List UInt8):bs (mkB l)=l:=by simp [bs,mkB]
theorem mkB_bs (s:ByteArray):mkB (bs s)=s:=bs_inj (bs_mkB _)
theorem bs_extract (s:ByteArray) (a b:Nat):bs (s.extract a b)=((bs s).take b).drop a:=by
 unfold bs
 rw [ByteArray.data_extract,Array.toList_extract]
 simp [List.extract,List.drop_take]
theorem ssl_mid {s:ByteArray} {x y z:List UInt8} {i j:Int} (h:bs s=x++(y++z)) (hi:i=(x.length:Int)) (hj:j=((x.length+y.length:Nat):Int)):ssl s (some i) (some j)=some (mkB y):=by
 subst hi hj
 have q1:decide ((0:Int)≤(x.length:Int))=true:=by simp
 have q2:decide ((x.length:Int)≤((x.length+y.length:Nat):Int))=true:=by simp;omega
 have q3:decide (((x.length+y.length:Nat):Int)≤(s.size:Int))=true:=by rw [size_bs,h];simp;omega
 unfold ssl bnd
 simp only [Option.getD_some,q1,q2,q3,Bool.and_self,cT,Option.map_some,Int.toNat_natCast]
 congr 1
 apply bs_inj
 rw [bs_extract,bs_mkB,h,← aA,List.take_append_of_le_length (by simp),List.take_of_length_le (by simp)]
 simp
theorem ssl_to {s:ByteArray} {x y:List UInt8} {j:Int} (h:bs s=x++y) (hj:j=(x.length:Int)):ssl s none (some j)=some (mkB x):=by
 have e:ssl s none (some j)=ssl s (some 0) (some j):=rfl
 rw [e]
 exact ssl_mid (x:=[]) (y:=x) (z:=y) (by rw [h];rfl) rfl (by rw [hj];simp)
theorem ssl_from {s:ByteArray} {x y:List UInt8} {i:Int} (h:bs s=x++y) (hi:i=(x.length:Int)):ssl s (some i) none=some (mkB y):=by
 have e:ssl s (some i) none=ssl s (some i) (some (s.size:Int)):=rfl
 rw [e]
 exact ssl_mid (x:=x) (y:=y) (z:=[]) (by rw [h];simp) hi (by rw [size_bs,h];simp)
theorem indexB_some {l:List UInt8} {c:UInt8} (h:0 < l.count c):∃ p q,l=p++c::q∧p.count c=0∧Go.Lib.indexByte l c=(p.length:Int):=by
 induction l with
 | nil=>simp at h
 | cons b l ih =>
  cases hc:(b==c)
  ·rw [List.count_cons,hc] at h
   obtain ⟨p,q,h1,h2,h3⟩:=ih (by simpa using h)
   refine ⟨b::p,q,by rw [h1];rfl,by rw [List.count_cons,h2,hc];rfl,?_⟩
   unfold Go.Lib.indexByte
   rw [hc,h3,show ((p.length:Int)==-1)=false by simp]
   simp
  ·have:b=c:=by simpa using hc
   subst this
   exact ⟨[],l,rfl,by simp,by unfold Go.Lib.indexByte;rw [hc];rfl⟩
def splitA (acc:List UInt8):List UInt8→List (List UInt8)
 | []=>[acc]
 | c::l=>if c=46 then acc::splitA [] l else splitA (acc++[c]) l
theorem splitA_cons (acc:List UInt8) (c:UInt8) (l:List UInt8):splitA acc (c::l)=if c=46 then acc::splitA [] l else splitA (acc++[c]) l:=rfl
theorem splitA_none:∀ (l acc:List UInt8),l.count 46=0→splitA acc l=[acc++l]
 | [],acc,_=>by simp [splitA]
 | c::l,acc,h=>by
  rw [List.count_cons] at h
  have hc:¬ c=46:=by intro hc;subst hc;simp at h
  rw [splitA_cons,if_neg hc,splitA_none l _ (by omega)];simp
theorem splitA_some:∀ (p acc q:List UInt8),p.count 46=0→splitA acc (p++46::q)=(acc++p)::splitA [] q
 | [],acc,q,_=>by rw [List.nil_append,splitA_cons,if_pos rfl,List.append_nil]
 | c::p,acc,q,h=>by
  rw [List.count_cons] at h
  have hc:¬ c=46:=by intro hc;subst hc;simp at h
  show splitA acc (c::(p++46::q))=_
  rw [splitA_cons,if_neg hc,splitA_some p _ q (by omega)];simp
theorem splitA_len:∀ (l acc:List UInt8),(splitA acc l).length=l.count 46+1
 | [],acc=>by simp [splitA]
 | c::l,acc=>by
  rw [splitA_cons,List.count_cons]
  split
  ·rename_i h;subst h
   rw [List.length_cons,splitA_len l];simp
  ·rename_i h
   rw [splitA_len l];simp [h]
variable {N:Nat}
theorem index_eq (s:ByteArray):z311 N s (str [46])=some (Go.Lib.indexByte (bs s) 46):=by
 unfold z311 z321
 have h1:(((str [46]).size:Int)==0)=false:=rfl
 have h2:(((str [46]).size:Int)==1)=true:=rfl
 have h3:sidx (str [46]) (0:Int)=some 46:=by
  rw [show (0:Int)=((0:Nat):Int) from rfl,sidx_bs];rfl
 rw [h1,h2,h3]
 simp only [cT,cond_false,bS,z325]
 have hf:firstB s 46=Go.Lib.indexByte (bs s) 46:=Go.Lib.firstIdx_eq s 46
 rw [hf,toList_bs,toList_bs]
 cases he:(bs (str [46])==bs s)
 ·rfl
 ·have he:bs (str [46])=bs s:=eq_of_beq he
  rw [← he];rfl
theorem count_eq (s:ByteArray):z310 N s (str [46])=some (((bs s).count 46:Nat):Int):=by
 unfold z310
 have h1:(((str [46]).size:Int)==0)=false:=rfl
 have h2:(((str [46]).size:Int)==1)=true:=rfl
 have h3:sidx (str [46]) (0:Int)=some 46:=by
  rw [show (0:Int)=((0:Nat):Int) from rfl,sidx_bs];rfl
 rw [h1,h2,h3]
 simp only [cT,cond_false,bS]
 congr 1
 unfold countB
 rw [show s.foldl (fun (n:Int) x=>if x==Kx.byteOf 46 then n+1 else n) ((0:Nat):Int)=(bs s).foldl (fun (n:Int) x=>if x==Kx.byteOf 46 then n+1 else n) ((0:Nat):Int) from Go.Lib.foldl_data _ _ _,Go.Lib.count_foldl]
 simp [Go.Lib.countByte,Kx.byteOf]
theorem gen_loop (s sep:ByteArray) (hsep:sep=str [46]) (cnt:Nat) (hc:cnt≤s.size) (hs:s.size≤4194304) :
  ∀ (n:Nat) (cur:ByteArray) (D R:List ByteArray),(bs cur).count 46 < n→(bs cur).length≤4194304→D.length+(bs cur).count 46=cnt→R.length=(bs cur).count 46+1 →
  z291_l2 N s sep (0:Int) ((cnt+1:Nat):Int) n cur (D++R) (D.length:Int)=some (D++(splitA [] (bs cur)).map mkB):=by
 subst hsep
 intro n
 induction n with
 | zero=>intro cur D R h;omega
 | succ n ih =>
  intro cur D R hn hcur hD hR
  have hw:w64 ((s.size:Int)+1)=((s.size+1:Nat):Int):=w64_succ (by omega)
  have hmin:minI ((cnt+1:Nat):Int) ((s.size+1:Nat):Int)=((cnt+1:Nat):Int):=by unfold minI;rw [if_neg (by omega)]
  have hw2:w64 (((cnt+1:Nat):Int)-1)=(cnt:Int):=by rw [w64_id (by omega) (by omega)];omega
  have fin:(bs cur).count 46=0→z291_k1 cur (D++R) (D.length:Int)=some (D++(splitA [] (bs cur)).map mkB):=by
   intro h0
   rw [h0] at hR
   obtain ⟨r,rfl⟩:=List.length_eq_one_iff.mp hR
   unfold z291_k1
   rw [idx_mid (A:=D) (x:=r) (B:=[]) rfl rfl,bS,setL'_mid (A:=D) (x:=r) (B:=[]) rfl rfl,w64_succ (by omega),lsl_to (A:=D++[cur]) (B:=[]) (by simp) (by simp),splitA_none _ _ h0]
   simp [mkB_bs]
  by_cases hlt:D.length < cnt
  ·have hd:decide ((D.length:Int) < (cnt:Int))=true:=by simp;omega
   obtain ⟨p,q,e1,e2,e3⟩:=indexB_some (l:=bs cur) (c:=46) (by omega)
   have hlen:(bs cur).length=p.length+(q.length+1):=by rw [e1];simp
   have hcnt:(bs cur).count 46=q.count 46+1:=by rw [e1,List.count_append,List.count_cons,e2];simp
   obtain ⟨r,R',rfl⟩:∃ r R',R=r::R':=by
    cases R with
    | nil=>simp at hR
    | cons r R'=>exact ⟨r,R',rfl⟩
   simp only [List.length_cons] at hR
   have hneg:decide ((p.length:Int) < 0)=false:=by simp
   have wp:w64 ((p.length:Int)+0)=(p.length:Int):=by rw [w64_id (by omega) (by omega)];omega
   have wp1:w64 ((p.length:Int)+((str [46]).size:Int))=((p++[46]:List UInt8).length:Int):=by
    rw [show ((str [46]).size:Int)=1 from rfl,w64_succ (by omega)];simp
   simp only [z291_l2,hw,hmin,hw2,hd,cT,index_eq,e3,bS,hneg,cond_false,wp,wp1]
   rw [ssl_to e1 rfl,bS,idx_mid (A:=D) (x:=r) (B:=R') rfl rfl,bS,ssl_from (x:=p++[46]) (y:=q) (by rw [e1];simp) rfl,bS,setL'_mid (A:=D) (x:=r) (B:=R') rfl rfl,w64_succ (by omega)]
   have:=ih (mkB q) (D++[mkB p]) R' (by rw [bs_mkB];omega) (by rw [bs_mkB];omega) (by rw [bs_mkB];simp;omega) (by rw [bs_mkB];omega)
   rw [bs_mkB] at this
   rw [show ((D.length+1:Nat):Int)=((D++[mkB p]).length:Int) by simp,show D++mkB p::R'=(D++[mkB p])++R' by simp,this,e1,splitA_some _ _ _ e2]
   simp
  ·have hd:decide ((D.length:Int) < (cnt:Int))=false:=by simp;omega
   simp only [z291_l2,hw,hmin,hw2,hd,cond_false]
   exact fin (by omega)
theorem split_eq (hN:4194304 < N) (s:ByteArray) (hs:s.size≤1000000):z265 N s (str [46])=some ((splitA [] (bs s)).map mkB):=by
 unfold z265 z291
 have h0:((-1:Int)==0)=false:=rfl
 have h1:((str [46]).toList==(str []).toList)=false:=by rw [toList_bs,toList_bs];rfl
 have h2:decide ((-1:Int) < 0)=true:=rfl
 have hcl:(bs s).count 46≤(bs s).length:=List.count_le_length
 rw [h0,h1,h2,count_eq]
 simp only [cT,cond_false,bS,z291_k3]
 rw [size_bs] at hs
 rw [w64_succ (by omega)]
 have hw:w64 ((s.size:Int)+1)=((s.size+1:Nat):Int):=w64_succ (by rw [size_bs];omega)
 have hmin:minI (((bs s).count 46+1:Nat):Int) ((s.size+1:Nat):Int)=(((bs s).count 46+1:Nat):Int):=by unfold minI;rw [if_neg (by rw [size_bs];omega)]
 have m:mkL (str []) (((bs s).count 46+1:Nat):Int) (((bs s).count 46+1:Nat):Int)=some (List.replicate ((bs s).count 46+1) (str [])):=by
  unfold mkL
  have q1:decide ((0:Int)≤(((bs s).count 46+1:Nat):Int))=true:=by simp;omega
  have q2:decide ((((bs s).count 46+1:Nat):Int)≤4294967296)=true:=by simp;omega
  simp only [q1,q2,Int.le_refl,decide_true,Bool.and_self,cT]
  simp
 rw [hw,hmin,m,bS]
 have:=gen_loop (N:=N) s (str [46]) rfl ((bs s).count 46) (by rw [size_bs];omega) (by rw [size_bs];omega) N s [] (List.replicate ((bs s).count 46+1) (str [])) (by omega) (by omega) (by simp) (by simp)
 rw [List.nil_append] at this
 have this':z291_l2 N s (str [46]) (0:Int) (((bs s).count 46+1:Nat):Int) N s (List.replicate ((bs s).count 46+1) (str [])) (0:Int)=some ([]++(splitA [] (bs s)).map mkB):=this
 rw [this'];simp
def pathV (s:ByteArray):Bool:=decide (s.size≤50) && (splitA [] (bs s)).all fun p=>isWord (mkB p)
theorem piece_len:∀ (l acc:List UInt8),∀ p∈splitA acc l,p.length≤acc.length+l.length
 | [],acc,p,h=>by simp [splitA] at h;subst h;simp
 | c::l,acc,p,h=>by
  rw [splitA_cons] at h
  split at h
  ·rcases List.mem_cons.mp h with h | h
   ·subst h;simp
   ·have:=piece_len l [] p h;simp at this;simp;omega
  ·have:=piece_len l _ p h;simp at this;simp;omega
theorem path_eq (hN:4194304 < N) (s:ByteArray):z217 N s=some (pathV s):=by
 unfold z217 pathV
 by_cases h:s.size≤50
 ·rw [dT (show (s.size:Int)≤50 by omega),dT h,cT,split_eq hN s (by omega),bS]
  unfold z264_1 z290_0
  have hl:(splitA [] (bs s)).length≤51:=by
   rw [splitA_len]
   have:(bs s).count 46≤(bs s).length:=List.count_le_length
   rw [size_bs] at h;omega
  rw [look ((splitA [] (bs s)).map mkB) (by simp;omega) (fun x k r=>bif !(isWord x) then some k else r) (z290_0_l2 N ((splitA [] (bs s)).map mkB)) (some (-1)) hN]
  ·obtain ⟨i,h1,h2⟩:=whereV_any (fun x => !(isWord x)) ((splitA [] (bs s)).map mkB) 0
   rw [h1,bS,h2,bS,List.any_map,List.not_any_eq_all_not]
   simp [Function.comp_def]
  ·intro n k x hk hx
   have hx':=List.mem_of_getElem? hx
   obtain ⟨p,hp,rfl⟩:=List.mem_map.mp hx'
   have hpl:=piece_len _ _ p hp
   have hw:=(word_eq hN (mkB p) (by rw [size_bs,bs_mkB];rw [size_bs] at h;simp at hpl;omega)).1
   simp only [z290_0_l2,lt_t hk,idx_nat,hx,cT,bS,z266,hw]
  ·intro n k hk
   simp only [z290_0_l2,lt_f hk,cond_false,z290_0_k1]
 ·rw [dF (show ¬ (s.size:Int)≤50 by omega),dF h];rfl
end Gp
end
section
namespace Gp
open Go Go.Kx Gx
variable {N:Nat}
def flat (l:List T0):List T4:=(l.map fun d=>d.Fields).flatten
theorem flat_cons (x:T0) (l:List T0):flat (x::l)=x.Fields++flat l:=rfl
theorem flat_app (a b:List T0):flat (a++b)=flat a++flat b:=by simp [flat]
theorem flat_le (l:List T0) (h:∀ d∈l,SizeD d):(flat l).length≤l.length * 4194304:=by
 induction l with
 | nil=>simp [flat]
 | cons x l ih =>
  rw [flat_cons,lA,List.length_cons]
  have:=(h x (by simp)).f
  have:=ih (fun d hd=>h d (by simp [hd]))
  omega
theorem take_drop_cons {α:Type} {xs l:List α} {k:Nat} {x:α} (h:xs.drop k=x::l):xs.take (k+1)=xs.take k++[x]:=by
 obtain ⟨a,c,d⟩:=drop_cons h
 rw [List.take_add_one,c];rfl
theorem fields_loop (l:List T0) (hs:(flat l).length≤4294967296) (hl:l.length≤4194304) :
  ∀ (m:List T0) (k n:Nat) (acc:List T4),l.drop k=m→m.length < n→acc=flat (l.take k)→z158_l2 l n acc (k:Int)=some (flat l):=by
 intro m
 induction m with
 | nil =>
  intro k n acc h hn ha
  obtain ⟨n,rfl⟩:∃ m,n=m+1:=⟨n-1,by simp at hn;omega⟩
  have hk:=drop_nil h
  simp only [z158_l2,lt_f hk,cond_false,z158_k1]
  rw [ha,List.take_of_length_le hk]
 | cons x m ih =>
  intro k n acc h hn ha
  obtain ⟨n,rfl⟩:∃ m,n=m+1:=⟨n-1,by simp at hn;omega⟩
  obtain ⟨a,c,d⟩:=drop_cons h
  have ht:=take_drop_cons h
  have hcut:flat l=flat (l.take (k+1))++flat (l.drop (k+1)):=by rw [← flat_app,List.take_append_drop]
  have hle:acc.length+x.Fields.length≤4294967296:=by
   rw [hcut,ht,flat_app,lA,lA,← ha] at hs
   have:(flat [x]).length=x.Fields.length:=by simp [flat]
   omega
  simp only [z158_l2,lt_t a,cT,idx_nat,c,bS]
  rw [appL_some hle,bS,w64_succ (by omega)]
  refine ih (k+1) n _ d (by simp at hn;omega) ?_
  rw [ht,flat_app,← ha];simp [flat]
theorem fields_eq (hN:4194304 < N) (l:List T0) (hl:l.length≤1000) (hd:∀ d∈l,SizeD d):z158 N l=some (flat l):=by
 unfold z158
 exact fields_loop l (by have:=flat_le l hd;omega) (by omega) l 0 N [] rfl (by omega) rfl
def textV (fl:List T4) (x:Int):Bool:=match idx fl x with | some f=>f.Sort'.Kind==2 | none=>false
theorem idx_none {α:Type} {L:List α} {v:Int} (h:¬ (0≤v∧v < (L.length:Int))):idx L v=none:=by
 cases hc:idx L v with
 | none=>rfl
 | some d=>exact absurd (idx_some hc) h
def diffOk (n:Int) (d:T1):Prop:=-1≤d.X∧d.X < n∧-1≤d.Y∧d.Y < n∧-20000≤d.C∧d.C≤20000
instance (n:Int) (d:T1):Decidable (diffOk n d):=by unfold diffOk;infer_instance
def guardV (fl:List T4) (g:T6):Bool :=
 decide (g.Diffs.length≤20∧g.Equals.length≤20) && (allV (fun d _=>decide (diffOk (fl.length:Int) d)) g.Diffs 0 && allV (fun e _=>textV fl e.1 && textV fl e.2) g.Equals 0)
theorem guarded_eq (hN:4194304 < N) (g:T6) (fl:List T4):z224 N g fl=some (guardV fl g):=by
 unfold z224 guardV
 by_cases c1:(g.Diffs.length:Int) > 20
 ·rw [dT c1,dF (show ¬ (g.Diffs.length≤20∧g.Equals.length≤20) by omega)];rfl
 by_cases c2:(g.Equals.length:Int) > 20
 ·rw [dF c1,dT c2,dF (show ¬ (g.Diffs.length≤20∧g.Equals.length≤20) by omega)];rfl
 rw [dF c1,dF c2,dT (show g.Diffs.length≤20∧g.Equals.length≤20 by omega)]
 simp only [cond_false,Bool.true_and]
 rw [allV_from (fun d _=>decide (diffOk (fl.length:Int) d)) (xs:=g.Diffs) (F:=z224_l6 N g fl) (e:=z224_k5 N g fl) (by omega)]
 ·unfold z224_k5
  rw [allV_from (fun e _=>textV fl e.1 && textV fl e.2) (xs:=g.Equals) (F:=z224_l2 N g fl) (e:=some true) (by omega)]
  ·cases allV (fun d _=>decide (diffOk (fl.length:Int) d)) g.Diffs 0<;>cases allV (fun e _=>textV fl e.1 && textV fl e.2) g.Equals 0<;>rfl
  ·intro n k x hk hx
   obtain ⟨m,rfl⟩:∃ m,N=m+3:=⟨N-3,by omega⟩
   have e0:idx ([x.1,x.2]:List Int) (0:Int)=some x.1:=rfl
   have e1:idx ([x.1,x.2]:List Int) (1:Int)=some x.2:=rfl
   have w0:w64 ((0:Int)+1)=1:=by decide
   have w1:w64 ((1:Int)+1)=2:=by decide
   have l0:decide ((0:Int) < 2)=true:=rfl
   have l1:decide ((1:Int) < 2)=true:=rfl
   have l2:decide ((2:Int) < 2)=false:=rfl
   have one:∀ (v:Int) (r:Option Bool),(bif decide (v < (0:Int)) then some false else bif decide (v≥(fl.length:Int)) then some false else (idx fl v).bind fun x143=>bif (x143.Sort'.Kind != (2:Int)) then some false else r)=bif textV fl v then r else some false:=by
    intro v r
    unfold textV
    by_cases h0:v < 0
    ·rw [dT h0,idx_none (by omega)];rfl
    by_cases h1:v≥(fl.length:Int)
    ·rw [dF h0,dT h1,idx_none (by omega)];rfl
    obtain ⟨f,hf⟩:=idx_lt (L:=fl) (v:=v) (by omega) (by omega)
    rw [dF h0,dF h1,hf]
    simp only [cond_false,bS]
    unfold bne
    cases (f.Sort'.Kind==2)<;>rfl
   have inner:z224_l4 fl (k:Int) (z224_l2 (m+3) g fl n) x (m+3) (0:Int)=bif textV fl x.1 && textV fl x.2 then z224_k3 (k:Int) (z224_l2 (m+3) g fl n) else some false:=by
    simp only [z224_l4,e0,e1,w0,w1,l0,l1,l2,cT,cond_false,bS]
    rw [one,one]
    cases textV fl x.1<;>cases textV fl x.2<;>rfl
   simp only [z224_l2,lt_t hk,cT,idx_nat,hx,bS,inner,z224_k3]
   rw [w64_succ (by omega)]
  ·intro n k hk
   simp only [z224_l2,lt_f hk,cond_false,z224_k1]
 ·intro n k x hk hx
  simp only [z224_l6,lt_t hk,idx_nat,hx,cT,bS,w64_succ (show k < 4611686018427387904 by omega)]
  by_cases d1:minI x.X x.Y < -1
  ·rw [dT d1,dF (show ¬ diffOk (fl.length:Int) x by rw [minI_lt] at d1;unfold diffOk;omega)];rfl
  by_cases d2:maxI x.X x.Y≥(fl.length:Int)
  ·rw [dF d1,dT d2,dF (show ¬ diffOk (fl.length:Int) x by rw [maxI_ge] at d2;unfold diffOk;omega)];rfl
  by_cases d3:x.C < -20000
  ·rw [dF d1,dF d2,dT d3,dF (show ¬ diffOk (fl.length:Int) x by unfold diffOk;omega)];rfl
  by_cases d4:x.C > 20000
  ·rw [dF d1,dF d2,dF d3,dT d4,dF (show ¬ diffOk (fl.length:Int) x by unfold diffOk;omega)];rfl
  rw [dF d1,dF d2,dF d3,dF d4,dT (show diffOk (fl.length:Int) x by rw [minI_lt] at d1;rw [maxI_ge] at d2;unfold diffOk;omega)];rfl
 ·intro n k hk
  simp only [z224_l6,lt_f hk,cond_false]
def sortOk (s:T10):Prop:=(s.Kind=1∧-1000≤s.Lo∧s.Lo≤s.Hi∧s.Hi≤1000)∨(s.Kind=2∧0≤s.Lo∧s.Lo≤s.Hi∧s.Hi≤40)
instance (s:T10):Decidable (sortOk s):=by unfold sortOk;infer_instance
theorem three (a b c:Prop) [Decidable a] [Decidable b] [Decidable c]:(bif decide a then (bif decide b then some (decide c) else some false) else some false)=some (decide (a∧b∧c)):=by
 by_cases ha:a<;>by_cases hb:b<;>simp [ha,hb]
theorem sorted_eq (s:T10):z221 N s=some (decide (sortOk s)):=by
 unfold z221
 rw [three,three]
 by_cases h1:s.Kind=1
 ·rw [show (s.Kind==1)=true by simp [h1],cT];congr 1;rw [decide_eq_decide];unfold sortOk;omega
 ·rw [show (s.Kind==1)=false by simp [h1],cond_false]
  by_cases h2:s.Kind=2
  ·rw [show (s.Kind==2)=true by simp [h2],cT];congr 1;rw [decide_eq_decide];unfold sortOk;omega
  ·rw [show (s.Kind==2)=false by simp [h2],cond_false,dF (show ¬ sortOk s by unfold sortOk;omega)]
end Gp
end
section
namespace Gp
open Go Go.Kx Gx
variable {N:Nat}
structure NameD (x:T0):Prop where
 n:x.Name.size≤4000000
 f:∀ f∈x.Fields,f.Name.size≤4000000
def fieldV (x:T0) (f:T4) (j:Nat):Bool:=isWord f.Name && (decide (sortOk f.Sort') && !((x.Fields.take j).any fun y=>eqStr y.Name f.Name))
def declV (fl:List T4) (l:List T0) (x:T0) (k:Nat):Bool :=
 pathV x.Name && (decide (x.Fields.length≤4) && (decide (x.First=((flat (l.take k)).length:Int)) && (!((l.take k).any fun y=>eqStr y.Name x.Name) && (allV (fieldV x) x.Fields 0 && guardV fl x.Guard))))
def validD (l:List T0):Bool:=decide (l.length≤40) && (decide ((flat l).length≤24) && allV (declV (flat l) l) l 0)
theorem containsD_eq (hN:4194304 < N) (l:List T0) (hl:l.length≤4194304) (x:T0):z218_4 N l x=some (l.any fun y=>eqStr y.Name x.Name):=by
 unfold z218_4 z267_3
 rw [look l hl (fun y k r=>bif eqStr y.Name x.Name then some k else r) (z267_3_l2 N l x) (some (-1)) hN]
 ·obtain ⟨i,h1,h2⟩:=whereV_any (fun y:T0=>eqStr y.Name x.Name) l 0
  rw [h1,bS,h2]
 ·intro n k y hk hy
  simp only [z267_3_l2,lt_t hk,idx_nat,hy,cT,bS,z219_2,eqStr]
 ·intro n k hk
  simp only [z267_3_l2,lt_f hk,cond_false,z267_3_k1]
theorem containsF_eq (hN:4194304 < N) (l:List T4) (hl:l.length≤4194304) (x:T4):z222_7 N l x=some (l.any fun y=>eqStr y.Name x.Name):=by
 unfold z222_7 z269_6
 rw [look l hl (fun y k r=>bif eqStr y.Name x.Name then some k else r) (z269_6_l2 N l x) (some (-1)) hN]
 ·obtain ⟨i,h1,h2⟩:=whereV_any (fun y:T4=>eqStr y.Name x.Name) l 0
  rw [h1,bS,h2]
 ·intro n k y hk hy
  simp only [z269_6_l2,lt_t hk,idx_nat,hy,cT,bS,z223_5,eqStr]
 ·intro n k hk
  simp only [z269_6_l2,lt_f hk,cond_false,z269_6_k1]
theorem flat_next {l:List T0} {k:Nat} {x:T0} (h:l[k]? = some x):(flat (l.take (k+1))).length=(flat (l.take k)).length+x.Fields.length:=by
 rw [List.take_add_one,h]
 show (flat (l.take k++[x])).length=_
 rw [flat_app,lA];simp [flat]
theorem flat_take_le (l:List T0) (k:Nat):(flat (l.take k)).length≤(flat l).length:=by
 have:flat l=flat (l.take k)++flat (l.drop k):=by rw [← flat_app,List.take_append_drop]
 rw [this,lA];omega
theorem valid_eq (hN:4194304 < N) (l:List T0) (hl:l.length≤4194304) (hd:∀ d∈l,SizeD d) (hn:∀ d∈l,NameD d):z157 N l=some (validD l):=by
 unfold z157 validD
 by_cases c1:(l.length:Int) > 40
 ·rw [dT c1,dF (show ¬ l.length≤40 by omega)];rfl
 rw [dF c1,dT (show l.length≤40 by omega),fields_eq hN l (by omega) hd]
 simp only [cond_false,bS,Bool.true_and]
 by_cases c2:((flat l).length:Int) > 24
 ·rw [dT c2,dF (show ¬ (flat l).length≤24 by omega)];rfl
 rw [dF c2,dT (show (flat l).length≤24 by omega)]
 simp only [cond_false,Bool.true_and]
 have hfl:=flat_le l hd
 have h:=allV_from (declV (flat l) l) (xs:=l) (F:=fun n i=>z157_l2 N l (flat l) n ((flat (l.take i.toNat)).length:Int) i) (e:=some true) (n:=N) (by omega) (by
  intro n k x hk hx
  show z157_l2 N l (flat l) (n+1) ((flat (l.take k)).length:Int) (k:Int)=bif declV (flat l) l x k then z157_l2 N l (flat l) n ((flat (l.take (k+1))).length:Int) ((k+1:Nat):Int) else some false
  have hxm:x∈l:=List.mem_of_getElem? hx
  have sx:=hd x hxm
  have nx:=hn x hxm
  have ht:lsl l none (some (k:Int))=some (l.take k):=lsl_to (A:=l.take k) (B:=l.drop k) (List.take_append_drop k l).symm (by simp;omega)
  have hft:=flat_take_le l k
  have hnext:w64 (((flat (l.take k)).length:Int)+(x.Fields.length:Int))=((flat (l.take (k+1))).length:Int):=by rw [flat_next hx,w64_id (by have:=sx.f;omega) (by have:=sx.f;omega)];omega
  have inner:z157_l4 N (flat l) ((flat (l.take k)).length:Int) (k:Int) (z157_l2 N l (flat l) n) x N (0:Int)=bif allV (fieldV x) x.Fields 0 then z157_k3 N (flat l) ((flat (l.take k)).length:Int) (k:Int) (z157_l2 N l (flat l) n) x else some false:=by
   refine allV_from (fieldV x) (by have:=sx.f;omega) ?_ ?_
   ·intro m j f hj hf
    have sf:=sx.f
    have hw:=(word_eq hN f.Name (by have:=nx.f f (List.mem_of_getElem? hf);omega)).1
    have ht':lsl x.Fields none (some (j:Int))=some (x.Fields.take j):=lsl_to (A:=x.Fields.take j) (B:=x.Fields.drop j) (List.take_append_drop j _).symm (by simp;omega)
    have hc:=containsF_eq hN (x.Fields.take j) (by simp;omega) f
    simp only [z157_l4,lt_t hj,cT,idx_nat,hf,bS,hw,sorted_eq,ht',hc,fieldV]
    rw [w64_succ (by omega)]
    cases isWord f.Name<;>cases decide (sortOk f.Sort')<;>cases ((x.Fields.take j).any fun y=>eqStr y.Name f.Name)<;>rfl
   ·intro m j hj
    simp only [z157_l4,lt_f hj,cond_false]
  have hc:=containsD_eq hN (l.take k) (by simp;omega) x
  simp only [z157_l2,lt_t hk,cT,idx_nat,hx,bS,path_eq hN,ht,hc,inner,z157_k3,guarded_eq hN,declV,hnext]
  rw [w64_succ (by omega)]
  have e1:decide ((x.Fields.length:Int) > 4) = !decide (x.Fields.length≤4):=by
   by_cases q:x.Fields.length≤4
   ·rw [dT q,dF (by omega)];rfl
   ·rw [dF q,dT (by omega)];rfl
  have e2:(x.First != ((flat (l.take k)).length:Int)) = !decide (x.First=((flat (l.take k)).length:Int)):=by
   by_cases q:x.First=((flat (l.take k)).length:Int)
   ·rw [dT q];simp [q]
   ·rw [dF q];simp [q]
  rw [e1,e2]
  cases pathV x.Name<;>cases decide (x.Fields.length≤4)<;>cases decide (x.First=((flat (l.take k)).length:Int))<;>cases ((l.take k).any fun y=>eqStr y.Name x.Name)<;>cases allV (fieldV x) x.Fields 0<;>cases guardV (flat l) x.Guard<;>rfl) (by
  intro n k hk
  show z157_l2 N l (flat l) (n+1) ((flat (l.take k)).length:Int) (k:Int)=some true
  simp only [z157_l2,lt_f hk,cond_false,z157_k1])
 have h':z157_l2 N l (flat l) N (0:Int) (0:Int)=bif allV (declV (flat l) l) l 0 then some true else some false:=h
 rw [h']
 cases allV (declV (flat l) l) l 0<;>rfl
end Gp
end
section
namespace Gp
open Go Go.Kx Gx
variable {N:Nat}
structure SizeN (g:T5):Prop where
 n:g.Name.size≤4000000
 r:∀ s∈g.Roles,s.size≤4000000
 d:∀ x∈g.Decls,NameD x
def roleV (g:T5) (s:ByteArray) (i:Nat):Bool:=isWord s && !((g.Roles.take i).any fun y=>eqStr y s)
def namedV (g:T5):Bool:=isWord g.Name && (decide (1≤g.Roles.length∧g.Roles.length≤6) && allV (roleV g) g.Roles 0)
theorem named_eq (hN:4194304 < N) (g:T5) (hg:SizeG g) (hs:SizeN g):z204 N g=some (namedV g):=by
 unfold z204 namedV
 rw [(word_eq hN g.Name (by have:=hs.n;omega)).1]
 have hr:=hg.r
 rw [allV_from (roleV g) (xs:=g.Roles) (F:=z204_l2 N g) (e:=some true) (by omega)]
 ·simp only [bS]
  by_cases c1:(g.Roles.length:Int) < 1
  ·rw [dT c1,dF (show ¬ (1≤g.Roles.length∧g.Roles.length≤6) by omega)];cases isWord g.Name<;>rfl
  by_cases c2:(g.Roles.length:Int) > 6
  ·rw [dF c1,dT c2,dF (show ¬ (1≤g.Roles.length∧g.Roles.length≤6) by omega)];cases isWord g.Name<;>rfl
  rw [dF c1,dF c2,dT (show 1≤g.Roles.length∧g.Roles.length≤6 by omega)]
  cases isWord g.Name<;>cases allV (roleV g) g.Roles 0<;>rfl
 ·intro n k x hk hx
  have hw:=(word_eq hN x (by have:=hs.r x (List.mem_of_getElem? hx);omega)).1
  have ht:lsl g.Roles none (some (k:Int))=some (g.Roles.take k):=lsl_to (A:=g.Roles.take k) (B:=g.Roles.drop k) (List.take_append_drop k _).symm (by simp;omega)
  have hc:=contains_eq hN (g.Roles.take k) (by simp;omega) x
  simp only [z204_l2,lt_t hk,cT,idx_nat,hx,bS,hw,ht,hc,roleV]
  rw [w64_succ (by omega)]
  cases isWord x<;>cases ((g.Roles.take k).any fun y=>eqStr y x)<;>rfl
 ·intro n k hk
  simp only [z204_l2,lt_f hk,cond_false,z204_k1]
theorem bounds_l2 (d:T0) (hd:d.Guard.Equals.length≤4194304):∀ (l:List (Int × Int)) (k n:Nat) (acc:List T1),d.Guard.Equals.drop k=l→l.length < n→acc.length+2 * l.length≤4294967296→∃ r,z168_l2 d n acc (k:Int)=some r:=by
 intro l
 induction l with
 | nil =>
  intro k n acc h hn _
  obtain ⟨n,rfl⟩:∃ m,n=m+1:=⟨n-1,by simp at hn;omega⟩
  exact ⟨acc,by simp only [z168_l2,lt_f (drop_nil h),cond_false,z168_k1]⟩
 | cons x l ih =>
  intro k n acc h hn ha
  obtain ⟨n,rfl⟩:∃ m,n=m+1:=⟨n-1,by simp at hn;omega⟩
  obtain ⟨a,c,e⟩:=drop_cons h
  simp only [List.length_cons] at ha hn
  simp only [z168_l2,lt_t a,cT,idx_nat,c,bS]
  rw [appL_some (by simp;omega),bS,w64_succ (by omega)]
  exact ih (k+1) n _ e (by omega) (by simp;omega)
theorem bounds_l4 (hN:4194304 < N) (d:T0) (hd:SizeD d):∀ (l:List T4) (k n:Nat) (acc:List T1),d.Fields.drop k=l→l.length < n→acc.length+2 * l.length≤16777216→∃ r,z168_l4 N d n acc (k:Int)=some r:=by
 intro l
 have h1:=hd.f
 have h2:=hd.d
 have h3:=hd.e
 induction l with
 | nil =>
  intro k n acc h hn ha
  obtain ⟨n,rfl⟩:∃ m,n=m+1:=⟨n-1,by simp at hn;omega⟩
  simp only [z168_l4,lt_f (drop_nil h),cond_false,z168_k3]
  simp at ha
  rw [appL_some (by omega),bS]
  exact bounds_l2 d h3 d.Guard.Equals 0 N _ rfl (by omega) (by simp;omega)
 | cons x l ih =>
  intro k n acc h hn ha
  obtain ⟨n,rfl⟩:∃ m,n=m+1:=⟨n-1,by simp at hn;omega⟩
  obtain ⟨a,c,e⟩:=drop_cons h
  simp only [List.length_cons] at ha hn
  simp only [z168_l4,lt_t a,cT,idx_nat,c,bS]
  rw [appL_some (by simp;omega),bS,w64_succ (by omega)]
  exact ih (k+1) n _ e (by omega) (by simp;omega)
theorem declared_eq (hN:4194304 < N) (l:List T0) (hl:l.length≤4194304) (hd:∀ d∈l,SizeD d) (hn:∀ d∈l,NameD d):z206 N l=some (validD l):=by
 unfold z206
 cases l with
 | nil=>rfl
 | cons x l =>
  have h0:(((x::l).length:Int)==0)=false:=by simp;omega
  have h1:decide ((0:Int) < 0)=false:=rfl
  have h2:decide ((0:Int)≥((x::l).length:Int))=false:=by simp
  have e0:idx (x::l) (0:Int)=some x:=by rw [show (0:Int)=((0:Nat):Int) from rfl,idx_nat];rfl
  have hb:∃ r,z168 N x=some r:=bounds_l4 hN x (hd x (by simp)) x.Fields 0 N [] rfl (by have:=(hd x (by simp)).f;omega) (by have:=(hd x (by simp)).f;simp;omega)
  obtain ⟨r,hr⟩:=hb
  unfold z98
  rw [h0,h1,h2,valid_eq hN (x::l) hl hd hn,e0]
  simp only [cond_false,bS,hr]
  cases validD (x::l)<;>rfl
structure ValidG (g:T5):Prop where
 named:namedV g=true
 num:numV g=true
 decls:validD g.Decls=true
 apart:apartV g=true
 noEnd:(g.Edges.all fun x => !(x.From==g.End))=true
 time:timeV g=true
 reach:∃ F,Dist (ers g false) g.States.toNat g.Start F∧posV F=true
 ends:∃ L,Dist (ers g true) g.States.toNat g.End L∧posV L=true
end Gp
end
section
namespace Gp
open Go Go.Kx Gx
variable {N:Nat}
theorem few_loop (l:List T0) (hl:l.length≤4194304):∀ (r:List T0) (n k:Nat) (a:Int),l.drop k=r→r.length < n→∃ b,z92_l2 l n a (k:Int)=some b∧(b=true→l.length≤60):=by
 intro r
 induction r with
 | nil =>
  intro n k a h hn
  obtain ⟨n,rfl⟩:∃ m,n=m+1:=⟨n-1,by simp at hn;omega⟩
  unfold z92_l2
  rw [lt_f (drop_nil h)]
  simp only [cond_false,z92_k1]
  by_cases h1:l.length≤60
  ·have:decide ((l.length:Int)≤60)=true:=by simp;omega
   rw [this]
   exact ⟨_,rfl,fun _=>h1⟩
  ·have:decide ((l.length:Int)≤60)=false:=by simp;omega
   rw [this]
   exact ⟨false,rfl,fun h=>by cases h⟩
 | cons x r ih =>
  intro n k a h hn
  obtain ⟨n,rfl⟩:∃ m,n=m+1:=⟨n-1,by simp at hn;omega⟩
  obtain ⟨h1,h2,h3⟩:=drop_cons h
  unfold z92_l2
  rw [lt_t h1,w64_succ (by omega)]
  simp only [cT,idx_nat,h2,bS]
  exact ih n (k+1) _ h3 (by simp at hn;omega)
end Gp
end
section
namespace Gp
open Go Go.Kx Gx
variable {N:Nat}
def badB (b:UInt8):Bool:=decide (b.toNat < 32) || decide (126 < b.toNat)
def vnum (v:T12):Int:=bif v.Kind==2 then (v.S.size:Int) else v.N
def fitsV (s:T10) (v:T12):Bool :=
 v.Kind==s.Kind && (decide (s.Lo≤vnum v) && (decide (vnum v≤s.Hi) && (bif v.Kind==1 then v.S.toList==(str []).toList else v.N==0 && !((bs v.S).any badB))))
theorem get_bs (s:ByteArray) (i:Nat) (h:i < (bs s).length):s.get! i=(bs s)[i]:=by
 have h':i < s.data.size:=by simpa [bs] using h
 show s.data[i]! = _
 rw [getElem!_pos s.data i h']
 simp [bs]
theorem decode_lo (s:ByteArray) (i:Nat) (b:UInt8) (h:(bs s)[i]? = some b) (hb:b.toNat < 128):Utf8.decode s i=(b.toNat,1):=by
 obtain ⟨hi,he⟩:=List.getElem?_eq_some_iff.1 h
 have h0:s.get! (i+0)=b:=by rw [Nat.add_zero,get_bs s i hi,he]
 unfold Utf8.decode
 simp only [h0,hb,if_true]
theorem decode_hi (s:ByteArray) (i:Nat) (b:UInt8) (h:(bs s)[i]? = some b) (hb:¬ b.toNat < 128):126 < (Utf8.decode s i).1:=by
 obtain ⟨hi,he⟩:=List.getElem?_eq_some_iff.1 h
 have h0:s.get! (i+0)=b:=by rw [Nat.add_zero,get_bs s i hi,he]
 unfold Utf8.decode Utf8.runeError
 simp only [h0,hb,if_false]
 split
 ·split
  ·simp only [];omega
  ·simp only [];omega
 ·split
  ·split
   ·rename_i hc
    simp only [Bool.and_eq_true,decide_eq_true_eq] at hc
    have:=hc.1
    simp only [] at *;omega
   ·simp only [];omega
  ·split
   ·split
    ·rename_i hc
     simp only [Bool.and_eq_true,decide_eq_true_eq] at hc
     have:=hc.1
     simp only [] at *;omega
    ·simp only [];omega
   ·simp only [];omega
theorem runes_loop (s:ByteArray):∀ (r:List UInt8) (n i:Nat),(bs s).drop i=r→r.length < n→∃ z,z294_19_l2 N s true n i=some z∧decide (z≥0)=r.any badB:=by
 intro r
 induction r with
 | nil =>
  intro n i h hn
  obtain ⟨n,rfl⟩:∃ m,n=m+1:=⟨n-1,by simp at hn;omega⟩
  have hi:=drop_nil h
  unfold z294_19_l2
  have:decide (i < s.size)=false:=by rw [size_bs];simp;omega
  rw [this]
  exact ⟨-1,rfl,rfl⟩
 | cons b r ih =>
  intro n i h hn
  obtain ⟨n,rfl⟩:∃ m,n=m+1:=⟨n-1,by simp at hn;omega⟩
  obtain ⟨h1,h2,h3⟩:=drop_cons h
  simp only [List.length_cons] at hn
  unfold z294_19_l2
  have:decide (i < s.size)=true:=by rw [size_bs];simp;omega
  rw [this,List.any_cons]
  simp only [cT,z226]
  by_cases hb:b.toNat < 128
  ·rw [decode_lo s i b h2 hb]
   by_cases c1:b.toNat < 32
   ·have e1:decide (((b.toNat:Nat):Int) < 32)=true:=by simp;omega
    have e2:badB b=true:=by simp [badB,c1]
    rw [e1,e2]
    exact ⟨(i:Int),rfl,by simp⟩
   ·have e1:decide (((b.toNat:Nat):Int) < 32)=false:=by simp;omega
    rw [e1]
    simp only [cond_false,bS]
    by_cases c2:126 < b.toNat
    ·have e3:decide (((b.toNat:Nat):Int) > 126)=true:=by simp;omega
     have e2:badB b=true:=by simp [badB,c2]
     rw [e3,e2]
     exact ⟨(i:Int),rfl,by simp⟩
    ·have e3:decide (((b.toNat:Nat):Int) > 126)=false:=by simp;omega
     have e2:badB b=false:=by simp [badB];omega
     rw [e3,e2]
     exact ih n (i+1) h3 (by omega)
  ·have hd:=decode_hi s i b h2 hb
   have e2:badB b=true:=by simp [badB];omega
   generalize (Utf8.decode s i).1=c at hd ⊢
   have e1:decide ((c:Int) < 32)=false:=by simp;omega
   have e3:decide ((c:Int) > 126)=true:=by simp;omega
   rw [e1,e2]
   simp only [cond_false,bS]
   rw [e3]
   exact ⟨(i:Int),rfl,by simp⟩
theorem runes_eq (hN:4194304 < N) (s:ByteArray) (hs:s.size≤4194304):z225_21 N s=some ((bs s).any badB):=by
 obtain ⟨z,h1,h2⟩:=runes_loop (N:=N) s (bs s) N 0 rfl (by rw [size_bs] at hs;omega)
 unfold z225_21 z270_20 z294_19
 rw [h1]
 simp only [bS]
 rw [h2]
theorem number_eq (v:T12):z160 N v=some (vnum v):=by
 unfold z160 vnum
 cases (v.Kind==2)<;>rfl
theorem fits_eq (hN:4194304 < N) (s:T10) (v:T12) (hv:v.S.size≤4194304):z159 N s v=some (fitsV s v):=by
 unfold z159 fitsV
 rw [number_eq]
 simp only [bS,bne]
 cases h1:v.Kind==s.Kind with
 | false=>rfl
 | true =>
  simp only [Bool.not_true,cond_false,Bool.true_and]
  by_cases h2:vnum v < s.Lo
  ·rw [dT h2,dF (show ¬ s.Lo≤vnum v by omega)];rfl
  ·rw [dF h2,dT (show s.Lo≤vnum v by omega)]
   simp only [cond_false,Bool.true_and]
   by_cases h3:vnum v > s.Hi
   ·rw [dT h3,dF (show ¬ vnum v≤s.Hi by omega)];rfl
   ·rw [dF h3,dT (show vnum v≤s.Hi by omega)]
    simp only [cond_false,Bool.true_and]
    cases h4:v.Kind==1 with
    | true=>rfl
    | false =>
     simp only [cond_false]
     cases h5:v.N==0 with
     | false=>rfl
     | true =>
      simp only [cT,Bool.true_and]
      rw [runes_eq hN v.S hv];rfl
def zeroV (v:T12):Bool:=(v.Kind==0) && ((v.N==0) && ((v.S.toList==(str []).toList) && true))
def fitAt (fl:List T4) (v:T12) (i:Nat):Bool:=match fl[i]? with
 | some f=>fitsV f.Sort' v
 | none=>false
def knownV (fl:List T4) (ks:List T12):Bool:=decide (fl.length=ks.length) && allV (fun v i=>zeroV v || fitAt fl v i) ks 0
def properV (d:List T0) (label:Int) (ks:List T12):Bool:=decide (0≤label∧label < (d.length:Int)) && (validD d && knownV (flat d) ks)
def fitV (fs:List T4) (vs:List T12):Bool:=decide (fs.length=vs.length) && allV (fun v i=>fitAt fs v i) vs 0
theorem len_ne (a b:Nat):((a:Int) != (b:Int)) = !decide (a=b):=by
 by_cases h:a=b
 ·subst h;simp
 ·simp [h];omega
theorem proper_loop (hN:4194304 < N) (fl:List T4) (ks:List T12) (hl:fl.length=ks.length) (hk:ks.length≤4194304) (hs:∀ v∈ks,v.S.size≤4194304):z79_l2 N ks fl N (0:Int)=some (allV (fun v i=>zeroV v || fitAt fl v i) ks 0):=by
 have h:=allV_from (fun (v:T12) i=>zeroV v || fitAt fl v i) (xs:=ks) (F:=z79_l2 N ks fl) (e:=some true) (n:=N) (by omega) (by
  intro n k x hk' hx
  obtain ⟨f,hf⟩:∃ f,fl[k]? = some f:=⟨fl[k],by simp [hl,hk']⟩
  rw [z79_l2,lt_t hk',w64_succ (by omega)]
  simp only [cT,idx_nat,hx,bS,hf,fitAt]
  rw [fits_eq hN _ _ (hs x (List.mem_of_getElem? hx))]
  show (bif !(zeroV x) then _ else _)=_
  cases zeroV x<;>cases fitsV f.Sort' x<;>rfl) (by
  intro n k hk'
  unfold z79_l2
  rw [lt_f hk'];rfl)
 rw [h]
 cases allV (fun (v:T12) i=>zeroV v || fitAt fl v i) ks 0<;>rfl
theorem proper_eq (hN:4194304 < N) (d:List T0) (hl:d.length≤1000) (hd:∀ x∈d,SizeD x) (hn:∀ x∈d,NameD x) (label:Int) (ks:List T12) (hk:ks.length≤4194304) (hs:∀ v∈ks,v.S.size≤4194304) :
  z79 N d label ks=some (properV d label ks):=by
 unfold z79 properV
 rw [valid_eq hN d (by omega) hd hn,fields_eq hN d hl hd]
 by_cases c1:label < 0
 ·rw [dT c1,dF (show ¬ (0≤label∧label < (d.length:Int)) by omega)];rfl
 ·rw [dF c1]
  by_cases c2:label≥(d.length:Int)
  ·rw [dT c2,dF (show ¬ (0≤label∧label < (d.length:Int)) by omega)];rfl
  ·rw [dF c2,dT (show (0≤label∧label < (d.length:Int)) by omega)]
   cases validD d with
   | false=>rfl
   | true =>
    simp only [cond_false,bS,Bool.not_true,Bool.true_and,knownV]
    rw [len_ne]
    by_cases c3:(flat d).length=ks.length
    ·rw [dT c3]
     simp only [Bool.not_true,cond_false,Bool.true_and]
     exact proper_loop hN _ _ c3 hk hs
    ·rw [dF c3];rfl
theorem fit_eq (hN:4194304 < N) (fs:List T4) (vs:List T12) (hk:vs.length≤4194304) (hs:∀ v∈vs,v.S.size≤4194304):z80 N fs vs=some (fitV fs vs):=by
 unfold z80 fitV
 rw [len_ne]
 by_cases c3:fs.length=vs.length
 ·rw [dT c3]
  simp only [Bool.not_true,cond_false,Bool.true_and]
  have h:=allV_from (fun (f:T4) i=>match vs[i]? with | some v=>fitsV f.Sort' v | none=>false) (xs:=fs) (F:=z80_l2 N fs vs) (e:=some true) (n:=N) (by omega) (by
   intro n k x hk' hx
   obtain ⟨v,hv⟩:∃ v,vs[k]? = some v:=⟨vs[k],by simp [← c3,hk']⟩
   rw [z80_l2,lt_t hk',w64_succ (by omega)]
   simp only [cT,idx_nat,hx,bS,hv]
   rw [fits_eq hN _ _ (hs v (List.mem_of_getElem? hv))]
   cases fitsV x.Sort' v<;>rfl) (by
   intro n k hk'
   unfold z80_l2
   rw [lt_f hk'];rfl)
  rw [h]
  have e:allV (fun (f:T4) i=>match vs[i]? with | some v=>fitsV f.Sort' v | none=>false) fs 0=allV (fun v i=>fitAt fs v i) vs 0:=by
   rw [Bool.eq_iff_iff,allV_iff,allV_iff]
   constructor
   ·intro q i v hv
    obtain ⟨f,hf⟩:∃ f,fs[i]? = some f:=⟨fs[i]'(by rw [c3];exact (List.getElem?_eq_some_iff.1 hv).1),by simp⟩
    have:=q i f hf
    simp only [Nat.zero_add] at this ⊢
    rw [hv] at this
    unfold fitAt;rw [hf];exact this
   ·intro q i f hf
    obtain ⟨v,hv⟩:∃ v,vs[i]? = some v:=⟨vs[i]'(by rw [← c3];exact (List.getElem?_eq_some_iff.1 hf).1),by simp⟩
    have:=q i v hv
    simp only [Nat.zero_add] at this ⊢
    unfold fitAt at this;rw [hf] at this
    rw [hv];exact this
  rw [e]
  cases allV (fun v i=>fitAt fs v i) vs 0<;>rfl
 ·rw [dF c3];rfl
def behindV (first:Nat) (vs ks:List T12):List T12:=ks.take first++vs++ks.drop (first+vs.length)
theorem behind_eq (x:T0) (vs ks:List T12) (first:Nat) (hf:x.First=(first:Int)) (hle:first+vs.length≤ks.length) (hk:ks.length≤4194304):z82 N x vs ks=some (behindV first vs ks):=by
 unfold z82 z114
 rw [appL_some (by simp;omega)]
 simp only [bS,List.nil_append]
 have hb:bnd (some x.First) none ks.length=some (first,ks.length):=by
  unfold bnd
  rw [hf]
  have h1:decide ((0:Int)≤(first:Int))=true:=by simp
  have h2:decide ((first:Int)≤(ks.length:Int))=true:=by simp;omega
  simp only [Option.getD_some,Option.getD_none,h1,h2,Bool.and_true,Bool.true_and,cT]
  simp
 unfold lsl cpL
 rw [hb]
 simp only [Option.map_some,bS]
 have hm:min vs.length (ks.length-first)=vs.length:=by omega
 rw [hm,List.take_length];rfl
theorem behind_len (first:Nat) (vs ks:List T12) (hle:first+vs.length≤ks.length):(behindV first vs ks).length=ks.length:=by
 unfold behindV;simp;omega
theorem behind_get (first:Nat) (vs ks:List T12) (hle:first+vs.length≤ks.length) (i:Nat):(behindV first vs ks)[i]? = if first≤i∧i < first+vs.length then vs[i-first]? else ks[i]? := by
 unfold behindV
 have ht:(ks.take first).length=first:=by rw [List.length_take];omega
 by_cases c1:i < first
 ·rw [if_neg (by omega),aA,List.getElem?_append_left (by omega),List.getElem?_take,if_pos c1]
 ·by_cases c2:i < first+vs.length
  ·rw [if_pos ⟨by omega,c2⟩,List.getElem?_append_left (by rw [lA,ht];omega),List.getElem?_append_right (by omega),ht]
  ·rw [if_neg (by omega),List.getElem?_append_right (by rw [lA,ht];omega),lA,ht,List.getElem?_drop]
   congr 1;omega
theorem valid_at {d:List T0} (hv:validD d=true) {i:Nat} {x:T0} (hx:d[i]? = some x):∃ first:Nat,x.First=(first:Int)∧first+x.Fields.length≤(flat d).length∧d.length≤40∧(flat d).length≤24∧declV (flat d) d x i=true:=by
 unfold validD at hv
 simp only [Bool.and_eq_true,decide_eq_true_eq] at hv
 obtain ⟨h1,h2,h3⟩:=hv
 rw [allV_iff] at h3
 have hd:=h3 i x hx
 rw [Nat.zero_add] at hd
 have hd0:=hd
 unfold declV at hd
 simp only [Bool.and_eq_true,decide_eq_true_eq] at hd
 refine ⟨(flat (d.take i)).length,hd.2.2.1,?_,h1,h2,hd0⟩
 have:=flat_next hx
 have:=flat_take_le d (i+1)
 omega
end Gp
end
section
namespace Gp
open Go Go.Kx Gx
variable {N:Nat}
structure SizeC (vs ks:List T12):Prop where
 v:∀ v∈vs,v.S.size≤4194304
 k:∀ v∈ks,v.S.size≤4194304
theorem idx_mem {α:Type} {L:List α} {v:Int} {x:α} (h:idx L v=some x):∃ i:Nat,v=(i:Int)∧L[i]? = some x:=by
 obtain ⟨h0,h1⟩:=idx_some h
 obtain ⟨i,rfl⟩:=Int.eq_ofNat_of_zero_le h0
 exact ⟨i,rfl,by rw [← idx_nat];exact h⟩
theorem learn_eq (hN:4194304 < N) (d:List T0) (hl:d.length≤1000) (hd:∀ x∈d,SizeD x) (hn:∀ x∈d,NameD x) (label:Int) (vs ks:List T12) (hv:vs.length≤4194304) (hk:ks.length≤4194304) (hs:SizeC vs ks) :
  (properV d label ks=false∧z36 N d label vs ks=some ([],1))∨(properV d label ks=true∧∃ i x first,label=((i:Nat):Int)∧d[i]? = some x∧x.First=((first:Nat):Int)∧declV (flat d) d x i=true ∧
   ((fitV x.Fields vs=false∧z36 N d label vs ks=some ([],11))∨(fitV x.Fields vs=true∧first+vs.length≤ks.length∧z36 N d label vs ks=some (behindV first vs ks,0)))):=by
 unfold z36
 rw [proper_eq hN d hl hd hn label ks hk hs.k]
 cases hp:properV d label ks with
 | false=>exact .inl ⟨rfl,rfl⟩
 | true =>
  right
  refine ⟨rfl,?_⟩
  have hp0:=hp
  unfold properV at hp
  simp only [Bool.and_eq_true,decide_eq_true_eq] at hp
  obtain ⟨⟨p1,p2⟩,p3,p4⟩:=hp
  obtain ⟨x,hx⟩:=idx_lt p1 p2
  obtain ⟨i,rfl,hi⟩:=idx_mem hx
  obtain ⟨first,f1,f2,f3,f4,f5⟩:=valid_at p3 hi
  refine ⟨i,x,first,rfl,hi,f1,f5,?_⟩
  simp only [bS,Bool.not_true,cond_false]
  rw [hx]
  simp only [bS]
  rw [fit_eq hN _ _ hv hs.v]
  cases hf:fitV x.Fields vs with
  | false=>exact .inl ⟨rfl,rfl⟩
  | true =>
   right
   have hlen:x.Fields.length=vs.length:=by
    unfold fitV at hf
    simp only [Bool.and_eq_true,decide_eq_true_eq] at hf
    exact hf.1
   have hkl:(flat d).length=ks.length:=by
    unfold knownV at p4
    simp only [Bool.and_eq_true,decide_eq_true_eq] at p4
    exact p4.1
   refine ⟨rfl,by omega,?_⟩
   simp only [bS,Bool.not_true,cond_false]
   rw [behind_eq x vs ks first f1 (by omega) hk]
   rfl
end Gp
end
section
namespace Gp
open Go Go.Kx Gx
variable {N:Nat}
def nvV (l:List T12) (x:Int):Int:=bif decide (x < 0) then 0 else match idx l x with
 | some v=>vnum v
 | none=>0
def unkV (l:List T12) (x:Int):Bool:=bif decide (x < 0) then false else match idx l x with
 | some v=>v.Kind==0
 | none=>true
def diffV (l:List T12) (d:T1):Bool := !(unkV l d.X) && (!(unkV l d.Y) && !(decide (w64 (nvV l d.X-nvV l d.Y) > d.C)))
def eqV (l:List T12) (e:Int × Int):Bool:=match idx l e.1 with
 | some a=>match idx l e.2 with
  | some b => !(a.Kind==0) && (!(b.Kind==0) && (a.S.toList==b.S.toList))
  | none=>false
 | none=>false
def keepsV (g:T6) (l:List T12):Bool:=allV (fun d _=>diffV l d) g.Diffs 0 && allV (fun e _=>eqV l e) g.Equals 0
structure InG (n:Nat) (g:T6):Prop where
 d:∀ d∈g.Diffs,d.X < (n:Int)∧d.Y < (n:Int)
 e:∀ e∈g.Equals,(0≤e.1∧e.1 < (n:Int))∧(0≤e.2∧e.2 < (n:Int))
 dl:g.Diffs.length≤20
 el:g.Equals.length≤20
theorem textV_in {fl:List T4} {x:Int} (h:textV fl x=true):0≤x∧x < (fl.length:Int):=by
 unfold textV at h
 cases hc:idx fl x with
 | none=>rw [hc] at h;cases h
 | some f=>exact idx_some hc
theorem inG_of {fl:List T4} {g:T6} (h:guardV fl g=true):InG fl.length g:=by
 unfold guardV at h
 simp only [Bool.and_eq_true,decide_eq_true_eq] at h
 obtain ⟨⟨h1,h2⟩,h3,h4⟩:=h
 rw [allV_iff] at h3 h4
 refine ⟨fun d hd=>?_,fun e he=>?_,h1,h2⟩
 ·obtain ⟨i,hi⟩:=List.mem_iff_getElem?.1 hd
  have:=of_decide_eq_true (h3 i d hi)
  exact ⟨this.2.1,this.2.2.2.1⟩
 ·obtain ⟨i,hi⟩:=List.mem_iff_getElem?.1 he
  have:=h4 i e hi
  simp only [Bool.and_eq_true] at this
  exact ⟨textV_in this.1,textV_in this.2⟩
theorem side (l:List T12) {x:Int} (hx:x < (l.length:Int)):(decide (x < 0)=true∧decide (x≥0)=false∧unkV l x=false∧nvV l x=0) ∨
  (decide (x < 0)=false∧decide (x≥0)=true∧∃ v,idx l x=some v∧unkV l x=(v.Kind==0)∧nvV l x=vnum v):=by
 by_cases h:x < 0
 ·left
  have e:decide (x < 0)=true:=dT h
  refine ⟨e,dF (by omega),?_,?_⟩
  ·unfold unkV;rw [e];rfl
  ·unfold nvV;rw [e];rfl
 ·right
  have e:decide (x < 0)=false:=dF h
  obtain ⟨v,hv⟩:=idx_lt (L:=l) (v:=x) (by omega) hx
  refine ⟨e,dT (by omega),v,hv,?_,?_⟩
  ·unfold unkV;rw [e,hv];rfl
  ·unfold nvV;rw [e,hv];rfl
theorem l6_eq (l:List T12) (k:Int) (ag:Int→Option Bool) (d:T1) (hX:d.X < (l.length:Int)) (hY:d.Y < (l.length:Int)) (n:Nat) :
  z81_l6 N l k ag d (n+3) 0 0 0=bif diffV l d then ag (w64 (k+1)) else some false:=by
 have w1:w64 ((0:Int)+1)=1:=rfl
 have w2:w64 ((1:Int)+1)=2:=rfl
 have i0:idx ([d.X,d.Y]:List Int) 0=some d.X:=rfl
 have i1:idx ([d.X,d.Y]:List Int) 1=some d.Y:=rfl
 have d0:decide ((0:Int) < 2)=true:=rfl
 have d1:decide ((1:Int) < 2)=true:=rfl
 have d2:decide ((2:Int) < 2)=false:=rfl
 have b0:((0:Int)==0)=true:=rfl
 have b1:((1:Int)==0)=false:=rfl
 have b2:((1:Int)==1)=true:=rfl
 have fin:∀ a b:Int,z81_l6 N l k ag d (n+1) a b 2=bif !(decide (w64 (a-b) > d.C)) then ag (w64 (k+1)) else some false:=fun a b=>by
  rw [z81_l6,d2]
  simp only [cond_false,z81_k5]
  cases decide (w64 (a-b) > d.C)<;>rfl
 have sec:∀ a:Int,z81_l6 N l k ag d (n+2) a 0 1=bif !(unkV l d.Y) && !(decide (w64 (a-nvV l d.Y) > d.C)) then ag (w64 (k+1)) else some false:=fun a=>by
  rw [z81_l6,d1]
  simp only [cT,i1,bS,w2]
  rcases side l hY with ⟨h1,_,h3,h4⟩ | ⟨h1,_,v,hv,h3,h4⟩
  ·rw [h1,h3,h4]
   simp only [cT]
   rw [fin]
   rfl
  ·rw [h1,h3,h4,hv]
   simp only [cond_false,bS]
   cases v.Kind==0 with
   | true=>rfl
   | false =>
    simp only [cond_false,number_eq,bS,b1,b2,cT]
    rw [fin]
    rfl
 rw [z81_l6,d0]
 simp only [cT,i0,bS,w1]
 unfold diffV
 rcases side l hX with ⟨h1,_,h3,h4⟩ | ⟨h1,_,v,hv,h3,h4⟩
 ·rw [h1,h3,h4]
  simp only [cT]
  rw [sec]
  rfl
 ·rw [h1,h3,h4,hv]
  simp only [cond_false,bS]
  cases v.Kind==0 with
  | true=>rfl
  | false =>
   simp only [cond_false,number_eq,bS,b0,cT]
   rw [sec]
   rfl
theorem equals_eq (hN:4194304 < N) (g:T6) (l:List T12) (hg:InG l.length g):z81_l2 g l N (0:Int)=some (allV (fun e _=>eqV l e) g.Equals 0):=by
 have hel:=hg.el
 have h:=allV_from (fun (e:Int × Int) _=>eqV l e) (xs:=g.Equals) (F:=z81_l2 g l) (e:=some true) (n:=N) (by omega) (by
  intro n k e hk he
  obtain ⟨⟨a1,a2⟩,a3,a4⟩:=hg.e e (List.mem_of_getElem? he)
  obtain ⟨a,ha⟩:=idx_lt (L:=l) a1 a2
  obtain ⟨b,hb⟩:=idx_lt (L:=l) a3 a4
  rw [z81_l2,lt_t hk,w64_succ (by omega)]
  simp only [cT,idx_nat,he,bS,ha,hb,eqV]
  cases (a.Kind==0)<;>cases (b.Kind==0)<;>cases (a.S.toList==b.S.toList)<;>rfl) (by
  intro n k hk
  rw [z81_l2,lt_f hk];rfl)
 rw [h]
 cases allV (fun (e:Int × Int) _=>eqV l e) g.Equals 0<;>rfl
theorem fulfils_eq (hN:4194304 < N) (g:T6) (l:List T12) (hg:InG l.length g):z81 N g l=some (keepsV g l):=by
 have hdl:=hg.dl
 have h:=allV_from (fun (d:T1) _=>diffV l d) (xs:=g.Diffs) (F:=z81_l4 N g l) (e:=z81_k3 N g l) (n:=N) (by omega) (by
  intro n k d hk hd
  obtain ⟨a1,a2⟩:=hg.d d (List.mem_of_getElem? hd)
  rw [z81_l4,lt_t hk]
  simp only [cT,idx_nat,hd,bS]
  have:=l6_eq (N:=N) l (k:Int) (z81_l4 N g l n) d a1 a2 (N-3)
  rw [show N-3+3=N by omega] at this
  rw [this,w64_succ (by omega)]) (by
  intro n k hk
  rw [z81_l4,lt_f hk];rfl)
 unfold z81 keepsV
 rw [h]
 cases allV (fun (d:T1) _=>diffV l d) g.Diffs 0 with
 | false=>rfl
 | true=>exact equals_eq hN g l hg
def checkV (d:List T0) (label:Int) (vs ks:List T12):Bool:=properV d label ks && (match idx d label with
 | some x=>fitV x.Fields vs && keepsV x.Guard (behindV x.First.toNat vs ks)
 | none=>false)
theorem guard_of {fl:List T4} {d:List T0} {x:T0} {i:Nat} (h:declV fl d x i=true):guardV fl x.Guard=true:=by
 unfold declV at h
 simp only [Bool.and_eq_true] at h
 exact h.2.2.2.2.2
theorem known_len {fl:List T4} {ks:List T12} (h:knownV fl ks=true):fl.length=ks.length:=by
 unfold knownV at h
 simp only [Bool.and_eq_true,decide_eq_true_eq] at h
 exact h.1
theorem fit_len {fl:List T4} {ks:List T12} (h:fitV fl ks=true):fl.length=ks.length:=by
 unfold fitV at h
 simp only [Bool.and_eq_true,decide_eq_true_eq] at h
 exact h.1
theorem check_eq (hN:4194304 < N) (d:List T0) (hl:d.length≤1000) (hd:∀ x∈d,SizeD x) (hn:∀ x∈d,NameD x) (label:Int) (vs ks:List T12) (hv:vs.length≤4194304) (hk:ks.length≤4194304) (hs:SizeC vs ks) :
  z35 N d label vs ks=some (checkV d label vs ks):=by
 unfold z35 checkV
 rw [proper_eq hN d hl hd hn label ks hk hs.k]
 cases hp:properV d label ks with
 | false=>rfl
 | true =>
  unfold properV at hp
  simp only [Bool.and_eq_true,decide_eq_true_eq] at hp
  obtain ⟨⟨p1,p2⟩,p3,p4⟩:=hp
  obtain ⟨x,hx⟩:=idx_lt p1 p2
  obtain ⟨i,rfl,hi⟩:=idx_mem hx
  obtain ⟨first,f1,f2,f3,f4,f5⟩:=valid_at p3 hi
  simp only [bS,Bool.not_true,cond_false]
  rw [hx]
  simp only [bS]
  rw [fit_eq hN _ _ hv hs.v]
  cases hf:fitV x.Fields vs with
  | false=>rfl
  | true =>
   have e1:=fit_len hf
   have e2:=known_len p4
   simp only [bS,Bool.not_true,cond_false,Bool.true_and]
   rw [behind_eq x vs ks first f1 (by omega) hk]
   simp only [bS]
   have ef:x.First.toNat=first:=by omega
   rw [ef,fulfils_eq hN x.Guard _ (by rw [behind_len first vs ks (by omega),← e2];exact inG_of (guard_of f5))]
   rfl
end Gp
end
end
section
namespace Gp
open Go Go.Kx Gx
variable {N:Nat}
theorem gValid_some (hN:4194304 < N) (g:T5) (hg:SizeG g) (hs:SizeN g):∃ b,z141 N g=some b∧(b=true→validD g.Decls=true):=by
 unfold z141
 rw [named_eq hN g hg hs,numbered_eq hN g hg.e,declared_eq hN g.Decls hg.d hg.dd hs.d,ordered_eq hN g hg.e,timed_eq hN g hg.t]
 simp only [bS]
 cases h1:namedV g
 ·exact ⟨false,by simp,fun h=>by cases h⟩
 cases h2:numV g
 ·exact ⟨false,by simp,fun h=>by cases h⟩
 cases h3:validD g.Decls
 ·exact ⟨false,by simp,fun h=>by cases h⟩
 rw [orderV_eq]
 obtain ⟨o1,o2,o3,o4,o5,o6,o7⟩:=numV_head h2
 obtain ⟨F,f1,f2⟩:=spread_eq hN g h2 false g.Start o3 o4
 obtain ⟨L,l1,l2⟩:=spread_eq hN g h2 true g.End o5 o6
 rw [f1,l1]
 have cF:=containsInt_eq hN F (by rw [f2.len];omega) (-1)
 have cL:=containsInt_eq hN L (by rw [l2.len];omega) (-1)
 simp only [bS,cF,cL]
 cases apartV g<;>cases (g.Edges.all fun x => !(x.From==g.End))<;>cases timeV g<;>cases (F.any fun d=>d==-1)<;>cases (L.any fun d=>d==-1)<;>exact ⟨_,rfl,fun _=>by first | trivial | rfl⟩
end Gp
end
section
namespace Gp
open Go Go.Kx Gx
variable {N:Nat}
def stM (m:T8) (n:Int):Bool:=decide (n≥0) && decide (n < m.States)
theorem state_eq (m:T8) (n:Int):z214 N m n=some (stM m n):=by
 unfold z214 stM
 cases decide (n≥0)<;>rfl
def moveM (m:T8) (x:T9):Bool:=stM m x.From && (stM m x.To && (!decide (x.Peer < 0) && (!decide (x.Peer≥6) && (!(x.Peer==m.Role) && (!decide (x.Label < 0) && !decide (x.Label≥40))))))
def numM (m:T8):Bool := !decide (m.Role < 0) && (!decide (m.Role≥6) && (!decide (m.States < 1) && (!decide (m.States > 200) && (stM m m.Start && (!((m.Finals.length:Int) != m.States) && (!decide ((m.Moves.length:Int) > 400) && allV (fun x _=>moveM m x) m.Moves 0))))))
theorem mnum_eq (hN:4194304 < N) (m:T8):z147 N m=some (numM m):=by
 unfold z147 numM
 rw [state_eq]
 cases decide (m.Role < 0)
 case true=>rfl
 cases decide (m.Role≥6)
 case true=>rfl
 cases decide (m.States < 1)
 case true=>rfl
 cases decide (m.States > 200)
 case true=>rfl
 cases stM m m.Start
 case false=>rfl
 cases ((m.Finals.length:Int) != m.States)
 case true=>rfl
 cases h:decide ((m.Moves.length:Int) > 400)
 case true=>rfl
 simp only [decide_eq_false_iff_not] at h
 have:=allV_from (fun (x:T9) _=>moveM m x) (xs:=m.Moves) (F:=z147_l2 N m) (e:=some true) (n:=N) (by omega) (by
  intro n k x hk hx
  rw [z147_l2,lt_t hk,w64_succ (by omega)]
  simp only [cT,idx_nat,hx,bS,state_eq]
  unfold moveM
  cases stM m x.From
  case false=>rfl
  cases stM m x.To
  case false=>rfl
  cases decide (x.Peer < 0)
  case true=>rfl
  cases decide (x.Peer≥6)
  case true=>rfl
  cases (x.Peer==m.Role)
  case true=>rfl
  cases decide (x.Label < 0)
  case true=>rfl
  cases decide (x.Label≥40)<;>rfl) (by
  intro n k hk
  rw [z147_l2,lt_f hk]
  rfl)
 show z147_l2 N m N 0=_
 rw [this]
 cases allV (fun (x:T9) _=>moveM m x) m.Moves 0<;>rfl
structure NumM (m:T8):Prop where
 r0:0≤m.Role
 r1:m.Role < 6
 s0:1≤m.States
 s1:m.States≤200
 b0:0≤m.Start
 b1:m.Start < m.States
 f:(m.Finals.length:Int)=m.States
 n:m.Moves.length≤400
 mv:∀ x∈m.Moves,(0≤x.From∧x.From < m.States)∧(0≤x.To∧x.To < m.States)∧(0≤x.Peer∧x.Peer < 6)∧x.Peer≠m.Role∧0≤x.Label∧x.Label < 40
theorem numM_iff (m:T8):numM m=true↔NumM m:=by
 unfold numM stM
 simp only [Bool.and_eq_true,Bool.not_eq_true',decide_eq_false_iff_not,decide_eq_true_eq,bne_eq_false_iff_eq,allV_iff]
 constructor
 ·rintro ⟨h1,h2,h3,h4,⟨h5,h6⟩,h7,h8,h9⟩
  refine ⟨by omega,by omega,by omega,by omega,by omega,h6,h7,by omega,fun x hx=>?_⟩
  obtain ⟨i,hi⟩:=List.getElem?_of_mem hx
  have:=h9 i x hi
  unfold moveM stM at this
  simp only [Bool.and_eq_true,Bool.not_eq_true',decide_eq_false_iff_not,decide_eq_true_eq,beq_eq_false_iff_ne,ne_eq] at this
  obtain ⟨⟨a1,a2⟩,⟨a3,a4⟩,a5,a6,a7,a8,a9⟩:=this
  exact ⟨⟨by omega,a2⟩,⟨by omega,a4⟩,⟨by omega,by omega⟩,a7,by omega,by omega⟩
 ·intro h
  have:=h.n
  refine ⟨by have:=h.r0;omega,by have:=h.r1;omega,by have:=h.s0;omega,by have:=h.s1;omega,⟨by have:=h.b0;omega,h.b1⟩,h.f,by omega,fun i x hx=>?_⟩
  obtain ⟨⟨a1,a2⟩,⟨a3,a4⟩,⟨a5,a6⟩,a7,a8,a9⟩:=h.mv x (List.mem_of_getElem? hx)
  unfold moveM stM
  simp only [Bool.and_eq_true,Bool.not_eq_true',decide_eq_false_iff_not,decide_eq_true_eq,beq_eq_false_iff_ne,ne_eq]
  exact ⟨⟨by omega,a2⟩,⟨by omega,a4⟩,by omega,by omega,a7,by omega,by omega⟩
def cI (x y:Int):Int:=bif decide (x < y) then -1 else bif decide (x > y) then 1 else 0
def cmpM (x y:T9):Int:=bif !(x.Send==y.Send) then (bif x.Send then -1 else 1) else bif (cI x.Peer y.Peer != 0) then cI x.Peer y.Peer else bif (cI x.Label y.Label != 0) then cI x.Label y.Label else 0
theorem cI_eq (x y:Int):z212 N x y=some (cI x y):=by
 unfold z212 z260 cI
 simp only [bS,bne_self_eq_false,cond_false]
 cases decide (x < y)<;>cases decide (x > y)<;>rfl
theorem or_eq (hN:4194304 < N) (a b:Int):z211 N [a,b]=some (bif (a != 0) then a else bif (b != 0) then b else 0):=by
 obtain ⟨n,rfl⟩:∃ n,N=n+3:=⟨N-3,by omega⟩
 unfold z211
 rw [z211_l2,z211_l2,z211_l2]
 have w0:w64 ((0:Int)+1)=1:=by decide
 have w1:w64 ((1:Int)+1)=2:=by decide
 rw [w0,w1]
 have i0:idx [a,b] 0=some a:=rfl
 have i1:idx [a,b] 1=some b:=rfl
 rw [i0,i1]
 have l0:decide ((0:Int) < (([a,b]:List Int).length:Int))=true:=rfl
 have l1:decide ((1:Int) < (([a,b]:List Int).length:Int))=true:=rfl
 have l2:decide ((2:Int) < (([a,b]:List Int).length:Int))=false:=rfl
 rw [l0,l1,l2]
 simp only [cT,cond_false,bS]
 cases (a != 0)<;>cases (b != 0)<;>rfl
theorem ecmp_eq (hN:4194304 < N) (x y:T9):z156 N ⟨x.Send,x.Peer,x.Label⟩ ⟨y.Send,y.Peer,y.Label⟩=some (cmpM x y):=by
 unfold z156 cmpM
 rw [cI_eq,cI_eq]
 simp only [bS,or_eq hN]
 cases (x.Send==y.Send)
 ·cases x.Send<;>rfl
 ·cases (cI x.Peer y.Peer != 0)<;>cases (cI x.Label y.Label != 0)<;>rfl
def ltM (x y:T9):Prop:=(x.Send=true∧y.Send=false)∨(x.Send=y.Send∧(x.Peer < y.Peer∨(x.Peer=y.Peer∧x.Label < y.Label)))
theorem cI_cases (x y:Int):(x < y∧cI x y=-1)∨(x > y∧cI x y=1)∨(x=y∧cI x y=0):=by
 unfold cI
 by_cases h1:x < y
 ·exact .inl ⟨h1,by rw [dT h1];rfl⟩
 ·by_cases h2:x > y
  ·exact .inr (.inl ⟨h2,by rw [dF h1,dT h2];rfl⟩)
  ·exact .inr (.inr ⟨by omega,by rw [dF h1,dF h2];rfl⟩)
theorem cmpM_lt (x y:T9):cmpM x y < 0↔ltM x y:=by
 unfold cmpM ltM
 rcases cI_cases x.Peer y.Peer with ⟨p,hp⟩ | ⟨p,hp⟩ | ⟨p,hp⟩<;>rcases cI_cases x.Label y.Label with ⟨q,hq⟩ | ⟨q,hq⟩ | ⟨q,hq⟩<;>rw [hp,hq] <;>
  cases x.Send<;>cases y.Send<;>simp<;>omega
theorem cmp1_eq (hN:4194304 < N) (m:T8) {i k:Nat} {x y:T9} (hi:m.Moves[i]? = some x) (hk:m.Moves[k]? = some y):z216_8 N (i:Int) (k:Int) m=some (cmpM x y):=by
 unfold z216_8
 simp only [idx_nat,hi,hk,bS,z155,ecmp_eq hN]
end Gp
end
section
namespace Gp
open Go Go.Kx Gx
variable {N:Nat}
def fromB (m:T8) (s k:Nat):Bool:=match m.Moves[k]? with
 | some x=>x.From==(s:Int)
 | none=>false
def ixM (m:T8) (n s:Nat):List Int:=((List.range n).filter (fromB m s)).map fun (k:Nat)=>(k:Int)
theorem ixM_succ (m:T8) (n s:Nat):ixM m (n+1) s=ixM m n s++(if fromB m s n=true then [(n:Int)] else []):=by
 unfold ixM
 rw [List.range_succ,List.filter_append,List.map_append]
 congr 1
 by_cases h:fromB m s n=true
 ·simp [h]
 ·simp [h]
theorem ixM_mem {m:T8} {n s:Nat} {i:Int} (h:i∈ixM m n s):∃ k x,i=((k:Nat):Int)∧k < n∧m.Moves[k]? = some x∧x.From=(s:Int):=by
 unfold ixM at h
 obtain ⟨k,hk,rfl⟩:=List.mem_map.1 h
 obtain ⟨h1,h2⟩:=List.mem_filter.1 hk
 unfold fromB at h2
 split at h2
 ·rename_i x hx;exact ⟨k,x,rfl,List.mem_range.1 h1,hx,eq_of_beq h2⟩
 ·cases h2
theorem ixM_len (m:T8) (n s:Nat):(ixM m n s).length≤n:=by
 unfold ixM
 rw [List.length_map]
 have:=List.length_filter_le (fromB m s) (List.range n)
 rw [List.length_range] at this
 exact this
def cfM (N:Nat) (m:T8):Int→Int→Int:=machine_sorted_cf N m
theorem ltM_irr (x:T9):¬ ltM x x:=by
 unfold ltM
 cases x.Send<;>simp
theorem ltM_tr {x y z:T9} (h1:ltM x y) (h2:ltM y z):ltM x z:=by
 unfold ltM at *
 revert h1 h2
 cases x.Send<;>cases y.Send<;>cases z.Send<;>simp<;>omega
theorem ltM_ntr {x y z:T9} (h1:¬ ltM x y) (h2:¬ ltM y z):¬ ltM x z:=by
 unfold ltM at *
 revert h1 h2
 cases x.Send<;>cases y.Send<;>cases z.Send<;>simp<;>omega
theorem ok_eq (hN:4194304 < N) (m:T8) (n s:Nat) (hn:n≤m.Moves.length) (hb:n≤4194304):machine_sorted_ok N m (ixM m n s)=true:=by
 unfold machine_sorted_ok
 have hc:∀ a b,a∈ixM m n s→b∈ixM m n s→∃ x y,z216_8 N a b m=some (cmpM x y)∧m.Moves[a.toNat]? = some x∧m.Moves[b.toNat]? = some y:=fun a b ha hb=>by
  obtain ⟨k,x,rfl,_,hx,_⟩:=ixM_mem ha
  obtain ⟨l,y,rfl,_,hy,_⟩:=ixM_mem hb
  exact ⟨x,y,cmp1_eq hN m hx hy,by simpa using hx,by simpa using hy⟩
 have hl:∀ a b x y,a∈ixM m n s→b∈ixM m n s→m.Moves[a.toNat]? = some x→m.Moves[b.toNat]? = some y→(decide (machine_sorted_cf N m a b < 0)=true↔ltM x y):=fun a b x y ha hb hx hy=>by
  obtain ⟨x',y',h,hx',hy'⟩:=hc a b ha hb
  rw [hx] at hx';rw [hy] at hy'
  cases hx';cases hy'
  unfold machine_sorted_cf
  rw [h,decide_eq_true_eq]
  exact cmpM_lt x y
 have hm:∀ a,a∈ixM m n s→∃ x,m.Moves[a.toNat]? = some x:=fun a ha=>by obtain ⟨x,_,_,h,_⟩:=hc a a ha ha;exact ⟨x,h⟩
 rw [Bool.and_eq_true,Bool.and_eq_true]
 refine ⟨List.all_eq_true.2 fun a ha=>List.all_eq_true.2 fun b hb=>?_,?_,?_⟩
 ·obtain ⟨x,y,h,_⟩:=hc a b ha hb
  rw [h];rfl
 ·unfold swoB
  refine List.all_eq_true.2 fun a ha=>?_
  obtain ⟨x,hx⟩:=hm a ha
  rw [Bool.and_eq_true]
  refine ⟨?_,List.all_eq_true.2 fun b hb=>List.all_eq_true.2 fun c hc'=>?_⟩
  ·have:=hl a a x x ha ha hx hx
   show (!decide (machine_sorted_cf N m a a < 0))=true
   cases hd:decide (machine_sorted_cf N m a a < 0)
   ·rfl
   ·exact absurd (this.1 hd) (ltM_irr x)
  ·obtain ⟨y,hy⟩:=hm b hb
   obtain ⟨z,hz⟩:=hm c hc'
   have l1:=hl a b x y ha hb hx hy
   have l2:=hl b c y z hb hc' hy hz
   have l3:=hl a c x z ha hc' hx hz
   show ((!(decide (machine_sorted_cf N m a b < 0) && decide (machine_sorted_cf N m b c < 0)) || decide (machine_sorted_cf N m a c < 0)) && (decide (machine_sorted_cf N m a b < 0) || decide (machine_sorted_cf N m b c < 0) || !decide (machine_sorted_cf N m a c < 0)))=true
   cases d1:decide (machine_sorted_cf N m a b < 0)<;>cases d2:decide (machine_sorted_cf N m b c < 0)<;>cases d3:decide (machine_sorted_cf N m a c < 0)<;>try rfl
   ·exfalso
    rw [d1] at l1;rw [d2] at l2;rw [d3] at l3
    exact ltM_ntr (fun h=>by have:=l1.2 h;cases this) (fun h=>by have:=l2.2 h;cases this) (l3.1 rfl)
   ·exfalso
    rw [d1] at l1;rw [d2] at l2;rw [d3] at l3
    have:=l3.2 (ltM_tr (l1.1 rfl) (l2.1 rfl))
    cases this
 ·rw [decide_eq_true_eq]
  have:=ixM_len m n s
  omega
def outK (m:T8) (n:Nat):List (List Int):=(List.range m.States.toNat).map (ixM m n)
theorem outK_get (m:T8) (n s:Nat) (hs:s < m.States.toNat):(outK m n)[s]? = some (ixM m n s):=by
 unfold outK
 rw [List.getElem?_map,List.getElem?_range hs];rfl
theorem fill_eq (hN:4194304 < N) (m:T8) (hm:NumM m):∀ (r:List T9) (n k:Nat),m.Moves.drop k=r→r.length < n→z148_l1 N m n (outK m k) (k:Int)=z148_l2 N m N (outK m m.Moves.length) 0:=by
  intro r
  induction r with
  | nil =>
    intro n k hr hn
    have hk:m.Moves.length≤k:=List.drop_eq_nil_iff.1 hr
    obtain ⟨n,rfl⟩:∃ q,n=q+1:=⟨n-1,by simp at hn;omega⟩
    rw [z148_l1,lt_f hk]
    show z148_l2 N m N (outK m k) 0=_
    congr 1
    unfold outK
    refine List.map_congr_left fun s _=>?_
    obtain ⟨d,rfl⟩:=Nat.le.dest hk
    clear hr hk hn
    induction d with
    | zero=>rfl
    | succ d ih =>
      rw [show m.Moves.length+(d+1)=m.Moves.length+d+1 by omega,ixM_succ,ih]
      have:fromB m s (m.Moves.length+d)=false:=by
        unfold fromB
        rw [List.getElem?_eq_none (by omega)]
      rw [this];simp
  | cons x r ih =>
    intro n k hr hn
    obtain ⟨n,rfl⟩:∃ q,n=q+1:=⟨n-1,by simp at hn;omega⟩
    have hk:k < m.Moves.length:=by
      refine Nat.not_le.1 fun h=>?_
      rw [List.drop_eq_nil_iff.2 h] at hr;cases hr
    have hx:m.Moves[k]? = some x:=by
      have:=congrArg (·[0]?) hr
      simpa using this
    have hnm:=hm.n
    obtain ⟨⟨f0,f1⟩,_⟩:=hm.mv x (List.mem_of_getElem? hx)
    obtain ⟨j,hj⟩:=Int.eq_ofNat_of_zero_le f0
    have hjs:j < m.States.toNat:=by omega
    rw [z148_l1,lt_t hk,idx_nat,hx,w64_succ (by omega)]
    simp only [cT,bS]
    rw [hj,idx_nat,outK_get m k j hjs]
    simp only [bS]
    rw [appL_some (by have:=ixM_len m k j;simp;omega)]
    simp only [bS,Int.toNat_natCast]
    have e:(outK m k).set j (ixM m k j++[(k:Int)])=outK m (k+1):=by
      apply List.ext_getElem?
      intro s
      rw [List.getElem?_set]
      by_cases hs:s < m.States.toNat
      · rw [outK_get m (k+1) s hs,ixM_succ]
        have hb:fromB m s k=decide (j=s):=by
          unfold fromB
          rw [hx]
          show (x.From==(s:Int))=_
          rw [hj]
          by_cases e:j=s
          · subst e;simp
          · simp [e];omega
        rw [hb]
        by_cases e:j=s
        · subst e
          have:j < (outK m k).length:=by unfold outK;simpa using hjs
          simp [this]
        · simp only [e,if_false,decide_false,Bool.false_eq_true,List.append_nil]
          exact outK_get m k s hs
      · have l1:(outK m (k+1))[s]? = none:=by unfold outK;rw [List.getElem?_eq_none];simp;omega
        rw [l1]
        have:¬ j=s:=by omega
        simp only [this,if_false]
        unfold outK;rw [List.getElem?_eq_none];simp;omega
    rw [e]
    refine ih n (k+1) ?_ (by simp at hn;omega)
    have:=congrArg (List.drop 1) hr
    simpa [List.drop_drop,Nat.add_comm] using this
def outS (N:Nat) (m:T8) (j:Nat):List (List Int):=(List.range m.States.toNat).map fun s=>bif decide (s < j) then sortP (cfM N m) (ixM m m.Moves.length s) else ixM m m.Moves.length s
def outM (N:Nat) (m:T8):List (List Int):=(List.range m.States.toNat).map fun s=>sortP (cfM N m) (ixM m m.Moves.length s)
theorem sort_loop (hN:4194304 < N) (m:T8) (hm:NumM m):∀ (d n j:Nat),m.States.toNat-j=d→d < n→z148_l2 N m n (outS N m j) (j:Int)=some ⟨m,outM N m⟩:=by
 intro d
 have hlen:∀ j,(outS N m j).length=m.States.toNat:=fun j=>by unfold outS;simp
 have hs1:=hm.s1
 have hnm:=hm.n
 induction d with
 | zero =>
  intro n j hd hn
  obtain ⟨n,rfl⟩:∃ q,n=q+1:=⟨n-1,by omega⟩
  rw [z148_l2,lt_f (by rw [hlen];omega)]
  show some (⟨m,outS N m j⟩:T16)=_
  congr 2
  unfold outS outM
  refine List.map_congr_left fun s hs=>?_
  have:=List.mem_range.1 hs
  rw [dT (by omega:s < j)];rfl
 | succ d ih =>
  intro n j hd hn
  obtain ⟨n,rfl⟩:∃ q,n=q+1:=⟨n-1,by omega⟩
  have hj:j < m.States.toNat:=by omega
  have hg:(outS N m j)[j]? = some (ixM m m.Moves.length j):=by
   unfold outS
   rw [List.getElem?_map,List.getElem?_range hj]
   simp
  rw [z148_l2,lt_t (by rw [hlen];exact hj),idx_nat,hg,w64_succ (by omega)]
  simp only [cT,bS,ok_eq hN m m.Moves.length j (Nat.le_refl _) (by omega),Int.toNat_natCast]
  have e:(outS N m j).set j (sortP (machine_sorted_cf N m) (ixM m m.Moves.length j))=outS N m (j+1):=by
   apply List.ext_getElem?
   intro s
   rw [List.getElem?_set]
   by_cases hs:s < m.States.toNat
   ·have g:∀ q,(outS N m q)[s]? = some (bif decide (s < q) then sortP (cfM N m) (ixM m m.Moves.length s) else ixM m m.Moves.length s):=fun q=>by
     unfold outS;rw [List.getElem?_map,List.getElem?_range hs];rfl
    rw [g,g]
    by_cases e:j=s
    ·subst e
     rw [dT (Nat.lt_succ_self _)]
     simp [hlen,hj,cfM]
    ·simp only [e,if_false]
     by_cases h:s < j
     ·rw [dT h,dT (by omega:s < j+1)]
     ·rw [dF h,dF (by omega:¬ s < j+1)]
   ·have l1:∀ q,(outS N m q)[s]? = none:=fun q=>by rw [List.getElem?_eq_none];rw [hlen];omega
    rw [l1,l1]
    have:¬ j=s:=by omega
    simp only [this,if_false]
  rw [e]
  exact ih n (j+1) (by omega) (by omega)
theorem msorted_eq (hN:4194304 < N) (m:T8) (hm:NumM m):z148 N m=some ⟨m,outM N m⟩:=by
 unfold z148
 have h0:=hm.s0
 have h1:=hm.s1
 have e:mkL () m.States m.States=some (List.replicate m.States.toNat ()):=by
  unfold mkL
  rw [dT (by omega:0≤m.States),dT (by omega:m.States≤m.States),dT (by omega:m.States≤4294967296)];rfl
 rw [e]
 simp only [bS,List.length_replicate]
 have e2:(List.replicate m.States.toNat ()).isEmpty=false:=by
  rw [List.isEmpty_eq_false_iff]
  intro h
  have:=congrArg List.length h
  simp at this;omega
 rw [e2]
 simp only [cond_false]
 have e3:List.replicate m.States.toNat ([]:List Int)=outK m 0:=by
  unfold outK ixM
  apply List.ext_getElem?
  intro s
  rw [List.getElem?_replicate,List.getElem?_map]
  by_cases hs:s < m.States.toNat
  ·rw [if_pos hs,List.getElem?_range hs];rfl
  ·rw [if_neg hs,List.getElem?_eq_none (by simpa using hs)];rfl
 have:=fill_eq hN m hm m.Moves N 0 rfl (by have:=hm.n;omega)
 rw [e3]
 rw [show ((0:Nat):Int)=0 from rfl] at this
 rw [this]
 have e4:outK m m.Moves.length=outS N m 0:=by
  unfold outK outS
  refine List.map_congr_left fun s _=>?_
  simp
 rw [e4]
 exact sort_loop hN m hm m.States.toNat N 0 rfl (by omega)
theorem outM_get (N:Nat) (m:T8) (s:Nat) (hs:s < m.States.toNat):(outM N m)[s]? = some (sortP (cfM N m) (ixM m m.Moves.length s)):=by
 unfold outM
 rw [List.getElem?_map,List.getElem?_range hs];rfl
theorem outM_len (N:Nat) (m:T8):(outM N m).length=m.States.toNat:=by unfold outM;simp
theorem outM_perm (hN:4194304 < N) (m:T8) (hm:NumM m) (s:Nat):(sortP (cfM N m) (ixM m m.Moves.length s)).Perm (ixM m m.Moves.length s) ∧
  ∀ (i j:Nat) (a b:Int),i < j→(sortP (cfM N m) (ixM m m.Moves.length s))[i]? = some a→(sortP (cfM N m) (ixM m m.Moves.length s))[j]? = some b→¬ cfM N m b a < 0:=by
 have h:=ok_eq hN m m.Moves.length s (Nat.le_refl _) (by have:=hm.n;omega)
 unfold machine_sorted_ok at h
 rw [Bool.and_eq_true,Bool.and_eq_true] at h
 exact sort_is _ _ (swo_of h.2.1)
end Gp
end
section
namespace Gp
open Go Go.Kx Gx
variable {N:Nat}
theorem tot_from {β:Type} {F:Nat→Int→Option β} {len:Nat} (h1:∀ n k,k < len→(∃ b,F n ((k+1:Nat):Int)=some b)→∃ b,F (n+1) (k:Int)=some b)
  (h2:∀ n k,len≤k→∃ b,F (n+1) (k:Int)=some b):∀ (d n k:Nat),len-k=d→d < n→∃ b,F n (k:Int)=some b:=by
 intro d
 induction d with
 | zero =>
  intro n k hd hn
  obtain ⟨n,rfl⟩:∃ q,n=q+1:=⟨n-1,by omega⟩
  exact h2 n k (by omega)
 | succ d ih =>
  intro n k hd hn
  obtain ⟨n,rfl⟩:∃ q,n=q+1:=⟨n-1,by omega⟩
  exact h1 n k (by omega) (ih n (k+1) (by omega) (by omega))
theorem tot_lo {β:Type} {F:Nat→Int→Option β} {len lo:Nat} (h1:∀ n k,lo≤k→k < len→(∃ b,F n ((k+1:Nat):Int)=some b)→∃ b,F (n+1) (k:Int)=some b)
  (h2:∀ n k,len≤k→∃ b,F (n+1) (k:Int)=some b):∀ (d n k:Nat),len-k=d→d < n→lo≤k→∃ b,F n (k:Int)=some b:=by
 intro d
 induction d with
 | zero =>
  intro n k hd hn _
  obtain ⟨n,rfl⟩:∃ q,n=q+1:=⟨n-1,by omega⟩
  exact h2 n k (by omega)
 | succ d ih =>
  intro n k hd hn hl
  obtain ⟨n,rfl⟩:∃ q,n=q+1:=⟨n-1,by omega⟩
  exact h1 n k hl (by omega) (ih n (k+1) (by omega) (by omega) (by omega))
theorem tot_bif {β:Type} {b:Bool} {x y:Option β} (h1:b=true→∃ r,x=some r) (h2:b=false→∃ r,y=some r):∃ r,(bif b then x else y)=some r:=by
 cases b with
 | true=>exact h1 rfl
 | false=>exact h2 rfl
theorem tot_some {β:Type} (b:β):∃ r,some b=some r:=⟨b,rfl⟩
structure TabM (t:T16) (m:T8):Prop where
 num:NumM m
 mm:t.Machine=m
 len:t.out'.length=m.States.toNat
 out:∀ (s:Nat) (l:List Int),t.out'[s]? = some l→l.length≤400∧∀ a∈l,∃ k x,a=((k:Nat):Int)∧m.Moves[k]? = some x∧x.From=(s:Int)
theorem tabM_of (hN:4194304 < N) (m:T8) (hm:NumM m):TabM ⟨m,outM N m⟩ m:=by
 refine ⟨hm,rfl,outM_len N m,fun s l h=>?_⟩
 have hs:s < m.States.toNat:=by
  have:=(List.getElem?_eq_some_iff.1 h).1
  rwa [outM_len] at this
 have h:(outM N m)[s]? = some l:=h
 rw [outM_get N m s hs] at h
 cases h
 obtain ⟨p,_⟩:=outM_perm hN m hm s
 refine ⟨by rw [p.length_eq];have:=ixM_len m m.Moves.length s;have:=hm.n;omega,fun a ha=>?_⟩
 obtain ⟨k,x,h1,_,h2,h3⟩:=ixM_mem (p.mem_iff.1 ha)
 exact ⟨k,x,h1,h2,h3⟩
variable {t:T16} {m:T8}
theorem det_some (hN:4194304 < N) (h:TabM t m):∃ b,z149 N t=some b:=by
 have hS:=h.num.s1
 have:=h.len
 refine tot_from (F:=z149_l2 N t) (len:=t.out'.length) (fun n k hk hi=>?_) (fun n k hk=>?_) _ N 0 rfl (by omega)
 ·rw [z149_l2,lt_t hk,idx_nat,List.getElem?_eq_getElem hk]
  simp only [cT,bS]
  obtain ⟨hl,ho⟩:=h.out k _ (List.getElem?_eq_getElem hk)
  generalize t.out'[k]=l at hl ho
  have hag:∃ b,z149_k3 (k:Int) (z149_l2 N t n)=some b:=by
   unfold z149_k3
   rw [w64_succ (by omega)];exact hi
  generalize z149_l2 N t n=ag at hag
  refine tot_lo (F:=z149_l4 N t (k:Int) ag l) (len:=l.length) (lo:=1) (fun n j hj1 hj hi=>?_) (fun n j hj=>?_) _ N 1 rfl (by omega) (Nat.le_refl _)
  ·rw [z149_l4,lt_t hj,w64_succ (by omega)]
   have g:∀ i:Nat,i < l.length→∃ x,((idx l (i:Int)).bind fun q=>idx t.Machine.Moves q)=some x:=fun i hi=>by
    obtain ⟨q,x,e1,e2,_⟩:=ho l[i] (List.getElem_mem hi)
    refine ⟨x,?_⟩
    rw [idx_nat,List.getElem?_eq_getElem hi]
    simp only [bS]
    rw [e1,idx_nat,h.mm];exact e2
   have w:w64 ((j:Int)-1)=((j-1:Nat):Int):=by rw [w64_id (by omega) (by omega)];omega
   simp only [cT]
   rw [w]
   obtain ⟨x,hx⟩:=g (j-1) (by omega)
   obtain ⟨y,hy⟩:=g j hj
   obtain ⟨a,ha,hx⟩:=Option.bind_eq_some_iff.1 hx
   obtain ⟨b,hb,hy⟩:=Option.bind_eq_some_iff.1 hy
   simp only [ha,hx,hb,hy,bS,z155]
   exact tot_bif (fun _=>tot_some _) fun _=>tot_bif (fun _=>tot_some _) fun _=>hi
  ·rw [z149_l4,lt_f hj]
   exact hag
 ·rw [z149_l2,lt_f hk]
  exact tot_some _
theorem again_some (hN:4194304 < N) (h:TabM t m):∃ b,z151 N t=some b:=by
 have hS:=h.num.s1
 have hn:=h.num.n
 have hlen:=h.len
 have hm:=h.mm
 subst hm
 refine tot_from (F:=z151_l2 N t) (len:=t.Machine.Moves.length) (fun n k hk hi=>?_) (fun n k hk=>?_) _ N 0 rfl (by omega)
 ·have hx:=List.getElem?_eq_getElem hk
  obtain ⟨⟨f0,f1⟩,_⟩:=h.num.mv _ (List.getElem_mem hk)
  rw [z151_l2,lt_t hk,idx_nat,hx,w64_succ (by omega)]
  generalize t.Machine.Moves[k]=x at *
  simp only [cT,bS]
  refine tot_bif (fun _=>hi) fun _=>tot_bif (fun _=>tot_some _) fun _=>?_
  obtain ⟨l,hl⟩:=idx_lt (L:=t.out') f0 (by omega)
  obtain ⟨b,hb⟩:=idx_lt (L:=t.Machine.Finals) f0 (by have:=h.num.f;omega)
  simp only [hl,hb,bS]
  refine tot_bif (fun _=>tot_some _) fun _=>tot_bif (fun _=>tot_some _) fun _=>tot_bif (fun _=>tot_some _) fun _=>?_
  have hag:∃ b,z151_k3 (k:Int) (z151_l2 N t n)=some b:=by
   unfold z151_k3
   rw [w64_succ (by omega)];exact hi
  generalize z151_l2 N t n=ag at hag
  refine tot_from (F:=z151_l4 t (k:Int) ag x) (len:=t.Machine.Moves.length) (fun n j hj hi=>?_) (fun n j hj=>?_) _ N 0 rfl (by omega)
  ·rw [z151_l4,lt_t hj,idx_nat,List.getElem?_eq_getElem hj,w64_succ (by omega)]
   simp only [cT,bS]
   exact tot_bif (fun _=>tot_bif (fun _=>tot_some _) fun _=>tot_bif (fun _=>tot_some _) fun _=>hi) fun _=>hi
  ·rw [z151_l4,lt_f hj]
   exact hag
 ·rw [z151_l2,lt_f hk]
  exact tot_some _
theorem timed_some (hN:4194304 < N) (h:TabM t m) (ht:m.Timeouts.length≤4194304):∃ b,z152 N t=some b:=by
 have hn:=h.num.n
 have hm:=h.mm
 subst hm
 refine tot_from (F:=z152_l2 t) (len:=t.Machine.Timeouts.length) (fun n k hk hi=>?_) (fun n k hk=>?_) _ N 0 rfl (by omega)
 ·have hx:=List.getElem?_eq_getElem hk
  rw [z152_l2,lt_t hk,idx_nat,hx]
  simp only [cT,bS]
  generalize t.Machine.Timeouts[k]=x at *
  have h3:∀ b:Bool,(b=false→0≤x.Else∧x.Else < (t.Machine.Moves.length:Int))→∃ r,z152_k3 t (k:Int) (z152_l2 t n) x b=some r:=fun b hb=>by
   unfold z152_k3
   refine tot_bif (fun _=>tot_some _) fun e=>?_
   obtain ⟨a1,a2⟩:=hb e
   obtain ⟨y,hy⟩:=idx_lt (L:=t.Machine.Moves) a1 a2
   simp only [hy,bS]
   refine tot_bif (fun _=>tot_some _) fun _=>tot_bif (fun _=>tot_some _) fun _=>tot_bif (fun _=>tot_some _) fun _=>?_
   rw [w64_succ (by omega)];exact hi
  have ht':∃ r,z152_k3 t (k:Int) (z152_l2 t n) x true=some r:=h3 true (fun e=>by cases e)
  have tail:∃ r,(bif decide (x.Ticks < 1) then z152_k3 t (k:Int) (z152_l2 t n) x true else bif decide (x.Ticks > 1000) then z152_k3 t (k:Int) (z152_l2 t n) x true
    else bif decide (x.Else < 0) then z152_k3 t (k:Int) (z152_l2 t n) x true else z152_k3 t (k:Int) (z152_l2 t n) x (decide (x.Else≥(t.Machine.Moves.length:Int))))=some r :=
   tot_bif (fun _=>ht') fun _=>tot_bif (fun _=>ht') fun _=>tot_bif (fun _=>ht') fun e=>h3 _ fun e2=>by
    simp only [decide_eq_false_iff_not] at e e2
    exact ⟨by omega,by omega⟩
  refine tot_bif (fun e=>?_) fun _=>tail
  have hk0:0 < k:=by simpa using e
  have w:w64 ((k:Int)-1)=((k-1:Nat):Int):=by rw [w64_id (by omega) (by omega)];omega
  rw [w,idx_nat,List.getElem?_eq_getElem (by omega:k-1 < t.Machine.Timeouts.length)]
  simp only [bS]
  exact tot_bif (fun _=>ht') fun _=>tail
 ·rw [z152_l2,lt_f hk]
  exact tot_some _
end Gp
end
section
namespace Gp
open Go Go.Kx Gx
variable {N:Nat}
structure InvR (S:Nat) (a:List Bool) (q:List Int):Prop where
 len:a.length=S
 qq:∀ i∈q,0≤i∧i < (S:Int)
 c:q.length+a.count false≤S
theorem InvR.add {S:Nat} {a:List Bool} {q:List Int} (h:InvR S a q) {j:Nat} (hj:a[j]? = some false):InvR S (a.set j true) (q++[(j:Int)]):=by
 obtain ⟨hl,he⟩:=List.getElem?_eq_some_iff.1 hj
 refine ⟨by simpa using h.len,fun i hi=>?_,?_⟩
 ·rcases List.mem_append.1 hi with hi | hi
  ·exact h.qq i hi
  ·rw [List.mem_singleton.1 hi];have:=h.len;omega
 ·have h1:0 < a.count false:=List.count_pos_iff.2 (List.mem_of_getElem? hj)
  have h2:=List.count_set (a:=true) (b:=false) (l:=a) hl
  rw [he] at h2
  have:=h.c
  simp at h2
  simp
  omega
variable {t:T16} {m:T8}
theorem reached_in (hN:4194304 < N) (h:TabM t m) (S:Nat) (hS:m.States=(S:Int)) (k:Nat) (ag:List Bool→List Int→Int→Option Bool) (hag:∀ a q,InvR S a q→∃ b,ag a q (w64 ((k:Int)+1))=some b)
  (l:List Int) (s:Nat) (hl:t.out'[s]? = some l):∀ (d n j:Nat) (a:List Bool) (q:List Int),InvR S a q→l.length-j=d→d < n→∃ b,z150_l4 t (k:Int) ag l n a q (j:Int)=some b:=by
 intro d
 obtain ⟨l1,l2⟩:=h.out s l hl
 have hs1:=h.num.s1
 induction d with
 | zero =>
  intro n j a q hi hd hn
  obtain ⟨n,rfl⟩:∃ q,n=q+1:=⟨n-1,by omega⟩
  rw [z150_l4,lt_f (by omega)]
  exact hag a q hi
 | succ d ih =>
  intro n j a q hi hd hn
  obtain ⟨n,rfl⟩:∃ q,n=q+1:=⟨n-1,by omega⟩
  have hj:j < l.length:=by omega
  obtain ⟨p,x,e1,e2,_⟩:=l2 l[j] (List.getElem_mem hj)
  obtain ⟨_,⟨t0,t1⟩,_⟩:=h.num.mv x (List.mem_of_getElem? e2)
  obtain ⟨c,hc⟩:=Int.eq_ofNat_of_zero_le t0
  have hcl:c < a.length:=by rw [hi.len];omega
  rw [z150_l4,lt_t hj,idx_nat,List.getElem?_eq_getElem hj,w64_succ (by omega)]
  simp only [cT,bS]
  rw [e1,idx_nat,h.mm,e2]
  simp only [bS]
  rw [hc,idx_nat,List.getElem?_eq_getElem hcl]
  simp only [bS]
  cases hb:a[c] with
  | true=>exact ih n (j+1) a q hi (by omega) (by omega)
  | false =>
   have hcc:=hi.c
   simp only [Bool.not_false,cT]
   rw [appL_some (by simp;omega),setL'_nat]
   simp only [bS]
   exact ih n (j+1) _ _ (hi.add (by rw [List.getElem?_eq_getElem hcl,hb])) (by omega) (by omega)
theorem reached_out (hN:4194304 < N) (h:TabM t m) (S:Nat) (hS:m.States=(S:Int)):∀ (d n k:Nat) (a:List Bool) (q:List Int),InvR S a q→S-k=d→d < n→∃ b,z150_l2 N t n a q (k:Int)=some b:=by
 intro d
 have hs1:=h.num.s1
 have step:∀ (n k:Nat) (a:List Bool) (q:List Int),InvR S a q→(k < q.length→∀ a q,InvR S a q→∃ b,z150_l2 N t n a q (w64 ((k:Int)+1))=some b)→∃ b,z150_l2 N t (n+1) a q (k:Int)=some b:=fun n k a q hi hnx=>by
  rw [z150_l2]
  by_cases hk:k < q.length
  ·rw [lt_t hk,idx_nat,List.getElem?_eq_getElem hk]
   simp only [cT,bS]
   obtain ⟨q0,q1⟩:=hi.qq _ (List.getElem_mem hk)
   obtain ⟨c,hc⟩:=Int.eq_ofNat_of_zero_le q0
   have hcl:c < t.out'.length:=by rw [h.len];omega
   rw [hc,idx_nat,List.getElem?_eq_getElem hcl]
   simp only [bS]
   have hle:=(h.out c _ (List.getElem?_eq_getElem hcl)).1
   exact reached_in hN h S hS k _ (hnx hk) _ c (List.getElem?_eq_getElem hcl) _ N 0 a q hi rfl (by omega)
  ·rw [lt_f (Nat.not_lt.1 hk)]
   exact tot_some _
 induction d with
 | zero =>
  intro n k a q hi hd hn
  obtain ⟨n,rfl⟩:∃ q,n=q+1:=⟨n-1,by omega⟩
  exact step n k a q hi fun hk=>by have:=hi.c;omega
 | succ d ih =>
  intro n k a q hi hd hn
  obtain ⟨n,rfl⟩:∃ q,n=q+1:=⟨n-1,by omega⟩
  refine step n k a q hi fun hk a q hi=>?_
  rw [w64_succ (by omega)]
  exact ih n (k+1) a q hi (by omega) (by omega)
theorem reached_some (hN:4194304 < N) (h:TabM t m):∃ b,z150 N t=some b:=by
 have h0:=h.num.s0
 have h1:=h.num.s1
 have b0:=h.num.b0
 have b1:=h.num.b1
 obtain ⟨S,hS⟩:=Int.eq_ofNat_of_zero_le (show 0≤m.States by omega)
 obtain ⟨c,hc⟩:=Int.eq_ofNat_of_zero_le b0
 unfold z150
 rw [h.mm]
 have e:mkL false m.States m.States=some (List.replicate S false):=by
  unfold mkL
  rw [dT (by omega:0≤m.States),dT (by omega:m.States≤m.States),dT (by omega:m.States≤4294967296),hS];rfl
 rw [e,hc]
 simp only [bS,idx_nat,setL'_nat]
 have hcl:c < S:=by omega
 have hg:(List.replicate S false)[c]? = some false:=by rw [List.getElem?_replicate,if_pos hcl]
 rw [hg]
 simp only [bS]
 refine reached_out hN h S hS _ N 0 _ _ ⟨by simp,fun i hi=>by rw [List.mem_singleton.1 hi];omega,?_⟩ rfl (by omega)
 have h2:=List.count_set (a:=true) (b:=false) (l:=List.replicate S false) (i:=c) (by simpa using hcl)
 simp at h2
 simp
 omega
theorem mValid_some (hN:4194304 < N) (m:T8) (ht:m.Timeouts.length≤4194304):∃ b,z142 N m=some b∧(b=true→NumM m):=by
 unfold z142 z77
 rw [mnum_eq hN]
 simp only [bS]
 cases hm:numM m with
 | false=>exact ⟨false,rfl,fun h=>by cases h⟩
 | true =>
  have hm:=(numM_iff m).1 hm
  rw [msorted_eq hN m hm]
  have h:=tabM_of hN m hm
  obtain ⟨b1,e1⟩:=det_some hN h
  obtain ⟨b2,e2⟩:=reached_some hN h
  obtain ⟨b3,e3⟩:=again_some hN h
  obtain ⟨b4,e4⟩:=timed_some hN h ht
  simp only [Bool.not_true,cond_false,bS,e1,e2,e3,e4]
  cases b1<;>cases b2<;>cases b3<;>exact ⟨_,rfl,fun _=>hm⟩
end Gp
end
section
namespace Gp
open Go Go.Kx Gx
variable {N:Nat}
theorem vrunes_loop (s:ByteArray):∀ (r:List UInt8) (n i:Nat),(bs s).drop i=r→r.length < n→∃ z,z294_12_l2 N s true n i=some z∧decide (z≥0)=r.any badB:=by
 intro r
 induction r with
 | nil =>
  intro n i h hn
  obtain ⟨n,rfl⟩:∃ m,n=m+1:=⟨n-1,by simp at hn;omega⟩
  have hi:=drop_nil h
  unfold z294_12_l2
  have:decide (i < s.size)=false:=by rw [size_bs];simp;omega
  rw [this]
  exact ⟨-1,rfl,rfl⟩
 | cons b r ih =>
  intro n i h hn
  obtain ⟨n,rfl⟩:∃ m,n=m+1:=⟨n-1,by simp at hn;omega⟩
  obtain ⟨h1,h2,h3⟩:=drop_cons h
  simp only [List.length_cons] at hn
  unfold z294_12_l2
  have:decide (i < s.size)=true:=by rw [size_bs];simp;omega
  rw [this,List.any_cons]
  simp only [cT,z256]
  by_cases hb:b.toNat < 128
  ·rw [decode_lo s i b h2 hb]
   by_cases c1:b.toNat < 32
   ·have e1:decide (((b.toNat:Nat):Int) < 32)=true:=by simp;omega
    have e2:badB b=true:=by simp [badB,c1]
    rw [e1,e2]
    exact ⟨(i:Int),rfl,by simp⟩
   ·have e1:decide (((b.toNat:Nat):Int) < 32)=false:=by simp;omega
    rw [e1]
    simp only [cond_false,bS]
    by_cases c2:126 < b.toNat
    ·have e3:decide (((b.toNat:Nat):Int) > 126)=true:=by simp;omega
     have e2:badB b=true:=by simp [badB,c2]
     rw [e3,e2]
     exact ⟨(i:Int),rfl,by simp⟩
    ·have e3:decide (((b.toNat:Nat):Int) > 126)=false:=by simp;omega
     have e2:badB b=false:=by simp [badB];omega
     rw [e3,e2]
     exact ih n (i+1) h3 (by omega)
  ·have hd:=decode_hi s i b h2 hb
   have e2:badB b=true:=by simp [badB];omega
   generalize (Utf8.decode s i).1=c at hd ⊢
   have e1:decide ((c:Int) < 32)=false:=by simp;omega
   have e3:decide ((c:Int) > 126)=true:=by simp;omega
   rw [e1,e2]
   simp only [cond_false,bS]
   rw [e3]
   exact ⟨(i:Int),rfl,by simp⟩
theorem vrunes_eq (hN:4194304 < N) (s:ByteArray) (hs:s.size≤4194304):z225_14 N s=some ((bs s).any badB):=by
 obtain ⟨z,h1,h2⟩:=vrunes_loop (N:=N) s (bs s) N 0 rfl (by rw [size_bs] at hs;omega)
 unfold z225_14 z270_13 z294_12
 rw [h1]
 simp only [bS]
 rw [h2]
def vnumV (v:T12):Int:=bif v.Kind==1 then v.N else bif v.Kind==2 then (v.S.size:Int) else 0
def vsortV (s:T10):Bool:=bif s.Kind==1 then (decide (-1000≤s.Lo) && (decide (s.Lo≤s.Hi) && decide (s.Hi≤1000))) else bif s.Kind==2 then (decide (0≤s.Lo) && (decide (s.Lo≤s.Hi) && decide (s.Hi≤40))) else false
def vvalidV (v:T12):Bool:=bif v.Kind==1 then (decide (v.N≥-1000) && (decide (v.N≤1000) && (v.S.toList==(str []).toList))) else bif v.Kind==2 then (v.N==0 && (decide ((v.S.size:Int)≤40) && !(bs v.S).any badB)) else false
def vfitV (s:T10) (v:T12):Bool:=vsortV s && (vvalidV v && (s.Kind==v.Kind && (decide (vnumV v≥s.Lo) && decide (vnumV v≤s.Hi))))
theorem vnum_eq (v:T12):z137 N v=some (vnumV v):=by
 unfold z137 vnumV
 cases (v.Kind==1)<;>cases (v.Kind==2)<;>rfl
theorem vsort_eq (s:T10):z138 N s=some (vsortV s):=by
 unfold z138 vsortV z138_k1
 cases (s.Kind==1)
 ·cases (s.Kind==2)
  ·rfl
  ·simp only [cT,cond_false]
   cases decide (0≤s.Lo)<;>cases decide (s.Lo≤s.Hi)<;>rfl
 ·simp only [cT]
  cases decide (-1000≤s.Lo)<;>cases decide (s.Lo≤s.Hi)<;>rfl
theorem vvalid_eq (hN:4194304 < N) (v:T12) (hv:v.S.size≤4194304):z139 N v=some (vvalidV v):=by
 unfold z139 vvalidV z203
 rw [vrunes_eq hN _ hv]
 simp only [bS]
 cases (v.Kind==1)
 ·cases (v.Kind==2)
  ·rfl
  ·cases (v.N==0)<;>cases decide ((v.S.size:Int)≤40)<;>rfl
 ·cases decide (v.N≥-1000)<;>cases decide (v.N≤1000)<;>rfl
theorem vfits_eq (hN:4194304 < N) (s:T10) (v:T12) (hv:v.S.size≤4194304):z71 N s v=some (vfitV s v):=by
 unfold z71 vfitV
 rw [vnum_eq,vsort_eq,vvalid_eq hN v hv]
 simp only [bS]
 cases vsortV s<;>cases vvalidV v<;>cases (s.Kind==v.Kind)<;>cases decide (vnumV v≥s.Lo)<;>rfl
theorem vfit_size {s:T10} {v:T12} (h:vfitV s v=true):v.S.size≤40:=by
 unfold vfitV at h
 simp only [Bool.and_eq_true] at h
 have h:=h.2.1
 unfold vvalidV at h
 cases h1:(v.Kind==1)
 ·rw [h1] at h
  cases h2:(v.Kind==2)
  ·rw [h2] at h;cases h
  ·rw [h2] at h
   simp only [cT,cond_false,Bool.and_eq_true,decide_eq_true_eq] at h
   omega
 ·rw [h1] at h
  simp only [cT,Bool.and_eq_true] at h
  have h:=beq_iff_eq.1 h.2.2
  rw [toList_bs,toList_bs,bs_nil] at h
  rw [size_bs,h];decide
theorem eqf {A B:Type} (p:A→B→Bool) {xs:List A} {ys:List B} {F:Nat→Int→Option Bool} {n:Nat} (hl:xs.length=ys.length) (hn:xs.length < n)
  (h1:∀ n k x y,k < xs.length→xs[k]? = some x→ys[k]? = some y→F (n+1) (k:Int)=bif p x y then F n ((k+1:Nat):Int) else some false)
  (h2:∀ n k,xs.length≤k→F (n+1) (k:Int)=some true):∃ b,F n (0:Int)=some b∧(b=true↔∀ (i:Nat) x y,xs[i]? = some x→ys[i]? = some y→p x y=true):=by
 let q:A→Nat→Bool:=fun x k=>match ys[k]? with
  | some y=>p x y
  | none=>false
 have h:=allV_from q (xs:=xs) (F:=F) (e:=some true) (n:=n) hn (fun n k x hk hx=>by
  have hy:=List.getElem?_eq_getElem (show k < ys.length by omega)
  rw [h1 n k x _ hk hx hy]
  show _=bif (match ys[k]? with | some y=>p x y | none=>false) then _ else _
  rw [hy]) h2
 refine ⟨allV q xs 0,by rw [h];cases allV q xs 0<;>rfl,?_⟩
 rw [allV_iff]
 constructor
 ·intro h i x y hx hy
  have:=h i x hx
  rw [Nat.zero_add] at this
  have e:q x i=p x y:=by show (match ys[i]? with | some y=>p x y | none=>false)=_;rw [hy]
  rwa [e] at this
 ·intro h i x hx
  have hi:=(List.getElem?_eq_some_iff.1 hx).1
  have hy:=List.getElem?_eq_getElem (show i < ys.length by omega)
  rw [Nat.zero_add]
  have e:q x i=p x ys[i]:=by show (match ys[i]? with | some y=>p x y | none=>false)=_;rw [hy]
  rw [e]
  exact h i x _ hx hy
theorem lenI_ne (a b:Nat):((a:Int) != (b:Int)) = !decide (a=b):=len_ne a b
def FitsL (fs:List T4) (vs:List T12):Prop:=fs.length=vs.length∧∀ (i:Nat) (f:T4) (v:T12),fs[i]? = some f→vs[i]? = some v→vfitV f.Sort' v=true
def KnownL (fs:List T4) (ks:List T12):Prop:=fs.length=ks.length∧∀ (i:Nat) (f:T4) (v:T12),fs[i]? = some f→ks[i]? = some v→(zeroV v || vfitV f.Sort' v)=true
theorem fitsAll_eq (hN:4194304 < N) (fs:List T4) (vs:List T12) (hl:vs.length≤4194304) (hv:∀ v∈vs,v.S.size≤4194304):∃ b,z113 N fs vs=some b∧(b=true↔FitsL fs vs):=by
 unfold z113 z73_18
 rw [lenI_ne]
 by_cases h:fs.length=vs.length
 ·rw [dT h]
  obtain ⟨b,e,hb⟩:=eqf (fun (f:T4) (v:T12)=>vfitV f.Sort' v) (xs:=fs) (ys:=vs) (F:=z73_18_l2 N fs vs) (n:=N) h (by omega) (fun n k f v hk hf hv'=>by
   rw [z73_18_l2,lt_t hk,idx_nat,hf,idx_nat,hv',w64_succ (by omega)]
   simp only [cT,bS,z177,vfits_eq hN _ _ (hv v (List.mem_of_getElem? hv'))]
   cases vfitV f.Sort' v<;>rfl) (fun n k hk=>by
   rw [z73_18_l2,lt_f hk];rfl)
  simp only [Bool.not_true,cond_false,e,bS]
  exact ⟨b,rfl,hb.trans ⟨fun g=>⟨h,g⟩,fun g=>g.2⟩⟩
 ·rw [dF h]
  exact ⟨false,rfl,by simp;intro g;exact h g.1⟩
theorem known_eq (hN:4194304 < N) (fs:List T4) (vs:List T12) (hl:vs.length≤4194304) (hv:∀ v∈vs,v.S.size≤4194304):∃ b,z73_15 N fs vs=some b∧(b=true↔KnownL fs vs):=by
 unfold z73_15
 rw [lenI_ne]
 by_cases h:fs.length=vs.length
 ·rw [dT h]
  obtain ⟨b,e,hb⟩:=eqf (fun (f:T4) (v:T12)=>zeroV v || vfitV f.Sort' v) (xs:=fs) (ys:=vs) (F:=z73_15_l2 N fs vs) (n:=N) h (by omega) (fun n k f v hk hf hv'=>by
   rw [z73_15_l2,lt_t hk,idx_nat,hf,idx_nat,hv',w64_succ (by omega)]
   simp only [cT,bS,z70,vfits_eq hN _ _ (hv v (List.mem_of_getElem? hv'))]
   show ((bif zeroV v then some true else some (vfitV f.Sort' v)).bind fun x27=>_)=_
   cases zeroV v<;>cases vfitV f.Sort' v<;>rfl) (fun n k hk=>by
   rw [z73_15_l2,lt_f hk];rfl)
  simp only [Bool.not_true,cond_false,e]
  exact ⟨b,rfl,hb.trans ⟨fun g=>⟨h,g⟩,fun g=>g.2⟩⟩
 ·rw [dF h]
  exact ⟨false,rfl,by simp;intro g;exact h g.1⟩
end Gp
end
section
namespace Gp
open Go Go.Kx Gx
variable {N:Nat}
theorem find_some {A:Type} (p:A→Bool) {xs:List A} {F:Nat→Int→Option Int} (h1:∀ n k x,k < xs.length→xs[k]? = some x→F (n+1) (k:Int)=bif p x then some (k:Int) else F n ((k+1:Nat):Int))
  (h2:∀ n k,xs.length≤k→F (n+1) (k:Int)=some (-1)):∀ (d n k:Nat),xs.length-k=d→d < n→∃ z,F n (k:Int)=some z∧((z=-1∧∀ (i:Nat) x,k≤i→xs[i]? = some x→p x=false)∨∃ (i:Nat) (x:A),z=(i:Int)∧xs[i]? = some x∧p x=true):=by
 intro d
 induction d with
 | zero =>
  intro n k hd hn
  obtain ⟨n,rfl⟩:∃ q,n=q+1:=⟨n-1,by omega⟩
  exact ⟨-1,h2 n k (by omega),.inl ⟨rfl,fun i x hi hx=>by have:=(List.getElem?_eq_some_iff.1 hx).1;omega⟩⟩
 | succ d ih =>
  intro n k hd hn
  obtain ⟨n,rfl⟩:∃ q,n=q+1:=⟨n-1,by omega⟩
  have hk:k < xs.length:=by omega
  have hx:=List.getElem?_eq_getElem hk
  rw [h1 n k _ hk hx]
  cases hp:p xs[k] with
  | true=>exact ⟨_,rfl,.inr ⟨k,_,rfl,hx,hp⟩⟩
  | false =>
   obtain ⟨z,e,h⟩:=ih n (k+1) (by omega) (by omega)
   refine ⟨z,e,h.imp (fun ⟨a,b⟩=>⟨a,fun i x hi hx'=>?_⟩) id⟩
   by_cases e:i=k
   ·subst e;rw [hx] at hx';cases hx';exact hp
   ·exact b i x (by omega) hx'
theorem mfields_eq (hN:4194304 < N) (g:T5) (hv:validD g.Decls=true):z74 N g=some (flat g.Decls):=by
  unfold validD at hv
  simp only [Bool.and_eq_true,decide_eq_true_eq] at hv
  obtain ⟨v1,v2,_⟩:=hv
  have key:∀ (r:List T0) (n k:Nat) (acc:List T4),g.Decls.drop k=r→r.length < n→acc.length+(flat r).length≤24→z74_l2 g n acc (k:Int)=some (acc++flat r):=by
    intro r
    induction r with
    | nil =>
      intro n k acc hr hn _
      obtain ⟨n,rfl⟩:∃ q,n=q+1:=⟨n-1,by simp at hn;omega⟩
      rw [z74_l2,lt_f (List.drop_eq_nil_iff.1 hr)]
      simp [z74_k1,flat]
    | cons x r ih =>
      intro n k acc hr hn hl
      obtain ⟨n,rfl⟩:∃ q,n=q+1:=⟨n-1,by simp at hn;omega⟩
      have hk:k < g.Decls.length:=by
        refine Nat.not_le.1 fun h=>?_
        rw [List.drop_eq_nil_iff.2 h] at hr;cases hr
      have hx:g.Decls[k]? = some x:=by
        have:=congrArg (·[0]?) hr
        simpa using this
      rw [flat_cons,lA] at hl
      rw [z74_l2,lt_t hk,idx_nat,hx,w64_succ (by omega)]
      simp only [cT,bS]
      rw [appL_some (by omega)]
      simp only [bS]
      rw [ih n (k+1) (acc++x.Fields) (by have:=congrArg (List.drop 1) hr;simpa [List.drop_drop,Nat.add_comm] using this) (by simp at hn;omega) (by rw [lA];omega),flat_cons,aA]
  exact key g.Decls N 0 [] rfl (by omega) (by simpa using v2)
structure AgrM (g:T5) (m:T8):Prop where
 v:validD g.Decls=true
 n:NumM m
 l:∀ x∈m.Moves,x.Label < (g.Decls.length:Int)
theorem agree_some (hN:4194304 < N) (g:T5) (hg:SizeG g) (hs:SizeN g) (m:T8) (ht:m.Timeouts.length≤4194304):∃ b,z72 N g m=some b∧(b=true→AgrM g m):=by
 unfold z72
 obtain ⟨b1,e1,h1⟩:=gValid_some hN g hg hs
 obtain ⟨b2,e2,h2⟩:=mValid_some hN m ht
 rw [e1,e2]
 simp only [bS]
 cases b1 with
 | false=>exact ⟨false,rfl,fun h=>by cases h⟩
 | true =>
 cases b2 with
 | false=>exact ⟨false,rfl,fun h=>by cases h⟩
 | true =>
 have hm:=h2 rfl
 have hn:=hm.n
 simp only [cT]
 cases decide (m.Role < (g.Roles.length:Int)) with
 | false=>exact ⟨false,rfl,fun h=>by cases h⟩
 | true =>
 simp only [cT]
 unfold z143_11 z111_10
 have ep:∀ y,z140_9 N y g=some (decide (y.Peer≥(g.Roles.length:Int)) || decide (y.Label≥(g.Decls.length:Int))):=fun y=>by
  unfold z140_9
  cases decide (y.Peer≥(g.Roles.length:Int))<;>rfl
 obtain ⟨z,ez,hz⟩:=find_some (fun (y:T9)=>decide (y.Peer≥(g.Roles.length:Int)) || decide (y.Label≥(g.Decls.length:Int))) (xs:=m.Moves) (F:=z111_10_l2 N m.Moves g) (fun n k x hk hx=>by
  rw [z111_10_l2,lt_t hk,idx_nat,hx,w64_succ (by omega)]
  simp only [cT,bS,ep]) (fun n k hk=>by
  rw [z111_10_l2,lt_f hk];rfl) _ N 0 rfl (by omega)
 rw [show ((0:Nat):Int)=0 from rfl] at ez
 rw [ez]
 simp only [bS]
 refine ⟨_,rfl,fun h=>⟨h1 rfl,hm,fun x hx=>?_⟩⟩
 rcases hz with ⟨_,hz⟩ | ⟨i,y,rfl,_,_⟩
 ·obtain ⟨i,hi⟩:=List.getElem?_of_mem hx
  have:=hz i x (Nat.zero_le _) hi
  simp only [Bool.or_eq_false_iff,decide_eq_false_iff_not] at this
  omega
 ·simp at h
structure StM (g:T5) (m:T8) (s:T17):Prop where
 a0:0≤s.At
 a1:s.At < m.States
 k:KnownL (flat g.Decls) s.Known
 p:s.Pending.length≤4194304
theorem zero_size {v:T12} (h:zeroV v=true):v.S.size=0:=by
 unfold zeroV at h
 simp only [Bool.and_eq_true] at h
 have h:=beq_iff_eq.1 h.2.2.1
 rw [toList_bs,toList_bs,bs_nil] at h
 rw [size_bs,h];rfl
theorem known_size {fs:List T4} {ks:List T12} (h:KnownL fs ks):∀ v∈ks,v.S.size≤4194304:=fun v hv=>by
 obtain ⟨i,hi⟩:=List.getElem?_of_mem hv
 have hl:=(List.getElem?_eq_some_iff.1 hi).1
 have:=h.2 i _ v (List.getElem?_eq_getElem (by rw [h.1];exact hl)) hi
 rw [Bool.or_eq_true] at this
 rcases this with h | h
 ·have:=zero_size h;omega
 ·have:=vfit_size h;omega
theorem valid_len {l:List T0} (h:validD l=true):l.length≤40∧(flat l).length≤24:=by
 unfold validD at h
 simp only [Bool.and_eq_true,decide_eq_true_eq] at h
 exact ⟨h.1,h.2.1⟩
theorem fits_some (hN:4194304 < N) (g:T5) (hg:SizeG g) (hs:SizeN g) (m:T8) (ht:m.Timeouts.length≤4194304) (s:T17) (hk:s.Known.length≤4194304) (hv:∀ v∈s.Known,v.S.size≤4194304) :
  ∃ b,z27 N g m s=some b∧(b=true→AgrM g m)∧(∀ _:z72 N g m=some true,StM g m s→b=true):=by
 unfold z27
 obtain ⟨b,e,h⟩:=agree_some hN g hg hs m ht
 rw [e]
 simp only [bS]
 cases b with
 | false=>exact ⟨false,rfl,(fun h=>by cases h),(fun h=>by cases h)⟩
 | true =>
 have hA:=h rfl
 rw [mfields_eq hN g hA.v]
 obtain ⟨b,eb,hb⟩:=known_eq hN (flat g.Decls) s.Known hk hv
 simp only [cT,bS,eb]
 cases c1:decide (s.At≥0) with
 | false=>exact ⟨false,rfl,(fun h=>by cases h),fun _ h=>by have:=h.a0;simp at c1;omega⟩
 | true =>
 cases c2:decide (s.At < m.States) with
 | false=>exact ⟨false,rfl,(fun h=>by cases h),fun _ h=>by have:=h.a1;simp at c2;omega⟩
 | true=>exact ⟨b,rfl,fun _=>hA,fun _ h=>hb.2 h.k⟩
theorem less_irr (a:ByteArray):Op.bytesLess a.toList a.toList=false:=by
 generalize a.toList=l
 induction l with
 | nil=>rfl
 | cons x l ih=>unfold Op.bytesLess;simp [ih]
theorem strcmp_some (a b:ByteArray):∃ z,z213 N a b=some z∧(a=b→z=0):=by
 unfold z213 z261
 have e:∀ x:ByteArray,(!(x.toList==x.toList))=false:=fun x=>by simp
 simp only [bS,e,cond_false]
 cases h1:Op.bytesLess a.toList b.toList with
 | true=>exact ⟨_,rfl,fun h=>by subst h;rw [show Op.bytesLess a.toList a.toList=false from less_irr a] at h1;cases h1⟩
 | false =>
  cases h2:(a.toList==b.toList) with
  | true=>exact ⟨_,rfl,fun _=>rfl⟩
  | false=>exact ⟨_,rfl,fun h=>by subst h;simp at h2⟩
end Gp
end
section
namespace Gp
open Go Go.Kx Gx
variable {N:Nat}
theorem or4 (hN:4194304 < N) (a b c d:Int):∃ z,z211 N [a,b,c,d]=some z∧(a=0→b=0→c=0→d=0→z=0):=by
 obtain ⟨n,rfl⟩:∃ n,N=n+5:=⟨N-5,by omega⟩
 unfold z211
 rw [z211_l2,z211_l2,z211_l2,z211_l2,z211_l2]
 have w0:w64 ((0:Int)+1)=1:=by decide
 have w1:w64 ((1:Int)+1)=2:=by decide
 have w2:w64 ((2:Int)+1)=3:=by decide
 have w3:w64 ((3:Int)+1)=4:=by decide
 rw [w0,w1,w2,w3]
 have i0:idx [a,b,c,d] 0=some a:=rfl
 have i1:idx [a,b,c,d] 1=some b:=rfl
 have i2:idx [a,b,c,d] 2=some c:=rfl
 have i3:idx [a,b,c,d] 3=some d:=rfl
 rw [i0,i1,i2,i3]
 have l0:decide ((0:Int) < (([a,b,c,d]:List Int).length:Int))=true:=rfl
 have l1:decide ((1:Int) < (([a,b,c,d]:List Int).length:Int))=true:=rfl
 have l2:decide ((2:Int) < (([a,b,c,d]:List Int).length:Int))=true:=rfl
 have l3:decide ((3:Int) < (([a,b,c,d]:List Int).length:Int))=true:=rfl
 have l4:decide ((4:Int) < (([a,b,c,d]:List Int).length:Int))=false:=rfl
 rw [l0,l1,l2,l3,l4]
 simp only [cT,cond_false,bS]
 cases h0:(a != 0)
 ·cases h1:(b != 0)
  ·cases h2:(c != 0)
   ·cases h3:(d != 0)
    ·exact ⟨0,rfl,fun _ _ _ _=>rfl⟩
    ·exact ⟨d,rfl,fun _ _ _ h=>h⟩
   ·exact ⟨c,rfl,fun _ _ h _=>h⟩
  ·exact ⟨b,rfl,fun _ h _ _=>h⟩
 ·exact ⟨a,rfl,fun h _ _ _=>h⟩
theorem cI_self (x:Int):cI x x=0:=by
 rcases cI_cases x x with ⟨h,_⟩ | ⟨h,_⟩ | ⟨_,h⟩
 ·omega
 ·omega
 ·exact h
theorem same1 (hN:4194304 < N) (a b:T12):∃ z,z145 N a b=some z∧(a=b→z=true):=by
 unfold z145 z146
 obtain ⟨s,es,hs⟩:=strcmp_some (N:=N) a.S b.S
 rw [cI_eq,cI_eq,cI_eq,es]
 simp only [bS]
 obtain ⟨z,ez,hz⟩:=or4 hN (cI a.Kind b.Kind) (cI a.N b.N) (cI (a.S.size:Int) (b.S.size:Int)) s
 rw [ez]
 refine ⟨_,rfl,fun h=>?_⟩
 subst h
 rw [hz (cI_self _) (cI_self _) (cI_self _) (hs rfl)];rfl
theorem same_some (hN:4194304 < N) (a b:List T12) (hl:a.length≤4194304):∃ z,z76 N a b=some z∧(a=b→z=true):=by
 unfold z76 z144_22
 rw [lenI_ne]
 by_cases h:a.length=b.length
 ·rw [dT h]
  let p:T12→T12→Bool:=fun x y=>(z145 N x y).getD false
  obtain ⟨z,ez,hz⟩:=eqf p (xs:=a) (ys:=b) (F:=z144_22_l2 N a b) (n:=N) h (by omega) (fun n k x y hk hx hy=>by
   rw [z144_22_l2,lt_t hk,idx_nat,hx,idx_nat,hy,w64_succ (by omega)]
   obtain ⟨q,eq,_⟩:=same1 hN x y
   have e:p x y=q:=by show (z145 N x y).getD false=q;rw [eq];rfl
   simp only [cT,bS,eq,e]
   cases q<;>rfl) (fun n k hk=>by
   rw [z144_22_l2,lt_f hk];rfl)
  simp only [Bool.not_true,cond_false,ez,bS]
  refine ⟨z,rfl,fun e=>hz.2 fun i x y hx hy=>?_⟩
  subst e
  rw [hx] at hy;cases hy
  obtain ⟨q,eq,hq⟩:=same1 hN x x
  show (z145 N x x).getD false=true
  rw [eq,hq rfl];rfl
 ·rw [dF h]
  exact ⟨false,rfl,fun e=>absurd (congrArg List.length e) h⟩
theorem equal_some (hN:4194304 < N) (a b:T17) (h1:a.Known.length≤4194304) (h2:a.Pending.length≤4194304):∃ z,z32 N a b=some z∧(a=b→z=true):=by
 unfold z32
 obtain ⟨x,ex,hx⟩:=same_some hN a.Known b.Known h1
 obtain ⟨y,ey,hy⟩:=same_some hN a.Pending b.Pending h2
 rw [ex,ey]
 simp only [bS]
 cases h:(a.At==b.At) with
 | false=>exact ⟨false,rfl,fun e=>by subst e;simp at h⟩
 | true =>
  cases x with
  | false=>exact ⟨false,rfl,fun e=>by subst e;have:=hx rfl;cases this⟩
  | true=>exact ⟨y,rfl,fun e=>by subst e;exact hy rfl⟩
structure SizeE (x:T3):Prop where
 l:x.Values.length≤4194304
 s:∀ v∈x.Values,v.S.size≤4194304
theorem flat_at {d:List T0} {i:Nat} {x:T0} (hx:d[i]? = some x) {j:Nat} (hj:j < x.Fields.length):(flat d)[(flat (d.take i)).length+j]? = x.Fields[j]? := by
 have hi:=(List.getElem?_eq_some_iff.1 hx).1
 have e:d=d.take i++x::d.drop (i+1):=by
  have h1:d[i]=x:=(List.getElem?_eq_some_iff.1 hx).2
  rw [← h1]
  exact (List.take_append_drop i d).symm.trans (by rw [List.drop_eq_getElem_cons hi])
 have e2:flat d=flat (d.take i)++(x.Fields++flat (d.drop (i+1))):=by
  rw [← flat_cons,← flat_app,← e]
 rw [e2,List.getElem?_append_right (Nat.le_add_right _ _),Nat.add_sub_cancel_left,List.getElem?_append_left hj]
theorem known_next {d:List T0} {i first:Nat} {x:T0} {vs ks:List T12} (hx:d[i]? = some x) (hf:x.First=(first:Int)) (hd:declV (flat d) d x i=true) (hle:first+vs.length≤ks.length)
  (hk:KnownL (flat d) ks) (hv:FitsL x.Fields vs):KnownL (flat d) (behindV first vs ks):=by
 unfold declV at hd
 simp only [Bool.and_eq_true,decide_eq_true_eq] at hd
 have hF:first=(flat (d.take i)).length:=by have:=hd.2.2.1;omega
 refine ⟨by rw [behind_len first vs ks hle];exact hk.1,fun j f v h1 h2=>?_⟩
 rw [behind_get first vs ks hle] at h2
 split at h2
 ·rename_i hj
  have hj':j-first < x.Fields.length:=by rw [hv.1];omega
  have:=flat_at hx hj'
  rw [← hF,show first+(j-first)=j by omega,h1] at this
  rw [hv.2 (j-first) f v this.symm h2,Bool.or_true]
 ·exact hk.2 j f v h1 h2
theorem step_some (hN:4194304 < N) (g:T5) (hg:SizeG g) (hs:SizeN g) (m:T8) (hA:AgrM g m) (s:T17) (hS:StM g m s) (x:T3) (hx:SizeE x) :
  ∃ r,z56 N g m s x=some r∧(r.2=0→StM g m r.1)∧r.2≠1:=by
 obtain ⟨v1,v2⟩:=valid_len hA.v
 have hn:=hA.n.n
 have hkl:s.Known.length≤4194304:=by rw [← hS.k.1];omega
 have hks:=known_size hS.k
 unfold z56 z111_17
 have ep:∀ y,z112_16 N y s x=some (y.From==s.At && (y.Send==x.Send && (y.Peer==x.Peer && y.Label==x.Label))):=fun y=>by
  unfold z112_16
  cases (y.From==s.At)<;>cases (y.Send==x.Send)<;>cases (y.Peer==x.Peer)<;>rfl
 obtain ⟨z,ez,hz⟩:=find_some (fun (y:T9)=>(y.From==s.At && (y.Send==x.Send && (y.Peer==x.Peer && y.Label==x.Label)))) (xs:=m.Moves) (F:=z111_17_l2 N m.Moves s x) (fun n k y hk hy=>by
  rw [z111_17_l2,lt_t hk,idx_nat,hy,w64_succ (by omega)]
  simp only [cT,bS,ep]) (fun n k hk=>by
  rw [z111_17_l2,lt_f hk];rfl) _ N 0 rfl (by omega)
 rw [show ((0:Nat):Int)=0 from rfl] at ez
 rw [ez]
 simp only [bS]
 cases (x.Role != m.Role) with
 | true=>exact ⟨_,rfl,(fun h=>by cases h),by decide⟩
 | false =>
 rcases hz with ⟨rfl,_⟩ | ⟨k,y,rfl,hy,hp⟩
 ·exact ⟨_,rfl,(fun h=>by cases h),by decide⟩
 have h0:decide ((k:Int) < 0)=false:=by simp
 rw [h0]
 simp only [Bool.and_eq_true,beq_iff_eq] at hp
 obtain ⟨_,_,_,hlab⟩:=hp
 have hym:=List.mem_of_getElem? hy
 obtain ⟨_,⟨t0,t1⟩,_,_,la,_⟩:=hA.n.mv y hym
 have lb:=hA.l y hym
 rw [hlab] at la lb
 obtain ⟨d,hd⟩:=idx_lt la lb
 rw [hd]
 simp only [cond_false,bS]
 obtain ⟨bf,ef,hf⟩:=fitsAll_eq hN d.Fields x.Values hx.l hx.s
 rw [ef]
 simp only [bS]
 cases bf with
 | false=>exact ⟨_,rfl,(fun h=>by cases h),by decide⟩
 | true =>
 have hfl:=hf.1 rfl
 have hc:=check_eq hN g.Decls (by omega) hg.dd hs.d x.Label x.Values s.Known hx.l hkl ⟨hx.s,hks⟩
 rw [hc]
 simp only [Bool.not_true,cond_false,bS]
 have fin:∀ b:Bool,(b=false→checkV g.Decls x.Label x.Values s.Known=true)→∃ r,z56_k1 N g m s x (k:Int) b=some r∧(r.2=0→StM g m r.1)∧r.2≠1:=fun b hb=>by
  unfold z56_k1
  cases b with
  | true=>exact ⟨_,rfl,(fun h=>by cases h),by decide⟩
  | false =>
  have hck:=hb rfl
  unfold checkV at hck
  rw [Bool.and_eq_true] at hck
  obtain ⟨hp,hck⟩:=hck
  rw [idx_nat,hy]
  simp only [cond_false,bS]
  rcases learn_eq hN g.Decls (by omega) hg.dd hs.d x.Label x.Values s.Known hx.l hkl ⟨hx.s,hks⟩ with ⟨h,_⟩ | ⟨_,i,d',first,q1,q2,q3,q4,q5⟩
  ·rw [h] at hp;cases hp
  have hd':d'=d:=by
   rw [q1,idx_nat,q2] at hd
   exact Option.some.inj hd
  subst hd'
  rcases q5 with ⟨h,_⟩ | ⟨_,hle,hl⟩
  ·rw [hd] at hck
   simp only [h,Bool.false_and] at hck
   cases hck
  rw [hl]
  simp only [bS]
  have hkn:=known_next q2 q3 q4 hle hS.k hfl
  cases x.Send with
  | true =>
   unfold z114
   rw [appL_some (by have:=hx.l;simp;omega)]
   exact ⟨_,rfl,fun _=>⟨t0,t1,hkn,by simpa using hx.l⟩,show (0:Int)≠1 by decide⟩
  | false=>exact ⟨_,rfl,fun _=>⟨t0,t1,hkn,by simp⟩,show (0:Int)≠1 by decide⟩
 cases hcv:checkV g.Decls x.Label x.Values s.Known with
 | false=>exact fin true (fun h=>by cases h)
 | true =>
 simp only [Bool.not_true,cond_false]
 rw [idx_nat,hy]
 simp only [bS]
 obtain ⟨q,eq,_⟩:=same_some hN x.Values s.Pending hx.l
 rw [eq]
 simp only [bS]
 cases y.Again with
 | true=>exact fin (!q) (fun _=>hcv)
 | false=>exact fin false (fun _=>hcv)
end Gp
end
section
namespace Gp
open Go Go.Kx Gx
variable {N:Nat}
section
variable (f:T17→T3→T17 × Int)
def runV:List T3→T17→Nat→T17 × Int × Int
 | [],s,k=>(s,(k:Int),0)
 | x::l,s,k=>bif (f s x).2 != 0 then (s,(k:Int),(f s x).2) else runV l (f s x).1 (k+1)
theorem runV_n:∀ (l:List T3) (s:T17) (k:Nat),∃ j t e,j≤l.length∧runV f l s k=(t,((k+j:Nat):Int),e)∧(e=0↔j=l.length) ∧
  runV f (l.take j) s k=(t,((k+j:Nat):Int),0)∧(j < l.length→runV f (l.take (j+1)) s k=(t,((k+j:Nat):Int),e))
 | [],s,k=>⟨0,s,0,Nat.le_refl _,rfl,by simp,rfl,fun h=>absurd h (Nat.lt_irrefl _)⟩
 | x::l,s,k=>by
  cases h:((f s x).2 != 0) with
  | true =>
   refine ⟨0,s,(f s x).2,Nat.zero_le _,?_,?_,rfl,fun _=>?_⟩
   ·rw [runV,h];rfl
   ·simp only [bne_iff_ne,ne_eq] at h;simp [h]
   ·show runV f (x::l.take 0) s k=_
    rw [runV,h];rfl
  | false =>
   obtain ⟨j,t,e,h1,h2,h3,h4,h5⟩:=runV_n l (f s x).1 (k+1)
   refine ⟨j+1,t,e,by simpa using h1,?_,?_,?_,fun hj=>?_⟩
   ·rw [runV,h];show runV f l (f s x).1 (k+1)=_;rw [h2];congr 2;omega
   ·rw [h3];simp
   ·show runV f (x::l.take j) s k=_
    rw [runV,h];show runV f (l.take j) (f s x).1 (k+1)=_;rw [h4];congr 2;omega
   ·show runV f (x::l.take (j+1)) s k=_
    rw [runV,h];show runV f (l.take (j+1)) (f s x).1 (k+1)=_;rw [h5 (by simpa using hj)];congr 2;omega
end
def stepF (N:Nat) (g:T5) (m:T8) (s:T17) (x:T3):T17 × Int:=(z56 N g m s x).getD (⟨0,[],[]⟩,0)
structure Ctx0 (N:Nat) (g:T5) (m:T8):Prop where
 hN:4194304 < N
 gg:SizeG g
 ss:SizeN g
 t:m.Timeouts.length≤4194304
 a:AgrM g m
 e:z72 N g m=some true
variable {g:T5} {m:T8}
theorem stepF_eq (c:Ctx0 N g m) {s:T17} (hS:StM g m s) {x:T3} (hx:SizeE x):z56 N g m s x=some (stepF N g m s x)∧((stepF N g m s x).2=0→StM g m (stepF N g m s x).1)∧(stepF N g m s x).2≠1:=by
 obtain ⟨r,h1,h2,h3⟩:=step_some c.hN g c.gg c.ss m c.a s hS x hx
 have e:stepF N g m s x=r:=by unfold stepF;rw [h1];rfl
 rw [e];exact ⟨h1,h2,h3⟩
theorem stM_known (c:Ctx0 N g m) {s:T17} (hS:StM g m s):s.Known.length≤4194304:=by
 have:=valid_len c.a.v
 rw [← hS.k.1];omega
theorem fits_true (c:Ctx0 N g m) {s:T17} (hS:StM g m s):z27 N g m s=some true:=by
 obtain ⟨b,e,_,h⟩:=fits_some c.hN g c.gg c.ss m c.t s (stM_known c hS) (known_size hS.k)
 have:=h c.e hS
 rw [e,this]
theorem Step_eq (c:Ctx0 N g m) {s:T17} (hS:StM g m s) {x:T3} (hx:SizeE x):z25 N g m s x=some (stepF N g m s x):=by
 unfold z25
 rw [fits_true c hS,(stepF_eq c hS hx).1];rfl
def newV (g:T5) (m:T8):T17:=⟨m.Start,List.replicate (flat g.Decls).length ⟨0,0,str []⟩,[]⟩
theorem New_eq (c:Ctx0 N g m):z30 N g m=some (newV g m):=by
 unfold z30
 rw [c.e,mfields_eq c.hN g c.a.v]
 have hl:=(valid_len c.a.v).2
 have e:mkL (⟨0,0,str []⟩:T12) ((flat g.Decls).length:Int) ((flat g.Decls).length:Int)=some (List.replicate (flat g.Decls).length ⟨0,0,str []⟩):=by
  unfold mkL
  rw [dT (by omega:(0:Int)≤((flat g.Decls).length:Int)),dT (Int.le_refl _),dT (by omega:((flat g.Decls).length:Int)≤4294967296)];rfl
 simp only [bS,Bool.not_true,cond_false,e]
 rfl
theorem new_st (c:Ctx0 N g m):StM g m (newV g m):=by
 refine ⟨c.a.n.b0,c.a.n.b1,⟨by simp [newV],fun i f v _ h=>?_⟩,by simp [newV]⟩
 have h:(List.replicate (flat g.Decls).length (⟨0,0,str []⟩:T12))[i]? = some v:=h
 rw [List.eq_of_mem_replicate (List.mem_of_getElem? h)]
 have e:zeroV ⟨0,0,str []⟩=true:=by kernel_rfl
 rw [e];rfl
theorem run_loop (c:Ctx0 N g m) (l:List T3) (hl:l.length≤4194304) (he:∀ x∈l,SizeE x):∀ (r:List T3) (n k:Nat) (s:T17),StM g m s→k≤l.length→l.drop k=r→r.length < n →
    z15_l2 N g m l n s.At s.Known s.Pending (k:Int)=some (runV (stepF N g m) r s k):=by
  intro r
  induction r with
  | nil =>
    intro n k s hS hk hr hn
    obtain ⟨n,rfl⟩:∃ q,n=q+1:=⟨n-1,by simp at hn;omega⟩
    have:=List.drop_eq_nil_iff.1 hr
    rw [z15_l2,lt_f this]
    have e:k=l.length:=by omega
    subst e;rfl
  | cons x r ih =>
    intro n k s hS hk hr hn
    obtain ⟨n,rfl⟩:∃ q,n=q+1:=⟨n-1,by simp at hn;omega⟩
    have hk:k < l.length:=by
      refine Nat.not_le.1 fun h=>?_
      rw [List.drop_eq_nil_iff.2 h] at hr;cases hr
    have hx:l[k]? = some x:=by
      have:=congrArg (·[0]?) hr
      simpa using this
    obtain ⟨e1,e2,_⟩:=stepF_eq c hS (he x (List.mem_of_getElem? hx))
    rw [z15_l2,lt_t hk,idx_nat,hx,w64_succ (by omega)]
    simp only [cT,bS]
    have e1:z56 N g m ⟨s.At,s.Known,s.Pending⟩ x=some (stepF N g m s x):=e1
    rw [e1,runV]
    simp only [bS]
    cases h:((stepF N g m s x).2 != 0) with
    | true=>rfl
    | false =>
      have h0:(stepF N g m s x).2=0:=by simpa using h
      exact ih n (k+1) _ (e2 h0) hk (by have:=congrArg (List.drop 1) hr;simpa [List.drop_drop,Nat.add_comm] using this) (by simp at hn;omega)
theorem Run_eq (c:Ctx0 N g m) (l:List T3) (hl:l.length≤4194304) (he:∀ x∈l,SizeE x):z15 N g m l=some (runV (stepF N g m) l (newV g m) 0):=by
 have hN:=c.hN
 unfold z15
 rw [New_eq c]
 simp only [bS]
 rw [fits_true c (new_st c)]
 exact run_loop c l hl he l N 0 _ (new_st c) (Nat.zero_le _) rfl (by omega)
theorem runV_st (c:Ctx0 N g m):∀ (l:List T3) (s:T17) (k:Nat),(∀ x∈l,SizeE x)→StM g m s→StM g m (runV (stepF N g m) l s k).1∧(runV (stepF N g m) l s k).2.2≠1
 | [],s,k,_,hS=>⟨hS,show (0:Int)≠1 by decide⟩
 | x::l,s,k,he,hS=>by
  obtain ⟨_,e2,e3⟩:=stepF_eq c hS (he x (List.mem_cons_self ..))
  rw [runV]
  cases h:((stepF N g m s x).2 != 0) with
  | true=>exact ⟨hS,e3⟩
  | false =>
   have h0:(stepF N g m s x).2=0:=by simpa using h
   exact runV_st c l _ (k+1) (fun y hy=>he y (List.mem_cons_of_mem _ hy)) (e2 h0)
theorem prefix_loop (c:Ctx0 N g m) (l:List T3) (hl:l.length≤4194304) (he:∀ x∈l,SizeE x) (t:T17) (j:Nat) (e:Int) (hj:j≤l.length)
  (hk1:law40_MonitorPrefix_k1 N g m l (t,(j:Int),e) t.At t.Known t.Pending=some true):∀ (d n k:Nat) (s:T17),StM g m s→j-k=d→k≤j→d < n→runV (stepF N g m) (l.drop k) s k=(t,(j:Int),e) →
  law40_MonitorPrefix_l2 N g m l (t,(j:Int),e) n s.At s.Known s.Pending (k:Int)=some true:=by
 intro d
 have lower:∀ (r:List T3) (s:T17) (k:Nat),(k:Int)≤(runV (stepF N g m) r s k).2.1:=fun r s k=>by
  obtain ⟨q,t,e,_,h,_⟩:=runV_n (stepF N g m) r s k
  rw [h];show (k:Int)≤((k+q:Nat):Int);omega
 induction d with
 | zero =>
  intro n k s hS hd hkj hn hr
  obtain ⟨n,rfl⟩:∃ q,n=q+1:=⟨n-1,by omega⟩
  have hk:k=j:=by omega
  subst hk
  rw [law40_MonitorPrefix_l2,lt_f (Nat.le_refl _)]
  have hst:s=t:=by
   cases hd:l.drop k with
   | nil=>rw [hd] at hr;exact (Prod.mk.inj hr).1
   | cons x r =>
    rw [hd,runV] at hr
    cases h:((stepF N g m s x).2 != 0) with
    | true=>rw [h] at hr;exact (Prod.mk.inj hr).1
    | false =>
     rw [h] at hr
     have:=lower r (stepF N g m s x).1 (k+1)
     have hr:runV (stepF N g m) r (stepF N g m s x).1 (k+1)=(t,(k:Int),e):=hr
     rw [hr] at this
     have:((k+1:Nat):Int)≤(k:Int):=this
     omega
  subst hst
  exact hk1
 | succ d ih =>
  intro n k s hS hd hkj hn hr
  obtain ⟨n,rfl⟩:∃ q,n=q+1:=⟨n-1,by omega⟩
  have hk:k < j:=by omega
  have hkl:k < l.length:=by omega
  have hx:=List.getElem?_eq_getElem hkl
  have hm:=List.mem_of_getElem? hx
  rw [List.drop_eq_getElem_cons hkl,runV] at hr
  obtain ⟨_,e2,_⟩:=stepF_eq c hS (he _ hm)
  rw [law40_MonitorPrefix_l2,lt_t hk,idx_nat,hx,w64_succ (by omega)]
  simp only [cT,bS]
  have e1:z25 N g m ⟨s.At,s.Known,s.Pending⟩ l[k]=some (stepF N g m s l[k]):=Step_eq c hS (he _ hm)
  rw [e1]
  simp only [bS]
  cases h:((stepF N g m s l[k]).2 != 0) with
  | true =>
   rw [h] at hr
   have hr:=(Prod.mk.inj (Prod.mk.inj hr).2).1
   omega
  | false =>
   rw [h] at hr
   have h0:(stepF N g m s l[k]).2=0:=by simpa using h
   exact ih n (k+1) _ (e2 h0) (by omega) (by omega) (by omega) hr
theorem few15 (hN:4194304 < N) (l:List T12) (hl:l.length≤4194304):∃ b,z20 N l=some b:=by
 refine tot_from (F:=z20_l2 l) (len:=l.length) (fun n k hk hi=>?_) (fun n k hk=>?_) _ N 0 rfl (by omega)
 ·rw [z20_l2,lt_t hk,idx_nat,List.getElem?_eq_getElem hk,w64_succ (by omega)]
  simp only [cT,bS]
  exact tot_bif (fun _=>tot_some _) fun _=>hi
 ·rw [z20_l2,lt_f hk]
  exact tot_some _
theorem few40 (hN:4194304 < N) (l:List T3) (hl:l.length≤4194304) (he:∀ x∈l,SizeE x):∃ b,z55 N l=some b:=by
 refine tot_from (F:=z55_l2 N l) (len:=l.length) (fun n k hk hi=>?_) (fun n k hk=>?_) _ N 0 rfl (by omega)
 ·rw [z55_l2,lt_t hk,idx_nat,List.getElem?_eq_getElem hk,w64_succ (by omega)]
  obtain ⟨b,eb⟩:=few15 hN _ (he _ (List.getElem_mem hk)).l
  simp only [cT,bS,eb]
  exact tot_bif (fun _=>tot_some _) fun _=>hi
 ·rw [z55_l2,lt_f hk]
  exact tot_some _
theorem few_tot (hN:4194304 < N) (g:T5) (hg:SizeG g) (m:T8) (l:List T3) (hl:l.length≤4194304) (he:∀ x∈l,SizeE x):∃ b,z14 N g m l=some b:=by
 unfold z14 z43 z54 z92
 obtain ⟨b1,e1,_⟩:=few_loop g.Decls hg.d g.Decls N 0 0 rfl (by have:=hg.d;omega)
 rw [show ((0:Nat):Int)=0 from rfl] at e1
 obtain ⟨b2,e2⟩:=few40 hN l hl he
 rw [e1,e2]
 simp only [bS]
 cases decide (g.States≤40)<;>cases decide ((g.Edges.length:Int)≤80)<;>cases decide ((g.Timeouts.length:Int)≤40)<;>cases decide ((g.Roles.length:Int)≤10)<;>cases b1 <;>
  cases decide (m.States≤40)<;>cases decide ((m.Finals.length:Int)≤45)<;>cases decide ((m.Moves.length:Int)≤80)<;>cases decide ((m.Timeouts.length:Int)≤45)<;>exact ⟨_,rfl⟩
end Gp
end
section
namespace Gx
open Go Go.Kx
def k_api_Sort (x:T10):Prop:=((Lit.int .i64 x.Kind).wf=true)∧((Lit.int .i64 x.Lo).wf=true)∧((Lit.int .i64 x.Hi).wf=true)
def k_api_Field (x:T4):Prop:=(x.Name.size≤bd)∧(k_api_Sort x.Sort')
def k_api_Diff (x:T1):Prop:=((Lit.int .i64 x.X).wf=true)∧((Lit.int .i64 x.Y).wf=true)∧((Lit.int .i64 x.C).wf=true)
def k_api_Guard (x:T6):Prop:=(x.Diffs.length≤bd∧∀ y∈x.Diffs,k_api_Diff y)∧(x.Equals.length≤bd∧∀ y∈x.Equals,((Lit.int .i64 y.1).wf=true)∧((Lit.int .i64 y.2).wf=true))
def k_api_Decl (x:T0):Prop:=(x.Name.size≤bd)∧(x.Fields.length≤bd∧∀ y∈x.Fields,k_api_Field y)∧((Lit.int .i64 x.First).wf=true)∧(k_api_Guard x.Guard)
def k_api_Interaction (x:T7):Prop:=((Lit.int .i64 x.From).wf=true)∧((Lit.int .i64 x.To).wf=true)∧((Lit.int .i64 x.Label).wf=true)
def k_api_Edge (x:T2):Prop:=((Lit.int .i64 x.From).wf=true)∧(k_api_Interaction x.Act)∧((Lit.int .i64 x.To).wf=true)∧(True)
def k_api_Timeout (x:T11):Prop:=((Lit.int .i64 x.State).wf=true)∧((Lit.int .i64 x.Ticks).wf=true)∧((Lit.int .i64 x.Else).wf=true)
def k_api_Global (x:T5):Prop:=(x.Name.size≤bd)∧(x.Roles.length≤bd∧∀ y∈x.Roles,y.size≤bd)∧(x.Decls.length≤bd∧∀ y∈x.Decls,k_api_Decl y)∧((Lit.int .i64 x.States).wf=true)∧((Lit.int .i64 x.Start).wf=true)∧((Lit.int .i64 x.End).wf=true)∧(x.Edges.length≤bd∧∀ y∈x.Edges,k_api_Edge y)∧(x.Timeouts.length≤bd∧∀ y∈x.Timeouts,k_api_Timeout y)
def k_api_Move (x:T9):Prop:=((Lit.int .i64 x.From).wf=true)∧(True)∧((Lit.int .i64 x.Peer).wf=true)∧((Lit.int .i64 x.Label).wf=true)∧((Lit.int .i64 x.To).wf=true)∧(True)
def k_api_Machine (x:T8):Prop:=((Lit.int .i64 x.Role).wf=true)∧((Lit.int .i64 x.States).wf=true)∧((Lit.int .i64 x.Start).wf=true)∧(x.Finals.length≤bd∧∀ y∈x.Finals,True)∧(x.Moves.length≤bd∧∀ y∈x.Moves,k_api_Move y)∧(x.Timeouts.length≤bd∧∀ y∈x.Timeouts,k_api_Timeout y)
def k_api_Value (x:T12):Prop:=((Lit.int .i64 x.Kind).wf=true)∧((Lit.int .i64 x.N).wf=true)∧(x.S.size≤bd)
def k_api_Event (x:T3):Prop:=((Lit.int .i64 x.Role).wf=true)∧(True)∧((Lit.int .i64 x.Peer).wf=true)∧((Lit.int .i64 x.Label).wf=true)∧(x.Values.length≤bd∧∀ y∈x.Values,k_api_Value y)
end Gx
end
section
namespace Gp
open Go Go.Kx Gx
set_option maxRecDepth 100000
theorem awake_some (k:Nat):z13 (k+300)=some true:=by kernel_rfl
theorem sizeD_of {x:T0} (h:k_api_Decl x):SizeD x:=by
 obtain ⟨_,h1,_,h2⟩:=h
 exact ⟨by have:=h1.1;unfold bd at this;omega,by have:=h2.1.1;unfold bd at this;omega,by have:=h2.2.1;unfold bd at this;omega⟩
theorem nameD_of {x:T0} (h:k_api_Decl x):NameD x:=by
 obtain ⟨h0,h1,_,h2⟩:=h
 exact ⟨by unfold bd at h0;omega,fun f hf=>by have:=(h1.2 f hf).1;unfold bd at this;omega⟩
theorem sizeE_of {x:T3} (h:k_api_Event x):SizeE x:=by
 obtain ⟨_,_,_,_,h1,h2⟩:=h
 exact ⟨by unfold bd at h1;omega,fun v hv=>by have:=(h2 v hv).2.2;unfold bd at this;omega⟩
theorem prefix_law {N:Nat} (hN:4194304 < N) (ha:z13 N=some true) (g:T5) (hg:SizeG g) (hs:SizeN g) (m:T8) (ht:m.Timeouts.length≤4194304) (l:List T3) (hl:l.length≤4194304) (he:∀ x∈l,SizeE x) :
  law40_MonitorPrefix N g m l=some true:=by
 unfold law40_MonitorPrefix
 obtain ⟨b,eb⟩:=few_tot hN g hg m l hl he
 rw [ha,eb]
 simp only [bS,Bool.not_true,cond_false]
 cases b with
 | false=>rfl
 | true =>
 simp only [Bool.not_true,cond_false]
 obtain ⟨q,eq,hq⟩:=agree_some hN g hg hs m ht
 cases q with
 | false =>
  have e1:z30 N g m=some ⟨0,[],[]⟩:=by unfold z30;rw [eq];rfl
  have e2:z15 N g m l=some (⟨0,[],[]⟩,0,1):=by
   unfold z15
   rw [e1]
   simp only [bS]
   have:z27 N g m ⟨0,[],[]⟩=some false:=by unfold z27;rw [eq];rfl
   rw [this];rfl
  rw [e2]
  obtain ⟨z,ez,hz⟩:=equal_some hN ⟨0,[],[]⟩ ⟨0,[],[]⟩ (Nat.zero_le _) (Nat.zero_le _)
  rw [hz rfl] at ez
  show ((z32 N ⟨0,[],[]⟩ ⟨0,[],[]⟩).bind fun x4=>some x4)=some true
  rw [ez];rfl
 | true =>
  have c:Ctx0 N g m:=⟨hN,hg,hs,ht,hq rfl,eq⟩
  obtain ⟨j,t,e,h1,h2,h3,h4,h5⟩:=runV_n (stepF N g m) l (newV g m) 0
  rw [Nat.zero_add] at h2 h4 h5
  have hst:=runV_st c l (newV g m) 0 he (new_st c)
  rw [h2] at hst
  obtain ⟨hT,hE⟩:=hst
  have hT:StM g m t:=hT
  have hE:e≠1:=hE
  rw [Run_eq c l hl he,h2,New_eq c]
  simp only [bS]
  have b1:(e==1)=false:=by simp [hE]
  have b2:decide ((j:Int) < 0)=false:=by simp
  have b3:decide ((j:Int) > (l.length:Int))=false:=by simp;omega
  have b4:(!((e==0)==((j:Int)==(l.length:Int))))=false:=by
   by_cases h:j=l.length
   ·have:=h3.2 h;subst this;simp [h]
   ·have:¬ e=0:=fun h'=>h (h3.1 h')
    have h':¬ (j:Int)=(l.length:Int):=by omega
    rw [beq_eq_false_iff_ne.2 this,beq_eq_false_iff_ne.2 h'];rfl
  rw [b1,b2,b3,b4]
  simp only [cond_false]
  refine prefix_loop c l hl he t j e h1 ?_ j N 0 (newV g m) (new_st c) rfl (Nat.zero_le _) (by omega) h2
  obtain ⟨z,ez,hz⟩:=equal_some hN t t (stM_known c hT) hT.p
  rw [hz rfl] at ez
  have hsub:∀ i,∀ x∈l.take i,SizeE x:=fun i x hx=>he x (List.mem_of_mem_take hx)
  have hlen:∀ i,(l.take i).length≤4194304:=fun i=>by rw [List.length_take];omega
  have r1:=Run_eq c (l.take j) (hlen j) (hsub j)
  rw [h4] at r1
  have l1:lsl l none (some (j:Int))=some (l.take j):=lsl_to (List.take_append_drop j l).symm (by rw [List.length_take];omega)
  unfold law40_MonitorPrefix_k1
  rw [l1]
  simp only [bS]
  rw [r1]
  simp only [bS]
  have c1:((0:Int) != 0)=false:=rfl
  have c2:((j:Int) != (j:Int))=false:=by simp
  rw [c1,c2,ez]
  simp only [bS,Bool.not_true,cond_false]
  by_cases h:j=l.length
  ·have:((j:Int)==(l.length:Int))=true:=by simp [h]
   rw [this];rfl
  ·have h':¬ (j:Int)=(l.length:Int):=by omega
   have:((j:Int)==(l.length:Int))=false:=by simp [h']
   rw [this]
   have hj:j < l.length:=by omega
   have r2:=Run_eq c (l.take (j+1)) (hlen _) (hsub _)
   rw [h5 hj] at r2
   have l2:lsl l none (some (w64 ((j:Int)+1)))=some (l.take (j+1)):=by
    rw [w64_succ (by omega)]
    exact lsl_to (List.take_append_drop (j+1) l).symm (by rw [List.length_take];omega)
   rw [l2]
   simp only [cond_false,bS]
   rw [r2]
   simp only [bS,beq_self_eq_true,cT]
   rw [ez];rfl
theorem plain:∀ (x0:T5) (x1:T8) (x2:(List T3)),k_api_Global x0→k_api_Machine x1→(x2.length≤bd∧∀ y∈x2,k_api_Event y)→∃ N,law40_MonitorPrefix N x0 x1 x2=some true:=by
 intro g m l hg hm hl
 obtain ⟨g1,g2,g3,_,_,_,g4,g5⟩:=hg
 obtain ⟨_,_,_,_,_,m1⟩:=hm
 refine ⟨33554432+300,prefix_law (by omega) (awake_some _) g ⟨?_,?_,fun x hx=>sizeD_of (g3.2 x hx),?_,?_⟩ ⟨?_,fun s hs=>?_,fun x hx=>nameD_of (g3.2 x hx)⟩ m ?_ l ?_ fun x hx=>sizeE_of (hl.2 x hx)⟩
 ·have:=g2.1;unfold bd at this;omega
 ·have:=g3.1;unfold bd at this;omega
 ·have:=g4.1;unfold bd at this;omega
 ·have:=g5.1;unfold bd at this;omega
 ·unfold bd at g1;omega
 ·have:=g2.2 s hs;unfold bd at this;omega
 ·have:=m1.1;unfold bd at this;omega
 ·have:=hl.1;unfold bd at this;omega
end Gp
end
