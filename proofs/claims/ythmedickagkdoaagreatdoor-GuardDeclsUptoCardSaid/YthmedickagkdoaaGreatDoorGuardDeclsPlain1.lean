/- The plain law, part 1: what the functions compute answers as the statement says. -/
import Derived.Lib.Bytealg
import Derived.Test.YthmedickagkdoaaGreatDoorGuardDeclsPure
set_option linter.all false
section
section
section
namespace Gp
open Go Go.Kx
theorem dF {p:Prop} [Decidable p] (h:¬p):decide p=false:=decide_eq_false h
theorem dT {p:Prop} [Decidable p] (h:p):decide p=true:=decide_eq_true h
theorem bS {α β:Type _} (a:α) (f:α->Option β):(some a).bind f=f a:=rfl
theorem cF {α:Sort _} {a b:α}:(bif false then a else b)=b:=rfl
theorem cT {α:Sort _} {a b:α}:(bif true then a else b)=a:=rfl
theorem aA {α:Type _} (a b c:List α):(a++b)++c=a++(b++c):=List.append_assoc a b c
theorem lA {α:Type _} {a b:List α}:(a++b).length=a.length+b.length:=List.length_append
theorem Xn {n:Int} (a:-9223372036854775808<=n) (b:n<=9223372036854775807):ZN n=n:=by
 show IntKind.i64.wrap n=n
 simp [IntKind.wrap,IntKind.signed,IntKind.bits]
 omega
theorem YE {n:Nat} (h:n < 4611686018427387904):ZN ((n:Int)+1)=((n+1:Nat):Int):=by rw [Xn (by omega) (by omega)];omega
theorem Yj {α:Type} (xs:List α) (k:Nat):ZW xs (k:Int)=xs[k]? := by
 unfold ZW
 have:decide (0<=(k:Int))=true:=by simp
 rw [this];simp
theorem Zpg {α:Type} {xs:List α} {i:Int} {k:Nat} (h:i=k):ZW xs i=xs[k]? := by rw [h,Yj]
theorem ZaU {α:Type} (xs:List α) (k:Nat) (e:α):YQ xs (k:Int) e=xs.set k e:=by unfold YQ;simp
theorem Zr8 {α:Type} {xs:List α} {i:Int} {k:Nat} (h:i=k) (e:α):YQ xs i e=xs.set k e:=by rw [h,ZaU]
theorem ZeJ {α:Type} (A:List α) (x:α) (B:List α) {k:Nat} (h:A.length=k):(A++x::B)[k]? = some x:=by
 subst h;simp
theorem Zli {α:Type} (A:List α) (x y:α) (B:List α) {k:Nat} (h:A.length=k):(A++x::B).set k y=A++y::B:=by
 subst h;simp
theorem ZjF {α:Type} {L A:List α} {x:α} {B:List α} {i:Int} (hL:L=A++x::B) (h:i=(A.length:Int)):ZW L i=some x:=by
 rw [Zpg h,hL];exact ZeJ A x B rfl
theorem Zlg {α:Type} {L A:List α} {x:α} {B:List α} {i:Int} (hL:L=A++x::B) (h:i=(A.length:Int)) (y:α):YQ L i y=A++y::B:=by
 rw [Zr8 h,hL];exact Zli A x y B rfl
theorem Xj {α:Type} {xs ys:List α} (h:xs.length+ys.length<=4294967296):YJ xs ys=some (xs++ys):=by
 unfold YJ
 have:Nat.ble (xs.length+ys.length) lim=true:=Nat.ble_eq_true_of_le h
 rw [this];rfl
theorem XE {α:Type} {xs:List α} {k:Nat} {x:α} {l:List α} (h:xs.drop k=x::l):k < xs.length/\xs[k]? = some x/\xs.drop (k+1)=l:=by
 have a:k < xs.length:=by
  rcases Nat.lt_or_ge k xs.length with b | b
  ·exact b
  ·rw [List.drop_eq_nil_of_le b] at h;cases h
 rw [List.drop_eq_getElem_cons a] at h
 simp only [List.cons.injEq] at h
 exact ⟨a,by rw [Za a,h.1],h.2⟩
theorem XF {α:Type} {xs:List α} {k:Nat} (h:xs.drop k=[]):xs.length<=k:=by simpa using h
def lv {α γ:Type} (b:α->Nat->γ->γ) (e:γ):List α->Nat->γ
 | [],_=>e
 | x::l,k=>b x k (lv b e l (k+1))
theorem Zqa {α γ:Type} (xs:List α) (F:Nat->Int->γ) (b:α->Nat->γ->γ) (e:γ)
  (g:∀ n k x,k < xs.length->xs[k]? = some x->F (n+1) (k:Int)=b x k (F n ((k+1:Nat):Int)))
  (i:∀ n k,xs.length<=k->F (n+1) (k:Int)=e) :
  ∀ (l:List α) (k n:Nat),xs.drop k=l->l.length < n->F n (k:Int)=lv b e l k:=by
 intro l
 induction l with
 | nil =>
  intro k n h f
  obtain ⟨n,rfl⟩:=pS n (by simp at f;omega)
  exact i n k (XF h)
 | cons x l j =>
  intro k n h f
  obtain ⟨n,rfl⟩:=pS n (by simp at f;omega)
  have ⟨a,c,d⟩:=XE h
  rw [g n k x a c,j (k+1) n d (by simp at f;omega)];rfl
theorem Zp9 {α γ:Type} {xs:List α} {F:Nat->Int->γ} {b:α->Nat->γ->γ} {e:γ} {n:Nat} {i:Int} (a:xs.length < n) (hi:i=((0:Nat):Int))
  (c:∀ n k x,k < xs.length->xs[k]? = some x->F (n+1) (k:Int)=b x k (F n ((k+1:Nat):Int)))
  (d:∀ n k,xs.length<=k->F (n+1) (k:Int)=e):F n i=lv b e xs 0:=by
 rw [hi];exact Zqa xs F b e c d xs 0 n rfl a
theorem Ym {k n:Nat} (h:k < n):decide ((k:Int) < (n:Int))=true:=by simp [h]
theorem Yr {k n:Nat} (h:n<=k):decide ((k:Int) < (n:Int))=false:=by simp;omega
end Gp
end
section
namespace Gp
open Go Go.Kx
def Lt {α:Type} (K:α->Int) (r:α->α->Prop) (x y:α):Prop:=K x < K y\/(K x=K y/\r x y)
def MI {α:Type} (K:α->Int) (r:α->α->Prop) (l:List α):Prop:=l.Pairwise (Lt K r)
variable {α:Type} {K:α->Int} {r:α->α->Prop}
theorem Zo3 {L A:List α} {x:α} {B:List α} {k:Nat} (hL:L=A++x::B) (h:A.length=k):L[k]? = some x:=by rw [hL];exact ZeJ A x B h
inductive Bk (K:α->Int) (r:α->α->Prop) (n:Nat):List α->List α->Prop
 | last (o c:List α):c.length<=n->c.Perm o->MI K r c->Bk K r n o c
 | cons (o1 c1 o2 c2:List α):c1.length=n->c1.Perm o1->MI K r c1->Bk K r n o2 c2->Bk K r n (o1++o2) (c1++c2)
theorem Bk.few {n:Nat} {o c:List α} (h:Bk K r n o c) (s:0 < n) (p:c.length < 2 * n) :
  (c.length<=n/\c.Perm o/\MI K r c)\/∃ o1 d b a,o=o1++d/\c=b++a/\b.length=n/\0 < a.length/\a.length<=n/\b.Perm o1/\a.Perm d/\MI K r b/\MI K r a:=by
 cases h with
 | last _ _ i e f=>exact .inl ⟨i,e,f⟩
 | cons o1 b d a i e f q =>
  cases q with
  | last _ _ k j m =>
   rcases Nat.eq_zero_or_pos a.length with g | g
   ·have:a=[]:=List.length_eq_zero_iff.mp g
    subst this
    have:d=[]:=by simpa using j.symm
    subst this
    exact .inl ⟨by simp;omega,by simpa using e,by simpa using f⟩
   ·exact .inr ⟨o1,d,b,a,rfl,rfl,i,g,k,e,j,f,m⟩
  | cons t d1 u v k j m w=>simp at p;omega
theorem Bk.all {n:Nat} {o c:List α} (h:Bk K r n o c) (a:0 < n) (b:c.length<=n):c.Perm o/\MI K r c:=by
 rcases h.few a (by omega) with h | ⟨o1,e,f,g,i,d,j,k,_⟩
 ·exact h.2
 ·subst d;simp at b;omega
end Gp
end
section
namespace Gp
open Go Go.Kx Gx
theorem ZQ {α γ:Type} (xs:List α) (g:xs.length<=4194304) (b:α->Int->γ->γ) (F:Nat->Int->γ) (e:γ) {n:Nat} (h:4194304 < n)
  (a:∀ n k x,k < xs.length->xs[k]? = some x->F (n+1) (k:Int)=b x k (F n (ZN ((k:Int)+1))))
  (c:∀ n k,xs.length<=k->F (n+1) (k:Int)=e):F n (0:Int)=lv (fun x (k:Nat) r=>b x (k:Int) r) e xs 0 :=
 Zp9 (by omega) rfl (fun n k x d f=>by rw [a n k x d f,YE (by omega)]) c
def Wp (a b:ByteArray):Bool:=a.toList==b.toList
theorem ZoG (a:ByteArray):Wp a a=true:=by simp [Wp]
variable {N:Nat} (hN:4194304 < N)
end Gp
end
section
namespace Gp
open Go Go.Kx Gx
variable {N:Nat} (hN:4194304 < N)
def ZfU {α:Type} (f:α->Bool) (l:List α):Option Int:=lv (fun x (k:Nat) r=>bif f x then some (k:Int) else r) (some (-1)) l 0
theorem Znx (a b:ByteArray):(a.toList==b.toList)=(b.toList==a.toList):=by
 rw [Bool.eq_iff_iff,beq_iff_eq,beq_iff_eq];exact ⟨Eq.symm,Eq.symm⟩
include hN in
theorem Zna (l:List ByteArray) (b:l.length<=4194304) (v:ByteArray):LW N l v=ZfU (fun x=>Wp x v) l:=by
 unfold LW ZfU
 refine ZQ l b (fun x k r=>bif Wp x v then some k else r) (Sq l v) _ hN ?_ ?_
 ·intro n k x a c
  simp only [Sq,Ym a,Yj,c,cT,bS,Wp,Znx v x]
 ·intro n k a
  simp only [Sq,Yr a,cF,Dw]
end Gp
end
section
namespace Gp
open Go Go.Kx Gx
theorem Zj7 {α:Type} {L A B:List α} {i:Int} (hL:L=A++B) (hi:i=(A.length:Int)):lsl L none (some i)=some A:=by
 subst hL hi
 have h:decide ((A.length:Int)<=((A++B).length:Int))=true:=by simp;omega
 have a:decide ((0:Int)<=(A.length:Int))=true:=by simp
 unfold lsl W7
 simp only [Option.getD_some,Option.getD_none,h,a]
 simp
end Gp
end
section
namespace Gp
open Go Go.Kx Gx
def QI {α:Type} (p:α->Nat->Bool):List α->Nat->Bool
 | [],_=>true
 | x::l,k=>p x k && QI p l (k+1)
theorem Znk {α:Type} (p:α->Nat->Bool) (xs:List α) (F:Nat->Int->Option Bool) (e:Option Bool)
  (f:∀ n k x,k < xs.length->xs[k]? = some x->F (n+1) (k:Int)=bif p x k then F n ((k+1:Nat):Int) else some false)
  (g:∀ n k,xs.length<=k->F (n+1) (k:Int)=e) :
  ∀ (l:List α) (k n:Nat),xs.drop k=l->l.length < n->F n (k:Int)=bif QI p l k then e else some false:=by
 intro l
 induction l with
 | nil =>
  intro k n h b
  obtain ⟨n,rfl⟩:=pS n (by simp at b;omega)
  exact g n k (XF h)
 | cons x l i =>
  intro k n h b
  obtain ⟨n,rfl⟩:=pS n (by simp at b;omega)
  have ⟨a,c,d⟩:=XE h
  rw [f n k x a c,i (k+1) n d (by simp at b;omega)]
  show _=bif (p x k && QI p l (k+1)) then e else some false
  cases p x k<;>rfl
theorem Znj {α:Type} (p:α->Nat->Bool) {xs:List α} {F:Nat->Int->Option Bool} {e:Option Bool} {n:Nat} (a:xs.length < n)
  (b:∀ n k x,k < xs.length->xs[k]? = some x->F (n+1) (k:Int)=bif p x k then F n ((k+1:Nat):Int) else some false)
  (c:∀ n k,xs.length<=k->F (n+1) (k:Int)=e):F n (0:Int)=bif QI p xs 0 then e else some false :=
 Znk p xs F e b c xs 0 n rfl a
def bs (s:ByteArray):List UInt8:=s.data.toList
theorem Wa (s:ByteArray):s.size=(bs s).length:=rfl
theorem Zsh {s:ByteArray} {k:Nat} (h:k < (bs s).length):decide ((k:Int) < (s.size:Int))=true:=Ym h
theorem Zsg {s:ByteArray} {k:Nat} (h:(bs s).length<=k):decide ((k:Int) < (s.size:Int))=false:=Yr h
theorem Vf (s:ByteArray):s.toList=bs s:=ByteArray.toList_eq s
theorem H6 {a b:ByteArray} (h:bs a=bs b):a=b:=by
 cases a with | mk a=>cases b with | mk b=>simpa [bs] using h
theorem RX (s:ByteArray) (k:Nat):Xc s (k:Int)=(bs s)[k]?.map (fun b=>(b.toNat:Int)):=by
 unfold Xc
 have h:decide (0<=(k:Int))=true:=by simp
 rw [h,cT]
 have e:s[(k:Int).toNat]? = (bs s)[k]? := by
  simp [getElem?_def,bs]
  split<;>simp_all
  rfl
 rw [e]
theorem Zan (a b:ByteArray):Wp a b=true↔a=b:=by
 unfold Wp
 rw [beq_iff_eq,Vf,Vf]
 exact ⟨H6,fun h=>by rw [h]⟩
variable {N:Nat} (hN:4194304 < N)
def TZ (c:Int):Bool:=(decide (97<=c) && decide (c<=122)) || (decide (65<=c) && decide (c<=90))
def QX (c:Int):Bool:=TZ c || ((decide (48<=c) && decide (c<=57)) || c==95)
theorem ZaB (N:Nat) (c:Int):z72 N c=some (TZ c):=by
 unfold z72 TZ
 cases decide (97<=c)<;>cases decide (c<=122)<;>cases decide (65<=c)<;>rfl
theorem ZkT (N:Nat) (c:Int):DU N c=some (TZ c):=ZaB N c
theorem Zpk (N:Nat) (c:Int):PE N c=some (QX c):=by
 unfold PE QX HI
 rw [ZaB]
 simp only [bS]
 cases TZ c
 ·cases decide (48<=c)<;>cases decide (c<=57)<;>rfl
 ·rfl
def SY (s:ByteArray):Bool :=
 match bs s with
 | []=>false
 | x::l=>TZ (x.toNat:Int) && (decide (l.length < 16) && QI (fun (c:UInt8) _=>QX (c.toNat:Int)) (x::l) 0)
def keywords:List ByteArray:=[(str [97,103,97,105,110]),(str [97,110,100]),(str [97,115]),(str [97,116]),(str [99,97,108,108]),(str [99,104,111,105,99,101]),(str [101,108,115,101]),(str [102,114,111,109]),(str [105,102]),(str [105,110,116]),(str [108,101,110]),(str [108,111,111,112]),(str [109,101,115,115,97,103,101]),(str [111,102]),(str [111,102,102,101,114]),(str [111,110]),(str [111,114]),(str [112,97,114]),(str [112,108,97,121,115]),(str [112,114,111,116,111,99,111,108]),(str [115,101,114,118,105,99,101]),(str [116,101,120,116]),(str [116,105,109,101,115]),(str [116,111]),(str [118,97,114]),(str [119,104,101,114,101]),(str [119,104,105,108,101]),(str [119,105,116,104,105,110])]
def Xq (s:ByteArray):Bool:=SY s && !(keywords.any fun k=>Wp k s)
include hN in
theorem Zkl (s:ByteArray) (b:s.size<=4194304):So N s N (0:Int)=some (QI (fun (c:UInt8) _=>QX (c.toNat:Int)) (bs s) 0):=by
 rw [Wa] at b
 rw [Znj (xs:=bs s) (fun (c:UInt8) _=>QX (c.toNat:Int)) (F:=So N s) (e:=some true) (by omega)]
 ·cases QI (fun (c:UInt8) _=>QX (c.toNat:Int)) (bs s) 0<;>rfl
 ·intro n k x a d
  simp only [So,Zsh a,cT,RX,d,Option.map_some,bS,Zpk,YE (show k < 4611686018427387904 by omega)]
  cases QX (x.toNat:Int)<;>rfl
 ·intro n k a
  simp only [So,Zsg a,cF,ZbF]
theorem Zkm (s:ByteArray):∀ n k,Hd N s n k=So N s n k
 | 0,_=>rfl
 | n+1,k=>by
  simp only [Hd,So,Zkm s n]
  rfl
theorem Zh4:bs (str [])=[]:=rfl
include hN in
theorem Zq1 (s:ByteArray) (a:s.size<=4194304):Rl N s=some (SY s):=by
 unfold Rl
 rw [Zkl hN s a,Vf,Vf,Zh4,Wa,show Xc s (0:Int)=Xc s ((0:Nat):Int) from rfl,RX]
 unfold SY
 cases h:bs s with
 | nil=>rfl
 | cons x l =>
  have e:(x::l==([]:List UInt8))=false:=rfl
  rw [e]
  simp only [cF,List.getElem?_cons_zero,Option.map_some,bS,ZaB]
  have d:decide (((x::l).length:Int) > 16) = !decide (l.length < 16):=by
   by_cases q:l.length < 16
   ·rw [dT q];simp;omega
   ·rw [dF q];simp;omega
  rw [d]
  cases TZ (x.toNat:Int)<;>cases decide (l.length < 16)<;>rfl
include hN in
theorem Zq0 (s:ByteArray) (a:s.size<=4194304):Rl N s=some (SY s)/\Hc N s=some (SY s):=by
 unfold Rl Hc
 rw [Zkm,Zkl hN s a,Vf,Vf,Zh4,Wa,show Xc s (0:Int)=Xc s ((0:Nat):Int) from rfl,RX]
 unfold SY
 cases h:bs s with
 | nil=>exact ⟨rfl,rfl⟩
 | cons x l =>
  have e:(x::l==([]:List UInt8))=false:=rfl
  rw [e]
  simp only [cF,List.getElem?_cons_zero,Option.map_some,bS,ZaB,ZkT]
  have d:decide (((x::l).length:Int) > 16) = !decide (l.length < 16):=by
   by_cases q:l.length < 16
   ·rw [dT q];simp;omega
   ·rw [dF q];simp;omega
  rw [d]
  cases TZ (x.toNat:Int)<;>cases decide (l.length < 16)<;>exact ⟨rfl,rfl⟩
theorem ZfV {α:Type} (f:α->Bool) (l:List α) (k:Nat):∃ i,lv (fun x (k:Nat) r=>bif f x then some (k:Int) else r) (some (-1)) l k=some i/\decide (i>=0)=l.any f:=by
 induction l generalizing k with
 | nil=>exact ⟨-1,rfl,rfl⟩
 | cons x l a =>
  show ∃ i,(bif f x then some (k:Int) else lv _ _ l (k+1))=some i/\_
  rw [List.any_cons]
  cases f x
  ·exact a (k+1)
  ·exact ⟨k,rfl,by simp⟩
include hN in
theorem Zem (l:List ByteArray) (a:l.length<=4194304) (v:ByteArray):Vu N l v=some (l.any fun x=>Wp x v):=by
 unfold Vu
 rw [Zna hN l a]
 have ⟨i,b,c⟩:=ZfV (fun x=>Wp x v) l 0
 unfold ZfU
 rw [b,bS,c]
include hN in
theorem ZrI (l:List ByteArray) (b:l.length<=4194304) (v:ByteArray):DR N l v=some (l.any fun x=>Wp x v):=by
 unfold DR
 rw [ZQ l b (fun x k r=>bif Wp x v then some true else r) (P6 l v) (some false) hN]
 ·generalize (0:Nat)=k
  induction l generalizing k with
  | nil=>rfl
  | cons x l d =>
   show (bif Wp x v then some true else lv _ _ l (k+1))=_
   rw [List.any_cons,d (by simp at b;omega)]
   cases Wp x v<;>rfl
 ·intro n k x a c
  simp only [P6,Ym a,Yj,c,cT,bS,Wp]
 ·intro n k a
  simp only [P6,Yr a,cF,ZcB]
include hN in
theorem ZlO (s:ByteArray) (b:s.size<=4194304):Wr N s=some (Xq s):=by
 unfold Wr
 rw [Zq1 hN s b]
 simp only [bS]
 have a:=Zem hN keywords (by decide) s
 unfold keywords at a
 rw [a]
 unfold Xq keywords
 simp only [bS]
 cases SY s<;>rfl
include hN in
theorem ZlN (s:ByteArray) (c:s.size<=4194304):Wr N s=some (Xq s)/\PR N s=some (Xq s):=by
 have ⟨d,e⟩:=Zq0 hN s c
 unfold Wr PR ZcC
 rw [d,e]
 simp only [bS]
 have a:=Zem hN keywords (by decide) s
 have b:=ZrI hN keywords (by decide) s
 unfold keywords at a b
 rw [a,b]
 unfold Xq keywords
 simp only [bS]
 cases SY s<;>exact ⟨rfl,rfl⟩
end Gp
end
section
namespace Gp
open Go Go.Kx Gx
def Yb (l:List UInt8):ByteArray:=⟨l.toArray⟩
theorem Yz (l:List UInt8):bs (Yb l)=l:=by simp [bs,Yb]
theorem Gs (s:ByteArray):Yb (bs s)=s:=H6 (Yz _)
theorem ZnC (s:ByteArray) (a b:Nat):bs (s.extract a b)=((bs s).take b).drop a:=by
 unfold bs
 rw [ByteArray.data_extract,Array.toList_extract]
 simp [List.extract,List.drop_take]
theorem ZaX {s:ByteArray} {x y z:List UInt8} {i j:Int} (h:bs s=x++(y++z)) (hi:i=(x.length:Int)) (a:j=((x.length+y.length:Nat):Int)):ssl s (some i) (some j)=some (Yb y):=by
 subst hi a
 have b:decide ((0:Int)<=(x.length:Int))=true:=by simp
 have c:decide ((x.length:Int)<=((x.length+y.length:Nat):Int))=true:=by simp;omega
 have d:decide (((x.length+y.length:Nat):Int)<=(s.size:Int))=true:=by rw [Wa,h];simp;omega
 unfold ssl W7
 simp only [Option.getD_some,b,c,d,Bool.and_self,cT,Option.map_some,Int.toNat_natCast]
 congr 1
 apply H6
 rw [ZnC,Yz,h,<- aA,List.take_append_of_le_length (by simp),List.take_of_length_le (by simp)]
 simp
theorem Zsu {s:ByteArray} {x y:List UInt8} {j:Int} (h:bs s=x++y) (a:j=(x.length:Int)):ssl s none (some j)=some (Yb x):=by
 have e:ssl s none (some j)=ssl s (some 0) (some j):=rfl
 rw [e]
 exact ZaX (x:=[]) (y:=x) (z:=y) (by rw [h];rfl) rfl (by rw [a];simp)
theorem Zst {s:ByteArray} {x y:List UInt8} {i:Int} (h:bs s=x++y) (hi:i=(x.length:Int)):ssl s (some i) none=some (Yb y):=by
 have e:ssl s (some i) none=ssl s (some i) (some (s.size:Int)):=rfl
 rw [e]
 exact ZaX (x:=x) (y:=y) (z:=[]) (by rw [h];simp) hi (by rw [Wa,h];simp)
theorem Zpi {l:List UInt8} {c:UInt8} (h:0 < l.count c):∃ p q,l=p++c::q/\p.count c=0/\Go.Lib.indexByte l c=(p.length:Int):=by
 induction l with
 | nil=>simp at h
 | cons b l g =>
  cases a:(b==c)
  ·rw [List.count_cons,a] at h
   have ⟨p,q,d,e,f⟩:=g (by simpa using h)
   refine ⟨b::p,q,by rw [d];rfl,by rw [List.count_cons,e,a];rfl,?_⟩
   unfold Go.Lib.indexByte
   rw [a,f,show ((p.length:Int)==-1)=false by simp]
   simp
  ·have:b=c:=by simpa using a
   subst this
   exact ⟨[],l,rfl,by simp,by unfold Go.Lib.indexByte;rw [a];rfl⟩
def XH (acc:List UInt8):List UInt8->List (List UInt8)
 | []=>[acc]
 | c::l=>if c=46 then acc::XH [] l else XH (acc++[c]) l
theorem Pa (a:List UInt8) (c:UInt8) (l:List UInt8):XH a (c::l)=if c=46 then a::XH [] l else XH (a++[c]) l:=rfl
theorem Zlr:∀ (l a:List UInt8),l.count 46=0->XH a l=[a++l]
 | [],a,_=>by simp [XH]
 | c::l,a,h=>by
  rw [List.count_cons] at h
  have b:¬ c=46:=by intro b;subst b;simp at h
  rw [Pa,if_neg b,Zlr l _ (by omega)];simp
theorem Zls:∀ (p a q:List UInt8),p.count 46=0->XH a (p++46::q)=(a++p)::XH [] q
 | [],a,q,_=>by rw [List.nil_append,Pa,if_pos rfl,List.append_nil]
 | c::p,a,q,h=>by
  rw [List.count_cons] at h
  have b:¬ c=46:=by intro b;subst b;simp at h
  show XH a (c::(p++46::q))=_
  rw [Pa,if_neg b,Zls p _ q (by omega)];simp
theorem ZfL:∀ (l a:List UInt8),(XH a l).length=l.count 46+1
 | [],a=>by simp [XH]
 | c::l,a=>by
  rw [Pa,List.count_cons]
  split
  ·rename_i h;subst h
   rw [Zf,ZfL l];simp
  ·rename_i h
   rw [ZfL l];simp [h]
variable {N:Nat}
theorem Zpj (s:ByteArray):PY N s (str [46])=some (Go.Lib.indexByte (bs s) 46):=by
 unfold PY ZcJ
 have b:(((str [46]).size:Int)==0)=false:=rfl
 have c:(((str [46]).size:Int)==1)=true:=rfl
 have d:Xc (str [46]) (0:Int)=some 46:=by
  rw [show (0:Int)=((0:Nat):Int) from rfl,RX];rfl
 rw [b,c,d]
 simp only [cT,cF,bS,DM]
 have e:ZeH s 46=Go.Lib.indexByte (bs s) 46:=Go.Lib.firstIdx_eq s 46
 rw [e,Vf,Vf]
 cases a:(bs (str [46])==bs s)
 ·rfl
 ·have a:bs (str [46])=bs s:=eq_of_beq a
  rw [<- a];rfl
theorem Zn5 (s:ByteArray):z222 N s (str [46])=some (((bs s).count 46:Nat):Int):=by
 unfold z222
 have a:(((str [46]).size:Int)==0)=false:=rfl
 have b:(((str [46]).size:Int)==1)=true:=rfl
 have c:Xc (str [46]) (0:Int)=some 46:=by
  rw [show (0:Int)=((0:Nat):Int) from rfl,RX];rfl
 rw [a,b,c]
 simp only [cT,cF,bS]
 congr 1
 unfold B9
 rw [show s.foldl (fun (n:Int) x=>if x==Kx.byteOf 46 then n+1 else n) ((0:Nat):Int)=(bs s).foldl (fun (n:Int) x=>if x==Kx.byteOf 46 then n+1 else n) ((0:Nat):Int) from Go.Lib.foldl_data _ _ _,Go.Lib.count_foldl]
 simp [Go.Lib.countByte,Kx.byteOf]
theorem Zo2 (s sep:ByteArray) (d:sep=str [46]) (XU:Nat) (H:XU<=s.size) (I:s.size<=4194304) :
  ∀ (n:Nat) (a:ByteArray) (D R:List ByteArray),(bs a).count 46 < n->(bs a).length<=4194304->D.length+(bs a).count 46=XU->R.length=(bs a).count 46+1 ->
  Qh N s sep (0:Int) ((XU+1:Nat):Int) n a (D++R) (D.length:Int)=some (D++(XH [] (bs a)).map Yb):=by
 subst d
 intro n
 induction n with
 | zero=>intro a D R h;omega
 | succ n G =>
  intro a D R L t M i
  have v:ZN ((s.size:Int)+1)=((s.size+1:Nat):Int):=YE (by omega)
  have b:XJ ((XU+1:Nat):Int) ((s.size+1:Nat):Int)=((XU+1:Nat):Int):=by unfold XJ;rw [if_neg (by omega)]
  have f:ZN (((XU+1:Nat):Int)-1)=(XU:Int):=by rw [Xn (by omega) (by omega)];omega
  have j:(bs a).count 46=0->L8 a (D++R) (D.length:Int)=some (D++(XH [] (bs a)).map Yb):=by
   intro u
   rw [u] at i
   obtain ⟨r,rfl⟩:=List.length_eq_one_iff.mp i
   unfold L8
   rw [ZjF (A:=D) (x:=r) (B:=[]) rfl rfl,bS,Zlg (A:=D) (x:=r) (B:=[]) rfl rfl,YE (by omega),Zj7 (A:=D++[a]) (B:=[]) (by simp) (by simp),Zlr _ _ u]
   simp [Gs]
  by_cases F:D.length < XU
  ·have k:decide ((D.length:Int) < (XU:Int))=true:=by simp;omega
   have ⟨p,q,e,o,C⟩:=Zpi (l:=bs a) (c:=46) (by omega)
   have w:(bs a).length=p.length+(q.length+1):=by rw [e];simp
   have z:(bs a).count 46=q.count 46+1:=by rw [e,List.count_append,List.count_cons,o];simp
   obtain ⟨r,R',rfl⟩:∃ r R',R=r::R':=by
    cases R with
    | nil=>simp at i
    | cons r R'=>exact ⟨r,R',rfl⟩
   simp only [Zf] at i
   have g:decide ((p.length:Int) < 0)=false:=by simp
   have E:ZN ((p.length:Int)+0)=(p.length:Int):=by rw [Xn (by omega) (by omega)];omega
   have m:ZN ((p.length:Int)+((str [46]).size:Int))=((p++[46]:List UInt8).length:Int):=by
    rw [show ((str [46]).size:Int)=1 from rfl,YE (by omega)];simp
   simp only [Qh,v,b,f,k,cT,Zpj,C,bS,g,cF,E,m]
   rw [Zsu e rfl,bS,ZjF (A:=D) (x:=r) (B:=R') rfl rfl,bS,Zst (x:=p++[46]) (y:=q) (by rw [e];simp) rfl,bS,Zlg (A:=D) (x:=r) (B:=R') rfl rfl,YE (by omega)]
   have:=G (Yb q) (D++[Yb p]) R' (by rw [Yz];omega) (by rw [Yz];omega) (by rw [Yz];simp;omega) (by rw [Yz];omega)
   rw [Yz] at this
   rw [show ((D.length+1:Nat):Int)=((D++[Yb p]).length:Int) by simp,show D++Yb p::R'=(D++[Yb p])++R' by simp,this,e,Zls _ _ _ o]
   simp
  ·have k:decide ((D.length:Int) < (XU:Int))=false:=by simp;omega
   simp only [Qh,v,b,f,k,cF]
   exact j (by omega)
theorem Zsn (hN:4194304 < N) (s:ByteArray) (c:s.size<=1000000):Dm N s (str [46])=some ((XH [] (bs s)).map Yb):=by
 unfold Dm Zch
 have d:((-1:Int)==0)=false:=rfl
 have e:((str [46]).toList==(str []).toList)=false:=by rw [Vf,Vf];rfl
 have f:decide ((-1:Int) < 0)=true:=rfl
 have g:(bs s).count 46<=(bs s).length:=List.count_le_length
 rw [d,e,f,Zn5]
 simp only [cT,cF,bS,DJ]
 rw [Wa] at c
 rw [YE (by omega)]
 have h:ZN ((s.size:Int)+1)=((s.size+1:Nat):Int):=YE (by rw [Wa];omega)
 have b:XJ (((bs s).count 46+1:Nat):Int) ((s.size+1:Nat):Int)=(((bs s).count 46+1:Nat):Int):=by unfold XJ;rw [if_neg (by rw [Wa];omega)]
 have m:Sc (str []) (((bs s).count 46+1:Nat):Int) (((bs s).count 46+1:Nat):Int)=some (List.replicate ((bs s).count 46+1) (str [])):=by
  unfold Sc
  have i:decide ((0:Int)<=(((bs s).count 46+1:Nat):Int))=true:=by simp;omega
  have j:decide ((((bs s).count 46+1:Nat):Int)<=4294967296)=true:=by simp;omega
  simp only [i,j,Int.le_refl,decide_true,Bool.and_self,cT]
  simp
 rw [h,b,m,bS]
 have:=Zo2 (N:=N) s (str [46]) rfl ((bs s).count 46) (by rw [Wa];omega) (by rw [Wa];omega) N s [] (List.replicate ((bs s).count 46+1) (str [])) (by omega) (by omega) (by simp) (by simp)
 rw [List.nil_append] at this
 have a:Qh N s (str [46]) (0:Int) (((bs s).count 46+1:Nat):Int) N s (List.replicate ((bs s).count 46+1) (str [])) (0:Int)=some ([]++(XH [] (bs s)).map Yb):=this
 rw [a];simp
def WW (s:ByteArray):Bool:=decide (s.size<=50) && (XH [] (bs s)).all fun p=>Xq (Yb p)
theorem Zfj:∀ (l a:List UInt8),∀ p∈XH a l,p.length<=a.length+l.length
 | [],a,p,h=>by simp [XH] at h;subst h;simp
 | c::l,a,p,h=>by
  rw [Pa] at h
  split at h
  ·rcases List.mem_cons.mp h with h | h
   ·subst h;simp
   ·have:=Zfj l [] p h;simp at this;simp;omega
  ·have:=Zfj l _ p h;simp at this;simp;omega
theorem ZkF (hN:4194304 < N) (s:ByteArray):SB N s=some (WW s):=by
 unfold SB WW
 by_cases h:s.size<=50
 ·rw [dT (show (s.size:Int)<=50 by omega),dT h,cT,Zsn hN s (by omega),bS]
  unfold ZbD Zca
  have m:(XH [] (bs s)).length<=51:=by
   rw [ZfL]
   have:(bs s).count 46<=(bs s).length:=List.count_le_length
   rw [Wa] at h;omega
  rw [ZQ ((XH [] (bs s)).map Yb) (by simp;omega) (fun x k r=>bif !(Xq x) then some k else r) (PQ N ((XH [] (bs s)).map Yb)) (some (-1)) hN]
  ·have ⟨i,e,f⟩:=ZfV (fun x => !(Xq x)) ((XH [] (bs s)).map Yb) 0
   rw [e,bS,f,bS,List.any_map,List.not_any_eq_all_not]
   simp [Function.comp_def]
  ·intro n k x a d
   have b:=Zb d
   obtain ⟨p,g,rfl⟩:=List.mem_map.mp b
   have c:=Zfj _ _ p g
   have j:=ZlO hN (Yb p) (by rw [Wa,Yz];rw [Wa] at h;simp at c;omega)
   simp only [PQ,Ym a,Yj,d,cT,bS,ZbE,j]
  ·intro n k a
   simp only [PQ,Yr a,cF,Zcc]
 ·rw [dF (show ¬ (s.size:Int)<=50 by omega),dF h];rfl
theorem ZrK (hN:4194304 < N) (s:ByteArray) (C:s.size<=4194304):∀ (n:Nat) (x a l:List UInt8) (i j:Int),l.length+1 < n->bs s=x++(a++l)->i=(x.length:Int)->j=((x.length+a.length:Nat):Int) ->
  Su N s n i j=bif (XH a l).all fun p=>Xq (Yb p) then DC s else some false:=by
 intro n
 induction n with
 | zero=>intro x a l i j h;omega
 | succ n z =>
  intro x a l i j k d hi g
  have b:s.size=x.length+(a.length+l.length):=by rw [Wa,d];simp
  have e:decide (j<=(s.size:Int))=true:=by simp;omega
  have y:=(ZlN hN (Yb a) (by rw [Wa,Yz];omega)).2
  have m:ZN (j+1)=((x.length+a.length+1:Nat):Int):=by rw [g];exact YE (by omega)
  cases l with
  | nil =>
   have f:(j==(s.size:Int))=true:=by simp at b;simp;omega
   obtain ⟨n,rfl⟩:=pS n (by simp at k;omega)
   have o:decide (ZN (j+1)<=(s.size:Int))=false:=by rw [m];simp at b;simp;omega
   unfold Su
   rw [e,cT,f,cT]
   unfold PT
   rw [cT,ZaX d hi g,bS]
   unfold Vv
   rw [y]
   simp only [bS,XH,List.all_cons,List.all_nil,Bool.and_true]
   cases Xq (Yb a)
   ·rfl
   ·simp only [Zg,cF,cT]
    unfold Su
    rw [o];rfl
  | cons c l =>
   have q:(j==(s.size:Int))=false:=by simp at b;simp;omega
   have t:Xc s j=some (c.toNat:Int):=by
    rw [g,RX,Zo3 (A:=x++a) (x:=c) (B:=l) (by rw [d];simp) (by simp)];rfl
   unfold Su
   rw [e,cT,q,cF,t,bS]
   by_cases w:c=46
   ·subst w
    have u:(((46:UInt8).toNat:Int)==46)=true:=rfl
    rw [u]
    unfold PT
    rw [cT,ZaX d hi g,bS]
    unfold Vv
    rw [y]
    have v:XH a (46::l)=a::XH [] l:=by rw [Pa,if_pos rfl]
    rw [v,List.all_cons]
    simp only [bS]
    cases Xq (Yb a)
    ·rfl
    ·simp only [Zg,cF,Bool.true_and]
     rw [m]
     exact z (x++a++[46]) [] l _ _ (by simp at k;omega) (by rw [d];simp) (by simp;omega) (by simp;omega)
   ·have u:((c.toNat:Int)==46)=false:=by
     rw [beq_eq_false_iff_ne]
     intro h
     apply w
     apply UInt8.toNat_inj.mp
     show c.toNat=46
     omega
    rw [u]
    unfold PT
    have v:XH a (c::l)=XH (a++[c]) l:=by rw [Pa,if_neg w]
    rw [cF,m,v]
    exact z x (a++[c]) l _ _ (by simp at k;omega) (by rw [d];simp) hi (by simp;omega)
theorem ZrJ (hN:4194304 < N) (s:ByteArray) (a:s.size<=4000000):z183 N s=some (WW s):=by
 unfold z183
 rw [ZrK hN s (by omega) N [] [] (bs s) (0:Int) (0:Int) (by rw [Wa] at a;omega) rfl rfl rfl]
 unfold DC WW
 by_cases h:s.size<=50
 ·rw [dT (show (s.size:Int)<=50 by omega),dT h]
  cases (XH [] (bs s)).all fun p=>Xq (Yb p)<;>rfl
 ·rw [dF (show ¬ (s.size:Int)<=50 by omega),dF h]
  cases (XH [] (bs s)).all fun p=>Xq (Yb p)<;>rfl
end Gp
end
end
section
namespace Gp
open Go Go.Kx Gx
mutual
def oI:ZY->ZS
 | ⟨k,f,t,n,a,x,b⟩=>⟨k,f,t,n,a,x,YP b⟩
def oL:List ZY->List ZS
 | []=>[]
 | x::l=>oI x::oL l
def YP:List (List ZY)->List (List ZS)
 | []=>[]
 | x::l=>oL x::YP l
end
theorem Lc:∀ l,oL l=l.map oI
 | []=>by simp only [oL,List.map_nil]
 | x::l=>by simp only [oL,List.map_cons,Lc l]
theorem Lb:∀ l,YP l=l.map oL
 | []=>by simp only [YP,List.map_nil]
 | x::l=>by simp only [YP,List.map_cons,Lb l]
mutual
def dI:ZS->Nat
 | ⟨_,_,_,_,_,_,b⟩=>WT b+1
def dL:List ZS->Nat
 | []=>0
 | x::l=>max (dI x) (dL l)
def WT:List (List ZS)->Nat
 | []=>0
 | x::l=>max (dL x) (WT l)
end
mutual
def bI:ZS->Prop
 | ⟨_,_,t,_,_,_,b⟩=>t.length<=4194304/\b.length<=4194304/\H4 b
def bL:List ZS->Prop
 | []=>True
 | x::l=>bI x/\bL l
def H4:List (List ZS)->Prop
 | []=>True
 | x::l=>x.length<=4194304/\bL x/\H4 l
end
theorem V5:∀ {l:List ZS} {x},x∈l->dI x<=dL l
 | y::l,x,h=>by
  simp only [dL]
  rcases List.mem_cons.1 h with rfl | h
  ·omega
  ·have:=V5 h;omega
theorem Tk:∀ {l:List (List ZS)} {x},x∈l->dL x<=WT l
 | y::l,x,h=>by
  simp only [WT]
  rcases List.mem_cons.1 h with rfl | h
  ·omega
  ·have:=Tk h;omega
theorem V4 (x:ZS):dI x=WT x.ZC+1:=by cases x;simp only [dI]
theorem VA:∀ {l:List ZS} {x},bL l->x∈l->bI x
 | y::l,x,hb,h=>by
  simp only [bL] at hb
  rcases List.mem_cons.1 h with rfl | h
  ·exact hb.1
  ·exact VA hb.2 h
theorem UF:∀ {l:List (List ZS)} {x},H4 l->x∈l->x.length<=4194304/\bL x
 | y::l,x,hb,h=>by
  simp only [H4] at hb
  rcases List.mem_cons.1 h with rfl | h
  ·exact ⟨hb.1,hb.2.1⟩
  ·exact UF hb.2.2 h
theorem Uj (x:ZS):bI x↔x.To.length<=4194304/\x.ZC.length<=4194304/\H4 x.ZC:=by cases x;simp only [bI]
theorem Wl (x:ZY):oI x=⟨x.Zq,x.ZA,x.To,x.Zt,x.As,x.ZB,YP x.ZC⟩:=by cases x;simp only [oI]
def Dq (o:Option Bool) (P:Prop):Prop:=∃ r,o=some r/\(r=true↔P)
theorem Dq.iff {o P Q} (h:Dq o P) (k:P↔Q):Dq o Q:=by
 have ⟨r,a,b⟩:=h
 exact ⟨r,a,b.trans k⟩
theorem Dq.tr:Dq (some true) True:=⟨true,rfl,by simp⟩
theorem Dq.fa:Dq (some false) False:=⟨false,rfl,by simp⟩
theorem Dq.bool (b:Bool):Dq (some b) (b=true):=⟨b,rfl,Iff.rfl⟩
theorem Dq.cA {c:Bool} {C P:Prop} {o:Option Bool} (a:c=true↔C) (h:C->Dq o P):Dq (bif c then o else some false) (C/\P):=by
 cases c with
 | false=>exact ⟨false,rfl,by simp at a ⊢;intro h;exact absurd h a⟩
 | true =>
  have b:=a.1 rfl
  have ⟨r,d,e⟩:=h b
  exact ⟨r,d,by rw [e];exact ⟨fun p=>⟨b,p⟩,fun p=>p.2⟩⟩
theorem Dq.cN {c:Bool} {C P:Prop} {o:Option Bool} (a:c=false↔C) (h:C->Dq o P):Dq (bif c then some false else o) (C/\P):=by
 cases c with
 | true=>exact ⟨false,rfl,by simp at a ⊢;intro h;exact absurd h a⟩
 | false =>
  have b:=a.1 rfl
  have ⟨r,d,e⟩:=h b
  exact ⟨r,d,by rw [e];exact ⟨fun p=>⟨b,p⟩,fun p=>p.2⟩⟩
theorem Dq.bA {C P:Prop} {o1 a:Option Bool} (b:Dq o1 C) (h:C->Dq a P):Dq (o1.bind fun x=>bif x then a else some false) (C/\P):=by
 have ⟨r,e,c⟩:=b
 rw [e]
 exact Dq.cA c h
theorem Dq.bN {C P:Prop} {o1 a:Option Bool} (b:Dq o1 C) (h:C->Dq a P):Dq (o1.bind fun x=>bif (!x) then some false else a) (C/\P):=by
 have ⟨r,e,c⟩:=b
 rw [e]
 exact Dq.cN (by rw [<- c];cases r<;>simp) h
theorem Dq.bS {C:Prop} {o1:Option Bool} (a:Dq o1 C):Dq (o1.bind fun x=>some x) C:=by
 have ⟨r,e,b⟩:=a
 exact ⟨r,by rw [e];rfl,b⟩
theorem ZaI {a b:Int}:(a != b)=false↔a=b:=by simp
theorem XQ {a b:Int}:(a==b)=true↔a=b:=by simp
theorem Wh {a b:ByteArray}:(a.toList==b.toList)=true↔a=b:=Zan a b
theorem Zkt {a b:ByteArray}:(!(a.toList==b.toList))=false↔a=b:=by
 rw [<- Zan a b];unfold Wp;cases (a.toList==b.toList)<;>simp
theorem Yf {α:Type} {l:List α} {i:Nat} {x:α} (h:l[i]? = some x):i < l.length:=(List.getElem?_eq_some_iff.1 h).1
theorem Zoj {α β:Type} {xs:List α} {ys:List β} (p:xs.length=ys.length) (q:xs.length<=4194304) {R:α->β->Prop} (F:Nat->Int->Option Bool) {E:Prop}
  (g:∀ (n k:Nat) x y Q,k < 4194304->xs[k]? = some x->ys[k]? = some y->Dq (F n ((k+1:Nat):Int)) Q->Dq (F (n+1) (k:Int)) (R x y/\Q))
  (j:∀ (n k:Nat),xs.length<=k->Dq (F (n+1) (k:Int)) E) {N:Nat} (hN:xs.length < N):Dq (F N (0:Int)) ((∀ (i:Nat) (x:α) (y:β),xs[i]? = some x->ys[i]? = some y->R x y)/\E):=by
 have key:∀ d k n,xs.length-k=d->d < n->Dq (F n (k:Int)) ((∀ (i:Nat) (x:α) (y:β),k<=i->xs[i]? = some x->ys[i]? = some y->R x y)/\E):=by
  intro d
  induction d with
  | zero =>
   intro k n h m
   obtain ⟨n,rfl⟩:=pS n (by omega)
   refine (j n k (by omega)).iff ⟨fun a=>⟨fun i x y hi b _=>?_,a⟩,fun a=>a.2⟩
   have:=Yf b;omega
  | succ d o =>
   intro k n h m
   obtain ⟨n,rfl⟩:=pS n (by omega)
   have f:k < xs.length:=by omega
   have e:k < ys.length:=by omega
   refine (g n k _ _ _ (by omega) (Za f) (Za e) (o (k+1) n (by omega) (by omega))).iff ⟨fun a=>⟨fun i x y hi b c=>?_,a.2.2⟩,fun a=>⟨?_,fun i x y hi b c=>a.1 i x y (by omega) b c,a.2⟩⟩
   ·rcases Nat.eq_or_lt_of_le hi with rfl | hi
    ·rw [Za f] at b;rw [Za e] at c
     cases b;cases c;exact a.1
    ·exact a.2.1 i x y hi b c
   ·exact a.1 k _ _ (Zo _) (Za f) (Za e)
 refine (key xs.length 0 N rfl hN).iff ⟨fun h=>⟨fun i x y b c=>h.1 i x y (Nat.zero_le _) b c,h.2⟩,fun h=>⟨fun i x y _ b c=>h.1 i x y b c,h.2⟩⟩
variable {N:Nat} (hN:4194304 < N)
def bM (m:Z2):Prop:=m.Zy.length<=4194304/\m.Zz.length<=4194304
structure bP (p:ZT):Prop where
 r:p.ZD.length<=4194304
 m:p.ZE.length<=4194304
 ms:∀ x∈p.ZE,bM x
 l:p.ZF.length<=4194304
 b:bL p.ZF
end Gp
end
section
namespace Gp
open Go Go.Kx Gx
theorem VH {α γ σ:Type} (xs:List α) (F:Nat->σ->Int->γ) (b:σ->α->σ) (f:σ->γ) (e:Nat->σ->Prop)
  (i:∀ (n k:Nat) s x,e k s->xs[k]? = some x->F (n+1) s (k:Int)=F n (b s x) ((k+1:Nat):Int)/\e (k+1) (b s x))
  (j:∀ (n k:Nat) s,e k s->xs.length<=k->F (n+1) s (k:Int)=f s) {N:Nat} {s:σ} (hN:xs.length < N) (m:e 0 s) :
  F N s (0:Int)=f (xs.foldl b s)/\e xs.length (xs.foldl b s):=by
 have key:∀ (l:List α) (k n:Nat) (s:σ),xs.drop k=l->l.length < n->e k s->F n s (k:Int)=f (l.foldl b s)/\e (k+l.length) (l.foldl b s):=by
  intro l
  induction l with
  | nil =>
   intro k n s h g hi
   obtain ⟨n,rfl⟩:=pS n (by simp at g;omega)
   exact ⟨j n k s hi (XF h),hi⟩
  | cons x l u =>
   intro k n s h g hi
   obtain ⟨n,rfl⟩:=pS n (by simp at g;omega)
   have ⟨a,c,d⟩:=XE h
   have ⟨o,p⟩:=i n k s x hi c
   have ⟨q,t⟩:=u (k+1) n _ d (by simp at g;omega) p
   refine ⟨o.trans q,?_⟩
   rw [Zf,show k+(l.length+1)=k+1+l.length by omega]
   exact t
 have:=key xs 0 N s rfl hN m
 rw [Nat.zero_add] at this
 exact this
mutual
def cI:ZS->Nat
 | ⟨_,_,_,_,_,_,b⟩=>Xt b+1
def cL:List ZS->Nat
 | []=>0
 | x::l=>cI x+cL l
def Xt:List (List ZS)->Nat
 | []=>0
 | x::l=>cL x+Xt l
end
theorem RJ (x:ZS):cI x=Xt x.ZC+1:=by cases x;simp only [cI]
mutual
theorem Zn8:∀ x,dI x<=cI x
 | ⟨_,_,_,_,_,_,b⟩=>by simp only [dI,cI];have:=Zi0 b;omega
theorem Zeo:∀ l,dL l<=cL l
 | []=>by simp only [dL,cL];omega
 | x::l=>by simp only [dL,cL];have:=Zn8 x;have:=Zeo l;omega
theorem Zi0:∀ l,WT l<=Xt l
 | []=>by simp only [WT,Xt];omega
 | x::l=>by simp only [WT,Xt];have:=Zeo x;have:=Zi0 l;omega
end
theorem TR {α:Type} {xs:List α} {k:Nat} {x:α} (h:xs[k]? = some x):xs.drop k=x::xs.drop (k+1):=by
 obtain ⟨a,rfl⟩:=List.getElem?_eq_some_iff.1 h
 exact List.drop_eq_getElem_cons a
theorem Zib:∀ (l:List ZY) (s:Int),l.foldl (fun s x=>s+(cI (oI x):Int)) s=s+(cL (oL l):Int)
 | [],s=>by simp [oL,cL]
 | x::l,s=>by rw [List.foldl_cons,Zib l];simp only [oL,cL];push_cast;omega
theorem Zh9:∀ (l:List (List ZY)) (s:Int),l.foldl (fun s x=>s+(cL (oL x):Int)) s=s+(Xt (YP l):Int)
 | [],s=>by simp [YP,Xt]
 | x::l,s=>by rw [List.foldl_cons,Zh9 l];simp only [YP,Xt];push_cast;omega
theorem S6 (l:List (List ZY)):(YP l).length=l.length:=by rw [Lb,List.length_map]
theorem Sd (l:List ZY):(oL l).length=l.length:=by rw [Lc,List.length_map]
theorem WE {l:List ZY} {x} (h:x∈l):oI x∈oL l:=by rw [Lc];exact List.mem_map.2 ⟨x,h,rfl⟩
theorem Vo {l:List (List ZY)} {x} (h:x∈l):oL x∈YP l:=by rw [Lb];exact List.mem_map.2 ⟨x,h,rfl⟩
theorem X4 (x:ZY):(oI x).ZC=YP x.ZC:=by rw [Wl]
theorem Gv (x:ZY):(oI x).To=x.To:=by rw [Wl]
theorem Zen:∀ (N:Nat) (xs:List ZY),4194306+dL (oL xs)<=N->xs.length<=4194304->bL (oL xs)->cL (oL xs)<=1099511627776->Qa N xs=some ((cL (oL xs):Nat):Int)
 | 0,_,h,_,_,_=>by omega
 | N+1,xs,h,hs,hb,hc=>by
  show Do N (Qa N) xs=_
  unfold Do
  have hN:4194304 < N:=by omega
  have f:∀ (k:Nat) (x:ZY) (s:Int) (ag:Int->Int->Option Int),xs[k]? = some x->0<=s->s+(Xt (YP x.ZC):Int)<=1099511627776 ->
    Qc (Qa N) xs (k:Int) ag N s (0:Int)=ag (s+(Xt (YP x.ZC):Int)) ((k+1:Nat):Int):=by
   intro k x s ag a w p
   have u:=Zb a
   have i:=(Uj _).1 (VA hb (WE u))
   rw [X4,S6] at i
   have q:=V5 (WE u)
   rw [V4,X4] at q
   have t:=Yf a
   have:=(VH x.ZC (Qc (Qa N) xs (k:Int) ag) (fun s b=>s+(cL (oL b):Int)) (fun s=>ag s ((k+1:Nat):Int))
    (fun j s=>0<=s/\s+(Xt (YP (x.ZC.drop j)):Int)<=1099511627776) (fun n j s b hi c=>?_) (fun n j s hi c=>?_) (N:=N) (s:=s) (by omega) ⟨w,by rw [List.drop_zero];exact p⟩).1
   ·rw [this,Zh9]
   ·have ⟨v,d⟩:=hi
    rw [TR c] at d
    simp only [YP,Xt] at d
    have m:=Zb c
    have g:=UF i.2.2 (Vo m)
    have y:=Tk (Vo m)
    rw [Sd] at g
    have e:=Zen N b (by omega) g.1 g.2 (by omega)
    refine ⟨?_,by omega,by push_cast at d;omega⟩
    simp only [Qc,Yj,a,bS,Ym (Yf c),cT,c,e]
    rw [Xn (by omega) (by omega),YE (by have:=Yf c;omega)]
   ·simp only [Qc,Yj,a,bS,Yr c,cF,ZbO]
    rw [YE (by omega)]
  have:=(VH xs (Rm N (Qa N) xs) (fun s x=>s+(cI (oI x):Int)) (fun s=>some s)
   (fun j s=>0<=s/\s+(cL (oL (xs.drop j)):Int)<=1099511627776) (fun n k s x hi a=>?_) (fun n k s hi t=>?_) (N:=N) (s:=0) (by omega) ⟨by omega,by rw [List.drop_zero];omega⟩).1
  ·rw [this,Zib];simp
  ·have ⟨v,d⟩:=hi
   rw [TR a] at d
   simp only [oL,cL] at d
   have o:=RJ (oI x)
   rw [X4] at o
   refine ⟨?_,by omega,by push_cast at d;omega⟩
   simp only [Rm,Ym (Yf a),cT]
   rw [Xn (by omega) (by omega),f k x (s+1) _ a (by omega) (by omega),o]
   congr 1
   push_cast;omega
  ·simp only [Rm,Yr t,cF,ZbN]
def oA (a:Wu):Y5:=⟨a.Zw,a.Op,a.Zx⟩
def oM (m:Yg):Z2:=⟨m.Zt,m.Zy,m.Zz.map oA⟩
def oP (p:Z3):ZT:=⟨p.Zt,p.ZD,p.ZE.map oM,oL p.ZF⟩
theorem RZ {α β:Type} (f:α->β):∀ (l:List α) (s:List β),l.foldl (fun s x=>s++[f x]) s=s++l.map f
 | [],s=>by simp
 | x::l,s=>by rw [List.foldl_cons,RZ f l,List.map_cons];simp
theorem ZkE:∀ (N:Nat) (xs:List ZY),4194306+dL (oL xs)<=N->xs.length<=4194304->bL (oL xs)->P8 N xs=some (oL xs)
 | 0,_,h,_,_=>by omega
 | N+1,xs,h,hs,hb=>by
  show DV N (P8 N) xs=_
  unfold DV
  have hN:4194304 < N:=by omega
  have c:∀ (k:Nat) (x:ZY) (a:List ZS) (ag:List ZS->Int->Option (List ZS)),xs[k]? = some x->a.length<=4194304 ->
    Qm (P8 N) a (k:Int) ag x N [] (0:Int)=ag (a++[oI x]) ((k+1:Nat):Int):=by
   intro k x a ag f t
   have u:=Zb f
   have i:=(Uj _).1 (VA hb (WE u))
   rw [X4,S6] at i
   have p:=V5 (WE u)
   rw [V4,X4] at p
   have o:=Yf f
   have:=(VH x.ZC (Qm (P8 N) a (k:Int) ag x) (fun s b=>s++[oL b]) (fun s=>DW a (k:Int) ag x s)
    (fun j s=>s.length=j) (fun n j s b hi g=>?_) (fun n j s hi g=>?_) (N:=N) (s:=[]) (by omega) rfl).1
   ·rw [this,RZ,List.nil_append,<- Lb]
    unfold DW
    rw [Xj (by simp;omega),bS,YE (by omega),Wl]
   ·have m:=Zb g
    have d:=UF i.2.2 (Vo m)
    have v:=Tk (Vo m)
    rw [Sd] at d
    have e:=ZkE N b (by omega) d.1 d.2
    have q:=Yf g
    refine ⟨?_,by simp [hi]⟩
    simp only [Qm,Ym q,cT,Yj,g,bS,e]
    rw [Xj (by simp;omega),bS,YE (by omega)]
   ·simp only [Qm,Yr g,cF]
  have:=(VH xs (Ru N (P8 N) xs) (fun s x=>s++[oI x]) (fun s=>some s)
   (fun j s=>s.length=j) (fun n k s x hi f=>?_) (fun n k s hi o=>?_) (N:=N) (s:=[]) (by omega) rfl).1
  ·rw [this,RZ,List.nil_append,<- Lc]
  ·have o:=Yf f
   refine ⟨?_,by simp [hi]⟩
   simp only [Ru,Ym o,cT,Yj,f,bS]
   rw [c k x s _ f (by omega)]
  ·simp only [Ru,Yr o,cF,ZcN]
end Gp
end
section
namespace Gp
open Go Go.Kx Gx
variable {N:Nat} (hN:4194304 < N)
def RP (p:Z3):Prop:=bP (oP p)
theorem Zkv (m:Yg):(oM m).Zz.length=m.Zz.length:=by show (m.Zz.map oA).length=_;simp
theorem Zd5 {p:Z3} (h:RP p) {m} (b:m∈p.ZE):m.Zy.length<=4194304/\m.Zz.length<=4194304:=by
 have:=h.ms (oM m) (List.mem_map.2 ⟨m,b,rfl⟩)
 have a:=this.2
 rw [Zkv] at a
 exact ⟨this.1,a⟩
theorem Zd4 {p:Z3} (h:RP p):p.ZE.length<=4194304:=by
 have:=h.m
 have e:(oP p).ZE.length=p.ZE.length:=by show (p.ZE.map oM).length=_;simp
 omega
theorem MH {p:Z3} (h:RP p):p.ZF.length<=4194304:=by
 have:=h.l
 have e:(oP p).ZF.length=p.ZF.length:=Sd _
 omega
include hN in
theorem Zre (xs:List Z3) (t:xs.length<=4194304) (o:∀ p∈xs,RP p/\4194306+dL (oL p.ZF)<=N):z7 N xs=some (xs.map oP):=by
 unfold z7
 have i3:∀ (d:List Z2) (j:Nat) (ag:List Z2->Int->Option (List ZT)) (m:Yg),d.length<=4194304->j < 4194304->m.Zz.length<=4194304 ->
   Qx d (j:Int) ag m N [] (0:Int)=ag (d++[oM m]) ((j+1:Nat):Int):=by
  intro d j ag m f h k
  have:=(VH m.Zz (Qx d (j:Int) ag m) (fun s a=>s++[oA a]) (fun s=>BD d (j:Int) ag m s) (fun i s=>s.length=i)
   (fun n i s a hi c=>?_) (fun n i s hi c=>?_) (N:=N) (s:=[]) (by omega) rfl).1
  ·rw [this,RZ,List.nil_append]
   unfold BD
   rw [Xj (by simp;omega),bS,YE (by omega)]
   rfl
  ·have g:=Yf c
   refine ⟨?_,by simp [hi]⟩
   simp only [Qx,Ym g,cT,Yj,c,bS]
   rw [Xj (by simp;omega),bS,YE (by omega)]
   rfl
  ·simp only [Qx,Yr c,cF]
 have i2:∀ (e:List ZT) (j:Nat) (ag:List ZT->Int->Option (List ZT)) (p:Z3) (b:List ZS),e.length<=4194304->j < 4194304->RP p ->
   SE N e (j:Int) ag p b N [] (0:Int)=ag (e++[⟨p.Zt,p.ZD,p.ZE.map oM,b⟩]) ((j+1:Nat):Int):=by
  intro e j ag p b f h k
  have q:=Zd4 k
  have:=(VH p.ZE (SE N e (j:Int) ag p b) (fun s a=>s++[oM a]) (fun s=>BC e (j:Int) ag p b s) (fun i s=>s.length=i)
   (fun n i s a hi c=>?_) (fun n i s hi c=>?_) (N:=N) (s:=[]) (by omega) rfl).1
  ·rw [this,RZ,List.nil_append]
   unfold BC
   rw [Xj (by simp;omega),bS,YE (by omega)]
  ·have g:=Yf c
   refine ⟨?_,by simp [hi]⟩
   simp only [SE,Ym g,cT,Yj,c,bS]
   rw [i3 s i _ a (by omega) (by omega) (Zd5 k (Zb c)).2]
  ·simp only [SE,Yr c,cF]
 have:=(VH xs (TK N xs) (fun s a=>s++[oP a]) (fun s=>some s) (fun i s=>s.length=i)
   (fun n i s a hi c=>?_) (fun n i s hi c=>?_) (N:=N) (s:=[]) (by omega) rfl).1
 ·rw [this,RZ,List.nil_append]
 ·have g:=Yf c
  refine ⟨?_,by simp [hi]⟩
  have ⟨f,h⟩:=o a (Zb c)
  simp only [TK,Ym g,cT,Yj,c,bS]
  rw [ZkE N a.ZF h (MH f) f.b,bS,i2 s i _ a _ (by omega) (by omega) f]
  rfl
 ·simp only [TK,Yr c,cF,Zdu]
end Gp
end
section
namespace Gp
open Go Go.Kx Gx
variable {N:Nat} (hN:4194304 < N)
def V2 (l:List Z3):Nat:=(l.map fun p=>cL (oL p.ZF)).sum
def QZ (l:List Z3):Nat:=(l.map fun p=>p.ZE.length).sum
def Zd3 (p:Z3):Prop:=∀ m∈p.ZE,m.Zy.length<=8/\m.Zz.length<=10
def ZhN (l:List Z3):Prop:=(∀ p∈l,Zd3 p)/\l.length<=12/\V2 l<=320/\QZ l<=60
theorem TV {a b:Nat}:decide ((a:Int) > (b:Int))=false↔a<=b:=by simp
include hN in
theorem ZoO (l:List Z3) (V:l.length<=4194304) (H:∀ p∈l,RP p/\4194306+dL (oL p.ZF)<=N) (W:V2 l<=1099511627776):Dq (z5 N l) (ZhN l):=by
 unfold z5
 have key:∀ (e:List Z3) (k n:Nat) (s t:Nat),l.drop k=e->e.length < n->s+V2 e<=1099511627776->t<=k * 4194304 ->
   Dq (SA N l n (s:Int) (t:Int) (k:Int)) ((∀ p∈e,Zd3 p)/\l.length<=12/\s+V2 e<=320/\t+QZ e<=60):=by
  intro e
  induction e with
  | nil =>
   intro k n s t h w A P
   obtain ⟨n,rfl⟩:=pS n (by simp at w;omega)
   simp only [SA,Yr (XF h),cF,Zdh]
   refine (Dq.cA (C:=l.length<=12) (by rw [decide_eq_true_eq];omega) fun _=>Dq.cA (C:=s<=320) (by rw [decide_eq_true_eq];omega) fun _=>Dq.bool _).iff ?_
   simp only [decide_eq_true_eq,V2,QZ,List.map_nil,List.sum_nil,Nat.add_zero,List.not_mem_nil,false_implies,implies_true,true_and]
   omega
  | cons p e U =>
   intro k n s t h w A P
   obtain ⟨n,rfl⟩:=pS n (by simp at w;omega)
   have ⟨a,c,d⟩:=XE h
   have B:=Zb c
   have ⟨y,M⟩:=H p B
   have S:V2 (p::e)=cL (oL p.ZF)+V2 e:=by simp [V2]
   have T:QZ (p::e)=p.ZE.length+QZ e:=by simp [QZ]
   have D:=Zd4 y
   simp only [SA,Ym a,cT,Yj,c,bS]
   rw [Zen N p.ZF M (MH y) y.b (by omega),bS]
   refine (Zoj (xs:=p.ZE) (ys:=p.ZE) rfl D (R:=fun m _=>m.Zy.length<=8/\m.Zz.length<=10)
    (Mt l (s:Int) (t:Int) (k:Int) (SA N l n) ((cL (oL p.ZF):Nat):Int) p)
    (E:=(∀ p∈e,Zd3 p)/\l.length<=12/\s+cL (oL p.ZF)+V2 e<=320/\t+p.ZE.length+QZ e<=60) (fun I j u v Q F g X L=>?_) (fun I j F=>?_) (N:=N) (by omega)).iff ?_
   ·simp only [Mt,Yj,c,bS,Ym (Yf g),cT,g,YE (show j < 4611686018427387904 by omega)]
    refine (Dq.cN (C:=u.Zy.length<=8) (TV (b:=8)) fun _=>Dq.cN (C:=u.Zz.length<=10) (TV (b:=10)) fun _=>L).iff ⟨fun q=>⟨⟨q.1,q.2.1⟩,q.2.2⟩,fun q=>⟨q.1.1,q.1.2,q.2⟩⟩
   ·simp only [Mt,Yj,c,bS,Yr F,cF,Zdi]
    rw [Xn (by omega) (by omega),Xn (by omega) (by omega),YE (by omega)]
    have:=U (k+1) n (s+cL (oL p.ZF)) (t+p.ZE.length) d (by simp at w;omega) (by omega) (by omega)
    push_cast at this
    exact this
   ·rw [S,T]
    constructor
    ·rintro ⟨o,z,G,O,Y⟩
     refine ⟨fun x f=>?_,G,by omega,by omega⟩
     rcases List.mem_cons.1 f with rfl | f
     ·intro m B
      have ⟨i,hi⟩:=List.mem_iff_getElem?.1 B
      exact o i m m hi hi
     ·exact z x f
    ·rintro ⟨o,z,G,O⟩
     exact ⟨fun i u v g _=>o p (Zj ..) u (Zb g),fun x f=>o x (Zi _ f),z,by omega,by omega⟩
 have:=key l 0 N 0 0 rfl (by omega) (by omega) (by omega)
 refine this.iff ?_
 unfold ZhN
 simp only [Nat.zero_add]
end Gp
end
section
namespace Gp
open Go Go.Kx Gx
def Y6 {α:Type} (p:α->Bool) (xs:List α):Int:=match xs.findIdx? p with
 | some i=>(i:Int)
 | none=>-1
theorem TO {α:Type} (p:α->Bool) (xs:List α):decide (Y6 p xs>=0)=xs.any p:=by
 unfold Y6
 rw [<- List.findIdx?_isSome]
 cases h:xs.findIdx? p with
 | none=>simp
 | some i=>simp
theorem W2 {α:Type} (xs:List α) (p:α->Bool) (F:Nat->Int->Option Int)
  (e:∀ (n k:Nat) x,xs[k]? = some x->F (n+1) (k:Int)=bif p x then some (k:Int) else F n ((k+1:Nat):Int))
  (f:∀ (n k:Nat),xs.length<=k->F (n+1) (k:Int)=some (-1)) {N:Nat} (hN:xs.length < N):F N (0:Int)=some (Y6 p xs):=by
 have key:∀ (l:List α) (k n:Nat),xs.drop k=l->l.length < n->F n (k:Int)=some (match l.findIdx? p with | some i=>((k+i:Nat):Int) | none=>-1):=by
  intro l
  induction l with
  | nil =>
   intro k n h b
   obtain ⟨n,rfl⟩:=pS n (by simp at b;omega)
   rw [f n k (XF h)];rfl
  | cons x l g =>
   intro k n h b
   obtain ⟨n,rfl⟩:=pS n (by simp at b;omega)
   have ⟨a,c,d⟩:=XE h
   rw [e n k x c,List.findIdx?_cons]
   cases p x with
   | true=>simp
   | false =>
    rw [cF,g (k+1) n d (by simp at b;omega),if_neg (by simp)]
    cases l.findIdx? p with
    | none=>rfl
    | some i =>
     show some (((k+1+i:Nat):Int))=some (((k+(i+1):Nat):Int))
     rw [show k+1+i=k+(i+1) by omega]
 have:=key xs 0 N rfl hN
 rw [show ((0:Nat):Int)=0 from rfl] at this
 rw [this]
 unfold Y6
 cases xs.findIdx? p with
 | none=>rfl
 | some i=>simp
theorem YZ {n:Nat} (h:n < 9223372036854775807):ZN ((n:Int)+1)=((n+1:Nat):Int):=by rw [Xn (by omega) (by omega)];omega
def X3 (v:ByteArray) (l:List ByteArray):Bool:=l.any fun x=>v.toList==x.toList
theorem W4 (v:ByteArray) (l:List ByteArray):X3 v l=true↔v∈l:=by
 unfold X3
 rw [List.any_eq_true]
 constructor
 ·rintro ⟨x,a,h⟩;rw [Wh.1 h];exact a
 ·exact fun h=>⟨v,h,by simp⟩
theorem H9 {N:Nat} (l:List ByteArray) (b:l.length < N) (d:l.length < 4611686018427387904) (v:ByteArray):Vu N l v=some (X3 v l):=by
 unfold Vu LW
 rw [W2 l (fun x=>v.toList==x.toList) (Sq l v) (fun n k x a=>?_) (fun n k c=>?_) b,bS,TO]
 ·rfl
 ·simp only [Sq,Ym (Yf a),cT,Yj,a,bS]
  rw [YZ (by have:=Yf a;omega)]
 ·simp only [Sq,Yr c,cF,Dw]
theorem S9 {N:Nat} (l:List ByteArray) (b:l.length < N) (d:l.length < 4611686018427387904) (v:ByteArray):Uf N l v=some (Y6 (fun x=>x.toList==v.toList) l):=by
 unfold Uf
 refine W2 l (fun x=>x.toList==v.toList) (Mn l v) (fun n k x a=>?_) (fun n k c=>?_) b
 ·simp only [Mn,Ym (Yf a),cT,Yj,a,bS]
  rw [YZ (by have:=Yf a;omega)]
 ·simp only [Mn,Yr c,cF,Zdf]
theorem Ll (l:List ByteArray) (v:ByteArray):decide (Y6 (fun x=>x.toList==v.toList) l>=(0:Int))=X3 v l:=by
 rw [TO,Bool.eq_iff_iff,W4,List.any_eq_true]
 constructor
 ·rintro ⟨x,a,h⟩;rw [<- Wh.1 h];exact a
 ·exact fun h=>⟨v,h,by simp⟩
end Gp
end
section
namespace Gp
open Go Go.Kx Gx
theorem Zpv {N:Nat} (s:List ZT) (c:ZT) (b:s.length < N) (e:s.length < 4611686018427387904):GQ N s c=some (Y6 (fun x=>x.Zt.toList==c.Zt.toList) s):=by
 unfold GQ
 refine W2 s (fun x=>x.Zt.toList==c.Zt.toList) (Pf N s c) (fun n k x a=>?_) (fun n k d=>?_) b
 ·simp only [Pf,Ym (Yf a),cT,Yj,a,bS,Zc9]
  rw [YZ (by have:=Yf a;omega)]
 ·simp only [Pf,Yr d,cF,Za1]
theorem ZnP {N:Nat} (s:List ZT) (c:ZT) (a:s.length < N) (b:s.length < 4611686018427387904):Ht N s c=some (s.any fun x=>x.Zt.toList==c.Zt.toList):=by
 unfold Ht
 rw [Zpv s c a b,bS,TO]
theorem ZpH {N:Nat} (s:List Z2) (c:Z2) (b:s.length < N) (e:s.length < 4611686018427387904):Dx N s c=some (Y6 (fun x=>x.Zt.toList==c.Zt.toList) s):=by
 unfold Dx
 refine W2 s (fun x=>x.Zt.toList==c.Zt.toList) (PL N s c) (fun n k x a=>?_) (fun n k d=>?_) b
 ·simp only [PL,Ym (Yf a),cT,Yj,a,bS,Za5]
  rw [YZ (by have:=Yf a;omega)]
 ·simp only [PL,Yr d,cF,Zb1]
theorem ZnS {N:Nat} (s:List Z2) (c:Z2) (a:s.length < N) (b:s.length < 4611686018427387904):GV N s c=some (s.any fun x=>x.Zt.toList==c.Zt.toList):=by
 unfold GV
 rw [ZpH s c a b,bS,TO]
theorem ZpI {N:Nat} (s:List T2) (c:T2) (b:s.length < N) (e:s.length < 4611686018427387904):DN N s c=some (Y6 (fun x=>x.Zt.toList==c.Zt.toList) s):=by
 unfold DN
 refine W2 s (fun x=>x.Zt.toList==c.Zt.toList) (P2 N s c) (fun n k x a=>?_) (fun n k d=>?_) b
 ·simp only [P2,Ym (Yf a),cT,Yj,a,bS,Za6]
  rw [YZ (by have:=Yf a;omega)]
 ·simp only [P2,Yr d,cF,Zcx]
theorem ZnT {N:Nat} (s:List T2) (c:T2) (a:s.length < N) (b:s.length < 4611686018427387904):Bt N s c=some (s.any fun x=>x.Zt.toList==c.Zt.toList):=by
 unfold Bt
 rw [ZpI s c a b,bS,TO]
theorem ZpC {N:Nat} (s:List Z2) (c:Yq) (b:s.length < N) (e:s.length < 4611686018427387904):Dy N s c=some (Y6 (fun x=>x.Zt.toList==c.Zv.toList) s):=by
 unfold Dy
 refine W2 s (fun x=>x.Zt.toList==c.Zv.toList) (PM N s c) (fun n k x a=>?_) (fun n k d=>?_) b
 ·simp only [PM,Ym (Yf a),cT,Yj,a,bS,Zb4]
  rw [YZ (by have:=Yf a;omega)]
 ·simp only [PM,Yr d,cF,Zb2]
theorem ZpD {N:Nat} (s:List T2) (c:Yq) (b:s.length < N) (e:s.length < 4611686018427387904):DO N s c=some (Y6 (fun x=>x.Zt.toList==c.Field.toList) s):=by
 unfold DO
 refine W2 s (fun x=>x.Zt.toList==c.Field.toList) (P3 N s c) (fun n k x a=>?_) (fun n k d=>?_) b
 ·simp only [P3,Ym (Yf a),cT,Yj,a,bS,Zb5]
  rw [YZ (by have:=Yf a;omega)]
 ·simp only [P3,Yr d,cF,Zcy]
theorem ZpG {N:Nat} (s:List Z2) (c:ZS) (b:s.length < N) (e:s.length < 4611686018427387904):Dz N s c=some (Y6 (fun x=>x.Zt.toList==c.Zt.toList) s):=by
 unfold Dz
 refine W2 s (fun x=>x.Zt.toList==c.Zt.toList) (PN N s c) (fun n k x a=>?_) (fun n k d=>?_) b
 ·simp only [PN,Ym (Yf a),cT,Yj,a,bS,Zb6]
  rw [YZ (by have:=Yf a;omega)]
 ·simp only [PN,Yr d,cF,Zb3]
theorem ZnR {N:Nat} (s:List Z2) (c:ZS) (a:s.length < N) (b:s.length < 4611686018427387904):GW N s c=some (s.any fun x=>x.Zt.toList==c.Zt.toList):=by
 unfold GW
 rw [ZpG s c a b,bS,TO]
theorem ZpE {N:Nat} (s:List Yv) (c:ZS) (b:s.length < N) (e:s.length < 4611686018427387904):G2 N s c=some (Y6 (fun x=>x.name'.toList==c.Zt.toList) s):=by
 unfold G2
 refine W2 s (fun x=>x.name'.toList==c.Zt.toList) (Pl N s c) (fun n k x a=>?_) (fun n k d=>?_) b
 ·simp only [Pl,Ym (Yf a),cT,Yj,a,bS,Za8]
  rw [YZ (by have:=Yf a;omega)]
 ·simp only [Pl,Yr d,cF,Za9]
theorem ZnQ {N:Nat} (s:List Yv) (c:ZS) (a:s.length < N) (b:s.length < 4611686018427387904):GZ N s c=some (s.any fun x=>x.name'.toList==c.Zt.toList):=by
 unfold GZ
 rw [ZpE s c a b,bS,TO]
theorem ZpF {N:Nat} (s:List Yv) (c:ZS) (b:s.length < N) (e:s.length < 4611686018427387904):G3 N s c=some (Y6 (fun x=>bif x.name'.toList==c.Zt.toList then !x.hidden' else false) s):=by
 unfold G3
 refine W2 s (fun x=>bif x.name'.toList==c.Zt.toList then !x.hidden' else false) (Pm N s c) (fun n k x a=>?_) (fun n k d=>?_) b
 ·simp only [Pm,Ym (Yf a),cT,Yj,a,bS,Zbb]
  rw [YZ (by have:=Yf a;omega)]
  cases (x.name'.toList==c.Zt.toList)<;>rfl
 ·simp only [Pm,Yr d,cF,Zba]
theorem Zpw {N:Nat} (s:List ZT) (c:ZS) (b:s.length < N) (e:s.length < 4611686018427387904):GR N s c=some (Y6 (fun x=>x.Zt.toList==c.Zt.toList) s):=by
 unfold GR
 refine W2 s (fun x=>x.Zt.toList==c.Zt.toList) (Pg N s c) (fun n k x a=>?_) (fun n k d=>?_) b
 ·simp only [Pg,Ym (Yf a),cT,Yj,a,bS,Zb7]
  rw [YZ (by have:=Yf a;omega)]
 ·simp only [Pg,Yr d,cF,Za2]
theorem Zpx {N:Nat} (s:List ZT) (c:ZT) (b:s.length < N) (e:s.length < 4611686018427387904):GS N s c=some (Y6 (fun x=>x.Zt.toList==c.Zt.toList) s):=by
 unfold GS
 refine W2 s (fun x=>x.Zt.toList==c.Zt.toList) (Ph N s c) (fun n k x a=>?_) (fun n k d=>?_) b
 ·simp only [Ph,Ym (Yf a),cT,Yj,a,bS,Zbc]
  rw [YZ (by have:=Yf a;omega)]
 ·simp only [Ph,Yr d,cF,Za3]
theorem Zpz {N:Nat} (s:List ZT) (c:ByteArray) (b:s.length < N) (e:s.length < 4611686018427387904):GU N s c=some (Y6 (fun x=>x.Zt.toList==c.toList) s):=by
 unfold GU
 refine W2 s (fun x=>x.Zt.toList==c.toList) (Pi N s c) (fun n k x a=>?_) (fun n k d=>?_) b
 ·simp only [Pi,Ym (Yf a),cT,Yj,a,bS,Zbl]
  rw [YZ (by have:=Yf a;omega)]
 ·simp only [Pi,Yr d,cF,Za4]
theorem Zig {N:Nat} (s:List ZT) (c:ByteArray) (a:s.length < N) (b:s.length < 4611686018427387904):D5 N s c=some (s.any fun x=>x.Zt.toList==c.toList):=by
 unfold D5
 rw [Zpz s c a b,bS,TO]
theorem Zpy {N:Nat} (s:List ByteArray) (c:ZX) (d:s.length < N) (g:s.length < 4611686018427387904) (e:c.all'.length < N) (a:c.all'.length < 4611686018427387904):DA N s c=some (Y6 (fun x => !(c.all'.any fun q=>q.Zt.toList==x.toList)) s):=by
 unfold DA
 refine W2 s (fun x => !(c.all'.any fun q=>q.Zt.toList==x.toList)) (PP N s c) (fun n k x b=>?_) (fun n k f=>?_) d
 ·simp only [PP,Ym (Yf b),cT,Yj,b,bS,Pr,Zig c.all' x e a]
  rw [YZ (by have:=Yf b;omega)]
 ·simp only [PP,Yr f,cF,Zcb]
end Gp
end
section
namespace Gp
open Go Go.Kx Gx
def VI:List ByteArray->List ByteArray->Prop
 | _,[]=>True
 | cs,a::r=>a ∉ cs/\VI (cs++[a]) r
theorem Ze8:∀ (b bs cs:List ByteArray),VI cs (b++bs)↔VI cs b/\VI (cs++b) bs
 | [],bs,cs=>by simp [VI]
 | a::r,bs,cs=>by
  simp only [List.cons_append,VI,Ze8 r bs (cs++[a]),and_assoc,aA,List.nil_append]
structure Nt (c:ZX) (P:Prop) (ns:List ByteArray) (n:Nat) (c':ZX):Prop where
 all:c'.all'=c.all'
 p:c'.p'=c.p'
 len:c'.calls'.length<=c.calls'.length+n
 err:c'.out'.ZM=0↔c.out'.ZM=0/\P/\VI c.calls' ns
 calls:c'.out'.ZM=0->c'.calls'=c.calls'++ns
 st:c.out'.ZM≠0->c'.out'=c.out'
def Ck (o:Option ZX) (c:ZX) (P:Prop) (ns:List ByteArray) (n:Nat):Prop:=∃ c',o=some c'/\Nt c P ns n c'
theorem Ck.iff {o c P Q ns n} (h:Ck o c P ns n) (k:P↔Q):Ck o c Q ns n:=by
 have ⟨a,e,g⟩:=h
 exact ⟨a,e,g.all,g.p,g.len,by rw [g.err,k],g.calls,g.st⟩
theorem Ck.le {o c P ns n m} (h:Ck o c P ns n) (k:n<=m):Ck o c P ns m:=by
 have ⟨a,e,g⟩:=h
 exact ⟨a,e,g.all,g.p,Nat.le_trans g.len (by omega),g.err,g.calls,g.st⟩
theorem Ck.skip (c:ZX):Ck (some c) c True [] 0:=⟨c,rfl,rfl,rfl,Zo _,by simp [VI],by simp,fun _=>rfl⟩
theorem Ck.note {N:Nat} (c:ZX) (nm:ByteArray) {e:Int} (a:e≠0) (b:List ByteArray) (n:Nat):Ck (Xo N c nm e) c False b n:=by
 unfold Xo
 by_cases h:c.out'.ZM=0
 ·rw [show (c.out'.ZM==(0:Int))=true by simpa using h,cT]
  exact ⟨_,rfl,rfl,rfl,Nat.le_add_right _ _,by simp [a],fun q=>absurd q a,fun q=>absurd h q⟩
 ·rw [show (c.out'.ZM==(0:Int))=false by simpa using h,cF]
  exact ⟨_,rfl,rfl,rfl,Nat.le_add_right _ _,by simp [h],fun q=>absurd q h,fun _=>rfl⟩
theorem Nt.seq {c P ns n c1 Q bs m c2} (g:Nt c P ns n c1) (a:Nt c1 Q bs m c2):Nt c (P/\Q) (ns++bs) (n+m) c2:=by
 refine ⟨by rw [a.all,g.all],by rw [a.p,g.p],Nat.le_trans a.len (by have:=g.len;omega),?_,fun j=>?_,fun h=>?_⟩
 ·rw [a.err,g.err,Ze8]
  constructor
  ·rintro ⟨⟨b,d,e⟩,i,f⟩
   rw [g.calls (g.err.2 ⟨b,d,e⟩)] at f
   exact ⟨b,⟨d,i⟩,e,f⟩
  ·rintro ⟨b,⟨d,i⟩,e,f⟩
   refine ⟨⟨b,d,e⟩,i,?_⟩
   rw [g.calls (g.err.2 ⟨b,d,e⟩)]
   exact f
 ·rw [a.calls j,g.calls (a.err.1 j).1,aA]
 ·have k:=g.st h
  rw [a.st (by rw [k];exact h),k]
theorem Ck.seq {o:Option ZX} {f:ZX->Option ZX} {c P Q ns bs n m} (h:Ck o c P ns n)
  (k:∀ a,a.all'=c.all'->a.p'=c.p'->a.calls'.length<=c.calls'.length+n->Ck (f a) a Q bs m):Ck (o.bind f) c (P/\Q) (ns++bs) (n+m):=by
 have ⟨a,e,g⟩:=h
 have ⟨b,d,i⟩:=k a g.all g.p g.len
 exact ⟨b,by rw [e];exact d,g.seq i⟩
theorem Nt.iff {c P Q ns n c'} (g:Nt c P ns n c') (k:P↔Q):Nt c Q ns n c':=⟨g.all,g.p,g.len,by rw [g.err,k],g.calls,g.st⟩
theorem Ck.test {N:Nat} {b:Bool} {c:ZX} {nm:ByteArray} {e:Int} (a:e≠0):Ck (bif b then Xo N c nm e else some c) c (b=false) [] 0:=by
 cases b with
 | true=>exact (Ck.note (N:=N) c nm a [] 0).iff (by simp)
 | false=>exact (Ck.skip c).iff (by simp)
theorem SS {α γ:Type} (xs:List α) (F:Nat->ZX->Int->γ) (j:ZX->γ) (b:Option ZX->(ZX->γ)->γ) (E:∀ c f,b (some c) f=f c)
  (P:Nat->α->Prop) (z:α->List ByteArray) (m:α->Nat) (a0:List ZT) (A:ZT) (B:Nat)
  (G:∀ (n k:Nat) x c,xs[k]? = some x->c.all'=a0->c.p'=A->c.calls'.length+((xs.drop k).map m).sum<=B->∃ o,F (n+1) c (k:Int)=b o (fun C=>F n C ((k+1:Nat):Int))/\Ck o c (P k x) (z x) (m x))
  (H:∀ (n k:Nat) c,xs.length<=k->F (n+1) c (k:Int)=j c) {N:Nat} (hN:xs.length < N) (c:ZX) (t:c.all'=a0) (u:c.p'=A) (hB:c.calls'.length+(xs.map m).sum<=B) :
  ∃ o,F N c (0:Int)=b o j/\Ck o c (∀ (k:Nat) x,xs[k]? = some x->P k x) (xs.flatMap z) (xs.map m).sum:=by
 have key:∀ (l:List α) (k n:Nat) (c:ZX),xs.drop k=l->l.length < n->c.all'=a0->c.p'=A->c.calls'.length+(l.map m).sum<=B ->
   ∃ o,F n c (k:Int)=b o j/\Ck o c (∀ (i:Nat) x,l[i]? = some x->P (k+i) x) (l.flatMap z) (l.map m).sum:=by
  intro l
  induction l with
  | nil =>
   intro k n c h w t u hB
   obtain ⟨n,rfl⟩:=pS n (by simp at w;omega)
   refine ⟨some c,by rw [H n k c (XF h),E],?_⟩
   exact (Ck.skip c).iff (by simp)
  | cons x l T =>
   intro k n c h w t u hB
   obtain ⟨n,rfl⟩:=pS n (by simp at w;omega)
   have ⟨a,e,d⟩:=XE h
   have ⟨o1,v,C,D,g⟩:=G n k x c e t u (by rw [h];exact hB)
   subst D
   rw [E] at v
   rw [List.map_cons,List.sum_cons] at hB
   have ⟨I,L,M⟩:=T (k+1) n C d (by simp at w;omega) (by rw [g.all,t]) (by rw [g.p,u]) (by have:=g.len;omega)
   refine ⟨I,v.trans L,?_⟩
   have ⟨O,R,S⟩:=M
   refine ⟨O,R,(g.seq S).iff ?_⟩
   constructor
   ·rintro ⟨v,D⟩ i y s
    cases i with
    | zero=>simp only [List.getElem?_cons_zero,Option.some.injEq] at s;subst s;exact v
    | succ i=>rw [List.getElem?_cons_succ] at s;have:=D i y s;rwa [show k+(i+1)=k+1+i by omega]
   ·intro q
    refine ⟨q 0 x rfl,fun i y s=>?_⟩
    have:=q (i+1) y (by rw [List.getElem?_cons_succ];exact s)
    rwa [show k+(i+1)=k+1+i by omega] at this
 have:=key xs 0 N c rfl hN t u hB
 simpa using this
end Gp
end
section
namespace Gp
open Go Go.Kx Gx
theorem Uk {α:Type} (o:Option α):(o.bind fun x=>some x)=o:=by cases o<;>rfl
theorem Sa {α:Type} {xs:List α} {k:Nat} (h:k<=xs.length):lsl xs none (some (k:Int))=some (xs.take k) :=
 Zj7 (List.take_append_drop k xs).symm (by rw [List.length_take];omega)
theorem Zfv {N:Nat} (c:ZX) (l:List ByteArray) (k:Nat) (x:ByteArray) (e:l[k]? = some x) (j:l.length < N) (f:l.length < 4611686018427387904) (g:c.p'.ZD.length < N) (b:c.p'.ZD.length < 4611686018427387904) :
  Ck (z109 N c l (k:Int)) c (x∈c.p'.ZD/\x ∉ l.take k) [] 0:=by
 have i:=Yf e
 unfold z109 z46
 simp only [Yj,e,bS,H9 _ g b,Sa (Nat.le_of_lt i),Uk]
 rw [H9 _ (by rw [List.length_take];omega) (by rw [List.length_take];omega)]
 simp only [bS]
 cases a:X3 x c.p'.ZD with
 | false =>
  simp only [Bool.not_false,cT]
  refine (Ck.note c x (by decide) [] 0).iff ?_
  have:¬ x∈c.p'.ZD:=fun h=>by rw [(W4 _ _).2 h] at a;cases a
  simp [this]
 | true =>
  simp only [Zg,cF]
  have a:=(W4 _ _).1 a
  cases d:X3 x (l.take k) with
  | true =>
   simp only [cT]
   refine (Ck.note c x (by decide) [] 0).iff ?_
   have:=(W4 _ _).1 d
   simp [this]
  | false =>
   simp only [cF]
   refine (Ck.skip c).iff ?_
   have:¬ x∈l.take k:=fun h=>by rw [(W4 _ _).2 h] at d;cases d
   simp [this,a]
def SM (p:ZT) (l:List ByteArray):Prop:=∀ (k:Nat) x,l[k]? = some x->x∈p.ZD/\x ∉ l.take k
def BS (p:ZT) (x:ZS):Prop:=SM p (x.ZA::x.To)/\∃ m∈p.ZE,m.Zt=x.Zt
def QA (all:List ZT) (p:ZT) (x:ZS):Prop:=∃ q,all.find? (fun q=>q.Zt.toList==x.Zt.toList)=some q/\q.ZD.length=x.To.length/\SM p x.To
theorem XO {α:Type} (xs:List α):(xs.map fun _=>0).sum=0:=by induction xs with
 | nil=>rfl
 | cons x l a=>rw [List.map_cons,List.sum_cons,a]
theorem VG {α:Type} (xs:List α):(xs.flatMap fun _=>([]:List ByteArray))=[]:=by induction xs with
 | nil=>rfl
 | cons x l a=>rw [List.flatMap_cons,a];rfl
structure Sz (N:Nat) (c:ZX):Prop where
 r:c.p'.ZD.length<=4194304
 m:c.p'.ZE.length<=4194304
 a:c.all'.length<=4194304
 n:8388609 < N
theorem Sz.of {N:Nat} {c b:ZX} (h:Sz N c) (e:b.all'=c.all') (d:b.p'=c.p'):Sz N b:=⟨by rw [d];exact h.r,by rw [d];exact h.m,by rw [e];exact h.a,h.n⟩
theorem Zr6 {N:Nat} (c:ZX) (x:ZS) (b:Sz N c) (t:x.To.length<=4194304):Ck (GY N c x) c (BS c.p' x) [] 0:=by
 have hN:=b.n
 unfold GY
 rw [Xj (by simp;omega),bS,List.singleton_append]
 have ⟨o,e,h⟩:=SS (x.ZA::x.To) (fun n c i=>Pj N x (x.ZA::x.To) n c.all' c.p'.Zt c.p'.ZD c.p'.ZE c.p'.ZF c.calls' c.out'.ZL c.out'.Zt c.out'.ZM i)
  (fun c=>LD N x c.all' c.p'.Zt c.p'.ZD c.p'.ZE c.p'.ZF c.calls' c.out'.ZL c.out'.Zt c.out'.ZM) Option.bind (fun _ _=>rfl)
  (fun k y=>y∈c.p'.ZD/\y ∉ (x.ZA::x.To).take k) (fun _=>[]) (fun _=>0) c.all' c.p' c.calls'.length
  (fun n k y d g q a _=>⟨_,by
   simp only [Pj,Ym (Yf g),cT]
   rw [YZ (by have:=Yf g;simp at this;omega)],by
   have:=Zfv (N:=N) d (x.ZA::x.To) k y g (by simp;omega) (by simp;omega) (by rw [a];have:=b.r;omega) (by rw [a];have:=b.r;omega)
   rw [a] at this;exact this⟩)
  (fun n k d s=>by simp only [Pj,Yr s,cF]) (N:=N) (by simp;omega) c rfl rfl (by rw [XO];omega)
 rw [XO,VG] at h
 refine Eq.mp (congrArg (fun o=>Ck o c _ _ _) e.symm) ?_
 refine (Ck.seq h (f:=fun c=>LD N x c.all' c.p'.Zt c.p'.ZD c.p'.ZE c.p'.ZF c.calls' c.out'.ZL c.out'.Zt c.out'.ZM) (Q:=∃ m∈c.p'.ZE,m.Zt=x.Zt) (bs:=[]) (m:=0) (fun d q a _=>?_))
 unfold LD
 have u:=b.m
 rw [ZnR _ x (by rw [a];omega) (by rw [a];omega),bS]
 simp only [Uk]
 refine (Ck.test (N:=N) (c:=d) (by decide)).iff ?_
 rw [a,<- Bool.not_eq_true',Bool.not_not,List.any_eq_true]
 constructor
 ·rintro ⟨m,j,p⟩;exact ⟨m,j,Wh.1 p⟩
 ·rintro ⟨m,j,p⟩;exact ⟨m,j,Wh.2 p⟩
theorem Th {α:Type} (p:α->Bool) (xs:List α):(Y6 p xs=-1/\xs.find? p=none)\/∃ (i:Nat) (x:α),Y6 p xs=(i:Int)/\xs[i]? = some x/\xs.find? p=some x:=by
 unfold Y6
 cases h:xs.findIdx? p with
 | none =>
  refine .inl ⟨rfl,?_⟩
  rw [List.findIdx?_eq_none_iff] at h
  rw [List.find?_eq_none]
  exact fun x b=>by rw [h x b];simp
 | some i =>
  rw [List.findIdx?_eq_some_iff_getElem] at h
  have ⟨a,d,e⟩:=h
  refine .inr ⟨i,xs[i],rfl,Za a,?_⟩
  rw [List.find?_eq_some_iff_getElem]
  exact ⟨d,i,a,rfl,fun j c=>by have:=e j c;simpa using this⟩
theorem ZnK {N:Nat} (c:ZX) (x:ZS) (z:Sz N c) (R:x.To.length<=4194304) (G:c.calls'.length<=4194304):Ck (G4 N c x) c (QA c.all' c.p' x) [x.As] 1:=by
 have hN:=z.n
 have H:=z.a
 have P:∀ b:ZX,b.calls'.length<=4194304->Ck (Pn N x b.all' b.p'.Zt b.p'.ZD b.p'.ZE b.p'.ZF b.calls' b.out'.ZL b.out'.Zt b.out'.ZM) b True [x.As] 1:=by
  intro b v
  unfold Pn
  rw [H9 _ (by omega) (by omega),bS]
  cases d:X3 x.As b.calls' with
  | true =>
   have d:=(W4 _ _).1 d
   simp only [cT]
   have ⟨C,e,g⟩:=Ck.note (N:=N) b x.As (e:=9) (by decide) [] 0
   rw [show (⟨b.all',⟨b.p'.Zt,b.p'.ZD,b.p'.ZE,b.p'.ZF⟩,b.calls',⟨b.out'.ZL,b.out'.Zt,b.out'.ZM⟩⟩:ZX)=b from rfl,e,bS]
   have D:=g.len
   rw [Xj (by simp;omega),bS]
   have w:¬ C.out'.ZM=0:=fun h=>(g.err.1 h).2.1
   refine ⟨_,rfl,g.all,g.p,by simp;omega,⟨fun h=>absurd h w,fun h=>absurd d h.2.2.1⟩,fun h=>absurd h w,g.st⟩
  | false =>
   have d:¬ x.As∈b.calls':=fun h=>by rw [(W4 _ _).2 h] at d;cases d
   simp only [cF]
   rw [Xj (by simp;omega),bS]
   exact ⟨_,rfl,rfl,rfl,by simp,by simp [VI,d],fun _=>rfl,fun _=>rfl⟩
 have F:∀ b:ZX,b.all'=c.all'->b.p'=c.p'->b.calls'.length<=4194304->Ck (LF N x b.all' b.p'.Zt b.p'.ZD b.p'.ZE b.p'.ZF b.calls' b.out'.ZL b.out'.Zt b.out'.ZM) b (SM c.p' x.To) [x.As] 1:=by
  intro b j s v
  unfold LF
  have ⟨o,e,h⟩:=SS x.To (fun n c i=>Po N x n c.all' c.p'.Zt c.p'.ZD c.p'.ZE c.p'.ZF c.calls' c.out'.ZL c.out'.Zt c.out'.ZM i)
   (fun c=>Pn N x c.all' c.p'.Zt c.p'.ZD c.p'.ZE c.p'.ZF c.calls' c.out'.ZL c.out'.Zt c.out'.ZM) Option.bind (fun _ _=>rfl)
   (fun k y=>y∈c.p'.ZD/\y ∉ x.To.take k) (fun _=>[]) (fun _=>0) c.all' c.p' b.calls'.length
   (fun n k y b A H B _=>⟨_,by
    simp only [Po,Ym (Yf A),cT]
    rw [YZ (by have:=Yf A;omega)],by
    have:=Zfv (N:=N) b x.To k y A (by omega) (by omega) (by rw [B];have:=z.r;omega) (by rw [B];have:=z.r;omega)
    rw [B] at this;exact this⟩)
   (fun n k b I=>by simp only [Po,Yr I,cF]) (N:=N) (by omega) b j s (by rw [XO];omega)
  rw [XO,VG] at h
  refine Eq.mp (congrArg (fun o=>Ck o b _ _ _) e.symm) ?_
  refine (Ck.seq h (f:=fun c=>Pn N x c.all' c.p'.Zt c.p'.ZD c.p'.ZE c.p'.ZF c.calls' c.out'.ZL c.out'.Zt c.out'.ZM) (Q:=True) (bs:=[x.As]) (m:=1) (fun C L M D=>P C (by omega))).iff ?_
  exact ⟨fun q=>q.1,fun q=>⟨q,trivial⟩⟩
 unfold G4
 rw [Zpw _ x (by omega) (by omega),bS]
 rcases Th (fun q:ZT=>q.Zt.toList==x.Zt.toList) c.all' with ⟨v,d⟩ | ⟨i,q,v,d,E⟩
 ·rw [v,show decide ((-1:Int) < 0)=true from rfl,cT,Uk]
  refine (Ck.note c x.Zt (by decide) [x.As] 1).iff ?_
  simp only [false_iff]
  rintro ⟨q,u,_⟩
  rw [d] at u;cases u
 ·rw [v,show decide ((i:Int) < 0)=false by simp,cF,Yj,d,bS]
  by_cases u:q.ZD.length=x.To.length
  ·rw [show ((q.ZD.length:Int) != (x.To.length:Int))=false by simp;omega,cF]
   refine (F c rfl rfl G).iff ⟨fun g=>⟨q,E,u,g⟩,?_⟩
   rintro ⟨O,t,_,g⟩;exact g
  ·rw [show ((q.ZD.length:Int) != (x.To.length:Int))=true by simp;omega,cT]
   refine (Ck.seq (Ck.note c x.Zt (e:=1) (by decide) [] 0) (Q:=SM c.p' x.To) (bs:=[x.As]) (m:=1) (fun b j s D=>F b j s (by omega))).iff ?_
   constructor
   ·exact fun g=>g.1.elim
   ·rintro ⟨O,t,e,_⟩
    rw [E] at t;cases t;exact absurd e u
end Gp
end
section
namespace Gp
open Go Go.Kx Gx
def R4 (b:Bool) (ls:List Yv):List Yv:=ls.map fun o=>⟨o.name',o.tail' && b,o.hidden'⟩
def Uo (b:Bool) (ls:List Yv):List Yv:=ls.map fun o=>⟨o.name',o.tail',o.hidden' || b⟩
def HX (ls:List Yv) (n:ByteArray):Prop:=∃ o,ls.find? (fun o=>bif o.name'.toList==n.toList then !o.hidden' else false)=some o/\o.tail'=true
def UC (all:List ZT) (p:ZT) (ls:List Yv) (x:ZS):Prop :=
 (x.Zq=1->BS p x)/\(x.Zq=2->x.ZA∈p.ZD)/\(x.Zq=3->∀ o∈ls,o.name'≠x.Zt)/\(x.Zq=4->HX ls x.Zt)/\(x.Zq=6->QA all p x)
def RL (ls:List Yv) (x:ZS):List Yv:=Uo (x.Zq==5) (if x.Zq=3 then ls++[⟨x.Zt,true,false⟩] else ls)
mutual
def Se (all:List ZT) (p:ZT):List Yv->ZS->Prop
 | ls,⟨k,f,t,n,a,x,b⟩=>UC all p ls ⟨k,f,t,n,a,x,b⟩/\UU all p (RL ls ⟨k,f,t,n,a,x,b⟩) b
def Vc (all:List ZT) (p:ZT):List Yv->List ZS->Prop
 | _,[]=>True
 | ls,x::l=>Se all p (R4 l.isEmpty ls) x/\Vc all p ls l
def UU (all:List ZT) (p:ZT):List Yv->List (List ZS)->Prop
 | _,[]=>True
 | ls,b::r=>Vc all p ls b/\UU all p ls r
end
theorem Zfc (all p ls) (x:ZS):Se all p ls x↔UC all p ls x/\UU all p (RL ls x) x.ZC:=by cases x;simp only [Se]
def TW (x:ZS):List ByteArray:=if x.Zq=6 then [x.As] else []
mutual
def Tg:ZS->List ByteArray
 | ⟨k,f,t,n,a,x,b⟩=>TW ⟨k,f,t,n,a,x,b⟩++RF b
def VY:List ZS->List ByteArray
 | []=>[]
 | x::l=>Tg x++VY l
def RF:List (List ZS)->List ByteArray
 | []=>[]
 | b::r=>VY b++RF r
end
theorem ZhW (x:ZS):Tg x=TW x++RF x.ZC:=by cases x;simp only [Tg]
theorem Zed:∀ l,VY l=l.flatMap Tg
 | []=>rfl
 | x::l=>by simp only [VY,List.flatMap_cons,Zed l]
theorem Zec:∀ l,RF l=l.flatMap VY
 | []=>rfl
 | x::l=>by simp only [RF,List.flatMap_cons,Zec l]
theorem BY:∀ l,cL l=(l.map cI).sum
 | []=>rfl
 | x::l=>by simp only [cL,List.map_cons,List.sum_cons,BY l]
theorem BX:∀ l,Xt l=(l.map cL).sum
 | []=>rfl
 | x::l=>by simp only [Xt,List.map_cons,List.sum_cons,BX l]
theorem ZkA (all p ls):∀ l:List ZS,Vc all p ls l↔∀ (k:Nat) x,l[k]? = some x->Se all p (R4 (k+1==l.length) ls) x
 | []=>by simp [Vc]
 | x::l=>by
  simp only [Vc]
  rw [ZkA all p ls l]
  constructor
  ·rintro ⟨b,c⟩ k y a
   cases k with
   | zero =>
    simp only [List.getElem?_cons_zero,Option.some.injEq] at a
    subst a
    have:(0+1==(x::l).length)=l.isEmpty:=by cases l<;>simp
    rw [this];exact b
   | succ k =>
    rw [List.getElem?_cons_succ] at a
    have:=c k y a
    have e:(k+1+1==(x::l).length)=(k+1==l.length):=by simp
    rw [e];exact this
  ·intro h
   refine ⟨?_,fun k y a=>?_⟩
   ·have:=h 0 x rfl
    have e:(0+1==(x::l).length)=l.isEmpty:=by cases l<;>simp
    rw [e] at this;exact this
   ·have:=h (k+1) y (by rw [List.getElem?_cons_succ];exact a)
    have e:(k+1+1==(x::l).length)=(k+1==l.length):=by simp
    rw [e] at this;exact this
theorem Zkz (all p ls):∀ l:List (List ZS),UU all p ls l↔∀ (k:Nat) b,l[k]? = some b->Vc all p ls b
 | []=>by simp [UU]
 | x::l=>by
  simp only [UU]
  rw [Zkz all p ls l]
  constructor
  ·rintro ⟨c,d⟩ k y a
   cases k with
   | zero=>simp only [List.getElem?_cons_zero,Option.some.injEq] at a;subst a;exact c
   | succ k=>rw [List.getElem?_cons_succ] at a;exact d k y a
  ·exact fun h=>⟨h 0 x rfl,fun k y a=>h (k+1) y (by rw [List.getElem?_cons_succ];exact a)⟩
theorem Zj8 {α γ:Type} (g:α->α) (xs:List α) (F:Nat->List α->Int->γ) (a:List α->γ)
  (c:∀ (n k:Nat) v x,k < xs.length->v[k]? = some x->F (n+1) v (k:Int)=F n (v.set k (g x)) ((k+1:Nat):Int))
  (d:∀ (n k:Nat) v,xs.length<=k->F (n+1) v (k:Int)=a v) {N:Nat} (hN:xs.length < N):F N xs (0:Int)=a (xs.map g):=by
 have key:∀ (B A:List α) (n:Nat),A.length+B.length=xs.length->B.length < n->F n (A++B) (A.length:Int)=a (A++B.map g):=by
  intro B
  induction B with
  | nil =>
   intro A n h b
   obtain ⟨n,rfl⟩:=pS n (by simp at b;omega)
   rw [d n _ _ (by simp at h;omega)];rfl
  | cons x B e =>
   intro A n h b
   obtain ⟨n,rfl⟩:=pS n (by simp at b;omega)
   rw [c n A.length _ x (by simp at h;omega) (ZeJ A x B rfl),Zli A x (g x) B rfl]
   have:=e (A++[g x]) n (by simp at h ⊢;omega) (by simp at b;omega)
   rw [aA,List.singleton_append,lA,List.length_singleton,aA,List.singleton_append] at this
   rw [this,List.map_cons]
 have:=key xs [] N (by simp) hN
 simpa using this
theorem ZsE (b ls):(R4 b ls).length=ls.length:=by simp [R4]
theorem Zpc (b ls):(Uo b ls).length=ls.length:=by simp [Uo]
set_option maxHeartbeats 1000000 in
theorem ZjM:∀ (N:Nat) (c:ZX) (l:List ZS) (B:List Yv),Sz 8388610 c->8388611+dL l<=N->l.length<=4194304->bL l->B.length+dL l<=4194304->c.calls'.length+cL l<=4194304 ->
  Ck (Vw N c l B) c (Vc c.all' c.p' B l) (VY l) (cL l)
 | 0,_,_,_,_,h,_,_,_,_=>by omega
 | N+1,c,l,B,hs,h,hlen,hb,hls,hc=>by
  show Ck (Bd N (Vw N) c l B) _ _ _ _
  unfold Bd
  have hN:8388609 < N:=by omega
  have hsz:∀ s:ZX,s.all'=c.all'->s.p'=c.p'->Sz N s:=fun s D A=>⟨by rw [A];exact hs.r,by rw [A];exact hs.m,by rw [D];exact hs.a,hN⟩
  have X:∀ s:ZX,s.all'=c.all'->s.p'=c.p'->Sz 8388610 s:=fun s D A=>hs.of D A
  -- the blocks of one item
  have k7:∀ (k:Nat) (x:ZS) (s:ZX) (u:List Yv) (ag),l[k]? = some x->s.all'=c.all'->s.p'=c.p'->u.length+WT x.ZC<=4194304->s.calls'.length+Xt x.ZC<=4194304 ->
    ∃ o,Ue N (Vw N) (k:Int) ag x s.all' s.p'.Zt s.p'.ZD s.p'.ZE s.p'.ZF s.calls' s.out'.ZL s.out'.Zt s.out'.ZM u =
     o.bind (fun t:ZX=>ag t.all' t.p'.Zt t.p'.ZD t.p'.ZE t.p'.ZF t.calls' t.out'.ZL t.out'.Zt t.out'.ZM ((k+1:Nat):Int)) /\
     Ck o s (UU c.all' c.p' (Uo (x.Zq==5) u) x.ZC) (RF x.ZC) (Xt x.ZC):=by
   intro k x s u ag E D A V W
   have M:=Zb E
   have I:=(Uj _).1 (VA hb M)
   have Y:=V5 M
   rw [V4] at Y
   have hk:=Yf E
   unfold Ue
   rw [Zj8 (fun o:Yv=>(⟨o.name',o.tail',o.hidden' || (x.Zq==5)⟩:Yv)) u
    (fun n v i=>Qp N (Vw N) (k:Int) ag x s.all' s.p'.Zt s.p'.ZD s.p'.ZE s.p'.ZF s.calls' s.out'.ZL s.out'.Zt s.out'.ZM u n v i)
    (fun v=>Bg N (Vw N) (k:Int) ag x s.all' s.p'.Zt s.p'.ZD s.p'.ZE s.p'.ZF s.calls' s.out'.ZL s.out'.Zt s.out'.ZM v)
    (fun n j v o y F=>by
     simp only [Qp,Ym y,cT,Yj,F,bS,ZaU]
     rw [YZ (by omega)]
     cases o.hidden'<;>simp)
    (fun n j v y=>by simp only [Qp,Yr y,cF]) (N:=N) (by omega)]
   unfold Bg
   have ⟨o,e,g⟩:=SS x.ZC (fun n c i=>Ml (Vw N) (k:Int) ag x (Uo (x.Zq==5) u) n c.all' c.p'.Zt c.p'.ZD c.p'.ZE c.p'.ZF c.calls' c.out'.ZL c.out'.Zt c.out'.ZM i)
    (fun c=>Bf (k:Int) ag c.all' c.p'.Zt c.p'.ZD c.p'.ZE c.p'.ZF c.calls' c.out'.ZL c.out'.Zt c.out'.ZM) Option.bind (fun _ _=>rfl)
    (fun _ b=>Vc c.all' c.p' (Uo (x.Zq==5) u) b) VY cL c.all' c.p' 4194304
    (fun n j b t y S T hc2=>by
     rw [TR y,List.map_cons,List.sum_cons] at hc2
     have Z:=Zb y
     have hbb:=UF I.2.2 Z
     have hdb:=Tk Z
     have:=ZjM N t b (Uo (x.Zq==5) u) (X t S T) (by omega) hbb.1 hbb.2 (by rw [Zpc];omega) (by omega)
     rw [S,T] at this
     refine ⟨_,?_,this⟩
     simp only [Ml,Ym (Yf y),cT,Yj,y,bS]
     rw [YZ (by have:=Yf y;omega)])
    (fun n j t y=>by simp only [Ml,Yr y,cF]) (N:=N) (by omega) s D A (by rw [<- BX];omega)
   rw [<- Zec,<- BX] at g
   refine ⟨o,e.trans ?_,g.iff (Zkz _ _ _ _).symm⟩
   congr 1
   funext t
   unfold Bf
   rw [YZ (by omega)]
  -- one item
  have k8:∀ (k:Nat) (x:ZS) (s:ZX) (u:List Yv) (ag),l[k]? = some x->s.all'=c.all'->s.p'=c.p'->u.length+dI x<=4194304->s.calls'.length+cI x<=4194304 ->
    ∃ o,HB N (Vw N) s.all' s.p'.Zt s.p'.ZD s.p'.ZE s.p'.ZF s.calls' s.out'.ZL s.out'.Zt s.out'.ZM (k:Int) ag x u =
     o.bind (fun t:ZX=>ag t.all' t.p'.Zt t.p'.ZD t.p'.ZE t.p'.ZF t.calls' t.out'.ZL t.out'.Zt t.out'.ZM ((k+1:Nat):Int)) /\
     Ck o s (Se c.all' c.p' u x) (Tg x) (cI x):=by
   intro k x s u ag E D A V W
   have M:=Zb E
   have I:=(Uj _).1 (VA hb M)
   rw [V4] at V
   rw [RJ] at W
   have hS:=hsz s D A
   have hto:=I.1
   -- behind a first step
   have z:∀ (o1:Option ZX) (P:Prop) (bs:List ByteArray) (m:Nat) (R:List Yv),Ck o1 s P bs m->bs=TW x->m<=1->R.length+WT x.ZC<=4194304->(P↔UC c.all' c.p' u x)->Uo (x.Zq==5) R=RL u x ->
     ∃ o,(o1.bind fun t:ZX=>Ue N (Vw N) (k:Int) ag x t.all' t.p'.Zt t.p'.ZD t.p'.ZE t.p'.ZF t.calls' t.out'.ZL t.out'.Zt t.out'.ZM R) =
      o.bind (fun t:ZX=>ag t.all' t.p'.Zt t.p'.ZD t.p'.ZE t.p'.ZF t.calls' t.out'.ZL t.out'.Zt t.out'.ZM ((k+1:Nat):Int))/\Ck o s (Se c.all' c.p' u x) (Tg x) (cI x):=by
    rintro o1 P bs m R ⟨t,rfl,g⟩ rfl hm1 hns hP hin
    have ⟨o,e,c3,e3,g3⟩:=k7 k x t R ag E (by rw [g.all,D]) (by rw [g.p,A]) hns (by have:=g.len;omega)
    refine ⟨o,e,?_⟩
    have O:=(g.seq g3).iff (Q:=Se c.all' c.p' u x) (by rw [Zfc,hP,hin])
    rw [<- ZhW] at O
    exact Ck.le ⟨c3,e3,O⟩ (by rw [RJ];omega)
   have w:x.Zq≠6->([]:List ByteArray)=TW x:=fun G=>by unfold TW;rw [if_neg G]
   have C:x.Zq≠3->Uo (x.Zq==5) u=RL u x:=fun H=>by unfold RL;rw [if_neg H]
   unfold HB
   by_cases h1:x.Zq=1
   ·rw [show (x.Zq==(1:Int))=true by simpa using h1,cT]
    refine z _ _ _ _ u (Zr6 s x hS hto) (w (by omega)) (by omega) (by omega) ?_ (C (by omega))
    rw [A];unfold UC;constructor
    ·exact fun q=>⟨fun _=>q,by omega,by omega,by omega,by omega⟩
    ·exact fun q=>q.1 h1
   rw [show (x.Zq==(1:Int))=false by simpa using h1,cF]
   by_cases h2:x.Zq=2
   ·rw [show (x.Zq==(2:Int))=true by simpa using h2,cT]
    have L:=Zfv (N:=N) s [x.ZA] 0 x.ZA rfl (by simp;omega) (by simp) (by have:=hS.r;omega) (by have:=hS.r;omega)
    refine z _ _ _ _ u L (w (by omega)) (by omega) (by omega) ?_ (C (by omega))
    rw [A];unfold UC;constructor
    ·exact fun q=>⟨by omega,fun _=>q.1,by omega,by omega,by omega⟩
    ·exact fun q=>⟨q.2.1 h2,by simp⟩
   rw [show (x.Zq==(2:Int))=false by simpa using h2,cF]
   by_cases H:x.Zq=3
   ·rw [show (x.Zq==(3:Int))=true by simpa using H,cT,ZnQ u x (by omega) (by omega),bS,Xj (by simp;omega)]
    simp only [bS]
    have:=z (bif (u.any fun o=>o.name'.toList==x.Zt.toList) then Xo N s x.Zt 9 else some s) _ _ _ (u++[⟨x.Zt,true,false⟩]) (Ck.test (by decide)) (w (by omega)) (by omega) (by simp;omega) (by
     unfold UC
     rw [List.any_eq_false]
     constructor
     ·exact fun q=>⟨by omega,by omega,fun _ o F e=>q o F (by rw [e];simp),by omega,by omega⟩
     ·exact fun q o F e=>q.2.2.1 H o F (Wh.1 e)) (by unfold RL;rw [if_pos H])
    have ⟨o,e,g⟩:=this
    refine ⟨o,?_,g⟩
    rw [<- e]
    cases (u.any fun o=>o.name'.toList==x.Zt.toList)<;>rfl
   rw [show (x.Zq==(3:Int))=false by simpa using H,cF]
   by_cases O:x.Zq=4
   ·rw [show (x.Zq==(4:Int))=true by simpa using O,cT,ZpF u x (by omega) (by omega),bS]
    have hH:∀ P:Prop,(P↔HX u x.Zt)->(P↔UC c.all' c.p' u x):=fun P q=>by
     rw [q];unfold UC;constructor
     ·exact fun q=>⟨by omega,by omega,by omega,fun _=>q,by omega⟩
     ·exact fun q=>q.2.2.2.1 O
    rcases Th (fun o:Yv=>bif o.name'.toList==x.Zt.toList then !o.hidden' else false) u with ⟨q1,q2⟩ | ⟨i,o,q1,q2,q3⟩
    ·rw [q1,show decide ((-1:Int) < 0)=true from rfl,cT]
     refine z _ _ _ _ u (Ck.note s x.Zt (by decide) [] 0) (w (by omega)) (by omega) (by omega) (hH _ ?_) (C (by omega))
     simp only [false_iff]
     rintro ⟨o,F,_⟩;rw [q2] at F;cases F
    ·rw [q1,show decide ((i:Int) < 0)=false by simp,cF,Yj,q2,bS]
     have:=z (bif !o.tail' then Xo N s x.Zt 7 else some s) _ _ _ u (Ck.test (by decide)) (w (by omega)) (by omega) (by omega) (hH _ (by
      unfold HX
      constructor
      ·exact fun q=>⟨o,q3,by simpa using q⟩
      ·rintro ⟨o',U,ht⟩;rw [q3] at U;cases U;simp [ht])) (C (by omega))
     have ⟨o2,e,g⟩:=this
     refine ⟨o2,?_,g⟩
     rw [<- e]
     cases o.tail'<;>rfl
   rw [show (x.Zq==(4:Int))=false by simpa using O,cF]
   by_cases G:x.Zq=6
   ·rw [show (x.Zq==(6:Int))=true by simpa using G,cT]
    refine z _ _ _ _ u (ZnK s x hS hto (by omega)) (by unfold TW;rw [if_pos G]) (by omega) (by omega) ?_ (C (by omega))
    rw [A,D];unfold UC;constructor
    ·exact fun q=>⟨by omega,by omega,by omega,by omega,fun _=>q⟩
    ·exact fun q=>q.2.2.2.2 G
   ·rw [show (x.Zq==(6:Int))=false by simpa using G,cF]
    have:=z (some s) _ _ _ u (Ck.skip s) (w G) (by omega) (by omega) (by
     unfold UC;constructor
     ·exact fun q=>⟨by omega,by omega,by omega,by omega,by omega⟩
     ·exact fun _=>trivial) (C H)
    exact this
  have ⟨o,e,g⟩:=SS l (fun n c i=>Vg N (Vw N) l B n c.all' c.p'.Zt c.p'.ZD c.p'.ZE c.p'.ZF c.calls' c.out'.ZL c.out'.Zt c.out'.ZM i)
   (fun c=>Be c.all' c.p'.Zt c.p'.ZD c.p'.ZE c.p'.ZF c.calls' c.out'.ZL c.out'.Zt c.out'.ZM) Option.bind (fun _ _=>rfl)
   (fun k x=>Se c.all' c.p' (R4 (k+1==l.length) B) x) Tg cI c.all' c.p' 4194304
   (fun n k x s E D A hc1=>by
    rw [TR E,List.map_cons,List.sum_cons] at hc1
    have M:=Zb E
    have Y:=V5 M
    have hk:=Yf E
    have ⟨o,e,g⟩:=k8 k x s (R4 (k+1==l.length) B) (fun a b c d e f g h i j=>Vg N (Vw N) l B n a b c d e f g h i j) E D A (by rw [ZsE];omega) (by omega)
    refine ⟨o,?_,g⟩
    simp only [Vg,Ym hk,cT,Yj,E,bS,Za7]
    rw [Xj (by simp;omega),bS,bS,List.nil_append]
    rw [Zj8 (fun o:Yv=>(⟨o.name',o.tail' && (k+1==l.length),o.hidden'⟩:Yv)) B
     (fun m v i=>Qq N (Vw N) l s.all' s.p'.Zt s.p'.ZD s.p'.ZE s.p'.ZF s.calls' s.out'.ZL s.out'.Zt s.out'.ZM (k:Int) (Vg N (Vw N) l B n) x B m v i)
     (fun v=>HB N (Vw N) s.all' s.p'.Zt s.p'.ZD s.p'.ZE s.p'.ZF s.calls' s.out'.ZL s.out'.Zt s.out'.ZM (k:Int) (Vg N (Vw N) l B n) x v)
     (fun m j v o y F=>by
      simp only [Qq,Ym y,cT,Yj,F,bS,ZaU]
      rw [YZ (by omega)]
      have:((k:Int)==ZN ((l.length:Int)-1))=(k+1==l.length):=by
       rw [Xn (by omega) (by omega),Bool.eq_iff_iff];simp;omega
      rw [this]
      cases o.tail'<;>simp)
     (fun m j v y=>by simp only [Qq,Yr y,cF]) (N:=N) (by omega)]
    exact e)
   (fun n k s hk=>by simp only [Vg,Yr hk,cF]) (N:=N) (by omega) c rfl rfl (by rw [<- BY];omega)
  rw [<- Zed,<- BY] at g
  have e':=e.trans (show (o.bind fun c=>Be c.all' c.p'.Zt c.p'.ZD c.p'.ZE c.p'.ZF c.calls' c.out'.ZL c.out'.Zt c.out'.ZM)=o from Uk o)
  refine Eq.mp (congrArg (fun o=>Ck o c _ _ _) e'.symm) (g.iff (ZkA _ _ _ _).symm)
end Gp
end
section
namespace Gp
open Go Go.Kx Gx
def SL (f:T2):Prop:=f.Zu.Lo<=f.Zu.Hi/\(bif f.Zu.Zq==2 then 0 else -1000)<=f.Zu.Lo/\f.Zu.Hi<=(bif f.Zu.Zq==2 then 40 else 1000)
def QC (m:Z2):Prop:=∀ (j:Nat) f,m.Zy[j]? = some f->(∀ g∈m.Zy.take j,g.Zt≠f.Zt)/\SL f
def QE (p:ZT):Prop:=∀ (k:Nat) m,p.ZE[k]? = some m->(∀ q∈p.ZE.take k,q.Zt≠m.Zt)/\QC m
theorem Zeb {α:Type} (l:List α) (f:α->ByteArray) (n:ByteArray):(l.any fun x=>(f x).toList==n.toList)=false↔∀ x∈l,f x≠n:=by
 rw [List.any_eq_false]
 exact ⟨fun h x a e=>h x a (Wh.2 e),fun h x a e=>h x a (Wh.1 e)⟩
set_option maxHeartbeats 1000000 in
theorem Zsl {N:Nat} (c:ZX) (H:Sz N c) (L:∀ m∈c.p'.ZE,m.Zy.length<=4194304):Ck (D6 N c) c (QE c.p') [] 0:=by
 have hN:=H.n
 have U:=H.m
 unfold D6
 -- the range of one field
 have R:∀ (j:Nat) (f:T2) (p:ZX) (ag),j < 4194304->∃ o,Hv N (j:Int) ag f p.all' p.p'.Zt p.p'.ZD p.p'.ZE p.p'.ZF p.calls' p.out'.ZL p.out'.Zt p.out'.ZM =
   o.bind (fun s:ZX=>ag s.all' s.p'.Zt s.p'.ZD s.p'.ZE s.p'.ZF s.calls' s.out'.ZL s.out'.Zt s.out'.ZM ((j+1:Nat):Int))/\Ck o p (SL f) [] 0:=by
  intro j f p ag v
  have I:∀ lo hi:Int,∃ o,Hu N (j:Int) ag f p.all' p.p'.Zt p.p'.ZD p.p'.ZE p.p'.ZF p.calls' p.out'.ZL p.out'.Zt p.out'.ZM lo hi =
   o.bind (fun s:ZX=>ag s.all' s.p'.Zt s.p'.ZD s.p'.ZE s.p'.ZF s.calls' s.out'.ZL s.out'.Zt s.out'.ZM ((j+1:Nat):Int))/\Ck o p (f.Zu.Lo<=f.Zu.Hi/\lo<=f.Zu.Lo/\f.Zu.Hi<=hi) [] 0:=by
   intro lo hi
   refine ⟨bif decide (f.Zu.Lo > f.Zu.Hi) || (decide (f.Zu.Lo < lo) || decide (f.Zu.Hi > hi)) then Xo N p f.Zt 2 else some p,?_,(Ck.test (by decide)).iff ?_⟩
   ·unfold Hu
    rw [YZ (by omega)]
    cases decide (f.Zu.Lo > f.Zu.Hi)<;>cases decide (f.Zu.Lo < lo)<;>cases decide (f.Zu.Hi > hi)<;>rfl
   ·simp only [Bool.or_eq_false_iff,decide_eq_false_iff_not];omega
  unfold Hv SL
  cases (f.Zu.Zq==2) with
  | true=>exact I 0 40
  | false=>exact I (-1000) 1000
 -- the fields of one message
 have S:∀ (k:Nat) (m:Z2) (p:ZX) (ag),k < 4194304->m.Zy.length<=4194304->∃ o,Hw N (k:Int) ag m p.all' p.p'.Zt p.p'.ZD p.p'.ZE p.p'.ZF p.calls' p.out'.ZL p.out'.Zt p.out'.ZM =
   o.bind (fun s:ZX=>ag s.all' s.p'.Zt s.p'.ZD s.p'.ZE s.p'.ZF s.calls' s.out'.ZL s.out'.Zt s.out'.ZM ((k+1:Nat):Int))/\Ck o p (QC m) [] 0:=by
  intro k m p ag u P
  unfold Hw
  have ⟨o,e,g⟩:=SS m.Zy (fun n c i=>TG N (k:Int) ag m n c.all' c.p'.Zt c.p'.ZD c.p'.ZE c.p'.ZF c.calls' c.out'.ZL c.out'.Zt c.out'.ZM i)
   (fun c=>D8 (k:Int) ag c.all' c.p'.Zt c.p'.ZD c.p'.ZE c.p'.ZF c.calls' c.out'.ZL c.out'.Zt c.out'.ZM) Option.bind (fun _ _=>rfl)
   (fun j f=>(∀ g∈m.Zy.take j,g.Zt≠f.Zt)/\SL f) (fun _=>[]) (fun _=>0) p.all' p.p' p.calls'.length
   (fun n j f s v M A _=>by
    have w:=Yf v
    simp only [TG,Ym w,cT,Yj,v,bS,Sa (Nat.le_of_lt w)]
    rw [ZnT _ f (by rw [List.length_take];omega) (by rw [List.length_take];omega),bS]
    have ⟨B,t,C⟩:=Ck.test (N:=N) (b:=(m.Zy.take j).any fun x=>x.Zt.toList==f.Zt.toList) (c:=s) (nm:=f.Zt) (e:=9) (by decide)
    have ⟨o,D,E,F,G⟩:=R j f B (fun a b c d e f g h i j=>TG N (k:Int) ag m n a b c d e f g h i j) (by omega)
    refine ⟨o,?_,E,F,(C.seq G).iff (and_congr_left' (Zeb _ _ _))⟩
    rw [<- D]
    cases z:(m.Zy.take j).any fun x=>x.Zt.toList==f.Zt.toList with
    | true=>rw [z,cT] at t;rw [cT,t];rfl
    | false=>rw [z,cF] at t;cases t;rfl)
   (fun n j s v=>by simp only [TG,Yr v,cF]) (N:=N) (by omega) p rfl rfl (by rw [XO];omega)
  rw [XO,VG] at g
  refine ⟨o,e.trans ?_,g⟩
  congr 1
  funext s
  unfold D8
  rw [YZ (by omega)]
 have ⟨o,e,g⟩:=SS c.p'.ZE (fun n p i=>Ud N c n p.all' p.p'.Zt p.p'.ZD p.p'.ZE p.p'.ZF p.calls' p.out'.ZL p.out'.Zt p.out'.ZM i)
  (fun c=>D7 c.all' c.p'.Zt c.p'.ZD c.p'.ZE c.p'.ZF c.calls' c.out'.ZL c.out'.Zt c.out'.ZM) Option.bind (fun _ _=>rfl)
  (fun k m=>(∀ q∈c.p'.ZE.take k,q.Zt≠m.Zt)/\QC m) (fun _=>[]) (fun _=>0) c.all' c.p' c.calls'.length
  (fun n k m p u M A _=>by
   have y:=Yf u
   simp only [Ud,Ym y,cT,Yj,u,bS,A,Sa (Nat.le_of_lt y)]
   rw [ZnS _ m (by rw [List.length_take];omega) (by rw [List.length_take];omega),bS]
   have ⟨B,t,C⟩:=Ck.test (N:=N) (b:=(c.p'.ZE.take k).any fun x=>x.Zt.toList==m.Zt.toList) (c:=p) (nm:=m.Zt) (e:=9) (by decide)
   have ⟨o,D,E,F,G⟩:=S k m B (fun a b O d e f g h i j=>Ud N c n a b O d e f g h i j) (by omega) (L m (Zb u))
   refine ⟨o,?_,E,F,(C.seq G).iff (and_congr_left' (Zeb _ _ _))⟩
   rw [<- D]
   cases z:(c.p'.ZE.take k).any fun x=>x.Zt.toList==m.Zt.toList with
   | true =>
    rw [z,cT] at t;rw [cT,<- A]
    rw [show (⟨p.all',⟨p.p'.Zt,p.p'.ZD,p.p'.ZE,p.p'.ZF⟩,p.calls',⟨p.out'.ZL,p.out'.Zt,p.out'.ZM⟩⟩:ZX)=p from rfl,t];rfl
   | false=>rw [z,cF] at t;cases t;rw [cF,<- A])
  (fun n k p u=>by simp only [Ud,Yr u,cF]) (N:=N) (by omega) c rfl rfl (by rw [XO];omega)
 rw [XO,VG] at g
 have T:=e.trans (show (o.bind fun c=>D7 c.all' c.p'.Zt c.p'.ZD c.p'.ZE c.p'.ZF c.calls' c.out'.ZL c.out'.Zt c.out'.ZM)=o from Uk o)
 exact Eq.mp (congrArg (fun o=>Ck o c _ _ _) T.symm) g
def S2 (fs:List T2) (t:Yq):Int:=match fs.find? (fun f=>f.Zt.toList==t.Field.toList) with
 | some f=>f.Zu.Zq
 | none=>0
def kd (p:ZT) (m:Z2) (t:Yq):Int:=bif !(t.Zv.toList==(str []).toList) then (match p.ZE.find? (fun q=>q.Zt.toList==t.Zv.toList) with
 | some q=>S2 q.Zy t
 | none=>0) else S2 m.Zy t
theorem ZoT {N:Nat} (c:ZX) (m:Z2) (t:Yq) (g:Sz N c) (k:∀ m∈c.p'.ZE,m.Zy.length<=4194304) (o:m.Zy.length<=4194304):GX N c m t=some (kd c.p' m t):=by
 have hN:=g.n
 have p:=g.m
 have j:∀ (a:ByteArray) (fs:List T2) (w),fs.length<=4194304->LC N t a fs w=some (S2 fs t):=by
  intro a fs w h
  unfold LC S2
  rw [ZpD fs t (by omega) (by omega),bS]
  rcases Th (fun f:T2=>f.Zt.toList==t.Field.toList) fs with ⟨d,b⟩ | ⟨i,q,d,b,e⟩
  ·rw [d,b];rfl
  ·rw [d,e,show decide ((i:Int) < 0)=false by simp,cF,Yj,b];rfl
 unfold GX kd
 cases (!(t.Zv.toList==(str []).toList)) with
 | false=>rw [cF,cF,j _ _ _ o]
 | true =>
  rw [cT,cT,ZpC _ t (by omega) (by omega),bS]
  rcases Th (fun q:Z2=>q.Zt.toList==t.Zv.toList) c.p'.ZE with ⟨d,b⟩ | ⟨i,q,d,b,e⟩
  ·rw [d,b];rfl
  ·rw [d,e,show decide ((i:Int) < 0)=false by simp,cF,Yj,b,bS,j _ _ _ (k q (Zb b))]
def Vb (p:ZT) (m:Z2) (t:Yq):Int:=bif t.Zq==1 then 0 else kd p m t
def WH (p:ZT) (m:Z2) (t:Yq):Nat:=bif t.Zq==2 then (bif Vb p m t==2 then 1 else 0) else 0
def Td (p:ZT) (m:Z2) (a:Y5):Prop :=
 (a.Zw.Zq=1\/kd p m a.Zw≠0)/\(a.Zx.Zq=1\/kd p m a.Zx≠0)/\(a.Zw.Zq=3->Vb p m a.Zw=2)/\(a.Zx.Zq=3->Vb p m a.Zx=2) /\
 (WH p m a.Zw+WH p m a.Zx≠1)/\(WH p m a.Zw+WH p m a.Zx=2->a.Op=str [61,61]/\a.Zw.N=0/\a.Zx.N=0)
def MD (p:ZT):Prop:=∀ m∈p.ZE,∀ a∈m.Zz,Td p m a
set_option maxHeartbeats 2000000 in
theorem Znt {N:Nat} (c:ZX) (H:Sz N c) (hf:∀ m∈c.p'.ZE,m.Zy.length<=4194304/\m.Zz.length<=4194304):Ck (D9 N c) c (MD c.p') [] 0:=by
 have hN:=H.n
 have hm:=H.m
 have Y:∀ q:ZX,q.p'=c.p'->∀ m∈q.p'.ZE,m.Zy.length<=4194304:=fun q z m hq=>(hf m (by rw [<- z];exact hq)).1
 unfold D9
 -- what is counted at the end
 have k5:∀ (j:Nat) (m:Z2) (a:Y5) (q:ZX) (t:Nat) (ag),j < 4194304->t<=2->∃ o,Bc N m (j:Int) ag a q.all' q.p'.Zt q.p'.ZD q.p'.ZE q.p'.ZF q.calls' q.out'.ZL q.out'.Zt q.out'.ZM (t:Int) =
   o.bind (fun s:ZX=>ag s.all' s.p'.Zt s.p'.ZD s.p'.ZE s.p'.ZF s.calls' s.out'.ZL s.out'.Zt s.out'.ZM ((j+1:Nat):Int)) /\
   Ck o q (t≠1/\(t=2->a.Op=str [61,61]/\a.Zw.N=0/\a.Zx.N=0)) [] 0:=by
  intro j m a q t ag x ht
  refine ⟨bif ((t:Int)==1) || (((t:Int)==2) && (!(a.Op.toList==(str [61,61]).toList) || (a.Zw.N != 0 || a.Zx.N != 0))) then Xo N q m.Zt 11 else some q,?_,(Ck.test (by decide)).iff ?_⟩
  ·unfold Bc
   rw [YZ (by omega)]
   cases ((t:Int)==1)<;>cases ((t:Int)==2)<;>cases (a.Op.toList==(str [61,61]).toList)<;>cases (a.Zw.N != 0)<;>cases (a.Zx.N != 0)<;>rfl
  ·simp only [Bool.or_eq_false_iff,Bool.and_eq_false_iff,beq_eq_false_iff_ne,Zkt,bne_eq_false_iff_eq,ne_eq]
   constructor
   ·rintro ⟨E,w⟩
    refine ⟨fun e=>E (by rw [e];rfl),fun e=>?_⟩
    rcases w with w | w
    ·exact absurd (by rw [e];rfl) w
    ·exact ⟨w.1,w.2.1,w.2.2⟩
   ·rintro ⟨E,w⟩
    refine ⟨fun e=>E (by omega),?_⟩
    by_cases e:t=2
    ·have ⟨r1,r2,r3⟩:=w e;exact .inr ⟨r1,r2,r3⟩
    ·exact .inl (by omega)
 -- kinds, on one side
 have y:∀ (m:Z2) (t:Yq) (q:ZX) (k:Int),∃ o:Option ZX,o=(bif (t.Zq==3) && (k != 2) then Xo N q m.Zt 11 else some q)/\Ck o q (t.Zq=3->k=2) [] 0:=by
  intro m t q k
  refine ⟨_,rfl,(Ck.test (by decide)).iff ?_⟩
  simp only [Bool.and_eq_false_iff,beq_eq_false_iff_ne,bne_eq_false_iff_eq]
  by_cases h:t.Zq=3<;>simp [h]
 have k9:∀ (m:Z2) (u v:Int) (q:ZX) (D i:Nat) (ag) (t:Yq),(i=0\/i=1)->D<=1 ->
   HA N m u v q.all' q.p'.Zt q.p'.ZD q.p'.ZE q.p'.ZF q.calls' q.out'.ZL q.out'.Zt q.out'.ZM (D:Int) (i:Int) ag t.Zq t.Zv t.Field t.N =
   (bif (t.Zq==3) && ((if i=0 then u else v) != 2) then Xo N q m.Zt 11 else some q).bind fun s:ZX =>
    ag s.all' s.p'.Zt s.p'.ZD s.p'.ZE s.p'.ZF s.calls' s.out'.ZL s.out'.Zt s.out'.ZM ((D+(bif t.Zq==2 then (bif (if i=0 then u else v)==2 then 1 else 0) else 0):Nat):Int) ((i+1:Nat):Int):=by
  intro m u v q D i ag t hi X
  have k7:∀ q:ZX,Hy u v (D:Int) (i:Int) ag t.Zq q.all' q.p'.Zt q.p'.ZD q.p'.ZE q.p'.ZF q.calls' q.out'.ZL q.out'.Zt q.out'.ZM =
    ag q.all' q.p'.Zt q.p'.ZD q.p'.ZE q.p'.ZF q.calls' q.out'.ZL q.out'.Zt q.out'.ZM ((D+(bif t.Zq==2 then (bif (if i=0 then u else v)==2 then 1 else 0) else 0):Nat):Int) ((i+1:Nat):Int):=by
   intro q
   unfold Hy
   rw [YZ (n:=D) (by omega),YZ (n:=i) (by omega)]
   rcases hi with rfl | rfl
   ·rw [if_pos rfl];cases (t.Zq==2)<;>cases (u==2)<;>rfl
   ·rw [if_neg (by omega)];cases (t.Zq==2)<;>cases (v==2)<;>rfl
  unfold HA Hz
  simp only [k7]
  rcases hi with rfl | rfl
  ·rw [if_pos rfl];cases (t.Zq==3)<;>cases (u != 2)<;>rfl
  ·rw [if_neg (by omega)];cases (t.Zq==3)<;>cases (v != 2)<;>rfl
 have F:∀ (m:Z2) (u v:Int) (q:ZX) (i:Nat) (ag) (t:Yq),(i=0\/i=1)->q.all'=c.all'->q.p'=c.p'->m.Zy.length<=4194304 ->
   Hx N m q.all' q.p'.Zt q.p'.ZD q.p'.ZE q.p'.ZF q.calls' q.out'.ZL q.out'.Zt q.out'.ZM u v (i:Int) ag t.Zq t.Zv t.Field t.N =
   (bif !(t.Zq==1) && (kd c.p' m t==0) then Xo N q m.Zt 10 else some q).bind fun s:ZX =>
    ag s.all' s.p'.Zt s.p'.ZD s.p'.ZE s.p'.ZF s.calls' s.out'.ZL s.out'.Zt s.out'.ZM (if i=0 then (bif t.Zq==1 then u else kd c.p' m t) else u) (if i=0 then v else (bif t.Zq==1 then v else kd c.p' m t)) ((i+1:Nat):Int):=by
  intro m u v q i ag t hi C z B
  have G:=ZoT (N:=N) q m t (H.of C z) (Y q z) B
  rw [z] at G
  unfold Hx
  rw [show (⟨q.all',⟨q.p'.Zt,q.p'.ZD,q.p'.ZE,q.p'.ZF⟩,q.calls',⟨q.out'.ZL,q.out'.Zt,q.out'.ZM⟩⟩:ZX)=q from rfl,
   show (⟨t.Zq,t.Zv,t.Field,t.N⟩:Yq)=t from rfl,G,bS,YZ (n:=i) (by omega)]
  rcases hi with rfl | rfl
  ·cases (t.Zq==1)<;>cases (kd c.p' m t==0)<;>rfl
  ·cases (t.Zq==1)<;>cases (kd c.p' m t==0)<;>rfl
 -- one atom
 have one:∀ (j:Nat) (m:Z2) (a:Y5) (q:ZX) (ag),j < 4194304->m.Zy.length<=4194304->q.all'=c.all'->q.p'=c.p'->∃ o,Sx N m (j:Int) ag a N q.all' q.p'.Zt q.p'.ZD q.p'.ZE q.p'.ZF q.calls' q.out'.ZL q.out'.Zt q.out'.ZM (0:Int) (0:Int) (0:Int) =
   o.bind (fun s:ZX=>ag s.all' s.p'.Zt s.p'.ZD s.p'.ZE s.p'.ZF s.calls' s.out'.ZL s.out'.Zt s.out'.ZM ((j+1:Nat):Int))/\Ck o q (Td c.p' m a) [] 0:=by
  intro j m a q ag x B C z
  obtain ⟨M,rfl⟩:∃ M,N=M+3:=⟨N-3,by omega⟩
  have t1:=fun (t:Yq) (q:ZX)=>Ck.test (N:=M+3) (b := !(t.Zq==1) && (kd c.p' m t==0)) (c:=q) (nm:=m.Zt) (e:=10) (by decide)
  have ⟨s,e2,R⟩:=t1 a.Zw q
  have ⟨c3,e3,g3⟩:=t1 a.Zx s
  obtain ⟨_,rfl,c4,e4,g4⟩:=y m a.Zw c3 (Vb c.p' m a.Zw)
  obtain ⟨_,rfl,c5,e5,g5⟩:=y m a.Zx c4 (Vb c.p' m a.Zx)
  have X:WH c.p' m a.Zw<=1/\WH c.p' m a.Zx<=1:=by
   unfold WH
   constructor
   ·cases (a.Zw.Zq==2)<;>cases (Vb c.p' m a.Zw==2)<;>simp
   ·cases (a.Zx.Zq==2)<;>cases (Vb c.p' m a.Zx==2)<;>simp
  have ⟨o,e6,c6,e7,g6⟩:=k5 j m a c5 (WH c.p' m a.Zw+WH c.p' m a.Zx) ag x (by omega)
  refine ⟨o,?_,c6,e7,?_⟩
  ·have a1:s.all'=c.all':=by rw [R.all,C]
   have p1:s.p'=c.p':=by rw [R.p,z]
   rw [Sx,show decide ((0:Int) < 2)=true from rfl,cT,show ((0:Int)==0)=true from rfl,cT]
   rw [show (0:Int)=((0:Nat):Int) from rfl,F m _ _ q 0 _ a.Zw (.inl rfl) C z B,e2,bS,if_pos rfl,if_pos rfl]
   rw [Sx,show decide (((0+1:Nat):Int) < 2)=true from rfl,cT,show (((0+1:Nat):Int)==0)=false from rfl,cF,show (((0+1:Nat):Int)==1)=true from rfl,cT]
   rw [F m _ _ s (0+1) _ a.Zx (.inr rfl) a1 p1 B,e3,bS,if_neg (by omega),if_neg (by omega)]
   rw [Sx,show decide (((0+1+1:Nat):Int) < 2)=false from rfl,cF]
   unfold Zda
   rw [TH,show decide ((0:Int) < 2)=true from rfl,cT,show ((0:Int)==0)=true from rfl,cT]
   rw [show (0:Int)=((0:Nat):Int) from rfl,k9 m _ _ c3 0 0 _ a.Zw (.inl rfl) (by omega),if_pos rfl]
   rw [show (bif a.Zw.Zq==1 then ((0:Nat):Int) else kd c.p' m a.Zw)=Vb c.p' m a.Zw from rfl,e4,bS]
   rw [TH,show decide (((0+1:Nat):Int) < 2)=true from rfl,cT,show (((0+1:Nat):Int)==0)=false from rfl,cF,show (((0+1:Nat):Int)==1)=true from rfl,cT]
   rw [show (0+(bif a.Zw.Zq==2 then (bif Vb c.p' m a.Zw==2 then 1 else 0) else 0))=WH c.p' m a.Zw by unfold WH;simp]
   rw [k9 m _ _ c4 (WH c.p' m a.Zw) (0+1) _ a.Zx (.inr rfl) (by omega),if_neg (by omega)]
   rw [show (bif a.Zx.Zq==1 then ((0:Nat):Int) else kd c.p' m a.Zx)=Vb c.p' m a.Zx from rfl,e5,bS]
   rw [TH,show decide (((0+1+1:Nat):Int) < 2)=false from rfl,cF]
   exact e6
  ·refine ((((R.seq g3).seq g4).seq g5).seq g6).iff ?_
   have hn:∀ t:Yq,(!(t.Zq==1) && (kd c.p' m t==0))=false↔(t.Zq=1\/kd c.p' m t≠0):=by
    intro t
    simp only [Bool.and_eq_false_iff,Bool.not_eq_false',beq_iff_eq,beq_eq_false_iff_ne,ne_eq]
   unfold Td
   rw [hn,hn]
   constructor
   ·rintro ⟨⟨⟨⟨E,w⟩,S⟩,T⟩,U,V⟩;exact ⟨E,w,S,T,U,V⟩
   ·rintro ⟨E,w,S,T,U,V⟩;exact ⟨⟨⟨⟨E,w⟩,S⟩,T⟩,U,V⟩
 have ⟨o,e,g⟩:=SS c.p'.ZE (fun n q i=>WY N c n q.all' q.p'.Zt q.p'.ZD q.p'.ZE q.p'.ZF q.calls' q.out'.ZL q.out'.Zt q.out'.ZM i)
  (fun c=>Ba c.all' c.p'.Zt c.p'.ZD c.p'.ZE c.p'.ZF c.calls' c.out'.ZL c.out'.Zt c.out'.ZM) Option.bind (fun _ _=>rfl)
  (fun k m=>∀ (j:Nat) a,m.Zz[j]? = some a->Td c.p' m a) (fun _=>[]) (fun _=>0) c.all' c.p' c.calls'.length
  (fun n k m q A C z _=>by
   have Z:=Yf A
   have ⟨W,hf2⟩:=hf m (Zb A)
   simp only [WY,Ym Z,cT,Yj,A,bS]
   have ⟨o,e,g⟩:=SS m.Zz (fun I q i=>VT N (k:Int) (fun a b L d e f g h i j=>WY N c n a b L d e f g h i j) m I q.all' q.p'.Zt q.p'.ZD q.p'.ZE q.p'.ZF q.calls' q.out'.ZL q.out'.Zt q.out'.ZM i)
    (fun q=>Bb (k:Int) (fun a b L d e f g h i j=>WY N c n a b L d e f g h i j) q.all' q.p'.Zt q.p'.ZD q.p'.ZE q.p'.ZF q.calls' q.out'.ZL q.out'.Zt q.out'.ZM) Option.bind (fun _ _=>rfl)
    (fun _ a=>Td c.p' m a) (fun _=>[]) (fun _=>0) c.all' c.p' q.calls'.length
    (fun I j a s x O P _=>by
     have hjl:=Yf x
     simp only [VT,Ym hjl,cT,Yj,x,bS]
     exact one j m a s _ (by omega) W O P)
    (fun I j s x=>by simp only [VT,Yr x,cF]) (N:=N) (by omega) q C z (by rw [XO];omega)
   rw [XO,VG] at g
   refine ⟨o,e.trans ?_,g⟩
   congr 1
   funext s
   unfold Bb
   rw [YZ (by omega)])
  (fun n k q A=>by simp only [WY,Yr A,cF]) (N:=N) (by omega) c rfl rfl (by rw [XO];omega)
 rw [XO,VG] at g
 have e':=e.trans (show (o.bind fun c=>Ba c.all' c.p'.Zt c.p'.ZD c.p'.ZE c.p'.ZF c.calls' c.out'.ZL c.out'.Zt c.out'.ZM)=o from Uk o)
 refine Eq.mp (congrArg (fun o=>Ck o c _ _ _) e'.symm) (g.iff ?_)
 constructor
 ·intro h m hm a C
  have ⟨k,A⟩:=List.mem_iff_getElem?.1 hm
  have ⟨j,x⟩:=List.mem_iff_getElem?.1 C
  exact h k m A j a x
 ·exact fun h k m A j a x=>h m (Zb A) a (Zb x)
end Gp
end
section
namespace Gp
open Go Go.Kx Gx
def QW (x:ZS):List ByteArray:=if x.Zq=6 then [x.Zt] else []
mutual
def Ti:ZS->List ByteArray
 | ⟨k,f,t,n,a,x,b⟩=>QW ⟨k,f,t,n,a,x,b⟩++Vl b
def Xz:List ZS->List ByteArray
 | []=>[]
 | x::l=>Ti x++Xz l
def Vl:List (List ZS)->List ByteArray
 | []=>[]
 | b::r=>Xz b++Vl r
end
theorem Zii (x:ZS):Ti x=QW x++Vl x.ZC:=by cases x;simp only [Ti]
theorem Zil:∀ (l:List ZS) (s:List ByteArray),l.foldl (fun s x=>s++Ti x) s=s++Xz l
 | [],s=>by simp [Xz]
 | x::l,s=>by rw [List.foldl_cons,Zil l];simp only [Xz,aA]
theorem Zij:∀ (l:List (List ZS)) (s:List ByteArray),l.foldl (fun s x=>s++Xz x) s=s++Vl l
 | [],s=>by simp [Vl]
 | x::l,s=>by rw [List.foldl_cons,Zij l];simp only [Vl,aA]
mutual
theorem Zej:∀ x,(Ti x).length<=cI x
 | ⟨k,f,t,n,a,x,b⟩=>by
  have:=Zin b
  have h:(QW ⟨k,f,t,n,a,x,b⟩).length<=1:=by unfold QW;split<;>simp
  simp only [Ti,cI,lA]
  omega
theorem MR:∀ l,(Xz l).length<=cL l
 | []=>by simp [Xz,cL]
 | x::l=>by
  have:=Zej x
  have:=MR l
  simp only [Xz,cL,lA]
  omega
theorem Zin:∀ l,(Vl l).length<=Xt l
 | []=>by simp [Vl,Xt]
 | x::l=>by
  have:=MR x
  have:=Zin l
  simp only [Vl,Xt,lA]
  omega
end
theorem Zif:∀ (N:Nat) (xs:List ZS),4194306+dL xs<=N->xs.length<=4194304->bL xs->cL xs<=4194304->Pp N xs=some (Xz xs)
 | 0,_,h,_,_,_=>by omega
 | N+1,xs,h,hs,hb,hc=>by
  show G5 N (Pp N) xs=_
  unfold G5
  have hN:4194304 < N:=by omega
  have a:∀ (k:Nat) (x:ZS) (s:List ByteArray) (ag:List ByteArray->Int->Option (List ByteArray)),xs[k]? = some x->s.length+Xt x.ZC<=4194304 ->
    LG N (Pp N) (k:Int) ag x s=ag (s++Vl x.ZC) ((k+1:Nat):Int):=by
   intro k x s ag c m
   have u:=Zb c
   have o:=(Uj _).1 (VA hb u)
   have p:=V5 u
   rw [V4] at p
   have t:=Yf c
   unfold LG
   have:=(VH x.ZC (Pq (Pp N) (k:Int) ag x) (fun s b=>s++Xz b) (fun s=>ag s ((k+1:Nat):Int))
    (fun j s=>s.length+Xt (x.ZC.drop j)<=4194304) (fun n j s b hi d=>?_) (fun n j s hi d=>?_) (N:=N) (s:=s) (by omega) (by rw [List.drop_zero];exact m)).1
   ·rw [this,Zij]
   ·rw [TR d] at hi
    simp only [Xt] at hi
    have f:=Zb d
    have g:=UF o.2.2 f
    have v:=Tk f
    have q:=MR b
    have e:=Zif N b (by omega) g.1 g.2 (by omega)
    refine ⟨?_,by rw [lA];omega⟩
    simp only [Pq,Ym (Yf d),cT,Yj,d,bS,e]
    rw [Xj (by omega),bS,YE (by have:=Yf d;omega)]
   ·simp only [Pq,Yr d,cF,Zbe]
    rw [YE (by omega)]
  have:=(VH xs (Tz N (Pp N) xs) (fun s x=>s++Ti x) (fun s=>some s)
   (fun j s=>s.length+cL (xs.drop j)<=4194304) (fun n k s x hi c=>?_) (fun n k s hi t=>?_) (N:=N) (s:=[]) (by omega) (by rw [List.drop_zero];simpa using hc)).1
  ·rw [this,Zil];simp
  ·rw [TR c] at hi
   simp only [cL] at hi
   have w:=RJ x
   have q:=Zej x
   refine ⟨?_,by rw [lA];omega⟩
   simp only [Tz,Ym (Yf c),cT,Yj,c,bS]
   rw [Zii]
   unfold QW
   by_cases i:x.Zq=6
   ·rw [show (x.Zq==(6:Int))=true by simpa using i,cT,Xj (by simp;omega),bS,a k x _ _ c (by simp;omega),if_pos i,aA]
   ·rw [show (x.Zq==(6:Int))=false by simpa using i,cF,a k x _ _ c (by omega),if_neg i,List.nil_append]
  ·simp only [Tz,Yr t,cF,Zbd]
theorem Zj6 {α:Type} {xs:List α} {k:Nat} (h:k<=xs.length):lsl xs (some (k:Int)) none=some (xs.drop k):=by
 unfold lsl W7
 have a:decide ((0:Int)<=(k:Int))=true:=by simp
 have b:decide ((k:Int)<=(xs.length:Int))=true:=by simp;exact h
 simp [a,b,h]
theorem ZnY {α:Type} (z:α) {xs:List α} {k:Nat} (h:k<=xs.length):∃ ys,MQ z xs (some (k:Int)) none=some ys/\ys.take k=xs.take k/\ys.length=xs.length:=by
 unfold MQ W7
 have a:decide ((0:Int)<=(k:Int))=true:=by simp
 have b:decide ((k:Int)<=(xs.length:Int))=true:=by simp;exact h
 refine ⟨xs.take k++List.replicate (xs.length-k) z,?_,?_,?_⟩
 ·simp [a,b,h]
 ·rw [List.take_append_of_le_length (by rw [List.length_take];omega),List.take_take];simp
 ·rw [lA,List.length_take,List.length_replicate];omega
theorem Znp {α:Type} (p:α->Bool) (xs:List α) {i:Nat} (h:Y6 p xs=(i:Int)):∃ x,xs[i]? = some x/\p x=true/\∀ (j:Nat) y,j < i->xs[j]? = some y->p y=false:=by
 unfold Y6 at h
 cases e:xs.findIdx? p with
 | none=>rw [e] at h;simp at h
 | some k =>
  rw [e] at h
  have g:k=i:=by simp at h;omega
  subst g
  rw [List.findIdx?_eq_some_iff_getElem] at e
  have ⟨c,d,f⟩:=e
  refine ⟨xs[k],Za c,d,fun j y a b=>?_⟩
  have:=f j a
  obtain ⟨_,rfl⟩:=List.getElem?_eq_some_iff.1 b
  simpa using this
theorem GN {α:Type} {xs:List α} {k:Nat} {x:α} (h:xs[k]? = some x):xs.take (k+1)=xs.take k++[x]:=by
 obtain ⟨a,rfl⟩:=List.getElem?_eq_some_iff.1 h
 rw [List.take_succ_eq_append_getElem a]
theorem Zob {N:Nat} (c:ZX) (s:List ByteArray) (I:s.length < N) (L:s.length < 4611686018427387904) (E:c.all'.length < N) (g:c.all'.length < 4611686018427387904) :
  G6 N s c=some (s.filter fun x=>c.all'.any fun q=>q.Zt.toList==x.toList):=by
 unfold G6
 rw [Zpy s c I L E g,bS]
 generalize H:(fun x:ByteArray=>c.all'.any fun q=>q.Zt.toList==x.toList)=K
 have B:(fun x:ByteArray => !(c.all'.any fun q=>q.Zt.toList==x.toList))=fun x => !(K x):=by rw [<- H]
 rw [B]
 rcases Th (fun x:ByteArray => !(K x)) s with ⟨u,w⟩ | ⟨i0,X,u,w,Y⟩
 ·rw [u,show ((-1:Int)==-1)=true from rfl,cT]
  congr 1
  rw [List.find?_eq_none] at w
  refine (List.filter_eq_self.2 fun x b=>?_).symm
  have:=w x b
  simpa using this
 ·have T:=Znp _ _ u
  rw [u,show ((i0:Int)==-1)=false by simp,cF]
  have U:=Yf w
  rw [YZ (by omega)]
  have V:∀ x,Pr N x c=some (!(K x)):=fun x=>by
   unfold Pr
   rw [Zig c.all' x E g,<- H];rfl
  have key:∀ (l:List ByteArray) (j i n:Nat) (v:List ByteArray),s.drop j=l->l.length < n->i < j->v.length=s.length->v.take i=(s.take j).filter K->v.drop j=s.drop j->i<=s.length ->
    R6 N c n v (i:Int) (j:Int)=some (s.filter K):=by
   intro l
   induction l with
   | nil =>
    intro j i n v h m z A f t o
    obtain ⟨n,rfl⟩:=pS n (by simp at m;omega)
    have k:=XF h
    have p:i<=v.length:=by omega
    simp only [R6]
    rw [show decide ((j:Int) < (v.length:Int))=false by simp;omega,cF]
    unfold Zbi
    have ⟨ys,M,O,W⟩:=ZnY (str []) p
    rw [Zj6 p,bS,M,bS,Sa (by omega),bS,O,f,List.take_of_length_le k]
   | cons x l G =>
    intro j i n v h m z A f t o
    obtain ⟨n,rfl⟩:=pS n (by simp at m;omega)
    have ⟨a,e,d⟩:=XE h
    have ⟨P,R,F⟩:=XE (t.trans h)
    simp only [R6]
    rw [Ym P,cT,Yj,R,bS,V,bS,Bool.not_not]
    have C:v[i]? = some v[i]:=Za (by omega)
    cases b:K x with
    | true =>
     rw [cT,Yj,C,bS,ZaU,YZ (by omega),YZ (by omega)]
     refine G (j+1) (i+1) n (v.set i x) d (by simp at m;omega) (by omega) (by rw [List.length_set];exact A) ?_ ?_ (by omega)
     ·rw [GN e,List.filter_append,<- f,List.filter_cons,b,GN (x:=x) (by rw [List.getElem?_set_self (by omega)]),List.take_set_of_le (Zo _),if_pos rfl,List.filter_nil]
     ·rw [List.drop_set_of_lt (by omega),F,d]
    | false =>
     rw [cF,YZ (by omega)]
     refine G (j+1) i n v d (by simp at m;omega) (by omega) A ?_ (by rw [F,d]) o
     rw [GN e,List.filter_append,<- f,List.filter_cons,b]
     simp
  refine key _ (i0+1) i0 N s rfl (by rw [List.length_drop];omega) (by omega) rfl ?_ rfl (by omega)
  have ⟨y,S,f,t⟩:=T
  rw [GN S,List.filter_append,List.filter_cons,if_neg (by simpa using f),List.filter_nil,List.append_nil]
  refine (List.filter_eq_self.2 fun x b=>?_).symm
  have ⟨j,k⟩:=List.mem_iff_getElem?.1 b
  have D:=Yf k
  rw [List.length_take] at D
  rw [List.getElem?_take,if_pos (by omega)] at k
  have:=t j x (by omega) k
  simpa using this
def ME (all:List ZT) (a b:ByteArray):Prop:=(∃ q,all.find? (fun q=>q.Zt.toList==a.toList)=some q/\b∈Xz q.ZF)/\∃ q∈all,q.Zt=b
def SK (all:List ZT):Nat->ByteArray->ByteArray->Prop
 | 0,a,b=>a=b
 | n+1,a,c=>∃ b,SK all n a b/\ME all b c
def MF (all:List ZT) (p:ZT):Prop:=∀ b,¬ SK all 5 p.Zt b
def Vj (l:List ZT):Nat:=(l.map fun q=>cL q.ZF).sum
theorem ZoW (a:List ZT) (k:Nat) (q:ZT) (d:a[k]? = some q):Y6 (fun x:ZT=>x.Zt.toList==q.Zt.toList) a=(k:Int)->a.find? (fun x=>x.Zt.toList==q.Zt.toList)=some q:=by
 intro h
 rcases Th (fun x:ZT=>x.Zt.toList==q.Zt.toList) a with ⟨b,_⟩ | ⟨i,x,b,c,e⟩
 ·rw [b] at h;omega
 ·have:i=k:=by rw [b] at h;omega
  subst this
  rw [d] at c;cases c
  exact e
theorem ZoU (b:List ZT) (a:ByteArray) (q:ZT) (h:b.find? (fun x=>x.Zt.toList==a.toList)=some q):q.Zt=a/\∃ k:Nat,b[k]? = some q/\Y6 (fun x:ZT=>x.Zt.toList==q.Zt.toList) b=(k:Int):=by
 have f:q.Zt=a:=by
  have:=List.find?_some h
  exact Wh.1 this
 subst f
 refine ⟨rfl,?_⟩
 rcases Th (fun x:ZT=>x.Zt.toList==q.Zt.toList) b with ⟨_,c⟩ | ⟨i,x,c,e,d⟩
 ·rw [c] at h;cases h
 ·rw [h] at d;cases d
  exact ⟨i,e,c⟩
theorem ZnU {N:Nat} (c:ZX) (Z:Sz N c) (O:∀ q∈c.all',8388611+dL q.ZF<=N/\q.ZF.length<=4194304/\bL q.ZF) (hc:Vj c.all'<=4194304):Ck (Bh N c) c (MF c.all' c.p') [] 0:=by
 have hN:=Z.n
 have ha:=Z.a
 unfold Bh
 have I:∀ k,Vj (c.all'.drop k)<=Vj c.all':=by
  intro k
  have:=congrArg (fun l=>Vj l) (List.take_append_drop k c.all')
  simp only [Vj,List.map_append,List.sum_append] at this ⊢
  omega
 -- one z
 have z:∀ (f:List ByteArray) (i:Int) (ag:List ByteArray->Int->Option ZX),f.length<=4194304->∃ nx:List ByteArray,nx.length<=4194304/\(∀ b,b∈nx↔∃ a∈f,ME c.all' a b) /\
   TI N c f i ag N [] (0:Int)=ag nx (ZN (i+1)):=by
  intro f i ag w
  have key:∀ (l:List ZT) (k n:Nat) (s:List ByteArray),c.all'.drop k=l->l.length < n->s.length+Vj l<=4194304 ->
    ∃ nx,TI N c f i ag n s (k:Int)=HC N c i ag (s++nx)/\(s++nx).length<=4194304 /\
     ∀ b,b∈nx↔∃ (j:Nat) (q:ZT),l[j]? = some q/\Y6 (fun x:ZT=>x.Zt.toList==q.Zt.toList) c.all'=((k+j:Nat):Int)/\q.Zt∈f/\b∈Xz q.ZF:=by
   intro l
   induction l with
   | nil =>
    intro k n s h F C
    obtain ⟨n,rfl⟩:=pS n (by simp at F;omega)
    refine ⟨[],?_,by simp [Vj] at C ⊢;omega,by simp⟩
    simp only [TI,Yr (XF h),cF,List.append_nil]
   | cons p l Y =>
    intro k n s h F C
    obtain ⟨n,rfl⟩:=pS n (by simp at F;omega)
    have ⟨a,e,d⟩:=XE h
    have ⟨hb1,P,R⟩:=O p (Zb e)
    have hcn:=MR p.ZF
    have e0:Vj (p::l)=cL p.ZF+Vj l:=by simp [Vj]
    rw [e0] at C
    have X:=I k
    rw [h,e0] at X
    have A:∀ (M:List ByteArray) (cond:Prop),M.length+Vj l<=4194304->(∃ t,M=s++t/\∀ b,b∈t↔(Y6 (fun x:ZT=>x.Zt.toList==p.Zt.toList) c.all'=(k:Int)/\p.Zt∈f/\b∈Xz p.ZF)) ->
      ∃ nx,TI N c f i ag n M ((k+1:Nat):Int)=HC N c i ag (s++nx)/\(s++nx).length<=4194304 /\
       ∀ b,b∈nx↔∃ (j:Nat) (q:ZT),(p::l)[j]? = some q/\Y6 (fun x:ZT=>x.Zt.toList==q.Zt.toList) c.all'=((k+j:Nat):Int)/\q.Zt∈f/\b∈Xz q.ZF:=by
     rintro M _ S ⟨t,rfl,ht⟩
     have ⟨nx,E,G,H⟩:=Y (k+1) n (s++t) d (by simp at F;omega) S
     refine ⟨t++nx,by rw [E,aA],by rw [<- aA];exact G,fun b=>?_⟩
     rw [List.mem_append,ht,H]
     constructor
     ·rintro (g | ⟨j,q,u,v,B⟩)
      ·exact ⟨0,p,rfl,g.1,g.2⟩
      ·exact ⟨j+1,q,by rw [List.getElem?_cons_succ];exact u,by rw [v];congr 1;omega,B⟩
     ·rintro ⟨j,q,u,v,B⟩
      cases j with
      | zero=>simp only [List.getElem?_cons_zero,Option.some.injEq] at u;subst u;exact .inl ⟨v,B⟩
      | succ j=>rw [List.getElem?_cons_succ] at u;exact .inr ⟨j,q,u,by rw [v];congr 1;omega,B⟩
    simp only [TI,Ym a,cT,Yj,e,bS]
    rw [Zpx c.all' p (by omega) (by omega),bS,YZ (by omega)]
    by_cases L:Y6 (fun x:ZT=>x.Zt.toList==p.Zt.toList) c.all'=(k:Int)
    ·rw [L,beq_self_eq_true,cT,H9 f (by omega) (by omega),bS]
     cases y:X3 p.Zt f with
     | true =>
      have y:=(W4 _ _).1 y
      rw [cT,Zif N p.ZF (by omega) P R (by omega),bS,Xj (by omega),bS]
      refine A (s++Xz p.ZF) True (by rw [lA];omega) ⟨_,rfl,fun b=>?_⟩
      exact ⟨fun g=>⟨L,y,g⟩,fun g=>g.2.2⟩
     | false =>
      have y:¬ p.Zt∈f:=fun h=>by rw [(W4 _ _).2 h] at y;cases y
      rw [cF]
      exact A s True (by omega) ⟨[],by simp,fun b=>by simp [y]⟩
    ·rw [show (Y6 (fun x:ZT=>x.Zt.toList==p.Zt.toList) c.all'==(k:Int))=false by simpa using L,cF]
     exact A s True (by omega) ⟨[],by simp,fun b=>by simp [L]⟩
  have ⟨nx,E,G,H⟩:=key _ 0 N [] rfl (by simp;omega) (by simpa using hc)
  rw [List.nil_append] at E G
  refine ⟨(Tj (Sj nx)).filter fun x=>c.all'.any fun q=>q.Zt.toList==x.toList,?_,fun b=>?_,?_⟩
  ·have L:=List.length_filter_le (fun x=>c.all'.any fun q=>q.Zt.toList==x.toList) (Tj (Sj nx))
   have y:=B8 (Sj nx)
   have h3:=ZfK nx
   omega
  ·rw [List.mem_filter,Zqi,(Zlp nx).mem_iff,H,List.any_eq_true]
   constructor
   ·rintro ⟨⟨j,q,u,v,B,T⟩,U,V,W⟩
    rw [List.drop_zero] at u
    rw [Nat.zero_add] at v
    exact ⟨q.Zt,B,⟨q,ZoW _ _ _ u v,T⟩,U,V,Wh.1 W⟩
   ·rintro ⟨a,u,⟨q,v,B⟩,U,T,V⟩
    obtain ⟨rfl,k,W,g7⟩:=ZoU _ _ _ v
    exact ⟨⟨k,q,by rw [List.drop_zero];exact W,by rw [Nat.zero_add];exact g7,u,B⟩,U,T,Wh.2 V⟩
  ·rw [show (0:Int)=((0:Nat):Int) from rfl,E]
   unfold HC Zbg Zbh
   have y:=B8 (Sj nx)
   have h3:=ZfK nx
   rw [dT (by omega),cT,bS,dT (by omega),cT,bS,Zob c _ (by omega) (by omega) (by omega) (by omega),bS]
 have D:∀ (m i:Nat) (f:List ByteArray),f.length<=4194304->(∀ b,b∈f↔SK c.all' i c.p'.Zt b)->i+m=5->∀ n,m < n ->
   Ck (Sy N c n f (i:Int)) c (MF c.all' c.p') [] 0:=by
  intro m
  induction m with
  | zero =>
   intro i f w o hi n F
   obtain ⟨n,rfl⟩:=pS n (by omega)
   have hi:i=5:=by omega
   subst hi
   rw [Sy,show decide (((5:Nat):Int) < 5)=false from rfl,cF]
   unfold Zdc
   simp only [Uk]
   refine (Ck.test (by decide)).iff ?_
   unfold MF
   rw [decide_eq_false_iff_not]
   constructor
   ·intro h b O
    have:=(o b).2 O
    cases f with
    | nil=>cases this
    | cons x l=>exact h (by simp)
   ·intro h y
    cases f with
    | nil=>simp at y
    | cons x l=>exact h x ((o x).1 (by simp))
  | succ m Y =>
   intro i f w o hi n F
   obtain ⟨n,rfl⟩:=pS n (by omega)
   rw [Sy,show decide ((i:Int) < 5)=true by simp;omega,cT]
   have ⟨nx,E,G,H⟩:=z f (i:Int) (Sy N c n) w
   rw [H,YZ (by omega)]
   refine Y (i+1) nx E (fun b=>?_) (by omega) n (by omega)
   rw [G]
   constructor
   ·rintro ⟨a,u,v⟩;exact ⟨a,(o a).1 u,v⟩
   ·rintro ⟨a,u,v⟩;exact ⟨a,(o a).2 u,v⟩
 exact D 5 0 [c.p'.Zt] (by simp) (fun b=>by simp [SK,eq_comm]) rfl N (by omega)
end Gp
end
section
namespace Gp
open Go Go.Kx Gx
abbrev Tok:=T7
def marksL:List ByteArray:=[(str [60]),(str [60,61]),(str [61,61]),(str [62,61]),(str [62])]
end Gp
end
section
namespace Gp
open Go Go.Kx Gx
def Zp0 (c:UInt8):Bool:=TZ (c.toNat:Int)
inductive Lx where
 | ok (k:Int) (tx:List UInt8) (v:Int) (n:Nat)
 | er (e:Int)
def Zqf:List (List UInt8):=[[45,62],[46,46],[60,61],[62,61],[61,61],[33,61],[38,38],[124,124]]
def Zqe:List UInt8:=[40,41,123,125,44,59,58,46,43,45,42,47,37,60,62,61,33]
variable {N:Nat} (hN:4194304 < N)
end Gp
end
section
namespace Gp
open Go Go.Kx Gx
structure ZvG (s:List UInt8) (k:Int) (tx:List UInt8) (n:Nat):Prop where
 pos:1<=n
 le:n<=s.length
 len:tx.length<=n
 name:k=1->∃ c l,tx=c::l/\Zp0 c=true
 mark:k=4->(tx∈Zqf\/∃ c,c∈Zqe/\tx=[c])
variable {N:Nat} (hN:4194304 < N)
end Gp
end
section
namespace Gp
open Go Go.Kx Gx
section
variable (l:List Tok)
variable {l}
theorem ZfX {s:ByteArray} (h:Xq s=true):s.size<=16:=by
 rw [Wa]
 unfold Xq SY at h
 rw [Zc] at h
 cases a:bs s with
 | nil=>simp
 | cons x l =>
  rw [a] at h
  have:=h.1
  simp only [Zc,decide_eq_true_eq] at this
  simp only [Zf];omega
end
end Gp
end
section
namespace Gp
open Go Go.Kx Gx
theorem Dq.ite {c:Bool} {C P:Prop} {o1 a:Option Bool} (b:c=true↔C) (d:C->Dq o1 P) (e:¬C->Dq a P):Dq (bif c then o1 else a) P:=by
 cases c with
 | false=>exact e (fun h=>by have:=b.2 h;cases this)
 | true=>exact d (b.1 rfl)
theorem Dq.cK {c:Bool} {C P:Prop} {o K:Option Bool} (b:c=true↔C) (h:C->Dq o P) (d:Dq K False):Dq (bif c then o else K) (C/\P) :=
 Dq.ite b (fun a=>(h a).iff ⟨fun p=>⟨a,p⟩,fun p=>p.2⟩) (fun a=>d.iff ⟨fun p=>p.elim,fun p=>a p.1⟩)
theorem Dq.bK {C P:Prop} {o1 a K:Option Bool} (b:Dq o1 C) (h:C->Dq a P) (c:Dq K False):Dq (o1.bind fun x=>bif x then a else K) (C/\P):=by
 have ⟨r,e,d⟩:=b
 rw [e]
 exact Dq.cK d h c
theorem Dq.of {o:Option Bool} {b:Bool} {P:Prop} (h:o=some b) (a:b=true↔P):Dq o P:=⟨b,h,a⟩
theorem Dq.dec {P:Prop} [Decidable P] {Q:Prop} (h:P↔Q):Dq (some (decide P)) Q:=⟨decide P,rfl,by rw [decide_eq_true_eq,h]⟩
theorem TQ {α:Type} {xs:List α} (p:xs.length<=4194304) {P:α->Prop} (F:Nat->Int->Option Bool) {E:Prop}
  (i:∀ (n k:Nat) x Q,k < 4194304->xs[k]? = some x->(P x->Dq (F n ((k+1:Nat):Int)) Q)->Dq (F (n+1) (k:Int)) (P x/\Q))
  (j:(∀ x∈xs,P x)->∀ (n k:Nat),xs.length<=k->Dq (F (n+1) (k:Int)) E) {N:Nat} (hN:xs.length < N):Dq (F N (0:Int)) ((∀ x∈xs,P x)/\E):=by
 have key:∀ (l:List α) (k n:Nat),xs.drop k=l->l.length < n->(∀ x∈xs.take k,P x)->Dq (F n (k:Int)) ((∀ x∈l,P x)/\E):=by
  intro l
  induction l with
  | nil =>
   intro k n h e f
   obtain ⟨n,rfl⟩:=pS n (by simp at e;omega)
   have g:=XF h
   rw [List.take_of_length_le g] at f
   exact (j f n k g).iff ⟨fun h=>⟨by simp,h⟩,fun h=>h.2⟩
  | cons x l o =>
   intro k n h e f
   obtain ⟨n,rfl⟩:=pS n (by simp at e;omega)
   have ⟨a,c,d⟩:=XE h
   refine (i n k x _ (by omega) c fun m=>o (k+1) n d (by simp at e;omega) ?_).iff ?_
   ·intro y b
    rw [List.take_succ,c] at b
    rcases List.mem_append.1 b with b | b
    ·exact f y b
    ·simp at b;subst b;exact m
   ·simp only [List.mem_cons,forall_eq_or_imp,and_assoc]
 have:=key xs 0 N rfl hN (by simp)
 exact this
variable {N:Nat} (hN:4194304 < N)
include hN in
theorem ZfW (s:ByteArray):Wr N s=some (Xq s):=by
 by_cases a:s.size<=4194304
 ·exact ZlO hN s a
 ·have c:bs s≠[]:=fun h=>by rw [Wa,h] at a;simp at a
  have d:Xq s=false:=by
   cases h:Xq s with
   | false=>rfl
   | true=>have:=ZfX h;omega
  obtain ⟨x,l,b⟩:∃ x l,bs s=x::l:=by
   cases h:bs s with
   | nil=>exact absurd h c
   | cons x l=>exact ⟨x,l,rfl⟩
  have e:(s.toList==(str []).toList)=false:=by rw [Vf,Vf,b];rfl
  have f:decide ((s.size:Int) > 16)=true:=dT (by omega)
  have g:Xc s (0:Int)=some (x.toNat:Int):=by rw [show Xc s (0:Int)=Xc s ((0:Nat):Int) from rfl,RX,b];rfl
  rw [d]
  unfold Wr Rl
  rw [e,f,g]
  simp only [cF,cT,bS]
include hN in
theorem ZsL (s:ByteArray):Wr N s=some (Xq s)/\PR N s=some (Xq s):=by
 by_cases a:s.size<=4194304
 ·exact ZlN hN s a
 ·have c:bs s≠[]:=fun h=>by rw [Wa,h] at a;simp at a
  have d:Xq s=false:=by
   cases h:Xq s with
   | false=>rfl
   | true=>have:=ZfX h;omega
  obtain ⟨x,l,b⟩:∃ x l,bs s=x::l:=by
   cases h:bs s with
   | nil=>exact absurd h c
   | cons x l=>exact ⟨x,l,rfl⟩
  have e:(s.toList==(str []).toList)=false:=by rw [Vf,Vf,b];rfl
  have f:decide ((s.size:Int) > 16)=true:=dT (by omega)
  have g:Xc s (0:Int)=some (x.toNat:Int):=by rw [show Xc s (0:Int)=Xc s ((0:Nat):Int) from rfl,RX,b];rfl
  rw [d]
  unfold Wr Rl PR Hc
  rw [e,f,g]
  simp only [cF,cT,bS,ZkT]
  refine ⟨trivial,?_⟩
  cases TZ (x.toNat:Int)<;>rfl
include hN in
theorem Pe (s:ByteArray):Dq (Wr N s) (Xq s=true):=Dq.of (ZfW hN s) Iff.rfl
include hN in
theorem Re (s:ByteArray):Dq (Vv N s) (Xq s=true):=by
 refine Dq.of (b:=Xq s) ?_ Iff.rfl
 unfold Vv
 rw [(ZsL hN s).2];rfl
include hN in
theorem ZaM (s:ByteArray):Dq (SB N s) (WW s=true):=Dq.of (ZkF hN s) Iff.rfl
include hN in
theorem Ln (s:ByteArray) (a:s.size<=4000000):Dq (z183 N s) (WW s=true):=Dq.of (ZrJ hN s a) Iff.rfl
theorem X2 {a:ByteArray}:(a.toList==(str []).toList)=true↔a=str []:=Wh
def QG (l:List ByteArray) (k:Nat):Prop:=1<=l.length/\l.length<=k/\∀ w∈l,Xq w=true
include hN in
theorem ZfY (l:List ByteArray) (c:l.length<=4194304) (k:Nat):Dq (My N l (k:Int)) (QG l k):=by
 unfold My
 refine Dq.cA (by rw [decide_eq_true_eq];omega) fun _=>Dq.cA (by rw [decide_eq_true_eq];omega) fun _=>?_
 unfold ZbC Zb8
 rw [ZQ l c (fun x k r=>bif !Xq x then some k else r) (PO N l) (some (-1)) hN]
 ·have ⟨i,d,e⟩:=ZfV (fun x => !Xq x) l 0
  rw [d]
  simp only [bS]
  refine ⟨_,rfl,?_⟩
  rw [e]
  simp
 ·intro n k x a b
  simp only [PO,Ym (Yf b),cT,Yj,b,bS,ZbT,ZfW hN x,YE (show k < 4611686018427387904 by omega)]
 ·intro n k a
  simp only [PO,Yr a,cF,Zb9]
include hN in
theorem ZfA (l:List ByteArray) (b:l.length<=4194304) (k:Nat):Dq (Ps N l (k:Int)) (QG l k):=by
 unfold Ps
 refine (TQ b (P:=fun w=>Xq w=true) (E:=1<=l.length/\l.length<=k) _ (fun n i x Q hi a h=>?_) (fun _ n i hi=>?_) (by omega)).iff ⟨fun h=>⟨h.2.1,h.2.2,h.1⟩,fun h=>⟨h.2.2,h.1,h.2.1⟩⟩
 ·simp only [LH,Ym (Yf a),cT,Yj,a,bS,YE (show i < 4611686018427387904 by omega)]
  exact Dq.bN (Re hN x) h
 ·simp only [LH,Yr hi,cF,Zbm]
  exact Dq.cA (by rw [decide_eq_true_eq];omega) fun _=>Dq.dec (by omega)
def X5 (x:ZS):Prop :=
 (x.Zq=1/\Xq x.ZA=true/\QG x.To 5/\WW x.Zt=true/\x.As=str []/\x.ZB=0/\x.ZC.length=0) \/
 (x.Zq=2/\Xq x.ZA=true/\x.To.length=0/\x.Zt=str []/\x.As=str []/\0<=x.ZB/\x.ZB<=1000/\1+min x.ZB 1<=(x.ZC.length:Int)/\x.ZC.length<=8) \/
 (x.Zq=3/\x.ZA=str []/\x.To.length=0/\WW x.Zt=true/\x.As=str []/\x.ZB=0/\x.ZC.length=1) \/
 (x.Zq=4/\x.ZA=str []/\x.To.length=0/\WW x.Zt=true/\x.As=str []/\x.ZB=0/\x.ZC.length=0) \/
 (x.Zq=5/\x.ZA=str []/\x.To.length=0/\x.Zt=str []/\x.As=str []/\x.ZB=0/\2<=x.ZC.length/\x.ZC.length<=8) \/
 (x.Zq=6/\x.ZA=str []/\QG x.To 6/\Xq x.Zt=true/\Xq x.As=true/\x.ZB=0/\x.ZC.length=0)
theorem UN {n:Nat}:((n:Int)==0)=true↔n=0:=by simp
include hN in
theorem Zsa (x:ZS) (s:x.To.length<=4194304):Dq (Dp N x) (X5 x):=by
 unfold Dp
 refine Dq.ite XQ (fun m=>?_) fun m=>Dq.ite XQ (fun n=>?_) fun n=>?_
 ·refine (Dq.bA (Pe hN _) fun _=>Dq.bA (ZfY hN _ s 5) fun _=>Dq.bA (ZaM hN _) fun _=>Dq.cA X2 fun _=>Dq.cA XQ fun _=>Dq.of rfl UN).iff ?_
  unfold X5
  simp [m]
 ·refine (Dq.bA (Pe hN _) fun _=>Dq.cA UN fun _=>Dq.cA X2 fun _=>Dq.cA X2 fun _=>Dq.cA (C:=0<=x.ZB) decide_eq_true_iff fun _=>Dq.cA (C:=x.ZB<=1000) decide_eq_true_iff fun _ =>
   Dq.cA (C:=1+min x.ZB 1<=(x.ZC.length:Int)) ?_ fun _=>Dq.dec (Q:=x.ZC.length<=8) (by omega)).iff ?_
  ·rw [decide_eq_true_eq]
   unfold XJ
   rw [Xn (by split<;>omega) (by split<;>omega)]
   split<;>omega
  ·unfold X5
   simp [n]
 have i:∀ k,(k=3/\x.Zq=3)\/(k=4/\x.Zq=4)->Dq (PH N x true) (X5 x):=by
  intro k i
  unfold PH
  simp only [cT]
  refine (Dq.cA X2 fun _=>Dq.cA UN fun _=>Dq.bA (ZaM hN _) fun _=>Dq.cA X2 fun _=>Dq.cA XQ fun _=>Dq.cA (C:=x.Zq=3↔x.ZC.length=1) ?_ fun _=>Dq.dec (Q:=x.ZC.length<=1) (by omega)).iff ?_
  ·rw [beq_iff_eq,Bool.eq_iff_iff];simp;omega
  ·unfold X5
   rcases i with ⟨_,i⟩ | ⟨_,i⟩
   ·simp only [i]
    constructor
    ·rintro ⟨a,b,c,d,e,f,g⟩;exact Or.inr (Or.inr (Or.inl ⟨trivial,a,b,c,d,e,by simpa using f⟩))
    ·rintro (h | h | h | h | h | h)<;>simp at h
     have ⟨a,b,c,d,e,f⟩:=h
     exact ⟨a,by simpa using b,c,d,e,by simpa using f,by omega⟩
   ·simp only [i]
    constructor
    ·rintro ⟨a,b,c,d,e,f,g⟩
     refine Or.inr (Or.inr (Or.inr (Or.inl ⟨trivial,a,b,c,d,e,?_⟩)))
     have:¬ x.ZC.length=1:=fun h=>by simpa using f.2 h
     omega
    ·rintro (h | h | h | h | h | h)<;>simp at h
     have ⟨a,b,c,d,e,f⟩:=h
     have f:x.ZC.length=0:=by rw [f];rfl
     exact ⟨a,by simpa using b,c,d,e,⟨fun h=>by omega,fun h=>by omega⟩,by omega⟩
 refine Dq.ite XQ (fun o=>i 3 (Or.inl ⟨rfl,o⟩)) fun o=>?_
 cases j:(x.Zq==4) with
 | true=>exact i 4 (Or.inr ⟨rfl,XQ.1 j⟩)
 | false =>
  have j:¬ x.Zq=4:=fun h=>by rw [h] at j;cases j
  unfold PH
  simp only [cF]
  refine Dq.ite XQ (fun p=>?_) fun p=>Dq.ite XQ (fun q=>?_) fun q=>?_
  ·refine (Dq.cA X2 fun _=>Dq.cA UN fun _=>Dq.cA X2 fun _=>Dq.cA X2 fun _=>Dq.cA XQ fun _=>Dq.cA (C:=2<=x.ZC.length) (by rw [decide_eq_true_eq];omega) fun _=>Dq.dec (Q:=x.ZC.length<=8) (by omega)).iff ?_
   unfold X5
   simp [p]
  ·refine (Dq.cA X2 fun _=>Dq.bA (ZfY hN _ s 6) fun _=>Dq.bA (Pe hN _) fun _=>Dq.bA (Pe hN _) fun _=>Dq.cA XQ fun _=>Dq.of rfl UN).iff ?_
   unfold X5
   simp [q]
  ·refine Dq.fa.iff ⟨fun h=>h.elim,fun h=>?_⟩
   unfold X5 at h
   rcases h with h | h | h | h | h | h
   ·exact m h.1
   ·exact n h.1
   ·exact o h.1
   ·exact j h.1
   ·exact p h.1
   ·exact q h.1
end Gp
end
section
namespace Gp
open Go Go.Kx Gx
mutual
def Rf:ZS->Prop
 | ⟨k,f,t,n,a,x,b⟩=>X5 ⟨k,f,t,n,a,x,b⟩/\WG b
def XN:List ZS->Prop
 | []=>True
 | x::l=>Rf x/\XN l
def WG:List (List ZS)->Prop
 | []=>True
 | x::l=>XN x/\WG l
end
theorem ZaV (x:ZS):Rf x↔X5 x/\WG x.ZC:=by cases x;simp only [Rf]
def Vq (o:Option (Bool × Int)) (P:Prop) (m:Int):Prop:=∃ r k,o=some (r,k)/\(r=true↔P)/\(r=true->k=m)
theorem Vq.iff {o P Q m m'} (h:Vq o P m) (k:P↔Q) (e:Q->m=m'):Vq o Q m':=by
 have ⟨r,j,c,b,d⟩:=h
 exact ⟨r,j,c,b.trans k,fun a=>(d a).trans (e (k.1 (b.1 a)))⟩
theorem Vq.fa {k:Int} {P:Prop} {m:Int} (h:¬P):Vq (some (false,k)) P m:=⟨false,k,rfl,by simp [h],fun h=>by cases h⟩
theorem ZsI {t:List ZS->Int->Int->Option (Bool × Int)} {d k:Nat} {ag:Int->Int->Option (Bool × Int)} {x:ZS} {rest:List ZS} (B:d<=10) (C:k < 4194304) (v:x.ZC.length<=4194304)
  (o:∀ b∈x.ZC,∀ n:Nat,n<=300->Vq (t b ((d+1:Nat):Int) (n:Int)) (XN b/\dL b+(d+1)<=11/\n+cL b<=300) ((n+cL b:Nat):Int))
  (p:∀ n:Nat,n<=300->Vq (ag (n:Int) ((k+1:Nat):Int)) (XN rest/\dL rest+d<=11/\n+cL rest<=300) ((n+cL rest:Nat):Int)) :
  ∀ (g:List (List ZS)) (j f n:Nat),x.ZC.drop j=g->g.length < f->n<=300 ->
   Vq (Mz t (d:Int) (k:Int) ag x f (n:Int) (j:Int)) (WG g/\WT g+d<=10/\n+Xt g<=300/\XN rest/\dL rest+d<=11/\n+Xt g+cL rest<=300) ((n+Xt g+cL rest:Nat):Int):=by
 intro g
 induction g with
 | nil =>
  intro j f n h i s
  obtain ⟨f,rfl⟩:∃ m,f=m+1:=⟨f-1,by simp at i;omega⟩
  simp only [Mz,Yr (XF h),cF,ZdA,YE (show k < 4611686018427387904 by omega),WG,WT,Xt]
  exact (p n s).iff ⟨fun q=>⟨trivial,by omega,by omega,q.1,q.2.1,by omega⟩,fun q=>⟨q.2.2.2.1,q.2.2.2.2.1,by omega⟩⟩ (fun _=>rfl)
 | cons b g A =>
  intro j f n h i s
  obtain ⟨f,rfl⟩:∃ m,f=m+1:=⟨f-1,by simp at i;omega⟩
  have ⟨a,c,e⟩:=XE h
  have ⟨r,m,w,u,y⟩:=o b (Zb c) n s
  simp only [Mz,Ym a,cT,Yj,c,bS,YE (show d < 4611686018427387904 by omega),YE (show j < 4611686018427387904 by omega),w,WG,WT,Xt]
  cases r with
  | false =>
   refine Vq.fa fun q=>?_
   have:false=true:=u.2 ⟨q.1.1,by omega,by omega⟩
   cases this
  | true =>
   have ⟨z,D,E⟩:=u.1 rfl
   rw [y rfl]
   simp only [Zg,cF]
   refine (A (j+1) f (n+cL b) e (by simp at i;omega) (by omega)).iff ⟨fun q=>⟨⟨z,q.1⟩,by omega,by omega,q.2.2.2.1,q.2.2.2.2.1,by omega⟩,fun q=>⟨q.1.2,by omega,by omega,q.2.2.2.1,q.2.2.2.2.1,by omega⟩⟩ (fun _=>by congr 1;omega)
theorem ZlI:∀ (N:Nat) (xs:List ZS) (d n:Nat),4194317<=N+d->xs.length<=4194304->bL xs->d<=11->n<=300 ->
  Vq (HJ N xs (d:Int) (n:Int)) (XN xs/\dL xs+d<=11/\n+cL xs<=300) ((n+cL xs:Nat):Int)
 | 0,_,_,_,h,_,_,_,_=>by omega
 | N+1,xs,d,n,h,hs,hb,hd,o=>by
  show Vq (BF N (HJ N) xs (d:Int) (n:Int)) _ _
  unfold BF
  have hN:4194304 < N:=by omega
  have key:∀ (l:List ZS) (k f n:Nat),xs.drop k=l->l.length < f->n<=300 ->
    Vq (RB N (HJ N) xs (d:Int) f (n:Int) (k:Int)) (XN l/\dL l+d<=11/\n+cL l<=300) ((n+cL l:Nat):Int):=by
   intro l
   induction l with
   | nil =>
    intro k f n h o B
    obtain ⟨f,rfl⟩:∃ m,f=m+1:=⟨f-1,by simp at o;omega⟩
    simp only [RB,Yr (XF h),cF,Zdz,XN,dL,cL]
    exact ⟨true,n,rfl,by simp;omega,fun _=>rfl⟩
   | cons x l D =>
    intro k f n h o B
    obtain ⟨f,rfl⟩:∃ m,f=m+1:=⟨f-1,by simp at o;omega⟩
    have ⟨a,c,e⟩:=XE h
    have C:=Zb c
    have i:=(Uj _).1 (VA hb C)
    simp only [RB,Ym a,cT,Yj,c,bS,YE (show n < 4611686018427387904 by omega)]
    have p:=V4 x
    have j:=RJ x
    have s:=ZaV x
    by_cases y:d<=10
    ·rw [dF (show ¬ (d:Int) > 10 by omega),cF]
     by_cases u:n+1<=300
     ·rw [dF (show ¬ ((n+1:Nat):Int) > 300 by omega),cF]
      have ⟨r,A,z⟩:=Zsa hN x i.1
      rw [A,bS]
      cases r with
      | false =>
       refine Vq.fa fun q=>?_
       have:=z.2 (s.1 (by simp only [XN] at q;exact q.1.1)).1
       cases this
      | true =>
       simp only [Zg,cF]
       refine (ZsI (rest:=l) y (by omega) i.2.1 (fun b v w g=>?_) (fun w g=>D (k+1) f w e (by simp at o;omega) g) x.ZC 0 N (n+1) rfl (by omega) u).iff ?_ ?_
       ·have t:=UF i.2.2 v
        exact ZlI N b (d+1) w (by omega) t.1 t.2 (by omega) g
       ·simp only [XN,dL,cL,p,j,s]
        exact ⟨fun q=>⟨⟨⟨z.1 rfl,q.1⟩,q.2.2.2.1⟩,by omega,by omega⟩,fun q=>⟨q.1.1.2,by omega,by omega,q.1.2,by omega,by omega⟩⟩
       ·intro _
        simp only [cL,j]
        congr 1;omega
     ·rw [dT (show ((n+1:Nat):Int) > 300 by omega),cT]
      refine Vq.fa fun q=>?_
      simp only [cL,j] at q
      omega
    ·rw [dT (show (d:Int) > 10 by omega),cT]
     refine Vq.fa fun q=>?_
     simp only [dL,p] at q
     omega
  exact key xs 0 N n rfl (by omega) o
end Gp
end
section
namespace Gp
open Go Go.Kx Gx
theorem Zka (a b:Int):Wy a b=max a b:=by unfold Wy;split<;>omega
theorem ZiO:∀ (l:List ZY) (s:Int),0<=s->l.foldl (fun s x=>max s (dI (oI x):Int)) s=max s (dL (oL l):Int)
 | [],s,h=>by simp only [List.foldl_nil,oL,dL];omega
 | x::l,s,h=>by simp only [List.foldl_cons,oL,dL];rw [ZiO l _ (by omega)];omega
theorem ZiN:∀ (l:List (List ZY)) (s:Int),0<=s->l.foldl (fun s x=>max s (dL (oL x):Int)) s=max s (WT (YP l):Int)
 | [],s,h=>by simp only [List.foldl_nil,YP,WT];omega
 | x::l,s,h=>by simp only [List.foldl_cons,YP,WT];rw [ZiN l _ (by omega)];omega
theorem Zi5:∀ (N:Nat) (xs:List ZY),4194306+dL (oL xs)<=N->xs.length<=4194304->bL (oL xs)->dL (oL xs)<=1099511627776->Pt N xs=some ((dL (oL xs):Nat):Int)
 | 0,_,h,_,_,_=>by omega
 | N+1,xs,h,hs,hb,hc=>by
  show G7 N (Pt N) xs=_
  unfold G7
  have hN:4194304 < N:=by omega
  have c:∀ (k:Nat) (x:ZY) (v:Int) (ag:Int->Int->Option Int),xs[k]? = some x -> 
    R7 (Pt N) xs v (k:Int) ag N (0:Int) (0:Int)=ag (max v (dI (oI x):Int)) ((k+1:Nat):Int):=by
   intro k x v ag a
   have p:=Zb a
   have g:=(Uj _).1 (VA hb (WE p))
   rw [X4,S6] at g
   have m:=V5 (WE p)
   rw [V4,X4] at m
   have o:=Yf a
   have:=(VH x.ZC (R7 (Pt N) xs v (k:Int) ag) (fun s b=>max s (dL (oL b):Int)) (fun s=>ag (max v (s+1)) ((k+1:Nat):Int))
    (fun j s=>0<=s/\s<=1099511627776) (fun n j s b hi f=>?_) (fun n j s hi f=>?_) (N:=N) (s:=0) (by omega) ⟨by omega,by omega⟩).1
   ·rw [this,ZiN _ _ (by omega),V4,X4];congr 1<;>omega
   ·have ⟨q,t⟩:=hi
    have i:=Zb f
    have d:=UF g.2.2 (Vo i)
    have u:=Tk (Vo i)
    rw [Sd] at d
    have e:=Zi5 N b (by omega) d.1 d.2 (by omega)
    refine ⟨?_,by omega,by omega⟩
    simp only [R7,Yj,a,bS,Ym (Yf f),cT,f,e,Zka]
    rw [YE (by have:=Yf f;omega)]
   ·have ⟨q,t⟩:=hi
    simp only [R7,Yj,a,bS,Yr f,cF,Zbo,Zka]
    rw [YE (by omega),Xn (by omega) (by omega)]
  have:=(VH xs (Rh N (Pt N) xs) (fun s x=>max s (dI (oI x):Int)) (fun s=>some s)
   (fun j s=>True) (fun n k s x hi a=>?_) (fun n k s hi o=>?_) (N:=N) (s:=0) (by omega) trivial).1
  ·rw [this,ZiO _ _ (by omega)];congr 1<;>omega
  ·refine ⟨?_,trivial⟩
   simp only [Rh,Ym (Yf a),cT]
   rw [c k x s _ a]
  ·simp only [Rh,Yr o,cF,Zbn]
mutual
def nI:ZS->Prop
 | ⟨_,_,_,n,_,_,b⟩=>n.size<=4000000/\Gt b
def nL:List ZS->Prop
 | []=>True
 | x::l=>nI x/\nL l
def Gt:List (List ZS)->Prop
 | []=>True
 | x::l=>nL x/\Gt l
end
theorem ZqG (x:ZS):nI x↔x.Zt.size<=4000000/\Gt x.ZC:=by cases x;simp only [nI]
theorem Zkk:∀ {l:List ZS} {x},nL l->x∈l->nI x
 | y::l,x,hb,h=>by
  simp only [nL] at hb
  rcases List.mem_cons.1 h with rfl | h
  ·exact hb.1
  ·exact Zkk hb.2 h
theorem Zkj:∀ {l:List (List ZS)} {x},Gt l->x∈l->nL x
 | y::l,x,hb,h=>by
  simp only [Gt] at hb
  rcases List.mem_cons.1 h with rfl | h
  ·exact hb.1
  ·exact Zkj hb.2 h
variable {N:Nat}
theorem ZpN (hN:4194304 < N) {f:List ZY->Option Bool} {x:ZY} (o:x.ZC.length<=4194304) (g:∀ b∈x.ZC,Dq (f b) (XN (oL b))) (v:Bool):Dq (Xd N f x v) (v=true/\WG (YP x.ZC)):=by
 unfold Xd
 have key:∀ (l:List (List ZY)) (k n:Nat) (v:Bool),x.ZC.drop k=l->l.length < n->Dq (PS f x n v (k:Int)) (v=true/\WG (YP l)):=by
  intro l
  induction l with
  | nil =>
   intro k n v h d
   obtain ⟨n,rfl⟩:=pS n (by simp at d;omega)
   simp only [PS,Yr (XF h),cF,LY,YP,WG,and_true]
   exact Dq.bool v
  | cons b l m =>
   intro k n v h d
   obtain ⟨n,rfl⟩:=pS n (by simp at d;omega)
   have ⟨a,c,e⟩:=XE h
   have ⟨r,i,j⟩:=g b (Zb c)
   simp only [PS,Ym a,cT,Yj,c,bS,i,YE (show k < 4611686018427387904 by omega),YP,WG,LY]
   cases v with
   | false=>exact Dq.fa.iff (by simp)
   | true =>
    refine (m (k+1) n r e (by simp at d;omega)).iff ?_
    rw [j];simp
 exact key x.ZC 0 N v rfl (by omega)
theorem Zo8 (hN:4194304 < N) {w:List ZY->Option Bool} {x:ZY} (A:x.To.length<=4194304) (B:x.Zt.size<=4000000) (M:x.ZC.length<=4194304) (D:∀ b∈x.ZC,Dq (w b) (XN (oL b))) :
  Dq (DB N w x) (X5 (oI x)/\WG (YP x.ZC)):=by
 have L:=fun v=>ZpN hN M D v
 have j:Dq (Xd N w x false) False:=(L false).iff (by simp)
 have u:∀ (v:Bool) (P:Prop),(v=true↔P)->Dq (Xd N w x v) (P/\WG (YP x.ZC)):=fun v P h=>(L v).iff (by rw [h])
 have k:(oI x).ZC.length=x.ZC.length:=by rw [X4,S6]
 have n:(oI x).Zq=x.Zq:=by rw [Wl]
 have o:(oI x).ZA=x.ZA:=by rw [Wl]
 have p:(oI x).To=x.To:=by rw [Wl]
 have q:(oI x).Zt=x.Zt:=by rw [Wl]
 have s:(oI x).As=x.As:=by rw [Wl]
 have t:(oI x).ZB=x.ZB:=by rw [Wl]
 have R:X5 (oI x)=X5 ⟨x.Zq,x.ZA,x.To,x.Zt,x.As,x.ZB,YP x.ZC⟩:=by rw [Wl]
 unfold DB
 refine Dq.ite XQ (fun E=>?_) fun E=>Dq.ite XQ (fun y=>?_) fun y=>Dq.ite XQ (fun F=>?_) fun F=>Dq.ite XQ (fun G=>?_) fun G=>Dq.ite XQ (fun H=>?_) fun H=>Dq.ite XQ (fun I=>?_) fun I=>?_
 ·refine (Dq.bK (Re hN _) (fun _=>Dq.bK (ZfA hN _ A 5) (fun _=>Dq.bK (Ln hN _ B) (fun _=>Dq.cK X2 (fun _=>Dq.cK XQ (fun _=>u _ _ UN) j) j) j) j) j).iff ?_
  unfold X5
  rw [n,o,p,q,s,t,k]
  simp [E,and_assoc]
 ·have z:∀ (v:Int) (m:Nat),v=(m:Int)->Dq (LZ N w x v) (Xq x.ZA=true/\x.To.length=0/\x.Zt=str []/\x.As=str []/\0<=x.ZB/\x.ZB<=1000/\m<=x.ZC.length/\x.ZC.length<=8/\WG (YP x.ZC)):=by
   intro v m O
   subst O
   unfold LZ
   exact Dq.bK (Re hN _) (fun _=>Dq.cK UN (fun _=>Dq.cK X2 (fun _=>Dq.cK X2 (fun _=>Dq.cK (C:=0<=x.ZB) decide_eq_true_iff (fun _=>Dq.cK (C:=x.ZB<=1000) decide_eq_true_iff (fun _ =>
    Dq.cK (C:=m<=x.ZC.length) (by rw [decide_eq_true_eq];omega) (fun _=>u _ (x.ZC.length<=8) (by rw [decide_eq_true_eq];omega)) j) j) j) j) j) j) j
  refine Dq.ite (C:=x.ZB > 0) decide_eq_true_iff (fun A=>(z 2 2 rfl).iff ?_) (fun A=>(z 1 1 rfl).iff ?_)
  ·unfold X5
   rw [n,o,p,q,s,t,k]
   have:1+min x.ZB 1<=(x.ZC.length:Int)↔2<=x.ZC.length:=by omega
   simp [y,and_assoc,this]
  ·unfold X5
   rw [n,o,p,q,s,t,k]
   constructor
   ·rintro ⟨a,b,c,d,e,f,g,h,i⟩
    exact ⟨Or.inr (Or.inl ⟨y,a,b,c,d,e,f,by omega,h⟩),i⟩
   ·rintro ⟨h | h | h | h | h | h,i⟩<;>simp [y] at h
    have ⟨a,b,c,d,e,f,g,h⟩:=h
    exact ⟨a,by simpa using b,c,d,e,f,by omega,h,i⟩
 ·refine (Dq.cK X2 (fun _=>Dq.cK UN (fun _=>Dq.bK (Ln hN _ B) (fun _=>Dq.cK X2 (fun _=>Dq.cK XQ (fun _=>u _ (x.ZC.length=1) (by simp;omega)) j) j) j) j) j).iff ?_
  unfold X5
  rw [n,o,p,q,s,t,k]
  simp [F,and_assoc]
 ·refine (Dq.cK X2 (fun _=>Dq.cK UN (fun _=>Dq.bK (Ln hN _ B) (fun _=>Dq.cK X2 (fun _=>Dq.cK XQ (fun _=>u _ (x.ZC.length=0) UN) j) j) j) j) j).iff ?_
  unfold X5
  rw [n,o,p,q,s,t,k]
  simp [G,and_assoc]
 ·refine (Dq.cK X2 (fun _=>Dq.cK UN (fun _=>Dq.cK X2 (fun _=>Dq.cK X2 (fun _=>Dq.cK XQ (fun _=>Dq.cK (C:=2<=x.ZC.length) (by rw [decide_eq_true_eq];omega) (fun _=>u _ (x.ZC.length<=8) (by rw [decide_eq_true_eq];omega)) j) j) j) j) j) j).iff ?_
  unfold X5
  rw [n,o,p,q,s,t,k]
  simp [H,and_assoc]
 ·refine (Dq.cK X2 (fun _=>Dq.bK (ZfA hN _ A 6) (fun _=>Dq.bK (Re hN _) (fun _=>Dq.bK (Re hN _) (fun _=>Dq.cK XQ (fun _=>u _ (x.ZC.length=0) UN) j) j) j) j) j).iff ?_
  unfold X5
  rw [n,o,p,q,s,t,k]
  simp [I,and_assoc]
 ·refine j.iff ⟨fun h=>h.elim,fun h=>?_⟩
  unfold X5 at h
  rw [n,o,p,q,s,t,k] at h
  rcases h.1 with h | h | h | h | h | h
  ·exact E h.1
  ·exact y h.1
  ·exact F h.1
  ·exact G h.1
  ·exact H h.1
  ·exact I h.1
theorem Zlk:∀ l:List ZY,XN (oL l)↔∀ x∈l,X5 (oI x)/\WG (YP x.ZC)
 | []=>by simp [oL,XN]
 | x::l=>by simp only [oL,XN,Zlk l,List.mem_cons,forall_eq_or_imp,ZaV,X4]
theorem Zjz:∀ (N:Nat) (xs:List ZY),4194306+dL (oL xs)<=N->xs.length<=4194304->bL (oL xs)->nL (oL xs)->Dq (Zbq N xs) (XN (oL xs))
 | 0,_,h,_,_,_=>by omega
 | N+1,xs,h,hs,hb,hn=>by
  show Dq (G8 N (Zbq N) xs) _
  unfold G8
  refine (TQ hs (P:=fun x=>X5 (oI x)/\WG (YP x.ZC)) (E:=True) _ (fun n k x Q j f m=>?_) (fun _ n k j=>?_) (by omega)).iff (by rw [Zlk];simp)
  ·have g:=Zb f
   have a:=(Uj _).1 (VA hb (WE g))
   rw [X4,S6,Gv] at a
   have i:=V5 (WE g)
   rw [V4,X4] at i
   have d:=(ZqG _).1 (Zkk hn (WE g))
   rw [X4,show (oI x).Zt=x.Zt by rw [Wl]] at d
   simp only [LI,Ym (Yf f),cT,Yj,f,bS,YE (show k < 4611686018427387904 by omega)]
   refine Dq.bN (Zo8 (by omega) a.1 d.1 a.2.1 fun b c=>?_) m
   have e:=UF a.2.2 (Vo c)
   have o:=Tk (Vo c)
   rw [Sd] at e
   exact Zjz N b (by omega) e.1 e.2 (Zkj d.2 (Vo c))
  ·simp only [LI,Yr j,cF,Zbr]
   exact Dq.tr
end Gp
end
section
namespace Gp
open Go Go.Kx Gx
variable {N:Nat} (hN:4194304 < N)
def Vi (n:Int):Prop:=-999999<=n/\n<=999999
theorem ZsK (n:Int):Dq (Zct N n) (Vi n):=Dq.cA (C:=-999999<=n) decide_eq_true_iff fun _=>Dq.dec Iff.rfl
theorem ZfJ (n:Int):Dq (L2 N n) (Vi n):=Dq.cA (C:=-999999<=n) decide_eq_true_iff fun _=>Dq.dec Iff.rfl
def VW (t:Yq):Prop:=Vi t.N/\((t.Zq=1/\t.Zv=str []/\t.Field=str [])\/((t.Zq=2\/t.Zq=3)/\Xq t.Field=true/\(t.Zv=str []\/WW t.Zv=true)))
theorem Dq.orE {c:Bool} {C P:Prop} {o:Option Bool} (b:c=true↔C) (h:¬C->Dq o P):Dq (bif c then some true else o) (C\/P) :=
 Dq.ite b (fun a=>Dq.tr.iff ⟨fun _=>Or.inl a,fun _=>trivial⟩) (fun a=>(h a).iff ⟨fun p=>Or.inr p,fun p=>p.resolve_left a⟩)
include hN in
theorem ZlB (t:Yq):Dq (LQ N t) (VW t):=by
 unfold LQ
 refine Dq.bN (ZsK _) fun _=>Dq.ite XQ (fun b=>?_) fun b=>?_
 ·refine (Dq.cA X2 fun _=>Dq.of rfl X2).iff ?_
  simp [b]
 have c:(t.Zq=2\/t.Zq=3)->Dq (PI N t true) ((t.Zq=1/\t.Zv=str []/\t.Field=str [])\/((t.Zq=2\/t.Zq=3)/\Xq t.Field=true/\(t.Zv=str []\/WW t.Zv=true))):=by
  intro c
  unfold PI
  simp only [cT]
  refine (Dq.bA (Pe hN _) fun _=>Dq.orE X2 fun _=>Dq.bS (ZaM hN _)).iff ?_
  simp [b,c]
 refine Dq.ite XQ (fun d=>c (Or.inl d)) fun d=>?_
 cases a:(t.Zq==3) with
 | true=>exact c (Or.inr (XQ.1 a))
 | false =>
  have a:¬ t.Zq=3:=fun h=>by rw [h] at a;cases a
  unfold PI
  simp only [cF]
  exact Dq.fa.iff (by simp [b,d,a])
include hN in
theorem Zk9 (t:Yq) (d:t.Zv.size<=4000000):Dq (z182 N t) (VW t):=by
 unfold z182
 refine Dq.bN (ZfJ _) fun _=>Dq.ite XQ (fun a=>?_) fun a=>Dq.ite XQ (fun b=>?_) fun b=>Dq.ite XQ (fun c=>?_) fun c=>?_
 ·refine (Dq.cA X2 fun _=>Dq.of rfl X2).iff ?_
  simp [a]
 ·refine (Dq.bA (Re hN _) fun _=>Dq.orE X2 fun _=>Dq.bS (Ln hN _ d)).iff ?_
  simp [b]
 ·refine (Dq.bA (Re hN _) fun _=>Dq.orE X2 fun _=>Dq.bS (Ln hN _ d)).iff ?_
  simp [c]
 ·exact Dq.fa.iff (by simp [a,b,c])
def Te (f:T2):Prop:=Xq f.Zt=true/\(f.Zu.Zq=1\/f.Zu.Zq=2)/\Vi f.Zu.Lo/\Vi f.Zu.Hi/\(f.Zu.Zq=2->0<=f.Zu.Lo/\0<=f.Zu.Hi)
def TL (a:Y5):Prop:=VW a.Zw/\VW a.Zx/\a.Op∈marksL
def W0 (m:Z2):Prop:=WW m.Zt=true/\m.Zy.length<=4/\m.Zz.length<=6/\(∀ f∈m.Zy,Te f)/\∀ a∈m.Zz,TL a
theorem Zqm {a b c:Int}:decide (XJ a b < c)=false↔c<=a/\c<=b:=by rw [decide_eq_false_iff_not];unfold XJ;split<;>omega
theorem Zqg {a b c:Int}:decide (Wy a b > c)=false↔a<=c/\b<=c:=by rw [decide_eq_false_iff_not];unfold Wy;split<;>omega
include hN in
theorem Zqd (s:ByteArray):Dq ((LR N).bind fun x=>Vu N x s) (s∈marksL):=by
 have h:=Zem hN marksL (by decide) s
 refine Dq.of (b:=marksL.any fun x=>Wp x s) h ?_
 rw [List.any_eq_true]
 constructor
 ·rintro ⟨x,a,h⟩;rw [(Zan _ _).1 h] at a;exact a
 ·intro h;exact ⟨s,h,ZoG s⟩
include hN in
theorem Zqp (m:Z2):Dq (BG N m) (W0 m):=by
 unfold BG
 refine Dq.bN (ZaM hN _) fun _=>Dq.cN (C:=m.Zy.length<=4) TV fun z=>Dq.cN (C:=m.Zz.length<=6) TV fun A=>?_
 refine TQ (P:=Te) (E:=∀ a∈m.Zz,TL a) (by omega) _ (fun n k x Q j o p=>?_) (fun _ n k j=>?_) (by omega)
 ·have key:∀ (lo:Int),(x.Zu.Zq=2/\lo=0)\/(x.Zu.Zq≠2/\lo=-999999)->Dq (HK N (k:Int) (SF N m n) x lo) (Te x/\Q):=by
   intro lo s
   unfold HK
   rw [YE (show k < 4611686018427387904 by omega)]
   refine (Dq.bN (P:=(x.Zu.Zq=1\/x.Zu.Zq=2)/\(lo<=x.Zu.Lo/\lo<=x.Zu.Hi)/\(x.Zu.Lo<=999999/\x.Zu.Hi<=999999)/\Q) (Pe hN _) fun u=>?_).iff ?_
   ·have rest:(x.Zu.Zq=1\/x.Zu.Zq=2)->Dq (bif decide (XJ x.Zu.Lo x.Zu.Hi < lo) then some false else bif decide (Wy x.Zu.Lo x.Zu.Hi > (999999:Int)) then some false else SF N m n ((k+1:Nat):Int)) ((lo<=x.Zu.Lo/\lo<=x.Zu.Hi)/\(x.Zu.Lo<=999999/\x.Zu.Hi<=999999)/\Q):=fun q =>
     Dq.cN Zqm fun B=>Dq.cN Zqg fun D=>p (by unfold Te Vi;exact ⟨u,q,⟨by omega,by omega⟩,⟨by omega,by omega⟩,fun g=>by omega⟩)
    cases i:(x.Zu.Zq != 1) with
    | false =>
     have i:=ZaI.1 i
     simp only [cF]
     exact (rest (Or.inl i)).iff (by simp [i])
    | true =>
     simp only [cT]
     have t:¬ x.Zu.Zq=1:=fun h=>by rw [h] at i;cases i
     refine (Dq.cN (C:=x.Zu.Zq=2) ZaI fun g=>rest (Or.inr g)).iff ?_
     simp [t]
   ·unfold Te Vi
    constructor
    ·rintro ⟨a,b,c,d,e⟩;exact ⟨⟨a,b,by omega,by omega,by omega⟩,e⟩
    ·rintro ⟨⟨a,b,c,d,e⟩,f⟩
     refine ⟨a,b,?_,by omega,f⟩
     rcases s with ⟨h,w⟩ | ⟨h,w⟩
     ·have:=e h;omega
     ·omega
  simp only [SF,Ym (Yf o),cT,Yj,o,bS]
  exact Dq.ite XQ (fun g=>key 0 (Or.inl ⟨g,rfl⟩)) fun g=>key (-999999) (Or.inr ⟨g,rfl⟩)
 ·simp only [SF,Yr j,cF,ZdD]
  refine (TQ (xs:=m.Zz) (P:=TL) (E:=True) (by omega) _ (fun n k x Q j o p=>?_) (fun _ n k j=>?_) (by omega)).iff (by simp)
  ·simp only [HL,Ym (Yf o),cT,Yj,o,bS,YE (show k < 4611686018427387904 by omega)]
   refine (Dq.bN (ZlB hN _) fun i=>Dq.bN (ZlB hN _) fun g=>?_:Dq _ (VW x.Zw/\VW x.Zx/\x.Op∈marksL/\Q)).iff (by unfold TL;simp only [and_assoc])
   exact Dq.bN (o1:=(LR N).bind fun y=>Vu N y x.Op) (Zqd hN _) fun v=>p ⟨i,g,v⟩
  ·simp only [HL,Yr j,cF,ZdC]
   exact Dq.tr
def nM (m:Z2):Prop:=m.Zt.size<=4000000/\∀ a∈m.Zz,a.Zw.Zv.size<=4000000/\a.Zx.Zv.size<=4000000
theorem Gu {a b:ByteArray}:(!(a.toList==b.toList))=true↔¬ a=b:=by
 rw [<- Zan a b];unfold Wp;cases (a.toList==b.toList)<;>simp
include hN in
theorem ZrS (m:Yg) (z:m.Zy.length<=4194304) (A:m.Zz.length<=4194304) (v:nM (oM m)):Dq (G9 N m) (W0 (oM m)):=by
 unfold G9
 refine (TQ (P:=Te) (E:=(∀ a∈m.Zz,TL (oA a))/\WW m.Zt=true/\m.Zy.length<=4/\m.Zz.length<=6) z _ (fun n k x Q p j s=>?_) (fun _ n k p=>?_) (by omega)).iff ?_
 ·simp only [TB,Ym (Yf j),cT,Yj,j,bS,YE (show k < 4611686018427387904 by omega)]
  refine (Dq.bN (P:=Vi x.Zu.Lo/\Vi x.Zu.Hi/\(x.Zu.Zq=1\/x.Zu.Zq=2)/\(x.Zu.Zq=2->0<=x.Zu.Lo/\0<=x.Zu.Hi)/\Q) (Re hN _) fun w=>Dq.bN (ZfJ _) fun g=>Dq.bN (ZfJ _) fun o=>?_).iff ?_
  ·have rest:(x.Zu.Zq=1\/x.Zu.Zq=2)->Dq (bif (x.Zu.Zq==(2:Int)) then (bif decide (x.Zu.Lo < (0:Int)) then some false else bif decide (x.Zu.Hi < (0:Int)) then some false else TB N m n ((k+1:Nat):Int)) else TB N m n ((k+1:Nat):Int)) ((x.Zu.Zq=2->0<=x.Zu.Lo/\0<=x.Zu.Hi)/\Q):=fun q =>
    Dq.ite XQ (fun i=>(Dq.cN (C:=0<=x.Zu.Lo) (by rw [decide_eq_false_iff_not];omega) fun B=>Dq.cN (C:=0<=x.Zu.Hi) (by rw [decide_eq_false_iff_not];omega) fun D=>s ⟨w,q,g,o,fun _=>⟨B,D⟩⟩).iff (by simp [i,and_assoc]))
     (fun i=>(s ⟨w,q,g,o,fun h=>absurd h i⟩).iff (by simp [i]))
   cases g:(x.Zu.Zq != 1) with
   | false =>
    have g:=ZaI.1 g
    simp only [cF]
    exact (rest (Or.inl g)).iff (by simp [g])
   | true =>
    simp only [cT]
    have t:¬ x.Zu.Zq=1:=fun h=>by rw [h] at g;cases g
    refine (Dq.cN (C:=x.Zu.Zq=2) ZaI fun o=>rest (Or.inr o)).iff ?_
    simp [t]
  ·unfold Te
   constructor
   ·rintro ⟨a,b,c,d,e,f⟩;exact ⟨⟨a,d,b,c,e⟩,f⟩
   ·rintro ⟨⟨a,b,c,d,e⟩,f⟩;exact ⟨a,c,d,b,e,f⟩
 ·simp only [TB,Yr p,cF,Zbu]
  refine TQ (P:=fun a=>TL (oA a)) (E:=WW m.Zt=true/\m.Zy.length<=4/\m.Zz.length<=6) A _ (fun n k x Q p j s=>?_) (fun _ n k p=>?_) (by omega)
  ·simp only [TA,Ym (Yf j),cT,Yj,j,bS,YE (show k < 4611686018427387904 by omega)]
   have F:oA x∈(oM m).Zz:=List.mem_map.2 ⟨x,Zb j,rfl⟩
   have y:=v.2 _ F
   refine (Dq.bN (Zk9 hN _ y.1) fun g=>Dq.bN (Zk9 hN _ y.2) fun o=>?_:Dq _ (VW x.Zw/\VW x.Zx/\x.Op∈marksL/\Q)).iff (by unfold TL;simp only [and_assoc];rfl)
   have u:x.Op∈marksL->Dq (TA N m n ((k+1:Nat):Int)) (x.Op∈marksL/\Q):=fun h=>(s ⟨g,o,h⟩).iff (by simp [h])
   refine Dq.ite Gu (fun a1=>Dq.ite Gu (fun a2=>Dq.ite Gu (fun a3=>Dq.ite Gu (fun a4=>Dq.ite Gu (fun a5=>?_) fun a=>?_) fun a=>?_) fun a=>?_) fun a=>?_) fun a=>?_
   ·exact Dq.fa.iff (by simp [marksL,a1,a2,a3,a4,a5])
   all_goals exact u (by rw [Classical.not_not.1 a];simp [marksL])
  ·simp only [TA,Yr p,cF,Zbt]
   exact Dq.bA (Ln hN _ v.1) fun _=>Dq.cA (C:=m.Zy.length<=4) (by rw [decide_eq_true_eq];omega) fun _=>Dq.dec (by omega)
 ·unfold W0
  show _↔WW m.Zt=true/\m.Zy.length<=4/\(m.Zz.map oA).length<=6/\(∀ f∈m.Zy,Te f)/\∀ a∈m.Zz.map oA,TL a
  rw [List.length_map,List.forall_mem_map]
  constructor
  ·rintro ⟨a,b,c,d,e⟩;exact ⟨c,d,e,a,b⟩
  ·rintro ⟨c,d,e,a,b⟩;exact ⟨a,b,c,d,e⟩
end Gp
end
section
namespace Gp
open Go Go.Kx Gx
variable {N:Nat}
def SJ (n:Int):Prop:=-9223372036854775808<=n/\n<=9223372036854775807
theorem Zh3 (a b:ByteArray):bs (a++b)=bs a++bs b:=by
 unfold bs
 rw [ByteArray.data_append,Array.toList_append]
theorem TP {a b:List UInt8} (h:a.length+b.length<=9223372036854775807):Yp (Yb a) (Yb b)=some (Yb (a++b)):=by
 unfold Yp
 have e:(Yb a).size=a.length/\(Yb b).size=b.length:=⟨by rw [Wa,Yz],by rw [Wa,Yz]⟩
 rw [e.1,e.2,dF (by simp only [IntKind.max];simp [IntKind.bits,IntKind.signed];omega)]
 simp only [cF]
 refine congrArg some (H6 ?_)
 rw [Zh3,Yz,Yz,Yz]
theorem ZeB:∀ d:Fin 10,Utf8.encode (wk .i32 (ZN ((48:Int)+(d.val:Int))))=Yb [UInt8.ofNat (48+d.val)]:=by decide
theorem Zji {n:Int} {d:Nat} (a:d < 10) (h:n=(48:Int)+(d:Int)):Utf8.encode (wk .i32 (ZN n))=Yb [UInt8.ofNat (48+d)]:=by
 rw [h];exact ZeB ⟨d,a⟩
theorem Gb:∀ f u,(V6 f u).length<=f
 | 0,_=>Zo _
 | f+1,u=>by
  rw [V6]
  cases a:Nat.blt u 10 with
  | true=>simp
  | false =>
   have:=Gb f (u / 10)
   simp only [cF,lA,List.length_singleton]
   omega
theorem Zi8:∀ (f m u:Nat),f<=24->u < 10 ^ (f+1)->u < 9223372036854775808->Ql (f+1+m) (u:Int)=some (Yb (V6 (f+1) u))
 | f,m,u,hf,h,hu=>by
  rw [show f+1+m=(f+m)+1 by omega,Ql,DS,V6]
  rw [dF (show ¬ (u:Int) < -9 by omega),dF (show ¬ (u:Int) < 0 by omega)]
  simp only [cF]
  by_cases c:u < 10
  ·have a:Nat.blt u 10=true:=by simpa [Nat.blt_eq] using c
   rw [dT (show (u:Int) < 10 by omega),a,Zji c rfl];rfl
  ·have a:Nat.blt u 10=false:=by
    cases e:Nat.blt u 10 with
    | false=>rfl
    | true=>exact absurd (by simpa [Nat.blt_eq] using e) c
   rw [dF (show ¬ (u:Int) < 10 by omega),a]
   have b:ZN ((u:Int).tdiv 10)=((u / 10:Nat):Int):=by
    rw [show ((u:Int).tdiv 10)=((u / 10:Nat):Int) from by rw [Int.tdiv_eq_ediv_of_nonneg (by omega)];omega,Xn (by omega) (by omega)]
   have d:((48:Int)+(u:Int).tmod 10)=(48:Int)+((u % 10:Nat):Int):=by
    rw [Int.tmod_eq_emod_of_nonneg (by omega)];omega
   rw [b,d,ZeB (⟨u % 10,Nat.mod_lt _ (by omega)⟩)]
   match f,h,hf with
   | 0,h,_=>omega
   | f+1,h,hf =>
    rw [show f+1+m=f+1+m by rfl,Zi8 f m (u / 10) (by omega) (by rw [Nat.pow_succ] at h;omega) (by omega)]
    simp only [bS,cF]
    have:=Gb (f+1) (u / 10)
    rw [TP (by simp only [List.length_singleton];omega)]
    rfl
theorem Zi7:∀ (f m u:Nat),f<=24->0 < u->u < 10 ^ (f+1)->u<=9223372036854775808->Ql (f+1+m) (-(u:Int))=some (Yb (45::V6 (f+1) u))
 | f,m,u,hf,b,h,hu=>by
  rw [show f+1+m=(f+m)+1 by omega,Ql,DS,V6]
  by_cases c:u < 10
  ·have a:Nat.blt u 10=true:=by simpa [Nat.blt_eq] using c
   rw [dF (show ¬ -(u:Int) < -9 by omega),dT (show -(u:Int) < 0 by omega),a]
   simp only [cT,cF]
   rw [Zji (n:=48 - -(u:Int)) c (by omega)]
   rw [show str [45]=Yb [45] from rfl,TP (by simp)];rfl
  ·have a:Nat.blt u 10=false:=by
    cases b:Nat.blt u 10 with
    | false=>rfl
    | true=>exact absurd (by simpa [Nat.blt_eq] using b) c
   rw [dT (show -(u:Int) < -9 by omega),a]
   have d:ZN ((-(u:Int)).tdiv 10)=-((u / 10:Nat):Int):=by
    rw [show ((-(u:Int)).tdiv 10)=-((u / 10:Nat):Int) from by rw [Int.neg_tdiv,Int.tdiv_eq_ediv_of_nonneg (by omega)];omega,Xn (by omega) (by omega)]
   have e:((48:Int)-(-(u:Int)).tmod 10)=(48:Int)+((u % 10:Nat):Int):=by
    rw [Int.neg_tmod,Int.tmod_eq_emod_of_nonneg (by omega)];omega
   rw [d,e,ZeB (⟨u % 10,Nat.mod_lt _ (by omega)⟩)]
   match f,h,hf with
   | 0,h,_=>omega
   | f+1,h,hf =>
    rw [Zi7 f m (u / 10) (by omega) (by omega) (by rw [Nat.pow_succ] at h;omega) (by omega)]
    simp only [bS,cT]
    have:=Gb (f+1) (u / 10)
    rw [TP (by simp only [Zf,List.length_nil];omega)]
    rfl
theorem Zaf (hN:4194304 < N) {n:Int} (h:SJ n):z218 N n=some (UM n):=by
 have ⟨a,b⟩:=h
 unfold z218 UM
 by_cases c:n < 0
 ·rw [dT c]
  have:=Zi7 24 (N-25) n.natAbs (by omega) (by omega) (by omega) (by omega)
  rw [show 24+1+(N-25)=N by omega,show -((n.natAbs:Nat):Int)=n by omega] at this
  exact this
 ·rw [dF c]
  have:=Zi8 24 (N-25) n.toNat (by omega) (by omega) (by omega)
  rw [show 24+1+(N-25)=N by omega,show ((n.toNat:Nat):Int)=n by omega] at this
  exact this
theorem QY {n:Int} (h:SJ n):TF N n=some (UM n):=by
 unfold TF
 rw [dT h.1,dT h.2];rfl
theorem Zpu (n:Int):(UM n).size<=26:=by
 unfold UM
 have a:=Gb 25 n.natAbs
 have b:=Gb 25 n.toNat
 show (bif decide (n < 0) then 45::V6 25 n.natAbs else V6 25 n.toNat).toArray.size<=26
 cases decide (n < 0)<;>simp<;>omega
theorem XD {a b:ByteArray} (h:(bs a).length+(bs b).length<=140737488355328):Yp a b=some (Yb (bs a++bs b)):=by
 have:=TP (a:=bs a) (b:=bs b) (by omega)
 rw [Gs,Gs] at this
 exact this
theorem YF (l:List UInt8):bs (str l)=l:=Yz l
def Xx (k:Nat):List UInt8:=List.replicate k 9
theorem Wm (k:Nat):(Xx k).length=k:=List.length_replicate
theorem Zsy (k:Nat):Xx (k+1)=Xx k++[9]:=List.replicate_succ'
def YW (k:Nat) (F:List UInt8):List UInt8:=Xx k++(F++[10])
theorem Wx (k:Nat) (F:List UInt8):(YW k F).length=k+(F.length+1):=by simp [YW,Xx]
def Ww (n:Int):List UInt8:=bs (UM n)
theorem Um (n:Int):(Ww n).length<=26:=Zpu n
theorem ZkX (k:Nat) (b:k<=1000000):Qo N (str [9]) (k:Int)=some (Yb (Xx k)):=by
 unfold Qo
 have e:∀ k,Lh (str [9]).data.toList k=List.replicate k 9:=by
  intro k
  induction k with
  | zero=>rfl
  | succ k a=>rw [Lh,a];rfl
 rw [dT (show (0:Int)<=(k:Int) by omega),dT (show (k:Int)<=140737488355328 by omega),dT (show (str [9]).size * ((k:Int)).toNat<=140737488355328 by show 1 * _<=_;omega),e,Int.toNat_natCast]
 rfl
def WN (sep:List UInt8) (l:List ByteArray):List UInt8:=Wq sep (l.map bs)
theorem RM (l:List ByteArray) (sep:List UInt8) (a:l.length<=4194304) (h:(WN sep l).length<=140737488355328):VQ N l (str sep)=some (Yb (WN sep l)):=by
  unfold VQ
  have e:Wq (str sep).data.toList (l.map (·.data.toList))=WN sep l:=rfl
  rw [e,dT (show l.length<=140737488355328 by omega),dT h]
  rfl
theorem ZjV:∀ l:List (List UInt8),Wq [] l=l.flatten
  | []=>rfl
  | x::r=>by
    show x++(r.map (([]:List UInt8)++·)).flatten=(x::r).flatten
    have e:r.map (([]:List UInt8)++·)=r:=by
      have:(fun y:List UInt8=>[]++y)=id:=by funext y;simp
      show r.map (fun y=>[]++y)=r
      rw [this,List.map_id]
    rw [e];rfl
theorem ZeQ (sep:List UInt8) (M:Nat):∀ l:List (List UInt8),(∀ x∈l,x.length<=M)->(Wq sep l).length<=l.length * (M+sep.length)
  | [],_=>by simp [Wq]
  | x::r,h=>by
    have e:=h x (Zj ..)
    have b:∀ r:List (List UInt8),(∀ x∈r,x.length<=M)->((r.map (sep++·)).flatten).length<=r.length * (M+sep.length):=by
      intro r
      induction r with
      | nil=>intro _;simp
      | cons y r d =>
        intro h
        have f:=h y (Zj ..)
        have c:=d fun z a=>h z (Zi _ a)
        simp only [List.map_cons,List.flatten_cons,lA,Zf,Nat.add_mul,Nat.one_mul]
        omega
    have c:=b r fun z a=>h z (Zi _ a)
    show (x++(r.map (sep++·)).flatten).length<=_
    simp only [lA,Zf,Nat.add_mul,Nat.one_mul]
    omega
theorem ZhU {B F:List UInt8} (h:B.length+F.length<=4294967296):QJ (Yb B) (Yb F)=some (Yb (B++F)):=by
 unfold QJ
 have e:(Yb B).size=B.length/\(Yb F).size=F.length:=⟨by rw [Wa,Yz],by rw [Wa,Yz]⟩
 rw [e.1,e.2,Nat.ble_eq_true_of_le (show B.length+F.length<=lim by show B.length+F.length<=4294967296;omega)]
 simp only [cT]
 refine congrArg some (H6 ?_)
 rw [Zh3,Yz,Yz,Yz]
theorem S4 (a:List ByteArray) (B F:List UInt8) (k:Nat) (hF:(a.map bs).flatten=F) (c:a.length<=4194304) (d:k<=1000000) (h:B.length+(YW k F).length<=4294967296) :
  WR N a ⟨Yb B,(k:Int)⟩=some ⟨Yb (B++YW k F),(k:Int)⟩:=by
 subst hF
 rw [Wx] at h
 unfold WR
 have b:WN [] a=(a.map bs).flatten:=ZjV _
 rw [ZkX k d,bS,RM a [] c (by rw [b];omega),bS,b,TP (by rw [Wm];omega),bS,show str [10]=Yb [10] from rfl,TP (by simp only [lA,List.length_singleton,Wm,List.length_nil];omega),bS]
 unfold ZdO Zb0
 simp only [bS]
 rw [ZhU (by simp only [lA,List.length_singleton,Wm,List.length_nil];omega)]
 simp only [bS,YW,aA]
theorem Zp2 (a:List ByteArray) (F:List UInt8) (hF:(a.map bs).flatten=F) (c:a.length<=4194304) (h:(YW 0 F).length<=4294967296) :
  Dr N a ⟨ByteArray.empty,(0:Int)⟩=some ⟨Yb (YW 0 F),(0:Int)⟩:=by
 subst hF
 rw [Wx] at h
 unfold Dr
 have b:WN [] a=(a.map bs).flatten:=ZjV _
 show (Qo N (str [9]) ((0:Nat):Int)).bind _=_
 rw [ZkX 0 (by omega),bS,RM a [] c (by rw [b];omega),bS,b,TP (by rw [Wm];omega),bS,show str [10]=Yb [10] from rfl,TP (by simp only [lA,List.length_singleton,Wm,List.length_nil];omega),bS]
 unfold ZdP ZbZ
 simp only [bS]
 rw [show ByteArray.empty=Yb [] from rfl,ZhU (by simp only [lA,List.length_singleton,Wm,List.length_nil];omega)]
 simp only [bS,YW,aA,List.nil_append]
end Gp
end
section
namespace Gp
open Go Go.Kx Gx
def R3 (t:Yq):List UInt8:=bif Wp t.Zv (str []) then bs t.Field else bs t.Zv++[46]++bs t.Field
def GO (t:Yq):List UInt8:=bif decide (t.N > 0) then [32,43,32]++Ww t.N else bif decide (t.N < 0) then [32,45,32]++Ww (0-t.N) else []
def Ty (t:Yq):List UInt8:=bif t.Zq==1 then Ww t.N else (bif t.Zq==3 then [108,101,110,40]++R3 t++[41] else R3 t)++GO t
def Wg (f:T2):List UInt8:=bs f.Zt++(bif f.Zu.Zq==2 then [58,32,116,101,120,116,32] else [58,32,105,110,116,32])++Ww f.Zu.Lo++[46,46]++Ww f.Zu.Hi
def VZ (a:Y5):List UInt8:=Ty a.Zw++[32]++bs a.Op++[32]++Ty a.Zx
def LA (l:List Y5):List UInt8:=match l with
 | []=>[]
 | _::_=>[32,119,104,101,114,101,32]++Wq [32,97,110,100,32] (l.map VZ)
def Tr (m:Z2):List UInt8:=[109,101,115,115,97,103,101,32]++bs m.Zt++[40]++Wq [44,32] (m.Zy.map Wg)++[41]++LA m.Zz++[59]
theorem VO {s:ByteArray} (h:Xq s=true):(bs s).length<=16:=ZfX h
theorem S8 {s:ByteArray} (h:WW s=true):(bs s).length<=50:=by
 unfold WW at h
 rw [Zc,decide_eq_true_eq] at h
 exact h.1
theorem Q9 {n:Int} (h:Vi n):SJ n:=by unfold Vi at h;unfold SJ;omega
theorem ZfP {t:Yq} (h:VW t):(bs t.Zv).length<=50/\(bs t.Field).length<=16:=by
 rcases h.2 with ⟨_,b,a⟩ | ⟨_,b,a⟩
 ·rw [b,a,YF];simp
 ·refine ⟨?_,VO b⟩
  rcases a with a | a
  ·rw [a,YF];simp
  ·exact S8 a
theorem Ze3 {s:ByteArray} (h:s∈marksL):(bs s).length<=2:=by
 have:∀ x∈marksL,(bs x).length<=2:=by
  intro x a
  simp only [marksL,List.mem_cons,List.not_mem_nil,or_false] at a
  rcases a with h | h | h | h | h<;>subst h<;>(rw [YF];simp)
 exact this s h
theorem Lv {t:Yq} (h:VW t):(Ty t).length<=150:=by
 have ⟨b,c⟩:=ZfP h
 have d:(R3 t).length<=67:=by unfold R3;cases Wp t.Zv (str [])<;>simp<;>omega
 have e:=Um t.N
 have a:=Um (0-t.N)
 have f:(GO t).length<=29:=by
  unfold GO
  cases decide (t.N > 0)<;>cases decide (t.N < 0)<;>simp only [cT,cF,lA,Zf,List.length_nil]<;>omega
 unfold Ty
 cases (t.Zq==1)<;>cases (t.Zq==3)<;>simp only [cT,cF,lA,Zf,List.length_nil]<;>omega
theorem ZoX {f:T2} (h:Te f):(Wg f).length<=100:=by
 have:=VO h.1
 have a:=Um f.Zu.Lo
 have b:=Um f.Zu.Hi
 unfold Wg
 cases (f.Zu.Zq==2)<;>simp only [cT,cF,lA,Zf,List.length_nil]<;>omega
theorem Znq {a:Y5} (h:TL a):(VZ a).length<=350:=by
 have b:=Lv h.1
 have c:=Lv h.2.1
 have d:=Ze3 h.2.2
 unfold VZ
 simp only [lA,Zf,List.length_nil];omega
variable {N:Nat} (hN:4194304 < N)
theorem ZlC {t:Yq} (h:VW t) (A:List UInt8) (d:A.length<=100):Qi N t (Yb A)=some (Yb (A++GO t)):=by
 unfold Qi GO
 have a:=h.1;unfold Vi at a
 have b:=Um t.N
 have c:=Um (0-t.N)
 unfold Ww at b c
 rw [QY (Q9 h.1),Xn (by omega) (by omega),QY (by unfold SJ;omega)]
 cases decide (t.N > 0)<;>cases decide (t.N < 0)<;>simp only [cT,cF,bS,List.append_nil]
 all_goals simp (disch:=(simp only [Yz,YF,lA,Zf,List.length_nil];omega)) only [XD,bS,Yz,YF,Ww]
theorem ZsC {t:Yq} (h:VW t) (a:(t.Zq==1)=false):Qj N t (Yb (R3 t))=some (Yb (Ty t)):=by
 have ⟨b,c⟩:=ZfP h
 have d:(R3 t).length<=67:=by unfold R3;cases Wp t.Zv (str [])<;>simp<;>omega
 unfold Qj Ty
 rw [a]
 cases (t.Zq==3)<;>simp only [cT,cF]
 ·exact ZlC h _ (by omega)
 ·simp (disch:=(simp only [Yz,YF,lA,Zf,List.length_nil];omega)) only [XD,bS,Yz,YF]
  exact ZlC h _ (by simp only [lA,Zf,List.length_nil];omega)
theorem ZfF {t:Yq} (h:VW t):P1 N t=some (Yb (Ty t)):=by
 have ⟨d,f⟩:=ZfP h
 unfold P1
 cases b:(t.Zq==1) with
 | true =>
  simp only [cT,QY (Q9 h.1),bS]
  unfold Ty
  rw [b];simp only [cT,Ww,Gs]
 | false =>
  simp only [cF]
  have e:(t.Zv.toList==(str []).toList)=Wp t.Zv (str []):=rfl
  have a:=ZsC (N:=N) h b
  unfold R3 at a
  rw [e]
  cases c:Wp t.Zv (str []) with
  | true =>
   rw [c] at a
   simp only [cT,Gs] at a
   simp only [Zg,cF]
   exact a
  | false =>
   rw [c] at a
   simp only [cF] at a
   simp only [Bool.not_false,cT]
   simp (disch:=(simp only [Yz,YF,lA,Zf,List.length_nil];omega)) only [XD,bS,Yz,YF]
   exact a
theorem Zi9 (hN:4194304 < N) {n:Int} (h:SJ n):z218 N n=TF N n:=by rw [Zaf hN h,QY h]
theorem Zk8 (hN:4194304 < N) {t:Yq} (h:VW t):Hf N t=some (Yb (Ty t)):=by
 rw [<- ZfF (N:=N) h]
 have b:=h.1;unfold Vi at b
 have a:=Zi9 hN (Q9 h.1)
 have c:=Zi9 hN (n:=ZN (0-t.N)) (by rw [Xn (by omega) (by omega)];unfold SJ;omega)
 have d:∀ x,Hg N t x=Qi N t x:=fun x=>by unfold Hg Qi;rw [a,c]
 have e:∀ x,Hh N t x=Qj N t x:=fun x=>by unfold Hh Qj;simp only [d]
 unfold Hf P1
 simp only [e,a]
theorem Zqb (f:T2->List UInt8) (l:List T2):(l.map fun x=>Yb (f x)).map bs=l.map f:=by
 rw [List.map_map];congr 1
theorem Zqc (f:Y5->List UInt8) (l:List Y5):(l.map fun x=>Yb (f x)).map bs=l.map f:=by
 rw [List.map_map];congr 1
theorem ZeG {m:Z2} (h:W0 m):(Wq [44,32] (m.Zy.map Wg)).length<=500:=by
 have:=ZeQ [44,32] 100 (m.Zy.map Wg) (fun x a=>by obtain ⟨f,b,rfl⟩:=List.mem_map.1 a;exact ZoX (h.2.2.2.1 f b))
 simp only [List.length_map,Zf,List.length_nil] at this
 have:=h.2.1
 omega
theorem Zh2 {m:Z2} (h:W0 m):(Wq [32,97,110,100,32] (m.Zz.map VZ)).length<=2200:=by
 have:=ZeQ [32,97,110,100,32] 350 (m.Zz.map VZ) (fun x a=>by obtain ⟨f,b,rfl⟩:=List.mem_map.1 a;exact Znq (h.2.2.2.2 f b))
 simp only [List.length_map,Zf,List.length_nil] at this
 have:=h.2.2.1
 omega
theorem ZlK {m:Z2} (h:W0 m):(LA m.Zz).length<=2300:=by
 have:=Zh2 h
 unfold LA
 cases b:m.Zz with
 | nil=>simp
 | cons a l=>rw [b] at this;simp only [lA,Zf,List.length_nil] at this ⊢;omega
theorem Ze6 {m:Z2} (h:W0 m):(Tr m).length<=3000:=by
 have a:=ZeG h
 have b:=ZlK h
 have c:=S8 h.1
 unfold Tr
 simp only [lA,Zf,List.length_nil];omega
include hN in
theorem Zqk {m:Z2} (h:W0 m) (B:List UInt8) (k:Nat) (z:k<=1000) (hB:B.length+(YW k (Tr m)).length<=4294967296) :
  PJ N m ⟨Yb B,(k:Int)⟩=some ⟨Yb (B++YW k (Tr m)),(k:Int)⟩:=by
 have C:=ZeG h
 have o:=Zh2 h
 have w:=h.2.1;have x:=h.2.2.1
 unfold PJ
 rw [(VH m.Zy (Ro N m ⟨Yb B,(k:Int)⟩) (fun s f=>s++[Yb (Wg f)]) (fun s=>Dt N m ⟨Yb B,(k:Int)⟩ s) (fun j s=>s.length=j) (fun n j s f hi c=>?_) (fun n j s hi i=>?_) (N:=N) (s:=[]) (by omega) rfl).1]
 ·rw [RZ (fun f=>Yb (Wg f))]
  rw [List.nil_append]
  unfold Dt
  rw [(VH m.Zz (PK N m ⟨Yb B,(k:Int)⟩ (m.Zy.map fun f=>Yb (Wg f))) (fun s a=>s++[Yb (VZ a)]) (fun s=>Ds N m ⟨Yb B,(k:Int)⟩ (m.Zy.map fun f=>Yb (Wg f)) s) (fun j s=>s.length=j) (fun n j s a hi c=>?_) (fun n j s hi i=>?_) (N:=N) (s:=[]) (by omega) rfl).1]
  ·rw [RZ (fun a=>Yb (VZ a)),List.nil_append]
   unfold Ds
   have p:WN [44,32] (m.Zy.map fun f=>Yb (Wg f))=Wq [44,32] (m.Zy.map Wg):=by unfold WN;rw [Zqb]
   have q:WN [32,97,110,100,32] (m.Zz.map fun f=>Yb (VZ f))=Wq [32,97,110,100,32] (m.Zz.map VZ):=by unfold WN;rw [Zqc]
   rw [RM (m.Zz.map fun f=>Yb (VZ f)) _ (by simp;omega) (by rw [q];omega),RM (m.Zy.map fun f=>Yb (Wg f)) _ (by simp;omega) (by rw [p];omega),p,q]
   simp only [bS]
   cases g:m.Zz with
   | nil =>
    simp only [List.map_nil,List.length_nil]
    rw [show decide (((0:Nat):Int) > 0)=false from rfl,cF]
    rw [S4 _ B (Tr m) k (by simp [YF,Yz,Tr,LA,g,aA]) (by simp) (by omega) hB];rfl
   | cons a l =>
    rw [g] at o
    rw [dT (by simp:(((((a::l).map fun a=>Yb (VZ a)).length:Nat)):Int) > 0),cT]
    rw [show str [32,119,104,101,114,101,32]=Yb [32,119,104,101,114,101,32] from rfl,TP (by simp only [Zf,List.length_nil] at o ⊢;omega)]
    simp only [bS]
    rw [S4 _ B (Tr m) k (by simp [YF,Yz,Tr,LA,g,aA]) (by simp) (by omega) hB];rfl
  ·refine ⟨?_,by simp [hi]⟩
   have d:=Yf c
   have b:=h.2.2.2.2 a (Zb c)
   have y:=Lv b.1
   have t:=Lv b.2.1
   have u:=Ze3 b.2.2
   simp only [PK,Ym d,cT,Yj,c,bS,ZfF b.1,ZfF b.2.1,YE (show j < 4611686018427387904 by omega)]
   simp (disch:=(simp only [Yz,YF,lA,Zf,List.length_nil];omega)) only [XD,bS,Yz,YF]
   rw [Xj (by simp [hi];omega)]
   rfl
  ·simp only [PK,Yr i,cF]
 ·refine ⟨?_,by simp [hi]⟩
  have d:=Yf c
  have b:=h.2.2.2.1 f (Zb c)
  have y:=VO b.1
  have t:=Um f.Zu.Lo
  have u:=Um f.Zu.Hi
  unfold Ww at t u
  have key:∀ T:List UInt8,T.length<=10->Wg f=bs f.Zt++T++Ww f.Zu.Lo++[46,46]++Ww f.Zu.Hi->∀ ag:List ByteArray->Int->Option Yk,LU N s (j:Int) ag f (str T)=ag (s++[Yb (Wg f)]) ((j+1:Nat):Int):=by
   intro T A e ag
   unfold LU
   rw [QY (Q9 b.2.2.1),QY (Q9 b.2.2.2.1),YE (by omega),e]
   simp (disch:=(simp only [Yz,YF,lA,Zf,List.length_nil];omega)) only [XD,bS,Yz,YF]
   rw [Xj (by simp [hi];omega)]
   rfl
  simp only [Ro,Ym d,cT,Yj,c,bS]
  cases v:(f.Zu.Zq==2) with
  | true=>exact key [58,32,116,101,120,116,32] (by simp) (by unfold Wg;rw [v];rfl) _
  | false=>exact key [58,32,105,110,116,32] (by simp) (by unfold Wg;rw [v];rfl) _
 ·simp only [Ro,Yr i,cF]
end Gp
end
section
namespace Gp
open Go Go.Kx Gx
def Sh (first sep:List UInt8) (l:List (List UInt8)):List UInt8:=match l with
 | []=>[]
 | _::_=>first++Wq sep l
theorem ZfD {α γ:Type} (xs:List α) (F:Nat->ByteArray->Int->γ) (b:ByteArray->γ) (g:α->List UInt8) (first sep:List UInt8) (L:Nat)
  (i:∀ (n k:Nat) x A,k < 4194304->xs[k]? = some x->A.length+((if k=0 then first else sep)++g x).length<=L->F (n+1) (Yb A) (k:Int)=F n (Yb (A++((if k=0 then first else sep)++g x))) ((k+1:Nat):Int))
  (j:∀ (n k:Nat) A,xs.length<=k->A.length<=L->F (n+1) (Yb A) (k:Int)=b (Yb A)) {N:Nat} {A:List UInt8} (hN:xs.length < N) (q:xs.length<=4194304) (hL:A.length+(Sh first sep (xs.map g)).length<=L) :
  F N (Yb A) (0:Int)=b (Yb (A++Sh first sep (xs.map g))):=by
 have key:∀ (l:List α) (k n:Nat) (A:List UInt8),0 < k->xs.drop k=l->l.length < n->A.length+((l.map fun x=>sep++g x).flatten).length<=L->F n (Yb A) (k:Int)=b (Yb (A++(l.map fun x=>sep++g x).flatten)):=by
  intro l
  induction l with
  | nil =>
   intro k n A o h f hL
   obtain ⟨n,rfl⟩:=pS n (by simp at f;omega)
   rw [j n k A (XF h) (by omega)];simp
  | cons x l p =>
   intro k n A o h f hL
   obtain ⟨n,rfl⟩:=pS n (by simp at f;omega)
   have ⟨a,c,d⟩:=XE h
   rw [List.map_cons,List.flatten_cons,lA] at hL
   rw [i n k x A (by omega) c (by rw [if_neg (by omega)];omega),if_neg (by omega),p (k+1) n _ (by omega) d (by simp at f;omega) (by rw [lA];omega)]
   simp only [List.map_cons,List.flatten_cons,aA]
 cases xs with
 | nil =>
  obtain ⟨n,rfl⟩:∃ m,N=m+1:=⟨N-1,by simp at hN;omega⟩
  have:=j n 0 A (Zo _) (by omega)
  rw [show ((0:Nat):Int)=0 from rfl] at this
  rw [this];simp [Sh]
 | cons x l =>
  obtain ⟨n,rfl⟩:∃ m,N=m+1:=⟨N-1,by simp at hN;omega⟩
  have e:Sh first sep ((x::l).map g)=(first++g x)++(l.map fun x=>sep++g x).flatten:=by
   simp only [Sh,List.map_cons,Wq,List.map_map,aA]
   rfl
  rw [e,lA] at hL
  have:=i n 0 x A (by omega) rfl (by rw [if_pos rfl];omega)
  rw [if_pos rfl,show ((0:Nat):Int)=0 from rfl] at this
  rw [this,key l 1 n _ (by omega) rfl (by simp at hN;omega) (by rw [lA];omega),e]
  simp only [aA]
variable {N:Nat} (hN:4194304 < N)
theorem Zlf (sep:List UInt8) (l:List (List UInt8)):Sh [] sep l=Wq sep l:=by
 cases l<;>simp [Sh,Wq]
include hN in
theorem ZeY (l:List ByteArray) (f:l.length<=4194304) (h:(WN [44,32] l).length<=4294967296):PU N l=some (Yb (WN [44,32] l)):=by
 unfold PU
 have d:Sh [] [44,32] (l.map bs)=WN [44,32] l:=Zlf _ _
 rw [show str []=Yb [] from rfl,ZfD l (Qf l) (fun s=>some s) bs [] [44,32] 4294967296 (fun n k x A b c a=>?_) (fun n k A b a=>?_) (by omega) f (by rw [d];simp;omega),d,List.nil_append]
 ·simp only [Qf,Ym (Yf c),cT,Yj,c,bS,YE (show k < 4611686018427387904 by omega)]
  by_cases e:k=0
  ·subst e
   rw [if_pos rfl,List.nil_append] at a ⊢
   rw [dF (by omega),cF]
   simp (disch:=(simp only [Yz,YF,lA,Zf,List.length_nil];omega)) only [XD,bS,Yz,YF]
  ·rw [if_neg e] at a ⊢
   rw [dT (by omega),cT]
   simp only [lA,Zf,List.length_nil] at a
   simp (disch:=(simp only [Yz,YF,lA,Zf,List.length_nil];omega)) only [XD,bS,Yz,YF,aA]
 ·simp only [Qf,Yr b,cF,Zcd]
theorem ZlL (l:List Y5):LA l=Sh [32,119,104,101,114,101,32] [32,97,110,100,32] (l.map VZ):=by
 cases l<;>rfl
include hN in
theorem ZrR (m:Yg) (h:W0 (oM m)):DD N m=some (Yb (Tr (oM m))):=by
 have B:=ZeG h
 have j:=ZlK h
 have C:=S8 h.1
 have D:m.Zy.length<=4:=h.2.1
 have E:m.Zz.length<=6:=by have:=h.2.2.1;rw [Zkv] at this;exact this
 have p:(oM m).Zt=m.Zt:=rfl
 have q:(oM m).Zy=m.Zy:=rfl
 have s:(oM m).Zz=m.Zz.map oA:=rfl
 rw [p] at C
 rw [q] at B
 rw [s,ZlL,List.map_map] at j
 unfold DD
 simp (disch:=(simp only [Yz,YF,lA,Zf,List.length_nil];omega)) only [XD,bS,Yz,YF]
 have t:Sh [] [44,32] (m.Zy.map Wg)=Wq [44,32] (m.Zy.map Wg):=Zlf _ _
 rw [ZfD m.Zy (Ub N m) (DF N m) Wg [] [44,32] 1000 (fun n k f A g d b=>?_) (fun n k A g b=>?_) (by omega) (by omega) (by rw [t];simp only [lA,Zf,List.length_nil];omega),t]
 ·unfold DF
  simp (disch:=(simp only [Yz,YF,lA,Zf,List.length_nil];omega)) only [XD,bS,Yz,YF]
  rw [ZfD m.Zz (TE N m) DE (VZ ∘ oA) [32,119,104,101,114,101,32] [32,97,110,100,32] 10000 (fun n k a A g d b=>?_) (fun n k A g b=>?_) (by omega) (by omega) (by simp only [lA,Zf,List.length_nil];omega)]
  ·unfold DE
   simp (disch:=(simp only [Yz,YF,lA,Zf,List.length_nil];omega)) only [XD,bS,Yz,YF]
   unfold Tr
   rw [p,q,s,ZlL,List.map_map]
  ·have c:TL (oA a):=h.2.2.2.2 _ (List.mem_map.2 ⟨a,Zb d,rfl⟩)
   have F:(Ty a.Zw).length<=150:=Lv c.1
   have u:(Ty a.Zx).length<=150:=Lv c.2.1
   have v:(bs a.Op).length<=2:=Ze3 c.2.2
   have w:=Zk8 hN c.1
   have x:=Zk8 hN c.2.1
   have G:(oA a).Zw=a.Zw:=rfl
   have H:(oA a).Zx=a.Zx:=rfl
   rw [G] at w;rw [H] at x
   have y:∀ (A:List UInt8),A.length<=10000->L4 N m (k:Int) (TE N m n) (Yb A)=TE N m n (Yb (A++VZ (oA a))) ((k+1:Nat):Int):=by
    intro A b
    unfold L4
    simp only [Yj,d,bS,w,x,YE (show k < 4611686018427387904 by omega)]
    simp (disch:=(simp only [Yz,YF,lA,Zf,List.length_nil];omega)) only [XD,bS,Yz,YF]
    rfl
   simp only [TE,Ym (Yf d),cT]
   by_cases i:k=0
   ·subst i
    rw [if_pos rfl] at b ⊢
    simp only [lA,Zf,List.length_nil] at b
    rw [show (((0:Nat):Int)==0)=true from rfl,cT]
    simp (disch:=(simp only [Yz,YF,lA,Zf,List.length_nil];omega)) only [XD,bS,Yz,YF]
    rw [y _ (by simp only [lA,Zf,List.length_nil];omega),aA]
    rfl
   ·rw [if_neg i] at b ⊢
    simp only [lA,Zf,List.length_nil] at b
    rw [show ((k:Int)==0)=false by simp;omega,cF]
    simp (disch:=(simp only [Yz,YF,lA,Zf,List.length_nil];omega)) only [XD,bS,Yz,YF]
    rw [y _ (by simp only [lA,Zf,List.length_nil];omega),aA]
    rfl
  ·simp only [TE,Yr g,cF]
 ·have c:Te f:=h.2.2.2.1 f (Zb d)
  have F:=VO c.1
  have u:=Um f.Zu.Lo
  have v:=Um f.Zu.Hi
  unfold Ww at u v
  have z:∀ (T A:List UInt8),T.length<=4->A.length<=10000->Wg f=bs f.Zt++[58,32]++T++[32]++Ww f.Zu.Lo++[46,46]++Ww f.Zu.Hi->L5 N (k:Int) (Ub N m n) f (str T) (Yb A)=Ub N m n (Yb (A++Wg f)) ((k+1:Nat):Int):=by
   intro T A o b e
   unfold L5
   rw [Zaf hN (Q9 c.2.2.1),Zaf hN (Q9 c.2.2.2.1),YE (by omega),e]
   simp (disch:=(simp only [Yz,YF,lA,Zf,List.length_nil];omega)) only [XD,bS,Yz,YF,Ww]
  have key:∀ T:List UInt8,T.length<=4->Wg f=bs f.Zt++[58,32]++T++[32]++Ww f.Zu.Lo++[46,46]++Ww f.Zu.Hi->L6 N (Yb A) (k:Int) (Ub N m n) f (str T)=Ub N m n (Yb (A++((if k=0 then [] else [44,32])++Wg f))) ((k+1:Nat):Int):=by
   intro T o e
   simp only [lA] at b
   unfold L6
   by_cases i:k=0
   ·rw [dF (by omega),cF,if_pos i,z T A o (by omega) e];rfl
   ·rw [if_neg i] at b ⊢
    rw [dT (by omega),cT]
    simp (disch:=(simp only [Yz,YF,lA,Zf,List.length_nil];omega)) only [XD,bS,Yz,YF]
    rw [z T _ o (by simp only [lA,Zf,List.length_nil];omega) e,aA]
  simp only [Ub,Ym (Yf d),cT,Yj,d,bS]
  cases j:(f.Zu.Zq==2) with
  | true=>exact key [116,101,120,116] (by simp) (by unfold Wg;rw [j];simp)
  | false=>exact key [105,110,116] (by simp) (by unfold Wg;rw [j];simp)
 ·simp only [Ub,Yr g,cF]
end Gp
end
section
namespace Gp
open Go Go.Kx Gx
def Ul (l:List ByteArray):List UInt8:=WN [44,32] l
def V8 (first:Bool) (hd w last:List UInt8) (atEnd:Bool):List UInt8:=bif first then hd++[32,123] else [125,32]++(bif (atEnd && !last.isEmpty) then last else w)++[32,123]
def Sg (f:ByteArray) (t:List ByteArray) (n:ByteArray):List UInt8:=bs f++[32,45,62,32]++Ul t++[58,32]++bs n++[59]
def QH (n:ByteArray):List UInt8:=[97,103,97,105,110,32]++bs n++[59]
def SR (n:ByteArray) (t:List ByteArray) (a:ByteArray):List UInt8:=[99,97,108,108,32]++bs n++[40]++Ul t++[41,32,97,115,32]++bs a++[59]
def V3 (f:ByteArray):List UInt8:=[99,104,111,105,99,101,32,97,116,32]++bs f
def Uv (f:ByteArray) (x:Int):List UInt8:=V3 f++[32,119,105,116,104,105,110,32]++Ww x
def Tp (n:ByteArray):List UInt8:=[108,111,111,112,32]++bs n
abbrev RV:List UInt8:=[112,97,114]
abbrev Vr:List UInt8:=[111,114]
abbrev RE:List UInt8:=[97,110,100]
abbrev TT:List UInt8:=[101,108,115,101]
mutual
def xI (k:Nat):ZS->List UInt8
 | ⟨kd,f,t,n,a,x,b⟩ =>
  bif kd==1 then YW k (Sg f t n)
  else bif kd==2 then (bif decide (x > 0) then xR k true (Uv f x) Vr TT b else xR k true (V3 f) Vr [] b)
  else bif kd==3 then xR k true (Tp n) [] [] b
  else bif kd==4 then YW k (QH n)
  else bif kd==5 then xR k true RV RE [] b
  else bif kd==6 then YW k (SR n t a)
  else []
def xL (k:Nat):List ZS->List UInt8
 | []=>[]
 | x::l=>xI k x++xL k l
def xR (k:Nat) (first:Bool) (hd w last:List UInt8):List (List ZS)->List UInt8
 | []=>YW k [125]
 | b::l=>YW k (V8 first hd w last l.isEmpty)++(xL (k+1) b++xR k false hd w last l)
end
theorem ZlR (k:Nat) (x:ZS):xI k x=(bif x.Zq==1 then YW k (Sg x.ZA x.To x.Zt)
  else bif x.Zq==2 then (bif decide (x.ZB > 0) then xR k true (Uv x.ZA x.ZB) Vr TT x.ZC else xR k true (V3 x.ZA) Vr [] x.ZC)
  else bif x.Zq==3 then xR k true (Tp x.Zt) [] [] x.ZC
  else bif x.Zq==4 then YW k (QH x.Zt)
  else bif x.Zq==5 then xR k true RV RE [] x.ZC
  else bif x.Zq==6 then YW k (SR x.Zt x.To x.As)
  else []):=by cases x;simp only [xI]
variable {N:Nat}
theorem ZnA (hN:4194304 < N) {o:List ZS->Yk->Option Yk} {i:List (List ZS)} {k:Nat} (A:k<=1000) (v:i.length<=4194304) (g w e:List UInt8)
  (u:∀ b∈i,∀ B:List UInt8,B.length+(xL (k+1) b).length<=4294967296->o b ⟨Yb B,((k+1:Nat):Int)⟩=some ⟨Yb (B++xL (k+1) b),((k+1:Nat):Int)⟩)
  (B:List UInt8) (hB:B.length+(xR k true g w e i).length<=4294967296) :
  Rs N o (str g) (str w) (str e) i ⟨Yb B,(k:Int)⟩=some ⟨Yb (B++xR k true g w e i),(k:Int)⟩:=by
 unfold Rs
 have key:∀ (l:List (List ZS)) (j n:Nat) (B:List UInt8),i.drop j=l->l.length < n->B.length+(xR k (decide (j=0)) g w e l).length<=4294967296 ->
   U4 N o (str g) (str w) (str e) i n (Yb B) (k:Int) (j:Int)=some ⟨Yb (B++xR k (decide (j=0)) g w e l),(k:Int)⟩:=by
  intro l
  induction l with
  | nil =>
   intro j n B h s hL
   obtain ⟨n,rfl⟩:=pS n (by simp at s;omega)
   simp only [xR] at hL ⊢
   simp only [U4,Yr (XF h),cF,Zcw]
   rw [S4 [str [125]] B [125] k (by simp [YF]) (by simp) (by omega) hL];rfl
  | cons b l y =>
   intro j n B h s hL
   obtain ⟨n,rfl⟩:=pS n (by simp at s;omega)
   have ⟨a,c,d⟩:=XE h
   simp only [xR,lA] at hL
   have m:i.length=j+1+l.length:=by
    have:=congrArg List.length d
    rw [List.length_drop] at this;omega
   have p:=y (j+1) n (B++YW k (V8 (decide (j=0)) g w e l.isEmpty)++xL (k+1) b) d (by simp at s;omega) (by
    rw [dF (by omega:¬ j+1=0)];simp only [lA];omega)
   rw [dF (by omega:¬ j+1=0)] at p
   have rest:Qk o (j:Int) (U4 N o (str g) (str w) (str e) i n) b (Yb (B++YW k (V8 (decide (j=0)) g w e l.isEmpty))) (k:Int)=some ⟨Yb (B++xR k (decide (j=0)) g w e (b::l)),(k:Int)⟩:=by
    unfold Qk
    rw [YE (by omega:k < 4611686018427387904),u b (Zb c) _ (by simp only [lA];omega)]
    simp only [bS]
    rw [Xn (by omega) (by omega),YE (by omega),show ((k+1:Nat):Int)-1=(k:Int) by omega,p]
    simp only [xR,aA]
   have t:∀ f:List ByteArray,f.length<=3->(f.map bs).flatten=V8 (decide (j=0)) g w e l.isEmpty->WR N f ⟨Yb B,(k:Int)⟩=some ⟨Yb (B++YW k (V8 (decide (j=0)) g w e l.isEmpty)),(k:Int)⟩:=fun f C x =>
    S4 f B _ k x (by omega) (by omega) (by omega)
   simp only [U4,Ym a,cT,Yj,c,bS]
   by_cases q:j=0
   ·rw [show ((j:Int)==0)=true by simp [q],cT]
    rw [t [str g,str [32,123]] (by simp) (by simp [YF,V8,q])]
    exact rest
   ·rw [show ((j:Int)==0)=false by simp;omega,cF]
    cases l with
    | nil =>
     rw [show ((j:Int)==ZN ((i.length:Int)-1))=true by rw [Xn (by omega) (by omega)];simp at m ⊢;omega,cT]
     cases e with
     | nil =>
      rw [show (!((str []).toList==(str []).toList))=false by rw [Vf,YF];rfl,cF]
      rw [t [str [125,32],str w,str [32,123]] (by simp) (by simp [YF,V8,q])]
      exact rest
     | cons z zs =>
      rw [show (!((str (z::zs)).toList==(str []).toList))=true by rw [Vf,Vf,YF,YF];rfl,cT]
      rw [t [str [125,32],str (z::zs),str [32,123]] (by simp) (by simp [YF,V8,q])]
      exact rest
    | cons z zs =>
     rw [show ((j:Int)==ZN ((i.length:Int)-1))=false by rw [Xn (by omega) (by omega)];simp at m ⊢;omega,cF]
     rw [t [str [125,32],str w,str [32,123]] (by simp) (by simp [YF,V8,q])]
     exact rest
 have:=key i 0 N B rfl (by omega) hB
 exact this
theorem ZjO:∀ (N:Nat) (xs:List ZS) (k:Nat) (B:List UInt8),4194306+dL xs<=N->xs.length<=4194304->bL xs->XN xs->k+dL xs<=1000->B.length+(xL k xs).length<=4294967296 ->
  Rp N xs ⟨Yb B,(k:Int)⟩=some ⟨Yb (B++xL k xs),(k:Int)⟩
 | 0,_,_,_,h,_,_,_,_,_=>by omega
 | N+1,xs,k,B,h,hs,u,hsh,hk,hB=>by
  show Du N (Rp N) xs ⟨Yb B,(k:Int)⟩=_
  unfold Du
  have hN:4194304 < N:=by omega
  have key:∀ (l:List ZS) (j n:Nat) (B:List UInt8),xs.drop j=l->l.length < n->XN l->dL l<=dL xs->B.length+(xL k l).length<=4294967296 ->
    VR N (Rp N) xs n (Yb B) (k:Int) (j:Int)=some ⟨Yb (B++xL k l),(k:Int)⟩:=by
   intro l
   induction l with
   | nil =>
    intro j n B h C _ _ hL
    obtain ⟨n,rfl⟩:=pS n (by simp at C;omega)
    simp only [VR,Yr (XF h),cF,ZbU,xL,List.append_nil]
   | cons x l L =>
    intro j n B h C s G hL
    obtain ⟨n,rfl⟩:=pS n (by simp at C;omega)
    have ⟨a,c,d⟩:=XE h
    have M:=Zb c
    have p:=(Uj _).1 (VA u M)
    have I:=V5 M
    rw [V4] at I
    simp only [XN,ZaV] at s
    obtain ⟨⟨m,E⟩,F⟩:=s
    simp only [xL,lA] at hL
    simp only [dL] at G
    have g:∀ (o:Option Yk),o=some ⟨Yb (B++xI k x),(k:Int)⟩->(o.bind fun y=>VR N (Rp N) xs n y.Builder y.depth' (ZN ((j:Int)+1)))=some ⟨Yb (B++xL k (x::l)),(k:Int)⟩:=by
     intro o R
     rw [R,bS,YE (by omega:j < 4611686018427387904)]
     have:=L (j+1) n (B++xI k x) d (by simp at C;omega) F (by omega) (by simp only [lA];omega)
     rw [this];simp only [xL,aA]
    have q:∀ v w i,B.length+(xR k true v w i x.ZC).length<=4294967296->Rs N (Rp N) (str v) (str w) (str i) x.ZC ⟨Yb B,(k:Int)⟩=some ⟨Yb (B++xR k true v w i x.ZC),(k:Int)⟩:=by
     intro v w i hB
     refine ZnA hN (by omega) p.2.1 v w i (fun b t P D=>?_) B hB
     have z:=UF p.2.2 t
     have S:=Tk t
     have A:∀ {l:List (List ZS)},WG l->∀ {b},b∈l->XN b:=by
      intro l
      induction l with
      | nil=>intro _ b u;cases u
      | cons y l L =>
       intro H b u
       simp only [WG] at H
       rcases List.mem_cons.1 u with rfl | u
       ·exact H.1
       ·exact L H.2 u
     exact ZjO N b (k+1) P (by omega) z.1 z.2 (A E t) (by omega) D
    have f:=ZlR k x
    simp only [VR,Ym a,cT,Yj,c,bS]
    unfold X5 at m
    rcases m with m | m | m | m | m | m
    ·rw [m.1] at f ⊢
     rw [f] at hL
     have f:xI k x=YW k (Sg x.ZA x.To x.Zt):=f
     have hL:B.length+((YW k (Sg x.ZA x.To x.Zt)).length+(xL k l).length)<=4294967296:=hL
     have T:(WN [44,32] x.To).length<=4294967296:=by
      rw [Wx] at hL
      unfold Sg Ul at hL
      simp only [lA] at hL;omega
     show ((VQ N x.To (str [44,32])).bind _)=_
     rw [RM x.To [44,32] p.1 (by omega),bS]
     refine g _ ?_
     rw [f]
     exact S4 _ B _ k (by simp [YF,Yz,Sg,Ul,aA]) (by simp) (by omega) (by omega)
    ·rw [m.1] at f ⊢
     have U:=VO m.2.1
     have f:xI k x=(bif decide (x.ZB > 0) then xR k true (Uv x.ZA x.ZB) Vr TT x.ZC else xR k true (V3 x.ZA) Vr [] x.ZC):=f
     rw [f] at hL
     show (bif decide (x.ZB > 0) then _ else _)=_
     have v:=Um x.ZB
     unfold Ww at v
     cases O:decide (x.ZB > 0) with
     | true =>
      rw [O] at f hL
      simp only [cT] at hL f ⊢
      rw [QY (by unfold SJ;omega)]
      have e:str (Uv x.ZA x.ZB)=Yb ([99,104,111,105,99,101,32,97,116,32]++bs x.ZA++[32,119,105,116,104,105,110,32]++bs (UM x.ZB)):=rfl
      simp (disch:=(simp only [Yz,YF,lA,Zf,List.length_nil];omega)) only [XD,bS,Yz,YF]
      rw [<- e]
      refine g _ ?_
      rw [f]
      exact q (Uv x.ZA x.ZB) Vr TT (by omega)
     | false =>
      rw [O] at f hL
      simp only [cF] at hL f ⊢
      have e:str (V3 x.ZA)=Yb ([99,104,111,105,99,101,32,97,116,32]++bs x.ZA):=rfl
      simp (disch:=(simp only [Yz,YF,lA,Zf,List.length_nil];omega)) only [XD,bS,Yz,YF]
      rw [<- e]
      refine g _ ?_
      rw [f]
      exact q (V3 x.ZA) Vr [] (by omega)
    ·rw [m.1] at f ⊢
     have U:=S8 m.2.2.2.1
     have f:xI k x=xR k true (Tp x.Zt) [] [] x.ZC:=f
     rw [f] at hL
     show ((Yp (str [108,111,111,112,32]) x.Zt).bind _)=_
     have e:str (Tp x.Zt)=Yb ([108,111,111,112,32]++bs x.Zt):=rfl
     simp (disch:=(simp only [Yz,YF,lA,Zf,List.length_nil];omega)) only [XD,bS,Yz,YF]
     rw [<- e]
     refine g _ ?_
     rw [f]
     exact q (Tp x.Zt) [] [] (by omega)
    ·rw [m.1] at f ⊢
     have f:xI k x=YW k (QH x.Zt):=f
     rw [f] at hL
     refine g _ ?_
     rw [f]
     exact S4 _ B _ k (by simp [YF,QH,aA]) (by simp) (by omega) (by omega)
    ·rw [m.1] at f ⊢
     have f:xI k x=xR k true RV RE [] x.ZC:=f
     rw [f] at hL
     refine g _ ?_
     rw [f]
     exact q RV RE [] (by omega)
    ·rw [m.1] at f ⊢
     have f:xI k x=YW k (SR x.Zt x.To x.As):=f
     rw [f] at hL
     have T:(WN [44,32] x.To).length<=4294967296:=by
      rw [Wx] at hL
      unfold SR Ul at hL
      simp only [lA] at hL;omega
     show ((VQ N x.To (str [44,32])).bind _)=_
     rw [RM x.To [44,32] p.1 (by omega),bS]
     refine g _ ?_
     rw [f]
     exact S4 _ B _ k (by simp [YF,Yz,SR,Ul,aA]) (by simp) (by omega) (by omega)
  exact key xs 0 N B rfl (by omega) hsh (Zo _) hB
end Gp
end
section
namespace Gp
open Go Go.Kx Gx
variable {N:Nat}
theorem Zru (hN:4194304 < N) {f:ZY->ByteArray->Option ByteArray} {b:List ZY} {k:Nat} (u:k<=1000) (v:b.length<=4194304)
  (g:∀ x∈b,(xI (k+1) (oI x)).length<=4294967296->∃ y,f x (Yb (Xx (k+1)))=some (Yb y)/\YW (k+1) y=xI (k+1) (oI x)) (hL:(xL (k+1) (oL b)).length<=4294967296) :
  Rt N f b (Yb (Xx k))=some (Yb ([123,10]++xL (k+1) (oL b)++Xx k++[125])):=by
 unfold Rt
 have key:∀ (l:List ZY) (j n:Nat) (A:List UInt8),b.drop j=l->l.length < n->A.length+(xL (k+1) (oL l)).length<=8589934592->(xL (k+1) (oL l)).length<=4294967296 ->
   P7 f b (Yb (Xx k)) n (Yb A) (j:Int)=some (Yb (A++xL (k+1) (oL l)++Xx k++[125])):=by
  intro l
  induction l with
  | nil =>
   intro j n A h e i o
   obtain ⟨n,rfl⟩:=pS n (by simp at e;omega)
   simp only [P7,Yr (XF h),cF,ZcE,oL,xL,List.append_nil]
   simp only [oL,xL,List.length_nil] at i
   simp (disch:=(simp only [Yz,YF,lA,Zf,List.length_nil,Wm];omega)) only [XD,bS,Yz,YF]
  | cons x l t =>
   intro j n A h e i o
   obtain ⟨n,rfl⟩:=pS n (by simp at e;omega)
   have ⟨a,c,d⟩:=XE h
   simp only [oL,xL,lA] at i o
   have ⟨y,p,m⟩:=g x (Zb c) (by omega)
   have w:y.length+(k+2)=(xI (k+1) (oI x)).length:=by rw [<- m,Wx];omega
   have q:Yp (Yb (Xx k)) (str [9])=some (Yb (Xx (k+1))):=by rw [Zsy];exact TP (by simp [Wm];omega)
   simp only [P7,Ym a,cT,Yj,c,bS,YE (show j < 4611686018427387904 by omega),q,p]
   simp (disch:=(simp only [Yz,YF,lA,Zf,List.length_nil,Wm];omega)) only [XD,bS,Yz,YF]
   have s:Xx (k+1)++y++[10]=xI (k+1) (oI x):=by rw [<- m];simp [YW]
   rw [s,t (j+1) n _ d (by simp at e;omega) (by simp only [lA];omega) (by omega)]
   simp only [oL,xL,aA]
 have:=key b 0 N [123,10] rfl (by omega) (by simp only [Zf,List.length_nil];omega) hL
 exact this
theorem ZaN (hN:4194304 < N) {t:ZY->ByteArray->Option ByteArray} {x:ZY} {k:Nat} (hk:k<=1000) (B:x.ZC.length<=4194304) (o:0 < x.ZC.length) (g w f sep:List UInt8) (hw:w.length<=10) (O:f.length<=10)
  (p:1 < x.ZC.length->sep=[32]++w++[32]) (P:x.ZB > 0->f=TT) (R:¬ x.ZB > 0->f=[])
  (C:∀ b∈x.ZC,(xL (k+1) (oL b)).length<=4294967296->Rt N t b (Yb (Xx k))=some (Yb ([123,10]++xL (k+1) (oL b)++Xx k++[125])))
  (hL:(xR k true g w f (YP x.ZC)).length<=4294967296) :
  ∃ y,Qg N t x (Yb (Xx k)) (Yb (g++[32])) (Yb sep)=some (Yb y)/\YW k y=xR k true g w f (YP x.ZC):=by
 unfold Qg
 have V:sep.length<=12\/¬ 1 < x.ZC.length:=by
  by_cases h:1 < x.ZC.length
  ·left;rw [p h];simp;omega
  ·exact Or.inr h
 have key:∀ (l:List (List ZY)) (j n:Nat) (A:List UInt8),x.ZC.drop (j+1)=l->l.length < n->A.length+(xR k false g w f (YP l)).length<=8589934592->(xR k false g w f (YP l)).length<=4294967296 ->
   ∃ T,Uc N t x (Yb (Xx k)) (Yb sep) n (Yb A) ((j+1:Nat):Int)=some (Yb (A++T))/\Xx k++([125]++(T++[10]))=xR k false g w f (YP l):=by
  intro l
  induction l with
  | nil =>
   intro j n A h I Z hl
   obtain ⟨n,rfl⟩:=pS n (by simp at I;omega)
   refine ⟨[],?_,by simp [YP,xR,YW]⟩
   simp only [Uc,Yr (XF h),cF,Zce,List.append_nil]
  | cons b l ih =>
   intro j n A h I Z hl
   obtain ⟨n,rfl⟩:=pS n (by simp at I;omega)
   have ⟨a,c,d⟩:=XE h
   have q:x.ZC.length=j+2+l.length:=by
    have:=congrArg List.length d
    rw [List.length_drop] at this;omega
   have F:(YP l).isEmpty=l.isEmpty:=by cases l<;>simp [YP]
   have G:=p (by omega)
   have hsl:sep.length<=12:=by rcases V with h | h<;>omega
   simp only [YP,xR,lA,Wx] at Z hl
   have L:=C b (Zb c) (by omega)
   have e0:V8 false g w f (YP l).isEmpty=[125,32]++(bif (l.isEmpty && !f.isEmpty) then f else w)++[32,123]:=by rw [F];rfl
   have rest:∀ (S H:List UInt8),H=A++(S++([123,10]++xL (k+1) (oL b)++Xx k++[125]))->S.length<=14->S=[32]++(bif (l.isEmpty && !f.isEmpty) then f else w)++[32] ->
     ∃ T,Uc N t x (Yb (Xx k)) (Yb sep) n (Yb H) (ZN (((j+1:Nat):Int)+1))=some (Yb (A++T))/\Xx k++([125]++(T++[10]))=xR k false g w f (YP (b::l)):=by
    intro S H D hS E
    rw [YE (by omega)]
    have W:=congrArg List.length E
    have he:=congrArg List.length e0
    simp only [lA,Zf,List.length_nil] at W he
    have ⟨T,U,t2⟩:=ih (j+1) n H d (by simp at I;omega) (by rw [D];simp only [lA,Zf,List.length_nil,Wm];omega) (by omega)
    refine ⟨S++([123,10]++xL (k+1) (oL b)++Xx k++[125])++T,by rw [U,D];simp only [aA],?_⟩
    simp only [YP,xR,e0,<- t2,E,YW,aA,List.cons_append,List.nil_append]
   simp only [Uc,Ym a,cT]
   rw [dT (by omega:((j+1:Nat):Int) > 0),cT]
   have s:(bif (l.isEmpty && !f.isEmpty) then f else w)=w->Rq N t x (Yb (Xx k)) (Yb sep) (Yb A) ((j+1:Nat):Int) (Uc N t x (Yb (Xx k)) (Yb sep) n) false=Uc N t x (Yb (Xx k)) (Yb sep) n (Yb (A++(sep++([123,10]++xL (k+1) (oL b)++Xx k++[125])))) (ZN (((j+1:Nat):Int)+1)):=by
    intro _
    unfold Rq
    rw [dT (by omega:((j+1:Nat):Int) > 0)]
    simp only [cF,cT,Yj,c,bS,L]
    simp (disch:=(simp only [Yz,YF,lA,Zf,List.length_nil,Wm];omega)) only [XD,bS,Yz,YF,aA]
   by_cases M:x.ZB > 0
   ·rw [dT M,cT]
    have u:=P M
    cases l with
    | nil =>
     rw [show (((j+1:Nat):Int)==ZN ((x.ZC.length:Int)-1))=true by rw [Xn (by omega) (by omega)];simp at q ⊢;omega]
     have e:(bif (([]:List (List ZY)).isEmpty && !f.isEmpty) then f else w)=TT:=by rw [u];rfl
     unfold Rq
     simp only [cT,Yj,c,bS,L]
     simp (disch:=(simp only [Yz,YF,lA,Zf,List.length_nil,Wm];omega)) only [XD,bS,Yz,YF]
     exact rest [32,101,108,115,101,32] _ (by simp only [aA]) (by simp) (by rw [e];rfl)
    | cons z zs =>
     rw [show (((j+1:Nat):Int)==ZN ((x.ZC.length:Int)-1))=false by rw [Xn (by omega) (by omega)];simp at q ⊢;omega]
     rw [s rfl]
     exact rest sep _ rfl (by omega) G
   ·rw [dF M,cF]
    have u:=R M
    have e:(bif (l.isEmpty && !f.isEmpty) then f else w)=w:=by rw [u];simp
    rw [s e]
    exact rest sep _ rfl (by omega) (by rw [e];exact G)
 obtain ⟨b,v,i⟩:∃ b v,x.ZC=b::v:=by
  cases h:x.ZC with
  | nil=>rw [h] at o;simp at o
  | cons b v=>exact ⟨b,v,rfl⟩
 obtain ⟨n,rfl⟩:∃ m,N=m+1:=⟨N-1,by omega⟩
 have h0:x.ZC[0]? = some b:=by rw [i];rfl
 have X:YP x.ZC=oL b::YP v:=by rw [i];rfl
 rw [X] at hL ⊢
 simp only [xR,lA,Wx,V8,cT,Zf,List.length_nil] at hL
 have L:=C b (Zb h0) (by omega)
 have Y:decide ((0:Int) < (x.ZC.length:Int))=true:=dT (by omega)
 have ⟨T,U,t2⟩:=key v 0 n (g++[32]++([123,10]++xL (k+1) (oL b)++Xx k++[125])) (by rw [i];rfl) (by rw [i] at B;simp at B;omega) (by simp only [lA,Zf,List.length_nil,Wm];omega) (by omega)
 refine ⟨g++[32]++([123,10]++xL (k+1) (oL b)++Xx k++[125])++T,?_,?_⟩
 ·rw [<- U]
  simp only [Uc,Y,cT]
  rw [dF (by omega:¬ (0:Int) > 0),cF]
  unfold Rq
  rw [dF (by omega:¬ (0:Int) > 0)]
  simp only [cF]
  rw [show ZW x.ZC (0:Int)=some b from by rw [show (0:Int)=((0:Nat):Int) from rfl,Yj,h0]]
  simp only [bS,L]
  simp (disch:=(simp only [Yz,YF,lA,Zf,List.length_nil,Wm];omega)) only [XD,bS,Yz,YF]
  rfl
 ·simp only [xR,V8,cT,<- t2,YW,aA,List.cons_append,List.nil_append]
theorem Zlj:∀ {l:List (List ZS)} {b},WG l->b∈l->XN b
 | y::l,b,hs,h=>by
  simp only [WG] at hs
  rcases List.mem_cons.1 h with rfl | h
  ·exact hs.1
  ·exact Zlj hs.2 h
theorem ZfE:∀ {l:List ZS} {b},XN l->b∈l->Rf b
 | y::l,b,hs,h=>by
  simp only [XN] at hs
  rcases List.mem_cons.1 h with rfl | h
  ·exact hs.1
  ·exact ZfE hs.2 h
theorem Zk1:∀ (N:Nat) (x:ZY) (k:Nat),4194306+dI (oI x)<=N->bI (oI x)->Rf (oI x)->k+dI (oI x)<=1000->(xI k (oI x)).length<=4294967296 ->
  ∃ y,DG N x (Yb (Xx k))=some (Yb y)/\YW k y=xI k (oI x)
 | 0,_,_,h,_,_,_,_=>by omega
 | N+1,x,k,h,hb,hs,hk,hL=>by
  show ∃ y,DH N (DG N) x (Yb (Xx k))=some (Yb y)/\_
  have hN:4194304 < N:=by omega
  rw [Uj,X4,S6,Gv] at hb
  rw [V4,X4] at h hk
  rw [ZaV,X4] at hs
  have ⟨c,q⟩:=hs
  have n:(oI x).ZC=YP x.ZC:=X4 x
  have t:(oI x).ZC.length=x.ZC.length:=by rw [n,S6]
  have v:(oI x).Zq=x.Zq:=by rw [Wl]
  have w:(oI x).ZA=x.ZA:=by rw [Wl]
  have A:(oI x).To=x.To:=by rw [Wl]
  have B:(oI x).Zt=x.Zt:=by rw [Wl]
  have C:(oI x).As=x.As:=by rw [Wl]
  have D:(oI x).ZB=x.ZB:=by rw [Wl]
  have a:=ZlR k (oI x)
  unfold X5 at c
  rw [v,w,A,B,C,D,t] at c
  rw [v,w,A,B,C,D,n] at a
  have d:∀ b∈x.ZC,(xL (k+1) (oL b)).length<=4294967296->Rt N (DG N) b (Yb (Xx k))=some (Yb ([123,10]++xL (k+1) (oL b)++Xx k++[125])):=by
   intro b j s
   have m:=UF hb.2.2 (Vo j)
   have F:=Tk (Vo j)
   rw [Sd] at m
   have u:=Zlj q (Vo j)
   refine Zru hN (by omega) m.1 (fun z o p=>?_) s
   have G:=V5 (WE o)
   exact Zk1 N z (k+1) (by omega) (VA m.2 (WE o)) (ZfE u (WE o)) (by omega) p
  unfold DH
  rcases c with c | c | c | c | c | c
  ·rw [c.1] at a ⊢
   have a:xI k (oI x)=YW k (Sg x.ZA x.To x.Zt):=a
   rw [a] at hL
   rw [Wx] at hL
   unfold Sg Ul at hL
   simp only [lA,Zf,List.length_nil] at hL
   refine ⟨_,?_,a.symm⟩
   show ((Yp x.ZA _).bind _)=_
   rw [ZeY hN x.To hb.1 (by omega)]
   simp (disch:=(simp only [Yz,YF,lA,Zf,List.length_nil,Wm];omega)) only [XD,bS,Yz,YF]
   rfl
  ·rw [c.1] at a ⊢
   have E:=VO c.2.1
   have H:=Um x.ZB
   have a:xI k (oI x)=(bif decide (x.ZB > 0) then xR k true (Uv x.ZA x.ZB) Vr TT (YP x.ZC) else xR k true (V3 x.ZA) Vr [] (YP x.ZC)):=a
   rw [a] at hL
   show ∃ y,((Yp (str [99,104,111,105,99,101,32,97,116,32]) x.ZA).bind _)=_/\_
   by_cases f:x.ZB > 0
   ·rw [dT f] at a hL ⊢
    simp only [cT] at a hL ⊢
    rw [Zaf hN (by unfold SJ;omega)]
    have ⟨y,g,i⟩:=ZaN (sep:=[32,111,114,32]) hN (by omega) hb.2.1 (by omega) (Uv x.ZA x.ZB) Vr TT (by simp) (by simp) (fun _=>rfl) (fun _=>rfl) (fun h=>absurd f h) d hL
    refine ⟨y,?_,by rw [a];exact i⟩
    rw [<- g]
    unfold Ww at H
    simp (disch:=(simp only [Yz,YF,lA,Zf,List.length_nil,Wm];omega)) only [XD,bS,Yz,YF]
    have e:[99,104,111,105,99,101,32,97,116,32]++bs x.ZA++[32]++([119,105,116,104,105,110,32]++bs (UM x.ZB)++[32])=Uv x.ZA x.ZB++[32]:=by simp [Uv,V3,Ww]
    rw [e];rfl
   ·rw [dF f] at a hL ⊢
    simp only [cF] at a hL ⊢
    have ⟨y,g,i⟩:=ZaN (sep:=[32,111,114,32]) hN (by omega) hb.2.1 (by omega) (V3 x.ZA) Vr [] (by simp) (by simp) (fun _=>rfl) (fun h=>absurd h f) (fun _=>rfl) d hL
    refine ⟨y,?_,by rw [a];exact i⟩
    rw [<- g]
    simp (disch:=(simp only [Yz,YF,lA,Zf,List.length_nil,Wm];omega)) only [XD,bS,Yz,YF]
    rfl
  ·rw [c.1] at a ⊢
   have E:=S8 c.2.2.2.1
   have f:¬ x.ZB > 0:=by omega
   have a:xI k (oI x)=xR k true (Tp x.Zt) [] [] (YP x.ZC):=a
   rw [a] at hL
   show ∃ y,((Yp (str [108,111,111,112,32]) x.Zt).bind _)=_/\_
   have ⟨y,g,i⟩:=ZaN (sep:=[]) hN (by omega) hb.2.1 (by omega) (Tp x.Zt) [] [] (by simp) (by simp) (fun h=>by omega) (fun h=>absurd h f) (fun _=>rfl) d hL
   refine ⟨y,?_,by rw [a];exact i⟩
   rw [<- g]
   simp (disch:=(simp only [Yz,YF,lA,Zf,List.length_nil,Wm];omega)) only [XD,bS,Yz,YF]
   rfl
  ·rw [c.1] at a ⊢
   have E:=S8 c.2.2.2.1
   have a:xI k (oI x)=YW k (QH x.Zt):=a
   refine ⟨_,?_,a.symm⟩
   show ((Yp (str [97,103,97,105,110,32]) x.Zt).bind _)=_
   simp (disch:=(simp only [Yz,YF,lA,Zf,List.length_nil,Wm];omega)) only [XD,bS,Yz,YF]
   rfl
  ·rw [c.1] at a ⊢
   have f:¬ x.ZB > 0:=by omega
   have a:xI k (oI x)=xR k true RV RE [] (YP x.ZC):=a
   rw [a] at hL
   have ⟨y,g,i⟩:=ZaN (sep:=[32,97,110,100,32]) hN (by omega) hb.2.1 (by omega) RV RE [] (by simp) (by simp) (fun h=>rfl) (fun h=>absurd h f) (fun _=>rfl) d hL
   refine ⟨y,?_,by rw [a];exact i⟩
   rw [<- g]
   rfl
  ·rw [c.1] at a ⊢
   have a:xI k (oI x)=YW k (SR x.Zt x.To x.As):=a
   rw [a] at hL
   rw [Wx] at hL
   unfold SR Ul at hL
   simp only [lA,Zf,List.length_nil] at hL
   refine ⟨_,?_,a.symm⟩
   show ((Yp (str [99,97,108,108,32]) x.Zt).bind _)=_
   rw [ZeY hN x.To hb.1 (by omega)]
   simp (disch:=(simp only [Yz,YF,lA,Zf,List.length_nil,Wm];omega)) only [XD,bS,Yz,YF]
   rfl
end Gp
end
section
namespace Gp
open Go Go.Kx Gx
theorem ZaC {α γ:Type} (xs:List α) (F:Nat->ByteArray->Int->γ) (b:ByteArray->γ) (g:α->List UInt8) (L:Nat) (o:xs.length<=4194304)
  (i:∀ (n k:Nat) x A,k < 4194304->xs[k]? = some x->A.length+(g x).length<=L->F (n+1) (Yb A) (k:Int)=F n (Yb (A++g x)) ((k+1:Nat):Int))
  (j:∀ (n k:Nat) A,xs.length<=k->k<=xs.length->A.length<=L->F (n+1) (Yb A) (k:Int)=b (Yb A)):∀ (l:List α) (k n:Nat) (A:List UInt8),k<=xs.length->xs.drop k=l->l.length < n->A.length+((l.map g).flatten).length<=L->F n (Yb A) (k:Int)=b (Yb (A++(l.map g).flatten)):=by
 intro l
 induction l with
 | nil =>
  intro k n A f h e hL
  obtain ⟨n,rfl⟩:=pS n (by simp at e;omega)
  rw [j n k A (XF h) f (by omega)];simp
 | cons x l m =>
  intro k n A f h e hL
  obtain ⟨n,rfl⟩:=pS n (by simp at e;omega)
  have ⟨a,c,d⟩:=XE h
  rw [List.map_cons,List.flatten_cons,lA] at hL
  rw [i n k x A (by omega) c (by omega),m (k+1) n _ (by omega) d (by simp at e;omega) (by rw [lA];omega)]
  simp only [List.map_cons,List.flatten_cons,aA]
def W6 (p:ZT):List UInt8:=[112,114,111,116,111,99,111,108,32]++bs p.Zt++[40]++Ul p.ZD++[41,32,123]
def W5 (m:Z2):List UInt8:=YW 1 (Tr m)
def VL (p:ZT):List UInt8:=YW 0 (W6 p)++(p.ZE.map W5).flatten++xL 1 p.ZF++YW 0 [125]
def Sk (l:List ZT):List UInt8:=(l.map VL).flatten
def Tf (p:ZT):Prop:=Xq p.Zt=true/\QG p.ZD 6/\p.ZE.length<=40/\XN p.ZF/\dL p.ZF<=10/\cL p.ZF<=300/\∀ m∈p.ZE,W0 m
theorem QM {l:List ByteArray} {k:Nat} (h:QG l k) (c:k<=6):(Ul l).length<=108:=by
 have:=ZeQ [44,32] 16 (l.map bs) (fun x a=>by obtain ⟨w,b,rfl⟩:=List.mem_map.1 a;exact VO (h.2.2 w b))
 simp only [List.length_map,Zf,List.length_nil] at this
 have:=h.2.1
 unfold Ul WN
 omega
theorem Zpd (first:Bool) (b w a:List UInt8) (e:Bool) (c:b.length<=70) (d:w.length<=10) (f:a.length<=10):(V8 first b w a e).length<=72:=by
 unfold V8
 cases first<;>cases (e && !a.isEmpty)<;>simp only [cT,cF,lA,Zf,List.length_nil]<;>omega
mutual
theorem ZsM:∀ (x:ZS) (k:Nat),Rf x->k+dI x<=20->(xI k x).length<=1000 * cI x
 | ⟨kd,f,t,n,a,x,b⟩,k,hs,hk=>by
  simp only [Rf,dI,cI] at hs hk ⊢
  have ⟨c,m⟩:=hs
  have j:∀ h w d,h.length<=70->w.length<=10->d.length<=10->(xR k true h w d b).length<=100 * (b.length+1)+1000 * Xt b:=fun h w d g i e=>ZlS b k true h w d m (by omega) g i e
  unfold X5 at c
  simp only at c
  rcases c with c | c | c | c | c | c
  ·rw [c.1]
   have g:=VO c.2.1
   have i:=QM c.2.2.1 (by omega)
   have e:=S8 c.2.2.2.1
   show (YW k (Sg f t n)).length<=_
   rw [Wx];unfold Sg
   simp only [lA,Zf,List.length_nil];omega
  ·rw [c.1]
   have g:=VO c.2.1
   have i:=Um x
   show (bif decide (x > 0) then xR k true (Uv f x) Vr TT b else xR k true (V3 f) Vr [] b).length<=_
   have e:(Uv f x).length<=70:=by unfold Uv V3;simp only [lA,Zf,List.length_nil];omega
   have o:(V3 f).length<=70:=by unfold V3;simp only [lA,Zf,List.length_nil];omega
   have p:=j (Uv f x) Vr TT e (by simp) (by simp)
   have s:=j (V3 f) Vr [] o (by simp) (by simp)
   cases decide (x > 0)<;>simp only [cT,cF]<;>omega
  ·rw [c.1]
   have g:=S8 c.2.2.2.1
   show (xR k true (Tp n) [] [] b).length<=_
   have o:(Tp n).length<=70:=by unfold Tp;simp only [lA,Zf,List.length_nil];omega
   have q:=j (Tp n) [] [] o (by simp) (by simp)
   omega
  ·rw [c.1]
   have e:=S8 c.2.2.2.1
   show (YW k (QH n)).length<=_
   rw [Wx];unfold QH
   simp only [lA,Zf,List.length_nil];omega
  ·rw [c.1]
   show (xR k true RV RE [] b).length<=_
   have q:=j RV RE [] (by simp) (by simp) (by simp)
   omega
  ·rw [c.1]
   have g:=VO c.2.2.2.1
   have i:=QM c.2.2.1 (by omega)
   have e:=VO c.2.2.2.2.1
   show (YW k (SR n t a)).length<=_
   rw [Wx];unfold SR
   simp only [lA,Zf,List.length_nil];omega
theorem GP:∀ (l:List ZS) (k:Nat),XN l->k+dL l<=20->(xL k l).length<=1000 * cL l
 | [],k,_,_=>by simp [xL]
 | x::l,k,hs,hk=>by
  simp only [XN,dL] at hs hk
  have a:=ZsM x k hs.1 (by omega)
  have b:=GP l k hs.2 (by omega)
  simp only [xL,cL,lA];omega
theorem ZlS:∀ (l:List (List ZS)) (k:Nat) (first:Bool) (c w a:List UInt8),WG l->k+WT l+1<=20->c.length<=70->w.length<=10->a.length<=10->(xR k first c w a l).length<=100 * (l.length+1)+1000 * Xt l
 | [],k,first,c,w,a,_,hk,_,_,_=>by simp only [xR,Wx,Zf,List.length_nil];omega
 | b::l,k,first,c,w,a,hs,hk,h1,h2,h3=>by
  simp only [WG,WT] at hs hk
  have d:=GP b (k+1) hs.1 (by omega)
  have e:=ZlS l k false c w a hs.2 (by omega) h1 h2 h3
  have f:=Zpd first c w a l.isEmpty h1 h2 h3
  simp only [xR,Xt,lA,Wx,Zf];omega
end
theorem Zaq {α:Type} (g:α->List UInt8) (M:Nat):∀ l:List α,(∀ x∈l,(g x).length<=M)->((l.map g).flatten).length<=l.length * M
 | [],_=>by simp
 | x::l,h=>by
  have b:=h x (Zj ..)
  have c:=Zaq g M l fun z a=>h z (Zi _ a)
  simp only [List.map_cons,List.flatten_cons,lA,Zf,Nat.add_mul,Nat.one_mul];omega
theorem ZkI {p:ZT} (h:Tf p):(VL p).length<=1000000:=by
 have ⟨b,c,d,e,g,i,f⟩:=h
 have j:=VO b
 have k:=QM c (Zo _)
 have n:=Zaq W5 3010 p.ZE (fun m a=>by have:=Ze6 (f m a);unfold W5;rw [Wx];omega)
 have o:=GP p.ZF 1 e (by omega)
 have q:p.ZE.length * 3010<=40 * 3010:=Nat.mul_le_mul_right _ d
 unfold VL W6
 simp only [lA,Wx,Zf,List.length_nil];omega
theorem Zlu {l:List ZT} (c:l.length<=4194304) (h:∀ p∈l,Tf p) (a:l.length<=10):(Sk l).length<=10000000:=by
 have:=Zaq VL 1000000 l fun p b=>ZkI (h p b)
 unfold Sk
 have:l.length * 1000000<=10 * 1000000:=Nat.mul_le_mul_right _ a
 omega
end Gp
end
section
namespace Gp
open Go Go.Kx Gx
variable {N:Nat}
structure Pk (N:Nat) (p:ZT):Prop where
 v:Tf p
 l:p.ZF.length<=4194304
 b:bL p.ZF
theorem Pk.r {p:ZT} (h:Pk N p):p.ZD.length<=6:=h.v.2.1.2.1
theorem Zoi (A:List UInt8) (a:0 < A.length) (b:A.length<=4294967296):HP N ⟨Yb A,(0:Int)⟩=some (Yb A):=by
 unfold HP
 have e:(Yb A).size=A.length:=by rw [Wa,Yz]
 have g:M4 (Yb A)=some ():=by
  unfold M4
  rw [e,show Nat.beq A.length 0=false by cases h:A.length with | zero=>omega | succ n=>rfl,Nat.ble_eq_true_of_le (show A.length<=lim by show A.length<=4294967296;omega)]
  rfl
 rw [g];rfl
theorem ZkJ (hN:4194320 < N) {p:ZT} (h:Pk N p) (A:List UInt8) (c:A.length<=100000000) :
  (Rp N p.ZF ⟨Yb A,(1:Int)⟩).bind (fun y=>WR N ([(str [125])]:List ByteArray) (⟨y.Builder,(ZN (y.depth'-(1:Int)))⟩:Yk))=some ⟨Yb (A++xL 1 p.ZF++YW 0 [125]),(0:Int)⟩:=by
 have ⟨d,e,f,a,g,i,j⟩:=h.v
 have k:=GP p.ZF 1 a (by omega)
 rw [show (1:Int)=((1:Nat):Int) from rfl,ZjO N p.ZF 1 A (by omega) h.l h.b a (by omega) (by omega),bS]
 show WR N [str [125]] ⟨Yb (A++xL 1 p.ZF),ZN (((1:Nat):Int)-((1:Nat):Int))⟩=_
 rw [show ZN (((1:Nat):Int)-((1:Nat):Int))=((0:Nat):Int) from rfl]
 rw [S4 [str [125]] _ [125] 0 (by simp [YF]) (by simp) (by omega) (by simp only [lA,Wx,Zf,List.length_nil];omega)]
 rfl
theorem ZaH {p:ZT} (h:Tf p):((p.ZE.map W5).flatten).length<=120400:=by
 have b:=Zaq W5 3010 p.ZE (fun m a=>by have:=Ze6 (h.2.2.2.2.2.2 m a);unfold W5;rw [Wx];omega)
 have c:p.ZE.length * 3010<=40 * 3010:=Nat.mul_le_mul_right _ h.2.2.1
 omega
theorem ZjC (p:ZT):(([(str [112,114,111,116,111,99,111,108,32]),p.Zt,(str [40]),Yb (WN [44,32] p.ZD),(str [41,32,123])]:List ByteArray).map bs).flatten=W6 p:=by
 simp [YF,Yz,W6,Ul,aA]
theorem Zsm (hN:4194320 < N) (l:List ZT) (u:l.length<=10) (h:∀ p∈l,Pk N p):BH N l=some (Yb (Sk l)):=by
 have O:=Zlu (l:=l) (by omega) (fun p f=>(h p f).v) u
 unfold BH
 cases d:l with
 | nil=>rfl
 | cons p r =>
  rw [<- d]
  have z:decide ((0:Int) < (l.length:Int))=true:=dT (by rw [d];simp)
  have G:l[0]? = some p:=by rw [d];rfl
  have f:=h p (Zb G)
  have e:Sk l=VL p++(r.map VL).flatten:=by rw [d];rfl
  have P:=ZkI f.v
  have B:=ZaH f.v
  have hL:=O
  rw [e,lA] at hL
  have Y:(YW 0 (W6 p)).length<=200:=by
   have:=VO f.v.1
   have:=QM f.v.2.1 (Zo _)
   unfold W6;simp only [lA,Wx,Zf,List.length_nil];omega
  have H:∀ q:ZT,Tf q->(WN [44,32] q.ZD).length<=108:=fun q i=>QM i.2.1 (Zo _)
  rw [z,cT,show ZW l (0:Int)=some p by rw [show (0:Int)=((0:Nat):Int) from rfl,Yj,G]]
  simp only [bS]
  rw [RM p.ZD [44,32] (by have:=f.r;omega) (by have:=H p f.v;omega),bS,Zp2 _ _ (ZjC p) (by simp) (by omega)]
  simp only [bS]
  rw [show ZN ((0:Int)+1)=(1:Int) from rfl]
  -- the first protocol's messages
  have s:∀ (q:ZT),Pk N q->∀ (F:Nat->ByteArray->Int->Option ByteArray) (g:ByteArray->Option ByteArray) (A:List UInt8),A.length<=50000000 ->
    (∀ (n k:Nat) (m:Z2) (A:List UInt8),q.ZE[k]? = some m->PJ N m ⟨Yb A,(1:Int)⟩=some ⟨Yb (A++W5 m),(1:Int)⟩->k < 4194304->F (n+1) (Yb A) (k:Int)=F n (Yb (A++W5 m)) ((k+1:Nat):Int)) ->
    (∀ (n k:Nat) (A:List UInt8),q.ZE.length<=k->F (n+1) (Yb A) (k:Int)=g (Yb A))->F N (Yb A) (0:Int)=g (Yb (A++(q.ZE.map W5).flatten)):=by
   intro q i F g A w L M
   have R:=i.v.2.2.1
   have B:=ZaH i.v
   exact ZaC q.ZE F g W5 100000000 (by omega) (fun n k m A t o w=>L n k m A o (by
    have C:=i.v.2.2.2.2.2.2 m (Zb o)
    exact Zqk (by omega) C A 1 (by omega) (by show A.length+(W5 m).length<=_;omega)) t) (fun n k A I _ X=>M n k A I) q.ZE 0 N A (by omega) rfl (by omega) (by omega)
  rw [s p f (fun n b k=>MB N l p n b (1:Int) k) (fun b=>BJ N l p b (1:Int)) (YW 0 (W6 p)) (by omega) (fun n k m A o a t=>?_) (fun n k A t=>?_)]
  ·unfold BJ
   have D:=ZkJ hN f (YW 0 (W6 p)++(p.ZE.map W5).flatten) (by simp only [lA];omega)
   rw [<- Option.bind_assoc] 
   rw [D,bS]
   show U9 N l N (Yb _) (0:Int) (ZN ((0:Int)+1))=_
   rw [show ZN ((0:Int)+1)=((1:Nat):Int) from rfl]
   have S:YW 0 (W6 p)++(p.ZE.map W5).flatten++xL 1 p.ZF++YW 0 [125]=VL p:=rfl
   rw [S]
   rw [ZaC l (fun n b k=>U9 N l n b (0:Int) k) (fun b=>(HP N (⟨b,0⟩:Yk)).bind fun x=>some x) VL 10000000 (by omega) (fun n k q A t i w=>?_) (fun n k A t _ w=>?_) r 1 N (VL p) (by rw [d];simp) (by rw [d];rfl) (by rw [d] at u;simp at u;omega) (by omega)]
   ·rw [<- e,Zoi _ (by rw [e];unfold VL W6;simp only [lA,Wx,Zf];omega) (by omega)]
    rfl
   ·have c:=h q (Zb i)
    have T:=c.r
    have U:=H q c.v
    have V:=ZaH c.v
    have W:(YW 0 (W6 q)).length<=200:=by
     have:=VO c.v.1
     have:=QM c.v.2.1 (Zo _)
     unfold W6;simp only [lA,Wx,Zf,List.length_nil];omega
    simp only [U9,Ym (Yf i),cT,Yj,i,bS]
    rw [RM q.ZD [44,32] (by omega) (by omega),bS]
    have a:=S4 (N:=N) _ A _ 0 (ZjC q) (by simp) (by omega) (by omega)
    rw [show (((0:Nat):Int))=(0:Int) from rfl] at a
    rw [a]
    simp only [bS]
    rw [show ZN ((0:Int)+1)=(1:Int) from rfl]
    rw [s q c (fun y b j=>MA N (k:Int) (U9 N l n) q y b (1:Int) j) (fun b=>BI N (k:Int) (U9 N l n) q b (1:Int)) (A++YW 0 (W6 q)) (by simp only [lA];omega) (fun y j m A o a E=>?_) (fun y j A E=>?_)]
    ·unfold BI
     have D:=ZkJ hN c (A++YW 0 (W6 q)++(q.ZE.map W5).flatten) (by simp only [lA];omega)
     rw [<- Option.bind_assoc]
     rw [D,bS,YE (by omega)]
     simp only [VL,aA]
    ·simp only [MA,Ym (Yf o),cT,Yj,o,bS,a,YE (show j < 4611686018427387904 by omega)]
    ·simp only [MA,Yr E,cF]
   ·simp only [U9,Yr t,cF]
  ·simp only [MB,Ym (Yf o),cT,Yj,o,bS,a,YE (show k < 4611686018427387904 by omega)]
  ·simp only [MB,Yr t,cF]
end Gp
end
section
namespace Gp
open Go Go.Kx Gx
variable {N:Nat}
theorem Zj3 {α γ:Type} (xs:List α) (F:Nat->ByteArray->Int->γ) (c:ByteArray->γ) (g:α->List UInt8) (L:Nat) (d:xs.length<=4194304)
  (e:∀ (n k:Nat) x A,k < 4194304->xs[k]? = some x->A.length+(g x).length<=L->F (n+1) (Yb A) (k:Int)=F n (Yb (A++g x)) ((k+1:Nat):Int))
  (f:∀ (n k:Nat) A,xs.length<=k->A.length<=L->F (n+1) (Yb A) (k:Int)=c (Yb A)) {n:Nat} {A:List UInt8} (h:xs.length < n) (i:A.length+((xs.map g).flatten).length<=L):F n (Yb A) (0:Int)=c (Yb (A++(xs.map g).flatten)) :=
 ZaC xs F c g L d e (fun n k A a _ b=>f n k A a b) xs 0 n A (Nat.zero_le _) rfl h i
theorem ZrY (hN:4194320 < N) (l:List Z3) (hl:l.length<=10) (h:∀ p∈l,Pk N (oP p)):z127 N l=some (Yb (Sk (l.map oP))):=by
 have C:=Zlu (l:=l.map oP) (by simp;omega) (fun p c=>by obtain ⟨q,P,rfl⟩:=List.mem_map.1 c;exact (h q P).v) (by simp;omega)
 have e:Sk (l.map oP)=(l.map fun p=>VL (oP p)).flatten:=by unfold Sk;rw [List.map_map];rfl
 rw [e] at C ⊢
 unfold z127
 have:=ZaC l (VP N l) Zbv (fun p=>VL (oP p)) 10000000 (by omega) (fun n k p A E c o=>?_) (fun n k A E _ o=>?_) l 0 N [] (by omega) rfl (by omega) (by simp only [List.length_nil];omega)
 ·exact this
 ·have a:=h p (Zb c)
  have S:p.ZD.length<=6:=a.r
  have T:=VO a.v.1
  have hc:(WN [44,32] p.ZD).length<=108:=QM a.v.2.1 (Zo _)
  have G:=ZaH a.v
  have t:=GP (oP p).ZF 1 a.v.2.2.2.1 (by have:=a.v.2.2.2.2.1;omega)
  have u:=a.v.2.2.2.2.2.1
  have H:(oP p).Zt=p.Zt:=rfl
  have U:(oP p).ZD=p.ZD:=rfl
  have z:(oP p).ZE=p.ZE.map oM:=rfl
  have g:(oP p).ZF=oL p.ZF:=rfl
  rw [H] at T
  rw [z] at G
  have I:YW 0 (W6 (oP p))=[112,114,111,116,111,99,111,108,32]++bs p.Zt++[40]++WN [44,32] p.ZD++[41,32,123,10]:=by
   simp [YW,Xx,W6,Ul,H,U]
  simp only [VP,Ym (Yf c),cT,Yj,c,bS]
  rw [ZeY (by omega) p.ZD (by omega) (by omega)]
  simp (disch:=(simp only [Yz,YF,lA,Zf,List.length_nil,Wm];omega)) only [XD,bS,Yz,YF]
  rw [<- I]
  have V:(YW 0 (W6 (oP p))).length<=200:=by rw [I];simp only [lA,Zf,List.length_nil];omega
  have W:p.ZE.length<=40:=by have:=a.v.2.2.1;rw [z,List.length_map] at this;exact this
  have D:p.ZF.length<=4194304:=by have:=a.l;rw [g,Sd] at this;exact this
  have w:(p.ZE.map oM).map W5=p.ZE.map (fun m=>W5 (oM m)):=by rw [List.map_map];rfl
  rw [w] at G
  rw [Zj3 p.ZE (Pv N l (k:Int) (VP N l n)) (Db N l (k:Int) (VP N l n)) (fun m=>W5 (oM m)) 50000000 (by omega) (fun B j m A s d o=>?_) (fun B j A s o=>?_) (by omega) (by simp only [lA];omega)]
  ·unfold Db
   have L:∀ l:List ZY,(l.map fun x=>xI 1 (oI x)).flatten=xL 1 (oL l):=by
    intro l
    induction l with
    | nil=>simp [oL,xL]
    | cons x l ih=>simp only [List.map_cons,List.flatten_cons,oL,xL,ih]
   rw [Zj3 p.ZF (Pu N l (k:Int) (VP N l n)) (Da (k:Int) (VP N l n)) (fun x=>xI 1 (oI x)) 100000000 D (fun B j x A s f o=>?_) (fun B j A s o=>?_) (by omega) (by rw [L];rw [g] at t u;simp only [lA];omega),L]
   ·unfold Da
    rw [g] at t u
    simp (disch:=(simp only [Yz,YF,lA,Zf,List.length_nil,Wm];omega)) only [XD,bS,Yz,YF]
    rw [YE (by omega)]
    have:A++YW 0 (W6 (oP p))++(p.ZE.map fun m=>W5 (oM m)).flatten++xL 1 (oL p.ZF)++[125,10]=A++VL (oP p):=by
     unfold VL
     rw [z,w,g]
     simp [YW,Xx]
    rw [this]
   ·have i:=Zb f
    have X:=VA a.b (by rw [g];exact WE i)
    have C:=ZfE a.v.2.2.2.1 (by rw [g];exact WE i)
    have hd:=V5 (l:=(oP p).ZF) (by rw [g];exact WE i)
    have M:=a.v.2.2.2.2.1
    have ⟨y,R,F⟩:=Zk1 N x 1 (by omega) X C (by omega) (by omega)
    have Y:y.length+2=(xI 1 (oI x)).length:=by rw [<- F,Wx];omega
    simp only [Pu,Yj,c,bS,Ym (Yf f),cT,f,YE (show j < 4611686018427387904 by omega)]
    rw [show str [9]=Yb (Xx 1) from rfl,R]
    simp only [bS]
    simp (disch:=(simp only [Yz,YF,lA,Zf,List.length_nil,Wm];omega)) only [XD,bS,Yz,YF]
    rw [<- F]
    simp [YW]
   ·simp only [Pu,Yj,c,bS,Yr s,cF]
  ·have O:W0 (oM m):=a.v.2.2.2.2.2.2 _ (by rw [z];exact List.mem_map.2 ⟨m,Zb d,rfl⟩)
   have Z:=Ze6 O
   simp only [Pv,Yj,c,bS,Ym (Yf d),cT,d,ZrR (show 4194304 < N by omega) m O,YE (show j < 4611686018427387904 by omega)]
   simp (disch:=(simp only [Yz,YF,lA,Zf,List.length_nil,Wm];omega)) only [XD,bS,Yz,YF]
   rfl
  ·simp only [Pv,Yj,c,bS,Yr s,cF]
 ·simp only [VP,Yr E,cF]
def QF (l:List ZT):Prop:=l.length<=10/\(∀ p∈l,Tf p)/\(Sk l).length<=8000
theorem ZkK (p:ZT) (Q:Prop):(Xq p.Zt=true/\QG p.ZD 6/\p.ZE.length<=40/\(XN p.ZF/\dL p.ZF<=10/\cL p.ZF<=300)/\(∀ m∈p.ZE,W0 m)/\Q)↔Tf p/\Q:=by
 unfold Tf
 constructor
 ·rintro ⟨a,b,c,⟨d,e,f⟩,g,h⟩;exact ⟨⟨a,b,c,d,e,f,g⟩,h⟩
 ·rintro ⟨⟨a,b,c,d,e,f,g⟩,h⟩;exact ⟨a,b,c,⟨d,e,f⟩,g,h⟩
theorem ZsG (hN:4194320 < N) (l:List ZT) (z:l.length<=4194304) (e:∀ p∈l,bP p):Dq (Mh N l) (QF l):=by
 unfold Mh
 refine Dq.cN (C:=l.length<=10) TV fun f=>?_
 refine TQ (P:=Tf) (E:=(Sk l).length<=8000) (by omega) _ (fun n k p Q i c t=>?_) (fun a n k i=>?_) (by omega)
 ·have d:=e p (Zb c)
  simp only [Rw,Ym (Yf c),cT,Yj,c,bS]
  refine (Dq.bN (Pe (by omega) _) fun u=>Dq.bN (ZfY (by omega) _ d.r 6) fun v=>Dq.cN (C:=p.ZE.length<=40) TV fun w=>?_).iff (ZkK p Q)
  have ⟨r,m,y,v2,v3⟩:=ZlI N p.ZF 1 0 (by omega) d.l d.b (by omega) (by omega)
  rw [show HJ N p.ZF (1:Int) (0:Int)=some (r,m) from y,bS]
  refine Dq.cN (C:=XN p.ZF/\dL p.ZF<=10/\cL p.ZF<=300) ?_ fun g=>?_
  ·have:r=true↔XN p.ZF/\dL p.ZF<=10/\cL p.ZF<=300:=v2.trans ⟨fun q=>⟨q.1,by omega,by omega⟩,fun q=>⟨q.1,by omega,by omega⟩⟩
   rw [<- this];cases r<;>simp
  ·refine TQ (P:=W0) (E:=Q) (by omega) (Mi N (k:Int) (Rw N l n) p) (fun x j m A o s h=>?_) (fun a x j o=>?_) (by omega)
   ·simp only [Mi,Ym (Yf s),cT,Yj,s,bS,YE (show j < 4611686018427387904 by omega)]
    exact Dq.bN (Zqp (by omega) m) h
   ·simp only [Mi,Yr o,cF,Zc0,YE (show k < 4611686018427387904 by omega)]
    exact t ⟨u,v,w,g.1,g.2.1,g.2.2,a⟩
 ·simp only [Rw,Yr i,cF,ZcZ]
  rw [Zsm hN l f fun p c=>⟨a p c,(e p c).l,(e p c).b⟩,bS]
  exact Dq.dec (by rw [Wa,Yz];omega)
theorem Zr2 (hN:4194320 < N) (l:List Z3) (hl:l.length<=4194304) (w:∀ p∈l,RP p/\4194306+dL (oL p.ZF)<=N/\cL (oL p.ZF)<=1099511627776/\nL (oL p.ZF)/\∀ m∈p.ZE,nM (oM m)):Dq (Bi N l) (QF (l.map oP)):=by
 unfold Bi
 refine (Dq.cN (C:=l.length<=10) TV fun x=>TQ (P:=fun p=>Tf (oP p)) (E:=(Sk (l.map oP)).length<=8000) (by omega) _ (fun n k p Q D s M=>?_) (fun o n k D=>?_) (by omega)).iff (by unfold QF;rw [List.length_map,List.forall_mem_map])
 ·have ⟨i,A,X,Y,B⟩:=w p (Zb s)
  have t:=MH i
  have G:(oP p).Zt=p.Zt:=rfl
  have H:(oP p).ZD=p.ZD:=rfl
  have I:(oP p).ZE=p.ZE.map oM:=rfl
  have L:(oP p).ZF=oL p.ZF:=rfl
  have Z:dL (oL p.ZF)<=cL (oL p.ZF):=Zeo _
  simp only [Ry,Ym (Yf s),cT,Yj,s,bS]
  have hi:=ZkK (oP p) Q
  rw [G,H,I,L,List.length_map,List.forall_mem_map] at hi
  refine (Dq.bN (Re (by omega) _) fun O=>Dq.bN (ZfA (by omega) _ i.r 6) fun R=>Dq.cN (C:=p.ZE.length<=40) TV fun S=>(?_:Dq _ ((dL (oL p.ZF)<=10/\cL (oL p.ZF)<=300/\XN (oL p.ZF)/\∀ m∈p.ZE,W0 (oM m))/\Q))).iff ?_
  ·rw [Zi5 N p.ZF A t i.b (by omega),Zen N p.ZF A t i.b X]
   simp only [bS]
   refine (Dq.cN (C:=dL (oL p.ZF)<=10) (TV (b:=10)) fun T=>Dq.cN (C:=cL (oL p.ZF)<=300) (TV (b:=300)) fun U=>Dq.bN (Zjz N p.ZF A t i.b Y) fun V=>(?_:Dq _ ((∀ m∈p.ZE,W0 (oM m))/\Q))).iff ⟨fun q=>⟨⟨q.1,q.2.1,q.2.2.1,q.2.2.2.1⟩,q.2.2.2.2⟩,fun q=>⟨q.1.1,q.1.2.1,q.1.2.2.1,q.1.2.2.2,q.2⟩⟩
   refine TQ (P:=fun m=>W0 (oM m)) (E:=Q) (by omega) (Mm N (k:Int) (Ry N l n) p) (fun W j m Q' F y z=>?_) (fun o W j F=>?_) (by omega)
   ·have u:=Zb y
    have v:=Zd5 i u
    simp only [Mm,Ym (Yf y),cT,Yj,y,bS,YE (show j < 4611686018427387904 by omega)]
    exact Dq.bN (ZrS (by omega) m v.1 v.2 (B m u)) z
   ·simp only [Mm,Yr F,cF,Zde,YE (show k < 4611686018427387904 by omega)]
    refine M ?_
    unfold Tf
    rw [G,H,I,L,List.length_map,List.forall_mem_map]
    exact ⟨O,R,S,V,T,U,o⟩
  ·rw [<- hi]
   constructor
   ·rintro ⟨a,b,c,⟨d,e,f,g⟩,h⟩;exact ⟨a,b,c,⟨f,d,e⟩,g,h⟩
   ·rintro ⟨a,b,c,⟨f,d,e⟩,g,h⟩;exact ⟨a,b,c,⟨d,e,f,g⟩,h⟩
 ·simp only [Ry,Yr D,cF,Zdd]
  rw [ZrY hN l x fun p s=>⟨o p s,(w p s).1.l,(w p s).1.b⟩,bS]
  exact Dq.dec (by rw [Wa,Yz];omega)
end Gp
end
section
namespace Gp
open Go Go.Kx Gx
structure QD (l:List ZT) (i:Nat) (p:ZT):Prop where
 name:∀ q∈l.take i,q.Zt≠p.Zt
 roles:∀ (k:Nat) x,p.ZD[k]? = some x->x ∉ p.ZD.take k
 sorts:QE p
 atoms:MD p
 items:Vc l p [] p.ZF
 calls:VI [] (VY p.ZF)
 chain:MF l p
structure Zs (N:Nat) (l:List ZT):Prop where
 len:l.length<=4194304
 p:∀ p∈l,bP p/\8388611+dL p.ZF<=N/\dL p.ZF<=4194304
 all:Vj l<=4194304
 n:8388611 < N
theorem ZnG {l:List ZT} {p} (h:p∈l):cL p.ZF<=Vj l:=by
 unfold Vj
 induction l with
 | nil=>cases h
 | cons q l a =>
  rw [List.map_cons,List.sum_cons]
  rcases List.mem_cons.1 h with rfl | h
  ·omega
  ·have:=a h;omega
theorem Zrk {N:Nat} (l:List ZT) (o:Zs N l) (i:Nat) (p:ZT) (s:l[i]? = some p) (ag:Int->Option T9) :
  ∃ O:ZX,(Ht N (l.take i) p).bind (fun u =>
    bif u then ((Xo N (⟨l,p,([]:List ByteArray),(⟨(str []),(str []),(0:Int)⟩:T9)⟩:ZX) p.Zt (9:Int)).bind fun a =>
     Qd N (i:Int) ag p a.all' a.p'.Zt a.p'.ZD a.p'.ZE a.p'.ZF a.calls' a.out'.ZL a.out'.Zt a.out'.ZM)
    else Qd N (i:Int) ag p l p.Zt p.ZD p.ZE p.ZF ([]:List ByteArray) (str []) (str []) (0:Int)) =
   (bif (O.out'.ZM != (0:Int)) then some O.out' else ag ((i+1:Nat):Int))/\(O.out'.ZM=0↔QD l i p)/\((∃ q∈l.take i,q.Zt=p.Zt)->O.out'=⟨p.Zt,p.Zt,9⟩):=by
 have hN:=o.n
 have Z:=o.len
 have hil:=Yf s
 have ⟨g,R,S⟩:=o.p p (Zb s)
 have hcp:=ZnG (Zb s)
 have z:=o.all
 have c0:ZX:=⟨l,p,[],⟨str [],str [],0⟩⟩
 -- the name
 have ⟨f,j,C⟩:=Ck.test (N:=N) (b:=(l.take i).any fun x=>x.Zt.toList==p.Zt.toList) (c:=⟨l,p,[],⟨str [],str [],0⟩⟩) (nm:=p.Zt) (e:=9) (by decide)
 have a1:f.all'=l:=C.all
 have p1:f.p'=p:=C.p
 -- the roles
 have ⟨o2,e2,d,T,t⟩:=SS p.ZD (fun n c i'=>Qe N (i:Int) ag p n c.all' c.p'.Zt c.p'.ZD c.p'.ZE c.p'.ZF c.calls' c.out'.ZL c.out'.Zt c.out'.ZM i')
  (fun c=>LV N (i:Int) ag p c.all' c.p'.Zt c.p'.ZD c.p'.ZE c.p'.ZF c.calls' c.out'.ZL c.out'.Zt c.out'.ZM) Option.bind (fun _ _=>rfl)
  (fun k x=>x ∉ p.ZD.take k) (fun _=>[]) (fun _=>0) f.all' f.p' f.calls'.length
  (fun n k x c W X hp' _=>by
   have B:=Yf W
   have hr:=g.r
   refine ⟨bif X3 x (p.ZD.take k) then Xo N c x 9 else some c,?_,(Ck.test (by decide)).iff ?_⟩
   ·simp only [Qe,Ym B,cT,z46,Yj,W,bS,Sa (Nat.le_of_lt B),Uk]
    rw [H9 _ (by rw [List.length_take];omega) (by rw [List.length_take];omega),bS,YZ (by omega)]
    cases X3 x (p.ZD.take k)<;>rfl
   ·rw [<- Bool.not_eq_true,W4])
  (fun n k c B=>by simp only [Qe,Yr B,cF]) (N:=N) (by have:=g.r;omega) f rfl rfl (by rw [XO];omega)
 subst T
 rw [XO,VG] at t
 have a2:d.all'=l:=by rw [t.all,a1]
 have H:d.p'=p:=by rw [t.p,p1]
 have sz:∀ c:ZX,c.all'=l->c.p'=p->Sz N c:=fun c X s=>⟨by rw [s];exact g.r,by rw [s];exact g.m,by rw [X];exact Z,by omega⟩
 have ⟨D,e3,w⟩:=Zsl (N:=N) d (sz d a2 H) (by rw [H];exact fun m P=>(g.ms m P).1)
 have a3:D.all'=l:=by rw [w.all,a2]
 have I:D.p'=p:=by rw [w.p,H]
 have ⟨E,e4,y⟩:=Znt (N:=N) D (sz D a3 I) (by rw [I];exact fun m P=>g.ms m P)
 have a4:E.all'=l:=by rw [y.all,a3]
 have L:E.p'=p:=by rw [y.p,I]
 have l4:E.calls'.length<=0:=by
  have h1:=C.len;have h2:=t.len;have h3:=w.len;have h4:=y.len
  have h0:([]:List ByteArray).length=0:=rfl
  simp only at h1
  omega
 have ⟨F,e5,G⟩:=ZjM N E p.ZF [] ⟨by rw [L];exact g.r,by rw [L];exact g.m,by rw [a4];exact Z,by omega⟩ R g.l g.b (by simpa using S) (by omega)
 have a5:F.all'=l:=by rw [G.all,a4]
 have p5:F.p'=p:=by rw [G.p,L]
 have ⟨U,e6,Y⟩:=ZnU (N:=N) F (sz F a5 p5) (by rw [a5];exact fun q v=>⟨(o.p q v).2.1,(o.p q v).1.l,(o.p q v).1.b⟩) (by rw [a5];exact z)
 refine ⟨U,?_,?_,?_⟩
 ·rw [ZnP _ p (by rw [List.length_take];omega) (by rw [List.length_take];omega),bS]
  have h5:Qd N (i:Int) ag p f.all' f.p'.Zt f.p'.ZD f.p'.ZE f.p'.ZF f.calls' f.out'.ZL f.out'.Zt f.out'.ZM=(bif (U.out'.ZM != (0:Int)) then some U.out' else ag ((i+1:Nat):Int)):=by
   unfold Qd
   refine e2.trans ?_
   show LV N (i:Int) ag p d.all' d.p'.Zt d.p'.ZD d.p'.ZE d.p'.ZF d.calls' d.out'.ZL d.out'.Zt d.out'.ZM=_
   unfold LV
   rw [show (⟨d.all',⟨d.p'.Zt,d.p'.ZD,d.p'.ZE,d.p'.ZF⟩,d.calls',⟨d.out'.ZL,d.out'.Zt,d.out'.ZM⟩⟩:ZX)=d from rfl,e3,bS,e4,bS,e5,bS,e6,bS,YZ (by omega)]
  cases h:(l.take i).any fun x=>x.Zt.toList==p.Zt.toList with
  | true=>rw [h,cT] at j;rw [cT,j];exact h5
  | false =>
   rw [h,cF] at j;cases j
   exact h5
 ·have h6:=((((((C.seq t).seq w).seq y).seq G).seq Y)).err
  rw [h6,a4,L,a5,p5,H,I]
  simp only [List.append_nil,List.nil_append,true_and]
  rw [Zeb]
  constructor
  ·rintro ⟨⟨⟨⟨⟨⟨q1,q2⟩,q3⟩,q4⟩,q5⟩,q6⟩,q7⟩
   exact ⟨q1,q2,q3,q4,q5,q7,q6⟩
  ·exact fun q=>⟨⟨⟨⟨⟨⟨q.name,q.roles⟩,q.sorts⟩,q.atoms⟩,q.items⟩,q.chain⟩,q.calls⟩
 ·rintro ⟨q,v,hn⟩
  have h:((l.take i).any fun x=>x.Zt.toList==p.Zt.toList)=true:=List.any_eq_true.2 ⟨q,v,Wh.2 hn⟩
  rw [h,cT] at j
  unfold Xo at j
  rw [show ((0:Int)==0)=true from rfl,cT] at j
  cases j
  have A:=t.st (by show (9:Int)≠0;decide)
  have M:=w.st (by rw [A];show (9:Int)≠0;decide)
  have V:=y.st (by rw [M,A];show (9:Int)≠0;decide)
  have s5:=G.st (by rw [V,M,A];show (9:Int)≠0;decide)
  have s6:=Y.st (by rw [s5,V,M,A];show (9:Int)≠0;decide)
  rw [s6,s5,V,M,A]
theorem ZnV {N:Nat} (l:List ZT) (x:Zs N l) (v:Bool) (E:Mh N l=some v) :
  ∃ r,PG N l=some r/\(r.ZM=0↔v=true/\∀ (i:Nat) p,l[i]? = some p->QD l i p) /\
   (v=true->∀ (i:Nat) p,l[i]? = some p->(∀ (j:Nat) q,j < i->l[j]? = some q->QD l j q)->(∃ q∈l.take i,q.Zt=p.Zt)->r=⟨p.Zt,p.Zt,9⟩):=by
 have hN:=x.n
 have L:=x.len
 unfold PG
 rw [E,bS]
 cases v with
 | false=>exact ⟨_,rfl,by simp,by simp⟩
 | true =>
  rw [Zg,cF]
  have key:∀ (m:List ZT) (k n:Nat),l.drop k=m->m.length < n->∃ r,Ua N l n (k:Int)=some r/\(r.ZM=0↔∀ (i:Nat) p,m[i]? = some p->QD l (k+i) p) /\
    (∀ (i:Nat) p,m[i]? = some p->(∀ (j:Nat) q,j < i->m[j]? = some q->QD l (k+j) q)->(∃ q∈l.take (k+i),q.Zt=p.Zt)->r=⟨p.Zt,p.Zt,9⟩):=by
   intro m
   induction m with
   | nil =>
    intro k n h w
    obtain ⟨n,rfl⟩:=pS n (by simp at w;omega)
    exact ⟨_,by simp only [Ua,Yr (XF h),cF];rfl,by simp,by simp⟩
   | cons p m H =>
    intro k n h w
    obtain ⟨n,rfl⟩:=pS n (by simp at w;omega)
    have ⟨a,e,d⟩:=XE h
    have ⟨s,G,z,D⟩:=Zrk l x k p e (Ua N l n)
    have b:Ua N l (n+1) (k:Int)=(bif (s.out'.ZM != (0:Int)) then some s.out' else Ua N l n ((k+1:Nat):Int)):=by
     rw [<- G]
     simp only [Ua,Ym a,cT,Yj,e,bS,Sa (Nat.le_of_lt a)]
    by_cases o:s.out'.ZM=0
    ·have ⟨r,A,t,u⟩:=H (k+1) n d (by simp at w;omega)
     rw [show (s.out'.ZM != (0:Int))=false by simpa using o,cF] at b
     have C:=z.1 o
     refine ⟨r,b.trans A,?_,?_⟩
     ·rw [t]
      constructor
      ·intro g i q c
       cases i with
       | zero=>simp only [List.getElem?_cons_zero,Option.some.injEq] at c;subst c;exact C
       | succ i=>rw [List.getElem?_cons_succ] at c;have:=g i q c;rwa [show k+(i+1)=k+1+i by omega]
      ·intro g i q c
       have:=g (i+1) q (by rw [List.getElem?_cons_succ];exact c)
       rwa [show k+(i+1)=k+1+i by omega] at this
     ·intro i q c B f
      cases i with
      | zero =>
       simp only [List.getElem?_cons_zero,Option.some.injEq] at c;subst c
       have:=D f
       rw [this] at o;exact absurd (show (9:Int)=0 from o) (by decide)
      | succ i =>
       rw [List.getElem?_cons_succ] at c
       refine u i q c (fun j F I y=>?_) (by rwa [show k+(i+1)=k+1+i by omega] at f)
       have:=B (j+1) F (by omega) (by rw [List.getElem?_cons_succ];exact y)
       rwa [show k+(j+1)=k+1+j by omega] at this
    ·rw [show (s.out'.ZM != (0:Int))=true by simpa using o,cT] at b
     refine ⟨_,b,?_,?_⟩
     ·constructor
      ·exact fun g=>absurd g o
      ·exact fun g=>absurd (z.2 (g 0 p rfl)) o
     ·intro i q c B f
      cases i with
      | zero=>simp only [List.getElem?_cons_zero,Option.some.injEq] at c;subst c;exact D f
      | succ i=>exact absurd (z.2 (B 0 p (by omega) rfl)) o
  have ⟨r,A,t,u⟩:=key l 0 N rfl (by omega)
  simp only [Nat.zero_add] at t u
  exact ⟨r,A,by rw [t];simp,fun _=>u⟩
end Gp
end
section
namespace Gp
open Go Go.Kx Gx
structure ZhO (p:ZT):Prop where
 roles:∀ (k:Nat) x,p.ZD[k]? = some x->x ∉ p.ZD.take k
 sorts:QE p
 atoms:MD p
 calls:VI [] (VY p.ZF)
def BO (l:List ZT):Prop:=l.Pairwise fun a b=>a.Zt≠b.Zt
def MG (l:List ZT):Prop:=QF l/\BO l/\∀ p∈l,ZhO p/\Vc l p [] p.ZF/\MF l p
theorem Zks (l:List ZT):(∀ (i:Nat) p,l[i]? = some p->QD l i p)↔BO l/\∀ p∈l,ZhO p/\Vc l p [] p.ZF/\MF l p:=by
 constructor
 ·intro h
  refine ⟨?_,fun p d=>?_⟩
  ·unfold BO
   rw [List.pairwise_iff_getElem]
   intro i j hi g m
   refine (h j l[j] (Za g)).name l[i] ?_
   rw [List.mem_take_iff_getElem]
   exact ⟨i,by omega,rfl⟩
  ·have ⟨i,hi⟩:=List.mem_iff_getElem?.1 d
   have:=h i p hi
   exact ⟨⟨this.roles,this.sorts,this.atoms,this.calls⟩,this.items,this.chain⟩
 ·rintro ⟨e,k⟩ i p d
  have ⟨a,b,c⟩:=k p (Zb d)
  refine ⟨fun q f=>?_,a.roles,a.sorts,a.atoms,b,a.calls,c⟩
  unfold BO at e
  rw [List.pairwise_iff_getElem] at e
  rw [List.mem_take_iff_getElem] at f
  obtain ⟨j,g,rfl⟩:=f
  obtain ⟨hi,rfl⟩:=List.getElem?_eq_some_iff.1 d
  exact e j i (by omega) hi (by omega)
theorem ZnW {N:Nat} (l:List ZT) (a:Zs N l):∃ r,PG N l=some r/\(r.ZM=0↔MG l) /\
  (QF l->∀ (i:Nat) p,l[i]? = some p->(∀ (j:Nat) q,j < i->l[j]? = some q->QD l j q)->(∃ q∈l.take i,q.Zt=p.Zt)->r=⟨p.Zt,p.Zt,9⟩):=by
 have ⟨v,e,g⟩:=ZsG (N:=N) (by have:=a.n;omega) l a.len fun p b=>(a.p p b).1
 have ⟨r,d,f,h⟩:=ZnV l a v e
 exact ⟨r,d,by rw [f,g,Zks];rfl,fun c=>h (g.2 c)⟩
theorem Zjn {l:List ZT} {a:ByteArray} {q} (h:l.find? (fun q=>q.Zt.toList==a.toList)=some q):q∈l/\q.Zt=a :=
 ⟨List.mem_of_find?_eq_some h,by have:=List.find?_some h;exact Wh.1 this⟩
end Gp
end
section
namespace Gp
open Go Go.Kx Gx
theorem ZnH (l:List Z3):Vj (l.map oP)=V2 l:=by
 unfold Vj V2
 rw [List.map_map];rfl
theorem ZvF {N:Nat} {l:List Z3} (a:l.length<=4194304) (b:∀ p∈l,RP p/\8388611+dL (oL p.ZF)<=N/\dL (oL p.ZF)<=4194304) (c:V2 l<=4194304) (hN:8388611 < N):Zs N (l.map oP):=by
 refine ⟨by simpa using a,fun p d=>?_,by rw [ZnH];exact c,hN⟩
 obtain ⟨q,e,rfl⟩:=List.mem_map.1 d
 exact b q e
end Gp
end
section
namespace Gp
open Go Go.Kx Gx
theorem ZkH {l:List ZT} {a b:ByteArray} (h:ME l a b):∀ (n:Nat) c,SK l n b c->SK l (n+1) a c
 | 0,c,e=>by
  have e:b=c:=e
  subst e
  exact ⟨a,rfl,h⟩
 | n+1,c,⟨d,h1,h2⟩=>⟨d,ZkH h n d h1,h2⟩
end Gp
end
section
namespace Gp
open Go Go.Kx Gx
structure Nr (c:Z7) (P:Prop) (ns:List ByteArray) (n:Nat) (c':Z7):Prop where
 all:c'.l'=c.l'
 p:c'.p'=c.p'
 len:c'.calls'.length<=c.calls'.length+n
 err:c'.first'.ZM=0↔c.first'.ZM=0/\P/\VI c.calls' ns
 calls:c'.first'.ZM=0->c'.calls'=c.calls'++ns
 st:c.first'.ZM≠0->c'.first'=c.first'
def Rk (o:Option Z7) (c:Z7) (P:Prop) (ns:List ByteArray) (n:Nat):Prop:=∃ c',o=some c'/\Nr c P ns n c'
theorem Rk.iff {o c P Q ns n} (h:Rk o c P ns n) (k:P↔Q):Rk o c Q ns n:=by
 have ⟨a,e,g⟩:=h
 exact ⟨a,e,g.all,g.p,g.len,by rw [g.err,k],g.calls,g.st⟩
theorem Rk.le {o c P ns n m} (h:Rk o c P ns n) (k:n<=m):Rk o c P ns m:=by
 have ⟨a,e,g⟩:=h
 exact ⟨a,e,g.all,g.p,Nat.le_trans g.len (by omega),g.err,g.calls,g.st⟩
theorem Rk.skip (c:Z7):Rk (some c) c True [] 0:=⟨c,rfl,rfl,rfl,Zo _,by simp [VI],by simp,fun _=>rfl⟩
theorem Rk.note {N:Nat} (c:Z7) (nm:ByteArray) {e:Int} (a:e≠0) (b:List ByteArray) (n:Nat):Rk (z53 N c nm e) c False b n:=by
 unfold z53
 by_cases h:c.first'.ZM=0
 ·rw [show (c.first'.ZM==(0:Int))=true by simpa using h,cT]
  exact ⟨_,rfl,rfl,rfl,Nat.le_add_right _ _,by simp [a],fun q=>absurd q a,fun q=>absurd h q⟩
 ·rw [show (c.first'.ZM==(0:Int))=false by simpa using h,cF]
  exact ⟨_,rfl,rfl,rfl,Nat.le_add_right _ _,by simp [h],fun q=>absurd q h,fun _=>rfl⟩
theorem Nr.seq {c P ns n c1 Q bs m c2} (g:Nr c P ns n c1) (a:Nr c1 Q bs m c2):Nr c (P/\Q) (ns++bs) (n+m) c2:=by
 refine ⟨by rw [a.all,g.all],by rw [a.p,g.p],Nat.le_trans a.len (by have:=g.len;omega),?_,fun j=>?_,fun h=>?_⟩
 ·rw [a.err,g.err,Ze8]
  constructor
  ·rintro ⟨⟨b,d,e⟩,i,f⟩
   rw [g.calls (g.err.2 ⟨b,d,e⟩)] at f
   exact ⟨b,⟨d,i⟩,e,f⟩
  ·rintro ⟨b,⟨d,i⟩,e,f⟩
   refine ⟨⟨b,d,e⟩,i,?_⟩
   rw [g.calls (g.err.2 ⟨b,d,e⟩)]
   exact f
 ·rw [a.calls j,g.calls (a.err.1 j).1,aA]
 ·have k:=g.st h
  rw [a.st (by rw [k];exact h),k]
theorem Rk.seq {o:Option Z7} {f:Z7->Option Z7} {c P Q ns bs n m} (h:Rk o c P ns n)
  (k:∀ a,a.l'=c.l'->a.p'=c.p'->a.calls'.length<=c.calls'.length+n->Rk (f a) a Q bs m):Rk (o.bind f) c (P/\Q) (ns++bs) (n+m):=by
 have ⟨a,e,g⟩:=h
 have ⟨b,d,i⟩:=k a g.all g.p g.len
 exact ⟨b,by rw [e];exact d,g.seq i⟩
theorem Nr.iff {c P Q ns n c'} (g:Nr c P ns n c') (k:P↔Q):Nr c Q ns n c':=⟨g.all,g.p,g.len,by rw [g.err,k],g.calls,g.st⟩
theorem Rk.test {N:Nat} {b:Bool} {c:Z7} {nm:ByteArray} {e:Int} (a:e≠0):Rk (bif b then z53 N c nm e else some c) c (b=false) [] 0:=by
 cases b with
 | true=>exact (Rk.note (N:=N) c nm a [] 0).iff (by simp)
 | false=>exact (Rk.skip c).iff (by simp)
theorem Lm {α γ:Type} (xs:List α) (F:Nat->Z7->Int->γ) (j:Z7->γ) (b:Option Z7->(Z7->γ)->γ) (E:∀ c f,b (some c) f=f c)
  (P:Nat->α->Prop) (z:α->List ByteArray) (m:α->Nat) (a0:List Z3) (A:Z3) (B:Nat)
  (G:∀ (n k:Nat) x c,xs[k]? = some x->c.l'=a0->c.p'=A->c.calls'.length+((xs.drop k).map m).sum<=B->∃ o,F (n+1) c (k:Int)=b o (fun C=>F n C ((k+1:Nat):Int))/\Rk o c (P k x) (z x) (m x))
  (H:∀ (n k:Nat) c,xs.length<=k->F (n+1) c (k:Int)=j c) {N:Nat} (hN:xs.length < N) (c:Z7) (t:c.l'=a0) (u:c.p'=A) (hB:c.calls'.length+(xs.map m).sum<=B) :
  ∃ o,F N c (0:Int)=b o j/\Rk o c (∀ (k:Nat) x,xs[k]? = some x->P k x) (xs.flatMap z) (xs.map m).sum:=by
 have key:∀ (l:List α) (k n:Nat) (c:Z7),xs.drop k=l->l.length < n->c.l'=a0->c.p'=A->c.calls'.length+(l.map m).sum<=B ->
   ∃ o,F n c (k:Int)=b o j/\Rk o c (∀ (i:Nat) x,l[i]? = some x->P (k+i) x) (l.flatMap z) (l.map m).sum:=by
  intro l
  induction l with
  | nil =>
   intro k n c h w t u hB
   obtain ⟨n,rfl⟩:=pS n (by simp at w;omega)
   refine ⟨some c,by rw [H n k c (XF h),E],?_⟩
   exact (Rk.skip c).iff (by simp)
  | cons x l T =>
   intro k n c h w t u hB
   obtain ⟨n,rfl⟩:=pS n (by simp at w;omega)
   have ⟨a,e,d⟩:=XE h
   have ⟨o1,v,C,D,g⟩:=G n k x c e t u (by rw [h];exact hB)
   subst D
   rw [E] at v
   rw [List.map_cons,List.sum_cons] at hB
   have ⟨I,L,M⟩:=T (k+1) n C d (by simp at w;omega) (by rw [g.all,t]) (by rw [g.p,u]) (by have:=g.len;omega)
   refine ⟨I,v.trans L,?_⟩
   have ⟨O,R,S⟩:=M
   refine ⟨O,R,(g.seq S).iff ?_⟩
   constructor
   ·rintro ⟨v,D⟩ i y s
    cases i with
    | zero=>simp only [List.getElem?_cons_zero,Option.some.injEq] at s;subst s;exact v
    | succ i=>rw [List.getElem?_cons_succ] at s;have:=D i y s;rwa [show k+(i+1)=k+1+i by omega]
   ·intro q
    refine ⟨q 0 x rfl,fun i y s=>?_⟩
    have:=q (i+1) y (by rw [List.getElem?_cons_succ];exact s)
    rwa [show k+(i+1)=k+1+i by omega] at this
 have:=key xs 0 N c rfl hN t u hB
 simpa using this
end Gp
end
section
namespace Gp
open Go Go.Kx Gx
theorem Ze2 {α β:Type} (xs:List α) (p:α->Bool) (z:β) (g:α->β) (F:Nat->Int->Option β)
  (c:∀ (n k:Nat) x,xs[k]? = some x->k < 4611686018427387904->F (n+1) (k:Int)=bif p x then some (g x) else F n ((k+1:Nat):Int))
  (f:∀ (n k:Nat),xs.length<=k->F (n+1) (k:Int)=some z) {N:Nat} (hN:xs.length < N) (j:xs.length < 4611686018427387904) :
  F N (0:Int)=some ((xs.find? p).elim z g):=by
 have key:∀ (l:List α) (k n:Nat),xs.drop k=l->l.length < n->F n (k:Int)=some ((l.find? p).elim z g):=by
  intro l
  induction l with
  | nil =>
   intro k n h b
   obtain ⟨n,rfl⟩:=pS n (by simp at b;omega)
   rw [f n k (XF h)];rfl
  | cons x l i =>
   intro k n h b
   obtain ⟨n,rfl⟩:=pS n (by simp at b;omega)
   have ⟨a,e,d⟩:=XE h
   rw [c n k x e (by omega),List.find?_cons]
   cases p x with
   | true=>rfl
   | false=>exact i (k+1) n d (by simp at b;omega)
 exact key xs 0 N rfl hN
def Ze5:Yg:=⟨str [],[],[]⟩
theorem Zk2 {N:Nat} (p:Z3) (a:ByteArray) (h:p.ZE.length<=4194304) (hN:4194304 < N) :
  z131 N p a=some ((p.ZE.find? (fun m=>m.Zt.toList==a.toList)).elim (Ze5,false) (fun m=>(m,true))):=by
 unfold z131
 refine Ze2 p.ZE (fun m=>m.Zt.toList==a.toList) (Ze5,false) (fun m=>(m,true)) (Pz p a) (fun n k x c b=>?_) (fun n k b=>?_) (N:=N) (by omega) (by omega)
 ·simp only [Pz,Ym (Yf c),cT,Yj,c,bS]
  rw [YE b]
 ·simp only [Pz,Yr b,cF,Zbx,Ze5]
def Zfk:Z3:=⟨str [],[],[],[]⟩
theorem Zfx {N:Nat} (l:List Z3) (a:ByteArray) (h:l.length<=4194304) (hN:4194304 < N) :
  LN N l a=some ((l.find? (fun m=>m.Zt.toList==a.toList)).elim (Zfk,false) (fun m=>(m,true))):=by
 unfold LN
 refine Ze2 l (fun m=>m.Zt.toList==a.toList) (Zfk,false) (fun m=>(m,true)) (PB l a) (fun n k x c b=>?_) (fun n k b=>?_) (N:=N) (by omega) (by omega)
 ·simp only [PB,Ym (Yf c),cT,Yj,c,bS]
  rw [YE b]
 ·simp only [PB,Yr b,cF,Zby,Zfk]
theorem Zap {α β:Type} (f:α->β) (p:β->Bool):∀ l:List α,(l.map f).find? p=(l.find? (fun x=>p (f x))).map f
 | []=>rfl
 | x::l=>by
  rw [List.map_cons,List.find?_cons,List.find?_cons,Zap f p l]
  cases p (f x)<;>rfl
structure Sr (N:Nat) (c:Z7):Prop where
 r:c.p'.ZD.length<=4194304
 m:c.p'.ZE.length<=4194304
 a:c.l'.length<=4194304
 n:8388609 < N
theorem Sr.of {N:Nat} {c b:Z7} (h:Sr N c) (e:b.l'=c.l') (d:b.p'=c.p'):Sr N b:=⟨by rw [d];exact h.r,by rw [d];exact h.m,by rw [e];exact h.a,h.n⟩
theorem ZhY (l:List ByteArray) (v:ByteArray):decide (Y6 (fun x=>x.toList==v.toList) l < (0:Int)) = !X3 v l:=by
 rw [<- Ll l v]
 by_cases h:Y6 (fun x=>x.toList==v.toList) l < (0:Int)
 ·rw [dT h,dF (by omega)];rfl
 ·rw [dF h,dT (by omega)];rfl
theorem Zfw {N:Nat} (c:Z7) (l:List ByteArray) (f:Sr N c) (m:l.length<=4194305):Rk (R9 N c l) c (SM (oP c.p') l) [] 0:=by
 have hN:=f.n
 have q:=f.r
 unfold R9
 have ⟨o,e,h⟩:=Lm l (fun n c i=>Ri N l n c.l' c.p'.Zt c.p'.ZD c.p'.ZE c.p'.ZF c.calls' c.first'.ZL c.first'.Zt c.first'.ZM i)
  (fun c=>Dh c.l' c.p'.Zt c.p'.ZD c.p'.ZE c.p'.ZF c.calls' c.first'.ZL c.first'.Zt c.first'.ZM) Option.bind (fun _ _=>rfl)
  (fun k y=>y∈c.p'.ZD/\y ∉ l.take k) (fun _=>[]) (fun _=>0) c.l' c.p' c.calls'.length
  (fun n k y b g p d _=>by
   have a:=Yf g
   refine ⟨bif (!X3 y c.p'.ZD || X3 y (l.take k)) then z53 N b y 12 else some b,?_,(Rk.test (by decide)).iff ?_⟩
   ·simp only [Ri,Ym a,cT,Yj,g,bS,Sa (Nat.le_of_lt a)]
    rw [d,S9 _ (by omega) (by omega),bS,ZhY,YZ (by omega)]
    cases s:X3 y c.p'.ZD with
    | false=>rw [<- d];rfl
    | true =>
     rw [Zg,cF,S9 _ (by rw [List.length_take];omega) (by rw [List.length_take];omega),bS,Ll]
     cases X3 y (l.take k)<;>rw [<- d]<;>rfl
   ·rw [Bool.or_eq_false_iff,Bool.not_eq_false',W4,<- Bool.not_eq_true,W4])
  (fun n k b a=>by simp only [Ri,Yr a,cF]) (N:=N) (by omega) c rfl rfl (by rw [XO];omega)
 rw [XO,VG] at h
 have j:=e.trans (show (o.bind fun c=>Dh c.l' c.p'.Zt c.p'.ZD c.p'.ZE c.p'.ZF c.calls' c.first'.ZL c.first'.Zt c.first'.ZM)=o from Uk o)
 exact Eq.mp (congrArg (fun o=>Rk o c _ _ _) j.symm) h
theorem Zrv {N:Nat} (c:Z7) (x:ZY) (A:Sr N c) (R:x.To.length<=4194304) (G:c.calls'.length<=4194304):Rk (Di N c x) c (QA (c.l'.map oP) (oP c.p') (oI x)) [x.As] 1:=by
 have hN:=A.n
 have O:=A.a
 have C:∀ b:Z7,b.l'=c.l'->b.p'=c.p'->b.calls'.length<=4194304->Rk (PA N x b.l' b.p'.Zt b.p'.ZD b.p'.ZE b.p'.ZF b.calls' b.first'.ZL b.first'.Zt b.first'.ZM) b (SM (oP c.p') x.To) [x.As] 1:=by
  intro b B t y
  unfold PA
  have ⟨d,k,f⟩:=Zfw (N:=N) b x.To (A.of B t) (by omega)
  rw [t] at f
  rw [show (⟨b.l',⟨b.p'.Zt,b.p'.ZD,b.p'.ZE,b.p'.ZF⟩,b.calls',⟨b.first'.ZL,b.first'.Zt,b.first'.ZM⟩⟩:Z7)=b from rfl,k,bS]
  have P:=f.len
  suffices h:Rk ((Uf N d.calls' x.As).bind fun H =>
    bif (decide (H>=(0:Int))) then ((z53 N d x.As (9:Int)).bind fun w =>
    (YJ w.calls' ([x.As]:List ByteArray)).bind fun I =>
    some (⟨w.l',w.p',I,w.first'⟩:Z7))
    else (YJ d.calls' ([x.As]:List ByteArray)).bind fun L =>
    some (⟨d.l',d.p',L,d.first'⟩:Z7)) d True [x.As] 1 by
   have ⟨j,o,s⟩:=h
   exact ⟨j,o,(f.seq s).iff (by simp)⟩
  rw [S9 _ (by omega) (by omega),bS,Ll]
  cases i:X3 x.As d.calls' with
  | true =>
   have i:=(W4 _ _).1 i
   simp only [cT]
   have ⟨j,e,g⟩:=Rk.note (N:=N) d x.As (e:=9) (by decide) [] 0
   rw [e,bS]
   have z:=g.len
   rw [Xj (by simp;omega),bS]
   have u:¬ j.first'.ZM=0:=fun h=>(g.err.1 h).2.1
   refine ⟨_,rfl,g.all,g.p,by simp;omega,⟨fun h=>absurd h u,fun h=>absurd i h.2.2.1⟩,fun h=>absurd h u,g.st⟩
  | false =>
   have i:¬ x.As∈d.calls':=fun h=>by rw [(W4 _ _).2 h] at i;cases i
   simp only [cF]
   rw [Xj (by simp;omega),bS]
   exact ⟨_,rfl,rfl,rfl,by simp,by simp [VI,i],fun _=>rfl,fun _=>rfl⟩
 unfold Di
 rw [Zfx _ _ O (by omega),bS]
 have v:(c.l'.map oP).find? (fun q=>q.Zt.toList==(oI x).Zt.toList)=(c.l'.find? (fun q=>q.Zt.toList==x.Zt.toList)).map oP:=by
  rw [Zap];have:(oI x).Zt=x.Zt:=by rw [Wl]
  rw [this];rfl
 have D:(oI x).To=x.To:=Gv x
 cases F:c.l'.find? (fun m=>m.Zt.toList==x.Zt.toList) with
 | none =>
  simp only [Option.elim_none]
  rw [Bool.not_false,cT]
  have ⟨d,k,f⟩:=Rk.note (N:=N) c x.Zt (e:=10) (by decide) [] 0
  rw [k,bS]
  have ⟨j,o,s⟩:=C d f.all f.p (by have:=f.len;omega)
  refine ⟨j,o,(f.seq s).iff ?_⟩
  unfold QA
  rw [v,F];simp
 | some q =>
  simp only [Option.elim_some]
  rw [Zg,cF]
  have E:(q.ZD.length=x.To.length/\SM (oP c.p') x.To)↔QA (c.l'.map oP) (oP c.p') (oI x):=by
   unfold QA
   rw [v,F,D]
   constructor
   ·rintro ⟨y,i⟩;exact ⟨oP q,rfl,y,i⟩
   ·rintro ⟨S,M,y,i⟩
    cases M;exact ⟨y,i⟩
  by_cases z:q.ZD.length=x.To.length
  ·rw [show ((q.ZD.length:Int) != (x.To.length:Int))=false by rw [z];simp,cF]
   exact (C c rfl rfl G).iff (by rw [<- E];simp [z])
  ·rw [show ((q.ZD.length:Int) != (x.To.length:Int))=true by simp;omega,cT]
   have ⟨d,k,f⟩:=Rk.note (N:=N) c x.Zt (e:=1) (by decide) [] 0
   rw [k,bS]
   have ⟨j,o,s⟩:=C d f.all f.p (by have:=f.len;omega)
   exact ⟨j,o,(f.seq s).iff (by rw [<- E];simp [z])⟩
end Gp
end
section
namespace Gp
open Go Go.Kx Gx
def UE (all:List ZT) (p:ZT) (ls:List ByteArray) (re ta:Nat) (x:ZS):Prop :=
 (x.Zq=1->BS p x)/\(x.Zq=2->x.ZA∈p.ZD)/\(x.Zq=3->x.Zt ∉ ls)/\(x.Zq=4->x.Zt∈ls.drop re/\(ta:Int)<=Y6 (fun y=>y.toList==x.Zt.toList) ls)/\(x.Zq=6->QA all p x)
def UX (ls:List ByteArray) (x:ZS):List ByteArray:=if x.Zq=3 then ls++[x.Zt] else ls
def Rc (ls:List ByteArray) (re:Nat) (x:ZS):Nat:=if x.Zq=5 then ls.length else re
mutual
def Ra (all:List ZT) (p:ZT):List ByteArray->Nat->Nat->ZS->Prop
 | ls,re,ta,⟨k,f,t,n,a,x,b⟩=>UE all p ls re ta ⟨k,f,t,n,a,x,b⟩/\Sf all p (UX ls ⟨k,f,t,n,a,x,b⟩) (Rc ls re ⟨k,f,t,n,a,x,b⟩) ta b
def Uu (all:List ZT) (p:ZT):List ByteArray->Nat->Nat->List ZS->Prop
 | _,_,_,[]=>True
 | ls,re,ta,x::l=>Ra all p ls re (if l.isEmpty then ta else ls.length) x/\Uu all p ls re ta l
def Sf (all:List ZT) (p:ZT):List ByteArray->Nat->Nat->List (List ZS)->Prop
 | _,_,_,[]=>True
 | ls,re,ta,b::r=>Uu all p ls re ta b/\Sf all p ls re ta r
end
theorem Zk3 (all p ls re ta) (x:ZS):Ra all p ls re ta x↔UE all p ls re ta x/\Sf all p (UX ls x) (Rc ls re x) ta x.ZC:=by cases x;simp only [Ra]
theorem Zk5 (all p ls re ta):∀ l:List ZY,Uu all p ls re ta (oL l)↔∀ (k:Nat) x,l[k]? = some x->Ra all p ls re (if k+1=l.length then ta else ls.length) (oI x)
 | []=>by simp [oL,Uu]
 | x::l=>by
  simp only [oL,Uu]
  rw [Zk5 all p ls re ta l]
  have b:(if (oL l).isEmpty=true then ta else ls.length)=if 0+1=(x::l).length then ta else ls.length:=by cases l<;>simp [oL]
  have es:∀ k,(if k+1+1=(x::l).length then ta else ls.length)=if k+1=l.length then ta else ls.length:=fun k=>by simp
  constructor
  ·rintro ⟨c,d⟩ k y a
   cases k with
   | zero =>
    simp only [List.getElem?_cons_zero,Option.some.injEq] at a
    subst a
    rw [<- b];exact c
   | succ k =>
    rw [List.getElem?_cons_succ] at a
    rw [es];exact d k y a
  ·intro h
   refine ⟨?_,fun k y a=>?_⟩
   ·rw [b];exact h 0 x rfl
   ·have:=h (k+1) y (by rw [List.getElem?_cons_succ];exact a)
    rw [es] at this;exact this
theorem Zk4 (all p ls re ta):∀ l:List (List ZY),Sf all p ls re ta (YP l)↔∀ (k:Nat) b,l[k]? = some b->Uu all p ls re ta (oL b)
 | []=>by simp [YP,Sf]
 | x::l=>by
  simp only [YP,Sf]
  rw [Zk4 all p ls re ta l]
  constructor
  ·rintro ⟨c,d⟩ k y a
   cases k with
   | zero=>simp only [List.getElem?_cons_zero,Option.some.injEq] at a;subst a;exact c
   | succ k=>rw [List.getElem?_cons_succ] at a;exact d k y a
  ·exact fun h=>⟨h 0 x rfl,fun k y a=>h (k+1) y (by rw [List.getElem?_cons_succ];exact a)⟩
theorem Zno (l:List ZY):VY (oL l)=l.flatMap fun x=>Tg (oI x):=by rw [Zed,Lc,List.flatMap_map]
theorem Znn (l:List (List ZY)):RF (YP l)=l.flatMap fun x=>VY (oL x):=by rw [Zec,Lb,List.flatMap_map]
theorem Zic (l:List ZY):cL (oL l)=(l.map fun x=>cI (oI x)).sum:=by rw [BY,Lc,List.map_map];rfl
theorem Zia (l:List (List ZY)):Xt (YP l)=(l.map fun x=>cL (oL x)).sum:=by rw [BX,Lb,List.map_map];rfl
theorem Zqn (p:Z3) (a:ByteArray):(p.ZE.find? (fun m=>m.Zt.toList==a.toList)).isSome=true↔∃ m∈(oP p).ZE,m.Zt=a:=by
 rw [List.find?_isSome]
 constructor
 ·rintro ⟨m,b,c⟩;exact ⟨oM m,List.mem_map.2 ⟨m,b,rfl⟩,Wh.1 c⟩
 ·rintro ⟨m,b,c⟩
  obtain ⟨m',d,rfl⟩:=List.mem_map.1 b
  exact ⟨m',d,Wh.2 c⟩
set_option maxHeartbeats 1000000 in
theorem ZjN:∀ (N:Nat) (c:Z7) (l:List ZY) (u:List ByteArray) (w O:Nat),Sr 8388610 c->8388611+dL (oL l)<=N->l.length<=4194304->bL (oL l)->u.length+dL (oL l)<=4194304->w<=u.length->c.calls'.length+cL (oL l)<=4194304 ->
  Rk (U5 N c l u (w:Int) (O:Int)) c (Uu (c.l'.map oP) (oP c.p') u w O (oL l)) (VY (oL l)) (cL (oL l))
 | 0,_,_,_,_,_,_,h,_,_,_,_,_=>by omega
 | N+1,c,l,u,w,O,hs,h,hlen,hb,hls,hre,hc=>by
  show Rk (Bn N (U5 N) c l u (w:Int) (O:Int)) _ _ _ _
  unfold Bn
  have hN:8388609 < N:=by omega
  have hsz:∀ s:Z7,s.l'=c.l'->s.p'=c.p'->Sr N s:=fun s G B=>⟨by rw [B];exact hs.r,by rw [B];exact hs.m,by rw [G];exact hs.a,hN⟩
  have hsz2:∀ s:Z7,s.l'=c.l'->s.p'=c.p'->Sr 8388610 s:=fun s G B=>hs.of G B
  -- the blocks of one item
  have k5:∀ (k:Nat) (x:ZY) (s:Z7) (R:List ByteArray) (z v:Nat) (ag),l[k]? = some x->s.l'=c.l'->s.p'=c.p'->R.length+WT (YP x.ZC)<=4194304->z<=R.length->s.calls'.length+Xt (YP x.ZC)<=4194304 ->
    ∃ o,Vh N (U5 N) (k:Int) ag x (v:Int) s.l' s.p'.Zt s.p'.ZD s.p'.ZE s.p'.ZF s.calls' s.first'.ZL s.first'.Zt s.first'.ZM R (z:Int) =
     o.bind (fun t:Z7=>ag t.l' t.p'.Zt t.p'.ZD t.p'.ZE t.p'.ZF t.calls' t.first'.ZL t.first'.Zt t.first'.ZM ((k+1:Nat):Int)) /\
     Rk o s (Sf (c.l'.map oP) (oP c.p') R z v (YP x.ZC)) (RF (YP x.ZC)) (Xt (YP x.ZC)):=by
   intro k x s R z v ag L G B hms H hcc
   have hm:=Zb L
   have I:=(Uj _).1 (VA hb (WE hm))
   rw [X4,S6] at I
   have U:=V5 (WE hm)
   rw [V4,X4] at U
   have hk:=Yf L
   unfold Vh
   have ⟨o,e,g⟩:=Lm x.ZC (fun n c i=>Mq (U5 N) (k:Int) ag x (v:Int) R (z:Int) n c.l' c.p'.Zt c.p'.ZD c.p'.ZE c.p'.ZF c.calls' c.first'.ZL c.first'.Zt c.first'.ZM i)
    (fun c=>Bp (k:Int) ag c.l' c.p'.Zt c.p'.ZD c.p'.ZE c.p'.ZF c.calls' c.first'.ZL c.first'.Zt c.first'.ZM) Option.bind (fun _ _=>rfl)
    (fun _ b=>Uu (c.l'.map oP) (oP c.p') R z v (oL b)) (fun b=>VY (oL b)) (fun b=>cL (oL b)) c.l' c.p' 4194304
    (fun n j b t S Z hp2 hc2=>by
     rw [TR S,List.map_cons,List.sum_cons] at hc2
     have hmb:=Zb S
     have V:=UF I.2.2 (Vo hmb)
     rw [Sd] at V
     have hdb:=Tk (Vo hmb)
     have:=ZjN N t b R z v (hsz2 t Z hp2) (by omega) V.1 V.2 (by omega) H (by omega)
     rw [Z,hp2] at this
     refine ⟨_,?_,this⟩
     simp only [Mq,Ym (Yf S),cT,Yj,S,bS]
     rw [YZ (by have:=Yf S;omega)])
    (fun n j t S=>by simp only [Mq,Yr S,cF]) (N:=N) (by omega) s G B (by rw [<- Zia];omega)
   rw [<- Znn,<- Zia] at g
   refine ⟨o,e.trans ?_,g.iff (Zk4 _ _ _ _ _ _).symm⟩
   congr 1
   funext t
   unfold Bp
   rw [YZ (by omega)]
  -- one item
  have k6:∀ (k:Nat) (x:ZY) (s:Z7) (v:Nat) (ag),l[k]? = some x->s.l'=c.l'->s.p'=c.p'->s.calls'.length+cI (oI x)<=4194304 ->
    ∃ o,HE N (U5 N) u (w:Int) s.l' s.p'.Zt s.p'.ZD s.p'.ZE s.p'.ZF s.calls' s.first'.ZL s.first'.Zt s.first'.ZM (k:Int) ag x (v:Int) =
     o.bind (fun t:Z7=>ag t.l' t.p'.Zt t.p'.ZD t.p'.ZE t.p'.ZF t.calls' t.first'.ZL t.first'.Zt t.first'.ZM ((k+1:Nat):Int)) /\
     Rk o s (Ra (c.l'.map oP) (oP c.p') u w v (oI x)) (Tg (oI x)) (cI (oI x)):=by
   intro k x s v ag L G B hcc
   have hm:=Zb L
   have I:=(Uj _).1 (VA hb (WE hm))
   rw [Gv] at I
   have U:=V5 (WE hm)
   rw [V4,X4] at U
   rw [RJ,X4] at hcc
   have hS:=hsz s G B
   have hto:=I.1
   have eK:(oI x).Zq=x.Zq:=by rw [Wl]
   have eN:(oI x).Zt=x.Zt:=by rw [Wl]
   have eA:(oI x).As=x.As:=by rw [Wl]
   have eF:(oI x).ZA=x.ZA:=by rw [Wl]
   have eT:(oI x).To=x.To:=Gv x
   have hSr:=hS.r
   have hSm:=hS.m
   -- behind a first step
   have C:∀ (o1:Option Z7) (P:Prop) (bs:List ByteArray) (m:Nat) (X:List ByteArray) (z:Nat),Rk o1 s P bs m->bs=TW (oI x)->m<=1->X.length<=u.length+1->z<=X.length->(P↔UE (c.l'.map oP) (oP c.p') u w v (oI x))->X=UX u (oI x)->z=Rc u w (oI x) ->
     ∃ o,(o1.bind fun t:Z7=>Vh N (U5 N) (k:Int) ag x (v:Int) t.l' t.p'.Zt t.p'.ZD t.p'.ZE t.p'.ZF t.calls' t.first'.ZL t.first'.Zt t.first'.ZM X (z:Int)) =
      o.bind (fun t:Z7=>ag t.l' t.p'.Zt t.p'.ZD t.p'.ZE t.p'.ZF t.calls' t.first'.ZL t.first'.Zt t.first'.ZM ((k+1:Nat):Int))/\Rk o s (Ra (c.l'.map oP) (oP c.p') u w v (oI x)) (Tg (oI x)) (cI (oI x)):=by
    rintro o1 P bs m X z ⟨t,rfl,g⟩ rfl hm1 hns H hP hin hir
    have ⟨o,e,c3,e3,g3⟩:=k5 k x t X z v ag L (by rw [g.all,G]) (by rw [g.p,B]) (by omega) H (by have:=g.len;omega)
    refine ⟨o,e,?_⟩
    have Y:=(g.seq g3).iff (Q:=Ra (c.l'.map oP) (oP c.p') u w v (oI x)) (by rw [Zk3,hP,hin,hir,X4])
    rw [<- X4,<- ZhW] at Y
    exact Rk.le ⟨c3,e3,Y⟩ (by rw [RJ];omega)
   have A:x.Zq≠6->([]:List ByteArray)=TW (oI x):=fun T=>by unfold TW;rw [eK,if_neg T]
   have D:x.Zq≠3->u=UX u (oI x):=fun M=>by unfold UX;rw [eK,if_neg M]
   have E:x.Zq≠5->w=Rc u w (oI x):=fun M=>by unfold Rc;rw [eK,if_neg M]
   unfold HE
   by_cases h1:x.Zq=1
   ·rw [show (x.Zq==(1:Int))=true by simpa using h1,cT,Xj (by simp;omega),bS,List.singleton_append]
    have F:=Zfw (N:=N) s (x.ZA::x.To) hS (by simp;omega)
    rw [B] at F
    have W:Rk ((R9 N s (x.ZA::x.To)).bind fun t=>bif !(c.p'.ZE.find? (fun m=>m.Zt.toList==x.Zt.toList)).isSome then z53 N t x.Zt 10 else some t) s (SM (oP c.p') (x.ZA::x.To)/\∃ m∈(oP c.p').ZE,m.Zt=x.Zt) ([]++[]) (0+0) :=
     Rk.seq F fun t _ _ _=>(Rk.test (by decide)).iff (by rw [Bool.not_eq_false',Zqn])
    have ⟨o,e,g⟩:=C _ _ _ _ u w W (A (by omega)) (by omega) (by omega) hre (by
     unfold UE BS
     rw [eK,eN,eF,eT]
     exact ⟨fun q=>⟨fun _=>q,by omega,by omega,by omega,by omega⟩,fun q=>q.1 h1⟩) (D (by omega)) (E (by omega))
    refine ⟨o,?_,g⟩
    rw [<- e]
    have ⟨t,e2,g2⟩:=F
    rw [show (⟨s.l',⟨s.p'.Zt,s.p'.ZD,s.p'.ZE,s.p'.ZF⟩,s.calls',⟨s.first'.ZL,s.first'.Zt,s.first'.ZM⟩⟩:Z7)=s from rfl,e2,bS,bS]
    rw [Zk2 _ _ (by rw [g2.p,B];exact hs.m) (by omega),bS,g2.p,B]
    cases hf:c.p'.ZE.find? (fun m=>m.Zt.toList==x.Zt.toList) with
    | none=>rfl
    | some q=>rw [<- B,<- g2.p];rfl
   rw [show (x.Zq==(1:Int))=false by simpa using h1,cF]
   by_cases h2:x.Zq=2
   ·rw [show (x.Zq==(2:Int))=true by simpa using h2,cT]
    have F:=Zfw (N:=N) s [x.ZA] hS (by simp)
    rw [B] at F
    have ⟨o,e,g⟩:=C _ _ _ _ u w F (A (by omega)) (by omega) (by omega) hre (by
     unfold UE SM
     rw [eK,eF]
     constructor
     ·exact fun q=>⟨by omega,fun _=>(q 0 x.ZA rfl).1,by omega,by omega,by omega⟩
     ·intro q k y hy
      cases k with
      | zero=>cases hy;exact ⟨q.2.1 h2,by simp⟩
      | succ k=>cases hy) (D (by omega)) (E (by omega))
    exact ⟨o,e,g⟩
   rw [show (x.Zq==(2:Int))=false by simpa using h2,cF]
   by_cases M:x.Zq=3
   ·rw [show (x.Zq==(3:Int))=true by simpa using M,cT,S9 _ (by omega) (by omega),bS,Ll]
    have ⟨o,e,g⟩:=C (bif X3 x.Zt u then z53 N s x.Zt 9 else some s) _ _ _ (u++[x.Zt]) w (Rk.test (by decide)) (A (by omega)) (by omega) (by simp) (by simp;omega) (by
     unfold UE
     rw [eK,eN,<- Bool.not_eq_true,W4]
     exact ⟨fun q=>⟨by omega,by omega,fun _=>q,by omega,by omega⟩,fun q=>q.2.2.1 M⟩) (by unfold UX;rw [eK,if_pos M,eN]) (E (by omega))
    refine ⟨o,?_,g⟩
    rw [<- e]
    cases hi:X3 x.Zt u with
    | true =>
     rw [cT,cT,Xj (by simp;omega),List.nil_append]
     have ⟨t,e2,g2⟩:=Rk.note (N:=N) s x.Zt (e:=9) (by decide) [] 0
     rw [show (⟨s.l',⟨s.p'.Zt,s.p'.ZD,s.p'.ZE,s.p'.ZF⟩,s.calls',⟨s.first'.ZL,s.first'.Zt,s.first'.ZM⟩⟩:Z7)=s from rfl,e2,bS,bS,bS,Xj (by simp;omega),bS]
    | false =>
     rw [cF,cF,Xj (by simp;omega),List.nil_append,bS,Xj (by simp;omega),bS,bS]
   rw [show (x.Zq==(3:Int))=false by simpa using M,cF]
   by_cases Y:x.Zq=4
   ·rw [show (x.Zq==(4:Int))=true by simpa using Y,cT,Zj6 hre,bS,S9 _ (by rw [List.length_drop];omega) (by rw [List.length_drop];omega),bS,ZhY]
    have t1:Rk (bif !X3 x.Zt (u.drop w) then z53 N s x.Zt 10 else some s) s ((!X3 x.Zt (u.drop w))=false) [] 0:=Rk.test (by decide)
    have t2:Rk ((bif !X3 x.Zt (u.drop w) then z53 N s x.Zt 10 else some s).bind fun t=>bif decide (Y6 (fun y=>y.toList==x.Zt.toList) u < (v:Int)) then z53 N t x.Zt 7 else some t) s ((!X3 x.Zt (u.drop w))=false/\decide (Y6 (fun y=>y.toList==x.Zt.toList) u < (v:Int))=false) ([]++[]) (0+0) :=
     Rk.seq t1 fun t _ _ _=>Rk.test (by decide)
    have ⟨o,e,g⟩:=C _ _ _ _ u w t2 (A (by omega)) (by omega) (by omega) hre (by
     unfold UE
     rw [eK,eN,Bool.not_eq_false',W4,decide_eq_false_iff_not,Int.not_lt]
     exact ⟨fun q=>⟨by omega,by omega,by omega,fun _=>q,by omega⟩,fun q=>q.2.2.2.1 Y⟩) (D (by omega)) (E (by omega))
    refine ⟨o,?_,g⟩
    rw [<- e]
    cases hi:X3 x.Zt (u.drop w) with
    | false =>
     have ⟨t,e2,g2⟩:=Rk.note (N:=N) s x.Zt (e:=10) (by decide) [] 0
     rw [Bool.not_false,cT,cT,show (⟨s.l',⟨s.p'.Zt,s.p'.ZD,s.p'.ZE,s.p'.ZF⟩,s.calls',⟨s.first'.ZL,s.first'.Zt,s.first'.ZM⟩⟩:Z7)=s from rfl,e2,bS,bS,S9 _ (by omega) (by omega),bS]
     cases decide (Y6 (fun y=>y.toList==x.Zt.toList) u < (v:Int))<;>rfl
    | true =>
     rw [Zg,cF,cF,bS,S9 _ (by omega) (by omega),bS]
     cases decide (Y6 (fun y=>y.toList==x.Zt.toList) u < (v:Int))<;>rfl
   rw [show (x.Zq==(4:Int))=false by simpa using Y,cF]
   by_cases h5:x.Zq=5
   ·rw [show (x.Zq==(5:Int))=true by simpa using h5,cT]
    exact C (some s) _ _ _ u u.length (Rk.skip s) (A (by omega)) (by omega) (by omega) (Zo _) (by
     unfold UE
     rw [eK]
     exact ⟨fun q=>⟨by omega,by omega,by omega,by omega,by omega⟩,fun _=>trivial⟩) (D (by omega)) (by unfold Rc;rw [eK,if_pos h5])
   rw [show (x.Zq==(5:Int))=false by simpa using h5,cF]
   by_cases T:x.Zq=6
   ·rw [show (x.Zq==(6:Int))=true by simpa using T,cT]
    have hca:=Zrv (N:=N) s x hS hto (by omega)
    rw [B,G] at hca
    exact C _ _ _ _ u w hca (by unfold TW;rw [eK,if_pos T,eA]) (by omega) (by omega) hre (by
     unfold UE
     rw [eK]
     exact ⟨fun q=>⟨by omega,by omega,by omega,by omega,fun _=>q⟩,fun q=>q.2.2.2.2 T⟩) (D (by omega)) (E (by omega))
   ·rw [show (x.Zq==(6:Int))=false by simpa using T,cF]
    exact C (some s) _ _ _ u w (Rk.skip s) (A T) (by omega) (by omega) hre (by
     unfold UE
     rw [eK]
     exact ⟨fun q=>⟨by omega,by omega,by omega,by omega,by omega⟩,fun _=>trivial⟩) (D M) (E h5)
  have ⟨o,e,g⟩:=Lm l (fun n c i=>Uy N (U5 N) l u (w:Int) (O:Int) n c.l' c.p'.Zt c.p'.ZD c.p'.ZE c.p'.ZF c.calls' c.first'.ZL c.first'.Zt c.first'.ZM i)
   (fun c=>Bo c.l' c.p'.Zt c.p'.ZD c.p'.ZE c.p'.ZF c.calls' c.first'.ZL c.first'.Zt c.first'.ZM) Option.bind (fun _ _=>rfl)
   (fun k x=>Ra (c.l'.map oP) (oP c.p') u w (if k+1=l.length then O else u.length) (oI x)) (fun x=>Tg (oI x)) (fun x=>cI (oI x)) c.l' c.p' 4194304
   (fun n k x s L G B hc1=>by
    rw [TR L,List.map_cons,List.sum_cons] at hc1
    have hk:=Yf L
    have ⟨o,e,g⟩:=k6 k x s (if k+1=l.length then O else u.length) (fun a b c d e f g h i j=>Uy N (U5 N) l u (w:Int) (O:Int) n a b c d e f g h i j) L G B (by omega)
    refine ⟨o,?_,g⟩
    rw [<- e]
    simp only [Uy,Ym hk,cT,Yj,L,bS]
    rw [Xn (by omega) (by omega)]
    by_cases hl:k+1=l.length
    ·rw [dF (by omega),cF,if_pos hl]
    ·rw [dT (by omega),cT,if_neg hl])
   (fun n k s hk=>by simp only [Uy,Yr hk,cF]) (N:=N) (by omega) c rfl rfl (by rw [<- Zic];omega)
  rw [<- Zno,<- Zic] at g
  have e':=e.trans (show (o.bind fun c=>Bo c.l' c.p'.Zt c.p'.ZD c.p'.ZE c.p'.ZF c.calls' c.first'.ZL c.first'.Zt c.first'.ZM)=o from Uk o)
  refine Eq.mp (congrArg (fun o=>Rk o c _ _ _) e'.symm) (g.iff (Zk5 _ _ _ _ _ _).symm)
end Gp
end
section
namespace Gp
open Go Go.Kx Gx
theorem Zlz {α:Type} {xs:List α} {j k:Nat} {x:α} (h:(xs.take j)[k]? = some x):k < j/\xs[k]? = some x:=by
 have b:=Yf h
 rw [List.length_take] at b
 rw [List.getElem?_take] at h
 split at h
 ·rename_i a;exact ⟨a,h⟩
 ·cases h
theorem ZoR {N:Nat} (c:Z7) (m:Yg) (hN:4194304 < N) (P:m.Zy.length<=4194304):Rk (LJ N c m) c (QC (oM m)) [] 0:=by
 unfold LJ
 have M:∀ (j:Nat) (f:T2) (d:Z7) (ag),j < 4194304->∃ o,LL N (j:Int) ag f d.l' d.p'.Zt d.p'.ZD d.p'.ZE d.p'.ZF d.calls' d.first'.ZL d.first'.Zt d.first'.ZM =
   o.bind (fun h:Z7=>ag h.l' h.p'.Zt h.p'.ZD h.p'.ZE h.p'.ZF h.calls' h.first'.ZL h.first'.Zt h.first'.ZM ((j+1:Nat):Int))/\Rk o d (SL f) [] 0:=by
  intro j f d ag z
  have A:∀ a b:Int,∃ o,LK N (j:Int) ag f d.l' d.p'.Zt d.p'.ZD d.p'.ZE d.p'.ZF d.calls' d.first'.ZL d.first'.Zt d.first'.ZM a b =
    o.bind (fun h:Z7=>ag h.l' h.p'.Zt h.p'.ZD h.p'.ZE h.p'.ZF h.calls' h.first'.ZL h.first'.Zt h.first'.ZM ((j+1:Nat):Int))/\Rk o d (f.Zu.Lo<=f.Zu.Hi/\a<=f.Zu.Lo/\f.Zu.Hi<=b) [] 0:=by
   intro a b
   refine ⟨bif (decide (f.Zu.Lo < a) || (decide (f.Zu.Hi > b) || decide (f.Zu.Lo > f.Zu.Hi))) then z53 N d f.Zt 2 else some d,?_,(Rk.test (by decide)).iff ?_⟩
   ·unfold LK
    rw [YZ (by omega)]
    cases decide (f.Zu.Lo < a)<;>cases decide (f.Zu.Hi > b)<;>cases decide (f.Zu.Lo > f.Zu.Hi)<;>rfl
   ·simp only [Bool.or_eq_false_iff,decide_eq_false_iff_not]
    omega
  unfold LL
  cases p:(f.Zu.Zq==(2:Int)) with
  | true =>
   have ⟨o,e,g⟩:=A 0 40
   exact ⟨o,e,g.iff (by unfold SL;rw [p];rfl)⟩
  | false =>
   have ⟨o,e,g⟩:=A (-1000) 1000
   exact ⟨o,e,g.iff (by unfold SL;rw [p];rfl)⟩
 have ⟨o,e,g⟩:=Lm m.Zy (fun n c i=>Uw N m n c.l' c.p'.Zt c.p'.ZD c.p'.ZE c.p'.ZF c.calls' c.first'.ZL c.first'.Zt c.first'.ZM i)
  (fun c=>Dc c.l' c.p'.Zt c.p'.ZD c.p'.ZE c.p'.ZF c.calls' c.first'.ZL c.first'.Zt c.first'.ZM) Option.bind (fun _ _=>rfl)
  (fun j f=>(∀ g∈m.Zy.take j,g.Zt≠f.Zt)/\SL f) (fun _=>[]) (fun _=>0) c.l' c.p' c.calls'.length
  (fun n j f d x R S _=>by
   have z:=Yf x
   have w:(m.Zy.take j).length=j:=by rw [List.length_take];omega
   have ⟨o1,D,h,E,y⟩:=Lm (m.Zy.take j) (fun q c i=>R8 N m (j:Int) (Uw N m n) f q c.l' c.p'.Zt c.p'.ZD c.p'.ZE c.p'.ZF c.calls' c.first'.ZL c.first'.Zt c.first'.ZM i)
    (fun c=>LL N (j:Int) (Uw N m n) f c.l' c.p'.Zt c.p'.ZD c.p'.ZE c.p'.ZF c.calls' c.first'.ZL c.first'.Zt c.first'.ZM) Option.bind (fun _ _=>rfl)
    (fun _ g=>g.Zt≠f.Zt) (fun _=>[]) (fun _=>0) d.l' d.p' d.calls'.length
    (fun q k g h B _ _ _=>by
     have ⟨s,t⟩:=Zlz B
     refine ⟨bif (g.Zt.toList==f.Zt.toList) then z53 N h f.Zt 9 else some h,?_,(Rk.test (by decide)).iff ?_⟩
     ·simp only [R8,Ym s,cT,Yj,t,bS]
      rw [YZ (by omega)]
      cases (g.Zt.toList==f.Zt.toList)<;>rfl
     ·rw [<- Bool.not_eq_true,Wh])
    (fun q k h p=>by rw [w] at p;simp only [R8,Yr p,cF]) (N:=N) (by omega) d rfl rfl (by rw [XO];omega)
   rw [XO,VG] at y
   subst E
   have ⟨F,G,H,I,L⟩:=M j f h (Uw N m n) (by omega)
   refine ⟨F,?_,H,I,(y.seq L).iff ?_⟩
   ·simp only [Uw,Ym z,cT,Yj,x,bS]
    exact D.trans G
   ·constructor
    ·rintro ⟨u,v⟩
     refine ⟨fun g C=>?_,v⟩
     have ⟨k,p⟩:=List.mem_iff_getElem?.1 C
     exact u k g p
    ·rintro ⟨u,v⟩
     exact ⟨fun k g p=>u g (Zb p),v⟩)
  (fun n k d p=>by simp only [Uw,Yr p,cF]) (N:=N) (by omega) c rfl rfl (by rw [XO];omega)
 rw [XO,VG] at g
 have O:=e.trans (show (o.bind fun c=>Dc c.l' c.p'.Zt c.p'.ZD c.p'.ZE c.p'.ZF c.calls' c.first'.ZL c.first'.Zt c.first'.ZM)=o from Uk o)
 exact Eq.mp (congrArg (fun o=>Rk o c _ _ _) O.symm) g
def MZ (fs:List T2) (t:Yq):Option T2:=fs.find? fun f=>f.Zt.toList==t.Field.toList
def XB (p:Z3) (m:Yg) (t:Yq):Option T2 :=
 bif !(t.Zv.toList==(str []).toList) then (p.ZE.find? (fun q=>q.Zt.toList==t.Zv.toList)).bind (fun q=>MZ q.Zy t) else MZ m.Zy t
def Zas:T2:=⟨str [],⟨0,0,0⟩⟩
theorem ZrP {N:Nat} (p:Z3) (m:Yg) (t:Yq) (hN:4194304 < N) (b:p.ZE.length<=4194304) (g:∀ m∈p.ZE,m.Zy.length<=4194304) (i:m.Zy.length<=4194304) :
  DI N p m t=some ((XB p m t).elim (Zas,false) fun f=>(f,true)):=by
 have e:∀ (a:ByteArray) (fs:List T2) (w),fs.length<=4194304->L7 N t a fs w=some ((MZ fs t).elim (Zas,false) fun f=>(f,true)):=by
  intro a fs w h
  unfold L7 MZ
  refine Ze2 fs (fun f=>f.Zt.toList==t.Field.toList) (Zas,false) (fun f=>(f,true)) (PV t fs) (fun n k x d c=>?_) (fun n k c=>?_) (N:=N) (by omega) (by omega)
  ·simp only [PV,Ym (Yf d),cT,Yj,d,bS]
   rw [YE c]
  ·simp only [PV,Yr c,cF,Zcg,Zas]
 unfold DI XB
 cases (!(t.Zv.toList==(str []).toList)) with
 | false=>rw [cF,cF,e _ _ _ i]
 | true =>
  rw [cT,cT,Zk2 p t.Zv b hN,bS]
  cases h:p.ZE.find? (fun m=>m.Zt.toList==t.Zv.toList) with
  | none=>rfl
  | some q =>
   simp only [Option.elim_some,Zg,cF,bS]
   exact e _ _ _ (g q (List.mem_of_find?_eq_some h))
def Tv (t:Yq) (o:Option T2):Bool:=(t.Zq==3) && o.elim false fun f=>f.Zu.Zq != 2
def VN (t:Yq) (o:Option T2):Nat:=bif t.Zq==2 then (o.elim 0 fun f=>bif f.Zu.Zq==2 then 1 else 0) else 0
def TM (p:Z3) (m:Yg) (a:Wu):Prop :=
 ((!(a.Zw.Zq==1) && (XB p m a.Zw).isNone)=false)/\((!(a.Zx.Zq==1) && (XB p m a.Zx).isNone)=false)/\((Tv a.Zw (XB p m a.Zw) || Tv a.Zx (XB p m a.Zx))=false) /\
 (VN a.Zw (XB p m a.Zw)+VN a.Zx (XB p m a.Zx) > 0->VN a.Zw (XB p m a.Zw)+VN a.Zx (XB p m a.Zx)>=2/\a.Op=str [61,61]/\a.Zw.N=0/\a.Zx.N=0)
theorem ZaT (t o):VN t o<=1:=by
 unfold VN
 cases (t.Zq==2) with
 | false=>exact Nat.zero_le _
 | true =>
  cases o with
  | none=>exact Nat.zero_le _
  | some f=>rw [cT,Option.elim_some];cases (f.Zu.Zq==2)<;>simp
theorem Zns {N:Nat} (c:Z7) (m:Yg) (a:Wu) (B:Sr N c) (G:∀ m∈c.p'.ZE,m.Zy.length<=4194304) (H:m.Zy.length<=4194304):Rk (Dd N c m a) c (TM c.p' m a) [] 0:=by
 have hN:=B.n
 have D:∀ (d:Z7) (g i:Nat) (wr:Bool) (ag) (t:Yq),g<=1->i<=1->d.p'=c.p' ->
   LM N m d.l' d.p'.Zt d.p'.ZD d.p'.ZE d.p'.ZF d.calls' d.first'.ZL d.first'.Zt d.first'.ZM (g:Int) wr (i:Int) ag t.Zq t.Zv t.Field t.N =
   (bif (!(t.Zq==1) && (XB c.p' m t).isNone) then z53 N d m.Zt 10 else some d).bind fun j:Z7 =>
    ag j.l' j.p'.Zt j.p'.ZD j.p'.ZE j.p'.ZF j.calls' j.first'.ZL j.first'.Zt j.first'.ZM ((g+VN t (XB c.p' m t):Nat):Int) (wr || Tv t (XB c.p' m t)) ((i+1:Nat):Int):=by
  intro d g i wr ag t k hi A
  unfold LM
  rw [YZ (n:=i) (by omega)]
  by_cases v:t.Zq=1
  ·have z:(t.Zq==(3:Int))=false:=by simp;omega
   have u:(t.Zq==(2:Int))=false:=by simp;omega
   rw [show (t.Zq==(1:Int))=true by simpa using v]
   unfold VN Tv
   rw [u,z]
   simp
  ·rw [show (t.Zq==(1:Int))=false by simpa using v,cF,
    show (⟨t.Zq,t.Zv,t.Field,t.N⟩:Yq)=t from rfl,
    show (⟨d.p'.Zt,d.p'.ZD,d.p'.ZE,d.p'.ZF⟩:Z3)=d.p' from rfl,A,ZrP c.p' m t (by omega) B.m G H,bS]
   cases h:XB c.p' m t with
   | none =>
    unfold VN Tv
    rw [<- A]
    simp only [Option.elim_none,Bool.not_false,cT,Option.isNone_none,Bool.and_self,Bool.and_false,Bool.or_false]
    cases (t.Zq==(2:Int))<;>rfl
   | some f =>
    unfold VN Tv Df
    rw [<- A]
    simp only [Option.elim_some,Zg,cF,Option.isNone_some,Bool.and_false,bS]
    rw [YZ (n:=g) (by omega),YZ (n:=i) (by omega)]
    by_cases F:t.Zq=3
    ·have u:(t.Zq==(2:Int))=false:=by simp;omega
     rw [show (t.Zq==(3:Int))=true by simpa using F,u]
     cases (f.Zu.Zq != 2)<;>cases wr<;>rfl
    ·rw [show (t.Zq==(3:Int))=false by simpa using F]
     cases (t.Zq==(2:Int))<;>cases (f.Zu.Zq==2)<;>cases wr<;>rfl
 have T:∀ (d:Z7) (g:Nat),g<=2->Rk (Pw N m a (g:Int) d.l' d.p'.Zt d.p'.ZD d.p'.ZE d.p'.ZF d.calls' d.first'.ZL d.first'.Zt d.first'.ZM) d (g > 0->g>=2/\a.Op=str [61,61]/\a.Zw.N=0/\a.Zx.N=0) [] 0:=by
  intro d g k
  have s:Rk (bif (decide (g > 0) && (decide (g < 2) || (!(a.Op.toList==(str [61,61]).toList) || (a.Zw.N != 0 || a.Zx.N != 0)))) then z53 N d m.Zt 11 else some d) d _ [] 0:=Rk.test (by decide)
  refine Eq.mp (congrArg (fun o=>Rk o d _ _ _) ?_) (s.iff ?_)
  ·unfold Pw
   have U:decide ((g:Int) > 0)=decide (g > 0):=by
    by_cases h:g > 0
    ·rw [dT h,dT (by omega)]
    ·rw [dF h,dF (by omega)]
   have V:decide ((g:Int) < 2)=decide (g < 2):=by
    by_cases h:g < 2
    ·rw [dT h,dT (by omega)]
    ·rw [dF h,dF (by omega)]
   rw [U,V]
   simp only [Uk]
   cases decide (g > 0)<;>cases decide (g < 2)<;>cases (a.Op.toList==(str [61,61]).toList)<;>cases (a.Zw.N != 0)<;>cases (a.Zx.N != 0)<;>rfl
  ·simp only [Bool.or_eq_false_iff,Bool.and_eq_false_iff,decide_eq_false_iff_not,Zkt,bne_eq_false_iff_eq]
   constructor
   ·rintro (q | ⟨I,w,x,y⟩) h
    ·exact absurd h q
    ·exact ⟨by omega,w,x,y⟩
   ·intro q
    by_cases h:g > 0
    ·have ⟨I,w,x,y⟩:=q h
     exact .inr ⟨by omega,w,x,y⟩
    ·exact .inl h
 have W:∀ (d:Z7) (g:Nat) (wr:Bool),g<=2->Rk (De N m a d.l' d.p'.Zt d.p'.ZD d.p'.ZE d.p'.ZF d.calls' d.first'.ZL d.first'.Zt d.first'.ZM (g:Int) wr) d (wr=false/\(g > 0->g>=2/\a.Op=str [61,61]/\a.Zw.N=0/\a.Zx.N=0)) ([]++[]) (0+0):=by
  intro d g wr k
  have s:Rk (bif wr then z53 N d m.Zt 11 else some d) d (wr=false) [] 0:=Rk.test (by decide)
  have:=Rk.seq s (f:=fun c=>Pw N m a (g:Int) c.l' c.p'.Zt c.p'.ZD c.p'.ZE c.p'.ZF c.calls' c.first'.ZL c.first'.Zt c.first'.ZM) fun j _ _ _=>T j g k
  refine Eq.mp (congrArg (fun o=>Rk o d _ _ _) ?_) this
  unfold De
  cases wr<;>rfl
 obtain ⟨M,rfl⟩:∃ M,N=M+3:=⟨N-3,by omega⟩
 unfold Dd
 have s:=fun (t:Yq) (d:Z7)=>Rk.test (N:=M+3) (b := !(t.Zq==1) && (XB c.p' m t).isNone) (c:=d) (nm:=m.Zt) (e:=10) (by decide)
 have ⟨j,u,C⟩:=s a.Zw c
 have ⟨L,z,O⟩:=s a.Zx j
 have X:=ZaT a.Zw (XB c.p' m a.Zw)
 have Y:=ZaT a.Zx (XB c.p' m a.Zx)
 have ⟨P,R,S⟩:=W L (VN a.Zw (XB c.p' m a.Zw)+VN a.Zx (XB c.p' m a.Zx)) (Tv a.Zw (XB c.p' m a.Zw) || Tv a.Zx (XB c.p' m a.Zx)) (by omega)
 refine ⟨P,?_,((C.seq O).seq S).iff ?_⟩
 ·have E:=D c 0 0 false (U2 (M+3) m a (M+2)) a.Zw (by omega) (by omega) rfl
  have v:=D j (0+VN a.Zw (XB c.p' m a.Zw)) 1 (false || Tv a.Zw (XB c.p' m a.Zw)) (U2 (M+3) m a (M+1)) a.Zx (by omega) (by omega) C.p
  rw [u,bS] at E
  rw [z,bS] at v
  rw [U2,show decide ((0:Int) < 2)=true from rfl,cT,show ((0:Int)==0)=true from rfl,cT]
  refine E.trans ?_
  rw [U2,show decide (((0+1:Nat):Int) < 2)=true from rfl,cT,show (((0+1:Nat):Int)==0)=false from rfl,cF,show (((0+1:Nat):Int)==1)=true from rfl,cT]
  refine v.trans ?_
  rw [U2,show decide (((1+1:Nat):Int) < 2)=false from rfl,cF,Nat.zero_add,Bool.false_or]
  exact R
 ·unfold TM;simp only [and_assoc]
theorem ZaO {α γ:Type} (xs:List α) (F:Nat->Z7->Int->γ) (j:Z7->γ) (b:Option Z7->(Z7->γ)->γ) (E:∀ c f,b (some c) f=f c)
  (P:Nat->α->Prop) (A:α->List ByteArray) (m:α->Nat) (a0:List Z3) (v:Z3) (B:Nat)
  (G:∀ (n k:Nat) x c,xs[k]? = some x->c.l'=a0->c.p'=v->c.calls'.length+((xs.drop k).map m).sum<=B->∃ o,F (n+1) c (k:Int)=b o (fun C=>F n C ((k+1:Nat):Int))/\Rk o c (P k x) (A x) (m x))
  (H:∀ (n k:Nat) c,xs.length<=k->c.l'=a0->c.p'=v->F (n+1) c (k:Int)=j c) {N:Nat} (hN:xs.length < N) (c:Z7) (s:c.l'=a0) (t:c.p'=v) (hB:c.calls'.length+(xs.map m).sum<=B) :
  ∃ o,F N c (0:Int)=b o j/\Rk o c (∀ (k:Nat) x,xs[k]? = some x->P k x) (xs.flatMap A) (xs.map m).sum:=by
 have key:∀ (l:List α) (k n:Nat) (c:Z7),xs.drop k=l->l.length < n->c.l'=a0->c.p'=v->c.calls'.length+(l.map m).sum<=B ->
   ∃ o,F n c (k:Int)=b o j/\Rk o c (∀ (i:Nat) x,l[i]? = some x->P (k+i) x) (l.flatMap A) (l.map m).sum:=by
  intro l
  induction l with
  | nil =>
   intro k n c h z s t hB
   obtain ⟨n,rfl⟩:=pS n (by simp at z;omega)
   refine ⟨some c,by rw [H n k c (XF h) s t,E],?_⟩
   exact (Rk.skip c).iff (by simp)
  | cons x l T =>
   intro k n c h z s t hB
   obtain ⟨n,rfl⟩:=pS n (by simp at z;omega)
   have ⟨a,e,d⟩:=XE h
   have ⟨o1,w,C,D,g⟩:=G n k x c e s t (by rw [h];exact hB)
   subst D
   rw [E] at w
   rw [List.map_cons,List.sum_cons] at hB
   have ⟨I,L,M⟩:=T (k+1) n C d (by simp at z;omega) (by rw [g.all,s]) (by rw [g.p,t]) (by have:=g.len;omega)
   refine ⟨I,w.trans L,?_⟩
   have ⟨O,R,S⟩:=M
   refine ⟨O,R,(g.seq S).iff ?_⟩
   constructor
   ·rintro ⟨w,D⟩ i y u
    cases i with
    | zero=>simp only [List.getElem?_cons_zero,Option.some.injEq] at u;subst u;exact w
    | succ i=>rw [List.getElem?_cons_succ] at u;have:=D i y u;rwa [show k+(i+1)=k+1+i by omega]
   ·intro q
    refine ⟨q 0 x rfl,fun i y u=>?_⟩
    have:=q (i+1) y (by rw [List.getElem?_cons_succ];exact u)
    rwa [show k+(i+1)=k+1+i by omega] at this
 have:=key xs 0 N c rfl hN s t hB
 simpa using this
def BR (p:Z3):Prop:=∀ (k:Nat) m,p.ZE[k]? = some m->(∀ q∈p.ZE.take k,q.Zt≠m.Zt)/\QC (oM m)
theorem Zql {N:Nat} (c:Z7) (D:Sr N c) (E:∀ m∈c.p'.ZE,m.Zy.length<=4194304/\m.Zz.length<=4194304) :
  Rk (Bj N c) c (BR c.p'/\∀ m∈c.p'.ZE,∀ a∈m.Zz,TM c.p' m a) [] 0:=by
 have hN:=D.n
 have hml:=D.m
 unfold Bj
 -- the atoms
 have k5:∀ d:Z7,d.l'=c.l'->d.p'=c.p'->Rk (Mo N d.l' d.p'.Zt d.p'.ZD d.p'.ZE d.p'.ZF d.calls' d.first'.ZL d.first'.Zt d.first'.ZM) d (∀ m∈c.p'.ZE,∀ a∈m.Zz,TM c.p' m a) [] 0:=by
  intro d A M
  unfold Mo
  have ⟨o,e,g⟩:=ZaO c.p'.ZE (fun n c i=>TJ N n c.l' c.p'.Zt c.p'.ZD c.p'.ZE c.p'.ZF c.calls' c.first'.ZL c.first'.Zt c.first'.ZM i)
   (fun c=>Bl c.l' c.p'.Zt c.p'.ZD c.p'.ZE c.p'.ZF c.calls' c.first'.ZL c.first'.Zt c.first'.ZM) Option.bind (fun _ _=>rfl)
   (fun _ m=>∀ (k:Nat) a,m.Zz[k]? = some a->TM c.p' m a) (fun _=>[]) (fun _=>0) c.l' c.p' d.calls'.length
   (fun n j m x t y p _=>by
    have v:=Yf t
    have ⟨w,O⟩:=E m (Zb t)
    have ⟨o1,W,S⟩:=Lm m.Zz (fun F c i=>Mp N (j:Int) (TJ N n) m F c.l' c.p'.Zt c.p'.ZD c.p'.ZE c.p'.ZF c.calls' c.first'.ZL c.first'.Zt c.first'.ZM i)
     (fun c=>Bm (j:Int) (TJ N n) c.l' c.p'.Zt c.p'.ZD c.p'.ZE c.p'.ZF c.calls' c.first'.ZL c.first'.Zt c.first'.ZM) Option.bind (fun _ _=>rfl)
     (fun _ a=>TM c.p' m a) (fun _=>[]) (fun _=>0) c.l' c.p' x.calls'.length
     (fun F k a z G H u _=>by
      have h:=Zns (N:=N) z m a (D.of H u) (by rw [u];exact fun m I=>(E m I).1) w
      rw [u] at h
      refine ⟨_,?_,h⟩
      simp only [Mp,Ym (Yf G),cT,Yj,G,bS]
      rw [YZ (by have:=Yf G;omega)])
     (fun F k z s=>by simp only [Mp,Yr s,cF]) (N:=N) (by omega) x y p (by rw [XO];omega)
    rw [XO,VG] at S
    refine ⟨o1,?_,S⟩
    simp only [TJ]
    rw [p,Ym v,cT,Yj,t,bS,<- p]
    refine W.trans ?_
    congr 1
    funext z
    unfold Bm
    rw [YZ (by omega)])
   (fun n k x s _ p=>by
    simp only [TJ]
    rw [p,Yr s,cF]) (N:=N) (by omega) d A M (by rw [XO];omega)
  rw [XO,VG] at g
  have e':=e.trans (show (o.bind fun c=>Bl c.l' c.p'.Zt c.p'.ZD c.p'.ZE c.p'.ZF c.calls' c.first'.ZL c.first'.Zt c.first'.ZM)=o from Uk o)
  refine Eq.mp (congrArg (fun o=>Rk o d _ _ _) e'.symm) (g.iff ?_)
  constructor
  ·intro q m I a A
   have ⟨j,v⟩:=List.mem_iff_getElem?.1 I
   have ⟨k,s⟩:=List.mem_iff_getElem?.1 A
   exact q j m v k a s
  ·exact fun q j m v k a s=>q m (Zb v) a (Zb s)
 have ⟨o,e,g⟩:=ZaO c.p'.ZE (fun n d i=>Qr N n d.l' d.p'.Zt d.p'.ZD d.p'.ZE d.p'.ZF d.calls' d.first'.ZL d.first'.Zt d.first'.ZM ((c.p'.ZE.take i.toNat).map fun m=>m.Zt) i)
  (fun c=>Mo N c.l' c.p'.Zt c.p'.ZD c.p'.ZE c.p'.ZF c.calls' c.first'.ZL c.first'.Zt c.first'.ZM) Option.bind (fun _ _=>rfl)
  (fun k m=>(∀ q∈c.p'.ZE.take k,q.Zt≠m.Zt)/\QC (oM m)) (fun _=>[]) (fun _=>0) c.l' c.p' c.calls'.length
  (fun n j m x t y p _=>by
   have ⟨X,Y,Z,cf⟩:=x
   have p:Y=c.p':=p
   subst p
   have v:=Yf t
   have ⟨w,O⟩:=E m (Zb t)
   have B:((c.p'.ZE.take j).map fun m=>m.Zt).length=j:=by rw [List.length_map,List.length_take];omega
   have ⟨z,C,g3⟩:=Rk.test (N:=N) (b:=X3 m.Zt ((c.p'.ZE.take j).map fun m=>m.Zt)) (c:=⟨X,c.p',Z,cf⟩) (nm:=m.Zt) (e:=9) (by decide)
   have ⟨T,U,g4⟩:=ZoR (N:=N) z m (by omega) w
   refine ⟨some T,?_,T,rfl,(g3.seq g4).iff ?_⟩
   ·have hn:((c.p'.ZE.take ((j+1:Nat):Int).toNat).map fun m=>m.Zt)=((c.p'.ZE.take j).map fun m=>m.Zt)++[m.Zt]:=by
     rw [Int.toNat_natCast,GN t,List.map_append];rfl
    simp only [Qr]
    rw [hn,Int.toNat_natCast,Ym v,cT,Yj,t,bS,S9 _ (by omega) (by omega),bS,Ll,YZ (by omega)]
    cases V:X3 m.Zt ((c.p'.ZE.take j).map fun m=>m.Zt) with
    | true =>
     rw [V,cT] at C
     rw [cT,C,bS,Xj (by rw [B];simp;omega),bS,U]
    | false =>
     rw [V,cF] at C
     cases C
     rw [cF,Xj (by rw [B];simp;omega),bS,U]
   ·rw [<- Bool.not_eq_true,W4,List.mem_map]
    constructor
    ·rintro ⟨P,R⟩;exact ⟨fun q L e=>P ⟨q,L,e⟩,R⟩
    ·rintro ⟨P,R⟩;exact ⟨fun ⟨q,L,e⟩=>P q L e,R⟩)
  (fun n k x s _ p=>by
   simp only [Qr]
   rw [p,Yr s,cF]) (N:=N) (by omega) c rfl rfl (by rw [XO];omega)
 rw [XO,VG] at g
 refine Eq.mp (congrArg (fun o=>Rk o c _ _ _) e.symm) ?_
 exact Rk.seq g (f:=fun c=>Mo N c.l' c.p'.Zt c.p'.ZD c.p'.ZE c.p'.ZF c.calls' c.first'.ZL c.first'.Zt c.first'.ZM) (bs:=[]) (m:=0) fun d A M _=>k5 d A M
end Gp
end
section
namespace Gp
open Go Go.Kx Gx
theorem Zim:∀ (l:List ZY) (s:List ByteArray),l.foldl (fun s x=>s++Ti (oI x)) s=s++Xz (oL l)
 | [],s=>by simp [oL,Xz]
 | x::l,s=>by rw [List.foldl_cons,Zim l];simp only [oL,Xz,aA]
theorem Zik:∀ (l:List (List ZY)) (s:List ByteArray),l.foldl (fun s x=>s++Xz (oL x)) s=s++Vl (YP l)
 | [],s=>by simp [YP,Vl]
 | x::l,s=>by rw [List.foldl_cons,Zik l];simp only [YP,Vl,aA]
theorem Zft:∀ (N:Nat) (xs:List ZY),4194306+dL (oL xs)<=N->xs.length<=4194304->bL (oL xs)->cL (oL xs)<=4194304->Rj N xs=some (Xz (oL xs))
 | 0,_,h,_,_,_=>by omega
 | N+1,xs,h,hs,hb,hc=>by
  show Dj N (Rj N) xs=_
  unfold Dj
  have a:∀ (k:Nat) (x:ZY) (s:List ByteArray) (ag:List ByteArray->Int->Option (List ByteArray)),xs[k]? = some x->s.length+Xt (YP x.ZC)<=4194304 ->
    LO N (Rj N) xs (k:Int) ag s=ag (s++Vl (YP x.ZC)) ((k+1:Nat):Int):=by
   intro k x s ag c o
   have v:=Zb c
   have g:=(Uj _).1 (VA hb (WE v))
   rw [X4,S6] at g
   have p:=V5 (WE v)
   rw [V4,X4] at p
   have u:=Yf c
   unfold LO
   have:=(VH x.ZC (PC (Rj N) xs (k:Int) ag) (fun s b=>s++Xz (oL b)) (fun s=>ag s ((k+1:Nat):Int))
    (fun j s=>s.length+Xt (YP (x.ZC.drop j))<=4194304) (fun n j s b hi d=>?_) (fun n j s hi d=>?_) (N:=N) (s:=s) (by omega) (by rw [List.drop_zero];exact o)).1
   ·rw [this,Zik]
   ·rw [TR d] at hi
    simp only [YP,Xt] at hi
    have i:=Zb d
    have f:=UF g.2.2 (Vo i)
    rw [Sd] at f
    have w:=Tk (Vo i)
    have q:=MR (oL b)
    have e:=Zft N b (by omega) f.1 f.2 (by omega)
    refine ⟨?_,by rw [lA];omega⟩
    simp only [PC,Yj,c,bS,Ym (Yf d),cT,d,e]
    rw [Xj (by omega),bS,YE (by have:=Yf d;omega)]
   ·simp only [PC,Yj,c,bS,Yr d,cF,ZbB]
    rw [YE (by omega)]
  have:=(VH xs (TC N (Rj N) xs) (fun s x=>s++Ti (oI x)) (fun s=>some s)
   (fun j s=>s.length+cL (oL (xs.drop j))<=4194304) (fun n k s x hi c=>?_) (fun n k s hi u=>?_) (N:=N) (s:=[]) (by omega) (by rw [List.drop_zero];simpa using hc)).1
  ·rw [this,Zim];simp
  ·rw [TR c] at hi
   simp only [oL,cL] at hi
   have t:=RJ (oI x)
   have q:=Zej (oI x)
   rw [X4] at t
   have eK:(oI x).Zq=x.Zq:=by rw [Wl]
   have y:(oI x).Zt=x.Zt:=by rw [Wl]
   refine ⟨?_,by rw [lA];omega⟩
   simp only [TC,Ym (Yf c),cT,Yj,c,bS]
   rw [Zii,X4]
   unfold QW
   rw [eK,y]
   by_cases m:x.Zq=6
   ·rw [show (x.Zq==(6:Int))=true by simpa using m,cT,Xj (by simp;omega),bS,a k x _ _ c (by simp;omega),if_pos m,aA]
   ·rw [show (x.Zq==(6:Int))=false by simpa using m,cF,a k x _ _ c (by omega),if_neg m,List.nil_append]
  ·simp only [TC,Yr u,cF,ZbA]
def Vy (l:List Z3):Nat->ByteArray->Prop
 | 0,a=>∃ q,l.find? (fun m=>m.Zt.toList==a.toList)=some q/\Xz (oL q.ZF)≠[]
 | k+1,a=>∃ q,l.find? (fun m=>m.Zt.toList==a.toList)=some q/\∃ b∈Xz (oL q.ZF),Vy l k b
structure Zr (N:Nat) (l:List Z3):Prop where
 len:l.length<=4194304
 p:∀ p∈l,RP p/\8388611+dL (oL p.ZF)<=N/\dL (oL p.ZF)<=4194304
 c:∀ p∈l,cL (oL p.ZF)<=4194304
 n:8388611 < N
theorem Zp4 {y:Nat} {l:List Z3} (d:Zr y l):∀ (k N:Nat) (a:ByteArray),k<=4->y<=N+1000-k->∃ b,Qt (N+1) l a (k:Int)=some b/\(b=true↔Vy l k a):=by
 intro k
 induction k with
 | zero =>
  intro N a I hN
  have i:=d.n
  show ∃ b,Mr N (Qt N) l a ((0:Nat):Int)=some b/\_
  unfold Mr
  rw [Zfx l a d.len (by omega),bS]
  cases f:l.find? (fun m=>m.Zt.toList==a.toList) with
  | none =>
   refine ⟨false,rfl,?_⟩
   unfold Vy
   rw [f];simp
  | some q =>
   have o:=List.mem_of_find?_eq_some f
   have ⟨s,B,C⟩:=d.p q o
   have e:Zbz N q.ZF=_:=Zft N q.ZF (by omega) (MH s) s.b (d.c q o)
   simp only [Option.elim_some,Zg,cF]
   rw [e,bS]
   obtain ⟨M,rfl⟩:∃ M,N=M+1:=⟨N-1,by omega⟩
   have u:Vy l 0 a↔Xz (oL q.ZF)≠[]:=by
    unfold Vy
    rw [f]
    exact ⟨fun ⟨A,h,g⟩=>by cases h;exact g,fun g=>⟨q,rfl,g⟩⟩
   rw [Qs]
   cases z:Xz (oL q.ZF) with
   | nil=>exact ⟨false,rfl,by rw [u,z];simp⟩
   | cons x r =>
    refine ⟨true,?_,by rw [u,z];simp⟩
    rw [show decide ((0:Int) < ((x::r).length:Int))=true by simp];rfl
 | succ k R =>
  intro N a I hN
  have i:=d.n
  show ∃ b,Mr N (Qt N) l a ((k+1:Nat):Int)=some b/\_
  unfold Mr
  rw [Zfx l a d.len (by omega),bS]
  cases f:l.find? (fun m=>m.Zt.toList==a.toList) with
  | none =>
   refine ⟨false,rfl,?_⟩
   unfold Vy
   rw [f];simp
  | some q =>
   have o:=List.mem_of_find?_eq_some f
   have ⟨s,B,C⟩:=d.p q o
   have e:Zbz N q.ZF=_:=Zft N q.ZF (by omega) (MH s) s.b (d.c q o)
   simp only [Option.elim_some,Zg,cF]
   rw [e,bS]
   have L:=MR (oL q.ZF)
   have O:=d.c q o
   have u:Vy l (k+1) a↔∃ b∈Xz (oL q.ZF),Vy l k b:=by
    rw [Vy,f]
    exact ⟨fun ⟨A,h,g⟩=>by cases h;exact g,fun g=>⟨q,rfl,g⟩⟩
   have key:∀ (r:List ByteArray) (j n:Nat),(Xz (oL q.ZF)).drop j=r->r.length < n->∃ b,Qs (Qt N) l ((k+1:Nat):Int) (Xz (oL q.ZF)) n (j:Int)=some b/\(b=true↔∃ x∈r,Vy l k x):=by
    intro r
    induction r with
    | nil =>
     intro j n h i
     obtain ⟨n,rfl⟩:=pS n (by simp at i;omega)
     exact ⟨false,by simp only [Qs,Yr (XF h),cF,Zdg],by simp⟩
    | cons x r w =>
     intro j n h i
     obtain ⟨n,rfl⟩:=pS n (by simp at i;omega)
     have ⟨a2,D,E⟩:=XE h
     obtain ⟨M,rfl⟩:∃ M,N=M+1:=⟨N-1,by omega⟩
     have ⟨b,v,t⟩:=R M x (by omega) (by omega)
     simp only [Qs,Ym a2,cT,Yj,D,bS]
     rw [show (((k+1:Nat):Int)==0)=false by simp;omega,cF,show ZN (((k+1:Nat):Int)-1)=(k:Int) by rw [Xn (by omega) (by omega)];omega,v,bS]
     cases b with
     | true=>exact ⟨true,rfl,by simp [t.1 rfl]⟩
     | false =>
      have ⟨F,G,H⟩:=w (j+1) n E (by simp at i;omega)
      rw [cF,YE (by omega)]
      have P:¬ Vy l k x:=fun h=>by have:=t.2 h;cases this
      exact ⟨F,G,by rw [H];simp [P]⟩
   have ⟨b,v,t⟩:=key _ 0 N rfl (by rw [List.drop_zero];omega)
   exact ⟨b,v,by rw [t,u];simp⟩
structure BQ (l:List Z3) (i:Nat) (p:Z3):Prop where
 name:∀ q∈l.take i,q.Zt≠p.Zt
 roles:∀ (k:Nat) x,p.ZD[k]? = some x->x ∉ p.ZD.take k
 sorts:BR p
 atoms:∀ m∈p.ZE,∀ a∈m.Zz,TM p m a
 items:Uu (l.map oP) (oP p) [] 0 0 (oL p.ZF)
 calls:VI [] (VY (oL p.ZF))
 chain:¬ Vy l 4 p.Zt
theorem ZrX {N:Nat} (l:List Z3) (t:Zr N l) (i:Nat) (p:Z3) (o:l[i]? = some p) (ag:Int->Option T9) :
  ∃ c':Z7,Rv N l (i:Int) ag N l p.Zt p.ZD p.ZE p.ZF ([]:List ByteArray) (str []) (str []) (0:Int) (0:Int) =
   (bif (c'.first'.ZM != (0:Int)) then some c'.first' else ag ((i+1:Nat):Int))/\(c'.first'.ZM=0↔BQ l i p):=by
 have hN:=t.n
 have hl:=t.len
 have hil:=Yf o
 have ⟨u,P,R⟩:=t.p p (Zb o)
 have hcp:=t.c p (Zb o)
 have z:p.ZD.length<=4194304:=u.r
 have A:p.ZE.length<=4194304:=by have:=u.m;rw [show (oP p).ZE=p.ZE.map oM from rfl,List.length_map] at this;exact this
 have B:∀ m∈p.ZE,m.Zy.length<=4194304/\m.Zz.length<=4194304:=fun m hm=>by
  have:=u.ms (oM m) (List.mem_map.2 ⟨m,hm,rfl⟩)
  have ⟨S,F⟩:=this
  exact ⟨S,by rw [show (oM m).Zz=m.Zz.map oA from rfl,List.length_map] at F;exact F⟩
 have Z:(l.take i).length=i:=by rw [List.length_take];omega
 obtain ⟨T,d⟩:∃ T:Z7,T=⟨l,p,[],⟨str [],str [],0⟩⟩:=⟨_,rfl⟩
 -- the name
 have ⟨o1,e1,f,U,v⟩:=ZaO (l.take i) (fun n c L=>Rv N l (i:Int) ag n c.l' c.p'.Zt c.p'.ZD c.p'.ZE c.p'.ZF c.calls' c.first'.ZL c.first'.Zt c.first'.ZM L)
  (fun c=>Hk N l (i:Int) ag c.l' c.p'.Zt c.p'.ZD c.p'.ZE c.p'.ZF c.calls' c.first'.ZL c.first'.Zt c.first'.ZM) Option.bind (fun _ _=>rfl)
  (fun k q=>q.Zt≠p.Zt) (fun _=>[]) (fun _=>0) l p 0
  (fun n k q c E O g _=>by
   have ⟨V,W⟩:=Zlz E
   refine ⟨bif (q.Zt.toList==p.Zt.toList) then z53 N c p.Zt 9 else some c,?_,(Rk.test (by decide)).iff ?_⟩
   ·simp only [Rv,Ym V,cT,Yj,W,bS]
    rw [YZ (by omega),g]
    cases (q.Zt.toList==p.Zt.toList)<;>rw [<- g]<;>rfl
   ·rw [<- Bool.not_eq_true,Wh])
  (fun n k c h _ _=>by rw [Z] at h;simp only [Rv,Yr h,cF]) (N:=N) (by omega) T (by rw [d]) (by rw [d]) (by rw [d,XO];exact Zo _)
 subst U
 rw [XO,VG] at v
 have a1:f.l'=l:=by rw [v.all,d]
 have p1:f.p'=p:=by rw [v.p,d]
 -- the roles
 have ⟨o2,e2,a,X,w⟩:=ZaO p.ZD (fun n c L=>Qn N l (i:Int) ag n c.l' c.p'.Zt c.p'.ZD c.p'.ZE c.p'.ZF c.calls' c.first'.ZL c.first'.Zt c.first'.ZM L)
  (fun c=>Hj N l (i:Int) ag c.l' c.p'.Zt c.p'.ZD c.p'.ZE c.p'.ZF c.calls' c.first'.ZL c.first'.Zt c.first'.ZM) Option.bind (fun _ _=>rfl)
  (fun k x=>x ∉ p.ZD.take k) (fun _=>[]) (fun _=>0) f.l' f.p' f.calls'.length
  (fun n k x c E O g _=>by
   have h:=Yf E
   refine ⟨bif X3 x (p.ZD.take k) then z53 N c x 9 else some c,?_,(Rk.test (by decide)).iff ?_⟩
   ·have j:c.p'.ZD=p.ZD:=by rw [g,p1]
    simp only [Qn]
    rw [j,Ym h,cT,Sa (Nat.le_of_lt h),bS,Yj,E,bS,S9 _ (by rw [List.length_take];omega) (by rw [List.length_take];omega),bS,Ll,YZ (by omega),bS,<- j]
    cases X3 x (c.p'.ZD.take k)<;>rfl
   ·rw [<- Bool.not_eq_true,W4])
  (fun n k c h _ g=>by
   have j:c.p'.ZD=p.ZD:=by rw [g,p1]
   simp only [Qn]
   rw [j,Yr h,cF,<- j]) (N:=N) (by omega) f rfl rfl (by rw [XO];omega)
 subst X
 rw [XO,VG] at w
 have a2:a.l'=l:=by rw [w.all,a1]
 have I:a.p'=p:=by rw [w.p,p1]
 have sz:∀ c:Z7,c.l'=l->c.p'=p->Sr N c:=fun c O o=>⟨by rw [o];exact z,by rw [o];exact A,by rw [O];exact hl,by omega⟩
 have ⟨s,e3,G⟩:=Zql (N:=N) a (sz a a2 I) (by rw [I];exact B)
 have a3:s.l'=l:=by rw [G.all,a2]
 have C:s.p'=p:=by rw [G.p,I]
 have l3:s.calls'.length<=0:=by
  have D:=v.len;have h2:=w.len;have h3:=G.len
  rw [d] at D
  simp only [List.length_nil] at D
  omega
 have ⟨y,e4,Y⟩:=ZjN N s p.ZF [] 0 0 ⟨by rw [C];exact z,by rw [C];exact A,by rw [a3];exact hl,by omega⟩ P (MH u) u.b (by simpa using R) (Nat.zero_le _) (by omega)
 have a4:y.l'=l:=by rw [Y.all,a3]
 have p4:y.p'=p:=by rw [Y.p,C]
 obtain ⟨M,rfl⟩:∃ M,N=M+1:=⟨N-1,by omega⟩
 have ⟨b,b1,b2⟩:=Zp4 t 4 M p.Zt (by omega) (by omega)
 have ⟨c5,H,g5⟩:=Rk.test (N:=M+1) (b:=b) (c:=y) (nm:=p.Zt) (e:=6) (by decide)
 refine ⟨c5,?_,?_⟩
 ·have D:=e1
  rw [d] at D
  refine D.trans ?_
  show Hk (M+1) l (i:Int) ag f.l' f.p'.Zt f.p'.ZD f.p'.ZE f.p'.ZF f.calls' f.first'.ZL f.first'.Zt f.first'.ZM=_
  unfold Hk
  refine e2.trans ?_
  show Hj (M+1) l (i:Int) ag a.l' a.p'.Zt a.p'.ZD a.p'.ZE a.p'.ZF a.calls' a.first'.ZL a.first'.Zt a.first'.ZM=_
  unfold Hj
  rw [show (⟨a.l',⟨a.p'.Zt,a.p'.ZD,a.p'.ZE,a.p'.ZF⟩,a.calls',⟨a.first'.ZL,a.first'.Zt,a.first'.ZM⟩⟩:Z7)=a from rfl,e3,bS]
  have e4':z56 (M+1) s s.p'.ZF [] 0 0=some y:=by rw [C];exact e4
  have b1':z57 (M+1) l y.p'.Zt 4=some b:=by rw [p4];exact b1
  rw [e4',bS,b1',bS]
  unfold DX
  rw [YZ (by omega),p4]
  cases b with
  | true =>
   rw [cT] at H
   rw [cT,H];rfl
  | false =>
   rw [cF] at H
   cases H
   rfl
 ·have h6:=(((((v.seq w).seq G).seq Y).seq g5)).err
  rw [h6,a3,C,I,d,<- Bool.not_eq_true,b2]
  simp only [List.append_nil,List.nil_append,true_and]
  constructor
  ·rintro ⟨⟨⟨⟨⟨S,F⟩,q3,q4⟩,q5⟩,q6⟩,q7⟩
   refine ⟨fun q hq=>?_,F,q3,q4,q5,q7,q6⟩
   have ⟨k,h⟩:=List.mem_iff_getElem?.1 hq
   exact S k q h
  ·exact fun q=>⟨⟨⟨⟨⟨fun k x h=>q.name x (Zb h),q.roles⟩,q.sorts,q.atoms⟩,q.items⟩,q.chain⟩,q.calls⟩
theorem Zrw {N:Nat} (l:List Z3) (j:Zr N l) (f:∀ p∈l,nL (oL p.ZF)/\∀ m∈p.ZE,nM (oM m)) :
  ∃ r,P9 N l=some r/\(r.ZM=0↔QF (l.map oP)/\∀ (i:Nat) p,l[i]? = some p->BQ l i p):=by
 have hN:=j.n
 have C:=j.len
 have ⟨v,A,v2⟩:=Zr2 (N:=N) (by omega) l C fun p s=>⟨(j.p p s).1,by have:=(j.p p s).2.1;omega,by have:=j.c p s;omega,(f p s).1,(f p s).2⟩
 unfold P9
 rw [A,bS]
 cases v with
 | false=>exact ⟨_,rfl,by constructor;(intro h;cases h);(intro h;have:=v2.2 h.1;cases this)⟩
 | true =>
  have D:=v2.1 rfl
  rw [Zg,cF]
  have key:∀ (m:List Z3) (k n:Nat),l.drop k=m->m.length < n->∃ r,VS N l n (k:Int)=some r/\(r.ZM=0↔∀ (i:Nat) p,m[i]? = some p->BQ l (k+i) p):=by
   intro m
   induction m with
   | nil =>
    intro k n h f
    obtain ⟨n,rfl⟩:=pS n (by simp at f;omega)
    exact ⟨_,by simp only [VS,Yr (XF h),cF];rfl,by simp⟩
   | cons p m E =>
    intro k n h f
    obtain ⟨n,rfl⟩:=pS n (by simp at f;omega)
    have ⟨a,e,d⟩:=XE h
    have ⟨t,B,z⟩:=ZrX l j k p e (VS N l n)
    have b:VS N l (n+1) (k:Int)=(bif (t.first'.ZM != (0:Int)) then some t.first' else VS N l n ((k+1:Nat):Int)):=by
     rw [<- B]
     simp only [VS,Ym a,cT,Yj,e,bS]
    by_cases u:t.first'.ZM=0
    ·have ⟨r,x,w⟩:=E (k+1) n d (by simp at f;omega)
     rw [show (t.first'.ZM != (0:Int))=false by simpa using u,cF] at b
     have y:=z.1 u
     refine ⟨r,b.trans x,?_⟩
     rw [w]
     constructor
     ·intro g i q o
      cases i with
      | zero=>simp only [List.getElem?_cons_zero,Option.some.injEq] at o;subst o;exact y
      | succ i=>rw [List.getElem?_cons_succ] at o;have:=g i q o;rwa [show k+(i+1)=k+1+i by omega]
     ·intro g i q o
      have:=g (i+1) q (by rw [List.getElem?_cons_succ];exact o)
      rwa [show k+(i+1)=k+1+i by omega] at this
    ·rw [show (t.first'.ZM != (0:Int))=true by simpa using u,cT] at b
     refine ⟨_,b,?_⟩
     constructor
     ·exact fun g=>absurd g u
     ·exact fun g=>absurd (z.2 (g 0 p rfl)) u
  have ⟨r,x,w⟩:=key l 0 N rfl (by omega)
  simp only [Nat.zero_add] at w
  exact ⟨r,x,by rw [w];simp [D]⟩
end Gp
end
section
namespace Gp
open Go Go.Kx Gx
def WB (ls:List ByteArray) (re ta:Nat):List Yv:=ls.mapIdx fun i n=>⟨n,decide (ta<=i),decide (i < re)⟩
theorem Zd9 (ls re ta):(WB ls re ta).length=ls.length:=by unfold WB;rw [List.length_mapIdx]
theorem SN (a:List ByteArray) (b c i:Nat):(WB a b c)[i]? = (a[i]?).map fun n=>⟨n,decide (c<=i),decide (i < b)⟩:=by unfold WB;rw [List.getElem?_mapIdx]
theorem Znh (a:List ByteArray) (c d:Nat) (b:Bool):R4 b (WB a c d)=WB a c (if b=true then d else a.length):=by
 apply List.ext_getElem?
 intro i
 unfold R4
 rw [List.getElem?_map,SN,SN]
 cases h:a[i]? with
 | none=>rfl
 | some n =>
  have hi:=Yf h
  cases b with
  | true=>simp
  | false=>simp;omega
theorem Zne (a:List ByteArray) (c b:Nat):Uo true (WB a c b)=WB a a.length b:=by
 apply List.ext_getElem?
 intro i
 unfold Uo
 rw [List.getElem?_map,SN,SN]
 cases h:a[i]? with
 | none=>rfl
 | some n =>
  have hi:=Yf h
  simp [hi]
theorem ZjB (a:List Yv):Uo false a=a:=by
 unfold Uo
 rw [List.map_congr_left (g:=id) (fun o _=>by simp),List.map_id]
theorem Zng (a:List ByteArray) (b c:Nat) (n:ByteArray) (e:b<=a.length) (d:c<=a.length):WB (a++[n]) b c=WB a b c++[⟨n,true,false⟩]:=by
 unfold WB
 rw [List.mapIdx_append]
 congr 1
 simp only [List.mapIdx_cons,List.mapIdx_nil,Nat.zero_add]
 rw [dT d,dF (by omega)]
theorem Znf (a:List ByteArray) (d e:Nat) (x:ZS) (f:d<=a.length) (g:e<=a.length):RL (WB a d e) x=WB (UX a x) (Rc a d x) e:=by
 unfold RL UX Rc
 by_cases b:x.Zq=3
 ·rw [if_pos b,if_pos b,if_neg (by omega),show (x.Zq==(5:Int))=false by simp;omega,ZjB,Zng _ _ _ _ f g]
 ·rw [if_neg b,if_neg b]
  by_cases c:x.Zq=5
  ·rw [show (x.Zq==(5:Int))=true by simpa using c,if_pos c,Zne]
  ·rw [show (x.Zq==(5:Int))=false by simpa using c,if_neg c,ZjB]
theorem Zkn {d:List ByteArray} (c:d.Nodup) {i j:Nat} {n:ByteArray} (hi:d[i]? = some n) (g:d[j]? = some n):i=j:=by
 have ⟨a,e⟩:=List.getElem?_eq_some_iff.1 hi
 have ⟨b,f⟩:=List.getElem?_eq_some_iff.1 g
 rcases Nat.lt_trichotomy i j with h | h | h
 ·rw [List.nodup_iff_pairwise_ne,List.pairwise_iff_getElem] at c
  exact absurd (e.trans f.symm) (c i j a b h)
 ·exact h
 ·rw [List.nodup_iff_pairwise_ne,List.pairwise_iff_getElem] at c
  exact absurd (f.trans e.symm) (c j i b a h)
theorem ZhZ {a:List ByteArray} (c:a.Nodup) {i:Nat} {n:ByteArray} (hi:a[i]? = some n):Y6 (fun y=>y.toList==n.toList) a=(i:Int):=by
 rcases Th (fun y:ByteArray=>y.toList==n.toList) a with ⟨_,b⟩ | ⟨j,x,d,b,e⟩
 ·rw [List.find?_eq_none] at b
  exact absurd (Wh.2 rfl) (b n (Zb hi))
 ·have f:(x.toList==n.toList)=true:=List.find?_some (p:=fun y:ByteArray=>y.toList==n.toList) e
  have:x=n:=Wh.1 f
  subst this
  rw [d,Zkn c hi b]
theorem Zni (b:List ByteArray) (a c:Nat) (n:ByteArray) (u:b.Nodup):HX (WB b a c) n↔n∈b.drop a/\(c:Int)<=Y6 (fun y=>y.toList==n.toList) b:=by
 unfold HX
 constructor
 ·rintro ⟨o,q,s⟩
  rw [List.find?_eq_some_iff_getElem] at q
  have ⟨f,i,hi,z,_⟩:=q
  have h:(WB b a c)[i]? = some o:=by rw [Za hi,z]
  rw [SN] at h
  cases t:b[i]? with
  | none=>rw [t] at h;cases h
  | some m =>
   rw [t] at h
   cases h
   simp only at s f
   cases x:(m.toList==n.toList) with
   | false=>rw [x] at f;cases f
   | true =>
    have:=Wh.1 x
    subst this
    rw [x,cT] at f
    have A:a<=i:=by simpa using f
    have B:c<=i:=by simpa using s
    rw [ZhZ u t]
    refine ⟨?_,by omega⟩
    rw [List.mem_iff_getElem?]
    exact ⟨i-a,by rw [List.getElem?_drop,show a+(i-a)=i by omega];exact t⟩
 ·rintro ⟨q,s⟩
  have ⟨k,g⟩:=List.mem_iff_getElem?.1 q
  rw [List.getElem?_drop] at g
  rw [ZhZ u g] at s
  have d:=Yf g
  refine ⟨⟨n,decide (c<=a+k),decide (a+k < a)⟩,?_,by simp;omega⟩
  rw [List.find?_eq_some_iff_getElem]
  refine ⟨by rw [Wh.2 rfl];simp,a+k,by rw [Zd9];exact d,?_,fun j D=>?_⟩
  ·have:=SN b a c (a+k)
   rw [g,Za (by rw [Zd9];exact d)] at this
   exact Zk this
  ·have v:j < (WB b a c).length:=by rw [Zd9];omega
   have:=SN b a c j
   rw [Za v] at this
   have p:j < b.length:=by omega
   rw [Za p] at this
   have:=Zk this
   rw [this]
   have w:¬ b[j]=n:=fun e=>by
    have:=Zkn u (Za p) (by rw [e];exact g)
    omega
   rw [show (b[j].toList==n.toList)=false from by
    cases C:(b[j].toList==n.toList) with
    | false=>rfl
    | true=>exact absurd (Wh.1 C) w]
   rfl
theorem Zpf (all p) (a:List ByteArray) (b c:Nat) (x:ZS) (f:a.Nodup):UC all p (WB a b c) x↔UE all p a b c x:=by
 have k:(∀ o∈WB a b c,o.name'≠x.Zt)↔x.Zt ∉ a:=by
  constructor
  ·intro h g
   have ⟨i,hi⟩:=List.mem_iff_getElem?.1 g
   have:=SN a b c i
   rw [hi] at this
   exact h _ (Zb this) rfl
  ·intro h o j e
   have ⟨i,hi⟩:=List.mem_iff_getElem?.1 j
   rw [SN] at hi
   cases d:a[i]? with
   | none=>rw [d] at hi;cases hi
   | some m =>
    rw [d] at hi
    cases hi
    exact h (by rw [<- e];exact Zb d)
 unfold UC UE
 rw [k,Zni a b c x.Zt f]
mutual
theorem Zrb (all p):∀ (x:ZS) ls re ta,ls.Nodup->re<=ls.length->ta<=ls.length->(Ra all p ls re ta x↔Se all p (WB ls re ta) x)
 | ⟨k,f,t,n,a,z,b⟩,ls,re,ta,hn,hr,ht=>by
  rw [Zk3,Zfc,Zpf _ _ _ _ _ _ hn,Znf _ _ _ _ hr ht]
  refine and_congr_right fun g=>?_
  have c:(UX ls ⟨k,f,t,n,a,z,b⟩).Nodup:=by
   unfold UX
   split
   ·rename_i i
    rw [List.nodup_append]
    refine ⟨hn,by simp,fun a h b d=>?_⟩
    rw [List.mem_singleton] at d
    subst d
    intro e
    subst e
    exact g.2.2.1 i h
   ·exact hn
  have j:ls.length<=(UX ls ⟨k,f,t,n,a,z,b⟩).length:=by unfold UX;split<;>simp
  exact ZkB all p b _ _ ta c (by unfold Rc;split<;>omega) (by omega)
theorem Zfe (all p):∀ (xs:List ZS) ls re ta,ls.Nodup->re<=ls.length->ta<=ls.length->(Uu all p ls re ta xs↔Vc all p (WB ls re ta) xs)
 | [],_,_,_,_,_,_=>by simp only [Uu,Vc]
 | x::xs,ls,re,ta,hn,hr,ht=>by
  simp only [Uu,Vc]
  rw [Znh]
  rw [Zrb all p x ls re _ hn hr (by split<;>omega),Zfe all p xs ls re ta hn hr ht]
theorem ZkB (all p):∀ (xs:List (List ZS)) ls re ta,ls.Nodup->re<=ls.length->ta<=ls.length->(Sf all p ls re ta xs↔UU all p (WB ls re ta) xs)
 | [],_,_,_,_,_,_=>by simp only [Sf,UU]
 | x::xs,ls,re,ta,hn,hr,ht=>by
  simp only [Sf,UU]
  rw [Zfe all p x ls re ta hn hr ht,ZkB all p xs ls re ta hn hr ht]
end
mutual
theorem ZnL {l:List ZT} {p:ZT}:∀ (x:ZS) ls,Se l p ls x->∀ a∈Ti x,∃ q∈l,q.Zt=a
 | ⟨k,f,t,n,a,z,b⟩,ls,h,c,d=>by
  rw [Zfc] at h
  simp only [Ti] at d
  rcases List.mem_append.1 d with d | d
  ·unfold QW at d
   split at d
   ·rename_i g
    rw [List.mem_singleton] at d
    subst d
    have ⟨q,e,_⟩:=h.1.2.2.2.2 g
    exact ⟨q,(Zjn e).1,(Zjn e).2⟩
   ·cases d
  ·exact Zie b _ h.2 c d
theorem B3 {l:List ZT} {p:ZT}:∀ (xs:List ZS) ls,Vc l p ls xs->∀ a∈Xz xs,∃ q∈l,q.Zt=a
 | [],_,_,_,b=>by cases b
 | x::xs,ls,h,c,b=>by
  simp only [Vc] at h
  simp only [Xz] at b
  rcases List.mem_append.1 b with b | b
  ·exact ZnL x _ h.1 c b
  ·exact B3 xs _ h.2 c b
theorem Zie {l:List ZT} {p:ZT}:∀ (xs:List (List ZS)) ls,UU l p ls xs->∀ a∈Vl xs,∃ q∈l,q.Zt=a
 | [],_,_,_,b=>by cases b
 | x::xs,ls,h,c,b=>by
  simp only [UU] at h
  simp only [Vl] at b
  rcases List.mem_append.1 b with b | b
  ·exact B3 x _ h.1 c b
  ·exact Zie xs _ h.2 c b
end
theorem ZkG {l:List ZT}:∀ (n:Nat) (a c:ByteArray),SK l (n+1) a c->∃ b,ME l a b/\SK l n b c
 | 0,a,c,⟨b,e,h2⟩=>by
  have e:a=b:=e
  subst e
  exact ⟨c,h2,rfl⟩
 | n+1,a,c,⟨d,e,h2⟩=>by
  have ⟨b,f,g⟩:=ZkG n a d e
  exact ⟨b,f,d,g,h2⟩
theorem ZoV (l:List Z3) (a:ByteArray):(l.map oP).find? (fun q=>q.Zt.toList==a.toList)=(l.find? (fun q=>q.Zt.toList==a.toList)).map oP:=by rw [Zap];rfl
theorem Zj4 (l:List Z3) (o:∀ p∈l,∀ b∈Xz (oL p.ZF),∃ q∈l.map oP,q.Zt=b):∀ (k:Nat) (a:ByteArray),Vy l k a↔∃ b,SK (l.map oP) (k+1) a b:=by
 have f:∀ a b,ME (l.map oP) a b↔∃ q,l.find? (fun m=>m.Zt.toList==a.toList)=some q/\b∈Xz (oL q.ZF):=by
  intro a b
  unfold ME
  rw [ZoV]
  constructor
  ·rintro ⟨⟨q,d,e⟩,_⟩
   cases j:l.find? (fun m=>m.Zt.toList==a.toList) with
   | none=>rw [j] at d;cases d
   | some u=>rw [j] at d;cases d;exact ⟨u,rfl,e⟩
  ·rintro ⟨q,d,e⟩
   exact ⟨⟨oP q,by rw [d];rfl,e⟩,o q (List.mem_of_find?_eq_some d) b e⟩
 intro k
 induction k with
 | zero =>
  intro a
  unfold Vy
  constructor
  ·rintro ⟨q,d,e⟩
   have ⟨b,s⟩:=List.exists_mem_of_ne_nil _ e
   exact ⟨b,a,rfl,(f a b).2 ⟨q,d,s⟩⟩
  ·rintro ⟨b,c,d,e⟩
   have d:a=c:=d
   subst d
   have ⟨q,g,h⟩:=(f _ b).1 e
   exact ⟨q,g,List.ne_nil_of_mem h⟩
 | succ k n =>
  intro a
  rw [Vy]
  constructor
  ·rintro ⟨q,d,b,e,t⟩
   have ⟨c,i⟩:=(n b).1 t
   exact ⟨c,ZkH ((f a b).2 ⟨q,d,e⟩) _ c i⟩
  ·rintro ⟨c,i⟩
   have ⟨b,g,h⟩:=ZkG _ a c i
   have ⟨q,d,e⟩:=(f a b).1 g
   exact ⟨q,d,b,e,(n b).2 ⟨c,h⟩⟩
theorem ZpQ (p:Z3) (m:Yg) (t:Yq):kd (oP p) (oM m) t=(XB p m t).elim 0 fun f=>f.Zu.Zq:=by
 have a:∀ fs,S2 fs t=(MZ fs t).elim 0 fun f=>f.Zu.Zq:=by
  intro fs
  unfold S2 MZ
  cases fs.find? (fun f=>f.Zt.toList==t.Field.toList)<;>rfl
 unfold kd XB
 cases (!(t.Zv.toList==(str []).toList)) with
 | false=>rw [cF,cF];exact a _
 | true =>
  rw [cT,cT]
  have:(oP p).ZE.find? (fun q=>q.Zt.toList==t.Zv.toList)=(p.ZE.find? (fun q=>q.Zt.toList==t.Zv.toList)).map oM:=by
   show (p.ZE.map oM).find? _=_
   rw [Zap];rfl
  rw [this]
  cases p.ZE.find? (fun q=>q.Zt.toList==t.Zv.toList) with
  | none=>rfl
  | some q=>exact a q.Zy
theorem ZoN {p:Z3} {m:Yg} {t:Yq} {f} (c:m∈p.ZE) (h:XB p m t=some f):∃ m∈p.ZE,f∈m.Zy:=by
 unfold XB at h
 cases b:(!(t.Zv.toList==(str []).toList)) with
 | false=>rw [b,cF] at h;exact ⟨m,c,List.mem_of_find?_eq_some h⟩
 | true =>
  rw [b,cT] at h
  cases a:p.ZE.find? (fun q=>q.Zt.toList==t.Zv.toList) with
  | none=>rw [a] at h;cases h
  | some q=>rw [a] at h;exact ⟨q,List.mem_of_find?_eq_some a,List.mem_of_find?_eq_some h⟩
theorem Zlm {p:Z3} {m:Yg} (t:Yq) (e:m∈p.ZE) (g:∀ m∈p.ZE,∀ f∈m.Zy,f.Zu.Zq≠0) :
  (((!(t.Zq==1) && (XB p m t).isNone)=false)↔(t.Zq=1\/kd (oP p) (oM m) t≠0))/\VN t (XB p m t)=WH (oP p) (oM m) t /\
  ((!(t.Zq==1) && (XB p m t).isNone)=false->(Tv t (XB p m t)=false↔(t.Zq=3->Vb (oP p) (oM m) t=2))):=by
 unfold VN Tv WH Vb
 rw [ZpQ]
 cases h:XB p m t with
 | none =>
  refine ⟨by simp,?_,fun i=>?_⟩
  ·simp only [Option.elim_none]
   cases (t.Zq==2)<;>cases (t.Zq==1)<;>rfl
  ·have b:t.Zq=1:=by simpa using i
   simp [b]
 | some f =>
  have ⟨m',b,c⟩:=ZoN e h
  have d:=g m' b f c
  refine ⟨by simp [d],?_,fun _=>?_⟩
  ·simp only [Option.elim_some]
   by_cases c:t.Zq=2
   ·rw [show (t.Zq==(1:Int))=false by simp;omega];rfl
   ·rw [show (t.Zq==(2:Int))=false by simpa using c];rfl
  ·simp only [Option.elim_some]
   by_cases a:t.Zq=3
   ·rw [show (t.Zq==(1:Int))=false by simp;omega,show (t.Zq==(3:Int))=true by simpa using a]
    simp [a]
   ·rw [show (t.Zq==(3:Int))=false by simpa using a]
    simp [a]
theorem Zh0 {p:Z3} {m:Yg} (a:Wu) (j:m∈p.ZE) (k:∀ m∈p.ZE,∀ f∈m.Zy,f.Zu.Zq≠0):TM p m a↔Td (oP p) (oM m) (oA a):=by
 have ⟨q,s,n⟩:=Zlm a.Zw j k
 have ⟨t,u,o⟩:=Zlm a.Zx j k
 have w:=ZaT a.Zw (XB p m a.Zw)
 have x:=ZaT a.Zx (XB p m a.Zx)
 unfold TM Td
 show _↔(a.Zw.Zq=1\/kd (oP p) (oM m) a.Zw≠0)/\(a.Zx.Zq=1\/kd (oP p) (oM m) a.Zx≠0)/\(a.Zw.Zq=3->Vb (oP p) (oM m) a.Zw=2)/\(a.Zx.Zq=3->Vb (oP p) (oM m) a.Zx=2) /\
  (WH (oP p) (oM m) a.Zw+WH (oP p) (oM m) a.Zx≠1)/\(WH (oP p) (oM m) a.Zw+WH (oP p) (oM m) a.Zx=2->a.Op=str [61,61]/\a.Zw.N=0/\a.Zx.N=0)
 rw [<- s,<- u,<- q,<- t,Bool.or_eq_false_iff]
 constructor
 ·rintro ⟨b,c,⟨d,g⟩,i⟩
  refine ⟨b,c,(n b).1 d,(o c).1 g,fun e=>?_,fun e=>?_⟩
  ·have:=(i (by omega)).1;omega
  ·exact (i (by omega)).2
 ·rintro ⟨b,c,d,g,i,v⟩
  exact ⟨b,c,⟨(n b).2 d,(o c).2 g⟩,fun h=>⟨by omega,v (by omega)⟩⟩
theorem Zlq (p:Z3):BR p↔QE (oP p):=by
 unfold BR QE
 show _↔∀ (k:Nat) m,(p.ZE.map oM)[k]? = some m->(∀ q∈(p.ZE.map oM).take k,q.Zt≠m.Zt)/\QC m
 constructor
 ·intro h k m a
  rw [List.getElem?_map] at a
  cases f:p.ZE[k]? with
  | none=>rw [f] at a;cases a
  | some m' =>
   rw [f] at a
   cases a
   have ⟨c,d⟩:=h k m' f
   refine ⟨fun q b=>?_,d⟩
   rw [<- List.map_take] at b
   obtain ⟨g,e,rfl⟩:=List.mem_map.1 b
   exact c g e
 ·intro h k m a
  have ⟨c,d⟩:=h k (oM m) (by rw [List.getElem?_map,a];rfl)
  refine ⟨fun q b=>c (oM q) ?_,d⟩
  rw [<- List.map_take]
  exact List.mem_map.2 ⟨q,b,rfl⟩
theorem Zq7 (l:List Z3):(QF (l.map oP)/\∀ (i:Nat) p,l[i]? = some p->BQ l i p)↔MG (l.map oP):=by
 unfold MG
 refine and_congr_right fun F=>?_
 rw [<- Zks]
 have E:∀ p∈l,∀ m∈p.ZE,∀ f∈m.Zy,f.Zu.Zq≠0:=fun p c m n f G=>by
  have ⟨_,_,_,_,_,_,w⟩:=F.2.1 (oP p) (List.mem_map.2 ⟨p,c,rfl⟩)
  have ⟨_,_,_,x,_⟩:=w (oM m) (List.mem_map.2 ⟨m,n,rfl⟩)
  have ⟨_,u,_⟩:=x f G
  rcases u with u | u<;>rw [u]<;>decide
 have g:∀ p,Uu (l.map oP) (oP p) [] 0 0 (oL p.ZF)↔Vc (l.map oP) (oP p) [] (oL p.ZF):=fun p=>Zfe _ _ (oL p.ZF) [] 0 0 List.nodup_nil (Zo _) (Zo _)
 have s:∀ p∈l,(∀ m∈p.ZE,∀ a∈m.Zz,TM p m a)↔MD (oP p):=by
  intro p c
  unfold MD
  constructor
  ·intro h m n a B
   obtain ⟨m',o,rfl⟩:=List.mem_map.1 n
   obtain ⟨D,y,rfl⟩:=List.mem_map.1 B
   exact (Zh0 D o (E p c)).1 (h m' o D y)
  ·intro h m n a B
   exact (Zh0 a n (E p c)).2 (h (oM m) (List.mem_map.2 ⟨m,n,rfl⟩) (oA a) (List.mem_map.2 ⟨a,B,rfl⟩))
 have t:∀ (i:Nat) (p:Z3),(∀ q∈l.take i,q.Zt≠p.Zt)↔∀ q∈(l.map oP).take i,q.Zt≠(oP p).Zt:=by
  intro i p
  rw [<- List.map_take]
  constructor
  ·intro h q v
   obtain ⟨H,z,rfl⟩:=List.mem_map.1 v
   exact h H z
  ·exact fun h q v=>h (oP q) (List.mem_map.2 ⟨q,v,rfl⟩)
 constructor
 ·intro h i I d
  rw [List.getElem?_map] at d
  cases c:l[i]? with
  | none=>rw [c] at d;cases d
  | some p =>
   rw [c] at d
   cases d
   have k:=Zb c
   have C:∀ p∈l,∀ b∈Xz (oL p.ZF),∃ q∈l.map oP,q.Zt=b:=fun p c b e=>by
    have ⟨j,A⟩:=List.mem_iff_getElem?.1 c
    exact B3 (oL p.ZF) [] ((g p).1 (h j p A).items) b e
   have q:=h i p c
   exact ⟨(t i p).1 q.name,q.roles,(Zlq p).1 q.sorts,(s p k).1 q.atoms,(g p).1 q.items,q.calls,fun b e=>q.chain ((Zj4 l C 4 p.Zt).2 ⟨b,e⟩)⟩
 ·intro h i p c
  have k:=Zb c
  have C:∀ p∈l,∀ b∈Xz (oL p.ZF),∃ q∈l.map oP,q.Zt=b:=fun p c b e=>by
   have ⟨j,A⟩:=List.mem_iff_getElem?.1 c
   exact B3 (oL p.ZF) [] (h j (oP p) (by rw [List.getElem?_map,A];rfl)).items b e
  have q:=h i (oP p) (by rw [List.getElem?_map,c];rfl)
  exact ⟨(t i p).2 q.name,q.roles,(Zlq p).2 q.sorts,(s p k).2 q.atoms,(g p).2 q.items,q.calls,fun e=>by
   have ⟨b,e⟩:=(Zj4 l C 4 p.Zt).1 e
   exact q.chain b e⟩
theorem Zrx {N:Nat} (l:List Z3) (a:Zr N l) (b:∀ p∈l,nL (oL p.ZF)/\∀ m∈p.ZE,nM (oM m)):∃ r,P9 N l=some r/\(r.ZM=0↔MG (l.map oP)):=by
 have ⟨r,c,d⟩:=Zrw l a b
 exact ⟨r,c,by rw [d,Zq7]⟩
end Gp
end
end
