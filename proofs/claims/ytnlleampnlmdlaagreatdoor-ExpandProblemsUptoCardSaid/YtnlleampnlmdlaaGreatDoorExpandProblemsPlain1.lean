/- The plain law, part 1: what the functions compute answers as the statement says. -/
import Derived.Lib.Bytealg
import Derived.Test.YtnlleampnlmdlaaGreatDoorExpandProblemsPure
set_option linter.all false
section
section
namespace Gp
open Go Go.Kx
theorem dF {p:Prop} [Decidable p] (h:¬p):decide p=false:=decide_eq_false h
theorem dT {p:Prop} [Decidable p] (h:p):decide p=true:=decide_eq_true h
theorem bS {α β:Type _} (a:α) (f:α->Option β):(some a).bind f=f a:=rfl
theorem cF {α:Sort _} {a b:α}:(bif false then a else b)=b:=rfl
theorem cT {α:Sort _} {a b:α}:(bif true then a else b)=a:=rfl
theorem aA {α:Type _} (a b c:List α):(a++b)++c=a++(b++c):=List.append_assoc a b c
theorem lA {α:Type _} {a b:List α}:(a++b).length=a.length+b.length:=List.length_append
theorem XL {n:Int} (a:-9223372036854775808<=n) (b:n<=9223372036854775807):ZM n=n:=by
 show IntKind.i64.wrap n=n
 simp [IntKind.wrap,IntKind.signed,IntKind.bits]
 omega
theorem Yy {n:Nat} (h:n < 4611686018427387904):ZM ((n:Int)+1)=((n+1:Nat):Int):=by rw [XL (by omega) (by omega)];omega
theorem Ye {α:Type} (xs:List α) (k:Nat):Z6 xs (k:Int)=xs[k]? := by
 unfold Z6
 have:decide (0<=(k:Int))=true:=by simp
 rw [this];simp
theorem Znq {α:Type} {xs:List α} {i:Int} {k:Nat} (h:i=k):Z6 xs i=xs[k]? := by rw [h,Ye]
theorem Zay {α:Type} (xs:List α) (k:Nat) (e:α):XK xs (k:Int) e=xs.set k e:=by unfold XK;simp
theorem Zql {α:Type} {xs:List α} {i:Int} {k:Nat} (h:i=k) (e:α):XK xs i e=xs.set k e:=by rw [h,Zay]
theorem ZdT {α:Type} (A:List α) (x:α) (B:List α) {k:Nat} (h:A.length=k):(A++x::B)[k]? = some x:=by
 subst h;simp
theorem ZjL {α:Type} (A:List α) (x y:α) (B:List α) {k:Nat} (h:A.length=k):(A++x::B).set k y=A++y::B:=by
 subst h;simp
theorem Zic {α:Type} {L A:List α} {x:α} {B:List α} {i:Int} (hL:L=A++x::B) (h:i=(A.length:Int)):Z6 L i=some x:=by
 rw [Znq h,hL];exact ZdT A x B rfl
theorem ZjK {α:Type} {L A:List α} {x:α} {B:List α} {i:Int} (hL:L=A++x::B) (h:i=(A.length:Int)) (y:α):XK L i y=A++y::B:=by
 rw [Zql h,hL];exact ZjL A x y B rfl
theorem YW {α:Type} {xs ys:List α} (h:xs.length+ys.length<=4294967296):YG xs ys=some (xs++ys):=by
 unfold YG
 have:Nat.ble (xs.length+ys.length) lim=true:=Nat.ble_eq_true_of_le h
 rw [this];rfl
theorem Xg {α:Type} {xs:List α} {k:Nat} {x:α} {l:List α} (h:xs.drop k=x::l):k < xs.length/\xs[k]? = some x/\xs.drop (k+1)=l:=by
 have a:k < xs.length:=by
  rcases Nat.lt_or_ge k xs.length with b | b
  ·exact b
  ·rw [List.drop_eq_nil_of_le b] at h;cases h
 rw [List.drop_eq_getElem_cons a] at h
 simp only [List.cons.injEq] at h
 exact ⟨a,by rw [Za a,h.1],h.2⟩
theorem Xh {α:Type} {xs:List α} {k:Nat} (h:xs.drop k=[]):xs.length<=k:=by simpa using h
def lv {α γ:Type} (b:α->Nat->γ->γ) (e:γ):List α->Nat->γ
 | [],_=>e
 | x::l,k=>b x k (lv b e l (k+1))
theorem Zoe {α γ:Type} (xs:List α) (F:Nat->Int->γ) (b:α->Nat->γ->γ) (e:γ)
  (g:∀ n k x,k < xs.length->xs[k]? = some x->F (n+1) (k:Int)=b x k (F n ((k+1:Nat):Int)))
  (i:∀ n k,xs.length<=k->F (n+1) (k:Int)=e) :
  ∀ (l:List α) (k n:Nat),xs.drop k=l->l.length < n->F n (k:Int)=lv b e l k:=by
 intro l
 induction l with
 | nil =>
  intro k n h f
  obtain ⟨n,rfl⟩:=pS n (by simp at f;omega)
  exact i n k (Xh h)
 | cons x l j =>
  intro k n h f
  obtain ⟨n,rfl⟩:=pS n (by simp at f;omega)
  have ⟨a,c,d⟩:=Xg h
  rw [g n k x a c,j (k+1) n d (by simp at f;omega)];rfl
theorem Zod {α γ:Type} {xs:List α} {F:Nat->Int->γ} {b:α->Nat->γ->γ} {e:γ} {n:Nat} {i:Int} (a:xs.length < n) (hi:i=((0:Nat):Int))
  (c:∀ n k x,k < xs.length->xs[k]? = some x->F (n+1) (k:Int)=b x k (F n ((k+1:Nat):Int)))
  (d:∀ n k,xs.length<=k->F (n+1) (k:Int)=e):F n i=lv b e xs 0:=by
 rw [hi];exact Zoe xs F b e c d xs 0 n rfl a
theorem Yh {k n:Nat} (h:k < n):decide ((k:Int) < (n:Int))=true:=by simp [h]
theorem Yl {k n:Nat} (h:n<=k):decide ((k:Int) < (n:Int))=false:=by simp;omega
end Gp
end
section
namespace Gp
open Go Go.Kx
def Lt {α:Type} (K:α->Int) (r:α->α->Prop) (x y:α):Prop:=K x < K y\/(K x=K y/\r x y)
def Mw {α:Type} (K:α->Int) (r:α->α->Prop) (l:List α):Prop:=l.Pairwise (Lt K r)
variable {α:Type} {K:α->Int} {r:α->α->Prop}
theorem Znj {L A:List α} {x:α} {B:List α} {k:Nat} (hL:L=A++x::B) (h:A.length=k):L[k]? = some x:=by rw [hL];exact ZdT A x B h
inductive Bk (K:α->Int) (r:α->α->Prop) (n:Nat):List α->List α->Prop
 | last (o c:List α):c.length<=n->c.Perm o->Mw K r c->Bk K r n o c
 | cons (o1 c1 o2 c2:List α):c1.length=n->c1.Perm o1->Mw K r c1->Bk K r n o2 c2->Bk K r n (o1++o2) (c1++c2)
theorem Bk.few {n:Nat} {o c:List α} (h:Bk K r n o c) (u:0 < n) (q:c.length < 2 * n) :
  (c.length<=n/\c.Perm o/\Mw K r c)\/∃ o1 d b a,o=o1++d/\c=b++a/\b.length=n/\0 < a.length/\a.length<=n/\b.Perm o1/\a.Perm d/\Mw K r b/\Mw K r a:=by
 cases h with
 | last _ _ j f g=>exact .inl ⟨j,f,g⟩
 | cons o1 b d a j f g s =>
  cases s with
  | last _ _ m k p =>
   rcases Nat.eq_zero_or_pos a.length with i | i
   ·have:a=[]:=List.length_eq_zero_iff.mp i
    subst this
    have:d=[]:=by simpa using k.symm
    subst this
    exact .inl ⟨by simp;omega,by simpa using f,by simpa using g⟩
   ·exact .inr ⟨o1,d,b,a,rfl,rfl,j,i,m,f,k,g,p⟩
  | cons v d1 w d2 m k p x=>simp at q;omega
theorem Bk.all {n:Nat} {o c:List α} (h:Bk K r n o c) (a:0 < n) (b:c.length<=n):c.Perm o/\Mw K r c:=by
 rcases h.few a (by omega) with h | ⟨o1,f,g,i,j,d,k,m,_⟩
 ·exact h.2
 ·subst d;simp at b;omega
end Gp
end
section
namespace Gp
open Go Go.Kx Gx
theorem ZP {α γ:Type} (xs:List α) (g:xs.length<=4194304) (b:α->Int->γ->γ) (F:Nat->Int->γ) (e:γ) {n:Nat} (h:4194304 < n)
  (a:∀ n k x,k < xs.length->xs[k]? = some x->F (n+1) (k:Int)=b x k (F n (ZM ((k:Int)+1))))
  (c:∀ n k,xs.length<=k->F (n+1) (k:Int)=e):F n (0:Int)=lv (fun x (k:Nat) r=>b x (k:Int) r) e xs 0 :=
 Zod (by omega) rfl (fun n k x d f=>by rw [a n k x d f,Yy (by omega)]) c
def XN (a b:ByteArray):Bool:=a.toList==b.toList
theorem ZmZ (a:ByteArray):XN a a=true:=by simp [XN]
variable {N:Nat} (hN:4194304 < N)
end Gp
end
section
namespace Gp
open Go Go.Kx Gx
variable {N:Nat} (hN:4194304 < N)
def ZeW {α:Type} (f:α->Bool) (l:List α):Option Int:=lv (fun x (k:Nat) r=>bif f x then some (k:Int) else r) (some (-1)) l 0
theorem ZlP (a b:ByteArray):(a.toList==b.toList)=(b.toList==a.toList):=by
 rw [Bool.eq_iff_iff,beq_iff_eq,beq_iff_eq];exact ⟨Eq.symm,Eq.symm⟩
include hN in
theorem Zlq (l:List ByteArray) (hl:l.length<=4194304) (v:ByteArray):LC N l v=ZeW (fun x=>XN x v) l:=by
 unfold LC ZeW
 refine ZP l hl (fun x k r=>bif XN x v then some k else r) (Sc l v) _ hN ?_ ?_
 ·intro n k x a b
  simp only [Sc,Yh a,Ye,b,cT,bS,XN,ZlP v x]
 ·intro n k a
  simp only [Sc,Yl a,cF,GF]
end Gp
end
section
namespace Gp
open Go Go.Kx Gx
theorem Ziy {α:Type} {L A B:List α} {i:Int} (hL:L=A++B) (hi:i=(A.length:Int)):lsl L none (some i)=some A:=by
 subst hL hi
 have h:decide ((A.length:Int)<=((A++B).length:Int))=true:=by simp;omega
 have a:decide ((0:Int)<=(A.length:Int))=true:=by simp
 unfold lsl WU
 simp only [Option.getD_some,Option.getD_none,h,a]
 simp
end Gp
end
section
namespace Gp
open Go Go.Kx Gx
def QO {α:Type} (p:α->Nat->Bool):List α->Nat->Bool
 | [],_=>true
 | x::l,k=>p x k && QO p l (k+1)
theorem ZlC {α:Type} (p:α->Nat->Bool) (xs:List α) (F:Nat->Int->Option Bool) (e:Option Bool)
  (f:∀ n k x,k < xs.length->xs[k]? = some x->F (n+1) (k:Int)=bif p x k then F n ((k+1:Nat):Int) else some false)
  (g:∀ n k,xs.length<=k->F (n+1) (k:Int)=e) :
  ∀ (l:List α) (k n:Nat),xs.drop k=l->l.length < n->F n (k:Int)=bif QO p l k then e else some false:=by
 intro l
 induction l with
 | nil =>
  intro k n h b
  obtain ⟨n,rfl⟩:=pS n (by simp at b;omega)
  exact g n k (Xh h)
 | cons x l i =>
  intro k n h b
  obtain ⟨n,rfl⟩:=pS n (by simp at b;omega)
  have ⟨a,c,d⟩:=Xg h
  rw [f n k x a c,i (k+1) n d (by simp at b;omega)]
  show _=bif (p x k && QO p l (k+1)) then e else some false
  cases p x k<;>rfl
theorem ZlB {α:Type} (p:α->Nat->Bool) {xs:List α} {F:Nat->Int->Option Bool} {e:Option Bool} {n:Nat} (a:xs.length < n)
  (b:∀ n k x,k < xs.length->xs[k]? = some x->F (n+1) (k:Int)=bif p x k then F n ((k+1:Nat):Int) else some false)
  (c:∀ n k,xs.length<=k->F (n+1) (k:Int)=e):F n (0:Int)=bif QO p xs 0 then e else some false :=
 ZlC p xs F e b c xs 0 n rfl a
def bs (s:ByteArray):List UInt8:=s.data.toList
theorem XP (s:ByteArray):s.size=(bs s).length:=rfl
theorem Zqw {s:ByteArray} {k:Nat} (h:k < (bs s).length):decide ((k:Int) < (s.size:Int))=true:=Yh h
theorem Zqv {s:ByteArray} {k:Nat} (h:(bs s).length<=k):decide ((k:Int) < (s.size:Int))=false:=Yl h
theorem W3 (s:ByteArray):s.toList=bs s:=ByteArray.toList_eq s
theorem HH {a b:ByteArray} (h:bs a=bs b):a=b:=by
 cases a with | mk a=>cases b with | mk b=>simpa [bs] using h
theorem RY (s:ByteArray) (k:Nat):YX s (k:Int)=(bs s)[k]?.map (fun b=>(b.toNat:Int)):=by
 unfold YX
 have h:decide (0<=(k:Int))=true:=by simp
 rw [h,cT]
 have e:s[(k:Int).toNat]? = (bs s)[k]? := by
  simp [getElem?_def,bs]
  split<;>simp_all
  rfl
 rw [e]
theorem BQ (a b:ByteArray):XN a b=true↔a=b:=by
 unfold XN
 rw [beq_iff_eq,W3,W3]
 exact ⟨HH,fun h=>by rw [h]⟩
variable {N:Nat} (hN:4194304 < N)
def TP (c:Int):Bool:=(decide (97<=c) && decide (c<=122)) || (decide (65<=c) && decide (c<=90))
def QX (c:Int):Bool:=TP c || ((decide (48<=c) && decide (c<=57)) || c==95)
theorem B8 (N:Nat) (c:Int):Mq N c=some (TP c):=by
 unfold Mq TP
 cases decide (97<=c)<;>cases decide (c<=122)<;>cases decide (65<=c)<;>rfl
theorem Zjj (N:Nat) (c:Int):z218 N c=some (TP c):=B8 N c
theorem Znu (N:Nat) (c:Int):Pz N c=some (QX c):=by
 unfold Pz QX Hv
 rw [B8]
 simp only [bS]
 cases TP c
 ·cases decide (48<=c)<;>cases decide (c<=57)<;>rfl
 ·rfl
def SE (s:ByteArray):Bool :=
 match bs s with
 | []=>false
 | x::l=>TP (x.toNat:Int) && (decide (l.length < 16) && QO (fun (c:UInt8) _=>QX (c.toNat:Int)) (x::l) 0)
def keywords:List ByteArray:=[(str [97,103,97,105,110]),(str [97,110,100]),(str [97,115]),(str [97,116]),(str [99,97,108,108]),(str [99,104,111,105,99,101]),(str [101,108,115,101]),(str [102,114,111,109]),(str [105,102]),(str [105,110,116]),(str [108,101,110]),(str [108,111,111,112]),(str [109,101,115,115,97,103,101]),(str [111,102]),(str [111,102,102,101,114]),(str [111,110]),(str [111,114]),(str [112,97,114]),(str [112,108,97,121,115]),(str [112,114,111,116,111,99,111,108]),(str [115,101,114,118,105,99,101]),(str [116,101,120,116]),(str [116,105,109,101,115]),(str [116,111]),(str [118,97,114]),(str [119,104,101,114,101]),(str [119,104,105,108,101]),(str [119,105,116,104,105,110])]
def Y8 (s:ByteArray):Bool:=SE s && !(keywords.any fun k=>XN k s)
include hN in
theorem ZiN (s:ByteArray) (b:s.size<=4194304):So N s N (0:Int)=some (QO (fun (c:UInt8) _=>QX (c.toNat:Int)) (bs s) 0):=by
 rw [XP] at b
 rw [ZlB (xs:=bs s) (fun (c:UInt8) _=>QX (c.toNat:Int)) (F:=So N s) (e:=some true) (by omega)]
 ·cases QO (fun (c:UInt8) _=>QX (c.toNat:Int)) (bs s) 0<;>rfl
 ·intro n k x a d
  simp only [So,Zqw a,cT,RY,d,Option.map_some,bS,Znu,Yy (show k < 4611686018427387904 by omega)]
  cases QX (x.toNat:Int)<;>rfl
 ·intro n k a
  simp only [So,Zqv a,cF,ZcZ]
theorem ZiO (s:ByteArray):∀ n k,LX N s n k=So N s n k
 | 0,_=>rfl
 | n+1,k=>by
  simp only [LX,So,ZiO s n]
  rfl
theorem ZgB:bs (str [])=[]:=rfl
include hN in
theorem Zo7 (s:ByteArray) (a:s.size<=4194304):Rt N s=some (SE s):=by
 unfold Rt
 rw [ZiN hN s a,W3,W3,ZgB,XP,show YX s (0:Int)=YX s ((0:Nat):Int) from rfl,RY]
 unfold SE
 cases h:bs s with
 | nil=>rfl
 | cons x l =>
  have e:(x::l==([]:List UInt8))=false:=rfl
  rw [e]
  simp only [cF,List.getElem?_cons_zero,Option.map_some,bS,B8]
  have d:decide (((x::l).length:Int) > 16) = !decide (l.length < 16):=by
   by_cases q:l.length < 16
   ·rw [dT q];simp;omega
   ·rw [dF q];simp;omega
  rw [d]
  cases TP (x.toNat:Int)<;>cases decide (l.length < 16)<;>rfl
include hN in
theorem Zo6 (s:ByteArray) (a:s.size<=4194304):Rt N s=some (SE s)/\LW N s=some (SE s):=by
 unfold Rt LW
 rw [ZiO,ZiN hN s a,W3,W3,ZgB,XP,show YX s (0:Int)=YX s ((0:Nat):Int) from rfl,RY]
 unfold SE
 cases h:bs s with
 | nil=>exact ⟨rfl,rfl⟩
 | cons x l =>
  have e:(x::l==([]:List UInt8))=false:=rfl
  rw [e]
  simp only [cF,List.getElem?_cons_zero,Option.map_some,bS,B8,Zjj]
  have d:decide (((x::l).length:Int) > 16) = !decide (l.length < 16):=by
   by_cases q:l.length < 16
   ·rw [dT q];simp;omega
   ·rw [dF q];simp;omega
  rw [d]
  cases TP (x.toNat:Int)<;>cases decide (l.length < 16)<;>exact ⟨rfl,rfl⟩
theorem ZeX {α:Type} (f:α->Bool) (l:List α) (k:Nat):∃ i,lv (fun x (k:Nat) r=>bif f x then some (k:Int) else r) (some (-1)) l k=some i/\decide (i>=0)=l.any f:=by
 induction l generalizing k with
 | nil=>exact ⟨-1,rfl,rfl⟩
 | cons x l a =>
  show ∃ i,(bif f x then some (k:Int) else lv _ _ l (k+1))=some i/\_
  rw [List.any_cons]
  cases f x
  ·exact a (k+1)
  ·exact ⟨k,rfl,by simp⟩
include hN in
theorem Zdu (l:List ByteArray) (hl:l.length<=4194304) (v:ByteArray):W7 N l v=some (l.any fun x=>XN x v):=by
 unfold W7
 rw [Zlq hN l hl]
 have ⟨i,a,b⟩:=ZeX (fun x=>XN x v) l 0
 unfold ZeW
 rw [a,bS,b]
include hN in
theorem ZpR (l:List ByteArray) (hl:l.length<=4194304) (v:ByteArray):G5 N l v=some (l.any fun x=>XN x v):=by
 unfold G5
 rw [ZP l hl (fun x k r=>bif XN x v then some true else r) (PO l v) (some false) hN]
 ·generalize (0:Nat)=k
  induction l generalizing k with
  | nil=>rfl
  | cons x l c =>
   show (bif XN x v then some true else lv _ _ l (k+1))=_
   rw [List.any_cons,c (by simp at hl;omega)]
   cases XN x v<;>rfl
 ·intro n k x a b
  simp only [PO,Yh a,Ye,b,cT,bS,XN]
 ·intro n k a
  simp only [PO,Yl a,cF,ZbR]
include hN in
theorem Zkh (s:ByteArray) (b:s.size<=4194304):Wl N s=some (Y8 s):=by
 unfold Wl
 rw [Zo7 hN s b]
 simp only [bS]
 have a:=Zdu hN keywords (by decide) s
 unfold keywords at a
 rw [a]
 unfold Y8 keywords
 simp only [bS]
 cases SE s<;>rfl
include hN in
theorem Zkg (s:ByteArray) (c:s.size<=4194304):Wl N s=some (Y8 s)/\PD N s=some (Y8 s):=by
 have ⟨d,f⟩:=Zo6 hN s c
 unfold Wl PD ZbS
 rw [d,f]
 simp only [bS]
 have a:=Zdu hN keywords (by decide) s
 have b:=ZpR hN keywords (by decide) s
 unfold keywords at a b
 rw [a,b]
 unfold Y8 keywords
 simp only [bS]
 cases SE s<;>exact ⟨rfl,rfl⟩
end Gp
end
section
namespace Gp
open Go Go.Kx Gx
def Z3 (l:List UInt8):ByteArray:=⟨l.toArray⟩
theorem Yq (l:List UInt8):bs (Z3 l)=l:=by simp [bs,Z3]
theorem MS (s:ByteArray):Z3 (bs s)=s:=HH (Yq _)
theorem ZlX (s:ByteArray) (a b:Nat):bs (s.extract a b)=((bs s).take b).drop a:=by
 unfold bs
 rw [ByteArray.data_extract,Array.toList_extract]
 simp [List.extract,List.drop_take]
theorem ZaD {s:ByteArray} {x y z:List UInt8} {i j:Int} (h:bs s=x++(y++z)) (hi:i=(x.length:Int)) (a:j=((x.length+y.length:Nat):Int)):ssl s (some i) (some j)=some (Z3 y):=by
 subst hi a
 have b:decide ((0:Int)<=(x.length:Int))=true:=by simp
 have c:decide ((x.length:Int)<=((x.length+y.length:Nat):Int))=true:=by simp;omega
 have d:decide (((x.length+y.length:Nat):Int)<=(s.size:Int))=true:=by rw [XP,h];simp;omega
 unfold ssl WU
 simp only [Option.getD_some,b,c,d,Bool.and_self,cT,Option.map_some,Int.toNat_natCast]
 congr 1
 apply HH
 rw [ZlX,Yq,h,<- aA,List.take_append_of_le_length (by simp),List.take_of_length_le (by simp)]
 simp
theorem ZqH {s:ByteArray} {x y:List UInt8} {j:Int} (h:bs s=x++y) (a:j=(x.length:Int)):ssl s none (some j)=some (Z3 x):=by
 have e:ssl s none (some j)=ssl s (some 0) (some j):=rfl
 rw [e]
 exact ZaD (x:=[]) (y:=x) (z:=y) (by rw [h];rfl) rfl (by rw [a];simp)
theorem ZqG {s:ByteArray} {x y:List UInt8} {i:Int} (h:bs s=x++y) (hi:i=(x.length:Int)):ssl s (some i) none=some (Z3 y):=by
 have e:ssl s (some i) none=ssl s (some i) (some (s.size:Int)):=rfl
 rw [e]
 exact ZaD (x:=x) (y:=y) (z:=[]) (by rw [h];simp) hi (by rw [XP,h];simp)
theorem Zns {l:List UInt8} {c:UInt8} (h:0 < l.count c):∃ p q,l=p++c::q/\p.count c=0/\Go.Lib.indexByte l c=(p.length:Int):=by
 induction l with
 | nil=>simp at h
 | cons b l i =>
  cases a:(b==c)
  ·rw [List.count_cons,a] at h
   have ⟨p,q,d,f,g⟩:=i (by simpa using h)
   refine ⟨b::p,q,by rw [d];rfl,by rw [List.count_cons,f,a];rfl,?_⟩
   unfold Go.Lib.indexByte
   rw [a,g,show ((p.length:Int)==-1)=false by simp]
   simp
  ·have:b=c:=by simpa using a
   subst this
   exact ⟨[],l,rfl,by simp,by unfold Go.Lib.indexByte;rw [a];rfl⟩
def Xt (acc:List UInt8):List UInt8->List (List UInt8)
 | []=>[acc]
 | c::l=>if c=46 then acc::Xt [] l else Xt (acc++[c]) l
theorem Q7 (a:List UInt8) (c:UInt8) (l:List UInt8):Xt a (c::l)=if c=46 then a::Xt [] l else Xt (a++[c]) l:=rfl
theorem ZjV:∀ (l a:List UInt8),l.count 46=0->Xt a l=[a++l]
 | [],a,_=>by simp [Xt]
 | c::l,a,h=>by
  rw [List.count_cons] at h
  have b:¬ c=46:=by intro b;subst b;simp at h
  rw [Q7,if_neg b,ZjV l _ (by omega)];simp
theorem ZjW:∀ (p a q:List UInt8),p.count 46=0->Xt a (p++46::q)=(a++p)::Xt [] q
 | [],a,q,_=>by rw [List.nil_append,Q7,if_pos rfl,List.append_nil]
 | c::p,a,q,h=>by
  rw [List.count_cons] at h
  have b:¬ c=46:=by intro b;subst b;simp at h
  show Xt a (c::(p++46::q))=_
  rw [Q7,if_neg b,ZjW p _ q (by omega)];simp
theorem ZeP:∀ (l a:List UInt8),(Xt a l).length=l.count 46+1
 | [],a=>by simp [Xt]
 | c::l,a=>by
  rw [Q7,List.count_cons]
  split
  ·rename_i h;subst h
   rw [Zf,ZeP l];simp
  ·rename_i h
   rw [ZeP l];simp [h]
variable {N:Nat}
theorem Znt (s:ByteArray):PK N s (str [46])=some (Go.Lib.indexByte (bs s) 46):=by
 unfold PK ZbW
 have b:(((str [46]).size:Int)==0)=false:=rfl
 have c:(((str [46]).size:Int)==1)=true:=rfl
 have d:YX (str [46]) (0:Int)=some 46:=by
  rw [show (0:Int)=((0:Nat):Int) from rfl,RY];rfl
 rw [b,c,d]
 simp only [cT,cF,bS,G2]
 have f:ZdP s 46=Go.Lib.indexByte (bs s) 46:=Go.Lib.firstIdx_eq s 46
 rw [f,W3,W3]
 cases a:(bs (str [46])==bs s)
 ·rfl
 ·have a:bs (str [46])=bs s:=eq_of_beq a
  rw [<- a];rfl
theorem Zmr (s:ByteArray):z212 N s (str [46])=some (((bs s).count 46:Nat):Int):=by
 unfold z212
 have a:(((str [46]).size:Int)==0)=false:=rfl
 have b:(((str [46]).size:Int)==1)=true:=rfl
 have c:YX (str [46]) (0:Int)=some 46:=by
  rw [show (0:Int)=((0:Nat):Int) from rfl,RY];rfl
 rw [a,b,c]
 simp only [cT,cF,bS]
 congr 1
 unfold BF
 rw [show s.foldl (fun (n:Int) x=>if x==Kx.byteOf 46 then n+1 else n) ((0:Nat):Int)=(bs s).foldl (fun (n:Int) x=>if x==Kx.byteOf 46 then n+1 else n) ((0:Nat):Int) from Go.Lib.foldl_data _ _ _,Go.Lib.count_foldl]
 simp [Go.Lib.countByte,Kx.byteOf]
theorem Zni (s sep:ByteArray) (f:sep=str [46]) (XF:Nat) (O:XF<=s.size) (P:s.size<=4194304) :
  ∀ (n:Nat) (a:ByteArray) (D R:List ByteArray),(bs a).count 46 < n->(bs a).length<=4194304->D.length+(bs a).count 46=XF->R.length=(bs a).count 46+1 ->
  Ql N s sep (0:Int) ((XF+1:Nat):Int) n a (D++R) (D.length:Int)=some (D++(Xt [] (bs a)).map Z3):=by
 subst f
 intro n
 induction n with
 | zero=>intro a D R h;omega
 | succ n M =>
  intro a D R S w T k
  have E:ZM ((s.size:Int)+1)=((s.size+1:Nat):Int):=Yy (by omega)
  have d:W0 ((XF+1:Nat):Int) ((s.size+1:Nat):Int)=((XF+1:Nat):Int):=by unfold W0;rw [if_neg (by omega)]
  have i:ZM (((XF+1:Nat):Int)-1)=(XF:Int):=by rw [XL (by omega) (by omega)];omega
  have m:(bs a).count 46=0->LV a (D++R) (D.length:Int)=some (D++(Xt [] (bs a)).map Z3):=by
   intro C
   rw [C] at k
   obtain ⟨r,rfl⟩:=List.length_eq_one_iff.mp k
   unfold LV
   rw [Zic (A:=D) (x:=r) (B:=[]) rfl rfl,bS,ZjK (A:=D) (x:=r) (B:=[]) rfl rfl,Yy (by omega),Ziy (A:=D++[a]) (B:=[]) (by simp) (by simp),ZjV _ _ C]
   simp [MS]
  by_cases L:D.length < XF
  ·have o:decide ((D.length:Int) < (XF:Int))=true:=by simp;omega
   have ⟨p,q,g,v,H⟩:=Zns (l:=bs a) (c:=46) (by omega)
   have F:(bs a).length=p.length+(q.length+1):=by rw [g];simp
   have G:(bs a).count 46=q.count 46+1:=by rw [g,List.count_append,List.count_cons,v];simp
   obtain ⟨r,b,rfl⟩:∃ r b,R=r::b:=by
    cases R with
    | nil=>simp at k
    | cons r b=>exact ⟨r,b,rfl⟩
   simp only [Zf] at k
   have j:decide ((p.length:Int) < 0)=false:=by simp
   have I:ZM ((p.length:Int)+0)=(p.length:Int):=by rw [XL (by omega) (by omega)];omega
   have u:ZM ((p.length:Int)+((str [46]).size:Int))=((p++[46]:List UInt8).length:Int):=by
    rw [show ((str [46]).size:Int)=1 from rfl,Yy (by omega)];simp
   simp only [Ql,E,d,i,o,cT,Znt,H,bS,j,cF,I,u]
   rw [ZqH g rfl,bS,Zic (A:=D) (x:=r) (B:=b) rfl rfl,bS,ZqG (x:=p++[46]) (y:=q) (by rw [g];simp) rfl,bS,ZjK (A:=D) (x:=r) (B:=b) rfl rfl,Yy (by omega)]
   have:=M (Z3 q) (D++[Z3 p]) b (by rw [Yq];omega) (by rw [Yq];omega) (by rw [Yq];simp;omega) (by rw [Yq];omega)
   rw [Yq] at this
   rw [show ((D.length+1:Nat):Int)=((D++[Z3 p]).length:Int) by simp,show D++Z3 p::b=(D++[Z3 p])++b by simp,this,g,ZjW _ _ _ v]
   simp
  ·have o:decide ((D.length:Int) < (XF:Int))=false:=by simp;omega
   simp only [Ql,E,d,i,o,cF]
   exact m (by omega)
theorem ZqB (hN:4194304 < N) (s:ByteArray) (c:s.size<=1000000):GR N s (str [46])=some ((Xt [] (bs s)).map Z3):=by
 unfold GR ZbM
 have d:((-1:Int)==0)=false:=rfl
 have f:((str [46]).toList==(str []).toList)=false:=by rw [W3,W3];rfl
 have g:decide ((-1:Int) < 0)=true:=rfl
 have h:(bs s).count 46<=(bs s).length:=List.count_le_length
 rw [d,f,g,Zmr]
 simp only [cT,cF,bS,G3]
 rw [XP] at c
 rw [Yy (by omega)]
 have i:ZM ((s.size:Int)+1)=((s.size+1:Nat):Int):=Yy (by rw [XP];omega)
 have b:W0 (((bs s).count 46+1:Nat):Int) ((s.size+1:Nat):Int)=(((bs s).count 46+1:Nat):Int):=by unfold W0;rw [if_neg (by rw [XP];omega)]
 have m:Q0 (str []) (((bs s).count 46+1:Nat):Int) (((bs s).count 46+1:Nat):Int)=some (List.replicate ((bs s).count 46+1) (str [])):=by
  unfold Q0
  have j:decide ((0:Int)<=(((bs s).count 46+1:Nat):Int))=true:=by simp;omega
  have k:decide ((((bs s).count 46+1:Nat):Int)<=4294967296)=true:=by simp;omega
  simp only [j,k,Int.le_refl,decide_true,Bool.and_self,cT]
  simp
 rw [i,b,m,bS]
 have:=Zni (N:=N) s (str [46]) rfl ((bs s).count 46) (by rw [XP];omega) (by rw [XP];omega) N s [] (List.replicate ((bs s).count 46+1) (str [])) (by omega) (by omega) (by simp) (by simp)
 rw [List.nil_append] at this
 have a:Ql N s (str [46]) (0:Int) (((bs s).count 46+1:Nat):Int) N s (List.replicate ((bs s).count 46+1) (str [])) (0:Int)=some ([]++(Xt [] (bs s)).map Z3):=this
 rw [a];simp
def W1 (s:ByteArray):Bool:=decide (s.size<=50) && (Xt [] (bs s)).all fun p=>Y8 (Z3 p)
theorem Zen:∀ (l a:List UInt8),∀ p∈Xt a l,p.length<=a.length+l.length
 | [],a,p,h=>by simp [Xt] at h;subst h;simp
 | c::l,a,p,h=>by
  rw [Q7] at h
  split at h
  ·rcases List.mem_cons.mp h with h | h
   ·subst h;simp
   ·have:=Zen l [] p h;simp at this;simp;omega
  ·have:=Zen l _ p h;simp at this;simp;omega
theorem Zpk (hN:4194304 < N) (s:ByteArray):SX N s=some (W1 s):=by
 unfold SX W1
 by_cases h:s.size<=50
 ·rw [dT (show (s.size:Int)<=50 by omega),dT h,cT,ZqB hN s (by omega),bS]
  unfold Zc1 Zbe
  have hl:(Xt [] (bs s)).length<=51:=by
   rw [ZeP]
   have:(bs s).count 46<=(bs s).length:=List.count_le_length
   rw [XP] at h;omega
  rw [ZP ((Xt [] (bs s)).map Z3) (by simp;omega) (fun x k r=>bif !(Y8 x) then some k else r) (Py N ((Xt [] (bs s)).map Z3)) (some (-1)) hN]
  ·have ⟨i,f,g⟩:=ZeX (fun x => !(Y8 x)) ((Xt [] (bs s)).map Z3) 0
   rw [f,bS,g,bS,List.any_map,List.not_any_eq_all_not]
   simp [Function.comp_def]
  ·intro n k x a d
   have b:=Zb d
   obtain ⟨p,j,rfl⟩:=List.mem_map.mp b
   have c:=Zen _ _ p j
   have m:=Zkh hN (Z3 p) (by rw [XP,Yq];rw [XP] at h;simp at c;omega)
   simp only [Py,Yh a,Ye,d,cT,bS,Zbq,m]
  ·intro n k a
   simp only [Py,Yl a,cF,Zbg]
 ·rw [dF (show ¬ (s.size:Int)<=50 by omega),dF h];rfl
theorem ZpT (hN:4194304 < N) (s:ByteArray) (F:s.size<=4194304):∀ (n:Nat) (x a l:List UInt8) (i j:Int),l.length+1 < n->bs s=x++(a++l)->i=(x.length:Int)->j=((x.length+a.length:Nat):Int) ->
  Se N s n i j=bif (Xt a l).all fun p=>Y8 (Z3 p) then GU s else some false:=by
 intro n
 induction n with
 | zero=>intro x a l i j h;omega
 | succ n E =>
  intro x a l i j m d hi k
  have b:s.size=x.length+(a.length+l.length):=by rw [XP,d];simp
  have f:decide (j<=(s.size:Int))=true:=by simp;omega
  have D:=(Zkg hN (Z3 a) (by rw [XP,Yq];omega)).2
  have o:ZM (j+1)=((x.length+a.length+1:Nat):Int):=by rw [k];exact Yy (by omega)
  cases l with
  | nil =>
   have g:(j==(s.size:Int))=true:=by simp at b;simp;omega
   obtain ⟨n,rfl⟩:=pS n (by simp at m;omega)
   have q:decide (ZM (j+1)<=(s.size:Int))=false:=by rw [o];simp at b;simp;omega
   unfold Se
   rw [f,cT,g,cT]
   unfold PF
   rw [cT,ZaD d hi k,bS]
   unfold z109
   rw [D]
   simp only [bS,Xt,List.all_cons,List.all_nil,Bool.and_true]
   cases Y8 (Z3 a)
   ·rfl
   ·simp only [Zg,cF,cT]
    unfold Se
    rw [q];rfl
  | cons c l =>
   have u:(j==(s.size:Int))=false:=by simp at b;simp;omega
   have v:YX s j=some (c.toNat:Int):=by
    rw [k,RY,Znj (A:=x++a) (x:=c) (B:=l) (by rw [d];simp) (by simp)];rfl
   unfold Se
   rw [f,cT,u,cF,v,bS]
   by_cases C:c=46
   ·subst C
    have w:(((46:UInt8).toNat:Int)==46)=true:=rfl
    rw [w]
    unfold PF
    rw [cT,ZaD d hi k,bS]
    unfold z109
    rw [D]
    have y:Xt a (46::l)=a::Xt [] l:=by rw [Q7,if_pos rfl]
    rw [y,List.all_cons]
    simp only [bS]
    cases Y8 (Z3 a)
    ·rfl
    ·simp only [Zg,cF,Bool.true_and]
     rw [o]
     exact E (x++a++[46]) [] l _ _ (by simp at m;omega) (by rw [d];simp) (by simp;omega) (by simp;omega)
   ·have w:((c.toNat:Int)==46)=false:=by
     rw [beq_eq_false_iff_ne]
     intro h
     apply C
     apply UInt8.toNat_inj.mp
     show c.toNat=46
     omega
    rw [w]
    unfold PF
    have y:Xt a (c::l)=Xt (a++[c]) l:=by rw [Q7,if_neg C]
    rw [cF,o,y]
    exact E x (a++[c]) l _ _ (by simp at m;omega) (by rw [d];simp) hi (by simp;omega)
theorem ZpS (hN:4194304 < N) (s:ByteArray) (a:s.size<=4000000):Tu N s=some (W1 s):=by
 unfold Tu
 rw [ZpT hN s (by omega) N [] [] (bs s) (0:Int) (0:Int) (by rw [XP] at a;omega) rfl rfl rfl]
 unfold GU W1
 by_cases h:s.size<=50
 ·rw [dT (show (s.size:Int)<=50 by omega),dT h]
  cases (Xt [] (bs s)).all fun p=>Y8 (Z3 p)<;>rfl
 ·rw [dF (show ¬ (s.size:Int)<=50 by omega),dF h]
  cases (Xt [] (bs s)).all fun p=>Y8 (Z3 p)<;>rfl
end Gp
end
end
section
namespace Gp
open Go Go.Kx Gx
mutual
def oI:ZT->ZJ
 | ⟨k,f,t,n,a,x,b⟩=>⟨k,f,t,n,a,x,YA b⟩
def oL:List ZT->List ZJ
 | []=>[]
 | x::l=>oI x::oL l
def YA:List (List ZT)->List (List ZJ)
 | []=>[]
 | x::l=>oL x::YA l
end
theorem MW:∀ l,oL l=l.map oI
 | []=>by simp only [oL,List.map_nil]
 | x::l=>by simp only [oL,List.map_cons,MW l]
theorem MV:∀ l,YA l=l.map oL
 | []=>by simp only [YA,List.map_nil]
 | x::l=>by simp only [YA,List.map_cons,MV l]
mutual
def dI:ZJ->Nat
 | ⟨_,_,_,_,_,_,b⟩=>WB b+1
def dL:List ZJ->Nat
 | []=>0
 | x::l=>max (dI x) (dL l)
def WB:List (List ZJ)->Nat
 | []=>0
 | x::l=>max (dL x) (WB l)
end
mutual
def bI:ZJ->Prop
 | ⟨_,_,t,_,_,_,b⟩=>t.length<=4194304/\b.length<=4194304/\VG b
def bL:List ZJ->Prop
 | []=>True
 | x::l=>bI x/\bL l
def VG:List (List ZJ)->Prop
 | []=>True
 | x::l=>x.length<=4194304/\bL x/\VG l
end
theorem Wt:∀ {l:List ZJ} {x},x∈l->dI x<=dL l
 | y::l,x,h=>by
  simp only [dL]
  rcases List.mem_cons.1 h with rfl | h
  ·omega
  ·have:=Wt h;omega
theorem WK:∀ {l:List (List ZJ)} {x},x∈l->dL x<=WB l
 | y::l,x,h=>by
  simp only [WB]
  rcases List.mem_cons.1 h with rfl | h
  ·omega
  ·have:=WK h;omega
theorem Ws (x:ZJ):dI x=WB x.ZC+1:=by cases x;simp only [dI]
theorem Wy:∀ {l:List ZJ} {x},bL l->x∈l->bI x
 | y::l,x,hb,h=>by
  simp only [bL] at hb
  rcases List.mem_cons.1 h with rfl | h
  ·exact hb.1
  ·exact Wy hb.2 h
theorem Vl:∀ {l:List (List ZJ)} {x},VG l->x∈l->x.length<=4194304/\bL x
 | y::l,x,hb,h=>by
  simp only [VG] at hb
  rcases List.mem_cons.1 h with rfl | h
  ·exact ⟨hb.1,hb.2.1⟩
  ·exact Vl hb.2.2 h
theorem WT (x:ZJ):bI x↔x.To.length<=4194304/\x.ZC.length<=4194304/\VG x.ZC:=by cases x;simp only [bI]
theorem XU (x:ZT):oI x=⟨x.Zq,x.ZA,x.To,x.Zt,x.As,x.ZB,YA x.ZC⟩:=by cases x;simp only [oI]
def Dq (o:Option Bool) (P:Prop):Prop:=∃ r,o=some r/\(r=true↔P)
theorem Dq.iff {o P Q} (h:Dq o P) (k:P↔Q):Dq o Q:=by
 have ⟨r,a,b⟩:=h
 exact ⟨r,a,b.trans k⟩
theorem Dq.tr:Dq (some true) True:=⟨true,rfl,by simp⟩
theorem Dq.fa:Dq (some false) False:=⟨false,rfl,by simp⟩
theorem Dq.bool (b:Bool):Dq (some b) (b=true):=⟨b,rfl,Iff.rfl⟩
theorem Dq.cA {c:Bool} {C P:Prop} {o:Option Bool} (a:c=true↔C) (h:C->Dq o P):Dq (bif c then o else some false) (C/\P):=by
 cases c with
 | false=>exact ⟨false,rfl,by simp at a ⊢;intro h;exact absurd h a⟩
 | true =>
  have b:=a.1 rfl
  have ⟨r,d,f⟩:=h b
  exact ⟨r,d,by rw [f];exact ⟨fun p=>⟨b,p⟩,fun p=>p.2⟩⟩
theorem Dq.cN {c:Bool} {C P:Prop} {o:Option Bool} (a:c=false↔C) (h:C->Dq o P):Dq (bif c then some false else o) (C/\P):=by
 cases c with
 | true=>exact ⟨false,rfl,by simp at a ⊢;intro h;exact absurd h a⟩
 | false =>
  have b:=a.1 rfl
  have ⟨r,d,f⟩:=h b
  exact ⟨r,d,by rw [f];exact ⟨fun p=>⟨b,p⟩,fun p=>p.2⟩⟩
theorem Dq.bA {C P:Prop} {o1 a:Option Bool} (b:Dq o1 C) (h:C->Dq a P):Dq (o1.bind fun x=>bif x then a else some false) (C/\P):=by
 have ⟨r,e,c⟩:=b
 rw [e]
 exact Dq.cA c h
theorem Dq.bN {C P:Prop} {o1 a:Option Bool} (b:Dq o1 C) (h:C->Dq a P):Dq (o1.bind fun x=>bif (!x) then some false else a) (C/\P):=by
 have ⟨r,e,c⟩:=b
 rw [e]
 exact Dq.cN (by rw [<- c];cases r<;>simp) h
theorem Dq.bS {C:Prop} {o1:Option Bool} (a:Dq o1 C):Dq (o1.bind fun x=>some x) C:=by
 have ⟨r,e,b⟩:=a
 exact ⟨r,by rw [e];rfl,b⟩
theorem Zai {a b:Int}:(a != b)=false↔a=b:=by simp
theorem XA {a b:Int}:(a==b)=true↔a=b:=by simp
theorem Xm {a b:ByteArray}:(a.toList==b.toList)=true↔a=b:=BQ a b
theorem ZiV {a b:ByteArray}:(!(a.toList==b.toList))=false↔a=b:=by
 rw [<- BQ a b];unfold XN;cases (a.toList==b.toList)<;>simp
theorem Yf {α:Type} {l:List α} {i:Nat} {x:α} (h:l[i]? = some x):i < l.length:=(List.getElem?_eq_some_iff.1 h).1
theorem ZmB {α β:Type} {xs:List α} {ys:List β} (hl:xs.length=ys.length) (q:xs.length<=4194304) {R:α->β->Prop} (F:Nat->Int->Option Bool) {E:Prop}
  (j:∀ (n k:Nat) x y Q,k < 4194304->xs[k]? = some x->ys[k]? = some y->Dq (F n ((k+1:Nat):Int)) Q->Dq (F (n+1) (k:Int)) (R x y/\Q))
  (m:∀ (n k:Nat),xs.length<=k->Dq (F (n+1) (k:Int)) E) {N:Nat} (hN:xs.length < N):Dq (F N (0:Int)) ((∀ (i:Nat) (x:α) (y:β),xs[i]? = some x->ys[i]? = some y->R x y)/\E):=by
 have key:∀ d k n,xs.length-k=d->d < n->Dq (F n (k:Int)) ((∀ (i:Nat) (x:α) (y:β),k<=i->xs[i]? = some x->ys[i]? = some y->R x y)/\E):=by
  intro d
  induction d with
  | zero =>
   intro k n h o
   obtain ⟨n,rfl⟩:=pS n (by omega)
   refine (m n k (by omega)).iff ⟨fun a=>⟨fun i x y hi b _=>?_,a⟩,fun a=>a.2⟩
   have:=Yf b;omega
  | succ d p =>
   intro k n h o
   obtain ⟨n,rfl⟩:=pS n (by omega)
   have g:k < xs.length:=by omega
   have f:k < ys.length:=by omega
   refine (j n k _ _ _ (by omega) (Za g) (Za f) (p (k+1) n (by omega) (by omega))).iff ⟨fun a=>⟨fun i x y hi b c=>?_,a.2.2⟩,fun a=>⟨?_,fun i x y hi b c=>a.1 i x y (by omega) b c,a.2⟩⟩
   ·rcases Nat.eq_or_lt_of_le hi with rfl | hi
    ·rw [Za g] at b;rw [Za f] at c
     cases b;cases c;exact a.1
    ·exact a.2.1 i x y hi b c
   ·exact a.1 k _ _ (Zo _) (Za g) (Za f)
 refine (key xs.length 0 N rfl hN).iff ⟨fun h=>⟨fun i x y b c=>h.1 i x y (Nat.zero_le _) b c,h.2⟩,fun h=>⟨fun i x y _ b c=>h.1 i x y b c,h.2⟩⟩
variable {N:Nat} (hN:4194304 < N)
def bM (m:ZS):Prop:=m.Zy.length<=4194304/\m.Zz.length<=4194304
structure bP (p:ZL):Prop where
 r:p.ZD.length<=4194304
 m:p.ZE.length<=4194304
 ms:∀ x∈p.ZE,bM x
 l:p.ZF.length<=4194304
 b:bL p.ZF
end Gp
end
section
namespace Gp
open Go Go.Kx Gx
theorem Xz {α γ σ:Type} (xs:List α) (F:Nat->σ->Int->γ) (b:σ->α->σ) (g:σ->γ) (f:Nat->σ->Prop)
  (j:∀ (n k:Nat) s x,f k s->xs[k]? = some x->F (n+1) s (k:Int)=F n (b s x) ((k+1:Nat):Int)/\f (k+1) (b s x))
  (m:∀ (n k:Nat) s,f k s->xs.length<=k->F (n+1) s (k:Int)=g s) {N:Nat} {s:σ} (hN:xs.length < N) (o:f 0 s) :
  F N s (0:Int)=g (xs.foldl b s)/\f xs.length (xs.foldl b s):=by
 have key:∀ (l:List α) (k n:Nat) (s:σ),xs.drop k=l->l.length < n->f k s->F n s (k:Int)=g (l.foldl b s)/\f (k+l.length) (l.foldl b s):=by
  intro l
  induction l with
  | nil =>
   intro k n s h i hi
   obtain ⟨n,rfl⟩:=pS n (by simp at i;omega)
   exact ⟨m n k s hi (Xh h),hi⟩
  | cons x l w =>
   intro k n s h i hi
   obtain ⟨n,rfl⟩:=pS n (by simp at i;omega)
   have ⟨a,c,d⟩:=Xg h
   have ⟨p,q⟩:=j n k s x hi c
   have ⟨u,v⟩:=w (k+1) n _ d (by simp at i;omega) q
   refine ⟨p.trans u,?_⟩
   rw [Zf,show k+(l.length+1)=k+1+l.length by omega]
   exact v
 have:=key xs 0 N s rfl hN o
 rw [Nat.zero_add] at this
 exact this
mutual
def cI:ZJ->Nat
 | ⟨_,_,_,_,_,_,b⟩=>YF b+1
def cL:List ZJ->Nat
 | []=>0
 | x::l=>cI x+cL l
def YF:List (List ZJ)->Nat
 | []=>0
 | x::l=>cL x+YF l
end
theorem Ud (x:ZJ):cI x=YF x.ZC+1:=by cases x;simp only [cI]
mutual
theorem Zmu:∀ x,dI x<=cI x
 | ⟨_,_,_,_,_,_,b⟩=>by simp only [dI,cI];have:=ZhB b;omega
theorem QT:∀ l,dL l<=cL l
 | []=>by simp only [dL,cL];omega
 | x::l=>by simp only [dL,cL];have:=Zmu x;have:=QT l;omega
theorem ZhB:∀ l,WB l<=YF l
 | []=>by simp only [WB,YF];omega
 | x::l=>by simp only [WB,YF];have:=QT x;have:=ZhB l;omega
end
theorem VM {α:Type} {xs:List α} {k:Nat} {x:α} (h:xs[k]? = some x):xs.drop k=x::xs.drop (k+1):=by
 obtain ⟨a,rfl⟩:=List.getElem?_eq_some_iff.1 h
 exact List.drop_eq_getElem_cons a
theorem ZgI:∀ (l:List ZT) (s:Int),l.foldl (fun s x=>s+(cI (oI x):Int)) s=s+(cL (oL l):Int)
 | [],s=>by simp [oL,cL]
 | x::l,s=>by rw [List.foldl_cons,ZgI l];simp only [oL,cL];push_cast;omega
theorem ZgF:∀ (l:List (List ZT)) (s:Int),l.foldl (fun s x=>s+(cL (oL x):Int)) s=s+(YF (YA l):Int)
 | [],s=>by simp [YA,YF]
 | x::l,s=>by rw [List.foldl_cons,ZgF l];simp only [YA,YF];push_cast;omega
theorem UK (l:List (List ZT)):(YA l).length=l.length:=by rw [MV,List.length_map]
theorem UL (l:List ZT):(oL l).length=l.length:=by rw [MW,List.length_map]
theorem XV {l:List ZT} {x} (h:x∈l):oI x∈oL l:=by rw [MW];exact List.mem_map.2 ⟨x,h,rfl⟩
theorem WD {l:List (List ZT)} {x} (h:x∈l):oL x∈YA l:=by rw [MV];exact List.mem_map.2 ⟨x,h,rfl⟩
theorem Xl (x:ZT):(oI x).ZC=YA x.ZC:=by rw [XU]
theorem HX (x:ZT):(oI x).To=x.To:=by rw [XU]
theorem Zdv:∀ (N:Nat) (xs:List ZT),4194306+dL (oL xs)<=N->xs.length<=4194304->bL (oL xs)->cL (oL xs)<=1099511627776->z46 N xs=some ((cL (oL xs):Nat):Int)
 | 0,_,h,_,_,_=>by omega
 | N+1,xs,h,hs,hb,hc=>by
  show DD N (z46 N) xs=_
  unfold DD
  have hN:4194304 < N:=by omega
  have f:∀ (k:Nat) (x:ZT) (s:Int) (ag:Int->Int->Option Int),xs[k]? = some x->0<=s->s+(YF (YA x.ZC):Int)<=1099511627776 ->
    Qt (z46 N) xs (k:Int) ag N s (0:Int)=ag (s+(YF (YA x.ZC):Int)) ((k+1:Nat):Int):=by
   intro k x s ag a y p
   have v:=Zb a
   have i:=(WT _).1 (Wy hb (XV v))
   rw [Xl,UK] at i
   have q:=Wt (XV v)
   rw [Ws,Xl] at q
   have u:=Yf a
   have:=(Xz x.ZC (Qt (z46 N) xs (k:Int) ag) (fun s b=>s+(cL (oL b):Int)) (fun s=>ag s ((k+1:Nat):Int))
    (fun j s=>0<=s/\s+(YF (YA (x.ZC.drop j)):Int)<=1099511627776) (fun n j s b hi c=>?_) (fun n j s hi c=>?_) (N:=N) (s:=s) (by omega) ⟨y,by rw [List.drop_zero];exact p⟩).1
   ·rw [this,ZgF]
   ·have ⟨w,d⟩:=hi
    rw [VM c] at d
    simp only [YA,YF] at d
    have m:=Zb c
    have g:=Vl i.2.2 (WD m)
    have A:=WK (WD m)
    rw [UL] at g
    have e:=Zdv N b (by omega) g.1 g.2 (by omega)
    refine ⟨?_,by omega,by push_cast at d;omega⟩
    simp only [Qt,Ye,a,bS,Yh (Yf c),cT,c,e]
    rw [XL (by omega) (by omega),Yy (by have:=Yf c;omega)]
   ·simp only [Qt,Ye,a,bS,Yl c,cF,Zcq]
    rw [Yy (by omega)]
  have:=(Xz xs (Rm N (z46 N) xs) (fun s x=>s+(cI (oI x):Int)) (fun s=>some s)
   (fun j s=>0<=s/\s+(cL (oL (xs.drop j)):Int)<=1099511627776) (fun n k s x hi a=>?_) (fun n k s hi u=>?_) (N:=N) (s:=0) (by omega) ⟨by omega,by rw [List.drop_zero];omega⟩).1
  ·rw [this,ZgI];simp
  ·have ⟨w,d⟩:=hi
   rw [VM a] at d
   simp only [oL,cL] at d
   have o:=Ud (oI x)
   rw [Xl] at o
   refine ⟨?_,by omega,by push_cast at d;omega⟩
   simp only [Rm,Yh (Yf a),cT]
   rw [XL (by omega) (by omega),f k x (s+1) _ a (by omega) (by omega),o]
   congr 1
   push_cast;omega
  ·simp only [Rm,Yl u,cF,Zcp]
def oA (a:T9):YM:=⟨a.Zw,a.Op,a.Zx⟩
def oM (m:Yi):ZS:=⟨m.Zt,m.Zy,m.Zz.map oA⟩
def oP (p:ZU):ZL:=⟨p.Zt,p.ZD,p.ZE.map oM,oL p.ZF⟩
theorem VY {α β:Type} (f:α->β):∀ (l:List α) (s:List β),l.foldl (fun s x=>s++[f x]) s=s++l.map f
 | [],s=>by simp
 | x::l,s=>by rw [List.foldl_cons,VY f l,List.map_cons];simp
theorem Zi2:∀ (N:Nat) (xs:List ZT),4194306+dL (oL xs)<=N->xs.length<=4194304->bL (oL xs)->z20 N xs=some (oL xs)
 | 0,_,h,_,_=>by omega
 | N+1,xs,h,hs,hb=>by
  show G7 N (z20 N) xs=_
  unfold G7
  have hN:4194304 < N:=by omega
  have c:∀ (k:Nat) (x:ZT) (a:List ZJ) (ag:List ZJ->Int->Option (List ZJ)),xs[k]? = some x->a.length<=4194304 ->
    Qn (z20 N) a (k:Int) ag x N [] (0:Int)=ag (a++[oI x]) ((k+1:Nat):Int):=by
   intro k x a ag f u
   have v:=Zb f
   have i:=(WT _).1 (Wy hb (XV v))
   rw [Xl,UK] at i
   have p:=Wt (XV v)
   rw [Ws,Xl] at p
   have o:=Yf f
   have:=(Xz x.ZC (Qn (z20 N) a (k:Int) ag x) (fun s b=>s++[oL b]) (fun s=>G8 a (k:Int) ag x s)
    (fun j s=>s.length=j) (fun n j s b hi g=>?_) (fun n j s hi g=>?_) (N:=N) (s:=[]) (by omega) rfl).1
   ·rw [this,VY,List.nil_append,<- MV]
    unfold G8
    rw [YW (by simp;omega),bS,Yy (by omega),XU]
   ·have m:=Zb g
    have d:=Vl i.2.2 (WD m)
    have w:=WK (WD m)
    rw [UL] at d
    have e:=Zi2 N b (by omega) d.1 d.2
    have q:=Yf g
    refine ⟨?_,by simp [hi]⟩
    simp only [Qn,Yh q,cT,Ye,g,bS,e]
    rw [YW (by simp;omega),bS,Yy (by omega)]
   ·simp only [Qn,Yl g,cF]
  have:=(Xz xs (Rf N (z20 N) xs) (fun s x=>s++[oI x]) (fun s=>some s)
   (fun j s=>s.length=j) (fun n k s x hi f=>?_) (fun n k s hi o=>?_) (N:=N) (s:=[]) (by omega) rfl).1
  ·rw [this,VY,List.nil_append,<- MW]
  ·have o:=Yf f
   refine ⟨?_,by simp [hi]⟩
   simp only [Rf,Yh o,cT,Ye,f,bS]
   rw [c k x s _ f (by omega)]
  ·simp only [Rf,Yl o,cF,ZbX]
end Gp
end
section
namespace Gp
open Go Go.Kx Gx
variable {N:Nat} (hN:4194304 < N)
def RP (p:ZU):Prop:=bP (oP p)
theorem ZiW (m:Yi):(oM m).Zz.length=m.Zz.length:=by show (m.Zz.map oA).length=_;simp
theorem Zgi {p:ZU} (h:RP p) {m} (b:m∈p.ZE):m.Zy.length<=4194304/\m.Zz.length<=4194304:=by
 have:=h.ms (oM m) (List.mem_map.2 ⟨m,b,rfl⟩)
 have a:=this.2
 rw [ZiW] at a
 exact ⟨this.1,a⟩
theorem Zgh {p:ZU} (h:RP p):p.ZE.length<=4194304:=by
 have:=h.m
 have e:(oP p).ZE.length=p.ZE.length:=by show (p.ZE.map oM).length=_;simp
 omega
theorem QJ {p:ZU} (h:RP p):p.ZF.length<=4194304:=by
 have:=h.l
 have e:(oP p).ZF.length=p.ZF.length:=UL _
 omega
include hN in
theorem Zpj (xs:List ZU) (u:xs.length<=4194304) (o:∀ p∈xs,RP p/\4194306+dL (oL p.ZF)<=N):Gf N xs=some (xs.map oP):=by
 unfold Gf
 have i3:∀ (ms:List ZS) (j:Nat) (ag:List ZS->Int->Option (List ZL)) (m:Yi),ms.length<=4194304->j < 4194304->m.Zz.length<=4194304 ->
   R7 ms (j:Int) ag m N [] (0:Int)=ag (ms++[oM m]) ((j+1:Nat):Int):=by
  intro ms j ag m f h k
  have:=(Xz m.Zz (R7 ms (j:Int) ag m) (fun s a=>s++[oA a]) (fun s=>Gm ms (j:Int) ag m s) (fun i s=>s.length=i)
   (fun n i s a hi c=>?_) (fun n i s hi c=>?_) (N:=N) (s:=[]) (by omega) rfl).1
  ·rw [this,VY,List.nil_append]
   unfold Gm
   rw [YW (by simp;omega),bS,Yy (by omega)]
   rfl
  ·have g:=Yf c
   refine ⟨?_,by simp [hi]⟩
   simp only [R7,Yh g,cT,Ye,c,bS]
   rw [YW (by simp;omega),bS,Yy (by omega)]
   rfl
  ·simp only [R7,Yl c,cF]
 have i2:∀ (d:List ZL) (j:Nat) (ag:List ZL->Int->Option (List ZL)) (p:ZU) (b:List ZJ),d.length<=4194304->j < 4194304->RP p ->
   Sb N d (j:Int) ag p b N [] (0:Int)=ag (d++[⟨p.Zt,p.ZD,p.ZE.map oM,b⟩]) ((j+1:Nat):Int):=by
  intro d j ag p b f h k
  have q:=Zgh k
  have:=(Xz p.ZE (Sb N d (j:Int) ag p b) (fun s a=>s++[oM a]) (fun s=>Gl d (j:Int) ag p b s) (fun i s=>s.length=i)
   (fun n i s a hi c=>?_) (fun n i s hi c=>?_) (N:=N) (s:=[]) (by omega) rfl).1
  ·rw [this,VY,List.nil_append]
   unfold Gl
   rw [YW (by simp;omega),bS,Yy (by omega)]
  ·have g:=Yf c
   refine ⟨?_,by simp [hi]⟩
   simp only [Sb,Yh g,cT,Ye,c,bS]
   rw [i3 s i _ a (by omega) (by omega) (Zgi k (Zb c)).2]
  ·simp only [Sb,Yl c,cF]
 have:=(Xz xs (Tn N xs) (fun s a=>s++[oP a]) (fun s=>some s) (fun i s=>s.length=i)
   (fun n i s a hi c=>?_) (fun n i s hi c=>?_) (N:=N) (s:=[]) (by omega) rfl).1
 ·rw [this,VY,List.nil_append]
 ·have g:=Yf c
  refine ⟨?_,by simp [hi]⟩
  have ⟨f,h⟩:=o a (Zb c)
  simp only [Tn,Yh g,cT,Ye,c,bS]
  rw [Zi2 N a.ZF h (QJ f) f.b,bS,i2 s i _ a _ (by omega) (by omega) f]
  rfl
 ·simp only [Tn,Yl c,cF,ZaL]
end Gp
end
section
namespace Gp
open Go Go.Kx Gx
variable {N:Nat} (hN:4194304 < N)
def WW (l:List ZU):Nat:=(l.map fun p=>cL (oL p.ZF)).sum
def QZ (l:List ZU):Nat:=(l.map fun p=>p.ZE.length).sum
def Zdb (p:ZU):Prop:=∀ m∈p.ZE,m.Zy.length<=8/\m.Zz.length<=10
def Bg (l:List ZU):Prop:=(∀ p∈l,Zdb p)/\l.length<=12/\WW l<=320/\QZ l<=60
theorem TM {a b:Nat}:decide ((a:Int) > (b:Int))=false↔a<=b:=by simp
include hN in
theorem Zm8 (l:List ZU) (X:l.length<=4194304) (L:∀ p∈l,RP p/\4194306+dL (oL p.ZF)<=N) (Y:WW l<=1099511627776):Dq (G4 N l) (Bg l):=by
 unfold G4
 have key:∀ (f:List ZU) (k n:Nat) (s t:Nat),l.drop k=f->f.length < n->s+WW f<=1099511627776->t<=k * 4194304 ->
   Dq (Sh N l n (s:Int) (t:Int) (k:Int)) ((∀ p∈f,Zdb p)/\l.length<=12/\s+WW f<=320/\t+QZ f<=60):=by
  intro f
  induction f with
  | nil =>
   intro k n s t h y D T
   obtain ⟨n,rfl⟩:=pS n (by simp at y;omega)
   simp only [Sh,Yl (Xh h),cF,ZbU]
   refine (Dq.cA (C:=l.length<=12) (by rw [decide_eq_true_eq];omega) fun _=>Dq.cA (C:=s<=320) (by rw [decide_eq_true_eq];omega) fun _=>Dq.bool _).iff ?_
   simp only [decide_eq_true_eq,WW,QZ,List.map_nil,List.sum_nil,Nat.add_zero,List.not_mem_nil,false_implies,implies_true,true_and]
   omega
  | cons p f W =>
   intro k n s t h y D T
   obtain ⟨n,rfl⟩:=pS n (by simp at y;omega)
   have ⟨a,c,d⟩:=Xg h
   have F:=Zb c
   have ⟨A,P⟩:=L p F
   have U:WW (p::f)=cL (oL p.ZF)+WW f:=by simp [WW]
   have V:QZ (p::f)=p.ZE.length+QZ f:=by simp [QZ]
   have G:=Zgh A
   simp only [Sh,Yh a,cT,Ye,c,bS]
   rw [Zdv N p.ZF P (QJ A) A.b (by omega),bS]
   refine (ZmB (xs:=p.ZE) (ys:=p.ZE) rfl G (R:=fun m _=>m.Zy.length<=8/\m.Zz.length<=10)
    (PQ l (s:Int) (t:Int) (k:Int) (Sh N l n) ((cL (oL p.ZF):Nat):Int) p)
    (E:=(∀ p∈f,Zdb p)/\l.length<=12/\s+cL (oL p.ZF)+WW f<=320/\t+p.ZE.length+QZ f<=60) (fun M j u v Q H o Z O=>?_) (fun M j H=>?_) (N:=N) (by omega)).iff ?_
   ·simp only [PQ,Ye,c,bS,Yh (Yf o),cT,o,Yy (show j < 4611686018427387904 by omega)]
    refine (Dq.cN (C:=u.Zy.length<=8) (TM (b:=8)) fun _=>Dq.cN (C:=u.Zz.length<=10) (TM (b:=10)) fun _=>O).iff ⟨fun q=>⟨⟨q.1,q.2.1⟩,q.2.2⟩,fun q=>⟨q.1.1,q.1.2,q.2⟩⟩
   ·simp only [PQ,Ye,c,bS,Yl H,cF,ZbV]
    rw [XL (by omega) (by omega),XL (by omega) (by omega),Yy (by omega)]
    have:=W (k+1) n (s+cL (oL p.ZF)) (t+p.ZE.length) d (by simp at y;omega) (by omega) (by omega)
    push_cast at this
    exact this
   ·rw [U,V]
    constructor
    ·rintro ⟨w,B,I,S,q5⟩
     refine ⟨fun x g=>?_,I,by omega,by omega⟩
     rcases List.mem_cons.1 g with rfl | g
     ·intro m F
      have ⟨i,hi⟩:=List.mem_iff_getElem?.1 F
      exact w i m m hi hi
     ·exact B x g
    ·rintro ⟨w,B,I,S⟩
     exact ⟨fun i u v o _=>w p (Zj ..) u (Zb o),fun x g=>w x (Zi _ g),B,by omega,by omega⟩
 have:=key l 0 N 0 0 rfl (by omega) (by omega) (by omega)
 refine this.iff ?_
 unfold Bg
 simp only [Nat.zero_add]
end Gp
end
section
namespace Gp
open Go Go.Kx Gx
abbrev Wq:=T4
inductive Rr (α:Type) where
 | ok (a:α) (n:Nat)
 | er (k:Nat) (e:Int)
 | out
def Rr.bind {α β:Type}:Rr α->(α->Nat->Rr β)->Rr β
 | .ok a n,f=>f a n
 | .er k e,_=>.er k e
 | .out,_=>.out
def zt:Wq:=⟨0,str [],0,0⟩
def tk (l:List Wq) (n:Nat):Wq:=(l[n]?).getD zt
def MP (s:ByteArray) (t:Wq):Bool:=(t.Zq==4 || t.Zq==1) && XN t.ZG s
def marksL:List ByteArray:=[(str [60]),(str [60,61]),(str [61,61]),(str [62,61]),(str [62])]
def starters:List ByteArray:=[(str [99,104,111,105,99,101]),(str [108,111,111,112]),(str [97,103,97,105,110]),(str [112,97,114]),(str [99,97,108,108])]
end Gp
end
section
namespace Gp
open Go Go.Kx Gx
theorem ZqT {l:List Wq} {n:Nat} (h:l.length<=n):tk l n=zt:=by unfold tk;rw [List.getElem?_eq_none h];rfl
section
variable {σ:Type} (l:List Wq) (Y2:Nat->σ) (erS:Nat->Int->σ)
def Ot {α β:Type} (Gd:α->Prop) (c:β->α) (n0:Nat) (r:Rr β) (o:Option (α × σ)):Prop :=
 match r with
 | .ok b n=>o=some (c b,Y2 n)/\Gd (c b)/\n0<=n/\n<=l.length
 | .er k e=>e≠0/\∃ a,o=some (a,erS k e)/\Gd a
 | .out=>True
theorem Ot.le {α β:Type} {a:α->Prop} {c:β->α} {n0 d:Nat} {r:Rr β} {o:Option (α × σ)} (h:Ot l Y2 erS a c d r o) (f:n0<=d):Ot l Y2 erS a c n0 r o:=by
 cases r with
 | ok b n=>exact ⟨h.1,h.2.1,Nat.le_trans f h.2.2.1,h.2.2.2⟩
 | er k e=>exact h
 | out=>trivial
structure Bj {α β:Type} (Gd:α->Prop) (c:β->α) (S:Nat->Rr β) (g:σ->Option (α × σ)):Prop where
 ok:∀ n,n<=l.length->Ot l Y2 erS Gd c n (S n) (g (Y2 n))
 st:∀ k e,e≠0->∃ a,g (erS k e)=some (a,erS k e)/\Gd a
structure BjU (S:Nat->Rr Unit) (g:σ->Option σ):Prop where
 ok:∀ n,n<=l.length->match S n with
  | .ok _ m=>g (Y2 n)=some (Y2 m)/\n<=m/\m<=l.length
  | .er k e=>e≠0/\g (Y2 n)=some (erS k e)
  | .out=>True
 st:∀ k e,e≠0->g (erS k e)=some (erS k e)
structure Tk (s:ByteArray) (t:σ->Option (Bool × σ)):Prop where
 ok:∀ n,t (Y2 n)=some (bif MP s (tk l n) then (true,Y2 (n+1)) else (false,Y2 n))
 st:∀ k e,e≠0->t (erS k e)=some (false,erS k e)
structure Is (s:ByteArray) (t:σ->Option Bool):Prop where
 ok:∀ n,t (Y2 n)=some (MP s (tk l n))
 st:∀ k e,e≠0->t (erS k e)=some false
structure Nx (t:σ->Option Wq):Prop where
 ok:∀ n,t (Y2 n)=some (tk l n)
 st:∀ k e,e≠0->t (erS k e)=some zt
variable {l Y2 erS}
theorem Bj.bind {α β α' β':Type} {u:α->Prop} {d:α'->Prop} {c:β->α} {o:β'->α'} (v:∀ a,∃ b,c b=a) {S:Nat->Rr β} {g:σ->Option (α × σ)} (h:Bj l Y2 erS u c S g) {T:β->Nat->Rr β'} {G:α × σ->Option (α' × σ)}
  (p:∀ b,u (c b)->Bj l Y2 erS d o (T b) (fun s=>G (c b,s))):Bj l Y2 erS d o (fun n=>(S n).bind T) (fun s=>(g s).bind G):=by
 refine ⟨fun n x=>?_,fun k e f=>?_⟩
 ·have j:=h.ok n x
  show Ot l Y2 erS d o n ((S n).bind T) ((g (Y2 n)).bind G)
  cases w:S n with
  | ok b m =>
   rw [w] at j
   have ⟨e,i,y,A⟩:=j
   rw [e]
   exact ((p b i).ok m A).le _ _ _ y
  | er k e =>
   rw [w] at j
   have ⟨f,a,q,i⟩:=j
   obtain ⟨b,rfl⟩:=v a
   refine ⟨f,?_⟩
   rw [q]
   exact (p b i).st k e f
  | out=>trivial
 ·have ⟨a,q,i⟩:=h.st k e f
  obtain ⟨b,rfl⟩:=v a
  show ∃ a,(g (erS k e)).bind G=_/\_
  rw [q]
  exact (p b i).st k e f
theorem BjU.bind {α' β':Type} {c:α'->Prop} {i:β'->α'} {S:Nat->Rr Unit} {g:σ->Option σ} (h:BjU l Y2 erS S g) {T:Unit->Nat->Rr β'} {G:σ->Option (α' × σ)}
  (j:Bj l Y2 erS c i (T ()) G):Bj l Y2 erS c i (fun n=>(S n).bind T) (fun s=>(g s).bind G):=by
 refine ⟨fun n p=>?_,fun k e d=>?_⟩
 ·have f:=h.ok n p
  show Ot l Y2 erS c i n ((S n).bind T) ((g (Y2 n)).bind G)
  cases o:S n with
  | ok b m =>
   rw [o] at f
   have ⟨e,q,u⟩:=f
   rw [e]
   exact (j.ok m u).le _ _ _ q
  | er k e =>
   rw [o] at f
   have ⟨d,v⟩:=f
   refine ⟨d,?_⟩
   rw [v]
   exact j.st k e d
  | out=>trivial
 ·show ∃ a,(g (erS k e)).bind G=_/\_
  rw [h.st k e d]
  exact j.st k e d
theorem Bj.is {α β:Type} {b:α->Prop} {c:β->α} {s:ByteArray} {t:σ->Option Bool} (h:Is l Y2 erS s t) {A B:Nat->Rr β} {G:Bool->σ->Option (α × σ)}
  (g:Bj l Y2 erS b c A (G true)) (hB:Bj l Y2 erS b c B (G false)):Bj l Y2 erS b c (fun n=>bif MP s (tk l n) then A n else B n) (fun p=>(t p).bind fun x=>G x p):=by
 refine ⟨fun n d=>?_,fun k e f=>?_⟩
 ·show Ot l Y2 erS b c n (bif MP s (tk l n) then A n else B n) ((t (Y2 n)).bind fun x=>G x (Y2 n))
  rw [h.ok n]
  cases hi:MP s (tk l n) with
  | true=>exact g.ok n d
  | false=>exact hB.ok n d
 ·show ∃ a,(t (erS k e)).bind (fun x=>G x (erS k e))=_/\_
  rw [h.st k e f]
  exact hB.st k e f
theorem Bj.next {α β:Type} {b:α->Prop} {c:β->α} {t:σ->Option Wq} (h:Nx l Y2 erS t) {A B:Nat->Rr β} {G:Wq->σ->Option (α × σ)} (q:Wq->Bool) (g:q zt=false)
  (i:∀ n,n < l.length->q (tk l n)=true->Ot l Y2 erS b c n (A n) (G (tk l n) (Y2 n))) (hB:∀ n,n<=l.length->q (tk l n)=false->Ot l Y2 erS b c n (B n) (G (tk l n) (Y2 n)))
  (j:∀ k e,e≠0->∃ a,G zt (erS k e)=some (a,erS k e)/\b a):Bj l Y2 erS b c (fun n=>bif q (tk l n) then A n else B n) (fun p=>(t p).bind fun x=>G x p):=by
 refine ⟨fun n m=>?_,fun k e f=>?_⟩
 ·show Ot l Y2 erS b c n (bif q (tk l n) then A n else B n) ((t (Y2 n)).bind fun x=>G x (Y2 n))
  rw [h.ok n]
  cases hi:q (tk l n) with
  | true =>
   have d:n < l.length:=by
    rcases Nat.lt_or_ge n l.length with k | k
    ·exact k
    ·rw [ZqT k,g] at hi;cases hi
   exact i n d hi
  | false=>exact hB n m hi
 ·show ∃ a,(t (erS k e)).bind (fun x=>G x (erS k e))=_/\_
  rw [h.st k e f]
  exact j k e f
theorem Bj.congr {α β:Type} {a:α->Prop} {c:β->α} {S b:Nat->Rr β} {g d:σ->Option (α × σ)} (h:Bj l Y2 erS a c S g) (j:∀ n,n<=l.length->b n=S n) (f:∀ s,d s=g s):Bj l Y2 erS a c b d :=
 ⟨fun n i=>by rw [j n i,f];exact h.ok n i,fun k e m=>by rw [f];exact h.st k e m⟩
end
end Gp
end
section
namespace Gp
open Go Go.Kx Gx
variable {N:Nat} (hN:4194304 < N) {l:List Wq} (hl:l.length<=8100) (hW:∀ t∈l,t.ZG.size<=8100) (e:Int)
end Gp
end
section
namespace Gp
open Go Go.Kx Gx
variable {N:Nat} (hN:4194304 < N) {l:List Wq} (hl:l.length<=8100) (hW:∀ t∈l,t.ZG.size<=8100) (e:Int)
end Gp
end
section
namespace Gp
open Go Go.Kx Gx
variable {N:Nat} (hN:4194304 < N) {l:List Wq} (hl:l.length<=8100) (hW:∀ t∈l,t.ZG.size<=8100) (e:Int)
end Gp
end
section
namespace Gp
open Go Go.Kx Gx
variable {N:Nat} {l:List Wq} (hl:l.length<=8100) (hW:∀ t∈l,t.ZG.size<=8100) (e:Int)
end Gp
end
section
namespace Gp
open Go Go.Kx Gx
variable {N:Nat} (hN:4194304 < N) {l:List Wq} (hl:l.length<=8100) (hW:∀ t∈l,t.ZG.size<=8100) (z:ByteArray)
end Gp
end
section
namespace Gp
open Go Go.Kx Gx
def WfT (l:List Wq):Prop:=∀ t∈l,(t.Zq=1->(marksL.any fun k=>XN k t.ZG)=false)/\(t.Zq=4->(starters.any fun k=>XN k t.ZG)=false)
variable {N:Nat} (hN:4194304 < N) {l:List Wq} (hl:l.length<=8100) (hW:∀ t∈l,t.ZG.size<=8100) (hT:WfT l) (z:ByteArray)
end Gp
end
section
namespace Gp
open Go Go.Kx Gx
variable {N:Nat} (hN:4194304 < N) {l:List Wq} (hl:l.length<=8100) (hW:∀ t∈l,t.ZG.size<=8100) (hT:WfT l) (z:ByteArray)
end Gp
end
section
namespace Gp
open Go Go.Kx Gx
def Zn3 (c:UInt8):Bool:=TP (c.toNat:Int)
inductive Lx where
 | ok (k:Int) (tx:List UInt8) (v:Int) (n:Nat)
 | er (e:Int)
def Zoj:List (List UInt8):=[[45,62],[46,46],[60,61],[62,61],[61,61],[33,61],[38,38],[124,124]]
def Zoi:List UInt8:=[40,41,123,125,44,59,58,46,43,45,42,47,37,60,62,61,33]
variable {N:Nat} (hN:4194304 < N)
end Gp
end
section
namespace Gp
open Go Go.Kx Gx
variable {N:Nat} (hN:4194304 < N)
end Gp
end
section
namespace Gp
open Go Go.Kx Gx
variable {N:Nat} (hN:4194304 < N)
end Gp
end
section
namespace Gp
open Go Go.Kx Gx
structure ZtM (s:List UInt8) (k:Int) (tx:List UInt8) (n:Nat):Prop where
 pos:1<=n
 le:n<=s.length
 len:tx.length<=n
 name:k=1->∃ c l,tx=c::l/\Zn3 c=true
 mark:k=4->(tx∈Zoj\/∃ c,c∈Zoi/\tx=[c])
variable {N:Nat} (hN:4194304 < N)
end Gp
end
section
namespace Gp
open Go Go.Kx Gx
variable {N:Nat} (hN:4194304 < N)
end Gp
end
section
namespace Gp
open Go Go.Kx Gx
variable {N:Nat} (hN:4194304 < N)
end Gp
end
section
namespace Gp
open Go Go.Kx Gx
section
variable (l:List Wq)
structure Nm {β:Type} (d:Nat) (z:β->Nat) (c:Nat) (S:Nat->Rr β) (B:Nat):Prop where
 out:∀ n,B<=n->n<=l.length->S n≠.out
 ok:∀ n,B<=n->n<=l.length->∀ a m,S n=.ok a m->n+d<=m/\m<=l.length/\z a+n<=m+c
variable {l}
theorem Nm.bind {α β:Type} {d1 d2:Nat} {j:α->Nat} {z2:β->Nat} {c:Nat} {S:Nat->Rr α} {T:α->Nat->Rr β} {B:Nat} (h:Nm l d1 j 0 S B) (hT:∀ a,Nm l d2 z2 (c+j a) (T a) B):Nm l (d1+d2) z2 c (fun n=>(S n).bind T) B:=by
 refine ⟨fun n hB g=>?_,fun n hB g b m d=>?_⟩
 ·cases f:S n with
  | ok a m => 
   have ⟨p,i,_⟩:=h.ok n hB g a m f
   exact (hT a).out m (by omega) i
  | er k e=>intro h;cases h
  | out=>exact absurd f (h.out n hB g)
 ·have d:(S n).bind T=.ok b m:=d
  cases f:S n with
  | ok a o =>
   rw [f] at d
   have ⟨p,i,s⟩:=h.ok n hB g a o f
   have ⟨u,q,v⟩:=(hT a).ok o (by omega) i b m d
   exact ⟨by omega,q,by omega⟩
  | er k e=>rw [f] at d;cases d
  | out=>rw [f] at d;cases d
theorem Nm.weak {β:Type} {d f:Nat} {z g:β->Nat} {c i:Nat} {S:Nat->Rr β} {B j:Nat} (h:Nm l d z c S B) (s:f<=d) (k:∀ a,g a<=z a) (u:c<=i) (hB:B<=j):Nm l f g i S j :=
 ⟨fun n o b=>h.out n (by omega) b,fun n o b a m p=>by
  have ⟨v,q,w⟩:=h.ok n (by omega) b a m p
  have:=k a
  exact ⟨by omega,q,by omega⟩⟩
theorem ZeY {s:ByteArray} (h:Y8 s=true):s.size<=16:=by
 rw [XP]
 unfold Y8 SE at h
 rw [Zc] at h
 cases a:bs s with
 | nil=>simp
 | cons x l =>
  rw [a] at h
  have:=h.1
  simp only [Zc,decide_eq_true_eq] at this
  simp only [Zf];omega
end
end Gp
end
section
namespace Gp
open Go Go.Kx Gx
section
variable {l:List Wq}
theorem Nm.congr {β:Type} {d:Nat} {z:β->Nat} {c:Nat} {S g:Nat->Rr β} {B:Nat} (h:Nm l d z c S B) (e:∀ n,g n=S n):Nm l d z c g B :=
 ⟨fun n b f=>by rw [e];exact h.out n b f,fun n b f a m i=>h.ok n b f a m (by rw [<- e];exact i)⟩
theorem Nm.b0 {α β:Type} {d1:Nat} {b:α->Nat} {z2:β->Nat} {c:Nat} {S:Nat->Rr α} {T:α->Nat->Rr β} {B:Nat} (h:Nm l d1 b 0 S B) (hT:∀ a,Nm l 0 z2 (c+b a) (T a) B):Nm l 0 z2 c (fun n=>(S n).bind T) B :=
 (Nm.bind h hT).weak (Nat.zero_le _) (fun _=>Zo _) (Zo _) (Zo _)
theorem Nm.b1 {α β:Type} {b:α->Nat} {z2:β->Nat} {c:Nat} {S:Nat->Rr α} {T:α->Nat->Rr β} {B:Nat} (h:Nm l 1 b 0 S B) (hT:∀ a,Nm l 0 z2 (c+b a) (T a) B):Nm l 1 z2 c (fun n=>(S n).bind T) B :=
 Nm.bind (d2:=0) h hT
end
end Gp
end
section
namespace Gp
open Go Go.Kx Gx
theorem Dq.ite {c:Bool} {C P:Prop} {o1 a:Option Bool} (b:c=true↔C) (d:C->Dq o1 P) (f:¬C->Dq a P):Dq (bif c then o1 else a) P:=by
 cases c with
 | false=>exact f (fun h=>by have:=b.2 h;cases this)
 | true=>exact d (b.1 rfl)
theorem Dq.cK {c:Bool} {C P:Prop} {o K:Option Bool} (b:c=true↔C) (h:C->Dq o P) (d:Dq K False):Dq (bif c then o else K) (C/\P) :=
 Dq.ite b (fun a=>(h a).iff ⟨fun p=>⟨a,p⟩,fun p=>p.2⟩) (fun a=>d.iff ⟨fun p=>p.elim,fun p=>a p.1⟩)
theorem Dq.bK {C P:Prop} {o1 a K:Option Bool} (b:Dq o1 C) (h:C->Dq a P) (c:Dq K False):Dq (o1.bind fun x=>bif x then a else K) (C/\P):=by
 have ⟨r,e,d⟩:=b
 rw [e]
 exact Dq.cK d h c
theorem Dq.of {o:Option Bool} {b:Bool} {P:Prop} (h:o=some b) (a:b=true↔P):Dq o P:=⟨b,h,a⟩
theorem Dq.dec {P:Prop} [Decidable P] {Q:Prop} (h:P↔Q):Dq (some (decide P)) Q:=⟨decide P,rfl,by rw [decide_eq_true_eq,h]⟩
theorem TJ {α:Type} {xs:List α} (q:xs.length<=4194304) {P:α->Prop} (F:Nat->Int->Option Bool) {E:Prop}
  (j:∀ (n k:Nat) x Q,k < 4194304->xs[k]? = some x->(P x->Dq (F n ((k+1:Nat):Int)) Q)->Dq (F (n+1) (k:Int)) (P x/\Q))
  (m:(∀ x∈xs,P x)->∀ (n k:Nat),xs.length<=k->Dq (F (n+1) (k:Int)) E) {N:Nat} (hN:xs.length < N):Dq (F N (0:Int)) ((∀ x∈xs,P x)/\E):=by
 have key:∀ (l:List α) (k n:Nat),xs.drop k=l->l.length < n->(∀ x∈xs.take k,P x)->Dq (F n (k:Int)) ((∀ x∈l,P x)/\E):=by
  intro l
  induction l with
  | nil =>
   intro k n h f g
   obtain ⟨n,rfl⟩:=pS n (by simp at f;omega)
   have i:=Xh h
   rw [List.take_of_length_le i] at g
   exact (m g n k i).iff ⟨fun h=>⟨by simp,h⟩,fun h=>h.2⟩
  | cons x l p =>
   intro k n h f g
   obtain ⟨n,rfl⟩:=pS n (by simp at f;omega)
   have ⟨a,c,d⟩:=Xg h
   refine (j n k x _ (by omega) c fun o=>p (k+1) n d (by simp at f;omega) ?_).iff ?_
   ·intro y b
    rw [List.take_succ,c] at b
    rcases List.mem_append.1 b with b | b
    ·exact g y b
    ·simp at b;subst b;exact o
   ·simp only [List.mem_cons,forall_eq_or_imp,and_assoc]
 have:=key xs 0 N rfl hN (by simp)
 exact this
variable {N:Nat} (hN:4194304 < N)
include hN in
theorem Zki (s:ByteArray):Wl N s=some (Y8 s):=by
 by_cases a:s.size<=4194304
 ·exact Zkh hN s a
 ·have c:bs s≠[]:=fun h=>by rw [XP,h] at a;simp at a
  have d:Y8 s=false:=by
   cases h:Y8 s with
   | false=>rfl
   | true=>have:=ZeY h;omega
  obtain ⟨x,l,b⟩:∃ x l,bs s=x::l:=by
   cases h:bs s with
   | nil=>exact absurd h c
   | cons x l=>exact ⟨x,l,rfl⟩
  have f:(s.toList==(str []).toList)=false:=by rw [W3,W3,b];rfl
  have g:decide ((s.size:Int) > 16)=true:=dT (by omega)
  have i:YX s (0:Int)=some (x.toNat:Int):=by rw [show YX s (0:Int)=YX s ((0:Nat):Int) from rfl,RY,b];rfl
  rw [d]
  unfold Wl Rt
  rw [f,g,i]
  simp only [cF,cT,bS]
include hN in
theorem ZqZ (s:ByteArray):Wl N s=some (Y8 s)/\PD N s=some (Y8 s):=by
 by_cases a:s.size<=4194304
 ·exact Zkg hN s a
 ·have c:bs s≠[]:=fun h=>by rw [XP,h] at a;simp at a
  have d:Y8 s=false:=by
   cases h:Y8 s with
   | false=>rfl
   | true=>have:=ZeY h;omega
  obtain ⟨x,l,b⟩:∃ x l,bs s=x::l:=by
   cases h:bs s with
   | nil=>exact absurd h c
   | cons x l=>exact ⟨x,l,rfl⟩
  have f:(s.toList==(str []).toList)=false:=by rw [W3,W3,b];rfl
  have g:decide ((s.size:Int) > 16)=true:=dT (by omega)
  have i:YX s (0:Int)=some (x.toNat:Int):=by rw [show YX s (0:Int)=YX s ((0:Nat):Int) from rfl,RY,b];rfl
  rw [d]
  unfold Wl Rt PD LW
  rw [f,g,i]
  simp only [cF,cT,bS,Zjj]
  refine ⟨trivial,?_⟩
  cases TP (x.toNat:Int)<;>rfl
include hN in
theorem Pa (s:ByteArray):Dq (Wl N s) (Y8 s=true):=Dq.of (Zki hN s) Iff.rfl
include hN in
theorem SQ (s:ByteArray):Dq (z109 N s) (Y8 s=true):=by
 refine Dq.of (b:=Y8 s) ?_ Iff.rfl
 unfold z109
 rw [(ZqZ hN s).2];rfl
include hN in
theorem Zan (s:ByteArray):Dq (SX N s) (W1 s=true):=Dq.of (Zpk hN s) Iff.rfl
include hN in
theorem Lb (s:ByteArray) (a:s.size<=4000000):Dq (Tu N s) (W1 s=true):=Dq.of (ZpS hN s a) Iff.rfl
theorem XJ {a:ByteArray}:(a.toList==(str []).toList)=true↔a=str []:=Xm
def QL (l:List ByteArray) (k:Nat):Prop:=1<=l.length/\l.length<=k/\∀ w∈l,Y8 w=true
include hN in
theorem ZeZ (l:List ByteArray) (hl:l.length<=4194304) (k:Nat):Dq (P2 N l (k:Int)) (QL l k):=by
 unfold P2
 refine Dq.cA (by rw [decide_eq_true_eq];omega) fun _=>Dq.cA (by rw [decide_eq_true_eq];omega) fun _=>?_
 unfold Zc0 Zbc
 rw [ZP l hl (fun x k r=>bif !Y8 x then some k else r) (Pv N l) (some (-1)) hN]
 ·have ⟨i,c,d⟩:=ZeX (fun x => !Y8 x) l 0
  rw [c]
  simp only [bS]
  refine ⟨_,rfl,?_⟩
  rw [d]
  simp
 ·intro n k x a b
  simp only [Pv,Yh (Yf b),cT,Ye,b,bS,z99,Zki hN x,Yy (show k < 4611686018427387904 by omega)]
 ·intro n k a
  simp only [Pv,Yl a,cF,Zbd]
include hN in
theorem ZeE (l:List ByteArray) (hl:l.length<=4194304) (k:Nat):Dq (Pf N l (k:Int)) (QL l k):=by
 unfold Pf
 refine (TJ hl (P:=fun w=>Y8 w=true) (E:=1<=l.length/\l.length<=k) _ (fun n i x Q hi a h=>?_) (fun _ n i hi=>?_) (by omega)).iff ⟨fun h=>⟨h.2.1,h.2.2,h.1⟩,fun h=>⟨h.2.2,h.1,h.2.1⟩⟩
 ·simp only [Lr,Yh (Yf a),cT,Ye,a,bS,Yy (show i < 4611686018427387904 by omega)]
  exact Dq.bN (SQ hN x) h
 ·simp only [Lr,Yl hi,cF,ZaM]
  exact Dq.cA (by rw [decide_eq_true_eq];omega) fun _=>Dq.dec (by omega)
def XI (x:ZJ):Prop :=
 (x.Zq=1/\Y8 x.ZA=true/\QL x.To 5/\W1 x.Zt=true/\x.As=str []/\x.ZB=0/\x.ZC.length=0) \/
 (x.Zq=2/\Y8 x.ZA=true/\x.To.length=0/\x.Zt=str []/\x.As=str []/\0<=x.ZB/\x.ZB<=1000/\1+min x.ZB 1<=(x.ZC.length:Int)/\x.ZC.length<=8) \/
 (x.Zq=3/\x.ZA=str []/\x.To.length=0/\W1 x.Zt=true/\x.As=str []/\x.ZB=0/\x.ZC.length=1) \/
 (x.Zq=4/\x.ZA=str []/\x.To.length=0/\W1 x.Zt=true/\x.As=str []/\x.ZB=0/\x.ZC.length=0) \/
 (x.Zq=5/\x.ZA=str []/\x.To.length=0/\x.Zt=str []/\x.As=str []/\x.ZB=0/\2<=x.ZC.length/\x.ZC.length<=8) \/
 (x.Zq=6/\x.ZA=str []/\QL x.To 6/\Y8 x.Zt=true/\Y8 x.As=true/\x.ZB=0/\x.ZC.length=0)
theorem UG {n:Nat}:((n:Int)==0)=true↔n=0:=by simp
include hN in
theorem Zqo (x:ZJ) (s:x.To.length<=4194304):Dq (Gg N x) (XI x):=by
 unfold Gg
 refine Dq.ite XA (fun m=>?_) fun m=>Dq.ite XA (fun n=>?_) fun n=>?_
 ·refine (Dq.bA (Pa hN _) fun _=>Dq.bA (ZeZ hN _ s 5) fun _=>Dq.bA (Zan hN _) fun _=>Dq.cA XJ fun _=>Dq.cA XA fun _=>Dq.of rfl UG).iff ?_
  unfold XI
  simp [m]
 ·refine (Dq.bA (Pa hN _) fun _=>Dq.cA UG fun _=>Dq.cA XJ fun _=>Dq.cA XJ fun _=>Dq.cA (C:=0<=x.ZB) decide_eq_true_iff fun _=>Dq.cA (C:=x.ZB<=1000) decide_eq_true_iff fun _ =>
   Dq.cA (C:=1+min x.ZB 1<=(x.ZC.length:Int)) ?_ fun _=>Dq.dec (Q:=x.ZC.length<=8) (by omega)).iff ?_
  ·rw [decide_eq_true_eq]
   unfold W0
   rw [XL (by split<;>omega) (by split<;>omega)]
   split<;>omega
  ·unfold XI
   simp [n]
 have i:∀ k,(k=3/\x.Zq=3)\/(k=4/\x.Zq=4)->Dq (Pb N x true) (XI x):=by
  intro k i
  unfold Pb
  simp only [cT]
  refine (Dq.cA XJ fun _=>Dq.cA UG fun _=>Dq.bA (Zan hN _) fun _=>Dq.cA XJ fun _=>Dq.cA XA fun _=>Dq.cA (C:=x.Zq=3↔x.ZC.length=1) ?_ fun _=>Dq.dec (Q:=x.ZC.length<=1) (by omega)).iff ?_
  ·rw [beq_iff_eq,Bool.eq_iff_iff];simp;omega
  ·unfold XI
   rcases i with ⟨_,i⟩ | ⟨_,i⟩
   ·simp only [i]
    constructor
    ·rintro ⟨a,b,c,d,e,f,g⟩;exact Or.inr (Or.inr (Or.inl ⟨trivial,a,b,c,d,e,by simpa using f⟩))
    ·rintro (h | h | h | h | h | h)<;>simp at h
     have ⟨a,b,c,d,e,f⟩:=h
     exact ⟨a,by simpa using b,c,d,e,by simpa using f,by omega⟩
   ·simp only [i]
    constructor
    ·rintro ⟨a,b,c,d,e,f,g⟩
     refine Or.inr (Or.inr (Or.inr (Or.inl ⟨trivial,a,b,c,d,e,?_⟩)))
     have:¬ x.ZC.length=1:=fun h=>by simpa using f.2 h
     omega
    ·rintro (h | h | h | h | h | h)<;>simp at h
     have ⟨a,b,c,d,e,f⟩:=h
     have f:x.ZC.length=0:=by rw [f];rfl
     exact ⟨a,by simpa using b,c,d,e,⟨fun h=>by omega,fun h=>by omega⟩,by omega⟩
 refine Dq.ite XA (fun o=>i 3 (Or.inl ⟨rfl,o⟩)) fun o=>?_
 cases j:(x.Zq==4) with
 | true=>exact i 4 (Or.inr ⟨rfl,XA.1 j⟩)
 | false =>
  have j:¬ x.Zq=4:=fun h=>by rw [h] at j;cases j
  unfold Pb
  simp only [cF]
  refine Dq.ite XA (fun p=>?_) fun p=>Dq.ite XA (fun q=>?_) fun q=>?_
  ·refine (Dq.cA XJ fun _=>Dq.cA UG fun _=>Dq.cA XJ fun _=>Dq.cA XJ fun _=>Dq.cA XA fun _=>Dq.cA (C:=2<=x.ZC.length) (by rw [decide_eq_true_eq];omega) fun _=>Dq.dec (Q:=x.ZC.length<=8) (by omega)).iff ?_
   unfold XI
   simp [p]
  ·refine (Dq.cA XJ fun _=>Dq.bA (ZeZ hN _ s 6) fun _=>Dq.bA (Pa hN _) fun _=>Dq.bA (Pa hN _) fun _=>Dq.cA XA fun _=>Dq.of rfl UG).iff ?_
   unfold XI
   simp [q]
  ·refine Dq.fa.iff ⟨fun h=>h.elim,fun h=>?_⟩
   unfold XI at h
   rcases h with h | h | h | h | h | h
   ·exact m h.1
   ·exact n h.1
   ·exact o h.1
   ·exact j h.1
   ·exact p h.1
   ·exact q h.1
end Gp
end
section
namespace Gp
open Go Go.Kx Gx
mutual
def TW:ZJ->Prop
 | ⟨k,f,t,n,a,x,b⟩=>XI ⟨k,f,t,n,a,x,b⟩/\Wa b
def Xq:List ZJ->Prop
 | []=>True
 | x::l=>TW x/\Xq l
def Wa:List (List ZJ)->Prop
 | []=>True
 | x::l=>Xq x/\Wa l
end
theorem H6 (x:ZJ):TW x↔XI x/\Wa x.ZC:=by cases x;simp only [TW]
def Vq (o:Option (Bool × Int)) (P:Prop) (m:Int):Prop:=∃ r k,o=some (r,k)/\(r=true↔P)/\(r=true->k=m)
theorem Vq.iff {o P Q m m'} (h:Vq o P m) (k:P↔Q) (e:Q->m=m'):Vq o Q m':=by
 have ⟨r,j,c,b,d⟩:=h
 exact ⟨r,j,c,b.trans k,fun a=>(d a).trans (e (k.1 (b.1 a)))⟩
theorem Vq.fa {k:Int} {P:Prop} {m:Int} (h:¬P):Vq (some (false,k)) P m:=⟨false,k,rfl,by simp [h],fun h=>by cases h⟩
theorem ZqW {u:List ZJ->Int->Int->Option (Bool × Int)} {d k:Nat} {ag:Int->Int->Option (Bool × Int)} {x:ZJ} {rest:List ZJ} (D:d<=10) (E:k < 4194304) (w:x.ZC.length<=4194304)
  (o:∀ b∈x.ZC,∀ n:Nat,n<=300->Vq (u b ((d+1:Nat):Int) (n:Int)) (Xq b/\dL b+(d+1)<=11/\n+cL b<=300) ((n+cL b:Nat):Int))
  (p:∀ n:Nat,n<=300->Vq (ag (n:Int) ((k+1:Nat):Int)) (Xq rest/\dL rest+d<=11/\n+cL rest<=300) ((n+cL rest:Nat):Int)) :
  ∀ (g:List (List ZJ)) (j f n:Nat),x.ZC.drop j=g->g.length < f->n<=300 ->
   Vq (P3 u (d:Int) (k:Int) ag x f (n:Int) (j:Int)) (Wa g/\WB g+d<=10/\n+YF g<=300/\Xq rest/\dL rest+d<=11/\n+YF g+cL rest<=300) ((n+YF g+cL rest:Nat):Int):=by
 intro g
 induction g with
 | nil =>
  intro j f n h i s
  obtain ⟨f,rfl⟩:∃ m,f=m+1:=⟨f-1,by simp at i;omega⟩
  simp only [P3,Yl (Xh h),cF,Zcl,Yy (show k < 4611686018427387904 by omega),Wa,WB,YF]
  exact (p n s).iff ⟨fun q=>⟨trivial,by omega,by omega,q.1,q.2.1,by omega⟩,fun q=>⟨q.2.2.2.1,q.2.2.2.2.1,by omega⟩⟩ (fun _=>rfl)
 | cons b g C =>
  intro j f n h i s
  obtain ⟨f,rfl⟩:∃ m,f=m+1:=⟨f-1,by simp at i;omega⟩
  have ⟨a,c,e⟩:=Xg h
  have ⟨r,m,y,v,A⟩:=o b (Zb c) n s
  simp only [P3,Yh a,cT,Ye,c,bS,Yy (show d < 4611686018427387904 by omega),Yy (show j < 4611686018427387904 by omega),y,Wa,WB,YF]
  cases r with
  | false =>
   refine Vq.fa fun q=>?_
   have:false=true:=v.2 ⟨q.1.1,by omega,by omega⟩
   cases this
  | true =>
   have ⟨B,F,G⟩:=v.1 rfl
   rw [A rfl]
   simp only [Zg,cF]
   refine (C (j+1) f (n+cL b) e (by simp at i;omega) (by omega)).iff ⟨fun q=>⟨⟨B,q.1⟩,by omega,by omega,q.2.2.2.1,q.2.2.2.2.1,by omega⟩,fun q=>⟨q.1.2,by omega,by omega,q.2.2.2.1,q.2.2.2.2.1,by omega⟩⟩ (fun _=>by congr 1;omega)
theorem Zkc:∀ (N:Nat) (xs:List ZJ) (d n:Nat),4194317<=N+d->xs.length<=4194304->bL xs->d<=11->n<=300 ->
  Vq (Hm N xs (d:Int) (n:Int)) (Xq xs/\dL xs+d<=11/\n+cL xs<=300) ((n+cL xs:Nat):Int)
 | 0,_,_,_,h,_,_,_,_=>by omega
 | N+1,xs,d,n,h,hs,hb,hd,o=>by
  show Vq (Dy N (Hm N) xs (d:Int) (n:Int)) _ _
  unfold Dy
  have hN:4194304 < N:=by omega
  have key:∀ (l:List ZJ) (k f n:Nat),xs.drop k=l->l.length < f->n<=300 ->
    Vq (Rl N (Hm N) xs (d:Int) f (n:Int) (k:Int)) (Xq l/\dL l+d<=11/\n+cL l<=300) ((n+cL l:Nat):Int):=by
   intro l
   induction l with
   | nil =>
    intro k f n h o D
    obtain ⟨f,rfl⟩:∃ m,f=m+1:=⟨f-1,by simp at o;omega⟩
    simp only [Rl,Yl (Xh h),cF,Zck,Xq,dL,cL]
    exact ⟨true,n,rfl,by simp;omega,fun _=>rfl⟩
   | cons x l F =>
    intro k f n h o D
    obtain ⟨f,rfl⟩:∃ m,f=m+1:=⟨f-1,by simp at o;omega⟩
    have ⟨a,c,e⟩:=Xg h
    have E:=Zb c
    have i:=(WT _).1 (Wy hb E)
    simp only [Rl,Yh a,cT,Ye,c,bS,Yy (show n < 4611686018427387904 by omega)]
    have p:=Ws x
    have j:=Ud x
    have s:=H6 x
    by_cases A:d<=10
    ·rw [dF (show ¬ (d:Int) > 10 by omega),cF]
     by_cases v:n+1<=300
     ·rw [dF (show ¬ ((n+1:Nat):Int) > 300 by omega),cF]
      have ⟨r,C,B⟩:=Zqo hN x i.1
      rw [C,bS]
      cases r with
      | false =>
       refine Vq.fa fun q=>?_
       have:=B.2 (s.1 (by simp only [Xq] at q;exact q.1.1)).1
       cases this
      | true =>
       simp only [Zg,cF]
       refine (ZqW (rest:=l) A (by omega) i.2.1 (fun b w y g=>?_) (fun y g=>F (k+1) f y e (by simp at o;omega) g) x.ZC 0 N (n+1) rfl (by omega) v).iff ?_ ?_
       ·have u:=Vl i.2.2 w
        exact Zkc N b (d+1) y (by omega) u.1 u.2 (by omega) g
       ·simp only [Xq,dL,cL,p,j,s]
        exact ⟨fun q=>⟨⟨⟨B.1 rfl,q.1⟩,q.2.2.2.1⟩,by omega,by omega⟩,fun q=>⟨q.1.1.2,by omega,by omega,q.1.2,by omega,by omega⟩⟩
       ·intro _
        simp only [cL,j]
        congr 1;omega
     ·rw [dT (show ((n+1:Nat):Int) > 300 by omega),cT]
      refine Vq.fa fun q=>?_
      simp only [cL,j] at q
      omega
    ·rw [dT (show (d:Int) > 10 by omega),cT]
     refine Vq.fa fun q=>?_
     simp only [dL,p] at q
     omega
  exact key xs 0 N n rfl (by omega) o
end Gp
end
section
namespace Gp
open Go Go.Kx Gx
theorem ZiB (a b:Int):Uk a b=max a b:=by unfold Uk;split<;>omega
theorem Zhm:∀ (l:List ZT) (s:Int),0<=s->l.foldl (fun s x=>max s (dI (oI x):Int)) s=max s (dL (oL l):Int)
 | [],s,h=>by simp only [List.foldl_nil,oL,dL];omega
 | x::l,s,h=>by simp only [List.foldl_cons,oL,dL];rw [Zhm l _ (by omega)];omega
theorem Zhl:∀ (l:List (List ZT)) (s:Int),0<=s->l.foldl (fun s x=>max s (dL (oL x):Int)) s=max s (WB (YA l):Int)
 | [],s,h=>by simp only [List.foldl_nil,YA,WB];omega
 | x::l,s,h=>by simp only [List.foldl_cons,YA,WB];rw [Zhl l _ (by omega)];omega
theorem ZhG:∀ (N:Nat) (xs:List ZT),4194306+dL (oL xs)<=N->xs.length<=4194304->bL (oL xs)->dL (oL xs)<=1099511627776->Pg N xs=some ((dL (oL xs):Nat):Int)
 | 0,_,h,_,_,_=>by omega
 | N+1,xs,h,hs,hb,hc=>by
  show Gq N (Pg N) xs=_
  unfold Gq
  have hN:4194304 < N:=by omega
  have c:∀ (k:Nat) (x:ZT) (v:Int) (ag:Int->Int->Option Int),xs[k]? = some x -> 
    R8 (Pg N) xs v (k:Int) ag N (0:Int) (0:Int)=ag (max v (dI (oI x):Int)) ((k+1:Nat):Int):=by
   intro k x v ag a
   have p:=Zb a
   have g:=(WT _).1 (Wy hb (XV p))
   rw [Xl,UK] at g
   have m:=Wt (XV p)
   rw [Ws,Xl] at m
   have o:=Yf a
   have:=(Xz x.ZC (R8 (Pg N) xs v (k:Int) ag) (fun s b=>max s (dL (oL b):Int)) (fun s=>ag (max v (s+1)) ((k+1:Nat):Int))
    (fun j s=>0<=s/\s<=1099511627776) (fun n j s b hi f=>?_) (fun n j s hi f=>?_) (N:=N) (s:=0) (by omega) ⟨by omega,by omega⟩).1
   ·rw [this,Zhl _ _ (by omega),Ws,Xl];congr 1<;>omega
   ·have ⟨q,u⟩:=hi
    have i:=Zb f
    have d:=Vl g.2.2 (WD i)
    have w:=WK (WD i)
    rw [UL] at d
    have e:=ZhG N b (by omega) d.1 d.2 (by omega)
    refine ⟨?_,by omega,by omega⟩
    simp only [R8,Ye,a,bS,Yh (Yf f),cT,f,e,ZiB]
    rw [Yy (by have:=Yf f;omega)]
   ·have ⟨q,u⟩:=hi
    simp only [R8,Ye,a,bS,Yl f,cF,ZaO,ZiB]
    rw [Yy (by omega),XL (by omega) (by omega)]
  have:=(Xz xs (S3 N (Pg N) xs) (fun s x=>max s (dI (oI x):Int)) (fun s=>some s)
   (fun j s=>True) (fun n k s x hi a=>?_) (fun n k s hi o=>?_) (N:=N) (s:=0) (by omega) trivial).1
  ·rw [this,Zhm _ _ (by omega)];congr 1<;>omega
  ·refine ⟨?_,trivial⟩
   simp only [S3,Yh (Yf a),cT]
   rw [c k x s _ a]
  ·simp only [S3,Yl o,cF,ZaN]
mutual
def nI:ZJ->Prop
 | ⟨_,_,_,n,_,_,b⟩=>n.size<=4000000/\RQ b
def nL:List ZJ->Prop
 | []=>True
 | x::l=>nI x/\nL l
def RQ:List (List ZJ)->Prop
 | []=>True
 | x::l=>nL x/\RQ l
end
theorem ZoJ (x:ZJ):nI x↔x.Zt.size<=4000000/\RQ x.ZC:=by cases x;simp only [nI]
theorem ZiM:∀ {l:List ZJ} {x},nL l->x∈l->nI x
 | y::l,x,hb,h=>by
  simp only [nL] at hb
  rcases List.mem_cons.1 h with rfl | h
  ·exact hb.1
  ·exact ZiM hb.2 h
theorem ZiL:∀ {l:List (List ZJ)} {x},RQ l->x∈l->nL x
 | y::l,x,hb,h=>by
  simp only [RQ] at hb
  rcases List.mem_cons.1 h with rfl | h
  ·exact hb.1
  ·exact ZiL hb.2 h
variable {N:Nat}
theorem ZnS (hN:4194304 < N) {f:List ZT->Option Bool} {x:ZT} (o:x.ZC.length<=4194304) (g:∀ b∈x.ZC,Dq (f b) (Xq (oL b))) (v:Bool):Dq (YY N f x v) (v=true/\Wa (YA x.ZC)):=by
 unfold YY
 have key:∀ (l:List (List ZT)) (k n:Nat) (v:Bool),x.ZC.drop k=l->l.length < n->Dq (PE f x n v (k:Int)) (v=true/\Wa (YA l)):=by
  intro l
  induction l with
  | nil =>
   intro k n v h d
   obtain ⟨n,rfl⟩:=pS n (by simp at d;omega)
   simp only [PE,Yl (Xh h),cF,LI,YA,Wa,and_true]
   exact Dq.bool v
  | cons b l m =>
   intro k n v h d
   obtain ⟨n,rfl⟩:=pS n (by simp at d;omega)
   have ⟨a,c,e⟩:=Xg h
   have ⟨r,i,j⟩:=g b (Zb c)
   simp only [PE,Yh a,cT,Ye,c,bS,i,Yy (show k < 4611686018427387904 by omega),YA,Wa,LI]
   cases v with
   | false=>exact Dq.fa.iff (by simp)
   | true =>
    refine (m (k+1) n r e (by simp at d;omega)).iff ?_
    rw [j];simp
 exact key x.ZC 0 N v rfl (by omega)
theorem Znk (hN:4194304 < N) {y:List ZT->Option Bool} {x:ZT} (D:x.To.length<=4194304) (E:x.Zt.size<=4000000) (R:x.ZC.length<=4194304) (F:∀ b∈x.ZC,Dq (y b) (Xq (oL b))) :
  Dq (GS N y x) (XI (oI x)/\Wa (YA x.ZC)):=by
 have O:=fun v=>ZnS hN R F v
 have j:Dq (YY N y x false) False:=(O false).iff (by simp)
 have w:∀ (v:Bool) (P:Prop),(v=true↔P)->Dq (YY N y x v) (P/\Wa (YA x.ZC)):=fun v P h=>(O v).iff (by rw [h])
 have k:(oI x).ZC.length=x.ZC.length:=by rw [Xl,UK]
 have n:(oI x).Zq=x.Zq:=by rw [XU]
 have o:(oI x).ZA=x.ZA:=by rw [XU]
 have p:(oI x).To=x.To:=by rw [XU]
 have q:(oI x).Zt=x.Zt:=by rw [XU]
 have s:(oI x).As=x.As:=by rw [XU]
 have u:(oI x).ZB=x.ZB:=by rw [XU]
 have T:XI (oI x)=XI ⟨x.Zq,x.ZA,x.To,x.Zt,x.As,x.ZB,YA x.ZC⟩:=by rw [XU]
 unfold GS
 refine Dq.ite XA (fun G=>?_) fun G=>Dq.ite XA (fun A=>?_) fun A=>Dq.ite XA (fun H=>?_) fun H=>Dq.ite XA (fun I=>?_) fun I=>Dq.ite XA (fun L=>?_) fun L=>Dq.ite XA (fun M=>?_) fun M=>?_
 ·refine (Dq.bK (SQ hN _) (fun _=>Dq.bK (ZeE hN _ D 5) (fun _=>Dq.bK (Lb hN _ E) (fun _=>Dq.cK XJ (fun _=>Dq.cK XA (fun _=>w _ _ UG) j) j) j) j) j).iff ?_
  unfold XI
  rw [n,o,p,q,s,u,k]
  simp [G,and_assoc]
 ·have B:∀ (v:Int) (m:Nat),v=(m:Int)->Dq (LJ N y x v) (Y8 x.ZA=true/\x.To.length=0/\x.Zt=str []/\x.As=str []/\0<=x.ZB/\x.ZB<=1000/\m<=x.ZC.length/\x.ZC.length<=8/\Wa (YA x.ZC)):=by
   intro v m S
   subst S
   unfold LJ
   exact Dq.bK (SQ hN _) (fun _=>Dq.cK UG (fun _=>Dq.cK XJ (fun _=>Dq.cK XJ (fun _=>Dq.cK (C:=0<=x.ZB) decide_eq_true_iff (fun _=>Dq.cK (C:=x.ZB<=1000) decide_eq_true_iff (fun _ =>
    Dq.cK (C:=m<=x.ZC.length) (by rw [decide_eq_true_eq];omega) (fun _=>w _ (x.ZC.length<=8) (by rw [decide_eq_true_eq];omega)) j) j) j) j) j) j) j
  refine Dq.ite (C:=x.ZB > 0) decide_eq_true_iff (fun D=>(B 2 2 rfl).iff ?_) (fun D=>(B 1 1 rfl).iff ?_)
  ·unfold XI
   rw [n,o,p,q,s,u,k]
   have:1+min x.ZB 1<=(x.ZC.length:Int)↔2<=x.ZC.length:=by omega
   simp [A,and_assoc,this]
  ·unfold XI
   rw [n,o,p,q,s,u,k]
   constructor
   ·rintro ⟨a,b,c,d,e,f,g,h,i⟩
    exact ⟨Or.inr (Or.inl ⟨A,a,b,c,d,e,f,by omega,h⟩),i⟩
   ·rintro ⟨h | h | h | h | h | h,i⟩<;>simp [A] at h
    have ⟨a,b,c,d,e,f,g,h⟩:=h
    exact ⟨a,by simpa using b,c,d,e,f,by omega,h,i⟩
 ·refine (Dq.cK XJ (fun _=>Dq.cK UG (fun _=>Dq.bK (Lb hN _ E) (fun _=>Dq.cK XJ (fun _=>Dq.cK XA (fun _=>w _ (x.ZC.length=1) (by simp;omega)) j) j) j) j) j).iff ?_
  unfold XI
  rw [n,o,p,q,s,u,k]
  simp [H,and_assoc]
 ·refine (Dq.cK XJ (fun _=>Dq.cK UG (fun _=>Dq.bK (Lb hN _ E) (fun _=>Dq.cK XJ (fun _=>Dq.cK XA (fun _=>w _ (x.ZC.length=0) UG) j) j) j) j) j).iff ?_
  unfold XI
  rw [n,o,p,q,s,u,k]
  simp [I,and_assoc]
 ·refine (Dq.cK XJ (fun _=>Dq.cK UG (fun _=>Dq.cK XJ (fun _=>Dq.cK XJ (fun _=>Dq.cK XA (fun _=>Dq.cK (C:=2<=x.ZC.length) (by rw [decide_eq_true_eq];omega) (fun _=>w _ (x.ZC.length<=8) (by rw [decide_eq_true_eq];omega)) j) j) j) j) j) j).iff ?_
  unfold XI
  rw [n,o,p,q,s,u,k]
  simp [L,and_assoc]
 ·refine (Dq.cK XJ (fun _=>Dq.bK (ZeE hN _ D 6) (fun _=>Dq.bK (SQ hN _) (fun _=>Dq.bK (SQ hN _) (fun _=>Dq.cK XA (fun _=>w _ (x.ZC.length=0) UG) j) j) j) j) j).iff ?_
  unfold XI
  rw [n,o,p,q,s,u,k]
  simp [M,and_assoc]
 ·refine j.iff ⟨fun h=>h.elim,fun h=>?_⟩
  unfold XI at h
  rw [n,o,p,q,s,u,k] at h
  rcases h.1 with h | h | h | h | h | h
  ·exact G h.1
  ·exact A h.1
  ·exact H h.1
  ·exact I h.1
  ·exact L h.1
  ·exact M h.1
theorem ZjN:∀ l:List ZT,Xq (oL l)↔∀ x∈l,XI (oI x)/\Wa (YA x.ZC)
 | []=>by simp [oL,Xq]
 | x::l=>by simp only [oL,Xq,ZjN l,List.mem_cons,forall_eq_or_imp,H6,Xl]
theorem Zh6:∀ (N:Nat) (xs:List ZT),4194306+dL (oL xs)<=N->xs.length<=4194304->bL (oL xs)->nL (oL xs)->Dq (ZaQ N xs) (Xq (oL xs))
 | 0,_,h,_,_,_=>by omega
 | N+1,xs,h,hs,hb,hn=>by
  show Dq (Gr N (ZaQ N) xs) _
  unfold Gr
  refine (TJ hs (P:=fun x=>XI (oI x)/\Wa (YA x.ZC)) (E:=True) _ (fun n k x Q m g o=>?_) (fun _ n k m=>?_) (by omega)).iff (by rw [ZjN];simp)
  ·have i:=Zb g
   have a:=(WT _).1 (Wy hb (XV i))
   rw [Xl,UK,HX] at a
   have j:=Wt (XV i)
   rw [Ws,Xl] at j
   have d:=(ZoJ _).1 (ZiM hn (XV i))
   rw [Xl,show (oI x).Zt=x.Zt by rw [XU]] at d
   simp only [Ls,Yh (Yf g),cT,Ye,g,bS,Yy (show k < 4611686018427387904 by omega)]
   refine Dq.bN (Znk (by omega) a.1 d.1 a.2.1 fun b c=>?_) o
   have f:=Vl a.2.2 (WD c)
   have p:=WK (WD c)
   rw [UL] at f
   exact Zh6 N b (by omega) f.1 f.2 (ZiL d.2 (WD c))
  ·simp only [Ls,Yl m,cF,ZaR]
   exact Dq.tr
end Gp
end
section
namespace Gp
open Go Go.Kx Gx
variable {N:Nat} (hN:4194304 < N)
def Uc (n:Int):Prop:=-999999<=n/\n<=999999
theorem ZqY (n:Int):Dq (Zbr N n) (Uc n):=Dq.cA (C:=-999999<=n) decide_eq_true_iff fun _=>Dq.dec Iff.rfl
theorem ZeN (n:Int):Dq (LK N n) (Uc n):=Dq.cA (C:=-999999<=n) decide_eq_true_iff fun _=>Dq.dec Iff.rfl
def Vj (t:Ys):Prop:=Uc t.N/\((t.Zq=1/\t.Zv=str []/\t.Field=str [])\/((t.Zq=2\/t.Zq=3)/\Y8 t.Field=true/\(t.Zv=str []\/W1 t.Zv=true)))
theorem Dq.orE {c:Bool} {C P:Prop} {o:Option Bool} (b:c=true↔C) (h:¬C->Dq o P):Dq (bif c then some true else o) (C\/P) :=
 Dq.ite b (fun a=>Dq.tr.iff ⟨fun _=>Or.inl a,fun _=>trivial⟩) (fun a=>(h a).iff ⟨fun p=>Or.inr p,fun p=>p.resolve_left a⟩)
include hN in
theorem Zj4 (t:Ys):Dq (Lm N t) (Vj t):=by
 unfold Lm
 refine Dq.bN (ZqY _) fun _=>Dq.ite XA (fun b=>?_) fun b=>?_
 ·refine (Dq.cA XJ fun _=>Dq.of rfl XJ).iff ?_
  simp [b]
 have c:(t.Zq=2\/t.Zq=3)->Dq (Pc N t true) ((t.Zq=1/\t.Zv=str []/\t.Field=str [])\/((t.Zq=2\/t.Zq=3)/\Y8 t.Field=true/\(t.Zv=str []\/W1 t.Zv=true))):=by
  intro c
  unfold Pc
  simp only [cT]
  refine (Dq.bA (Pa hN _) fun _=>Dq.orE XJ fun _=>Dq.bS (Zan hN _)).iff ?_
  simp [b,c]
 refine Dq.ite XA (fun d=>c (Or.inl d)) fun d=>?_
 cases a:(t.Zq==3) with
 | true=>exact c (Or.inr (XA.1 a))
 | false =>
  have a:¬ t.Zq=3:=fun h=>by rw [h] at a;cases a
  unfold Pc
  simp only [cF]
  exact Dq.fa.iff (by simp [b,d,a])
include hN in
theorem ZjB (t:Ys) (d:t.Zv.size<=4000000):Dq (LL N t) (Vj t):=by
 unfold LL
 refine Dq.bN (ZeN _) fun _=>Dq.ite XA (fun a=>?_) fun a=>Dq.ite XA (fun b=>?_) fun b=>Dq.ite XA (fun c=>?_) fun c=>?_
 ·refine (Dq.cA XJ fun _=>Dq.of rfl XJ).iff ?_
  simp [a]
 ·refine (Dq.bA (SQ hN _) fun _=>Dq.orE XJ fun _=>Dq.bS (Lb hN _ d)).iff ?_
  simp [b]
 ·refine (Dq.bA (SQ hN _) fun _=>Dq.orE XJ fun _=>Dq.bS (Lb hN _ d)).iff ?_
  simp [c]
 ·exact Dq.fa.iff (by simp [a,b,c])
def TG (f:T0):Prop:=Y8 f.Zt=true/\(f.Zu.Zq=1\/f.Zu.Zq=2)/\Uc f.Zu.Lo/\Uc f.Zu.Hi/\(f.Zu.Zq=2->0<=f.Zu.Lo/\0<=f.Zu.Hi)
def TF (a:YM):Prop:=Vj a.Zw/\Vj a.Zx/\a.Op∈marksL
def Wx (m:ZS):Prop:=W1 m.Zt=true/\m.Zy.length<=4/\m.Zz.length<=6/\(∀ f∈m.Zy,TG f)/\∀ a∈m.Zz,TF a
theorem Zot {a b c:Int}:decide (W0 a b < c)=false↔c<=a/\c<=b:=by rw [decide_eq_false_iff_not];unfold W0;split<;>omega
theorem Zok {a b c:Int}:decide (Uk a b > c)=false↔a<=c/\b<=c:=by rw [decide_eq_false_iff_not];unfold Uk;split<;>omega
include hN in
theorem Zoh (s:ByteArray):Dq ((Ln N).bind fun x=>W7 N x s) (s∈marksL):=by
 have h:=Zdu hN marksL (by decide) s
 refine Dq.of (b:=marksL.any fun x=>XN x s) h ?_
 rw [List.any_eq_true]
 constructor
 ·rintro ⟨x,a,h⟩;rw [(BQ _ _).1 h] at a;exact a
 ·intro h;exact ⟨s,h,ZmZ s⟩
include hN in
theorem Zow (m:ZS):Dq (Dz N m) (Wx m):=by
 unfold Dz
 refine Dq.bN (Zan hN _) fun _=>Dq.cN (C:=m.Zy.length<=4) TM fun A=>Dq.cN (C:=m.Zz.length<=6) TM fun B=>?_
 refine TJ (P:=TG) (E:=∀ a∈m.Zz,TF a) (by omega) _ (fun n k x Q j o p=>?_) (fun _ n k j=>?_) (by omega)
 ·have key:∀ (lo:Int),(x.Zu.Zq=2/\lo=0)\/(x.Zu.Zq≠2/\lo=-999999)->Dq (Hn N (k:Int) (Sm N m n) x lo) (TG x/\Q):=by
   intro lo s
   unfold Hn
   rw [Yy (show k < 4611686018427387904 by omega)]
   refine (Dq.bN (P:=(x.Zu.Zq=1\/x.Zu.Zq=2)/\(lo<=x.Zu.Lo/\lo<=x.Zu.Hi)/\(x.Zu.Lo<=999999/\x.Zu.Hi<=999999)/\Q) (Pa hN _) fun v=>?_).iff ?_
   ·have rest:(x.Zu.Zq=1\/x.Zu.Zq=2)->Dq (bif decide (W0 x.Zu.Lo x.Zu.Hi < lo) then some false else bif decide (Uk x.Zu.Lo x.Zu.Hi > (999999:Int)) then some false else Sm N m n ((k+1:Nat):Int)) ((lo<=x.Zu.Lo/\lo<=x.Zu.Hi)/\(x.Zu.Lo<=999999/\x.Zu.Hi<=999999)/\Q):=fun q =>
     Dq.cN Zot fun D=>Dq.cN Zok fun F=>p (by unfold TG Uc;exact ⟨v,q,⟨by omega,by omega⟩,⟨by omega,by omega⟩,fun g=>by omega⟩)
    cases i:(x.Zu.Zq != 1) with
    | false =>
     have i:=Zai.1 i
     simp only [cF]
     exact (rest (Or.inl i)).iff (by simp [i])
    | true =>
     simp only [cT]
     have u:¬ x.Zu.Zq=1:=fun h=>by rw [h] at i;cases i
     refine (Dq.cN (C:=x.Zu.Zq=2) Zai fun g=>rest (Or.inr g)).iff ?_
     simp [u]
   ·unfold TG Uc
    constructor
    ·rintro ⟨a,b,c,d,e⟩;exact ⟨⟨a,b,by omega,by omega,by omega⟩,e⟩
    ·rintro ⟨⟨a,b,c,d,e⟩,f⟩
     refine ⟨a,b,?_,by omega,f⟩
     rcases s with ⟨h,hl⟩ | ⟨h,hl⟩
     ·have:=e h;omega
     ·omega
  simp only [Sm,Yh (Yf o),cT,Ye,o,bS]
  exact Dq.ite XA (fun g=>key 0 (Or.inl ⟨g,rfl⟩)) fun g=>key (-999999) (Or.inr ⟨g,rfl⟩)
 ·simp only [Sm,Yl j,cF,Zco]
  refine (TJ (xs:=m.Zz) (P:=TF) (E:=True) (by omega) _ (fun n k x Q j o p=>?_) (fun _ n k j=>?_) (by omega)).iff (by simp)
  ·simp only [Ho,Yh (Yf o),cT,Ye,o,bS,Yy (show k < 4611686018427387904 by omega)]
   refine (Dq.bN (Zj4 hN _) fun i=>Dq.bN (Zj4 hN _) fun g=>?_:Dq _ (Vj x.Zw/\Vj x.Zx/\x.Op∈marksL/\Q)).iff (by unfold TF;simp only [and_assoc])
   exact Dq.bN (o1:=(Ln N).bind fun y=>W7 N y x.Op) (Zoh hN _) fun w=>p ⟨i,g,w⟩
  ·simp only [Ho,Yl j,cF,Zcn]
   exact Dq.tr
def nM (m:ZS):Prop:=m.Zt.size<=4000000/\∀ a∈m.Zz,a.Zw.Zv.size<=4000000/\a.Zx.Zv.size<=4000000
theorem HW {a b:ByteArray}:(!(a.toList==b.toList))=true↔¬ a=b:=by
 rw [<- BQ a b];unfold XN;cases (a.toList==b.toList)<;>simp
include hN in
theorem Zp1 (m:Yi) (B:m.Zy.length<=4194304) (D:m.Zz.length<=4194304) (w:nM (oM m)):Dq (Gs N m) (Wx (oM m)):=by
 unfold Gs
 refine (TJ (P:=TG) (E:=(∀ a∈m.Zz,TF (oA a))/\W1 m.Zt=true/\m.Zy.length<=4/\m.Zz.length<=6) B _ (fun n k x Q p j s=>?_) (fun _ n k p=>?_) (by omega)).iff ?_
 ·simp only [Tq,Yh (Yf j),cT,Ye,j,bS,Yy (show k < 4611686018427387904 by omega)]
  refine (Dq.bN (P:=Uc x.Zu.Lo/\Uc x.Zu.Hi/\(x.Zu.Zq=1\/x.Zu.Zq=2)/\(x.Zu.Zq=2->0<=x.Zu.Lo/\0<=x.Zu.Hi)/\Q) (SQ hN _) fun y=>Dq.bN (ZeN _) fun g=>Dq.bN (ZeN _) fun o=>?_).iff ?_
  ·have rest:(x.Zu.Zq=1\/x.Zu.Zq=2)->Dq (bif (x.Zu.Zq==(2:Int)) then (bif decide (x.Zu.Lo < (0:Int)) then some false else bif decide (x.Zu.Hi < (0:Int)) then some false else Tq N m n ((k+1:Nat):Int)) else Tq N m n ((k+1:Nat):Int)) ((x.Zu.Zq=2->0<=x.Zu.Lo/\0<=x.Zu.Hi)/\Q):=fun q =>
    Dq.ite XA (fun i=>(Dq.cN (C:=0<=x.Zu.Lo) (by rw [decide_eq_false_iff_not];omega) fun F=>Dq.cN (C:=0<=x.Zu.Hi) (by rw [decide_eq_false_iff_not];omega) fun G=>s ⟨y,q,g,o,fun _=>⟨F,G⟩⟩).iff (by simp [i,and_assoc]))
     (fun i=>(s ⟨y,q,g,o,fun h=>absurd h i⟩).iff (by simp [i]))
   cases g:(x.Zu.Zq != 1) with
   | false =>
    have g:=Zai.1 g
    simp only [cF]
    exact (rest (Or.inl g)).iff (by simp [g])
   | true =>
    simp only [cT]
    have u:¬ x.Zu.Zq=1:=fun h=>by rw [h] at g;cases g
    refine (Dq.cN (C:=x.Zu.Zq=2) Zai fun o=>rest (Or.inr o)).iff ?_
    simp [u]
  ·unfold TG
   constructor
   ·rintro ⟨a,b,c,d,e,f⟩;exact ⟨⟨a,d,b,c,e⟩,f⟩
   ·rintro ⟨⟨a,b,c,d,e⟩,f⟩;exact ⟨a,c,d,b,e,f⟩
 ·simp only [Tq,Yl p,cF,ZaU]
  refine TJ (P:=fun a=>TF (oA a)) (E:=W1 m.Zt=true/\m.Zy.length<=4/\m.Zz.length<=6) D _ (fun n k x Q p j s=>?_) (fun _ n k p=>?_) (by omega)
  ·simp only [Tp,Yh (Yf j),cT,Ye,j,bS,Yy (show k < 4611686018427387904 by omega)]
   have H:oA x∈(oM m).Zz:=List.mem_map.2 ⟨x,Zb j,rfl⟩
   have A:=w.2 _ H
   refine (Dq.bN (ZjB hN _ A.1) fun g=>Dq.bN (ZjB hN _ A.2) fun o=>?_:Dq _ (Vj x.Zw/\Vj x.Zx/\x.Op∈marksL/\Q)).iff (by unfold TF;simp only [and_assoc];rfl)
   have v:x.Op∈marksL->Dq (Tp N m n ((k+1:Nat):Int)) (x.Op∈marksL/\Q):=fun h=>(s ⟨g,o,h⟩).iff (by simp [h])
   refine Dq.ite HW (fun a1=>Dq.ite HW (fun a2=>Dq.ite HW (fun a3=>Dq.ite HW (fun a4=>Dq.ite HW (fun a5=>?_) fun a=>?_) fun a=>?_) fun a=>?_) fun a=>?_) fun a=>?_
   ·exact Dq.fa.iff (by simp [marksL,a1,a2,a3,a4,a5])
   all_goals exact v (by rw [Classical.not_not.1 a];simp [marksL])
  ·simp only [Tp,Yl p,cF,ZaT]
   exact Dq.bA (Lb hN _ w.1) fun _=>Dq.cA (C:=m.Zy.length<=4) (by rw [decide_eq_true_eq];omega) fun _=>Dq.dec (by omega)
 ·unfold Wx
  show _↔W1 m.Zt=true/\m.Zy.length<=4/\(m.Zz.map oA).length<=6/\(∀ f∈m.Zy,TG f)/\∀ a∈m.Zz.map oA,TF a
  rw [List.length_map,List.forall_mem_map]
  constructor
  ·rintro ⟨a,b,c,d,e⟩;exact ⟨c,d,e,a,b⟩
  ·rintro ⟨c,d,e,a,b⟩;exact ⟨a,b,c,d,e⟩
end Gp
end
section
namespace Gp
open Go Go.Kx Gx
variable {N:Nat}
def Sp (n:Int):Prop:=-9223372036854775808<=n/\n<=9223372036854775807
theorem ZgA (a b:ByteArray):bs (a++b)=bs a++bs b:=by
 unfold bs
 rw [ByteArray.data_append,Array.toList_append]
theorem TI {a b:List UInt8} (h:a.length+b.length<=9223372036854775807):Yg (Z3 a) (Z3 b)=some (Z3 (a++b)):=by
 unfold Yg
 have e:(Z3 a).size=a.length/\(Z3 b).size=b.length:=⟨by rw [XP,Yq],by rw [XP,Yq]⟩
 rw [e.1,e.2,dF (by simp only [IntKind.max];simp [IntKind.bits,IntKind.signed];omega)]
 simp only [cF]
 refine congrArg some (HH ?_)
 rw [ZgA,Yq,Yq,Yq]
theorem ZdI:∀ d:Fin 10,Utf8.encode (wk .i32 (ZM ((48:Int)+(d.val:Int))))=Z3 [UInt8.ofNat (48+d.val)]:=by decide
theorem ZhV {n:Int} {d:Nat} (a:d < 10) (h:n=(48:Int)+(d:Int)):Utf8.encode (wk .i32 (ZM n))=Z3 [UInt8.ofNat (48+d)]:=by
 rw [h];exact ZdI ⟨d,a⟩
theorem HK:∀ f u,(VL f u).length<=f
 | 0,_=>Zo _
 | f+1,u=>by
  rw [VL]
  cases a:Nat.blt u 10 with
  | true=>simp
  | false =>
   have:=HK f (u / 10)
   simp only [cF,lA,List.length_singleton]
   omega
theorem ZhJ:∀ (f m u:Nat),f<=24->u < 10 ^ (f+1)->u < 9223372036854775808->Qm (f+1+m) (u:Int)=some (Z3 (VL (f+1) u))
 | f,m,u,hf,h,hu=>by
  rw [show f+1+m=(f+m)+1 by omega,Qm,G6,VL]
  rw [dF (show ¬ (u:Int) < -9 by omega),dF (show ¬ (u:Int) < 0 by omega)]
  simp only [cF]
  by_cases c:u < 10
  ·have a:Nat.blt u 10=true:=by simpa [Nat.blt_eq] using c
   rw [dT (show (u:Int) < 10 by omega),a,ZhV c rfl];rfl
  ·have a:Nat.blt u 10=false:=by
    cases g:Nat.blt u 10 with
    | false=>rfl
    | true=>exact absurd (by simpa [Nat.blt_eq] using g) c
   rw [dF (show ¬ (u:Int) < 10 by omega),a]
   have b:ZM ((u:Int).tdiv 10)=((u / 10:Nat):Int):=by
    rw [show ((u:Int).tdiv 10)=((u / 10:Nat):Int) from by rw [Int.tdiv_eq_ediv_of_nonneg (by omega)];omega,XL (by omega) (by omega)]
   have d:((48:Int)+(u:Int).tmod 10)=(48:Int)+((u % 10:Nat):Int):=by
    rw [Int.tmod_eq_emod_of_nonneg (by omega)];omega
   rw [b,d,ZdI (⟨u % 10,Nat.mod_lt _ (by omega)⟩)]
   match f,h,hf with
   | 0,h,_=>omega
   | f+1,h,hf =>
    rw [show f+1+m=f+1+m by rfl,ZhJ f m (u / 10) (by omega) (by rw [Nat.pow_succ] at h;omega) (by omega)]
    simp only [bS,cF]
    have:=HK (f+1) (u / 10)
    rw [TI (by simp only [List.length_singleton];omega)]
    rfl
theorem ZhI:∀ (f m u:Nat),f<=24->0 < u->u < 10 ^ (f+1)->u<=9223372036854775808->Qm (f+1+m) (-(u:Int))=some (Z3 (45::VL (f+1) u))
 | f,m,u,hf,b,h,hu=>by
  rw [show f+1+m=(f+m)+1 by omega,Qm,G6,VL]
  by_cases c:u < 10
  ·have a:Nat.blt u 10=true:=by simpa [Nat.blt_eq] using c
   rw [dF (show ¬ -(u:Int) < -9 by omega),dT (show -(u:Int) < 0 by omega),a]
   simp only [cT,cF]
   rw [ZhV (n:=48 - -(u:Int)) c (by omega)]
   rw [show str [45]=Z3 [45] from rfl,TI (by simp)];rfl
  ·have a:Nat.blt u 10=false:=by
    cases b:Nat.blt u 10 with
    | false=>rfl
    | true=>exact absurd (by simpa [Nat.blt_eq] using b) c
   rw [dT (show -(u:Int) < -9 by omega),a]
   have d:ZM ((-(u:Int)).tdiv 10)=-((u / 10:Nat):Int):=by
    rw [show ((-(u:Int)).tdiv 10)=-((u / 10:Nat):Int) from by rw [Int.neg_tdiv,Int.tdiv_eq_ediv_of_nonneg (by omega)];omega,XL (by omega) (by omega)]
   have g:((48:Int)-(-(u:Int)).tmod 10)=(48:Int)+((u % 10:Nat):Int):=by
    rw [Int.neg_tmod,Int.tmod_eq_emod_of_nonneg (by omega)];omega
   rw [d,g,ZdI (⟨u % 10,Nat.mod_lt _ (by omega)⟩)]
   match f,h,hf with
   | 0,h,_=>omega
   | f+1,h,hf =>
    rw [ZhI f m (u / 10) (by omega) (by omega) (by rw [Nat.pow_succ] at h;omega) (by omega)]
    simp only [bS,cT]
    have:=HK (f+1) (u / 10)
    rw [TI (by simp only [Zf,List.length_nil];omega)]
    rfl
theorem BL (hN:4194304 < N) {n:Int} (h:Sp n):Sg N n=some (UF n):=by
 have ⟨a,b⟩:=h
 unfold Sg UF
 by_cases c:n < 0
 ·rw [dT c]
  have:=ZhI 24 (N-25) n.natAbs (by omega) (by omega) (by omega) (by omega)
  rw [show 24+1+(N-25)=N by omega,show -((n.natAbs:Nat):Int)=n by omega] at this
  exact this
 ·rw [dF c]
  have:=ZhJ 24 (N-25) n.toNat (by omega) (by omega) (by omega)
  rw [show 24+1+(N-25)=N by omega,show ((n.toNat:Nat):Int)=n by omega] at this
  exact this
theorem QY {n:Int} (h:Sp n):Tt N n=some (UF n):=by
 unfold Tt
 rw [dT h.1,dT h.2];rfl
theorem ZnC (n:Int):(UF n).size<=26:=by
 unfold UF
 have a:=HK 25 n.natAbs
 have b:=HK 25 n.toNat
 show (bif decide (n < 0) then 45::VL 25 n.natAbs else VL 25 n.toNat).toArray.size<=26
 cases decide (n < 0)<;>simp<;>omega
theorem Xb {a b:ByteArray} (h:(bs a).length+(bs b).length<=140737488355328):Yg a b=some (Z3 (bs a++bs b)):=by
 have:=TI (a:=bs a) (b:=bs b) (by omega)
 rw [MS,MS] at this
 exact this
theorem Yx (l:List UInt8):bs (str l)=l:=Yq l
def Xf (k:Nat):List UInt8:=List.replicate k 9
theorem X5 (k:Nat):(Xf k).length=k:=List.length_replicate
theorem ZqP (k:Nat):Xf (k+1)=Xf k++[9]:=List.replicate_succ'
def YL (k:Nat) (F:List UInt8):List UInt8:=Xf k++(F++[10])
theorem Wj (k:Nat) (F:List UInt8):(YL k F).length=k+(F.length+1):=by simp [YL,Xf]
def Wi (n:Int):List UInt8:=bs (UF n)
theorem Uf (n:Int):(Wi n).length<=26:=ZnC n
theorem Zjm (k:Nat) (b:k<=1000000):PB N (str [9]) (k:Int)=some (Z3 (Xf k)):=by
 unfold PB
 have e:∀ k,M5 (str [9]).data.toList k=List.replicate k 9:=by
  intro k
  induction k with
  | zero=>rfl
  | succ k a=>rw [M5,a];rfl
 rw [dT (show (0:Int)<=(k:Int) by omega),dT (show (k:Int)<=140737488355328 by omega),dT (show (str [9]).size * ((k:Int)).toNat<=140737488355328 by show 1 * _<=_;omega),e,Int.toNat_natCast]
 rfl
def Wu (sep:List UInt8) (l:List ByteArray):List UInt8:=X9 sep (l.map bs)
theorem RI (l:List ByteArray) (sep:List UInt8) (hl:l.length<=4194304) (h:(Wu sep l).length<=140737488355328):Vw N l (str sep)=some (Z3 (Wu sep l)):=by
  unfold Vw
  have e:X9 (str sep).data.toList (l.map (·.data.toList))=Wu sep l:=rfl
  rw [e,dT (show l.length<=140737488355328 by omega),dT h]
  rfl
theorem Zim:∀ l:List (List UInt8),X9 [] l=l.flatten
  | []=>rfl
  | x::r=>by
    show x++(r.map (([]:List UInt8)++·)).flatten=(x::r).flatten
    have e:r.map (([]:List UInt8)++·)=r:=by
      have:(fun y:List UInt8=>[]++y)=id:=by funext y;simp
      show r.map (fun y=>[]++y)=r
      rw [this,List.map_id]
    rw [e];rfl
theorem ZdU (sep:List UInt8) (M:Nat):∀ l:List (List UInt8),(∀ x∈l,x.length<=M)->(X9 sep l).length<=l.length * (M+sep.length)
  | [],_=>by simp [X9]
  | x::r,h=>by
    have f:=h x (Zj ..)
    have b:∀ r:List (List UInt8),(∀ x∈r,x.length<=M)->((r.map (sep++·)).flatten).length<=r.length * (M+sep.length):=by
      intro r
      induction r with
      | nil=>intro _;simp
      | cons y r d =>
        intro h
        have g:=h y (Zj ..)
        have c:=d fun z a=>h z (Zi _ a)
        simp only [List.map_cons,List.flatten_cons,lA,Zf,Nat.add_mul,Nat.one_mul]
        omega
    have c:=b r fun z a=>h z (Zi _ a)
    show (x++(r.map (sep++·)).flatten).length<=_
    simp only [lA,Zf,Nat.add_mul,Nat.one_mul]
    omega
theorem Zgo {B F:List UInt8} (h:B.length+F.length<=4294967296):QP (Z3 B) (Z3 F)=some (Z3 (B++F)):=by
 unfold QP
 have e:(Z3 B).size=B.length/\(Z3 F).size=F.length:=⟨by rw [XP,Yq],by rw [XP,Yq]⟩
 rw [e.1,e.2,Nat.ble_eq_true_of_le (show B.length+F.length<=lim by show B.length+F.length<=4294967296;omega)]
 simp only [cT]
 refine congrArg some (HH ?_)
 rw [ZgA,Yq,Yq,Yq]
theorem SJ (a:List ByteArray) (B F:List UInt8) (k:Nat) (hF:(a.map bs).flatten=F) (c:a.length<=4194304) (d:k<=1000000) (h:B.length+(YL k F).length<=4294967296) :
  Ww N a ⟨Z3 B,(k:Int)⟩=some ⟨Z3 (B++YL k F),(k:Int)⟩:=by
 subst hF
 rw [Wj] at h
 unfold Ww
 have b:Wu [] a=(a.map bs).flatten:=Zim _
 rw [Zjm k d,bS,RI a [] c (by rw [b];omega),bS,b,TI (by rw [X5];omega),bS,show str [10]=Z3 [10] from rfl,TI (by simp only [lA,List.length_singleton,X5,List.length_nil];omega),bS]
 unfold Zbs ZbO
 simp only [bS]
 rw [Zgo (by simp only [lA,List.length_singleton,X5,List.length_nil];omega)]
 simp only [bS,YL,aA]
theorem Zn5 (a:List ByteArray) (F:List UInt8) (hF:(a.map bs).flatten=F) (c:a.length<=4194304) (h:(YL 0 F).length<=4294967296) :
  Gh N a ⟨ByteArray.empty,(0:Int)⟩=some ⟨Z3 (YL 0 F),(0:Int)⟩:=by
 subst hF
 rw [Wj] at h
 unfold Gh
 have b:Wu [] a=(a.map bs).flatten:=Zim _
 show (PB N (str [9]) ((0:Nat):Int)).bind _=_
 rw [Zjm 0 (by omega),bS,RI a [] c (by rw [b];omega),bS,b,TI (by rw [X5];omega),bS,show str [10]=Z3 [10] from rfl,TI (by simp only [lA,List.length_singleton,X5,List.length_nil];omega),bS]
 unfold Zbt ZbN
 simp only [bS]
 rw [show ByteArray.empty=Z3 [] from rfl,Zgo (by simp only [lA,List.length_singleton,X5,List.length_nil];omega)]
 simp only [bS,YL,aA,List.nil_append]
end Gp
end
section
namespace Gp
open Go Go.Kx Gx
def R3 (t:Ys):List UInt8:=bif XN t.Zv (str []) then bs t.Field else bs t.Zv++[46]++bs t.Field
def Gc (t:Ys):List UInt8:=bif decide (t.N > 0) then [32,43,32]++Wi t.N else bif decide (t.N < 0) then [32,45,32]++Wi (0-t.N) else []
def Tl (t:Ys):List UInt8:=bif t.Zq==1 then Wi t.N else (bif t.Zq==3 then [108,101,110,40]++R3 t++[41] else R3 t)++Gc t
def XT (f:T0):List UInt8:=bs f.Zt++(bif f.Zu.Zq==2 then [58,32,116,101,120,116,32] else [58,32,105,110,116,32])++Wi f.Zu.Lo++[46,46]++Wi f.Zu.Hi
def VE (a:YM):List UInt8:=Tl a.Zw++[32]++bs a.Op++[32]++Tl a.Zx
def Ll (l:List YM):List UInt8:=match l with
 | []=>[]
 | _::_=>[32,119,104,101,114,101,32]++X9 [32,97,110,100,32] (l.map VE)
def Td (m:ZS):List UInt8:=[109,101,115,115,97,103,101,32]++bs m.Zt++[40]++X9 [44,32] (m.Zy.map XT)++[41]++Ll m.Zz++[59]
theorem W4 {s:ByteArray} (h:Y8 s=true):(bs s).length<=16:=ZeY h
theorem VW {s:ByteArray} (h:W1 s=true):(bs s).length<=50:=by
 unfold W1 at h
 rw [Zc,decide_eq_true_eq] at h
 exact h.1
theorem Q6 {n:Int} (h:Uc n):Sp n:=by unfold Uc at h;unfold Sp;omega
theorem Lh {t:Ys} (h:Vj t):(bs t.Zv).length<=50/\(bs t.Field).length<=16:=by
 rcases h.2 with ⟨_,b,a⟩ | ⟨_,b,a⟩
 ·rw [b,a,Yx];simp
 ·refine ⟨?_,W4 b⟩
  rcases a with a | a
  ·rw [a,Yx];simp
  ·exact VW a
theorem Zd9 {s:ByteArray} (h:s∈marksL):(bs s).length<=2:=by
 have:∀ x∈marksL,(bs x).length<=2:=by
  intro x a
  simp only [marksL,List.mem_cons,List.not_mem_nil,or_false] at a
  rcases a with h | h | h | h | h<;>subst h<;>(rw [Yx];simp)
 exact this s h
theorem Li {t:Ys} (h:Vj t):(Tl t).length<=150:=by
 have ⟨b,c⟩:=Lh h
 have d:(R3 t).length<=67:=by unfold R3;cases XN t.Zv (str [])<;>simp<;>omega
 have f:=Uf t.N
 have a:=Uf (0-t.N)
 have g:(Gc t).length<=29:=by
  unfold Gc
  cases decide (t.N > 0)<;>cases decide (t.N < 0)<;>simp only [cT,cF,lA,Zf,List.length_nil]<;>omega
 unfold Tl
 cases (t.Zq==1)<;>cases (t.Zq==3)<;>simp only [cT,cF,lA,Zf,List.length_nil]<;>omega
theorem Zne {f:T0} (h:TG f):(XT f).length<=100:=by
 have:=W4 h.1
 have a:=Uf f.Zu.Lo
 have b:=Uf f.Zu.Hi
 unfold XT
 cases (f.Zu.Zq==2)<;>simp only [cT,cF,lA,Zf,List.length_nil]<;>omega
theorem ZlH {a:YM} (h:TF a):(VE a).length<=350:=by
 have b:=Li h.1
 have c:=Li h.2.1
 have d:=Zd9 h.2.2
 unfold VE
 simp only [lA,Zf,List.length_nil];omega
variable {N:Nat} (hN:4194304 < N)
theorem Zj5 {t:Ys} (h:Vj t) (A:List UInt8) (d:A.length<=100):Qg N t (Z3 A)=some (Z3 (A++Gc t)):=by
 unfold Qg Gc
 have a:=h.1;unfold Uc at a
 have b:=Uf t.N
 have c:=Uf (0-t.N)
 unfold Wi at b c
 rw [QY (Q6 h.1),XL (by omega) (by omega),QY (by unfold Sp;omega)]
 cases decide (t.N > 0)<;>cases decide (t.N < 0)<;>simp only [cT,cF,bS,List.append_nil]
 all_goals simp (disch:=(simp only [Yq,Yx,lA,Zf,List.length_nil];omega)) only [Xb,bS,Yq,Yx,Wi]
theorem ZqS {t:Ys} (h:Vj t) (a:(t.Zq==1)=false):Qh N t (Z3 (R3 t))=some (Z3 (Tl t)):=by
 have ⟨b,c⟩:=Lh h
 have d:(R3 t).length<=67:=by unfold R3;cases XN t.Zv (str [])<;>simp<;>omega
 unfold Qh Tl
 rw [a]
 cases (t.Zq==3)<;>simp only [cT,cF]
 ·exact Zj5 h _ (by omega)
 ·simp (disch:=(simp only [Yq,Yx,lA,Zf,List.length_nil];omega)) only [Xb,bS,Yq,Yx]
  exact Zj5 h _ (by simp only [lA,Zf,List.length_nil];omega)
theorem ZeJ {t:Ys} (h:Vj t):PC N t=some (Z3 (Tl t)):=by
 have ⟨d,f⟩:=Lh h
 unfold PC
 cases b:(t.Zq==1) with
 | true =>
  simp only [cT,QY (Q6 h.1),bS]
  unfold Tl
  rw [b];simp only [cT,Wi,MS]
 | false =>
  simp only [cF]
  have e:(t.Zv.toList==(str []).toList)=XN t.Zv (str []):=rfl
  have a:=ZqS (N:=N) h b
  unfold R3 at a
  rw [e]
  cases c:XN t.Zv (str []) with
  | true =>
   rw [c] at a
   simp only [cT,MS] at a
   simp only [Zg,cF]
   exact a
  | false =>
   rw [c] at a
   simp only [cF] at a
   simp only [Bool.not_false,cT]
   simp (disch:=(simp only [Yq,Yx,lA,Zf,List.length_nil];omega)) only [Xb,bS,Yq,Yx]
   exact a
theorem ZhK (hN:4194304 < N) {n:Int} (h:Sp n):Sg N n=Tt N n:=by rw [BL hN h,QY h]
theorem ZjA (hN:4194304 < N) {t:Ys} (h:Vj t):LZ N t=some (Z3 (Tl t)):=by
 rw [<- ZeJ (N:=N) h]
 have b:=h.1;unfold Uc at b
 have a:=ZhK hN (Q6 h.1)
 have c:=ZhK hN (n:=ZM (0-t.N)) (by rw [XL (by omega) (by omega)];unfold Sp;omega)
 have d:∀ x,L2 N t x=Qg N t x:=fun x=>by unfold L2 Qg;rw [a,c]
 have f:∀ x,L3 N t x=Qh N t x:=fun x=>by unfold L3 Qh;simp only [d]
 unfold LZ PC
 simp only [f,a]
theorem Zof (f:T0->List UInt8) (l:List T0):(l.map fun x=>Z3 (f x)).map bs=l.map f:=by
 rw [List.map_map];congr 1
theorem Zog (f:YM->List UInt8) (l:List YM):(l.map fun x=>Z3 (f x)).map bs=l.map f:=by
 rw [List.map_map];congr 1
theorem ZdN {m:ZS} (h:Wx m):(X9 [44,32] (m.Zy.map XT)).length<=500:=by
 have:=ZdU [44,32] 100 (m.Zy.map XT) (fun x a=>by obtain ⟨f,b,rfl⟩:=List.mem_map.1 a;exact Zne (h.2.2.2.1 f b))
 simp only [List.length_map,Zf,List.length_nil] at this
 have:=h.2.1
 omega
theorem Zgv {m:ZS} (h:Wx m):(X9 [32,97,110,100,32] (m.Zz.map VE)).length<=2200:=by
 have:=ZdU [32,97,110,100,32] 350 (m.Zz.map VE) (fun x a=>by obtain ⟨f,b,rfl⟩:=List.mem_map.1 a;exact ZlH (h.2.2.2.2 f b))
 simp only [List.length_map,Zf,List.length_nil] at this
 have:=h.2.2.1
 omega
theorem Zke {m:ZS} (h:Wx m):(Ll m.Zz).length<=2300:=by
 have:=Zgv h
 unfold Ll
 cases b:m.Zz with
 | nil=>simp
 | cons a l=>rw [b] at this;simp only [lA,Zf,List.length_nil] at this ⊢;omega
theorem Zed {m:ZS} (h:Wx m):(Td m).length<=3000:=by
 have a:=ZdN h
 have b:=Zke h
 have c:=VW h.1
 unfold Td
 simp only [lA,Zf,List.length_nil];omega
include hN in
theorem Zoo {m:ZS} (h:Wx m) (B:List UInt8) (k:Nat) (C:k<=1000) (hB:B.length+(YL k (Td m)).length<=4294967296) :
  Pd N m ⟨Z3 B,(k:Int)⟩=some ⟨Z3 (B++YL k (Td m)),(k:Int)⟩:=by
 have D:=ZdN h
 have o:=Zgv h
 have x:=h.2.1;have y:=h.2.2.1
 unfold Pd
 rw [(Xz m.Zy (SZ N m ⟨Z3 B,(k:Int)⟩) (fun s f=>s++[Z3 (XT f)]) (fun s=>Gj N m ⟨Z3 B,(k:Int)⟩ s) (fun j s=>s.length=j) (fun n j s f hi c=>?_) (fun n j s hi i=>?_) (N:=N) (s:=[]) (by omega) rfl).1]
 ·rw [VY (fun f=>Z3 (XT f))]
  rw [List.nil_append]
  unfold Gj
  rw [(Xz m.Zz (Pe N m ⟨Z3 B,(k:Int)⟩ (m.Zy.map fun f=>Z3 (XT f))) (fun s a=>s++[Z3 (VE a)]) (fun s=>Gi N m ⟨Z3 B,(k:Int)⟩ (m.Zy.map fun f=>Z3 (XT f)) s) (fun j s=>s.length=j) (fun n j s a hi c=>?_) (fun n j s hi i=>?_) (N:=N) (s:=[]) (by omega) rfl).1]
  ·rw [VY (fun a=>Z3 (VE a)),List.nil_append]
   unfold Gi
   have p:Wu [44,32] (m.Zy.map fun f=>Z3 (XT f))=X9 [44,32] (m.Zy.map XT):=by unfold Wu;rw [Zof]
   have q:Wu [32,97,110,100,32] (m.Zz.map fun f=>Z3 (VE f))=X9 [32,97,110,100,32] (m.Zz.map VE):=by unfold Wu;rw [Zog]
   rw [RI (m.Zz.map fun f=>Z3 (VE f)) _ (by simp;omega) (by rw [q];omega),RI (m.Zy.map fun f=>Z3 (XT f)) _ (by simp;omega) (by rw [p];omega),p,q]
   simp only [bS]
   cases g:m.Zz with
   | nil =>
    simp only [List.map_nil,List.length_nil]
    rw [show decide (((0:Nat):Int) > 0)=false from rfl,cF]
    rw [SJ _ B (Td m) k (by simp [Yx,Yq,Td,Ll,g,aA]) (by simp) (by omega) hB];rfl
   | cons a l =>
    rw [g] at o
    rw [dT (by simp:(((((a::l).map fun a=>Z3 (VE a)).length:Nat)):Int) > 0),cT]
    rw [show str [32,119,104,101,114,101,32]=Z3 [32,119,104,101,114,101,32] from rfl,TI (by simp only [Zf,List.length_nil] at o ⊢;omega)]
    simp only [bS]
    rw [SJ _ B (Td m) k (by simp [Yx,Yq,Td,Ll,g,aA]) (by simp) (by omega) hB];rfl
  ·refine ⟨?_,by simp [hi]⟩
   have d:=Yf c
   have b:=h.2.2.2.2 a (Zb c)
   have A:=Li b.1
   have u:=Li b.2.1
   have v:=Zd9 b.2.2
   simp only [Pe,Yh d,cT,Ye,c,bS,ZeJ b.1,ZeJ b.2.1,Yy (show j < 4611686018427387904 by omega)]
   simp (disch:=(simp only [Yq,Yx,lA,Zf,List.length_nil];omega)) only [Xb,bS,Yq,Yx]
   rw [YW (by simp [hi];omega)]
   rfl
  ·simp only [Pe,Yl i,cF]
 ·refine ⟨?_,by simp [hi]⟩
  have d:=Yf c
  have b:=h.2.2.2.1 f (Zb c)
  have A:=W4 b.1
  have u:=Uf f.Zu.Lo
  have v:=Uf f.Zu.Hi
  unfold Wi at u v
  have key:∀ T:List UInt8,T.length<=10->XT f=bs f.Zt++T++Wi f.Zu.Lo++[46,46]++Wi f.Zu.Hi->∀ ag:List ByteArray->Int->Option Yd,Lp N s (j:Int) ag f (str T)=ag (s++[Z3 (XT f)]) ((j+1:Nat):Int):=by
   intro T hT e ag
   unfold Lp
   rw [QY (Q6 b.2.2.1),QY (Q6 b.2.2.2.1),Yy (by omega),e]
   simp (disch:=(simp only [Yq,Yx,lA,Zf,List.length_nil];omega)) only [Xb,bS,Yq,Yx]
   rw [YW (by simp [hi];omega)]
   rfl
  simp only [SZ,Yh d,cT,Ye,c,bS]
  cases w:(f.Zu.Zq==2) with
  | true=>exact key [58,32,116,101,120,116,32] (by simp) (by unfold XT;rw [w];rfl) _
  | false=>exact key [58,32,105,110,116,32] (by simp) (by unfold XT;rw [w];rfl) _
 ·simp only [SZ,Yl i,cF]
end Gp
end
section
namespace Gp
open Go Go.Kx Gx
def TU (first sep:List UInt8) (l:List (List UInt8)):List UInt8:=match l with
 | []=>[]
 | _::_=>first++X9 sep l
theorem ZeH {α γ:Type} (xs:List α) (F:Nat->ByteArray->Int->γ) (b:ByteArray->γ) (g:α->List UInt8) (first sep:List UInt8) (L:Nat)
  (i:∀ (n k:Nat) x A,k < 4194304->xs[k]? = some x->A.length+((if k=0 then first else sep)++g x).length<=L->F (n+1) (Z3 A) (k:Int)=F n (Z3 (A++((if k=0 then first else sep)++g x))) ((k+1:Nat):Int))
  (j:∀ (n k:Nat) A,xs.length<=k->A.length<=L->F (n+1) (Z3 A) (k:Int)=b (Z3 A)) {N:Nat} {A:List UInt8} (hN:xs.length < N) (q:xs.length<=4194304) (hL:A.length+(TU first sep (xs.map g)).length<=L) :
  F N (Z3 A) (0:Int)=b (Z3 (A++TU first sep (xs.map g))):=by
 have key:∀ (l:List α) (k n:Nat) (A:List UInt8),0 < k->xs.drop k=l->l.length < n->A.length+((l.map fun x=>sep++g x).flatten).length<=L->F n (Z3 A) (k:Int)=b (Z3 (A++(l.map fun x=>sep++g x).flatten)):=by
  intro l
  induction l with
  | nil =>
   intro k n A o h f hL
   obtain ⟨n,rfl⟩:=pS n (by simp at f;omega)
   rw [j n k A (Xh h) (by omega)];simp
  | cons x l p =>
   intro k n A o h f hL
   obtain ⟨n,rfl⟩:=pS n (by simp at f;omega)
   have ⟨a,c,d⟩:=Xg h
   rw [List.map_cons,List.flatten_cons,lA] at hL
   rw [i n k x A (by omega) c (by rw [if_neg (by omega)];omega),if_neg (by omega),p (k+1) n _ (by omega) d (by simp at f;omega) (by rw [lA];omega)]
   simp only [List.map_cons,List.flatten_cons,aA]
 cases xs with
 | nil =>
  obtain ⟨n,rfl⟩:∃ m,N=m+1:=⟨N-1,by simp at hN;omega⟩
  have:=j n 0 A (Zo _) (by omega)
  rw [show ((0:Nat):Int)=0 from rfl] at this
  rw [this];simp [TU]
 | cons x l =>
  obtain ⟨n,rfl⟩:∃ m,N=m+1:=⟨N-1,by simp at hN;omega⟩
  have e:TU first sep ((x::l).map g)=(first++g x)++(l.map fun x=>sep++g x).flatten:=by
   simp only [TU,List.map_cons,X9,List.map_map,aA]
   rfl
  rw [e,lA] at hL
  have:=i n 0 x A (by omega) rfl (by rw [if_pos rfl];omega)
  rw [if_pos rfl,show ((0:Nat):Int)=0 from rfl] at this
  rw [this,key l 1 n _ (by omega) rfl (by simp at hN;omega) (by rw [lA];omega),e]
  simp only [aA]
variable {N:Nat} (hN:4194304 < N)
theorem ZjH (sep:List UInt8) (l:List (List UInt8)):TU [] sep l=X9 sep l:=by
 cases l<;>simp [TU,X9]
include hN in
theorem Zd4 (l:List ByteArray) (hl:l.length<=4194304) (h:(Wu [44,32] l).length<=4294967296):PG N l=some (Z3 (Wu [44,32] l)):=by
 unfold PG
 have d:TU [] [44,32] (l.map bs)=Wu [44,32] l:=ZjH _ _
 rw [show str []=Z3 [] from rfl,ZeH l (Qj l) (fun s=>some s) bs [] [44,32] 4294967296 (fun n k x A b c a=>?_) (fun n k A b a=>?_) (by omega) hl (by rw [d];simp;omega),d,List.nil_append]
 ·simp only [Qj,Yh (Yf c),cT,Ye,c,bS,Yy (show k < 4611686018427387904 by omega)]
  by_cases f:k=0
  ·subst f
   rw [if_pos rfl,List.nil_append] at a ⊢
   rw [dF (by omega),cF]
   simp (disch:=(simp only [Yq,Yx,lA,Zf,List.length_nil];omega)) only [Xb,bS,Yq,Yx]
  ·rw [if_neg f] at a ⊢
   rw [dT (by omega),cT]
   simp only [lA,Zf,List.length_nil] at a
   simp (disch:=(simp only [Yq,Yx,lA,Zf,List.length_nil];omega)) only [Xb,bS,Yq,Yx,aA]
 ·simp only [Qj,Yl b,cF,Zbz]
theorem Zkf (l:List YM):Ll l=TU [32,119,104,101,114,101,32] [32,97,110,100,32] (l.map VE):=by
 cases l<;>rfl
include hN in
theorem Zp0 (m:Yi) (h:Wx (oM m)):z164 N m=some (Z3 (Td (oM m))):=by
 have C:=ZdN h
 have j:=Zke h
 have D:=VW h.1
 have E:m.Zy.length<=4:=h.2.1
 have F:m.Zz.length<=6:=by have:=h.2.2.1;rw [ZiW] at this;exact this
 have o:(oM m).Zt=m.Zt:=rfl
 have p:(oM m).Zy=m.Zy:=rfl
 have q:(oM m).Zz=m.Zz.map oA:=rfl
 rw [o] at D
 rw [p] at C
 rw [q,Zkf,List.map_map] at j
 unfold z164
 simp (disch:=(simp only [Yq,Yx,lA,Zf,List.length_nil];omega)) only [Xb,bS,Yq,Yx]
 have s:TU [] [44,32] (m.Zy.map XT)=X9 [44,32] (m.Zy.map XT):=ZjH _ _
 rw [ZeH m.Zy (V3 N m) (GW N m) XT [] [44,32] 1000 (fun n k f A g d b=>?_) (fun n k A g b=>?_) (by omega) (by omega) (by rw [s];simp only [lA,Zf,List.length_nil];omega),s]
 ·unfold GW
  simp (disch:=(simp only [Yq,Yx,lA,Zf,List.length_nil];omega)) only [Xb,bS,Yq,Yx]
  rw [ZeH m.Zz (Tv N m) GV (VE ∘ oA) [32,119,104,101,114,101,32] [32,97,110,100,32] 10000 (fun n k a A g d b=>?_) (fun n k A g b=>?_) (by omega) (by omega) (by simp only [lA,Zf,List.length_nil];omega)]
  ·unfold GV
   simp (disch:=(simp only [Yq,Yx,lA,Zf,List.length_nil];omega)) only [Xb,bS,Yq,Yx]
   unfold Td
   rw [o,p,q,Zkf,List.map_map]
  ·have c:TF (oA a):=h.2.2.2.2 _ (List.mem_map.2 ⟨a,Zb d,rfl⟩)
   have G:(Tl a.Zw).length<=150:=Li c.1
   have u:(Tl a.Zx).length<=150:=Li c.2.1
   have v:(bs a.Op).length<=2:=Zd9 c.2.2
   have w:=ZjA hN c.1
   have x:=ZjA hN c.2.1
   have H:(oA a).Zw=a.Zw:=rfl
   have I:(oA a).Zx=a.Zx:=rfl
   rw [H] at w;rw [I] at x
   have y:∀ (A:List UInt8),A.length<=10000->LN N m (k:Int) (Tv N m n) (Z3 A)=Tv N m n (Z3 (A++VE (oA a))) ((k+1:Nat):Int):=by
    intro A b
    unfold LN
    simp only [Ye,d,bS,w,x,Yy (show k < 4611686018427387904 by omega)]
    simp (disch:=(simp only [Yq,Yx,lA,Zf,List.length_nil];omega)) only [Xb,bS,Yq,Yx]
    rfl
   simp only [Tv,Yh (Yf d),cT]
   by_cases i:k=0
   ·subst i
    rw [if_pos rfl] at b ⊢
    simp only [lA,Zf,List.length_nil] at b
    rw [show (((0:Nat):Int)==0)=true from rfl,cT]
    simp (disch:=(simp only [Yq,Yx,lA,Zf,List.length_nil];omega)) only [Xb,bS,Yq,Yx]
    rw [y _ (by simp only [lA,Zf,List.length_nil];omega),aA]
    rfl
   ·rw [if_neg i] at b ⊢
    simp only [lA,Zf,List.length_nil] at b
    rw [show ((k:Int)==0)=false by simp;omega,cF]
    simp (disch:=(simp only [Yq,Yx,lA,Zf,List.length_nil];omega)) only [Xb,bS,Yq,Yx]
    rw [y _ (by simp only [lA,Zf,List.length_nil];omega),aA]
    rfl
  ·simp only [Tv,Yl g,cF]
 ·have c:TG f:=h.2.2.2.1 f (Zb d)
  have G:=W4 c.1
  have u:=Uf f.Zu.Lo
  have v:=Uf f.Zu.Hi
  unfold Wi at u v
  have B:∀ (T A:List UInt8),T.length<=4->A.length<=10000->XT f=bs f.Zt++[58,32]++T++[32]++Wi f.Zu.Lo++[46,46]++Wi f.Zu.Hi->LO N (k:Int) (V3 N m n) f (str T) (Z3 A)=V3 N m n (Z3 (A++XT f)) ((k+1:Nat):Int):=by
   intro T A hT b e
   unfold LO
   rw [BL hN (Q6 c.2.2.1),BL hN (Q6 c.2.2.2.1),Yy (by omega),e]
   simp (disch:=(simp only [Yq,Yx,lA,Zf,List.length_nil];omega)) only [Xb,bS,Yq,Yx,Wi]
  have key:∀ T:List UInt8,T.length<=4->XT f=bs f.Zt++[58,32]++T++[32]++Wi f.Zu.Lo++[46,46]++Wi f.Zu.Hi->LP N (Z3 A) (k:Int) (V3 N m n) f (str T)=V3 N m n (Z3 (A++((if k=0 then [] else [44,32])++XT f))) ((k+1:Nat):Int):=by
   intro T hT e
   simp only [lA] at b
   unfold LP
   by_cases i:k=0
   ·rw [dF (by omega),cF,if_pos i,B T A hT (by omega) e];rfl
   ·rw [if_neg i] at b ⊢
    rw [dT (by omega),cT]
    simp (disch:=(simp only [Yq,Yx,lA,Zf,List.length_nil];omega)) only [Xb,bS,Yq,Yx]
    rw [B T _ hT (by simp only [lA,Zf,List.length_nil];omega) e,aA]
  simp only [V3,Yh (Yf d),cT,Ye,d,bS]
  cases j:(f.Zu.Zq==2) with
  | true=>exact key [116,101,120,116] (by simp) (by unfold XT;rw [j];simp)
  | false=>exact key [105,110,116] (by simp) (by unfold XT;rw [j];simp)
 ·simp only [V3,Yl g,cF]
end Gp
end
section
namespace Gp
open Go Go.Kx Gx
def Ue (l:List ByteArray):List UInt8:=Wu [44,32] l
def VP (first:Bool) (hd w last:List UInt8) (atEnd:Bool):List UInt8:=bif first then hd++[32,123] else [125,32]++(bif (atEnd && !last.isEmpty) then last else w)++[32,123]
def TT (f:ByteArray) (t:List ByteArray) (n:ByteArray):List UInt8:=bs f++[32,45,62,32]++Ue t++[58,32]++bs n++[59]
def QM (n:ByteArray):List UInt8:=[97,103,97,105,110,32]++bs n++[59]
def Sy (n:ByteArray) (t:List ByteArray) (a:ByteArray):List UInt8:=[99,97,108,108,32]++bs n++[40]++Ue t++[41,32,97,115,32]++bs a++[59]
def VJ (f:ByteArray):List UInt8:=[99,104,111,105,99,101,32,97,116,32]++bs f
def Uo (f:ByteArray) (x:Int):List UInt8:=VJ f++[32,119,105,116,104,105,110,32]++Wi x
def Tb (n:ByteArray):List UInt8:=[108,111,111,112,32]++bs n
abbrev RU:List UInt8:=[112,97,114]
abbrev Vb:List UInt8:=[111,114]
abbrev Ry:List UInt8:=[97,110,100]
abbrev TK:List UInt8:=[101,108,115,101]
mutual
def xI (k:Nat):ZJ->List UInt8
 | ⟨kd,f,t,n,a,x,b⟩ =>
  bif kd==1 then YL k (TT f t n)
  else bif kd==2 then (bif decide (x > 0) then xR k true (Uo f x) Vb TK b else xR k true (VJ f) Vb [] b)
  else bif kd==3 then xR k true (Tb n) [] [] b
  else bif kd==4 then YL k (QM n)
  else bif kd==5 then xR k true RU Ry [] b
  else bif kd==6 then YL k (Sy n t a)
  else []
def xL (k:Nat):List ZJ->List UInt8
 | []=>[]
 | x::l=>xI k x++xL k l
def xR (k:Nat) (first:Bool) (hd w last:List UInt8):List (List ZJ)->List UInt8
 | []=>YL k [125]
 | b::l=>YL k (VP first hd w last l.isEmpty)++(xL (k+1) b++xR k false hd w last l)
end
theorem Zkl (k:Nat) (x:ZJ):xI k x=(bif x.Zq==1 then YL k (TT x.ZA x.To x.Zt)
  else bif x.Zq==2 then (bif decide (x.ZB > 0) then xR k true (Uo x.ZA x.ZB) Vb TK x.ZC else xR k true (VJ x.ZA) Vb [] x.ZC)
  else bif x.Zq==3 then xR k true (Tb x.Zt) [] [] x.ZC
  else bif x.Zq==4 then YL k (QM x.Zt)
  else bif x.Zq==5 then xR k true RU Ry [] x.ZC
  else bif x.Zq==6 then YL k (Sy x.Zt x.To x.As)
  else []):=by cases x;simp only [xI]
variable {N:Nat}
theorem ZlT (hN:4194304 < N) {p:List ZJ->Yd->Option Yd} {m:List (List ZJ)} {k:Nat} (D:k<=1000) (y:m.length<=4194304) (i w f:List UInt8)
  (x:∀ b∈m,∀ B:List UInt8,B.length+(xL (k+1) b).length<=4294967296->p b ⟨Z3 B,((k+1:Nat):Int)⟩=some ⟨Z3 (B++xL (k+1) b),((k+1:Nat):Int)⟩)
  (B:List UInt8) (hB:B.length+(xR k true i w f m).length<=4294967296) :
  S7 N p (str i) (str w) (str f) m ⟨Z3 B,(k:Int)⟩=some ⟨Z3 (B++xR k true i w f m),(k:Int)⟩:=by
 unfold S7
 have key:∀ (l:List (List ZJ)) (j n:Nat) (B:List UInt8),m.drop j=l->l.length < n->B.length+(xR k (decide (j=0)) i w f l).length<=4294967296 ->
   UR N p (str i) (str w) (str f) m n (Z3 B) (k:Int) (j:Int)=some ⟨Z3 (B++xR k (decide (j=0)) i w f l),(k:Int)⟩:=by
  intro l
  induction l with
  | nil =>
   intro j n B h u hL
   obtain ⟨n,rfl⟩:=pS n (by simp at u;omega)
   simp only [xR] at hL ⊢
   simp only [UR,Yl (Xh h),cF,Zbv]
   rw [SJ [str [125]] B [125] k (by simp [Yx]) (by simp) (by omega) hL];rfl
  | cons b l C =>
   intro j n B h u hL
   obtain ⟨n,rfl⟩:=pS n (by simp at u;omega)
   have ⟨a,c,d⟩:=Xg h
   simp only [xR,lA] at hL
   have o:m.length=j+1+l.length:=by
    have:=congrArg List.length d
    rw [List.length_drop] at this;omega
   have q:=C (j+1) n (B++YL k (VP (decide (j=0)) i w f l.isEmpty)++xL (k+1) b) d (by simp at u;omega) (by
    rw [dF (by omega:¬ j+1=0)];simp only [lA];omega)
   rw [dF (by omega:¬ j+1=0)] at q
   have rest:Qi p (j:Int) (UR N p (str i) (str w) (str f) m n) b (Z3 (B++YL k (VP (decide (j=0)) i w f l.isEmpty))) (k:Int)=some ⟨Z3 (B++xR k (decide (j=0)) i w f (b::l)),(k:Int)⟩:=by
    unfold Qi
    rw [Yy (by omega:k < 4611686018427387904),x b (Zb c) _ (by simp only [lA];omega)]
    simp only [bS]
    rw [XL (by omega) (by omega),Yy (by omega),show ((k+1:Nat):Int)-1=(k:Int) by omega,q]
    simp only [xR,aA]
   have v:∀ g:List ByteArray,g.length<=3->(g.map bs).flatten=VP (decide (j=0)) i w f l.isEmpty->Ww N g ⟨Z3 B,(k:Int)⟩=some ⟨Z3 (B++YL k (VP (decide (j=0)) i w f l.isEmpty)),(k:Int)⟩:=fun g E A =>
    SJ g B _ k A (by omega) (by omega) (by omega)
   simp only [UR,Yh a,cT,Ye,c,bS]
   by_cases s:j=0
   ·rw [show ((j:Int)==0)=true by simp [s],cT]
    rw [v [str i,str [32,123]] (by simp) (by simp [Yx,VP,s])]
    exact rest
   ·rw [show ((j:Int)==0)=false by simp;omega,cF]
    cases l with
    | nil =>
     rw [show ((j:Int)==ZM ((m.length:Int)-1))=true by rw [XL (by omega) (by omega)];simp at o ⊢;omega,cT]
     cases f with
     | nil =>
      rw [show (!((str []).toList==(str []).toList))=false by rw [W3,Yx];rfl,cF]
      rw [v [str [125,32],str w,str [32,123]] (by simp) (by simp [Yx,VP,s])]
      exact rest
     | cons z zs =>
      rw [show (!((str (z::zs)).toList==(str []).toList))=true by rw [W3,W3,Yx,Yx];rfl,cT]
      rw [v [str [125,32],str (z::zs),str [32,123]] (by simp) (by simp [Yx,VP,s])]
      exact rest
    | cons z zs =>
     rw [show ((j:Int)==ZM ((m.length:Int)-1))=false by rw [XL (by omega) (by omega)];simp at o ⊢;omega,cF]
     rw [v [str [125,32],str w,str [32,123]] (by simp) (by simp [Yx,VP,s])]
     exact rest
 have:=key m 0 N B rfl (by omega) hB
 exact this
theorem Zii:∀ (N:Nat) (xs:List ZJ) (k:Nat) (B:List UInt8),4194306+dL xs<=N->xs.length<=4194304->bL xs->Xq xs->k+dL xs<=1000->B.length+(xL k xs).length<=4294967296 ->
  S2 N xs ⟨Z3 B,(k:Int)⟩=some ⟨Z3 (B++xL k xs),(k:Int)⟩
 | 0,_,_,_,h,_,_,_,_,_=>by omega
 | N+1,xs,k,B,h,hs,v,hsh,hk,hB=>by
  show Gk N (S2 N) xs ⟨Z3 B,(k:Int)⟩=_
  unfold Gk
  have hN:4194304 < N:=by omega
  have key:∀ (l:List ZJ) (j n:Nat) (B:List UInt8),xs.drop j=l->l.length < n->Xq l->dL l<=dL xs->B.length+(xL k l).length<=4294967296 ->
    Vx N (S2 N) xs n (Z3 B) (k:Int) (j:Int)=some ⟨Z3 (B++xL k l),(k:Int)⟩:=by
   intro l
   induction l with
   | nil =>
    intro j n B h E _ _ hL
    obtain ⟨n,rfl⟩:=pS n (by simp at E;omega)
    simp only [Vx,Yl (Xh h),cF,ZaJ,xL,List.append_nil]
   | cons x l O =>
    intro j n B h E s I hL
    obtain ⟨n,rfl⟩:=pS n (by simp at E;omega)
    have ⟨a,c,d⟩:=Xg h
    have P:=Zb c
    have p:=(WT _).1 (Wy v P)
    have M:=Wt P
    rw [Ws] at M
    simp only [Xq,H6] at s
    obtain ⟨⟨m,G⟩,H⟩:=s
    simp only [xL,lA] at hL
    simp only [dL] at I
    have g:∀ (o:Option Yd),o=some ⟨Z3 (B++xI k x),(k:Int)⟩->(o.bind fun y=>Vx N (S2 N) xs n y.Builder y.depth' (ZM ((j:Int)+1)))=some ⟨Z3 (B++xL k (x::l)),(k:Int)⟩:=by
     intro o T
     rw [T,bS,Yy (by omega:j < 4611686018427387904)]
     have:=O (j+1) n (B++xI k x) d (by simp at E;omega) H (by omega) (by simp only [lA];omega)
     rw [this];simp only [xL,aA]
    have q:∀ A w i,B.length+(xR k true A w i x.ZC).length<=4294967296->S7 N (S2 N) (str A) (str w) (str i) x.ZC ⟨Z3 B,(k:Int)⟩=some ⟨Z3 (B++xR k true A w i x.ZC),(k:Int)⟩:=by
     intro A w i hB
     refine ZlT hN (by omega) p.2.1 A w i (fun b u S F=>?_) B hB
     have C:=Vl p.2.2 u
     have U:=WK u
     have D:∀ {l:List (List ZJ)},Wa l->∀ {b},b∈l->Xq b:=by
      intro l
      induction l with
      | nil=>intro _ b v;cases v
      | cons y l O =>
       intro L b v
       simp only [Wa] at L
       rcases List.mem_cons.1 v with rfl | v
       ·exact L.1
       ·exact O L.2 v
     exact Zii N b (k+1) S (by omega) C.1 C.2 (D G u) (by omega) F
    have f:=Zkl k x
    simp only [Vx,Yh a,cT,Ye,c,bS]
    unfold XI at m
    rcases m with m | m | m | m | m | m
    ·rw [m.1] at f ⊢
     rw [f] at hL
     have f:xI k x=YL k (TT x.ZA x.To x.Zt):=f
     have hL:B.length+((YL k (TT x.ZA x.To x.Zt)).length+(xL k l).length)<=4294967296:=hL
     have V:(Wu [44,32] x.To).length<=4294967296:=by
      rw [Wj] at hL
      unfold TT Ue at hL
      simp only [lA] at hL;omega
     show ((Vw N x.To (str [44,32])).bind _)=_
     rw [RI x.To [44,32] p.1 (by omega),bS]
     refine g _ ?_
     rw [f]
     exact SJ _ B _ k (by simp [Yx,Yq,TT,Ue,aA]) (by simp) (by omega) (by omega)
    ·rw [m.1] at f ⊢
     have W:=W4 m.2.1
     have f:xI k x=(bif decide (x.ZB > 0) then xR k true (Uo x.ZA x.ZB) Vb TK x.ZC else xR k true (VJ x.ZA) Vb [] x.ZC):=f
     rw [f] at hL
     show (bif decide (x.ZB > 0) then _ else _)=_
     have A:=Uf x.ZB
     unfold Wi at A
     cases R:decide (x.ZB > 0) with
     | true =>
      rw [R] at f hL
      simp only [cT] at hL f ⊢
      rw [QY (by unfold Sp;omega)]
      have e:str (Uo x.ZA x.ZB)=Z3 ([99,104,111,105,99,101,32,97,116,32]++bs x.ZA++[32,119,105,116,104,105,110,32]++bs (UF x.ZB)):=rfl
      simp (disch:=(simp only [Yq,Yx,lA,Zf,List.length_nil];omega)) only [Xb,bS,Yq,Yx]
      rw [<- e]
      refine g _ ?_
      rw [f]
      exact q (Uo x.ZA x.ZB) Vb TK (by omega)
     | false =>
      rw [R] at f hL
      simp only [cF] at hL f ⊢
      have e:str (VJ x.ZA)=Z3 ([99,104,111,105,99,101,32,97,116,32]++bs x.ZA):=rfl
      simp (disch:=(simp only [Yq,Yx,lA,Zf,List.length_nil];omega)) only [Xb,bS,Yq,Yx]
      rw [<- e]
      refine g _ ?_
      rw [f]
      exact q (VJ x.ZA) Vb [] (by omega)
    ·rw [m.1] at f ⊢
     have W:=VW m.2.2.2.1
     have f:xI k x=xR k true (Tb x.Zt) [] [] x.ZC:=f
     rw [f] at hL
     show ((Yg (str [108,111,111,112,32]) x.Zt).bind _)=_
     have e:str (Tb x.Zt)=Z3 ([108,111,111,112,32]++bs x.Zt):=rfl
     simp (disch:=(simp only [Yq,Yx,lA,Zf,List.length_nil];omega)) only [Xb,bS,Yq,Yx]
     rw [<- e]
     refine g _ ?_
     rw [f]
     exact q (Tb x.Zt) [] [] (by omega)
    ·rw [m.1] at f ⊢
     have f:xI k x=YL k (QM x.Zt):=f
     rw [f] at hL
     refine g _ ?_
     rw [f]
     exact SJ _ B _ k (by simp [Yx,QM,aA]) (by simp) (by omega) (by omega)
    ·rw [m.1] at f ⊢
     have f:xI k x=xR k true RU Ry [] x.ZC:=f
     rw [f] at hL
     refine g _ ?_
     rw [f]
     exact q RU Ry [] (by omega)
    ·rw [m.1] at f ⊢
     have f:xI k x=YL k (Sy x.Zt x.To x.As):=f
     rw [f] at hL
     have V:(Wu [44,32] x.To).length<=4294967296:=by
      rw [Wj] at hL
      unfold Sy Ue at hL
      simp only [lA] at hL;omega
     show ((Vw N x.To (str [44,32])).bind _)=_
     rw [RI x.To [44,32] p.1 (by omega),bS]
     refine g _ ?_
     rw [f]
     exact SJ _ B _ k (by simp [Yx,Yq,Sy,Ue,aA]) (by simp) (by omega) (by omega)
  exact key xs 0 N B rfl (by omega) hsh (Zo _) hB
end Gp
end
section
namespace Gp
open Go Go.Kx Gx
variable {N:Nat}
theorem ZpA (hN:4194304 < N) {g:ZT->ByteArray->Option ByteArray} {b:List ZT} {k:Nat} (v:k<=1000) (w:b.length<=4194304)
  (i:∀ x∈b,(xI (k+1) (oI x)).length<=4294967296->∃ y,g x (Z3 (Xf (k+1)))=some (Z3 y)/\YL (k+1) y=xI (k+1) (oI x)) (hL:(xL (k+1) (oL b)).length<=4294967296) :
  Re N g b (Z3 (Xf k))=some (Z3 ([123,10]++xL (k+1) (oL b)++Xf k++[125])):=by
 unfold Re
 have key:∀ (l:List ZT) (j n:Nat) (A:List UInt8),b.drop j=l->l.length < n->A.length+(xL (k+1) (oL l)).length<=8589934592->(xL (k+1) (oL l)).length<=4294967296 ->
   PP g b (Z3 (Xf k)) n (Z3 A) (j:Int)=some (Z3 (A++xL (k+1) (oL l)++Xf k++[125])):=by
  intro l
  induction l with
  | nil =>
   intro j n A h f m hl
   obtain ⟨n,rfl⟩:=pS n (by simp at f;omega)
   simp only [PP,Yl (Xh h),cF,ZbT,oL,xL,List.append_nil]
   simp only [oL,xL,List.length_nil] at m
   simp (disch:=(simp only [Yq,Yx,lA,Zf,List.length_nil,X5];omega)) only [Xb,bS,Yq,Yx]
  | cons x l u =>
   intro j n A h f m hl
   obtain ⟨n,rfl⟩:=pS n (by simp at f;omega)
   have ⟨a,c,d⟩:=Xg h
   simp only [oL,xL,lA] at m hl
   have ⟨y,p,o⟩:=i x (Zb c) (by omega)
   have B:y.length+(k+2)=(xI (k+1) (oI x)).length:=by rw [<- o,Wj];omega
   have q:Yg (Z3 (Xf k)) (str [9])=some (Z3 (Xf (k+1))):=by rw [ZqP];exact TI (by simp [X5];omega)
   simp only [PP,Yh a,cT,Ye,c,bS,Yy (show j < 4611686018427387904 by omega),q,p]
   simp (disch:=(simp only [Yq,Yx,lA,Zf,List.length_nil,X5];omega)) only [Xb,bS,Yq,Yx]
   have s:Xf (k+1)++y++[10]=xI (k+1) (oI x):=by rw [<- o];simp [YL]
   rw [s,u (j+1) n _ d (by simp at f;omega) (by simp only [lA];omega) (by omega)]
   simp only [oL,xL,aA]
 have:=key b 0 N [123,10] rfl (by omega) (by simp only [Zf,List.length_nil];omega) hL
 exact this
theorem Zaq (hN:4194304 < N) {u:ZT->ByteArray->Option ByteArray} {x:ZT} {k:Nat} (hk:k<=1000) (C:x.ZC.length<=4194304) (o:0 < x.ZC.length) (g w f sep:List UInt8) (hw:w.length<=10) (P:f.length<=10)
  (p:1 < x.ZC.length->sep=[32]++w++[32]) (R:x.ZB > 0->f=TK) (U:¬ x.ZB > 0->f=[])
  (D:∀ b∈x.ZC,(xL (k+1) (oL b)).length<=4294967296->Re N u b (Z3 (Xf k))=some (Z3 ([123,10]++xL (k+1) (oL b)++Xf k++[125])))
  (hL:(xR k true g w f (YA x.ZC)).length<=4294967296) :
  ∃ y,Qk N u x (Z3 (Xf k)) (Z3 (g++[32])) (Z3 sep)=some (Z3 y)/\YL k y=xR k true g w f (YA x.ZC):=by
 unfold Qk
 have W:sep.length<=12\/¬ 1 < x.ZC.length:=by
  by_cases h:1 < x.ZC.length
  ·left;rw [p h];simp;omega
  ·exact Or.inr h
 have key:∀ (l:List (List ZT)) (j n:Nat) (A:List UInt8),x.ZC.drop (j+1)=l->l.length < n->A.length+(xR k false g w f (YA l)).length<=8589934592->(xR k false g w f (YA l)).length<=4294967296 ->
   ∃ T,V4 N u x (Z3 (Xf k)) (Z3 sep) n (Z3 A) ((j+1:Nat):Int)=some (Z3 (A++T))/\Xf k++([125]++(T++[10]))=xR k false g w f (YA l):=by
  intro l
  induction l with
  | nil =>
   intro j n A h L hA hl
   obtain ⟨n,rfl⟩:=pS n (by simp at L;omega)
   refine ⟨[],?_,by simp [YA,xR,YL]⟩
   simp only [V4,Yl (Xh h),cF,ZbA,List.append_nil]
  | cons b l ih =>
   intro j n A h L hA hl
   obtain ⟨n,rfl⟩:=pS n (by simp at L;omega)
   have ⟨a,c,d⟩:=Xg h
   have q:x.ZC.length=j+2+l.length:=by
    have:=congrArg List.length d
    rw [List.length_drop] at this;omega
   have G:(YA l).isEmpty=l.isEmpty:=by cases l<;>simp [YA]
   have H:=p (by omega)
   have hsl:sep.length<=12:=by rcases W with h | h<;>omega
   simp only [YA,xR,lA,Wj] at hA hl
   have M:=D b (Zb c) (by omega)
   have e0:VP false g w f (YA l).isEmpty=[125,32]++(bif (l.isEmpty && !f.isEmpty) then f else w)++[32,123]:=by rw [G];rfl
   have rest:∀ (S I:List UInt8),I=A++(S++([123,10]++xL (k+1) (oL b)++Xf k++[125]))->S.length<=14->S=[32]++(bif (l.isEmpty && !f.isEmpty) then f else w)++[32] ->
     ∃ T,V4 N u x (Z3 (Xf k)) (Z3 sep) n (Z3 I) (ZM (((j+1:Nat):Int)+1))=some (Z3 (A++T))/\Xf k++([125]++(T++[10]))=xR k false g w f (YA (b::l)):=by
    intro S I E hS F
    rw [Yy (by omega)]
    have X:=congrArg List.length F
    have he:=congrArg List.length e0
    simp only [lA,Zf,List.length_nil] at X he
    have ⟨T,V,t2⟩:=ih (j+1) n I d (by simp at L;omega) (by rw [E];simp only [lA,Zf,List.length_nil,X5];omega) (by omega)
    refine ⟨S++([123,10]++xL (k+1) (oL b)++Xf k++[125])++T,by rw [V,E];simp only [aA],?_⟩
    simp only [YA,xR,e0,<- t2,F,YL,aA,List.cons_append,List.nil_append]
   simp only [V4,Yh a,cT]
   rw [dT (by omega:((j+1:Nat):Int) > 0),cT]
   have s:(bif (l.isEmpty && !f.isEmpty) then f else w)=w->S8 N u x (Z3 (Xf k)) (Z3 sep) (Z3 A) ((j+1:Nat):Int) (V4 N u x (Z3 (Xf k)) (Z3 sep) n) false=V4 N u x (Z3 (Xf k)) (Z3 sep) n (Z3 (A++(sep++([123,10]++xL (k+1) (oL b)++Xf k++[125])))) (ZM (((j+1:Nat):Int)+1)):=by
    intro _
    unfold S8
    rw [dT (by omega:((j+1:Nat):Int) > 0)]
    simp only [cF,cT,Ye,c,bS,M]
    simp (disch:=(simp only [Yq,Yx,lA,Zf,List.length_nil,X5];omega)) only [Xb,bS,Yq,Yx,aA]
   by_cases O:x.ZB > 0
   ·rw [dT O,cT]
    have v:=R O
    cases l with
    | nil =>
     rw [show (((j+1:Nat):Int)==ZM ((x.ZC.length:Int)-1))=true by rw [XL (by omega) (by omega)];simp at q ⊢;omega]
     have e:(bif (([]:List (List ZT)).isEmpty && !f.isEmpty) then f else w)=TK:=by rw [v];rfl
     unfold S8
     simp only [cT,Ye,c,bS,M]
     simp (disch:=(simp only [Yq,Yx,lA,Zf,List.length_nil,X5];omega)) only [Xb,bS,Yq,Yx]
     exact rest [32,101,108,115,101,32] _ (by simp only [aA]) (by simp) (by rw [e];rfl)
    | cons z zs =>
     rw [show (((j+1:Nat):Int)==ZM ((x.ZC.length:Int)-1))=false by rw [XL (by omega) (by omega)];simp at q ⊢;omega]
     rw [s rfl]
     exact rest sep _ rfl (by omega) H
   ·rw [dF O,cF]
    have v:=U O
    have e:(bif (l.isEmpty && !f.isEmpty) then f else w)=w:=by rw [v];simp
    rw [s e]
    exact rest sep _ rfl (by omega) (by rw [e];exact H)
 obtain ⟨b,B,i⟩:∃ b B,x.ZC=b::B:=by
  cases h:x.ZC with
  | nil=>rw [h] at o;simp at o
  | cons b B=>exact ⟨b,B,rfl⟩
 obtain ⟨n,rfl⟩:∃ m,N=m+1:=⟨N-1,by omega⟩
 have h0:x.ZC[0]? = some b:=by rw [i];rfl
 have Y:YA x.ZC=oL b::YA B:=by rw [i];rfl
 rw [Y] at hL ⊢
 simp only [xR,lA,Wj,VP,cT,Zf,List.length_nil] at hL
 have M:=D b (Zb h0) (by omega)
 have Z:decide ((0:Int) < (x.ZC.length:Int))=true:=dT (by omega)
 have ⟨T,V,t2⟩:=key B 0 n (g++[32]++([123,10]++xL (k+1) (oL b)++Xf k++[125])) (by rw [i];rfl) (by rw [i] at C;simp at C;omega) (by simp only [lA,Zf,List.length_nil,X5];omega) (by omega)
 refine ⟨g++[32]++([123,10]++xL (k+1) (oL b)++Xf k++[125])++T,?_,?_⟩
 ·rw [<- V]
  simp only [V4,Z,cT]
  rw [dF (by omega:¬ (0:Int) > 0),cF]
  unfold S8
  rw [dF (by omega:¬ (0:Int) > 0)]
  simp only [cF]
  rw [show Z6 x.ZC (0:Int)=some b from by rw [show (0:Int)=((0:Nat):Int) from rfl,Ye,h0]]
  simp only [bS,M]
  simp (disch:=(simp only [Yq,Yx,lA,Zf,List.length_nil,X5];omega)) only [Xb,bS,Yq,Yx]
  rfl
 ·simp only [xR,VP,cT,<- t2,YL,aA,List.cons_append,List.nil_append]
theorem ZjM:∀ {l:List (List ZJ)} {b},Wa l->b∈l->Xq b
 | y::l,b,hs,h=>by
  simp only [Wa] at hs
  rcases List.mem_cons.1 h with rfl | h
  ·exact hs.1
  ·exact ZjM hs.2 h
theorem ZeI:∀ {l:List ZJ} {b},Xq l->b∈l->TW b
 | y::l,b,hs,h=>by
  simp only [Xq] at hs
  rcases List.mem_cons.1 h with rfl | h
  ·exact hs.1
  ·exact ZeI hs.2 h
theorem Zjq:∀ (N:Nat) (x:ZT) (k:Nat),4194306+dI (oI x)<=N->bI (oI x)->TW (oI x)->k+dI (oI x)<=1000->(xI k (oI x)).length<=4294967296 ->
  ∃ y,GX N x (Z3 (Xf k))=some (Z3 y)/\YL k y=xI k (oI x)
 | 0,_,_,h,_,_,_,_=>by omega
 | N+1,x,k,h,hb,hs,hk,hL=>by
  show ∃ y,GY N (GX N) x (Z3 (Xf k))=some (Z3 y)/\_
  have hN:4194304 < N:=by omega
  rw [WT,Xl,UK,HX] at hb
  rw [Ws,Xl] at h hk
  rw [H6,Xl] at hs
  have ⟨c,q⟩:=hs
  have n:(oI x).ZC=YA x.ZC:=Xl x
  have u:(oI x).ZC.length=x.ZC.length:=by rw [n,UK]
  have w:(oI x).Zq=x.Zq:=by rw [XU]
  have A:(oI x).ZA=x.ZA:=by rw [XU]
  have B:(oI x).To=x.To:=by rw [XU]
  have C:(oI x).Zt=x.Zt:=by rw [XU]
  have D:(oI x).As=x.As:=by rw [XU]
  have E:(oI x).ZB=x.ZB:=by rw [XU]
  have a:=Zkl k (oI x)
  unfold XI at c
  rw [w,A,B,C,D,E,u] at c
  rw [w,A,B,C,D,E,n] at a
  have d:∀ b∈x.ZC,(xL (k+1) (oL b)).length<=4294967296->Re N (GX N) b (Z3 (Xf k))=some (Z3 ([123,10]++xL (k+1) (oL b)++Xf k++[125])):=by
   intro b j s
   have m:=Vl hb.2.2 (WD j)
   have G:=WK (WD j)
   rw [UL] at m
   have v:=ZjM q (WD j)
   refine ZpA hN (by omega) m.1 (fun z o p=>?_) s
   have H:=Wt (XV o)
   exact Zjq N z (k+1) (by omega) (Wy m.2 (XV o)) (ZeI v (XV o)) (by omega) p
  unfold GY
  rcases c with c | c | c | c | c | c
  ·rw [c.1] at a ⊢
   have a:xI k (oI x)=YL k (TT x.ZA x.To x.Zt):=a
   rw [a] at hL
   rw [Wj] at hL
   unfold TT Ue at hL
   simp only [lA,Zf,List.length_nil] at hL
   refine ⟨_,?_,a.symm⟩
   show ((Yg x.ZA _).bind _)=_
   rw [Zd4 hN x.To hb.1 (by omega)]
   simp (disch:=(simp only [Yq,Yx,lA,Zf,List.length_nil,X5];omega)) only [Xb,bS,Yq,Yx]
   rfl
  ·rw [c.1] at a ⊢
   have F:=W4 c.2.1
   have I:=Uf x.ZB
   have a:xI k (oI x)=(bif decide (x.ZB > 0) then xR k true (Uo x.ZA x.ZB) Vb TK (YA x.ZC) else xR k true (VJ x.ZA) Vb [] (YA x.ZC)):=a
   rw [a] at hL
   show ∃ y,((Yg (str [99,104,111,105,99,101,32,97,116,32]) x.ZA).bind _)=_/\_
   by_cases f:x.ZB > 0
   ·rw [dT f] at a hL ⊢
    simp only [cT] at a hL ⊢
    rw [BL hN (by unfold Sp;omega)]
    have ⟨y,g,i⟩:=Zaq (sep:=[32,111,114,32]) hN (by omega) hb.2.1 (by omega) (Uo x.ZA x.ZB) Vb TK (by simp) (by simp) (fun _=>rfl) (fun _=>rfl) (fun h=>absurd f h) d hL
    refine ⟨y,?_,by rw [a];exact i⟩
    rw [<- g]
    unfold Wi at I
    simp (disch:=(simp only [Yq,Yx,lA,Zf,List.length_nil,X5];omega)) only [Xb,bS,Yq,Yx]
    have e:[99,104,111,105,99,101,32,97,116,32]++bs x.ZA++[32]++([119,105,116,104,105,110,32]++bs (UF x.ZB)++[32])=Uo x.ZA x.ZB++[32]:=by simp [Uo,VJ,Wi]
    rw [e];rfl
   ·rw [dF f] at a hL ⊢
    simp only [cF] at a hL ⊢
    have ⟨y,g,i⟩:=Zaq (sep:=[32,111,114,32]) hN (by omega) hb.2.1 (by omega) (VJ x.ZA) Vb [] (by simp) (by simp) (fun _=>rfl) (fun h=>absurd h f) (fun _=>rfl) d hL
    refine ⟨y,?_,by rw [a];exact i⟩
    rw [<- g]
    simp (disch:=(simp only [Yq,Yx,lA,Zf,List.length_nil,X5];omega)) only [Xb,bS,Yq,Yx]
    rfl
  ·rw [c.1] at a ⊢
   have F:=VW c.2.2.2.1
   have f:¬ x.ZB > 0:=by omega
   have a:xI k (oI x)=xR k true (Tb x.Zt) [] [] (YA x.ZC):=a
   rw [a] at hL
   show ∃ y,((Yg (str [108,111,111,112,32]) x.Zt).bind _)=_/\_
   have ⟨y,g,i⟩:=Zaq (sep:=[]) hN (by omega) hb.2.1 (by omega) (Tb x.Zt) [] [] (by simp) (by simp) (fun h=>by omega) (fun h=>absurd h f) (fun _=>rfl) d hL
   refine ⟨y,?_,by rw [a];exact i⟩
   rw [<- g]
   simp (disch:=(simp only [Yq,Yx,lA,Zf,List.length_nil,X5];omega)) only [Xb,bS,Yq,Yx]
   rfl
  ·rw [c.1] at a ⊢
   have F:=VW c.2.2.2.1
   have a:xI k (oI x)=YL k (QM x.Zt):=a
   refine ⟨_,?_,a.symm⟩
   show ((Yg (str [97,103,97,105,110,32]) x.Zt).bind _)=_
   simp (disch:=(simp only [Yq,Yx,lA,Zf,List.length_nil,X5];omega)) only [Xb,bS,Yq,Yx]
   rfl
  ·rw [c.1] at a ⊢
   have f:¬ x.ZB > 0:=by omega
   have a:xI k (oI x)=xR k true RU Ry [] (YA x.ZC):=a
   rw [a] at hL
   have ⟨y,g,i⟩:=Zaq (sep:=[32,97,110,100,32]) hN (by omega) hb.2.1 (by omega) RU Ry [] (by simp) (by simp) (fun h=>rfl) (fun h=>absurd h f) (fun _=>rfl) d hL
   refine ⟨y,?_,by rw [a];exact i⟩
   rw [<- g]
   rfl
  ·rw [c.1] at a ⊢
   have a:xI k (oI x)=YL k (Sy x.Zt x.To x.As):=a
   rw [a] at hL
   rw [Wj] at hL
   unfold Sy Ue at hL
   simp only [lA,Zf,List.length_nil] at hL
   refine ⟨_,?_,a.symm⟩
   show ((Yg (str [99,97,108,108,32]) x.Zt).bind _)=_
   rw [Zd4 hN x.To hb.1 (by omega)]
   simp (disch:=(simp only [Yq,Yx,lA,Zf,List.length_nil,X5];omega)) only [Xb,bS,Yq,Yx]
   rfl
end Gp
end
section
namespace Gp
open Go Go.Kx Gx
theorem B9 {α γ:Type} (xs:List α) (F:Nat->ByteArray->Int->γ) (b:ByteArray->γ) (g:α->List UInt8) (L:Nat) (p:xs.length<=4194304)
  (j:∀ (n k:Nat) x A,k < 4194304->xs[k]? = some x->A.length+(g x).length<=L->F (n+1) (Z3 A) (k:Int)=F n (Z3 (A++g x)) ((k+1:Nat):Int))
  (m:∀ (n k:Nat) A,xs.length<=k->k<=xs.length->A.length<=L->F (n+1) (Z3 A) (k:Int)=b (Z3 A)):∀ (l:List α) (k n:Nat) (A:List UInt8),k<=xs.length->xs.drop k=l->l.length < n->A.length+((l.map g).flatten).length<=L->F n (Z3 A) (k:Int)=b (Z3 (A++(l.map g).flatten)):=by
 intro l
 induction l with
 | nil =>
  intro k n A i h f hL
  obtain ⟨n,rfl⟩:=pS n (by simp at f;omega)
  rw [m n k A (Xh h) i (by omega)];simp
 | cons x l o =>
  intro k n A i h f hL
  obtain ⟨n,rfl⟩:=pS n (by simp at f;omega)
  have ⟨a,c,d⟩:=Xg h
  rw [List.map_cons,List.flatten_cons,lA] at hL
  rw [j n k x A (by omega) c (by omega),o (k+1) n _ (by omega) d (by simp at f;omega) (by rw [lA];omega)]
  simp only [List.map_cons,List.flatten_cons,aA]
def WQ (p:ZL):List UInt8:=[112,114,111,116,111,99,111,108,32]++bs p.Zt++[40]++Ue p.ZD++[41,32,123]
def WN (m:ZS):List UInt8:=YL 1 (Td m)
def Vs (p:ZL):List UInt8:=YL 0 (WQ p)++(p.ZE.map WN).flatten++xL 1 p.ZF++YL 0 [125]
def TY (l:List ZL):List UInt8:=(l.map Vs).flatten
def U2 (p:ZL):Prop:=Y8 p.Zt=true/\QL p.ZD 6/\p.ZE.length<=40/\Xq p.ZF/\dL p.ZF<=10/\cL p.ZF<=300/\∀ m∈p.ZE,Wx m
theorem QS {l:List ByteArray} {k:Nat} (h:QL l k) (c:k<=6):(Ue l).length<=108:=by
 have:=ZdU [44,32] 16 (l.map bs) (fun x a=>by obtain ⟨w,b,rfl⟩:=List.mem_map.1 a;exact W4 (h.2.2 w b))
 simp only [List.length_map,Zf,List.length_nil] at this
 have:=h.2.1
 unfold Ue Wu
 omega
theorem Znn (first:Bool) (b w a:List UInt8) (e:Bool) (c:b.length<=70) (d:w.length<=10) (f:a.length<=10):(VP first b w a e).length<=72:=by
 unfold VP
 cases first<;>cases (e && !a.isEmpty)<;>simp only [cT,cF,lA,Zf,List.length_nil]<;>omega
mutual
theorem Zq0:∀ (x:ZJ) (k:Nat),TW x->k+dI x<=20->(xI k x).length<=1000 * cI x
 | ⟨kd,f,t,n,a,x,b⟩,k,hs,hk=>by
  simp only [TW,dI,cI] at hs hk ⊢
  have ⟨c,o⟩:=hs
  have m:∀ i w d,i.length<=70->w.length<=10->d.length<=10->(xR k true i w d b).length<=100 * (b.length+1)+1000 * YF b:=fun i w d h j g=>Zkm b k true i w d o (by omega) h j g
  unfold XI at c
  simp only at c
  rcases c with c | c | c | c | c | c
  ·rw [c.1]
   have h:=W4 c.2.1
   have j:=QS c.2.2.1 (by omega)
   have g:=VW c.2.2.2.1
   show (YL k (TT f t n)).length<=_
   rw [Wj];unfold TT
   simp only [lA,Zf,List.length_nil];omega
  ·rw [c.1]
   have h:=W4 c.2.1
   have j:=Uf x
   show (bif decide (x > 0) then xR k true (Uo f x) Vb TK b else xR k true (VJ f) Vb [] b).length<=_
   have g:(Uo f x).length<=70:=by unfold Uo VJ;simp only [lA,Zf,List.length_nil];omega
   have p:(VJ f).length<=70:=by unfold VJ;simp only [lA,Zf,List.length_nil];omega
   have s:=m (Uo f x) Vb TK g (by simp) (by simp)
   have u:=m (VJ f) Vb [] p (by simp) (by simp)
   cases decide (x > 0)<;>simp only [cT,cF]<;>omega
  ·rw [c.1]
   have h:=VW c.2.2.2.1
   show (xR k true (Tb n) [] [] b).length<=_
   have p:(Tb n).length<=70:=by unfold Tb;simp only [lA,Zf,List.length_nil];omega
   have q:=m (Tb n) [] [] p (by simp) (by simp)
   omega
  ·rw [c.1]
   have g:=VW c.2.2.2.1
   show (YL k (QM n)).length<=_
   rw [Wj];unfold QM
   simp only [lA,Zf,List.length_nil];omega
  ·rw [c.1]
   show (xR k true RU Ry [] b).length<=_
   have q:=m RU Ry [] (by simp) (by simp) (by simp)
   omega
  ·rw [c.1]
   have h:=W4 c.2.2.2.1
   have j:=QS c.2.2.1 (by omega)
   have g:=W4 c.2.2.2.2.1
   show (YL k (Sy n t a)).length<=_
   rw [Wj];unfold Sy
   simp only [lA,Zf,List.length_nil];omega
theorem Ge:∀ (l:List ZJ) (k:Nat),Xq l->k+dL l<=20->(xL k l).length<=1000 * cL l
 | [],k,_,_=>by simp [xL]
 | x::l,k,hs,hk=>by
  simp only [Xq,dL] at hs hk
  have a:=Zq0 x k hs.1 (by omega)
  have b:=Ge l k hs.2 (by omega)
  simp only [xL,cL,lA];omega
theorem Zkm:∀ (l:List (List ZJ)) (k:Nat) (first:Bool) (c w a:List UInt8),Wa l->k+WB l+1<=20->c.length<=70->w.length<=10->a.length<=10->(xR k first c w a l).length<=100 * (l.length+1)+1000 * YF l
 | [],k,first,c,w,a,_,hk,_,_,_=>by simp only [xR,Wj,Zf,List.length_nil];omega
 | b::l,k,first,c,w,a,hs,hk,h1,h2,h3=>by
  simp only [Wa,WB] at hs hk
  have d:=Ge b (k+1) hs.1 (by omega)
  have f:=Zkm l k false c w a hs.2 (by omega) h1 h2 h3
  have g:=Znn first c w a l.isEmpty h1 h2 h3
  simp only [xR,YF,lA,Wj,Zf];omega
end
theorem BU {α:Type} (g:α->List UInt8) (M:Nat):∀ l:List α,(∀ x∈l,(g x).length<=M)->((l.map g).flatten).length<=l.length * M
 | [],_=>by simp
 | x::l,h=>by
  have b:=h x (Zj ..)
  have c:=BU g M l fun z a=>h z (Zi _ a)
  simp only [List.map_cons,List.flatten_cons,lA,Zf,Nat.add_mul,Nat.one_mul];omega
theorem Zi4 {p:ZL} (h:U2 p):(Vs p).length<=1000000:=by
 have ⟨b,c,d,f,i,j,g⟩:=h
 have k:=W4 b
 have n:=QS c (Zo _)
 have o:=BU WN 3010 p.ZE (fun m a=>by have:=Zed (g m a);unfold WN;rw [Wj];omega)
 have q:=Ge p.ZF 1 f (by omega)
 have s:p.ZE.length * 3010<=40 * 3010:=Nat.mul_le_mul_right _ d
 unfold Vs WQ
 simp only [lA,Wj,Zf,List.length_nil];omega
theorem ZjX {l:List ZL} (hl:l.length<=4194304) (h:∀ p∈l,U2 p) (a:l.length<=10):(TY l).length<=10000000:=by
 have:=BU Vs 1000000 l fun p b=>Zi4 (h p b)
 unfold TY
 have:l.length * 1000000<=10 * 1000000:=Nat.mul_le_mul_right _ a
 omega
end Gp
end
section
namespace Gp
open Go Go.Kx Gx
variable {N:Nat}
structure Pk (N:Nat) (p:ZL):Prop where
 v:U2 p
 l:p.ZF.length<=4194304
 b:bL p.ZF
theorem Pk.r {p:ZL} (h:Pk N p):p.ZD.length<=6:=h.v.2.1.2.1
theorem Zmz (A:List UInt8) (a:0 < A.length) (b:A.length<=4294967296):Lq N ⟨Z3 A,(0:Int)⟩=some (Z3 A):=by
 unfold Lq
 have e:(Z3 A).size=A.length:=by rw [XP,Yq]
 have g:MN (Z3 A)=some ():=by
  unfold MN
  rw [e,show Nat.beq A.length 0=false by cases h:A.length with | zero=>omega | succ n=>rfl,Nat.ble_eq_true_of_le (show A.length<=lim by show A.length<=4294967296;omega)]
  rfl
 rw [g];rfl
theorem Zi5 (hN:4194320 < N) {p:ZL} (h:Pk N p) (A:List UInt8) (c:A.length<=100000000) :
  (S2 N p.ZF ⟨Z3 A,(1:Int)⟩).bind (fun y=>Ww N ([(str [125])]:List ByteArray) (⟨y.Builder,(ZM (y.depth'-(1:Int)))⟩:Yd))=some ⟨Z3 (A++xL 1 p.ZF++YL 0 [125]),(0:Int)⟩:=by
 have ⟨d,f,g,a,i,j,k⟩:=h.v
 have m:=Ge p.ZF 1 a (by omega)
 rw [show (1:Int)=((1:Nat):Int) from rfl,Zii N p.ZF 1 A (by omega) h.l h.b a (by omega) (by omega),bS]
 show Ww N [str [125]] ⟨Z3 (A++xL 1 p.ZF),ZM (((1:Nat):Int)-((1:Nat):Int))⟩=_
 rw [show ZM (((1:Nat):Int)-((1:Nat):Int))=((0:Nat):Int) from rfl]
 rw [SJ [str [125]] _ [125] 0 (by simp [Yx]) (by simp) (by omega) (by simp only [lA,Wj,Zf,List.length_nil];omega)]
 rfl
theorem Zag {p:ZL} (h:U2 p):((p.ZE.map WN).flatten).length<=120400:=by
 have b:=BU WN 3010 p.ZE (fun m a=>by have:=Zed (h.2.2.2.2.2.2 m a);unfold WN;rw [Wj];omega)
 have c:p.ZE.length * 3010<=40 * 3010:=Nat.mul_le_mul_right _ h.2.2.1
 omega
theorem Zh9 (p:ZL):(([(str [112,114,111,116,111,99,111,108,32]),p.Zt,(str [40]),Z3 (Wu [44,32] p.ZD),(str [41,32,123])]:List ByteArray).map bs).flatten=WQ p:=by
 simp [Yx,Yq,WQ,Ue,aA]
theorem ZqA (hN:4194320 < N) (l:List ZL) (hl:l.length<=10) (h:∀ p∈l,Pk N p):DA N l=some (Z3 (TY l)):=by
 have P:=ZjX (l:=l) (by omega) (fun p f=>(h p f).v) hl
 unfold DA
 cases d:l with
 | nil=>rfl
 | cons p r =>
  rw [<- d]
  have B:decide ((0:Int) < (l.length:Int))=true:=dT (by rw [d];simp)
  have H:l[0]? = some p:=by rw [d];rfl
  have f:=h p (Zb H)
  have e:TY l=Vs p++(r.map Vs).flatten:=by rw [d];rfl
  have R:=Zi4 f.v
  have C:=Zag f.v
  have hL:=P
  rw [e,lA] at hL
  have Z:(YL 0 (WQ p)).length<=200:=by
   have:=W4 f.v.1
   have:=QS f.v.2.1 (Zo _)
   unfold WQ;simp only [lA,Wj,Zf,List.length_nil];omega
  have I:∀ q:ZL,U2 q->(Wu [44,32] q.ZD).length<=108:=fun q i=>QS i.2.1 (Zo _)
  rw [B,cT,show Z6 l (0:Int)=some p by rw [show (0:Int)=((0:Nat):Int) from rfl,Ye,H]]
  simp only [bS]
  rw [RI p.ZD [44,32] (by have:=f.r;omega) (by have:=I p f.v;omega),bS,Zn5 _ _ (Zh9 p) (by simp) (by omega)]
  simp only [bS]
  rw [show ZM ((0:Int)+1)=(1:Int) from rfl]
  -- the first protocol's messages
  have s:∀ (q:ZL),Pk N q->∀ (F:Nat->ByteArray->Int->Option ByteArray) (g:ByteArray->Option ByteArray) (A:List UInt8),A.length<=50000000 ->
    (∀ (n k:Nat) (m:ZS) (A:List UInt8),q.ZE[k]? = some m->Pd N m ⟨Z3 A,(1:Int)⟩=some ⟨Z3 (A++WN m),(1:Int)⟩->k < 4194304->F (n+1) (Z3 A) (k:Int)=F n (Z3 (A++WN m)) ((k+1:Nat):Int)) ->
    (∀ (n k:Nat) (A:List UInt8),q.ZE.length<=k->F (n+1) (Z3 A) (k:Int)=g (Z3 A))->F N (Z3 A) (0:Int)=g (Z3 (A++(q.ZE.map WN).flatten)):=by
   intro q i F g A w M O
   have S:=i.v.2.2.1
   have C:=Zag i.v
   exact B9 q.ZE F g WN 100000000 (by omega) (fun n k m A u o w=>M n k m A o (by
    have D:=i.v.2.2.2.2.2.2 m (Zb o)
    exact Zoo (by omega) D A 1 (by omega) (by show A.length+(WN m).length<=_;omega)) u) (fun n k A L _ Y=>O n k A L) q.ZE 0 N A (by omega) rfl (by omega) (by omega)
  rw [s p f (fun n b k=>P5 N l p n b (1:Int) k) (fun b=>DC N l p b (1:Int)) (YL 0 (WQ p)) (by omega) (fun n k m A o a u=>?_) (fun n k A u=>?_)]
  ·unfold DC
   have E:=Zi5 hN f (YL 0 (WQ p)++(p.ZE.map WN).flatten) (by simp only [lA];omega)
   rw [<- Option.bind_assoc] 
   rw [E,bS]
   show UT N l N (Z3 _) (0:Int) (ZM ((0:Int)+1))=_
   rw [show ZM ((0:Int)+1)=((1:Nat):Int) from rfl]
   have T:YL 0 (WQ p)++(p.ZE.map WN).flatten++xL 1 p.ZF++YL 0 [125]=Vs p:=rfl
   rw [T]
   rw [B9 l (fun n b k=>UT N l n b (0:Int) k) (fun b=>(Lq N (⟨b,0⟩:Yd)).bind fun x=>some x) Vs 10000000 (by omega) (fun n k q A u i w=>?_) (fun n k A u _ w=>?_) r 1 N (Vs p) (by rw [d];simp) (by rw [d];rfl) (by rw [d] at hl;simp at hl;omega) (by omega)]
   ·rw [<- e,Zmz _ (by rw [e];unfold Vs WQ;simp only [lA,Wj,Zf];omega) (by omega)]
    rfl
   ·have c:=h q (Zb i)
    have U:=c.r
    have V:=I q c.v
    have W:=Zag c.v
    have X:(YL 0 (WQ q)).length<=200:=by
     have:=W4 c.v.1
     have:=QS c.v.2.1 (Zo _)
     unfold WQ;simp only [lA,Wj,Zf,List.length_nil];omega
    simp only [UT,Yh (Yf i),cT,Ye,i,bS]
    rw [RI q.ZD [44,32] (by omega) (by omega),bS]
    have a:=SJ (N:=N) _ A _ 0 (Zh9 q) (by simp) (by omega) (by omega)
    rw [show (((0:Nat):Int))=(0:Int) from rfl] at a
    rw [a]
    simp only [bS]
    rw [show ZM ((0:Int)+1)=(1:Int) from rfl]
    rw [s q c (fun y b j=>P4 N (k:Int) (UT N l n) q y b (1:Int) j) (fun b=>DB N (k:Int) (UT N l n) q b (1:Int)) (A++YL 0 (WQ q)) (by simp only [lA];omega) (fun y j m A o a G=>?_) (fun y j A G=>?_)]
    ·unfold DB
     have E:=Zi5 hN c (A++YL 0 (WQ q)++(q.ZE.map WN).flatten) (by simp only [lA];omega)
     rw [<- Option.bind_assoc]
     rw [E,bS,Yy (by omega)]
     simp only [Vs,aA]
    ·simp only [P4,Yh (Yf o),cT,Ye,o,bS,a,Yy (show j < 4611686018427387904 by omega)]
    ·simp only [P4,Yl G,cF]
   ·simp only [UT,Yl u,cF]
  ·simp only [P5,Yh (Yf o),cT,Ye,o,bS,a,Yy (show k < 4611686018427387904 by omega)]
  ·simp only [P5,Yl u,cF]
end Gp
end
section
namespace Gp
open Go Go.Kx Gx
variable {N:Nat}
theorem Zit {α γ:Type} (xs:List α) (F:Nat->ByteArray->Int->γ) (c:ByteArray->γ) (g:α->List UInt8) (L:Nat) (d:xs.length<=4194304)
  (f:∀ (n k:Nat) x A,k < 4194304->xs[k]? = some x->A.length+(g x).length<=L->F (n+1) (Z3 A) (k:Int)=F n (Z3 (A++g x)) ((k+1:Nat):Int))
  (h:∀ (n k:Nat) A,xs.length<=k->A.length<=L->F (n+1) (Z3 A) (k:Int)=c (Z3 A)) {n:Nat} {A:List UInt8} (i:xs.length < n) (j:A.length+((xs.map g).flatten).length<=L):F n (Z3 A) (0:Int)=c (Z3 (A++(xs.map g).flatten)) :=
 B9 xs F c g L d f (fun n k A a _ b=>h n k A a b) xs 0 n A (Nat.zero_le _) rfl i j
theorem Zqb (hN:4194320 < N) (l:List ZU) (hl:l.length<=10) (h:∀ p∈l,Pk N (oP p)):Gt N l=some (Z3 (TY (l.map oP))):=by
 have E:=ZjX (l:=l.map oP) (by simp;omega) (fun p c=>by obtain ⟨q,S,rfl⟩:=List.mem_map.1 c;exact (h q S).v) (by simp;omega)
 have e:TY (l.map oP)=(l.map fun p=>Vs (oP p)).flatten:=by unfold TY;rw [List.map_map];rfl
 rw [e] at E ⊢
 unfold Gt
 have:=B9 l (Vy N l) ZaV (fun p=>Vs (oP p)) 10000000 (by omega) (fun n k p A G c o=>?_) (fun n k A G _ o=>?_) l 0 N [] (by omega) rfl (by omega) (by simp only [List.length_nil];omega)
 ·exact this
 ·have a:=h p (Zb c)
  have U:p.ZD.length<=6:=a.r
  have V:=W4 a.v.1
  have hc:(Wu [44,32] p.ZD).length<=108:=QS a.v.2.1 (Zo _)
  have I:=Zag a.v
  have u:=Ge (oP p).ZF 1 a.v.2.2.2.1 (by have:=a.v.2.2.2.2.1;omega)
  have w:=a.v.2.2.2.2.2.1
  have L:(oP p).Zt=p.Zt:=rfl
  have W:(oP p).ZD=p.ZD:=rfl
  have C:(oP p).ZE=p.ZE.map oM:=rfl
  have g:(oP p).ZF=oL p.ZF:=rfl
  rw [L] at V
  rw [C] at I
  have M:YL 0 (WQ (oP p))=[112,114,111,116,111,99,111,108,32]++bs p.Zt++[40]++Wu [44,32] p.ZD++[41,32,123,10]:=by
   simp [YL,Xf,WQ,Ue,L,W]
  simp only [Vy,Yh (Yf c),cT,Ye,c,bS]
  rw [Zd4 (by omega) p.ZD (by omega) (by omega)]
  simp (disch:=(simp only [Yq,Yx,lA,Zf,List.length_nil,X5];omega)) only [Xb,bS,Yq,Yx]
  rw [<- M]
  have X:(YL 0 (WQ (oP p))).length<=200:=by rw [M];simp only [lA,Zf,List.length_nil];omega
  have Y:p.ZE.length<=40:=by have:=a.v.2.2.1;rw [C,List.length_map] at this;exact this
  have F:p.ZF.length<=4194304:=by have:=a.l;rw [g,UL] at this;exact this
  have B:(p.ZE.map oM).map WN=p.ZE.map (fun m=>WN (oM m)):=by rw [List.map_map];rfl
  rw [B] at I
  rw [Zit p.ZE (Pi N l (k:Int) (Vy N l n)) (Gv N l (k:Int) (Vy N l n)) (fun m=>WN (oM m)) 50000000 (by omega) (fun D j m A s d o=>?_) (fun D j A s o=>?_) (by omega) (by simp only [lA];omega)]
  ·unfold Gv
   have O:∀ l:List ZT,(l.map fun x=>xI 1 (oI x)).flatten=xL 1 (oL l):=by
    intro l
    induction l with
    | nil=>simp [oL,xL]
    | cons x l ih=>simp only [List.map_cons,List.flatten_cons,oL,xL,ih]
   rw [Zit p.ZF (Ph N l (k:Int) (Vy N l n)) (Gu (k:Int) (Vy N l n)) (fun x=>xI 1 (oI x)) 100000000 F (fun D j x A s f o=>?_) (fun D j A s o=>?_) (by omega) (by rw [O];rw [g] at u w;simp only [lA];omega),O]
   ·unfold Gu
    rw [g] at u w
    simp (disch:=(simp only [Yq,Yx,lA,Zf,List.length_nil,X5];omega)) only [Xb,bS,Yq,Yx]
    rw [Yy (by omega)]
    have:A++YL 0 (WQ (oP p))++(p.ZE.map fun m=>WN (oM m)).flatten++xL 1 (oL p.ZF)++[125,10]=A++Vs (oP p):=by
     unfold Vs
     rw [C,B,g]
     simp [YL,Xf]
    rw [this]
   ·have i:=Zb f
    have Z:=Wy a.b (by rw [g];exact XV i)
    have E:=ZeI a.v.2.2.2.1 (by rw [g];exact XV i)
    have hd:=Wt (l:=(oP p).ZF) (by rw [g];exact XV i)
    have P:=a.v.2.2.2.2.1
    have ⟨y,T,H⟩:=Zjq N x 1 (by omega) Z E (by omega) (by omega)
    have hyl:y.length+2=(xI 1 (oI x)).length:=by rw [<- H,Wj];omega
    simp only [Ph,Ye,c,bS,Yh (Yf f),cT,f,Yy (show j < 4611686018427387904 by omega)]
    rw [show str [9]=Z3 (Xf 1) from rfl,T]
    simp only [bS]
    simp (disch:=(simp only [Yq,Yx,lA,Zf,List.length_nil,X5];omega)) only [Xb,bS,Yq,Yx]
    rw [<- H]
    simp [YL]
   ·simp only [Ph,Ye,c,bS,Yl s,cF]
  ·have R:Wx (oM m):=a.v.2.2.2.2.2.2 _ (by rw [C];exact List.mem_map.2 ⟨m,Zb d,rfl⟩)
   have hvl:=Zed R
   simp only [Pi,Ye,c,bS,Yh (Yf d),cT,d,Zp0 (show 4194304 < N by omega) m R,Yy (show j < 4611686018427387904 by omega)]
   simp (disch:=(simp only [Yq,Yx,lA,Zf,List.length_nil,X5];omega)) only [Xb,bS,Yq,Yx]
   rfl
  ·simp only [Pi,Ye,c,bS,Yl s,cF]
 ·simp only [Vy,Yl G,cF]
def QK (l:List ZL):Prop:=l.length<=10/\(∀ p∈l,U2 p)/\(TY l).length<=8000
theorem Zi6 (p:ZL) (Q:Prop):(Y8 p.Zt=true/\QL p.ZD 6/\p.ZE.length<=40/\(Xq p.ZF/\dL p.ZF<=10/\cL p.ZF<=300)/\(∀ m∈p.ZE,Wx m)/\Q)↔U2 p/\Q:=by
 unfold U2
 constructor
 ·rintro ⟨a,b,c,⟨d,e,f⟩,g,h⟩;exact ⟨⟨a,b,c,d,e,f,g⟩,h⟩
 ·rintro ⟨⟨a,b,c,d,e,f,g⟩,h⟩;exact ⟨a,b,c,⟨d,e,f⟩,g,h⟩
theorem Zkb (hN:4194320 < N) (l:List ZL) (hl:l.length<=4194304) (f:∀ p∈l,bP p):Dq (Ra N l) (QK l):=by
 unfold Ra
 refine Dq.cN (C:=l.length<=10) TM fun g=>?_
 refine TJ (P:=U2) (E:=(TY l).length<=8000) (by omega) _ (fun n k p Q o c v=>?_) (fun a n k o=>?_) (by omega)
 ·have d:=f p (Zb c)
  simp only [Rc,Yh (Yf c),cT,Ye,c,bS]
  refine (Dq.bN (Pa (by omega) _) fun w=>Dq.bN (ZeZ (by omega) _ d.r 6) fun x=>Dq.cN (C:=p.ZE.length<=40) TM fun y=>?_).iff (Zi6 p Q)
  have ⟨r,m,B,v2,v3⟩:=Zkc N p.ZF 1 0 (by omega) d.l d.b (by omega) (by omega)
  rw [show Hm N p.ZF (1:Int) (0:Int)=some (r,m) from B,bS]
  refine Dq.cN (C:=Xq p.ZF/\dL p.ZF<=10/\cL p.ZF<=300) ?_ fun h=>?_
  ·have:r=true↔Xq p.ZF/\dL p.ZF<=10/\cL p.ZF<=300:=v2.trans ⟨fun q=>⟨q.1,by omega,by omega⟩,fun q=>⟨q.1,by omega,by omega⟩⟩
   rw [<- this];cases r<;>simp
  ·refine TJ (P:=Wx) (E:=Q) (by omega) (PN N (k:Int) (Rc N l n) p) (fun A j m D s u i=>?_) (fun a A j s=>?_) (by omega)
   ·simp only [PN,Yh (Yf u),cT,Ye,u,bS,Yy (show j < 4611686018427387904 by omega)]
    exact Dq.bN (Zow (by omega) m) i
   ·simp only [PN,Yl s,cF,ZbQ,Yy (show k < 4611686018427387904 by omega)]
    exact v ⟨w,x,y,h.1,h.2.1,h.2.2,a⟩
 ·simp only [Rc,Yl o,cF,ZbP]
  rw [ZqA hN l g fun p c=>⟨a p c,(f p c).l,(f p c).b⟩,bS]
  exact Dq.dec (by rw [XP,Yq];omega)
theorem Zqf (hN:4194320 < N) (l:List ZU) (hl:l.length<=4194304) (x:∀ p∈l,RP p/\4194306+dL (oL p.ZF)<=N/\cL (oL p.ZF)<=1099511627776/\nL (oL p.ZF)/\∀ m∈p.ZE,nM (oM m)):Dq (DE N l) (QK (l.map oP)):=by
 unfold DE
 refine (Dq.cN (C:=l.length<=10) TM fun y=>TJ (P:=fun p=>U2 (oP p)) (E:=(TY (l.map oP)).length<=8000) (by omega) _ (fun n k p Q G s R=>?_) (fun o n k G=>?_) (by omega)).iff (by unfold QK;rw [List.length_map,List.forall_mem_map])
 ·have ⟨i,D,Z,hn,F⟩:=x p (Zb s)
  have u:=QJ i
  have I:(oP p).Zt=p.Zt:=rfl
  have L:(oP p).ZD=p.ZD:=rfl
  have M:(oP p).ZE=p.ZE.map oM:=rfl
  have O:(oP p).ZF=oL p.ZF:=rfl
  have hdc:dL (oL p.ZF)<=cL (oL p.ZF):=QT _
  simp only [Ro,Yh (Yf s),cT,Ye,s,bS]
  have hi:=Zi6 (oP p) Q
  rw [I,L,M,O,List.length_map,List.forall_mem_map] at hi
  refine (Dq.bN (SQ (by omega) _) fun S=>Dq.bN (ZeE (by omega) _ i.r 6) fun T=>Dq.cN (C:=p.ZE.length<=40) TM fun U=>(?_:Dq _ ((dL (oL p.ZF)<=10/\cL (oL p.ZF)<=300/\Xq (oL p.ZF)/\∀ m∈p.ZE,Wx (oM m))/\Q))).iff ?_
  ·rw [ZhG N p.ZF D u i.b (by omega),Zdv N p.ZF D u i.b Z]
   simp only [bS]
   refine (Dq.cN (C:=dL (oL p.ZF)<=10) (TM (b:=10)) fun V=>Dq.cN (C:=cL (oL p.ZF)<=300) (TM (b:=300)) fun W=>Dq.bN (Zh6 N p.ZF D u i.b hn) fun X=>(?_:Dq _ ((∀ m∈p.ZE,Wx (oM m))/\Q))).iff ⟨fun q=>⟨⟨q.1,q.2.1,q.2.2.1,q.2.2.2.1⟩,q.2.2.2.2⟩,fun q=>⟨q.1.1,q.1.2.1,q.1.2.2.1,q.1.2.2.2,q.2⟩⟩
   refine TJ (P:=fun m=>Wx (oM m)) (E:=Q) (by omega) (P6 N (k:Int) (Ro N l n) p) (fun Y j m Q' H A B=>?_) (fun o Y j H=>?_) (by omega)
   ·have v:=Zb A
    have w:=Zgi i v
    simp only [P6,Yh (Yf A),cT,Ye,A,bS,Yy (show j < 4611686018427387904 by omega)]
    exact Dq.bN (Zp1 (by omega) m w.1 w.2 (F m v)) B
   ·simp only [P6,Yl H,cF,Zct,Yy (show k < 4611686018427387904 by omega)]
    refine R ?_
    unfold U2
    rw [I,L,M,O,List.length_map,List.forall_mem_map]
    exact ⟨S,T,U,X,V,W,o⟩
  ·rw [<- hi]
   constructor
   ·rintro ⟨a,b,c,⟨d,e,f,g⟩,h⟩;exact ⟨a,b,c,⟨f,d,e⟩,g,h⟩
   ·rintro ⟨a,b,c,⟨f,d,e⟩,g,h⟩;exact ⟨a,b,c,⟨d,e,f,g⟩,h⟩
 ·simp only [Ro,Yl G,cF,Zcs]
  rw [Zqb hN l y fun p s=>⟨o p s,(x p s).1.l,(x p s).1.b⟩,bS]
  exact Dq.dec (by rw [XP,Yq];omega)
end Gp
end
