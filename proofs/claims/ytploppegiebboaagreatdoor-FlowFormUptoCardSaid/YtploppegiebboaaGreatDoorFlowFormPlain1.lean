/- The plain law, part 1: what the functions compute answers as the statement says. -/
import Derived.Lib.Bytealg
import Derived.Test.YtploppegiebboaaGreatDoorFlowFormPure
set_option linter.all false
open List renaming getElem?_eq_some_iff→aE,map_cons→aJ,length_take→aL,length_map→aM,length_nil→aO,replicate→aP,mem_map→aQ,mem_cons→aW,getElem?_cons_zero→aX,mem_iff_getElem?→aZ,nil_append→ar,map_nil→ay,getElem?_cons_succ→bE,take_of_length_le→bY,length_singleton→bb,length_drop→bg,append_nil→bn,take_append_of_le_length→bw,pairwise_iff_getElem→bz,take_append_drop→cC,map_map→cD,flatten_cons→cG,any_eq_true→cR,sum_cons→dW,drop_zero→dZ,foldl_cons→eh,count_cons→ep,singleton_append→ey,find?_eq_none→fU,findIdx?_eq_some_iff_getElem→fh,filter_cons→gH,filter_append→iC,mem_take_iff_getElem→iE,flatMap_cons→iI,count_le_length→jn,filter_eq_self→jv
open Option.some renaming injEq→aR
open Nat renaming mul_le_mul_right→aS,ble_eq_true_of_le→ai,zero_add→au,add_mul→bC,le_add_right→bO,le_trans→bT,le_of_lt→fP,one_mul→kO
open ByteArray renaming empty→ao
open Int renaming toNat_natCast→bD
open Go.IntKind renaming i64→bF,signed→eO,bits→fN,wrap→fm
open List.cons renaming injEq→bZ
open Option renaming map_some→ba,getD_some→bc,bind→eU,bind_assoc→kG
open Bool renaming or_eq_false_iff→cw,not_false→cx,and_eq_false_iff→eC,eq_iff_iff→eo
open Go.Lib renaming indexByte→fO
open Iff renaming rfl→fj
open Or renaming inr→je,inl→kJ
namespace Gp
open Go Go.Kx Gx
theorem dF {p:Prop} [Decidable p] (h:¬p):decide p=false:=decide_eq_false h
theorem dT {p:Prop} [Decidable p] (h:p):decide p=true:=lY h
theorem bS {α β:Type _} (a:α) (f:α->Option β):(some a).bind f=f a:=rfl
theorem cF {α:Sort _} {a b:α}:(bif false then a else b)=b:=rfl
theorem cT {α:Sort _} {a b:α}:(bif true then a else b)=a:=rfl
theorem aA {α:Type _} (a b c:List α):(a++b)++c=a++(b++c):=List.append_assoc a b c
theorem lA {α:Type _} {a b:List α}:(a++b).length=a.length+b.length:=List.length_append
theorem Wp {n:Int} (a:-9223372036854775808<=n) (b:n<=9223372036854775807):Yh n=n:=by show bF.wrap n=n;simp [fm,eO,fN];omega
theorem Xa {n:Nat} (h:n < 4611686018427387904):Yh ((n:Int)+1)=((n+1:Nat):Int):=by rw [Wp (by omega) (by omega)];omega
variable {α:Type}
theorem YL (xs:List α) (k:Nat):idx xs (k:Int)=xs[k]? := by
 unfold idx;have:decide (0<=(k:Int))=true:=by simp
 rw [this];simp
variable {i:Int} {k:Nat} {xs:List α}
theorem Zqb (h:i=k):idx xs i=xs[k]? := by rw [h,YL]
theorem W4 (xs:List α) (k:Nat) (e:α):YA xs (k:Int) e=xs.set k e:=by unfold YA;simp
theorem ZtM (h:i=k) (e:α):YA xs i e=xs.set k e:=by rw [h,W4]
theorem ZaV (A:List α) (x:α) (B:List α) (h:A.length=k):(A++x::B)[k]? = some x:=by subst h;simp
theorem Hu (A:List α) (x y:α) (B:List α) (h:A.length=k):(A++x::B).set k y=A++y::B:=by subst h;simp
variable {A B L:List α} {x:α}
theorem QI (hL:L=A++x::B) (h:i=(A.length:Int)):idx L i=some x:=by rw [Zqb h,hL];exact ZaV A x B rfl
theorem Zlv (hL:L=A++x::B) (h:i=(A.length:Int)) (y:α):YA L i y=A++y::B:=by rw [ZtM h,hL];exact Hu A x y B rfl
theorem X6 {ys:List α} (h:xs.length+ys.length<=4294967296):Y7 xs ys=some (xs++ys):=by unfold Y7;have:Nat.ble (xs.length+ys.length) lim=true:=ai h;rw [this];rfl
theorem XW {l:List α} (h:xs.drop k=x::l):k < xs.length/\xs[k]? = some x/\xs.drop (k+1)=l:=by
 have a:k < xs.length:=by
  rcases Nat.lt_or_ge k xs.length with b | b
  ·exact b
  ·rw [List.drop_eq_nil_of_le b] at h;cases h
 rw [List.drop_eq_getElem_cons a] at h;simp only [bZ] at h;exact ⟨a,by rw [Za a,h.1],h.2⟩
theorem XP (h:xs.drop k=[]):xs.length<=k:=by simpa using h
theorem Zp3 {a b:Nat} (h:a+b < 4611686018427387904) {j:Int} (hi:i=a) (c:j=b):XN .shr .u64 (wk .u64 (Yh (i+j))) (1:Int)=some (((a+b) / 2:Nat):Int):=by
 subst hi c;rw [Wp (by omega) (by omega)];have d:wk .u64 ((a:Int)+b)=(a:Int)+b:=by show IntKind.u64.wrap _=_;simp [fm,eO,fN];omega
 rw [d];show some (((a:Int)+b).fdiv (2 ^ 1))=_;rw [Int.fdiv_eq_ediv_of_nonneg _ (by decide)];simp
variable {γ:Type}
def lv (b:α->Nat->γ->γ) (e:γ):List α->Nat->γ
 | [],_=>e
 | x::l,k=>b x k (lv b e l (k+1))
theorem Zro (xs:List α) (F:Nat->Int->γ) (b:α->Nat->γ->γ) (e:γ)
  (g:∀ n k x,k < xs.length->xs[k]? = some x->F (n+1) (k:Int)=b x k (F n ((k+1:Nat):Int)))
  (i:∀ n k,xs.length<=k->F (n+1) (k:Int)=e) :
  ∀ (l:List α) (k n:Nat),xs.drop k=l->l.length < n->F n (k:Int)=lv b e l k:=by
 intro l;induction l with
 | nil =>
  intro k n h f;obtain ⟨n,rfl⟩:=pS n (by simp at f;omega);exact i n k (XP h)
 | cons x l j =>
  intro k n h f;obtain ⟨n,rfl⟩:=pS n (by simp at f;omega);have ⟨a,c,d⟩:=XW h;rw [g n k x a c,j (k+1) n d (by simp at f;omega)];rfl
theorem Zrn {F:Nat->Int->γ} {b:α->Nat->γ->γ} {e:γ} {n:Nat} (a:xs.length < n) (hi:i=((0:Nat):Int))
  (c:∀ n k x,k < xs.length->xs[k]? = some x->F (n+1) (k:Int)=b x k (F n ((k+1:Nat):Int)))
  (d:∀ n k,xs.length<=k->F (n+1) (k:Int)=e):F n i=lv b e xs 0:=by rw [hi];exact Zro xs F b e c d xs 0 n rfl a
theorem YY {n:Nat} (h:k < n):decide ((k:Int) < (n:Int))=true:=by simp [h]
theorem YZ {n:Nat} (h:n<=k):decide ((k:Int) < (n:Int))=false:=by simp;omega
section
variable {α:Type} {K:α->Int} {r:α->α->Prop}
end
section
theorem Yg {α γ:Type} (xs:List α) (g:xs.length<=4194304) (b:α->Int->γ->γ) (F:Nat->Int->γ) (e:γ) {n:Nat} (h:4194304 < n)
  (a:∀ n k x,k < xs.length->xs[k]? = some x->F (n+1) (k:Int)=b x k (F n (Yh ((k:Int)+1))))
  (c:∀ n k,xs.length<=k->F (n+1) (k:Int)=e):F n (0:Int)=lv (fun x (k:Nat) r=>b x (k:Int) r) e xs 0 :=
 Zrn (by omega) rfl (fun n k x d f=>by rw [a n k x d f,Xa (by omega)]) c
def Vv (a b:be):Bool:=a.toList==b.toList
theorem Zpk (a:be):Vv a a=true:=by simp [Vv]
variable {N:Nat} (hN:4194304 < N)
end
section
variable {N:Nat} (hN:4194304 < N)
def Zgi {α:Type} (f:α->Bool) (l:List α):Option Int:=lv (fun x (k:Nat) r=>bif f x then some (k:Int) else r) (some (-1)) l 0
theorem ZnP (a b:be):(a.toList==b.toList)=(b.toList==a.toList):=by rw [eo,l3,l3];exact ⟨Eq.symm,Eq.symm⟩
include hN in
theorem Znp (l:List be) (b:l.length<=4194304) (v:be):TK N l v=Zgi (fun x=>Vv x v) l:=by
 unfold TK Zgi;refine Yg l b (fun x k r=>bif Vv x v then some k else r) (Ta l v) _ hN ?_ ?_
 ·intro n k x a c;simp only [Ta,YY a,YL,c,cT,bS,Vv,ZnP v x]
 ·intro n k a;simp only [Ta,YZ a,cF,HS]
end
theorem L8 (hL:L=A++B) (hi:i=(A.length:Int)):lsl L none (some i)=some A:=by
 subst hL hi;have h:decide ((A.length:Int)<=((A++B).length:Int))=true:=by simp;omega
 have a:decide ((0:Int)<=(A.length:Int))=true:=by simp
 unfold lsl WJ;simp only [bc,Option.getD_none,h,a];simp
section
variable {α:Type}
def Pu (p:α->Nat->Bool):List α->Nat->Bool
 | [],_=>true
 | x::l,k=>p x k && Pu p l (k+1)
theorem ZnB (p:α->Nat->Bool) (xs:List α) (F:Nat->Int->Option Bool) (e:Option Bool)
  (f:∀ n k x,k < xs.length->xs[k]? = some x->F (n+1) (k:Int)=bif p x k then F n ((k+1:Nat):Int) else some false)
  (g:∀ n k,xs.length<=k->F (n+1) (k:Int)=e) :
  ∀ (l:List α) (k n:Nat),xs.drop k=l->l.length < n->F n (k:Int)=bif Pu p l k then e else some false:=by
 intro l;induction l with
 | nil =>
  intro k n h b;obtain ⟨n,rfl⟩:=pS n (by simp at b;omega);exact g n k (XP h)
 | cons x l i =>
  intro k n h b;obtain ⟨n,rfl⟩:=pS n (by simp at b;omega);have ⟨a,c,d⟩:=XW h;rw [f n k x a c,i (k+1) n d (by simp at b;omega)];show _=bif (p x k && Pu p l (k+1)) then e else some false;cases p x k<;>rfl
theorem ZnA (p:α->Nat->Bool) {xs:List α} {F:Nat->Int->Option Bool} {e:Option Bool} {n:Nat} (a:xs.length < n)
  (b:∀ n k x,k < xs.length->xs[k]? = some x->F (n+1) (k:Int)=bif p x k then F n ((k+1:Nat):Int) else some false)
  (c:∀ n k,xs.length<=k->F (n+1) (k:Int)=e):F n (0:Int)=bif Pu p xs 0 then e else some false :=
 ZnB p xs F e b c xs 0 n rfl a
def bs (s:be):List UInt8:=s.data.toList
theorem W9 (s:be):s.size=(bs s).length:=rfl
theorem Zt3 {s:be} {k:Nat} (h:k < (bs s).length):decide ((k:Int) < (s.size:Int))=true:=YY h
theorem Zt2 {s:be} {k:Nat} (h:(bs s).length<=k):decide ((k:Int) < (s.size:Int))=false:=YZ h
theorem U6 (s:be):s.toList=bs s:=ByteArray.toList_eq s
theorem LA {a b:be} (h:bs a=bs b):a=b:=by cases a with | mk a=>cases b with | mk b=>simpa [bs] using h
theorem DI (s:be) (k:Nat):XL s (k:Int)=(bs s)[k]?.map (fun b=>(b.toNat:Int)):=by
 unfold XL;have h:decide (0<=(k:Int))=true:=by simp
 rw [h,cT];have e:s[(k:Int).toNat]? = (bs s)[k]? := by simp [getElem?_def,bs];split<;>simp_all;rfl
 rw [e]
theorem ZeY (a b:be):Vv a b=true↔a=b:=by unfold Vv;rw [l3,U6,U6];exact ⟨LA,fun h=>by rw [h]⟩
variable {N:Nat} (hN:4194304 < N)
def L7 (c:Int):Bool:=(decide (97<=c) && decide (c<=122)) || (decide (65<=c) && decide (c<=90))
def PK (c:Int):Bool:=L7 c || ((decide (48<=c) && decide (c<=57)) || c==95)
theorem Zka (N:Nat) (c:Int):z28 N c=some (L7 c):=by unfold z28 L7;cases decide (97<=c)<;>cases decide (c<=122)<;>cases decide (65<=c)<;>rfl
theorem Zqh (N:Nat) (c:Int):z76 N c=some (PK c):=by
 unfold z76 PK H9;rw [Zka];simp only [bS];cases L7 c
 ·cases decide (48<=c)<;>cases decide (c<=57)<;>rfl
 ·rfl
def Dd (s:be):Bool :=
 match bs s with
 | []=>false
 | x::l=>L7 (x.toNat:Int) && (decide (l.length < 16) && Pu (fun (c:UInt8) _=>PK (c.toNat:Int)) (x::l) 0)
def keywords:List be:=[(str [97,103,97,105,110]),(str [97,110,100]),(str [97,115]),(str [97,116]),(str [99,97,108,108]),(str [99,104,111,105,99,101]),(str [101,108,115,101]),(str [102,114,111,109]),(str [105,102]),(str [105,110,116]),(str [108,101,110]),(str [108,111,111,112]),(str [109,101,115,115,97,103,101]),(str [111,102]),(str [111,102,102,101,114]),(str [111,110]),(str [111,114]),(str [112,97,114]),(str [112,108,97,121,115]),(str [112,114,111,116,111,99,111,108]),(str [115,101,114,118,105,99,101]),(str [116,101,120,116]),(str [116,105,109,101,115]),(str [116,111]),(str [118,97,114]),(str [119,104,101,114,101]),(str [119,104,105,108,101]),(str [119,105,116,104,105,110])]
def WG (s:be):Bool:=Dd s && !(keywords.any fun k=>Vv k s)
include hN in
theorem Zsd (s:be) (b:s.size<=4194304):Pp N s N (0:Int)=some (Pu (fun (c:UInt8) _=>PK (c.toNat:Int)) (bs s) 0):=by
 rw [W9] at b;rw [ZnA (xs:=bs s) (fun (c:UInt8) _=>PK (c.toNat:Int)) (F:=Pp N s) (e:=some true) (by omega)]
 ·cases Pu (fun (c:UInt8) _=>PK (c.toNat:Int)) (bs s) 0<;>rfl
 ·intro n k x a d;simp only [Pp,Zt3 a,cT,DI,d,ba,bS,Zqh,Xa (show k < 4611686018427387904 by omega)];cases PK (x.toNat:Int)<;>rfl
 ·intro n k a;simp only [Pp,Zt2 a,cF,ZdD]
theorem Zn0:bs (str [])=[]:=rfl
include hN in
theorem Zse (s:be) (a:s.size<=4194304):Gt N s=some (Dd s):=by
 unfold Gt;rw [Zsd hN s a,U6,U6,Zn0,W9,show XL s (0:Int)=XL s ((0:Nat):Int) from rfl,DI];unfold Dd;cases h:bs s with
 | nil=>rfl
 | cons x l =>
  have e:(x::l==([]:List UInt8))=false:=rfl;rw [e];simp only [cF,aX,ba,bS,Zka];have d:decide (((x::l).length:Int) > 16) = !decide (l.length < 16):=by
   by_cases q:l.length < 16
   ·rw [dT q];simp;omega
   ·rw [dF q];simp;omega
  rw [d];cases L7 (x.toNat:Int)<;>cases decide (l.length < 16)<;>rfl
theorem Zgj (f:α->Bool) (l:List α) (k:Nat):∃ i,lv (fun x (k:Nat) r=>bif f x then some (k:Int) else r) (some (-1)) l k=some i/\decide (i>=0)=l.any f:=by
 induction l generalizing k with
 | nil=>exact ⟨-1,rfl,rfl⟩
 | cons x l a =>
  show ∃ i,(bif f x then some (k:Int) else lv _ _ l (k+1))=some i/\_;rw [List.any_cons];cases f x
  ·exact a (k+1)
  ·exact ⟨k,rfl,by simp⟩
include hN in
theorem Zig (l:List be) (a:l.length<=4194304) (v:be):VW N l v=some (l.any fun x=>Vv x v):=by unfold VW;rw [Znp hN l a];have ⟨i,b,c⟩:=Zgj (fun x=>Vv x v) l 0;unfold Zgi;rw [b,bS,c]
include hN in
theorem Zmm (s:be) (b:s.size<=4194304):Vs N s=some (WG s):=by unfold Vs;rw [Zse hN s b];simp only [bS];have a:=Zig hN keywords (by decide) s;unfold keywords at a;rw [a];unfold WG keywords;simp only [bS];cases Dd s<;>rfl
end
section
def YP (l:List UInt8):be:=⟨l.toArray⟩
theorem XC (l:List UInt8):bs (YP l)=l:=by simp [bs,YP]
theorem Dr (s:be):YP (bs s)=s:=LA (XC _)
theorem ZnZ (s:be) (a b:Nat):bs (s.extract a b)=((bs s).take b).drop a:=by unfold bs;rw [ByteArray.data_extract,Array.toList_extract];simp [List.extract,List.drop_take]
variable {s:be} {x y:List UInt8}
theorem ZlY {z:List UInt8} {i j:Int} (h:bs s=x++(y++z)) (hi:i=(x.length:Int)) (a:j=((x.length+y.length:Nat):Int)):ssl s (some i) (some j)=some (YP y):=by
 subst hi a;have b:decide ((0:Int)<=(x.length:Int))=true:=by simp
 have c:decide ((x.length:Int)<=((x.length+y.length:Nat):Int))=true:=by simp;omega
 have d:decide (((x.length+y.length:Nat):Int)<=(s.size:Int))=true:=by rw [W9,h];simp;omega
 unfold ssl WJ;simp only [bc,b,c,d,Bool.and_self,cT,ba,bD];congr 1;apply LA;rw [ZnZ,XC,h,<- aA,bw (by simp),bY (by simp)];simp
theorem Zuh {j:Int} (h:bs s=x++y) (a:j=(x.length:Int)):ssl s none (some j)=some (YP x):=by have e:ssl s none (some j)=ssl s (some 0) (some j):=rfl;rw [e];exact ZlY (x:=[]) (y:=x) (z:=y) (by rw [h];rfl) rfl (by rw [a];simp)
theorem Zug {i:Int} (h:bs s=x++y) (hi:i=(x.length:Int)):ssl s (some i) none=some (YP y):=by have e:ssl s (some i) none=ssl s (some i) (some (s.size:Int)):=rfl;rw [e];exact ZlY (x:=x) (y:=y) (z:=[]) (by rw [h];simp) hi (by rw [W9,h];simp)
theorem Zqf {l:List UInt8} {c:UInt8} (h:0 < l.count c):∃ p q,l=p++c::q/\p.count c=0/\fO l c=(p.length:Int):=by
 induction l with
 | nil=>simp at h
 | cons b l g =>
  cases a:(b==c)
  ·rw [ep,a] at h;have ⟨p,q,d,e,f⟩:=g (by simpa using h);refine ⟨b::p,q,by rw [d];rfl,by rw [ep,e,a];rfl,?_⟩;unfold fO;rw [a,f,show ((p.length:Int)==-1)=false by simp];simp
  ·have:b=c:=by simpa using a
   subst this;exact ⟨[],l,rfl,by simp,by unfold fO;rw [a];rfl⟩
def WN (acc:List UInt8):List UInt8->List (List UInt8)
 | []=>[acc]
 | c::l=>if c=46 then acc::WN [] l else WN (acc++[c]) l
theorem DJ (a:List UInt8) (c:UInt8) (l:List UInt8):WN a (c::l)=if c=46 then a::WN [] l else WN (a++[c]) l:=rfl
theorem ZlS:∀ (l a:List UInt8),l.count 46=0->WN a l=[a++l]
 | [],a,_=>by simp [WN]
 | c::l,a,h=>by
  rw [ep] at h;have b:¬ c=46:=by intro b;subst b;simp at h
  rw [DJ,lh b,ZlS l _ (by omega)];simp
theorem ZlT:∀ (p a q:List UInt8),p.count 46=0->WN a (p++46::q)=(a++p)::WN [] q
 | [],a,q,_=>by rw [ar,DJ,lg rfl,bn]
 | c::p,a,q,h=>by
  rw [ep] at h;have b:¬ c=46:=by intro b;subst b;simp at h
  show WN a (c::(p++46::q))=_;rw [DJ,lh b,ZlT p _ q (by omega)];simp
theorem Zf9:∀ (l a:List UInt8),(WN a l).length=l.count 46+1
 | [],a=>by simp [WN]
 | c::l,a=>by
  rw [DJ,ep];split
  ·rename_i h;subst h;rw [Zf,Zf9 l];simp
  ·rename_i h;rw [Zf9 l];simp [h]
variable {N:Nat}
theorem Zqg (s:be):Mx N s (str [46])=some (fO (bs s) 46):=by
 unfold Mx z173;have b:(((str [46]).size:Int)==0)=false:=rfl;have c:(((str [46]).size:Int)==1)=true:=rfl;have d:XL (str [46]) (0:Int)=some 46:=by rw [show (0:Int)=((0:Nat):Int) from rfl,DI];rfl
 rw [b,c,d];simp only [cT,cF,bS,Ba];have e:Ze4 s 46=fO (bs s) 46:=Go.Lib.firstIdx_eq s 46;rw [e,U6,U6];cases a:(bs (str [46])==bs s)
 ·rfl
 ·have a:bs (str [46])=bs s:=l8 a;rw [<- a];rfl
theorem ZoE (s:be):Bk N s (str [46])=some (((bs s).count 46:Nat):Int):=by
 unfold Bk;have a:(((str [46]).size:Int)==0)=false:=rfl;have b:(((str [46]).size:Int)==1)=true:=rfl;have c:XL (str [46]) (0:Int)=some 46:=by rw [show (0:Int)=((0:Nat):Int) from rfl,DI];rfl
 rw [a,b,c];simp only [cT,cF,bS];congr 1;unfold Zax;rw [show s.foldl (fun (n:Int) x=>if x==Kx.byteOf 46 then n+1 else n) ((0:Nat):Int)=(bs s).foldl (fun (n:Int) x=>if x==Kx.byteOf 46 then n+1 else n) ((0:Nat):Int) from Go.Lib.foldl_data _ _ _,Go.Lib.count_foldl];simp [Go.Lib.countByte,Kx.byteOf]
theorem ZpS (s d:be) (e:d=str [46]) (Xm:Nat) (I:Xm<=s.size) (L:s.size<=4194304) :
  ∀ (n:Nat) (a:be) (D R:List be),(bs a).count 46 < n->(bs a).length<=4194304->D.length+(bs a).count 46=Xm->R.length=(bs a).count 46+1 ->
  Pc N s d (0:Int) ((Xm+1:Nat):Int) n a (D++R) (D.length:Int)=some (D++(WN [] (bs a)).map YP):=by
 subst e;intro n;induction n with
 | zero=>intro a D R h;omega
 | succ n H =>
  intro a D R M u O j;have w:Yh ((s.size:Int)+1)=((s.size+1:Nat):Int):=Xa (by omega);have b:VA ((Xm+1:Nat):Int) ((s.size+1:Nat):Int)=((Xm+1:Nat):Int):=by unfold VA;rw [lh (by omega)]
  have g:Yh (((Xm+1:Nat):Int)-1)=(Xm:Int):=by rw [Wp (by omega) (by omega)];omega
  have k:(bs a).count 46=0->HY a (D++R) (D.length:Int)=some (D++(WN [] (bs a)).map YP):=by intro v;rw [v] at j;obtain ⟨r,rfl⟩:=List.length_eq_one_iff.mp j;unfold HY;rw [QI (A:=D) (x:=r) (B:=[]) rfl rfl,bS,Zlv (A:=D) (x:=r) (B:=[]) rfl rfl,Xa (by omega),L8 (A:=D++[a]) (B:=[]) (by simp) (by simp),ZlS _ _ v];simp [Dr]
  by_cases G:D.length < Xm
  ·have m:decide ((D.length:Int) < (Xm:Int))=true:=by simp;omega
   have ⟨p,q,f,t,E⟩:=Zqf (l:=bs a) (c:=46) (by omega);have z:(bs a).length=p.length+(q.length+1):=by rw [f];simp
   have C:(bs a).count 46=q.count 46+1:=by rw [f,List.count_append,ep,t];simp
   obtain ⟨r,R',rfl⟩:∃ r R',R=r::R':=by
    cases R with
    | nil=>simp at j
    | cons r R'=>exact ⟨r,R',rfl⟩
   simp only [Zf] at j;have i:decide ((p.length:Int) < 0)=false:=by simp
   have F:Yh ((p.length:Int)+0)=(p.length:Int):=by rw [Wp (by omega) (by omega)];omega
   have o:Yh ((p.length:Int)+((str [46]).size:Int))=((p++[46]:List UInt8).length:Int):=by rw [show ((str [46]).size:Int)=1 from rfl,Xa (by omega)];simp
   simp only [Pc,w,b,g,m,cT,Zqg,E,bS,i,cF,F,o];rw [Zuh f rfl,bS,QI (A:=D) (x:=r) (B:=R') rfl rfl,bS,Zug (x:=p++[46]) (y:=q) (by rw [f];simp) rfl,bS,Zlv (A:=D) (x:=r) (B:=R') rfl rfl,Xa (by omega)];have:=H (YP q) (D++[YP p]) R' (by rw [XC];omega) (by rw [XC];omega) (by rw [XC];simp;omega) (by rw [XC];omega);rw [XC] at this;rw [show ((D.length+1:Nat):Int)=((D++[YP p]).length:Int) by simp,show D++YP p::R'=(D++[YP p])++R' by simp,this,f,ZlT _ _ _ t];simp
  ·have m:decide ((D.length:Int) < (Xm:Int))=false:=by simp;omega
   simp only [Pc,w,b,g,m,cF];exact k (by omega)
theorem Zua (hN:4194304 < N) (s:be) (c:s.size<=1000000):Be N s (str [46])=some ((WN [] (bs s)).map YP):=by
 unfold Be ZcM;have d:((-1:Int)==0)=false:=rfl;have e:((str [46]).toList==(str []).toList)=false:=by rw [U6,U6];rfl
 have f:decide ((-1:Int) < 0)=true:=rfl;have g:(bs s).count 46<=(bs s).length:=jn;rw [d,e,f,ZoE];simp only [cT,cF,bS,Bi];rw [W9] at c;rw [Xa (by omega)];have h:Yh ((s.size:Int)+1)=((s.size+1:Nat):Int):=Xa (by rw [W9];omega);have b:VA (((bs s).count 46+1:Nat):Int) ((s.size+1:Nat):Int)=(((bs s).count 46+1:Nat):Int):=by unfold VA;rw [lh (by rw [W9];omega)]
 have m:W8 (str []) (((bs s).count 46+1:Nat):Int) (((bs s).count 46+1:Nat):Int)=some (aP ((bs s).count 46+1) (str [])):=by
  unfold W8;have i:decide ((0:Int)<=(((bs s).count 46+1:Nat):Int))=true:=by simp;omega
  have j:decide ((((bs s).count 46+1:Nat):Int)<=4294967296)=true:=by simp;omega
  simp only [i,j,Int.le_refl,decide_true,Bool.and_self,cT];simp
 rw [h,b,m,bS];have:=ZpS (N:=N) s (str [46]) rfl ((bs s).count 46) (by rw [W9];omega) (by rw [W9];omega) N s [] (aP ((bs s).count 46+1) (str [])) (by omega) (by omega) (by simp) (by simp);rw [ar] at this;have a:Pc N s (str [46]) (0:Int) (((bs s).count 46+1:Nat):Int) N s (aP ((bs s).count 46+1) (str [])) (0:Int)=some ([]++(WN [] (bs s)).map YP):=this;rw [a];simp
def UZ (s:be):Bool:=decide (s.size<=50) && (WN [] (bs s)).all fun p=>WG (YP p)
theorem ZfK:∀ (l a:List UInt8),∀ p∈WN a l,p.length<=a.length+l.length
 | [],a,p,h=>by simp [WN] at h;subst h;simp
 | c::l,a,p,h=>by
  rw [DJ] at h;split at h
  ·rcases aW.mp h with h | h
   ·subst h;simp
   ·have:=ZfK l [] p h;simp at this;simp;omega
  ·have:=ZfK l _ p h;simp at this;simp;omega
theorem ZsN (hN:4194304 < N) (s:be):Qm N s=some (UZ s):=by
 unfold Qm UZ;by_cases h:s.size<=50
 ·rw [dT (show (s.size:Int)<=50 by omega),dT h,cT,Zua hN s (by omega),bS];unfold ZdF Zcr;have m:(WN [] (bs s)).length<=51:=by rw [Zf9];have:(bs s).count 46<=(bs s).length:=jn;rw [W9] at h;omega
  rw [Yg ((WN [] (bs s)).map YP) (by simp;omega) (fun x k r=>bif !(WG x) then some k else r) (MC N ((WN [] (bs s)).map YP)) (some (-1)) hN]
  ·have ⟨i,e,f⟩:=Zgj (fun x => !(WG x)) ((WN [] (bs s)).map YP) 0;rw [e,bS,f,bS,List.any_map,List.not_any_eq_all_not];simp [Function.comp_def]
  ·intro n k x a d;have b:=Zb d;obtain ⟨p,g,rfl⟩:=aQ.mp b;have c:=ZfK _ _ p g;have j:=Zmm hN (YP p) (by rw [W9,XC];rw [W9] at h;simp at c;omega);simp only [MC,YY a,YL,d,cT,bS,z146,j]
  ·intro n k a;simp only [MC,YZ a,cF,Zct]
 ·rw [dF (show ¬ (s.size:Int)<=50 by omega),dF h];rfl
end
section
mutual
def oI:Xq->Yj
 | ⟨k,f,t,n,a,x,b⟩=>⟨k,f,t,n,a,x,WU b⟩
def oL:List Xq->List Yj
 | []=>[]
 | x::l=>oI x::oL l
def WU:List (List Xq)->List (List Yj)
 | []=>[]
 | x::l=>oL x::WU l
end
theorem Zbi:∀ l,oL l=l.map oI
 | []=>by simp only [oL,ay]
 | x::l=>by simp only [oL,aJ,Zbi l]
theorem Zbg:∀ l,WU l=l.map oL
 | []=>by simp only [WU,ay]
 | x::l=>by simp only [WU,aJ,Zbg l]
mutual
def dI:Yj->Nat
 | ⟨_,_,_,_,_,_,b⟩=>VK b+1
def dL:List Yj->Nat
 | []=>0
 | x::l=>max (dI x) (dL l)
def VK:List (List Yj)->Nat
 | []=>0
 | x::l=>max (dL x) (VK l)
end
mutual
def bI:Yj->Prop
 | ⟨_,_,t,_,_,_,b⟩=>t.length<=4194304/\b.length<=4194304/\Qu b
def bL:List Yj->Prop
 | []=>True
 | x::l=>bI x/\bL l
def Qu:List (List Yj)->Prop
 | []=>True
 | x::l=>x.length<=4194304/\bL x/\Qu l
end
theorem RC:∀ {l:List Yj} {x},x∈l->dI x<=dL l
 | y::l,x,h=>by
  simp only [dL];rcases aW.1 h with rfl | h
  ·omega
  ·have:=RC h;omega
theorem SL:∀ {l:List (List Yj)} {x},x∈l->dL x<=VK l
 | y::l,x,h=>by
  simp only [VK];rcases aW.1 h with rfl | h
  ·omega
  ·have:=SL h;omega
theorem RB (x:Yj):dI x=VK x.ZD+1:=by cases x;simp only [dI]
theorem Rv:∀ {l:List Yj} {x},bL l->x∈l->bI x
 | y::l,x,hb,h=>by
  simp only [bL] at hb;rcases aW.1 h with rfl | h
  ·exact hb.1
  ·exact Rv hb.2 h
theorem Ru:∀ {l:List (List Yj)} {x},Qu l->x∈l->x.length<=4194304/\bL x
 | y::l,x,hb,h=>by
  simp only [Qu] at hb;rcases aW.1 h with rfl | h
  ·exact ⟨hb.1,hb.2.1⟩
  ·exact Ru hb.2.2 h
theorem Qt (x:Yj):bI x↔x.To.length<=4194304/\x.ZD.length<=4194304/\Qu x.ZD:=by cases x;simp only [bI]
theorem ZkJ (x:Xq):oI x=⟨x.Zt,x.ZB,x.To,x.Zu,x.As,x.ZC,WU x.ZD⟩:=by cases x;simp only [oI]
def Dq (o:Option Bool) (P:Prop):Prop:=∃ r,o=some r/\(r=true↔P)
theorem Dq.iff {o P Q} (h:Dq o P) (k:P↔Q):Dq o Q:=by have ⟨r,a,b⟩:=h;exact ⟨r,a,b.trans k⟩
theorem Dq.tr:Dq (some true) True:=⟨true,rfl,by simp⟩
theorem Dq.fa:Dq (some false) False:=⟨false,rfl,by simp⟩
theorem Dq.bool (b:Bool):Dq (some b) (b=true):=⟨b,rfl,fj⟩
variable {C P:Prop}
theorem Dq.cA {c:Bool} {o:Option Bool} (a:c=true↔C) (h:C->Dq o P):Dq (bif c then o else some false) (C/\P):=by
 cases c with
 | false=>exact ⟨false,rfl,by simp at a ⊢;intro h;exact absurd h a⟩
 | true =>
  have b:=a.1 rfl;have ⟨r,d,e⟩:=h b;exact ⟨r,d,by rw [e];exact ⟨fun p=>⟨b,p⟩,fun p=>p.2⟩⟩
theorem Dq.cN {c:Bool} {o:Option Bool} (a:c=false↔C) (h:C->Dq o P):Dq (bif c then some false else o) (C/\P):=by
 cases c with
 | true=>exact ⟨false,rfl,by simp at a ⊢;intro h;exact absurd h a⟩
 | false =>
  have b:=a.1 rfl;have ⟨r,d,e⟩:=h b;exact ⟨r,d,by rw [e];exact ⟨fun p=>⟨b,p⟩,fun p=>p.2⟩⟩
variable {o1:Option Bool}
theorem Dq.bA {a:Option Bool} (b:Dq o1 C) (h:C->Dq a P):Dq (o1.bind fun x=>bif x then a else some false) (C/\P):=by have ⟨r,e,c⟩:=b;rw [e];exact Dq.cA c h
theorem Dq.bN {a:Option Bool} (b:Dq o1 C) (h:C->Dq a P):Dq (o1.bind fun x=>bif (!x) then some false else a) (C/\P):=by have ⟨r,e,c⟩:=b;rw [e];exact Dq.cN (by rw [<- c];cases r<;>simp) h
theorem Dq.bS (a:Dq o1 C):Dq (o1.bind fun x=>some x) C:=by have ⟨r,e,b⟩:=a;exact ⟨r,by rw [e];rfl,b⟩
theorem ZkB {a b:Int}:(a != b)=false↔a=b:=by simp
theorem Us {a b:Int}:(a==b)=true↔a=b:=by simp
theorem UG {a b:be}:(a.toList==b.toList)=true↔a=b:=ZeY a b
theorem Zsp {a b:be}:(!(a.toList==b.toList))=false↔a=b:=by rw [<- ZeY a b];unfold Vv;cases (a.toList==b.toList)<;>simp
theorem YC {α:Type} {l:List α} {i:Nat} {x:α} (h:l[i]? = some x):i < l.length:=(aE.1 h).1
theorem ZoS {α β:Type} {xs:List α} {ys:List β} (p:xs.length=ys.length) (q:xs.length<=4194304) {R:α->β->Prop} (F:Nat->Int->Option Bool) {E:Prop}
  (g:∀ (n k:Nat) x y Q,k < 4194304->xs[k]? = some x->ys[k]? = some y->Dq (F n ((k+1:Nat):Int)) Q->Dq (F (n+1) (k:Int)) (R x y/\Q))
  (j:∀ (n k:Nat),xs.length<=k->Dq (F (n+1) (k:Int)) E) {N:Nat} (hN:xs.length < N):Dq (F N (0:Int)) ((∀ (i:Nat) (x:α) (y:β),xs[i]? = some x->ys[i]? = some y->R x y)/\E):=by
 have key:∀ d k n,xs.length-k=d->d < n->Dq (F n (k:Int)) ((∀ (i:Nat) (x:α) (y:β),k<=i->xs[i]? = some x->ys[i]? = some y->R x y)/\E):=by
  intro d;induction d with
  | zero =>
   intro k n h m;obtain ⟨n,rfl⟩:=pS n (by omega);refine (j n k (by omega)).iff ⟨fun a=>⟨fun i x y hi b _=>?_,a⟩,fun a=>a.2⟩;have:=YC b;omega
  | succ d o =>
   intro k n h m;obtain ⟨n,rfl⟩:=pS n (by omega);have f:k < xs.length:=by omega
   have e:k < ys.length:=by omega
   refine (g n k _ _ _ (by omega) (Za f) (Za e) (o (k+1) n (by omega) (by omega))).iff ⟨fun a=>⟨fun i x y hi b c=>?_,a.2.2⟩,fun a=>⟨?_,fun i x y hi b c=>a.1 i x y (by omega) b c,a.2⟩⟩
   ·rcases Nat.eq_or_lt_of_le hi with rfl | hi
    ·rw [Za f] at b;rw [Za e] at c;cases b;cases c;exact a.1
    ·exact a.2.1 i x y hi b c
   ·exact a.1 k _ _ (Zq _) (Za f) (Za e)
 refine (key xs.length 0 N rfl hN).iff ⟨fun h=>⟨fun i x y b c=>h.1 i x y (Nat.zero_le _) b c,h.2⟩,fun h=>⟨fun i x y _ b c=>h.1 i x y b c,h.2⟩⟩
variable {N:Nat} (hN:4194304 < N)
def bM (m:Ys):Prop:=m.Zz.length<=4194304/\m.ZA.length<=4194304
structure bP (p:Ym):Prop where
 r:p.ZE.length<=4194304
 m:p.ZF.length<=4194304
 ms:∀ x∈p.ZF,bM x
 l:p.ZG.length<=4194304
 b:bL p.ZG
end
variable {N:Nat}
theorem TZ {σ:Type} (xs:List α) (F:Nat->σ->Int->γ) (b:σ->α->σ) (f:σ->γ) (e:Nat->σ->Prop)
  (i:∀ (n k:Nat) s x,e k s->xs[k]? = some x->F (n+1) s (k:Int)=F n (b s x) ((k+1:Nat):Int)/\e (k+1) (b s x))
  (j:∀ (n k:Nat) s,e k s->xs.length<=k->F (n+1) s (k:Int)=f s) {s:σ} (hN:xs.length < N) (m:e 0 s) :
  F N s (0:Int)=f (xs.foldl b s)/\e xs.length (xs.foldl b s):=by
 have key:∀ (l:List α) (k n:Nat) (s:σ),xs.drop k=l->l.length < n->e k s->F n s (k:Int)=f (l.foldl b s)/\e (k+l.length) (l.foldl b s):=by
  intro l;induction l with
  | nil =>
   intro k n s h g hi;obtain ⟨n,rfl⟩:=pS n (by simp at g;omega);exact ⟨j n k s hi (XP h),hi⟩
  | cons x l u =>
   intro k n s h g hi;obtain ⟨n,rfl⟩:=pS n (by simp at g;omega);have ⟨a,c,d⟩:=XW h;have ⟨o,p⟩:=i n k s x hi c;have ⟨q,t⟩:=u (k+1) n _ d (by simp at g;omega) p;refine ⟨o.trans q,?_⟩;rw [Zf,show k+(l.length+1)=k+1+l.length by omega];exact t
 have:=key xs 0 N s rfl hN m;rw [au] at this;exact this
mutual
def cI:Yj->Nat
 | ⟨_,_,_,_,_,_,b⟩=>XA b+1
def cL:List Yj->Nat
 | []=>0
 | x::l=>cI x+cL l
def XA:List (List Yj)->Nat
 | []=>0
 | x::l=>cL x+XA l
end
theorem PA (x:Yj):cI x=XA x.ZD+1:=by cases x;simp only [cI]
theorem LL (h:xs[k]? = some x):xs.drop k=x::xs.drop (k+1):=by obtain ⟨a,rfl⟩:=aE.1 h;exact List.drop_eq_getElem_cons a
theorem ZhV:∀ (l:List Xq) (s:Int),l.foldl (fun s x=>s+(cI (oI x):Int)) s=s+(cL (oL l):Int)
 | [],s=>by simp [oL,cL]
 | x::l,s=>by rw [eh,ZhV l];simp only [oL,cL];push_cast;omega
theorem ZhU:∀ (l:List (List Xq)) (s:Int),l.foldl (fun s x=>s+(cL (oL x):Int)) s=s+(XA (WU l):Int)
 | [],s=>by simp [WU,XA]
 | x::l,s=>by rw [eh,ZhU l];simp only [WU,XA];push_cast;omega
theorem ZfA (l:List (List Xq)):(WU l).length=l.length:=by rw [Zbg,aM]
theorem Hd (l:List Xq):(oL l).length=l.length:=by rw [Zbi,aM]
theorem Zbh {l:List Xq} {x} (h:x∈l):oI x∈oL l:=by rw [Zbi];exact aQ.2 ⟨x,h,rfl⟩
theorem Zbf {l:List (List Xq)} {x} (h:x∈l):oL x∈WU l:=by rw [Zbg];exact aQ.2 ⟨x,h,rfl⟩
theorem Du (x:Xq):(oI x).ZD=WU x.ZD:=by rw [ZkJ]
theorem Zez:∀ (N:Nat) (xs:List Xq),4194306+dL (oL xs)<=N->xs.length<=4194304->bL (oL xs)->cL (oL xs)<=1099511627776->Q7 N xs=some ((cL (oL xs):Nat):Int)
 | 0,_,h,_,_,_=>by omega
 | N+1,xs,h,hs,hb,hc=>by
  show D6 N (Q7 N) xs=_;unfold D6;have hN:4194304 < N:=by omega
  have f:∀ (k:Nat) (x:Xq) (s:Int) (ag:Int->Int->Option Int),xs[k]? = some x->0<=s->s+(XA (WU x.ZD):Int)<=1099511627776 ->
    Q8 (Q7 N) xs (k:Int) ag N s (0:Int)=ag (s+(XA (WU x.ZD):Int)) ((k+1:Nat):Int):=by
   intro k x s ag a w p;have u:=Zb a;have i:=(Qt _).1 (Rv hb (Zbh u));rw [Du,ZfA] at i;have q:=RC (Zbh u);rw [RB,Du] at q;have t:=YC a;have:=(TZ x.ZD (Q8 (Q7 N) xs (k:Int) ag) (fun s b=>s+(cL (oL b):Int)) (fun s=>ag s ((k+1:Nat):Int))
    (fun j s=>0<=s/\s+(XA (WU (x.ZD.drop j)):Int)<=1099511627776) (fun n j s b hi c=>?_) (fun n j s hi c=>?_) (N:=N) (s:=s) (by omega) ⟨w,by rw [dZ];exact p⟩).1
   ·rw [this,ZhU]
   ·have ⟨v,d⟩:=hi;rw [LL c] at d;simp only [WU,XA] at d;have m:=Zb c;have g:=Ru i.2.2 (Zbf m);have y:=SL (Zbf m);rw [Hd] at g;have e:=Zez N b (by omega) g.1 g.2 (by omega);refine ⟨?_,by omega,by push_cast at d;omega⟩;simp only [Q8,YL,a,bS,YY (YC c),cT,c,e];rw [Wp (by omega) (by omega),Xa (by have:=YC c;omega)]
   ·simp only [Q8,YL,a,bS,YZ c,cF,Zb8];rw [Xa (by omega)]
  have:=(TZ xs (Qe N (Q7 N) xs) (fun s x=>s+(cI (oI x):Int)) (fun s=>some s)
   (fun j s=>0<=s/\s+(cL (oL (xs.drop j)):Int)<=1099511627776) (fun n k s x hi a=>?_) (fun n k s hi t=>?_) (N:=N) (s:=0) (by omega) ⟨by omega,by rw [dZ];omega⟩).1
  ·rw [this,ZhV];simp
  ·have ⟨v,d⟩:=hi;rw [LL a] at d;simp only [oL,cL] at d;have o:=PA (oI x);rw [Du] at o;refine ⟨?_,by omega,by push_cast at d;omega⟩;simp only [Qe,YY (YC a),cT];rw [Wp (by omega) (by omega),f k x (s+1) _ a (by omega) (by omega),o];congr 1;push_cast;omega
  ·simp only [Qe,YZ t,cF,Zb7]
def oA (a:Ls):Xw:=⟨a.Zx,a.Op,a.Zy⟩
def oM (m:Ve):Ys:=⟨m.Zu,m.Zz,m.ZA.map oA⟩
def oP (p:Xp):Ym:=⟨p.Zu,p.ZE,p.ZF.map oM,oL p.ZG⟩
theorem Q0 {β:Type} (f:α->β):∀ (l:List α) (s:List β),l.foldl (fun s x=>s++[f x]) s=s++l.map f
 | [],s=>by simp
 | x::l,s=>by rw [eh,Q0 f l,aJ];simp
theorem ZkU:∀ (N:Nat) (xs:List Xq),4194306+dL (oL xs)<=N->xs.length<=4194304->bL (oL xs)->MM N xs=some (oL xs)
 | 0,_,h,_,_=>by omega
 | N+1,xs,h,hs,hb=>by
  show Bp N (MM N) xs=_;unfold Bp;have hN:4194304 < N:=by omega
  have c:∀ (k:Nat) (x:Xq) (a:List Yj) (ag:List Yj->Int->Option (List Yj)),xs[k]? = some x->a.length<=4194304 ->
    Ph (MM N) a (k:Int) ag x N [] (0:Int)=ag (a++[oI x]) ((k+1:Nat):Int):=by
   intro k x a ag f t;have u:=Zb f;have i:=(Qt _).1 (Rv hb (Zbh u));rw [Du,ZfA] at i;have p:=RC (Zbh u);rw [RB,Du] at p;have o:=YC f;have:=(TZ x.ZD (Ph (MM N) a (k:Int) ag x) (fun s b=>s++[oL b]) (fun s=>Bq a (k:Int) ag x s)
    (fun j s=>s.length=j) (fun n j s b hi g=>?_) (fun n j s hi g=>?_) (N:=N) (s:=[]) (by omega) rfl).1
   ·rw [this,Q0,ar,<- Zbg];unfold Bq;rw [X6 (by simp;omega),bS,Xa (by omega),ZkJ]
   ·have m:=Zb g;have d:=Ru i.2.2 (Zbf m);have v:=SL (Zbf m);rw [Hd] at d;have e:=ZkU N b (by omega) d.1 d.2;have q:=YC g;refine ⟨?_,by simp [hi]⟩;simp only [Ph,YY q,cT,YL,g,bS,e];rw [X6 (by simp;omega),bS,Xa (by omega)]
   ·simp only [Ph,YZ g,cF]
  have:=(TZ xs (Qi N (MM N) xs) (fun s x=>s++[oI x]) (fun s=>some s)
   (fun j s=>s.length=j) (fun n k s x hi f=>?_) (fun n k s hi o=>?_) (N:=N) (s:=[]) (by omega) rfl).1
  ·rw [this,Q0,ar,<- Zbi]
  ·have o:=YC f;refine ⟨?_,by simp [hi]⟩;simp only [Qi,YY o,cT,YL,f,bS];rw [c k x s _ f (by omega)]
  ·simp only [Qi,YZ o,cF,ZcZ]
section
variable {N:Nat} (hN:4194304 < N)
def RP (p:Xp):Prop:=bP (oP p)
theorem ZsA (m:Ve):(oM m).ZA.length=m.ZA.length:=by show (m.ZA.map oA).length=_;simp
theorem Znt {p:Xp} (h:RP p) {m} (b:m∈p.ZF):m.Zz.length<=4194304/\m.ZA.length<=4194304:=by have:=h.ms (oM m) (aQ.2 ⟨m,b,rfl⟩);have a:=this.2;rw [ZsA] at a;exact ⟨this.1,a⟩
theorem Zhv {p:Xp} (h:RP p):p.ZF.length<=4194304:=by
 have:=h.m;have e:(oP p).ZF.length=p.ZF.length:=by show (p.ZF.map oM).length=_;simp
 omega
theorem Zhu {p:Xp} (h:RP p):p.ZG.length<=4194304:=by have:=h.l;have e:(oP p).ZG.length=p.ZG.length:=Hd _;omega
include hN in
theorem ZsL (xs:List Xp) (q:xs.length<=4194304) (k:∀ p∈xs,RP p/\4194306+dL (oL p.ZG)<=N):D7 N xs=some (xs.map oP):=by
 unfold D7;have i3:∀ (d:List Ys) (j:Nat) (ag:List Ys->Int->Option (List Ym)) (m:Ve),d.length<=4194304->j < 4194304->m.ZA.length<=4194304 ->
   Q9 d (j:Int) ag m N [] (0:Int)=ag (d++[oM m]) ((j+1:Nat):Int):=by
  intro d j ag m e g h;have:=(TZ m.ZA (Q9 d (j:Int) ag m) (fun s a=>s++[oA a]) (fun s=>Bc d (j:Int) ag m s) (fun i s=>s.length=i)
   (fun n i s a hi c=>?_) (fun n i s hi c=>?_) (N:=N) (s:=[]) (by omega) rfl).1
  ·rw [this,Q0,ar];unfold Bc;rw [X6 (by simp;omega),bS,Xa (by omega)];rfl
  ·have f:=YC c;refine ⟨?_,by simp [hi]⟩;simp only [Q9,YY f,cT,YL,c,bS];rw [X6 (by simp;omega),bS,Xa (by omega)];rfl
  ·simp only [Q9,YZ c,cF]
 have i2:∀ (ps:List Ym) (j:Nat) (ag:List Ym->Int->Option (List Ym)) (p:Xp) (b:List Yj),ps.length<=4194304->j < 4194304->RP p ->
   Rc N ps (j:Int) ag p b N [] (0:Int)=ag (ps++[⟨p.Zu,p.ZE,p.ZF.map oM,b⟩]) ((j+1:Nat):Int):=by
  intro ps j ag p b e g h;have o:=Zhv h;have:=(TZ p.ZF (Rc N ps (j:Int) ag p b) (fun s a=>s++[oM a]) (fun s=>Bb ps (j:Int) ag p b s) (fun i s=>s.length=i)
   (fun n i s a hi c=>?_) (fun n i s hi c=>?_) (N:=N) (s:=[]) (by omega) rfl).1
  ·rw [this,Q0,ar];unfold Bb;rw [X6 (by simp;omega),bS,Xa (by omega)]
  ·have f:=YC c;refine ⟨?_,by simp [hi]⟩;simp only [Rc,YY f,cT,YL,c,bS];rw [i3 s i _ a (by omega) (by omega) (Znt h (Zb c)).2]
  ·simp only [Rc,YZ c,cF]
 have:=(TZ xs (Sp N xs) (fun s a=>s++[oP a]) (fun s=>some s) (fun i s=>s.length=i)
   (fun n i s a hi c=>?_) (fun n i s hi c=>?_) (N:=N) (s:=[]) (by omega) rfl).1
 ·rw [this,Q0,ar]
 ·have f:=YC c;refine ⟨?_,by simp [hi]⟩;have ⟨e,g⟩:=k a (Zb c);simp only [Sp,YY f,cT,YL,c,bS];rw [ZkU N a.ZG g (Zhu e) e.b,bS,i2 s i _ a _ (by omega) (by omega) e];rfl
 ·simp only [Sp,YZ c,cF,Zck]
end
section
variable {N:Nat} (hN:4194304 < N)
def V2 (l:List Xp):Nat:=(l.map fun p=>cL (oL p.ZG)).sum
def PU (l:List Xp):Nat:=(l.map fun p=>p.ZF.length).sum
def Zd7 (p:Xp):Prop:=∀ m∈p.ZF,m.Zz.length<=8/\m.ZA.length<=10
def Zhl (l:List Xp):Prop:=(∀ p∈l,Zd7 p)/\l.length<=12/\V2 l<=320/\PU l<=60
theorem L3 {a b:Nat}:decide ((a:Int) > (b:Int))=false↔a<=b:=by simp
include hN in
theorem Zpy (l:List Xp) (V:l.length<=4194304) (H:∀ p∈l,RP p/\4194306+dL (oL p.ZG)<=N) (W:V2 l<=1099511627776):Dq (DW N l) (Zhl l):=by
 unfold DW;have key:∀ (e:List Xp) (k n:Nat) (s t:Nat),l.drop k=e->e.length < n->s+V2 e<=1099511627776->t<=k * 4194304 ->
   Dq (S9 N l n (s:Int) (t:Int) (k:Int)) ((∀ p∈e,Zd7 p)/\l.length<=12/\s+V2 e<=320/\t+PU e<=60):=by
  intro e;induction e with
  | nil =>
   intro k n s t h w A P;obtain ⟨n,rfl⟩:=pS n (by simp at w;omega);simp only [S9,YZ (XP h),cF,ZbX];refine (Dq.cA (C:=l.length<=12) (by rw [lU];omega) fun _=>Dq.cA (C:=s<=320) (by rw [lU];omega) fun _=>Dq.bool _).iff ?_;simp only [lU,V2,PU,ay,List.sum_nil,Nat.add_zero,List.not_mem_nil,false_implies,implies_true,true_and];omega
  | cons p e U =>
   intro k n s t h w A P;obtain ⟨n,rfl⟩:=pS n (by simp at w;omega);have ⟨a,c,d⟩:=XW h;have B:=Zb c;have ⟨y,M⟩:=H p B;have S:V2 (p::e)=cL (oL p.ZG)+V2 e:=by simp [V2]
   have T:PU (p::e)=p.ZF.length+PU e:=by simp [PU]
   have D:=Zhv y;simp only [S9,YY a,cT,YL,c,bS];rw [Zez N p.ZG M (Zhu y) y.b (by omega),bS];refine (ZoS (xs:=p.ZF) (ys:=p.ZF) rfl D (R:=fun m _=>m.Zz.length<=8/\m.ZA.length<=10)
    (Mo l (s:Int) (t:Int) (k:Int) (S9 N l n) ((cL (oL p.ZG):Nat):Int) p)
    (E:=(∀ p∈e,Zd7 p)/\l.length<=12/\s+cL (oL p.ZG)+V2 e<=320/\t+p.ZF.length+PU e<=60) (fun I j u v Q F g X L=>?_) (fun I j F=>?_) (N:=N) (by omega)).iff ?_
   ·simp only [Mo,YL,c,bS,YY (YC g),cT,g,Xa (show j < 4611686018427387904 by omega)];refine (Dq.cN (C:=u.Zz.length<=8) (L3 (b:=8)) fun _=>Dq.cN (C:=u.ZA.length<=10) (L3 (b:=10)) fun _=>L).iff ⟨fun q=>⟨⟨q.1,q.2.1⟩,q.2.2⟩,fun q=>⟨q.1.1,q.1.2,q.2⟩⟩
   ·simp only [Mo,YL,c,bS,YZ F,cF,ZbY];rw [Wp (by omega) (by omega),Wp (by omega) (by omega),Xa (by omega)];have:=U (k+1) n (s+cL (oL p.ZG)) (t+p.ZF.length) d (by simp at w;omega) (by omega) (by omega);push_cast at this;exact this
   ·rw [S,T];constructor
    ·rintro ⟨o,z,G,O,Y⟩;refine ⟨fun x f=>?_,G,by omega,by omega⟩;rcases aW.1 f with rfl | f
     ·intro m B;have ⟨i,hi⟩:=aZ.1 B;exact o i m m hi hi
     ·exact z x f
    ·rintro ⟨o,z,G,O⟩;exact ⟨fun i u v g _=>o p (Zj ..) u (Zb g),fun x f=>o x (Zi _ f),z,by omega,by omega⟩
 have:=key l 0 N 0 0 rfl (by omega) (by omega) (by omega);refine this.iff ?_;unfold Zhl;simp only [au]
end
def XY (p:α->Bool) (xs:List α):Int:=match xs.findIdx? p with
 | some i=>(i:Int)
 | none=>-1
theorem Px (p:α->Bool) (xs:List α):decide (XY p xs>=0)=xs.any p:=by
 unfold XY;rw [<- List.findIdx?_isSome];cases h:xs.findIdx? p with
 | none=>simp
 | some i=>simp
theorem Vw (xs:List α) (p:α->Bool) (F:Nat->Int->Option Int)
  (e:∀ (n k:Nat) x,xs[k]? = some x->F (n+1) (k:Int)=bif p x then some (k:Int) else F n ((k+1:Nat):Int))
  (f:∀ (n k:Nat),xs.length<=k->F (n+1) (k:Int)=some (-1)) (hN:xs.length < N):F N (0:Int)=some (XY p xs):=by
 have key:∀ (l:List α) (k n:Nat),xs.drop k=l->l.length < n->F n (k:Int)=some (match l.findIdx? p with | some i=>((k+i:Nat):Int) | none=>-1):=by
  intro l;induction l with
  | nil =>
   intro k n h b;obtain ⟨n,rfl⟩:=pS n (by simp at b;omega);rw [f n k (XP h)];rfl
  | cons x l g =>
   intro k n h b;obtain ⟨n,rfl⟩:=pS n (by simp at b;omega);have ⟨a,c,d⟩:=XW h;rw [e n k x c,List.findIdx?_cons];cases p x with
   | true=>simp
   | false =>
    rw [cF,g (k+1) n d (by simp at b;omega),lh (by simp)];cases l.findIdx? p with
    | none=>rfl
    | some i =>
     show some (((k+1+i:Nat):Int))=some (((k+(i+1):Nat):Int));rw [show k+1+i=k+(i+1) by omega]
 have:=key xs 0 N rfl hN;rw [show ((0:Nat):Int)=0 from rfl] at this;rw [this];unfold XY;cases xs.findIdx? p with
 | none=>rfl
 | some i=>simp
theorem XQ {n:Nat} (h:n < 9223372036854775807):Yh ((n:Int)+1)=((n+1:Nat):Int):=by rw [Wp (by omega) (by omega)];omega
def RI (v:be) (l:List be):Bool:=l.any fun x=>v.toList==x.toList
theorem RJ (v:be) (l:List be):RI v l=true↔v∈l:=by
 unfold RI;rw [cR];constructor
 ·rintro ⟨x,a,h⟩;rw [UG.1 h];exact a
 ·exact fun h=>⟨v,h,by simp⟩
theorem G2 (l:List be) (b:l.length < N) (d:l.length < 4611686018427387904) (v:be):VW N l v=some (RI v l):=by
 unfold VW TK;rw [Vw l (fun x=>v.toList==x.toList) (Ta l v) (fun n k x a=>?_) (fun n k c=>?_) b,bS,Px]
 ·rfl
 ·simp only [Ta,YY (YC a),cT,YL,a,bS];rw [XQ (by have:=YC a;omega)]
 ·simp only [Ta,YZ c,cF,HS]
theorem ZqC (s:List Ym) (c:Ym) (b:s.length < N) (e:s.length < 4611686018427387904):B3 N s c=some (XY (fun x=>x.Zu.toList==c.Zu.toList) s):=by
 unfold B3;refine Vw s (fun x=>x.Zu.toList==c.Zu.toList) (Le N s c) (fun n k x a=>?_) (fun n k d=>?_) b
 ·simp only [Le,YY (YC a),cT,YL,a,bS,Zde];rw [XQ (by have:=YC a;omega)]
 ·simp only [Le,YZ d,cF,ZdK]
theorem Zoj (s:List Ym) (c:Ym) (a:s.length < N) (b:s.length < 4611686018427387904):Gd N s c=some (s.any fun x=>x.Zu.toList==c.Zu.toList):=by unfold Gd;rw [ZqC s c a b,bS,Px]
theorem ZqO (s:List Ys) (c:Ys) (b:s.length < N) (e:s.length < 4611686018427387904):D3 N s c=some (XY (fun x=>x.Zu.toList==c.Zu.toList) s):=by
 unfold D3;refine Vw s (fun x=>x.Zu.toList==c.Zu.toList) (Mq N s c) (fun n k x a=>?_) (fun n k d=>?_) b
 ·simp only [Mq,YY (YC a),cT,YL,a,bS,ZdO];rw [XQ (by have:=YC a;omega)]
 ·simp only [Mq,YZ d,cF,Zb1]
theorem Zom (s:List Ys) (c:Ys) (a:s.length < N) (b:s.length < 4611686018427387904):B7 N s c=some (s.any fun x=>x.Zu.toList==c.Zu.toList):=by unfold B7;rw [ZqO s c a b,bS,Px]
theorem ZqP (s:List T3) (c:T3) (b:s.length < N) (e:s.length < 4611686018427387904):BP N s c=some (XY (fun x=>x.Zu.toList==c.Zu.toList) s):=by
 unfold BP;refine Vw s (fun x=>x.Zu.toList==c.Zu.toList) (MW N s c) (fun n k x a=>?_) (fun n k d=>?_) b
 ·simp only [MW,YY (YC a),cT,YL,a,bS,ZbH];rw [XQ (by have:=YC a;omega)]
 ·simp only [MW,YZ d,cF,Zdl]
theorem Zon (s:List T3) (c:T3) (a:s.length < N) (b:s.length < 4611686018427387904):DQ N s c=some (s.any fun x=>x.Zu.toList==c.Zu.toList):=by unfold DQ;rw [ZqP s c a b,bS,Px]
theorem ZqJ (s:List Ys) (c:Y5) (b:s.length < N) (e:s.length < 4611686018427387904):D4 N s c=some (XY (fun x=>x.Zu.toList==c.Zw.toList) s):=by
 unfold D4;refine Vw s (fun x=>x.Zu.toList==c.Zw.toList) (Mr N s c) (fun n k x a=>?_) (fun n k d=>?_) b
 ·simp only [Mr,YY (YC a),cT,YL,a,bS,Zcz];rw [XQ (by have:=YC a;omega)]
 ·simp only [Mr,YZ d,cF,Zb2]
theorem ZqK (s:List T3) (c:Y5) (b:s.length < N) (e:s.length < 4611686018427387904):BQ N s c=some (XY (fun x=>x.Zu.toList==c.Field.toList) s):=by
 unfold BQ;refine Vw s (fun x=>x.Zu.toList==c.Field.toList) (MX N s c) (fun n k x a=>?_) (fun n k d=>?_) b
 ·simp only [MX,YY (YC a),cT,YL,a,bS,ZcA];rw [XQ (by have:=YC a;omega)]
 ·simp only [MX,YZ d,cF,Zdm]
theorem ZqN (s:List Ys) (c:Yj) (b:s.length < N) (e:s.length < 4611686018427387904):D5 N s c=some (XY (fun x=>x.Zu.toList==c.Zu.toList) s):=by
 unfold D5;refine Vw s (fun x=>x.Zu.toList==c.Zu.toList) (Ms N s c) (fun n k x a=>?_) (fun n k d=>?_) b
 ·simp only [Ms,YY (YC a),cT,YL,a,bS,ZcB];rw [XQ (by have:=YC a;omega)]
 ·simp only [Ms,YZ d,cF,Zb3]
theorem Zol (s:List Ys) (c:Yj) (a:s.length < N) (b:s.length < 4611686018427387904):B8 N s c=some (s.any fun x=>x.Zu.toList==c.Zu.toList):=by unfold B8;rw [ZqN s c a b,bS,Px]
theorem ZqL (s:List YS) (c:Yj) (b:s.length < N) (e:s.length < 4611686018427387904):DU N s c=some (XY (fun x=>x.Z5.toList==c.Zu.toList) s):=by
 unfold DU;refine Vw s (fun x=>x.Z5.toList==c.Zu.toList) (Mg N s c) (fun n k x a=>?_) (fun n k d=>?_) b
 ·simp only [Mg,YY (YC a),cT,YL,a,bS,ZbJ];rw [XQ (by have:=YC a;omega)]
 ·simp only [Mg,YZ d,cF,ZbK]
theorem Zok (s:List YS) (c:Yj) (a:s.length < N) (b:s.length < 4611686018427387904):DT N s c=some (s.any fun x=>x.Z5.toList==c.Zu.toList):=by unfold DT;rw [ZqL s c a b,bS,Px]
theorem ZqM (s:List YS) (c:Yj) (b:s.length < N) (e:s.length < 4611686018427387904):DV N s c=some (XY (fun x=>bif x.Z5.toList==c.Zu.toList then !x.Z7 else false) s):=by
 unfold DV;refine Vw s (fun x=>bif x.Z5.toList==c.Zu.toList then !x.Z7 else false) (Mh N s c) (fun n k x a=>?_) (fun n k d=>?_) b
 ·simp only [Mh,YY (YC a),cT,YL,a,bS,ZbM];rw [XQ (by have:=YC a;omega)];cases (x.Z5.toList==c.Zu.toList)<;>rfl
 ·simp only [Mh,YZ d,cF,ZbL]
theorem ZqD (s:List Ym) (c:Yj) (b:s.length < N) (e:s.length < 4611686018427387904):B4 N s c=some (XY (fun x=>x.Zu.toList==c.Zu.toList) s):=by
 unfold B4;refine Vw s (fun x=>x.Zu.toList==c.Zu.toList) (Lf N s c) (fun n k x a=>?_) (fun n k d=>?_) b
 ·simp only [Lf,YY (YC a),cT,YL,a,bS,ZcC];rw [XQ (by have:=YC a;omega)]
 ·simp only [Lf,YZ d,cF,ZdL]
theorem ZqE (s:List Ym) (c:Ym) (b:s.length < N) (e:s.length < 4611686018427387904):B5 N s c=some (XY (fun x=>x.Zu.toList==c.Zu.toList) s):=by
 unfold B5;refine Vw s (fun x=>x.Zu.toList==c.Zu.toList) (Lg N s c) (fun n k x a=>?_) (fun n k d=>?_) b
 ·simp only [Lg,YY (YC a),cT,YL,a,bS,ZbN];rw [XQ (by have:=YC a;omega)]
 ·simp only [Lg,YZ d,cF,ZdM]
theorem ZqG (s:List Ym) (c:be) (b:s.length < N) (e:s.length < 4611686018427387904):B6 N s c=some (XY (fun x=>x.Zu.toList==c.toList) s):=by
 unfold B6;refine Vw s (fun x=>x.Zu.toList==c.toList) (Lh N s c) (fun n k x a=>?_) (fun n k d=>?_) b
 ·simp only [Lh,YY (YC a),cT,YL,a,bS,ZbU];rw [XQ (by have:=YC a;omega)]
 ·simp only [Lh,YZ d,cF,ZdN]
theorem ZhZ (s:List Ym) (c:be) (a:s.length < N) (b:s.length < 4611686018427387904):BB N s c=some (s.any fun x=>x.Zu.toList==c.toList):=by unfold BB;rw [ZqG s c a b,bS,Px]
theorem ZqF (s:List be) (c:Yp) (d:s.length < N) (g:s.length < 4611686018427387904) (e:c.Z2.length < N) (a:c.Z2.length < 4611686018427387904):Bd N s c=some (XY (fun x => !(c.Z2.any fun q=>q.Zu.toList==x.toList)) s):=by
 unfold Bd;refine Vw s (fun x => !(c.Z2.any fun q=>q.Zu.toList==x.toList)) (MB N s c) (fun n k x b=>?_) (fun n k f=>?_) d
 ·simp only [MB,YY (YC b),cT,YL,b,bS,Mm,ZhZ c.Z2 x e a];rw [XQ (by have:=YC b;omega)]
 ·simp only [MB,YZ f,cF,Zcs]
def Sf:List be->List be->Prop
 | _,[]=>True
 | cs,a::r=>a ∉ cs/\Sf (cs++[a]) r
theorem ZkC:∀ (b bs cs:List be),Sf cs (b++bs)↔Sf cs b/\Sf (cs++b) bs
 | [],bs,cs=>by simp [Sf]
 | a::r,bs,cs=>by simp only [List.cons_append,Sf,ZkC r bs (cs++[a]),and_assoc,aA,ar]
structure Nt (c:Yp) (P:Prop) (ns:List be) (n:Nat) (c':Yp):Prop where
 all:c'.Z2=c.Z2
 p:c'.p'=c.p'
 len:c'.Z3.length<=c.Z3.length+n
 err:c'.Z4.ZZ=0↔c.Z4.ZZ=0/\P/\Sf c.Z3 ns
 calls:c'.Z4.ZZ=0->c'.Z3=c.Z3++ns
 st:c.Z4.ZZ≠0->c'.Z4=c.Z4
def Ck (o:Option Yp) (c:Yp) (P:Prop) (ns:List be) (n:Nat):Prop:=∃ c',o=some c'/\Nt c P ns n c'
theorem Ck.iff {o c P Q ns n} (h:Ck o c P ns n) (k:P↔Q):Ck o c Q ns n:=by have ⟨a,e,g⟩:=h;exact ⟨a,e,g.all,g.p,g.len,by rw [g.err,k],g.calls,g.st⟩
theorem Ck.le {o c P ns n m} (h:Ck o c P ns n) (k:n<=m):Ck o c P ns m:=by have ⟨a,e,g⟩:=h;exact ⟨a,e,g.all,g.p,bT g.len (by omega),g.err,g.calls,g.st⟩
theorem Ck.skip (c:Yp):Ck (some c) c True [] 0:=⟨c,rfl,rfl,rfl,Zq _,by simp [Sf],by simp,fun _=>rfl⟩
theorem Ck.note (c:Yp) (nm:be) {e:Int} (a:e≠0) (b:List be) (n:Nat):Ck (z46 N c nm e) c False b n:=by
 unfold z46;by_cases h:c.Z4.ZZ=0
 ·rw [show (c.Z4.ZZ==(0:Int))=true by simpa using h,cT];exact ⟨_,rfl,rfl,rfl,bO _ _,by simp [a],fun q=>absurd q a,fun q=>absurd h q⟩
 ·rw [show (c.Z4.ZZ==(0:Int))=false by simpa using h,cF];exact ⟨_,rfl,rfl,rfl,bO _ _,by simp [h],fun q=>absurd q h,fun _=>rfl⟩
theorem Nt.seq {c P ns n c1 Q bs m c2} (g:Nt c P ns n c1) (a:Nt c1 Q bs m c2):Nt c (P/\Q) (ns++bs) (n+m) c2:=by
 refine ⟨by rw [a.all,g.all],by rw [a.p,g.p],bT a.len (by have:=g.len;omega),?_,fun j=>?_,fun h=>?_⟩
 ·rw [a.err,g.err,ZkC];constructor
  ·rintro ⟨⟨b,d,e⟩,i,f⟩;rw [g.calls (g.err.2 ⟨b,d,e⟩)] at f;exact ⟨b,⟨d,i⟩,e,f⟩
  ·rintro ⟨b,⟨d,i⟩,e,f⟩;refine ⟨⟨b,d,e⟩,i,?_⟩;rw [g.calls (g.err.2 ⟨b,d,e⟩)];exact f
 ·rw [a.calls j,g.calls (a.err.1 j).1,aA]
 ·have k:=g.st h;rw [a.st (by rw [k];exact h),k]
theorem Ck.seq {o:Option Yp} {f:Yp->Option Yp} {c P Q ns bs n m} (h:Ck o c P ns n)
  (k:∀ a,a.Z2=c.Z2->a.p'=c.p'->a.Z3.length<=c.Z3.length+n->Ck (f a) a Q bs m):Ck (o.bind f) c (P/\Q) (ns++bs) (n+m):=by have ⟨a,e,g⟩:=h;have ⟨b,d,i⟩:=k a g.all g.p g.len;exact ⟨b,by rw [e];exact d,g.seq i⟩
theorem Nt.iff {c P Q ns n c'} (g:Nt c P ns n c') (k:P↔Q):Nt c Q ns n c':=⟨g.all,g.p,g.len,by rw [g.err,k],g.calls,g.st⟩
theorem Ck.test {b:Bool} {c:Yp} {nm:be} {e:Int} (a:e≠0):Ck (bif b then z46 N c nm e else some c) c (b=false) [] 0:=by
 cases b with
 | true=>exact (Ck.note (N:=N) c nm a [] 0).iff (by simp)
 | false=>exact (Ck.skip c).iff (by simp)
theorem Rz (xs:List α) (F:Nat->Yp->Int->γ) (j:Yp->γ) (b:Option Yp->(Yp->γ)->γ) (E:∀ c f,b (some c) f=f c)
  (P:Nat->α->Prop) (z:α->List be) (m:α->Nat) (a0:List Ym) (A:Ym) (B:Nat)
  (G:∀ (n k:Nat) x c,xs[k]? = some x->c.Z2=a0->c.p'=A->c.Z3.length+((xs.drop k).map m).sum<=B->∃ o,F (n+1) c (k:Int)=b o (fun C=>F n C ((k+1:Nat):Int))/\Ck o c (P k x) (z x) (m x))
  (H:∀ (n k:Nat) c,xs.length<=k->F (n+1) c (k:Int)=j c) (hN:xs.length < N) (c:Yp) (t:c.Z2=a0) (u:c.p'=A) (hB:c.Z3.length+(xs.map m).sum<=B) :
  ∃ o,F N c (0:Int)=b o j/\Ck o c (∀ (k:Nat) x,xs[k]? = some x->P k x) (xs.flatMap z) (xs.map m).sum:=by
 have key:∀ (l:List α) (k n:Nat) (c:Yp),xs.drop k=l->l.length < n->c.Z2=a0->c.p'=A->c.Z3.length+(l.map m).sum<=B ->
   ∃ o,F n c (k:Int)=b o j/\Ck o c (∀ (i:Nat) x,l[i]? = some x->P (k+i) x) (l.flatMap z) (l.map m).sum:=by
  intro l;induction l with
  | nil =>
   intro k n c h w t u hB;obtain ⟨n,rfl⟩:=pS n (by simp at w;omega);refine ⟨some c,by rw [H n k c (XP h),E],?_⟩;exact (Ck.skip c).iff (by simp)
  | cons x l T =>
   intro k n c h w t u hB;obtain ⟨n,rfl⟩:=pS n (by simp at w;omega);have ⟨a,e,d⟩:=XW h;have ⟨o1,v,C,D,g⟩:=G n k x c e t u (by rw [h];exact hB);subst D;rw [E] at v;rw [aJ,dW] at hB;have ⟨I,L,M⟩:=T (k+1) n C d (by simp at w;omega) (by rw [g.all,t]) (by rw [g.p,u]) (by have:=g.len;omega);refine ⟨I,v.trans L,?_⟩;have ⟨O,R,S⟩:=M;refine ⟨O,R,(g.seq S).iff ?_⟩;constructor
   ·rintro ⟨v,D⟩ i y s;cases i with
    | zero=>simp only [aX,aR] at s;subst s;exact v
    | succ i=>rw [bE] at s;have:=D i y s;rwa [show k+(i+1)=k+1+i by omega]
   ·intro q;refine ⟨q 0 x rfl,fun i y s=>?_⟩;have:=q (i+1) y (by rw [bE];exact s)
    rwa [show k+(i+1)=k+1+i by omega] at this
 have:=key xs 0 N c rfl hN t u hB;simpa using this
theorem Qw (o:Option α):(o.bind fun x=>some x)=o:=by cases o<;>rfl
theorem PS (h:k<=xs.length):lsl xs none (some (k:Int))=some (xs.take k) :=
 L8 (cC k xs).symm (by rw [aL];omega)
theorem ZfU (c:Yp) (l:List be) (k:Nat) (x:be) (e:l[k]? = some x) (j:l.length < N) (f:l.length < 4611686018427387904) (g:c.p'.ZE.length < N) (b:c.p'.ZE.length < 4611686018427387904) :
  Ck (Mf N c l (k:Int)) c (x∈c.p'.ZE/\x ∉ l.take k) [] 0:=by
 have i:=YC e;unfold Mf Ge;simp only [YL,e,bS,G2 _ g b,PS (fP i),Qw];rw [G2 _ (by rw [aL];omega) (by rw [aL];omega)];simp only [bS];cases a:RI x c.p'.ZE with
 | false =>
  simp only [cx,cT];refine (Ck.note c x (by decide) [] 0).iff ?_;have:¬ x∈c.p'.ZE:=fun h=>by rw [(RJ _ _).2 h] at a;cases a
  simp [this]
 | true =>
  simp only [Zg,cF];have a:=(RJ _ _).1 a;cases d:RI x (l.take k) with
  | true =>
   simp only [cT];refine (Ck.note c x (by decide) [] 0).iff ?_;have:=(RJ _ _).1 d;simp [this]
  | false =>
   simp only [cF];refine (Ck.skip c).iff ?_;have:¬ x∈l.take k:=fun h=>by rw [(RJ _ _).2 h] at d;cases d
   simp [this,a]
def GL (p:Ym) (l:List be):Prop:=∀ (k:Nat) x,l[k]? = some x->x∈p.ZE/\x ∉ l.take k
def Zhx (p:Ym) (x:Yj):Prop:=GL p (x.ZB::x.To)/\∃ m∈p.ZF,m.Zu=x.Zu
def Zhi (all:List Ym) (p:Ym) (x:Yj):Prop:=∃ q,all.find? (fun q=>q.Zu.toList==x.Zu.toList)=some q/\q.ZE.length=x.To.length/\GL p x.To
theorem UH (xs:List α):(xs.map fun _=>0).sum=0:=by induction xs with
 | nil=>rfl
 | cons x l a=>rw [aJ,dW,a]
theorem PI (xs:List α):(xs.flatMap fun _=>([]:List be))=[]:=by induction xs with
 | nil=>rfl
 | cons x l a=>rw [iI,a];rfl
structure Sz (N:Nat) (c:Yp):Prop where
 r:c.p'.ZE.length<=4194304
 m:c.p'.ZF.length<=4194304
 a:c.Z2.length<=4194304
 n:8388609 < N
theorem Sz.of {c b:Yp} (h:Sz N c) (e:b.Z2=c.Z2) (d:b.p'=c.p'):Sz N b:=⟨by rw [d];exact h.r,by rw [d];exact h.m,by rw [e];exact h.a,h.n⟩
theorem ZtJ (c:Yp) (x:Yj) (b:Sz N c) (t:x.To.length<=4194304):Ck (DS N c x) c (Zhx c.p' x) [] 0:=by
 have hN:=b.n;unfold DS;rw [X6 (by simp;omega),bS,ey];have ⟨o,e,h⟩:=Rz (x.ZB::x.To) (fun n c i=>Me N x (x.ZB::x.To) n c.Z2 c.p'.Zu c.p'.ZE c.p'.ZF c.p'.ZG c.Z3 c.Z4.ZY c.Z4.Zu c.Z4.ZZ i)
  (fun c=>HK N x c.Z2 c.p'.Zu c.p'.ZE c.p'.ZF c.p'.ZG c.Z3 c.Z4.ZY c.Z4.Zu c.Z4.ZZ) eU (fun _ _=>rfl)
  (fun k y=>y∈c.p'.ZE/\y ∉ (x.ZB::x.To).take k) (fun _=>[]) (fun _=>0) c.Z2 c.p' c.Z3.length
  (fun n k y d g q a _=>⟨_,by
   simp only [Me,YY (YC g),cT];rw [XQ (by have:=YC g;simp at this;omega)],by have:=ZfU (N:=N) d (x.ZB::x.To) k y g (by simp;omega) (by simp;omega) (by rw [a];have:=b.r;omega) (by rw [a];have:=b.r;omega);rw [a] at this;exact this⟩)
  (fun n k d s=>by simp only [Me,YZ s,cF]) (N:=N) (by simp;omega) c rfl rfl (by rw [UH];omega)
 rw [UH,PI] at h;refine Eq.mp (lj (fun o=>Ck o c _ _ _) e.symm) ?_;refine (Ck.seq h (f:=fun c=>HK N x c.Z2 c.p'.Zu c.p'.ZE c.p'.ZF c.p'.ZG c.Z3 c.Z4.ZY c.Z4.Zu c.Z4.ZZ) (Q:=∃ m∈c.p'.ZF,m.Zu=x.Zu) (bs:=[]) (m:=0) (fun d q a _=>?_));unfold HK;have u:=b.m;rw [Zol _ x (by rw [a];omega) (by rw [a];omega),bS];simp only [Qw];refine (Ck.test (N:=N) (c:=d) (by decide)).iff ?_;rw [a,<- Bool.not_eq_true',Bool.not_not,cR];constructor
 ·rintro ⟨m,j,p⟩;exact ⟨m,j,UG.1 p⟩
 ·rintro ⟨m,j,p⟩;exact ⟨m,j,UG.2 p⟩
theorem TS (p:α->Bool) (xs:List α):(XY p xs=-1/\xs.find? p=none)\/∃ (i:Nat) (x:α),XY p xs=(i:Int)/\xs[i]? = some x/\xs.find? p=some x:=by
 unfold XY;cases h:xs.findIdx? p with
 | none =>
  refine .inl ⟨rfl,?_⟩;rw [List.findIdx?_eq_none_iff] at h;rw [fU];exact fun x b=>by rw [h x b];simp
 | some i =>
  rw [fh] at h;have ⟨a,d,e⟩:=h;refine .inr ⟨i,xs[i],rfl,Za a,?_⟩;rw [List.find?_eq_some_iff_getElem];exact ⟨d,i,a,rfl,fun j c=>by have:=e j c;simpa using this⟩
theorem Zoe (c:Yp) (x:Yj) (z:Sz N c) (R:x.To.length<=4194304) (G:c.Z3.length<=4194304):Ck (DX N c x) c (Zhi c.Z2 c.p' x) [x.As] 1:=by
 have hN:=z.n;have H:=z.a;have P:∀ b:Yp,b.Z3.length<=4194304->Ck (Mi N x b.Z2 b.p'.Zu b.p'.ZE b.p'.ZF b.p'.ZG b.Z3 b.Z4.ZY b.Z4.Zu b.Z4.ZZ) b True [x.As] 1:=by
  intro b v;unfold Mi;rw [G2 _ (by omega) (by omega),bS];cases d:RI x.As b.Z3 with
  | true =>
   have d:=(RJ _ _).1 d;simp only [cT];have ⟨C,e,g⟩:=Ck.note (N:=N) b x.As (e:=9) (by decide) [] 0;rw [show (⟨b.Z2,⟨b.p'.Zu,b.p'.ZE,b.p'.ZF,b.p'.ZG⟩,b.Z3,⟨b.Z4.ZY,b.Z4.Zu,b.Z4.ZZ⟩⟩:Yp)=b from rfl,e,bS];have D:=g.len;rw [X6 (by simp;omega),bS];have w:¬ C.Z4.ZZ=0:=fun h=>(g.err.1 h).2.1;refine ⟨_,rfl,g.all,g.p,by simp;omega,⟨fun h=>absurd h w,fun h=>absurd d h.2.2.1⟩,fun h=>absurd h w,g.st⟩
  | false =>
   have d:¬ x.As∈b.Z3:=fun h=>by rw [(RJ _ _).2 h] at d;cases d
   simp only [cF];rw [X6 (by simp;omega),bS];exact ⟨_,rfl,rfl,rfl,by simp,by simp [Sf,d],fun _=>rfl,fun _=>rfl⟩
 have F:∀ b:Yp,b.Z2=c.Z2->b.p'=c.p'->b.Z3.length<=4194304->Ck (HL N x b.Z2 b.p'.Zu b.p'.ZE b.p'.ZF b.p'.ZG b.Z3 b.Z4.ZY b.Z4.Zu b.Z4.ZZ) b (GL c.p' x.To) [x.As] 1:=by
  intro b j s v;unfold HL;have ⟨o,e,h⟩:=Rz x.To (fun n c i=>Mj N x n c.Z2 c.p'.Zu c.p'.ZE c.p'.ZF c.p'.ZG c.Z3 c.Z4.ZY c.Z4.Zu c.Z4.ZZ i)
   (fun c=>Mi N x c.Z2 c.p'.Zu c.p'.ZE c.p'.ZF c.p'.ZG c.Z3 c.Z4.ZY c.Z4.Zu c.Z4.ZZ) eU (fun _ _=>rfl)
   (fun k y=>y∈c.p'.ZE/\y ∉ x.To.take k) (fun _=>[]) (fun _=>0) c.Z2 c.p' b.Z3.length
   (fun n k y b A H B _=>⟨_,by
    simp only [Mj,YY (YC A),cT];rw [XQ (by have:=YC A;omega)],by have:=ZfU (N:=N) b x.To k y A (by omega) (by omega) (by rw [B];have:=z.r;omega) (by rw [B];have:=z.r;omega);rw [B] at this;exact this⟩)
   (fun n k b I=>by simp only [Mj,YZ I,cF]) (N:=N) (by omega) b j s (by rw [UH];omega)
  rw [UH,PI] at h;refine Eq.mp (lj (fun o=>Ck o b _ _ _) e.symm) ?_;refine (Ck.seq h (f:=fun c=>Mi N x c.Z2 c.p'.Zu c.p'.ZE c.p'.ZF c.p'.ZG c.Z3 c.Z4.ZY c.Z4.Zu c.Z4.ZZ) (Q:=True) (bs:=[x.As]) (m:=1) (fun C L M D=>P C (by omega))).iff ?_;exact ⟨fun q=>q.1,fun q=>⟨q,trivial⟩⟩
 unfold DX;rw [ZqD _ x (by omega) (by omega),bS];rcases TS (fun q:Ym=>q.Zu.toList==x.Zu.toList) c.Z2 with ⟨v,d⟩ | ⟨i,q,v,d,E⟩
 ·rw [v,show decide ((-1:Int) < 0)=true from rfl,cT,Qw];refine (Ck.note c x.Zu (by decide) [x.As] 1).iff ?_;simp only [false_iff];rintro ⟨q,u,_⟩;rw [d] at u;cases u
 ·rw [v,show decide ((i:Int) < 0)=false by simp,cF,YL,d,bS];by_cases u:q.ZE.length=x.To.length
  ·rw [show ((q.ZE.length:Int) != (x.To.length:Int))=false by simp;omega,cF];refine (F c rfl rfl G).iff ⟨fun g=>⟨q,E,u,g⟩,?_⟩;rintro ⟨O,t,_,g⟩;exact g
  ·rw [show ((q.ZE.length:Int) != (x.To.length:Int))=true by simp;omega,cT];refine (Ck.seq (Ck.note c x.Zu (e:=1) (by decide) [] 0) (Q:=GL c.p' x.To) (bs:=[x.As]) (m:=1) (fun b j s D=>F b j s (by omega))).iff ?_;constructor
   ·exact fun g=>g.1.elim
   ·rintro ⟨O,t,e,_⟩;rw [E] at t;cases t;exact absurd e u
section
def R9 (b:Bool) (ls:List YS):List YS:=ls.map fun o=>⟨o.Z5,o.Z6 && b,o.Z7⟩
def Tp (b:Bool) (ls:List YS):List YS:=ls.map fun o=>⟨o.Z5,o.Z6,o.Z7 || b⟩
def Zd0 (ls:List YS) (n:be):Prop:=∃ o,ls.find? (fun o=>bif o.Z5.toList==n.toList then !o.Z7 else false)=some o/\o.Z6=true
def SB (all:List Ym) (p:Ym) (ls:List YS) (x:Yj):Prop :=
 (x.Zt=1->Zhx p x)/\(x.Zt=2->x.ZB∈p.ZE)/\(x.Zt=3->∀ o∈ls,o.Z5≠x.Zu)/\(x.Zt=4->Zd0 ls x.Zu)/\(x.Zt=6->Zhi all p x)
def SR (ls:List YS) (x:Yj):List YS:=Tp (x.Zt==5) (if x.Zt=3 then ls++[⟨x.Zu,true,false⟩] else ls)
mutual
def S2 (all:List Ym) (p:Ym):List YS->Yj->Prop
 | ls,⟨k,f,t,n,a,x,b⟩=>SB all p ls ⟨k,f,t,n,a,x,b⟩/\S3 all p (SR ls ⟨k,f,t,n,a,x,b⟩) b
def VR (all:List Ym) (p:Ym):List YS->List Yj->Prop
 | _,[]=>True
 | ls,x::l=>S2 all p (R9 l.isEmpty ls) x/\VR all p ls l
def S3 (all:List Ym) (p:Ym):List YS->List (List Yj)->Prop
 | _,[]=>True
 | ls,b::r=>VR all p ls b/\S3 all p ls r
end
theorem ZkO (all p ls) (x:Yj):S2 all p ls x↔SB all p ls x/\S3 all p (SR ls x) x.ZD:=by cases x;simp only [S2]
def L4 (x:Yj):List be:=if x.Zt=6 then [x.As] else []
mutual
def Pw:Yj->List be
 | ⟨k,f,t,n,a,x,b⟩=>L4 ⟨k,f,t,n,a,x,b⟩++Lz b
def Rt:List Yj->List be
 | []=>[]
 | x::l=>Pw x++Rt l
def Lz:List (List Yj)->List be
 | []=>[]
 | b::r=>Rt b++Lz r
end
theorem ZnI (x:Yj):Pw x=L4 x++Lz x.ZD:=by cases x;simp only [Pw]
theorem ZhL:∀ l,Rt l=l.flatMap Pw
 | []=>rfl
 | x::l=>by simp only [Rt,iI,ZhL l]
theorem ZhK:∀ l,Lz l=l.flatMap Rt
 | []=>rfl
 | x::l=>by simp only [Lz,iI,ZhK l]
theorem GW:∀ l,cL l=(l.map cI).sum
 | []=>rfl
 | x::l=>by simp only [cL,aJ,dW,GW l]
theorem Zep:∀ l,XA l=(l.map cL).sum
 | []=>rfl
 | x::l=>by simp only [XA,aJ,dW,Zep l]
theorem ZkR (all p ls):∀ l:List Yj,VR all p ls l↔∀ (k:Nat) x,l[k]? = some x->S2 all p (R9 (k+1==l.length) ls) x
 | []=>by simp [VR]
 | x::l=>by
  simp only [VR];rw [ZkR all p ls l];constructor
  ·rintro ⟨b,c⟩ k y a;cases k with
   | zero =>
    simp only [aX,aR] at a;subst a;have:(0+1==(x::l).length)=l.isEmpty:=by cases l<;>simp
    rw [this];exact b
   | succ k =>
    rw [bE] at a;have:=c k y a;have e:(k+1+1==(x::l).length)=(k+1==l.length):=by simp
    rw [e];exact this
  ·intro h;refine ⟨?_,fun k y a=>?_⟩
   ·have:=h 0 x rfl;have e:(0+1==(x::l).length)=l.isEmpty:=by cases l<;>simp
    rw [e] at this;exact this
   ·have:=h (k+1) y (by rw [bE];exact a);have e:(k+1+1==(x::l).length)=(k+1==l.length):=by simp
    rw [e] at this;exact this
theorem ZkP (all p ls):∀ l:List (List Yj),S3 all p ls l↔∀ (k:Nat) b,l[k]? = some b->VR all p ls b
 | []=>by simp [S3]
 | x::l=>by
  simp only [S3];rw [ZkP all p ls l];constructor
  ·rintro ⟨c,d⟩ k y a;cases k with
   | zero=>simp only [aX,aR] at a;subst a;exact c
   | succ k=>rw [bE] at a;exact d k y a
  ·exact fun h=>⟨h 0 x rfl,fun k y a=>h (k+1) y (by rw [bE];exact a)⟩
theorem Zkl {α γ:Type} (g:α->α) (xs:List α) (F:Nat->List α->Int->γ) (a:List α->γ)
  (c:∀ (n k:Nat) v x,k < xs.length->v[k]? = some x->F (n+1) v (k:Int)=F n (v.set k (g x)) ((k+1:Nat):Int))
  (d:∀ (n k:Nat) v,xs.length<=k->F (n+1) v (k:Int)=a v) {N:Nat} (hN:xs.length < N):F N xs (0:Int)=a (xs.map g):=by
 have key:∀ (B A:List α) (n:Nat),A.length+B.length=xs.length->B.length < n->F n (A++B) (A.length:Int)=a (A++B.map g):=by
  intro B;induction B with
  | nil =>
   intro A n h b;obtain ⟨n,rfl⟩:=pS n (by simp at b;omega);rw [d n _ _ (by simp at h;omega)];rfl
  | cons x B e =>
   intro A n h b;obtain ⟨n,rfl⟩:=pS n (by simp at b;omega);rw [c n A.length _ x (by simp at h;omega) (ZaV A x B rfl),Hu A x (g x) B rfl];have:=e (A++[g x]) n (by simp at h ⊢;omega) (by simp at b;omega);rw [aA,ey,lA,bb,aA,ey] at this;rw [this,aJ]
 have:=key xs [] N (by simp) hN;simpa using this
theorem Zux (b ls):(R9 b ls).length=ls.length:=by simp [R9]
theorem Zp4 (b ls):(Tp b ls).length=ls.length:=by simp [Tp]
set_option maxHeartbeats 1000000 in
theorem ZjV:∀ (N:Nat) (c:Yp) (l:List Yj) (B:List YS),Sz 8388610 c->8388611+dL l<=N->l.length<=4194304->bL l->B.length+dL l<=4194304->c.Z3.length+cL l<=4194304 ->
  Ck (VV N c l B) c (VR c.Z2 c.p' B l) (Rt l) (cL l)
 | 0,_,_,_,_,h,_,_,_,_=>by omega
 | N+1,c,l,B,hs,h,hlen,hb,hls,hc=>by
  show Ck (BJ N (VV N) c l B) _ _ _ _;unfold BJ;have hN:8388609 < N:=by omega
  have hsz:∀ s:Yp,s.Z2=c.Z2->s.p'=c.p'->Sz N s:=fun s D A=>⟨by rw [A];exact hs.r,by rw [A];exact hs.m,by rw [D];exact hs.a,hN⟩
  have X:∀ s:Yp,s.Z2=c.Z2->s.p'=c.p'->Sz 8388610 s:=fun s D A=>hs.of D A
  -- the blocks of one item
  have k7:∀ (k:Nat) (x:Yj) (s:Yp) (u:List YS) (ag),l[k]? = some x->s.Z2=c.Z2->s.p'=c.p'->u.length+VK x.ZD<=4194304->s.Z3.length+XA x.ZD<=4194304 ->
    ∃ o,UM N (VV N) (k:Int) ag x s.Z2 s.p'.Zu s.p'.ZE s.p'.ZF s.p'.ZG s.Z3 s.Z4.ZY s.Z4.Zu s.Z4.ZZ u =
     o.bind (fun t:Yp=>ag t.Z2 t.p'.Zu t.p'.ZE t.p'.ZF t.p'.ZG t.Z3 t.Z4.ZY t.Z4.Zu t.Z4.ZZ ((k+1:Nat):Int)) /\
     Ck o s (S3 c.Z2 c.p' (Tp (x.Zt==5) u) x.ZD) (Lz x.ZD) (XA x.ZD):=by
   intro k x s u ag E D A V W;have M:=Zb E;have I:=(Qt _).1 (Rv hb M);have Y:=RC M;rw [RB] at Y;have hk:=YC E;unfold UM;rw [Zkl (fun o:YS=>(⟨o.Z5,o.Z6,o.Z7 || (x.Zt==5)⟩:YS)) u
    (fun n v i=>Pi N (VV N) (k:Int) ag x s.Z2 s.p'.Zu s.p'.ZE s.p'.ZF s.p'.ZG s.Z3 s.Z4.ZY s.Z4.Zu s.Z4.ZZ u n v i)
    (fun v=>BM N (VV N) (k:Int) ag x s.Z2 s.p'.Zu s.p'.ZE s.p'.ZF s.p'.ZG s.Z3 s.Z4.ZY s.Z4.Zu s.Z4.ZZ v)
    (fun n j v o y F=>by simp only [Pi,YY y,cT,YL,F,bS,W4];rw [XQ (by omega)];cases o.Z7<;>simp)
    (fun n j v y=>by simp only [Pi,YZ y,cF]) (N:=N) (by omega)]
   unfold BM;have ⟨o,e,g⟩:=Rz x.ZD (fun n c i=>MU (VV N) (k:Int) ag x (Tp (x.Zt==5) u) n c.Z2 c.p'.Zu c.p'.ZE c.p'.ZF c.p'.ZG c.Z3 c.Z4.ZY c.Z4.Zu c.Z4.ZZ i)
    (fun c=>BL (k:Int) ag c.Z2 c.p'.Zu c.p'.ZE c.p'.ZF c.p'.ZG c.Z3 c.Z4.ZY c.Z4.Zu c.Z4.ZZ) eU (fun _ _=>rfl)
    (fun _ b=>VR c.Z2 c.p' (Tp (x.Zt==5) u) b) Rt cL c.Z2 c.p' 4194304
    (fun n j b t y S T hc2=>by rw [LL y,aJ,dW] at hc2;have Z:=Zb y;have hbb:=Ru I.2.2 Z;have hdb:=SL Z;have:=ZjV N t b (Tp (x.Zt==5) u) (X t S T) (by omega) hbb.1 hbb.2 (by rw [Zp4];omega) (by omega);rw [S,T] at this;refine ⟨_,?_,this⟩;simp only [MU,YY (YC y),cT,YL,y,bS];rw [XQ (by have:=YC y;omega)])
    (fun n j t y=>by simp only [MU,YZ y,cF]) (N:=N) (by omega) s D A (by rw [<- Zep];omega)
   rw [<- ZhK,<- Zep] at g;refine ⟨o,e.trans ?_,g.iff (ZkP _ _ _ _).symm⟩;congr 1;funext t;unfold BL;rw [XQ (by omega)]
  -- one item
  have k8:∀ (k:Nat) (x:Yj) (s:Yp) (u:List YS) (ag),l[k]? = some x->s.Z2=c.Z2->s.p'=c.p'->u.length+dI x<=4194304->s.Z3.length+cI x<=4194304 ->
    ∃ o,Gm N (VV N) s.Z2 s.p'.Zu s.p'.ZE s.p'.ZF s.p'.ZG s.Z3 s.Z4.ZY s.Z4.Zu s.Z4.ZZ (k:Int) ag x u =
     o.bind (fun t:Yp=>ag t.Z2 t.p'.Zu t.p'.ZE t.p'.ZF t.p'.ZG t.Z3 t.Z4.ZY t.Z4.Zu t.Z4.ZZ ((k+1:Nat):Int)) /\
     Ck o s (S2 c.Z2 c.p' u x) (Pw x) (cI x):=by
   intro k x s u ag E D A V W;have M:=Zb E;have I:=(Qt _).1 (Rv hb M);rw [RB] at V;rw [PA] at W;have hS:=hsz s D A;have hto:=I.1
   -- behind a first step
   have z:∀ (o1:Option Yp) (P:Prop) (bs:List be) (m:Nat) (R:List YS),Ck o1 s P bs m->bs=L4 x->m<=1->R.length+VK x.ZD<=4194304->(P↔SB c.Z2 c.p' u x)->Tp (x.Zt==5) R=SR u x ->
     ∃ o,(o1.bind fun t:Yp=>UM N (VV N) (k:Int) ag x t.Z2 t.p'.Zu t.p'.ZE t.p'.ZF t.p'.ZG t.Z3 t.Z4.ZY t.Z4.Zu t.Z4.ZZ R) =
      o.bind (fun t:Yp=>ag t.Z2 t.p'.Zu t.p'.ZE t.p'.ZF t.p'.ZG t.Z3 t.Z4.ZY t.Z4.Zu t.Z4.ZZ ((k+1:Nat):Int))/\Ck o s (S2 c.Z2 c.p' u x) (Pw x) (cI x):=by rintro o1 P bs m R ⟨t,rfl,g⟩ rfl hm1 hns hP hin;have ⟨o,e,c3,e3,g3⟩:=k7 k x t R ag E (by rw [g.all,D]) (by rw [g.p,A]) hns (by have:=g.len;omega);refine ⟨o,e,?_⟩;have O:=(g.seq g3).iff (Q:=S2 c.Z2 c.p' u x) (by rw [ZkO,hP,hin]);rw [<- ZnI] at O;exact Ck.le ⟨c3,e3,O⟩ (by rw [PA];omega)
   have w:x.Zt≠6->([]:List be)=L4 x:=fun G=>by unfold L4;rw [lh G]
   have C:x.Zt≠3->Tp (x.Zt==5) u=SR u x:=fun H=>by unfold SR;rw [lh H]
   unfold Gm;by_cases h1:x.Zt=1
   ·rw [show (x.Zt==(1:Int))=true by simpa using h1,cT];refine z _ _ _ _ u (ZtJ s x hS hto) (w (by omega)) (by omega) (by omega) ?_ (C (by omega));rw [A];unfold SB;constructor
    ·exact fun q=>⟨fun _=>q,by omega,by omega,by omega,by omega⟩
    ·exact fun q=>q.1 h1
   rw [show (x.Zt==(1:Int))=false by simpa using h1,cF];by_cases h2:x.Zt=2
   ·rw [show (x.Zt==(2:Int))=true by simpa using h2,cT];have L:=ZfU (N:=N) s [x.ZB] 0 x.ZB rfl (by simp;omega) (by simp) (by have:=hS.r;omega) (by have:=hS.r;omega);refine z _ _ _ _ u L (w (by omega)) (by omega) (by omega) ?_ (C (by omega));rw [A];unfold SB;constructor
    ·exact fun q=>⟨by omega,fun _=>q.1,by omega,by omega,by omega⟩
    ·exact fun q=>⟨q.2.1 h2,by simp⟩
   rw [show (x.Zt==(2:Int))=false by simpa using h2,cF];by_cases H:x.Zt=3
   ·rw [show (x.Zt==(3:Int))=true by simpa using H,cT,Zok u x (by omega) (by omega),bS,X6 (by simp;omega)];simp only [bS];have:=z (bif (u.any fun o=>o.Z5.toList==x.Zu.toList) then z46 N s x.Zu 9 else some s) _ _ _ (u++[⟨x.Zu,true,false⟩]) (Ck.test (by decide)) (w (by omega)) (by omega) (by simp;omega) (by
     unfold SB;rw [List.any_eq_false];constructor
     ·exact fun q=>⟨by omega,by omega,fun _ o F e=>q o F (by rw [e];simp),by omega,by omega⟩
     ·exact fun q o F e=>q.2.2.1 H o F (UG.1 e)) (by unfold SR;rw [lg H])
    have ⟨o,e,g⟩:=this;refine ⟨o,?_,g⟩;rw [<- e];cases (u.any fun o=>o.Z5.toList==x.Zu.toList)<;>rfl
   rw [show (x.Zt==(3:Int))=false by simpa using H,cF];by_cases O:x.Zt=4
   ·rw [show (x.Zt==(4:Int))=true by simpa using O,cT,ZqM u x (by omega) (by omega),bS];have hH:∀ P:Prop,(P↔Zd0 u x.Zu)->(P↔SB c.Z2 c.p' u x):=fun P q=>by
     rw [q];unfold SB;constructor
     ·exact fun q=>⟨by omega,by omega,by omega,fun _=>q,by omega⟩
     ·exact fun q=>q.2.2.2.1 O
    rcases TS (fun o:YS=>bif o.Z5.toList==x.Zu.toList then !o.Z7 else false) u with ⟨q1,q2⟩ | ⟨i,o,q1,q2,q3⟩
    ·rw [q1,show decide ((-1:Int) < 0)=true from rfl,cT];refine z _ _ _ _ u (Ck.note s x.Zu (by decide) [] 0) (w (by omega)) (by omega) (by omega) (hH _ ?_) (C (by omega));simp only [false_iff];rintro ⟨o,F,_⟩;rw [q2] at F;cases F
    ·rw [q1,show decide ((i:Int) < 0)=false by simp,cF,YL,q2,bS];have:=z (bif !o.Z6 then z46 N s x.Zu 7 else some s) _ _ _ u (Ck.test (by decide)) (w (by omega)) (by omega) (by omega) (hH _ (by
      unfold Zd0;constructor
      ·exact fun q=>⟨o,q3,by simpa using q⟩
      ·rintro ⟨o',U,ht⟩;rw [q3] at U;cases U;simp [ht])) (C (by omega))
     have ⟨o2,e,g⟩:=this;refine ⟨o2,?_,g⟩;rw [<- e];cases o.Z6<;>rfl
   rw [show (x.Zt==(4:Int))=false by simpa using O,cF];by_cases G:x.Zt=6
   ·rw [show (x.Zt==(6:Int))=true by simpa using G,cT];refine z _ _ _ _ u (Zoe s x hS hto (by omega)) (by unfold L4;rw [lg G]) (by omega) (by omega) ?_ (C (by omega));rw [A,D];unfold SB;constructor
    ·exact fun q=>⟨by omega,by omega,by omega,by omega,fun _=>q⟩
    ·exact fun q=>q.2.2.2.2 G
   ·rw [show (x.Zt==(6:Int))=false by simpa using G,cF];have:=z (some s) _ _ _ u (Ck.skip s) (w G) (by omega) (by omega) (by
     unfold SB;constructor
     ·exact fun q=>⟨by omega,by omega,by omega,by omega,by omega⟩
     ·exact fun _=>trivial) (C H)
    exact this
  have ⟨o,e,g⟩:=Rz l (fun n c i=>VE N (VV N) l B n c.Z2 c.p'.Zu c.p'.ZE c.p'.ZF c.p'.ZG c.Z3 c.Z4.ZY c.Z4.Zu c.Z4.ZZ i)
   (fun c=>BK c.Z2 c.p'.Zu c.p'.ZE c.p'.ZF c.p'.ZG c.Z3 c.Z4.ZY c.Z4.Zu c.Z4.ZZ) eU (fun _ _=>rfl)
   (fun k x=>S2 c.Z2 c.p' (R9 (k+1==l.length) B) x) Pw cI c.Z2 c.p' 4194304
   (fun n k x s E D A hc1=>by
    rw [LL E,aJ,dW] at hc1;have M:=Zb E;have Y:=RC M;have hk:=YC E;have ⟨o,e,g⟩:=k8 k x s (R9 (k+1==l.length) B) (fun a b c d e f g h i j=>VE N (VV N) l B n a b c d e f g h i j) E D A (by rw [Zux];omega) (by omega);refine ⟨o,?_,g⟩;simp only [VE,YY hk,cT,YL,E,bS,ZbI];rw [X6 (by simp;omega),bS,bS,ar];rw [Zkl (fun o:YS=>(⟨o.Z5,o.Z6 && (k+1==l.length),o.Z7⟩:YS)) B
     (fun m v i=>Pj N (VV N) l s.Z2 s.p'.Zu s.p'.ZE s.p'.ZF s.p'.ZG s.Z3 s.Z4.ZY s.Z4.Zu s.Z4.ZZ (k:Int) (VE N (VV N) l B n) x B m v i)
     (fun v=>Gm N (VV N) s.Z2 s.p'.Zu s.p'.ZE s.p'.ZF s.p'.ZG s.Z3 s.Z4.ZY s.Z4.Zu s.Z4.ZZ (k:Int) (VE N (VV N) l B n) x v)
     (fun m j v o y F=>by
      simp only [Pj,YY y,cT,YL,F,bS,W4];rw [XQ (by omega)];have:((k:Int)==Yh ((l.length:Int)-1))=(k+1==l.length):=by rw [Wp (by omega) (by omega),eo];simp;omega
      rw [this];cases o.Z6<;>simp)
     (fun m j v y=>by simp only [Pj,YZ y,cF]) (N:=N) (by omega)]
    exact e)
   (fun n k s hk=>by simp only [VE,YZ hk,cF]) (N:=N) (by omega) c rfl rfl (by rw [<- GW];omega)
  rw [<- ZhL,<- GW] at g;have e':=e.trans (show (o.bind fun c=>BK c.Z2 c.p'.Zu c.p'.ZE c.p'.ZF c.p'.ZG c.Z3 c.Z4.ZY c.Z4.Zu c.Z4.ZZ)=o from Qw o);refine Eq.mp (lj (fun o=>Ck o c _ _ _) e'.symm) (g.iff (ZkR _ _ _ _).symm)
end
section
def Zae (f:T3):Prop:=f.Zv.Lo<=f.Zv.Hi/\(bif f.Zv.Zt==2 then 0 else -1000)<=f.Zv.Lo/\f.Zv.Hi<=(bif f.Zv.Zt==2 then 40 else 1000)
def Zd3 (m:Ys):Prop:=∀ (j:Nat) f,m.Zz[j]? = some f->(∀ g∈m.Zz.take j,g.Zu≠f.Zu)/\Zae f
def Zag (p:Ym):Prop:=∀ (k:Nat) m,p.ZF[k]? = some m->(∀ q∈p.ZF.take k,q.Zu≠m.Zu)/\Zd3 m
theorem Zeh {α:Type} (l:List α) (f:α->be) (n:be):(l.any fun x=>(f x).toList==n.toList)=false↔∀ x∈l,f x≠n:=by rw [List.any_eq_false];exact ⟨fun h x a e=>h x a (UG.2 e),fun h x a e=>h x a (UG.1 e)⟩
set_option maxHeartbeats 1000000 in
variable {N:Nat}
theorem Zt8 (c:Yp) (H:Sz N c) (L:∀ m∈c.p'.ZF,m.Zz.length<=4194304):Ck (BC N c) c (Zag c.p') [] 0:=by
 have hN:=H.n;have U:=H.m;unfold BC
 -- the range of one field
 have R:∀ (j:Nat) (f:T3) (p:Yp) (ag),j < 4194304->∃ o,Gg N (j:Int) ag f p.Z2 p.p'.Zu p.p'.ZE p.p'.ZF p.p'.ZG p.Z3 p.Z4.ZY p.Z4.Zu p.Z4.ZZ =
   o.bind (fun s:Yp=>ag s.Z2 s.p'.Zu s.p'.ZE s.p'.ZF s.p'.ZG s.Z3 s.Z4.ZY s.Z4.Zu s.Z4.ZZ ((j+1:Nat):Int))/\Ck o p (Zae f) [] 0:=by
  intro j f p ag v;have I:∀ lo hi:Int,∃ o,Gf N (j:Int) ag f p.Z2 p.p'.Zu p.p'.ZE p.p'.ZF p.p'.ZG p.Z3 p.Z4.ZY p.Z4.Zu p.Z4.ZZ lo hi =
   o.bind (fun s:Yp=>ag s.Z2 s.p'.Zu s.p'.ZE s.p'.ZF s.p'.ZG s.Z3 s.Z4.ZY s.Z4.Zu s.Z4.ZZ ((j+1:Nat):Int))/\Ck o p (f.Zv.Lo<=f.Zv.Hi/\lo<=f.Zv.Lo/\f.Zv.Hi<=hi) [] 0:=by
   intro lo hi;refine ⟨bif decide (f.Zv.Lo > f.Zv.Hi) || (decide (f.Zv.Lo < lo) || decide (f.Zv.Hi > hi)) then z46 N p f.Zu 2 else some p,?_,(Ck.test (by decide)).iff ?_⟩
   ·unfold Gf;rw [XQ (by omega)];cases decide (f.Zv.Lo > f.Zv.Hi)<;>cases decide (f.Zv.Lo < lo)<;>cases decide (f.Zv.Hi > hi)<;>rfl
   ·simp only [cw,lX];omega
  unfold Gg Zae;cases (f.Zv.Zt==2) with
  | true=>exact I 0 40
  | false=>exact I (-1000) 1000
 -- the fields of one message
 have S:∀ (k:Nat) (m:Ys) (p:Yp) (ag),k < 4194304->m.Zz.length<=4194304->∃ o,Gh N (k:Int) ag m p.Z2 p.p'.Zu p.p'.ZE p.p'.ZF p.p'.ZG p.Z3 p.Z4.ZY p.Z4.Zu p.Z4.ZZ =
   o.bind (fun s:Yp=>ag s.Z2 s.p'.Zu s.p'.ZE s.p'.ZF s.p'.ZG s.Z3 s.Z4.ZY s.Z4.Zu s.Z4.ZZ ((k+1:Nat):Int))/\Ck o p (Zd3 m) [] 0:=by
  intro k m p ag u P;unfold Gh;have ⟨o,e,g⟩:=Rz m.Zz (fun n c i=>Su N (k:Int) ag m n c.Z2 c.p'.Zu c.p'.ZE c.p'.ZF c.p'.ZG c.Z3 c.Z4.ZY c.Z4.Zu c.Z4.ZZ i)
   (fun c=>BE (k:Int) ag c.Z2 c.p'.Zu c.p'.ZE c.p'.ZF c.p'.ZG c.Z3 c.Z4.ZY c.Z4.Zu c.Z4.ZZ) eU (fun _ _=>rfl)
   (fun j f=>(∀ g∈m.Zz.take j,g.Zu≠f.Zu)/\Zae f) (fun _=>[]) (fun _=>0) p.Z2 p.p' p.Z3.length
   (fun n j f s v M A _=>by
    have w:=YC v;simp only [Su,YY w,cT,YL,v,bS,PS (fP w)];rw [Zon _ f (by rw [aL];omega) (by rw [aL];omega),bS];have ⟨B,t,C⟩:=Ck.test (N:=N) (b:=(m.Zz.take j).any fun x=>x.Zu.toList==f.Zu.toList) (c:=s) (nm:=f.Zu) (e:=9) (by decide);have ⟨o,D,E,F,G⟩:=R j f B (fun a b c d e f g h i j=>Su N (k:Int) ag m n a b c d e f g h i j) (by omega);refine ⟨o,?_,E,F,(C.seq G).iff (and_congr_left' (Zeh _ _ _))⟩;rw [<- D];cases z:(m.Zz.take j).any fun x=>x.Zu.toList==f.Zu.toList with
    | true=>rw [z,cT] at t;rw [cT,t];rfl
    | false=>rw [z,cF] at t;cases t;rfl)
   (fun n j s v=>by simp only [Su,YZ v,cF]) (N:=N) (by omega) p rfl rfl (by rw [UH];omega)
  rw [UH,PI] at g;refine ⟨o,e.trans ?_,g⟩;congr 1;funext s;unfold BE;rw [XQ (by omega)]
 have ⟨o,e,g⟩:=Rz c.p'.ZF (fun n p i=>UL N c n p.Z2 p.p'.Zu p.p'.ZE p.p'.ZF p.p'.ZG p.Z3 p.Z4.ZY p.Z4.Zu p.Z4.ZZ i)
  (fun c=>BD c.Z2 c.p'.Zu c.p'.ZE c.p'.ZF c.p'.ZG c.Z3 c.Z4.ZY c.Z4.Zu c.Z4.ZZ) eU (fun _ _=>rfl)
  (fun k m=>(∀ q∈c.p'.ZF.take k,q.Zu≠m.Zu)/\Zd3 m) (fun _=>[]) (fun _=>0) c.Z2 c.p' c.Z3.length
  (fun n k m p u M A _=>by
   have y:=YC u;simp only [UL,YY y,cT,YL,u,bS,A,PS (fP y)];rw [Zom _ m (by rw [aL];omega) (by rw [aL];omega),bS];have ⟨B,t,C⟩:=Ck.test (N:=N) (b:=(c.p'.ZF.take k).any fun x=>x.Zu.toList==m.Zu.toList) (c:=p) (nm:=m.Zu) (e:=9) (by decide);have ⟨o,D,E,F,G⟩:=S k m B (fun a b O d e f g h i j=>UL N c n a b O d e f g h i j) (by omega) (L m (Zb u));refine ⟨o,?_,E,F,(C.seq G).iff (and_congr_left' (Zeh _ _ _))⟩;rw [<- D];cases z:(c.p'.ZF.take k).any fun x=>x.Zu.toList==m.Zu.toList with
   | true =>
    rw [z,cT] at t;rw [cT,<- A];rw [show (⟨p.Z2,⟨p.p'.Zu,p.p'.ZE,p.p'.ZF,p.p'.ZG⟩,p.Z3,⟨p.Z4.ZY,p.Z4.Zu,p.Z4.ZZ⟩⟩:Yp)=p from rfl,t];rfl
   | false=>rw [z,cF] at t;cases t;rw [cF,<- A])
  (fun n k p u=>by simp only [UL,YZ u,cF]) (N:=N) (by omega) c rfl rfl (by rw [UH];omega)
 rw [UH,PI] at g;have T:=e.trans (show (o.bind fun c=>BD c.Z2 c.p'.Zu c.p'.ZE c.p'.ZF c.p'.ZG c.Z3 c.Z4.ZY c.Z4.Zu c.Z4.ZZ)=o from Qw o);exact Eq.mp (lj (fun o=>Ck o c _ _ _) T.symm) g
def PP (fs:List T3) (t:Y5):Int:=match fs.find? (fun f=>f.Zu.toList==t.Field.toList) with
 | some f=>f.Zv.Zt
 | none=>0
def kd (p:Ym) (m:Ys) (t:Y5):Int:=bif !(t.Zw.toList==(str []).toList) then (match p.ZF.find? (fun q=>q.Zu.toList==t.Zw.toList) with
 | some q=>PP q.Zz t
 | none=>0) else PP m.Zz t
theorem ZpF (c:Yp) (m:Ys) (t:Y5) (g:Sz N c) (k:∀ m∈c.p'.ZF,m.Zz.length<=4194304) (o:m.Zz.length<=4194304):DR N c m t=some (kd c.p' m t):=by
 have hN:=g.n;have p:=g.m;have j:∀ (a:be) (fs:List T3) (w),fs.length<=4194304->HJ N t a fs w=some (PP fs t):=by
  intro a fs w h;unfold HJ PP;rw [ZqK fs t (by omega) (by omega),bS];rcases TS (fun f:T3=>f.Zu.toList==t.Field.toList) fs with ⟨d,b⟩ | ⟨i,q,d,b,e⟩
  ·rw [d,b];rfl
  ·rw [d,e,show decide ((i:Int) < 0)=false by simp,cF,YL,b];rfl
 unfold DR kd;cases (!(t.Zw.toList==(str []).toList)) with
 | false=>rw [cF,cF,j _ _ _ o]
 | true =>
  rw [cT,cT,ZqJ _ t (by omega) (by omega),bS];rcases TS (fun q:Ys=>q.Zu.toList==t.Zw.toList) c.p'.ZF with ⟨d,b⟩ | ⟨i,q,d,b,e⟩
  ·rw [d,b];rfl
  ·rw [d,e,show decide ((i:Int) < 0)=false by simp,cF,YL,b,bS,j _ _ _ (k q (Zb b))]
def SU (p:Ym) (m:Ys) (t:Y5):Int:=bif t.Zt==1 then 0 else kd p m t
def TG (p:Ym) (m:Ys) (t:Y5):Nat:=bif t.Zt==2 then (bif SU p m t==2 then 1 else 0) else 0
def Qq (p:Ym) (m:Ys) (a:Xw):Prop :=
 (a.Zx.Zt=1\/kd p m a.Zx≠0)/\(a.Zy.Zt=1\/kd p m a.Zy≠0)/\(a.Zx.Zt=3->SU p m a.Zx=2)/\(a.Zy.Zt=3->SU p m a.Zy=2) /\
 (TG p m a.Zx+TG p m a.Zy≠1)/\(TG p m a.Zx+TG p m a.Zy=2->a.Op=str [61,61]/\a.Zx.N=0/\a.Zy.N=0)
def B9 (p:Ym):Prop:=∀ m∈p.ZF,∀ a∈m.ZA,Qq p m a
set_option maxHeartbeats 2000000 in
theorem ZnL (c:Yp) (H:Sz N c) (hf:∀ m∈c.p'.ZF,m.Zz.length<=4194304/\m.ZA.length<=4194304):Ck (BF N c) c (B9 c.p') [] 0:=by
 have hN:=H.n;have hm:=H.m;have Y:∀ q:Yp,q.p'=c.p'->∀ m∈q.p'.ZF,m.Zz.length<=4194304:=fun q z m hq=>(hf m (by rw [<- z];exact hq)).1;unfold BF
 -- what is counted at the end
 have k5:∀ (j:Nat) (m:Ys) (a:Xw) (q:Yp) (t:Nat) (ag),j < 4194304->t<=2->∃ o,BI N m (j:Int) ag a q.Z2 q.p'.Zu q.p'.ZE q.p'.ZF q.p'.ZG q.Z3 q.Z4.ZY q.Z4.Zu q.Z4.ZZ (t:Int) =
   o.bind (fun s:Yp=>ag s.Z2 s.p'.Zu s.p'.ZE s.p'.ZF s.p'.ZG s.Z3 s.Z4.ZY s.Z4.Zu s.Z4.ZZ ((j+1:Nat):Int)) /\
   Ck o q (t≠1/\(t=2->a.Op=str [61,61]/\a.Zx.N=0/\a.Zy.N=0)) [] 0:=by
  intro j m a q t ag x ht;refine ⟨bif ((t:Int)==1) || (((t:Int)==2) && (!(a.Op.toList==(str [61,61]).toList) || (a.Zx.N != 0 || a.Zy.N != 0))) then z46 N q m.Zu 11 else some q,?_,(Ck.test (by decide)).iff ?_⟩
  ·unfold BI;rw [XQ (by omega)];cases ((t:Int)==1)<;>cases ((t:Int)==2)<;>cases (a.Op.toList==(str [61,61]).toList)<;>cases (a.Zx.N != 0)<;>cases (a.Zy.N != 0)<;>rfl
  ·simp only [cw,eC,l5,Zsp,bne_eq_false_iff_eq,ne_eq];constructor
   ·rintro ⟨E,w⟩;refine ⟨fun e=>E (by rw [e];rfl),fun e=>?_⟩;rcases w with w | w
    ·exact absurd (by rw [e];rfl) w
    ·exact ⟨w.1,w.2.1,w.2.2⟩
   ·rintro ⟨E,w⟩;refine ⟨fun e=>E (by omega),?_⟩;by_cases e:t=2
    ·have ⟨r1,r2,r3⟩:=w e;exact .inr ⟨r1,r2,r3⟩
    ·exact .inl (by omega)
 -- kinds, on one side
 have y:∀ (m:Ys) (t:Y5) (q:Yp) (k:Int),∃ o:Option Yp,o=(bif (t.Zt==3) && (k != 2) then z46 N q m.Zu 11 else some q)/\Ck o q (t.Zt=3->k=2) [] 0:=by intro m t q k;refine ⟨_,rfl,(Ck.test (by decide)).iff ?_⟩;simp only [eC,l5,bne_eq_false_iff_eq];by_cases h:t.Zt=3<;>simp [h]
 have k9:∀ (m:Ys) (u v:Int) (q:Yp) (D i:Nat) (ag) (t:Y5),(i=0\/i=1)->D<=1 ->
   Gl N m u v q.Z2 q.p'.Zu q.p'.ZE q.p'.ZF q.p'.ZG q.Z3 q.Z4.ZY q.Z4.Zu q.Z4.ZZ (D:Int) (i:Int) ag t.Zt t.Zw t.Field t.N =
   (bif (t.Zt==3) && ((if i=0 then u else v) != 2) then z46 N q m.Zu 11 else some q).bind fun s:Yp =>
    ag s.Z2 s.p'.Zu s.p'.ZE s.p'.ZF s.p'.ZG s.Z3 s.Z4.ZY s.Z4.Zu s.Z4.ZZ ((D+(bif t.Zt==2 then (bif (if i=0 then u else v)==2 then 1 else 0) else 0):Nat):Int) ((i+1:Nat):Int):=by
  intro m u v q D i ag t hi X;have k7:∀ q:Yp,Gj u v (D:Int) (i:Int) ag t.Zt q.Z2 q.p'.Zu q.p'.ZE q.p'.ZF q.p'.ZG q.Z3 q.Z4.ZY q.Z4.Zu q.Z4.ZZ =
    ag q.Z2 q.p'.Zu q.p'.ZE q.p'.ZF q.p'.ZG q.Z3 q.Z4.ZY q.Z4.Zu q.Z4.ZZ ((D+(bif t.Zt==2 then (bif (if i=0 then u else v)==2 then 1 else 0) else 0):Nat):Int) ((i+1:Nat):Int):=by
   intro q;unfold Gj;rw [XQ (n:=D) (by omega),XQ (n:=i) (by omega)];rcases hi with rfl | rfl
   ·rw [lg rfl];cases (t.Zt==2)<;>cases (u==2)<;>rfl
   ·rw [lh (by omega)];cases (t.Zt==2)<;>cases (v==2)<;>rfl
  unfold Gl Gk;simp only [k7];rcases hi with rfl | rfl
  ·rw [lg rfl];cases (t.Zt==3)<;>cases (u != 2)<;>rfl
  ·rw [lh (by omega)];cases (t.Zt==3)<;>cases (v != 2)<;>rfl
 have F:∀ (m:Ys) (u v:Int) (q:Yp) (i:Nat) (ag) (t:Y5),(i=0\/i=1)->q.Z2=c.Z2->q.p'=c.p'->m.Zz.length<=4194304 ->
   Gi N m q.Z2 q.p'.Zu q.p'.ZE q.p'.ZF q.p'.ZG q.Z3 q.Z4.ZY q.Z4.Zu q.Z4.ZZ u v (i:Int) ag t.Zt t.Zw t.Field t.N =
   (bif !(t.Zt==1) && (kd c.p' m t==0) then z46 N q m.Zu 10 else some q).bind fun s:Yp =>
    ag s.Z2 s.p'.Zu s.p'.ZE s.p'.ZF s.p'.ZG s.Z3 s.Z4.ZY s.Z4.Zu s.Z4.ZZ (if i=0 then (bif t.Zt==1 then u else kd c.p' m t) else u) (if i=0 then v else (bif t.Zt==1 then v else kd c.p' m t)) ((i+1:Nat):Int):=by
  intro m u v q i ag t hi C z B;have G:=ZpF (N:=N) q m t (H.of C z) (Y q z) B;rw [z] at G;unfold Gi;rw [show (⟨q.Z2,⟨q.p'.Zu,q.p'.ZE,q.p'.ZF,q.p'.ZG⟩,q.Z3,⟨q.Z4.ZY,q.Z4.Zu,q.Z4.ZZ⟩⟩:Yp)=q from rfl,
   show (⟨t.Zt,t.Zw,t.Field,t.N⟩:Y5)=t from rfl,G,bS,XQ (n:=i) (by omega)]
  rcases hi with rfl | rfl
  ·cases (t.Zt==1)<;>cases (kd c.p' m t==0)<;>rfl
  ·cases (t.Zt==1)<;>cases (kd c.p' m t==0)<;>rfl
 -- one atom
 have one:∀ (j:Nat) (m:Ys) (a:Xw) (q:Yp) (ag),j < 4194304->m.Zz.length<=4194304->q.Z2=c.Z2->q.p'=c.p'->∃ o,Ri N m (j:Int) ag a N q.Z2 q.p'.Zu q.p'.ZE q.p'.ZF q.p'.ZG q.Z3 q.Z4.ZY q.Z4.Zu q.Z4.ZZ (0:Int) (0:Int) (0:Int) =
   o.bind (fun s:Yp=>ag s.Z2 s.p'.Zu s.p'.ZE s.p'.ZF s.p'.ZG s.Z3 s.Z4.ZY s.Z4.Zu s.Z4.ZZ ((j+1:Nat):Int))/\Ck o q (Qq c.p' m a) [] 0:=by
  intro j m a q ag x B C z;obtain ⟨M,rfl⟩:∃ M,N=M+3:=⟨N-3,by omega⟩
  have t1:=fun (t:Y5) (q:Yp)=>Ck.test (N:=M+3) (b := !(t.Zt==1) && (kd c.p' m t==0)) (c:=q) (nm:=m.Zu) (e:=10) (by decide);have ⟨s,e2,R⟩:=t1 a.Zx q;have ⟨c3,e3,g3⟩:=t1 a.Zy s;obtain ⟨_,rfl,c4,e4,g4⟩:=y m a.Zx c3 (SU c.p' m a.Zx);obtain ⟨_,rfl,c5,e5,g5⟩:=y m a.Zy c4 (SU c.p' m a.Zy);have X:TG c.p' m a.Zx<=1/\TG c.p' m a.Zy<=1:=by
   unfold TG;constructor
   ·cases (a.Zx.Zt==2)<;>cases (SU c.p' m a.Zx==2)<;>simp
   ·cases (a.Zy.Zt==2)<;>cases (SU c.p' m a.Zy==2)<;>simp
  have ⟨o,e6,c6,e7,g6⟩:=k5 j m a c5 (TG c.p' m a.Zx+TG c.p' m a.Zy) ag x (by omega);refine ⟨o,?_,c6,e7,?_⟩
  ·have a1:s.Z2=c.Z2:=by rw [R.all,C]
   have p1:s.p'=c.p':=by rw [R.p,z]
   rw [Ri,show decide ((0:Int) < 2)=true from rfl,cT,show ((0:Int)==0)=true from rfl,cT];rw [show (0:Int)=((0:Nat):Int) from rfl,F m _ _ q 0 _ a.Zx (.inl rfl) C z B,e2,bS,lg rfl,lg rfl];rw [Ri,show decide (((0+1:Nat):Int) < 2)=true from rfl,cT,show (((0+1:Nat):Int)==0)=false from rfl,cF,show (((0+1:Nat):Int)==1)=true from rfl,cT];rw [F m _ _ s (0+1) _ a.Zy (.inr rfl) a1 p1 B,e3,bS,lh (by omega),lh (by omega)];rw [Ri,show decide (((0+1+1:Nat):Int) < 2)=false from rfl,cF];unfold Zdf;rw [Sv,show decide ((0:Int) < 2)=true from rfl,cT,show ((0:Int)==0)=true from rfl,cT];rw [show (0:Int)=((0:Nat):Int) from rfl,k9 m _ _ c3 0 0 _ a.Zx (.inl rfl) (by omega),lg rfl];rw [show (bif a.Zx.Zt==1 then ((0:Nat):Int) else kd c.p' m a.Zx)=SU c.p' m a.Zx from rfl,e4,bS];rw [Sv,show decide (((0+1:Nat):Int) < 2)=true from rfl,cT,show (((0+1:Nat):Int)==0)=false from rfl,cF,show (((0+1:Nat):Int)==1)=true from rfl,cT];rw [show (0+(bif a.Zx.Zt==2 then (bif SU c.p' m a.Zx==2 then 1 else 0) else 0))=TG c.p' m a.Zx by unfold TG;simp];rw [k9 m _ _ c4 (TG c.p' m a.Zx) (0+1) _ a.Zy (.inr rfl) (by omega),lh (by omega)];rw [show (bif a.Zy.Zt==1 then ((0:Nat):Int) else kd c.p' m a.Zy)=SU c.p' m a.Zy from rfl,e5,bS];rw [Sv,show decide (((0+1+1:Nat):Int) < 2)=false from rfl,cF];exact e6
  ·refine ((((R.seq g3).seq g4).seq g5).seq g6).iff ?_;have hn:∀ t:Y5,(!(t.Zt==1) && (kd c.p' m t==0))=false↔(t.Zt=1\/kd c.p' m t≠0):=by intro t;simp only [eC,Bool.not_eq_false',l3,l5,ne_eq]
   unfold Qq;rw [hn,hn];constructor
   ·rintro ⟨⟨⟨⟨E,w⟩,S⟩,T⟩,U,V⟩;exact ⟨E,w,S,T,U,V⟩
   ·rintro ⟨E,w,S,T,U,V⟩;exact ⟨⟨⟨⟨E,w⟩,S⟩,T⟩,U,V⟩
 have ⟨o,e,g⟩:=Rz c.p'.ZF (fun n q i=>Vk N c n q.Z2 q.p'.Zu q.p'.ZE q.p'.ZF q.p'.ZG q.Z3 q.Z4.ZY q.Z4.Zu q.Z4.ZZ i)
  (fun c=>BG c.Z2 c.p'.Zu c.p'.ZE c.p'.ZF c.p'.ZG c.Z3 c.Z4.ZY c.Z4.Zu c.Z4.ZZ) eU (fun _ _=>rfl)
  (fun k m=>∀ (j:Nat) a,m.ZA[j]? = some a->Qq c.p' m a) (fun _=>[]) (fun _=>0) c.Z2 c.p' c.Z3.length
  (fun n k m q A C z _=>by
   have Z:=YC A;have ⟨W,hf2⟩:=hf m (Zb A);simp only [Vk,YY Z,cT,YL,A,bS];have ⟨o,e,g⟩:=Rz m.ZA (fun I q i=>Uf N (k:Int) (fun a b L d e f g h i j=>Vk N c n a b L d e f g h i j) m I q.Z2 q.p'.Zu q.p'.ZE q.p'.ZF q.p'.ZG q.Z3 q.Z4.ZY q.Z4.Zu q.Z4.ZZ i)
    (fun q=>BH (k:Int) (fun a b L d e f g h i j=>Vk N c n a b L d e f g h i j) q.Z2 q.p'.Zu q.p'.ZE q.p'.ZF q.p'.ZG q.Z3 q.Z4.ZY q.Z4.Zu q.Z4.ZZ) eU (fun _ _=>rfl)
    (fun _ a=>Qq c.p' m a) (fun _=>[]) (fun _=>0) c.Z2 c.p' q.Z3.length
    (fun I j a s x O P _=>by have hjl:=YC x;simp only [Uf,YY hjl,cT,YL,x,bS];exact one j m a s _ (by omega) W O P)
    (fun I j s x=>by simp only [Uf,YZ x,cF]) (N:=N) (by omega) q C z (by rw [UH];omega)
   rw [UH,PI] at g;refine ⟨o,e.trans ?_,g⟩;congr 1;funext s;unfold BH;rw [XQ (by omega)])
  (fun n k q A=>by simp only [Vk,YZ A,cF]) (N:=N) (by omega) c rfl rfl (by rw [UH];omega)
 rw [UH,PI] at g;have e':=e.trans (show (o.bind fun c=>BG c.Z2 c.p'.Zu c.p'.ZE c.p'.ZF c.p'.ZG c.Z3 c.Z4.ZY c.Z4.Zu c.Z4.ZZ)=o from Qw o);refine Eq.mp (lj (fun o=>Ck o c _ _ _) e'.symm) (g.iff ?_);constructor
 ·intro h m hm a C;have ⟨k,A⟩:=aZ.1 hm;have ⟨j,x⟩:=aZ.1 C;exact h k m A j a x
 ·exact fun h k m A j a x=>h m (Zb A) a (Zb x)
end
def Dc (x:Yj):List be:=if x.Zt=6 then [x.Zu] else []
mutual
def PC:Yj->List be
 | ⟨k,f,t,n,a,x,b⟩=>Dc ⟨k,f,t,n,a,x,b⟩++SJ b
def VJ:List Yj->List be
 | []=>[]
 | x::l=>PC x++VJ l
def SJ:List (List Yj)->List be
 | []=>[]
 | b::r=>VJ b++SJ r
end
theorem Zoy (x:Yj):PC x=Dc x++SJ x.ZD:=by cases x;simp only [PC]
theorem Zh6:∀ (l:List Yj) (s:List be),l.foldl (fun s x=>s++PC x) s=s++VJ l
 | [],s=>by simp [VJ]
 | x::l,s=>by rw [eh,Zh6 l];simp only [VJ,aA]
theorem Zh5:∀ (l:List (List Yj)) (s:List be),l.foldl (fun s x=>s++VJ x) s=s++SJ l
 | [],s=>by simp [SJ]
 | x::l,s=>by rw [eh,Zh5 l];simp only [SJ,aA]
mutual
theorem Zh7:∀ x,(PC x).length<=cI x
 | ⟨k,f,t,n,a,x,b⟩=>by
  have:=Zh8 b;have h:(Dc ⟨k,f,t,n,a,x,b⟩).length<=1:=by unfold Dc;split<;>simp
  simp only [PC,cI,lA];omega
theorem Zau:∀ l,(VJ l).length<=cL l
 | []=>by simp [VJ,cL]
 | x::l=>by have:=Zh7 x;have:=Zau l;simp only [VJ,cL,lA];omega
theorem Zh8:∀ l,(SJ l).length<=XA l
 | []=>by simp [SJ,XA]
 | x::l=>by have:=Zau x;have:=Zh8 l;simp only [SJ,XA,lA];omega
end
theorem ZhY:∀ (N:Nat) (xs:List Yj),4194306+dL xs<=N->xs.length<=4194304->bL xs->cL xs<=4194304->Mk N xs=some (VJ xs)
 | 0,_,h,_,_,_=>by omega
 | N+1,xs,h,hs,hb,hc=>by
  show DY N (Mk N) xs=_;unfold DY;have hN:4194304 < N:=by omega
  have a:∀ (k:Nat) (x:Yj) (s:List be) (ag:List be->Int->Option (List be)),xs[k]? = some x->s.length+XA x.ZD<=4194304 ->
    HM N (Mk N) (k:Int) ag x s=ag (s++SJ x.ZD) ((k+1:Nat):Int):=by
   intro k x s ag c m;have u:=Zb c;have o:=(Qt _).1 (Rv hb u);have p:=RC u;rw [RB] at p;have t:=YC c;unfold HM;have:=(TZ x.ZD (Ml (Mk N) (k:Int) ag x) (fun s b=>s++VJ b) (fun s=>ag s ((k+1:Nat):Int))
    (fun j s=>s.length+XA (x.ZD.drop j)<=4194304) (fun n j s b hi d=>?_) (fun n j s hi d=>?_) (N:=N) (s:=s) (by omega) (by rw [dZ];exact m)).1
   ·rw [this,Zh5]
   ·rw [LL d] at hi;simp only [XA] at hi;have f:=Zb d;have g:=Ru o.2.2 f;have v:=SL f;have q:=Zau b;have e:=ZhY N b (by omega) g.1 g.2 (by omega);refine ⟨?_,by rw [lA];omega⟩;simp only [Ml,YY (YC d),cT,YL,d,bS,e];rw [X6 (by omega),bS,Xa (by have:=YC d;omega)]
   ·simp only [Ml,YZ d,cF,ZbP];rw [Xa (by omega)]
  have:=(TZ xs (So N (Mk N) xs) (fun s x=>s++PC x) (fun s=>some s)
   (fun j s=>s.length+cL (xs.drop j)<=4194304) (fun n k s x hi c=>?_) (fun n k s hi t=>?_) (N:=N) (s:=[]) (by omega) (by rw [dZ];simpa using hc)).1
  ·rw [this,Zh6];simp
  ·rw [LL c] at hi;simp only [cL] at hi;have w:=PA x;have q:=Zh7 x;refine ⟨?_,by rw [lA];omega⟩;simp only [So,YY (YC c),cT,YL,c,bS];rw [Zoy];unfold Dc;by_cases i:x.Zt=6
   ·rw [show (x.Zt==(6:Int))=true by simpa using i,cT,X6 (by simp;omega),bS,a k x _ _ c (by simp;omega),lg i,aA]
   ·rw [show (x.Zt==(6:Int))=false by simpa using i,cF,a k x _ _ c (by omega),lh i,ar]
  ·simp only [So,YZ t,cF,ZbO]
theorem Zrj (h:k<=xs.length):lsl xs (some (k:Int)) none=some (xs.drop k):=by
 unfold lsl WJ;have a:decide ((0:Int)<=(k:Int))=true:=by simp
 have b:decide ((k:Int)<=(xs.length:Int))=true:=by simp;exact h
 simp [a,b,h]
theorem Zou (z:α) (h:k<=xs.length):∃ ys,LG z xs (some (k:Int)) none=some ys/\ys.take k=xs.take k/\ys.length=xs.length:=by
 unfold LG WJ;have a:decide ((0:Int)<=(k:Int))=true:=by simp
 have b:decide ((k:Int)<=(xs.length:Int))=true:=by simp;exact h
 refine ⟨xs.take k++aP (xs.length-k) z,?_,?_,?_⟩
 ·simp [a,b,h]
 ·rw [bw (by rw [aL];omega),List.take_take];simp
 ·rw [lA,aL,List.length_replicate];omega
theorem ZnJ (p:α->Bool) (xs:List α) {i:Nat} (h:XY p xs=(i:Int)):∃ x,xs[i]? = some x/\p x=true/\∀ (j:Nat) y,j < i->xs[j]? = some y->p y=false:=by
 unfold XY at h;cases e:xs.findIdx? p with
 | none=>rw [e] at h;simp at h
 | some k =>
  rw [e] at h;have g:k=i:=by simp at h;omega
  subst g;rw [fh] at e;have ⟨c,d,f⟩:=e;refine ⟨xs[k],Za c,d,fun j y a b=>?_⟩;have:=f j a;obtain ⟨_,rfl⟩:=aE.1 b;simpa using this
theorem ZbB (h:xs[k]? = some x):xs.take (k+1)=xs.take k++[x]:=by obtain ⟨a,rfl⟩:=aE.1 h;rw [List.take_succ_eq_append_getElem a]
theorem ZoL (c:Yp) (s:List be) (I:s.length < N) (L:s.length < 4611686018427387904) (E:c.Z2.length < N) (g:c.Z2.length < 4611686018427387904) :
  DZ N s c=some (s.filter fun x=>c.Z2.any fun q=>q.Zu.toList==x.toList):=by
 unfold DZ;rw [ZqF s c I L E g,bS];generalize H:(fun x:be=>c.Z2.any fun q=>q.Zu.toList==x.toList)=K;have B:(fun x:be => !(c.Z2.any fun q=>q.Zu.toList==x.toList))=fun x => !(K x):=by rw [<- H]
 rw [B];rcases TS (fun x:be => !(K x)) s with ⟨u,w⟩ | ⟨i0,X,u,w,Y⟩
 ·rw [u,show ((-1:Int)==-1)=true from rfl,cT];congr 1;rw [fU] at w;refine (jv.2 fun x b=>?_).symm;have:=w x b;simpa using this
 ·have T:=ZnJ _ _ u;rw [u,show ((i0:Int)==-1)=false by simp,cF];have U:=YC w;rw [XQ (by omega)];have V:∀ x,Mm N x c=some (!(K x)):=fun x=>by unfold Mm;rw [ZhZ c.Z2 x E g,<- H];rfl
  have key:∀ (l:List be) (j i n:Nat) (v:List be),s.drop j=l->l.length < n->i < j->v.length=s.length->v.take i=(s.take j).filter K->v.drop j=s.drop j->i<=s.length ->
    Q6 N c n v (i:Int) (j:Int)=some (s.filter K):=by
   intro l;induction l with
   | nil =>
    intro j i n v h m z A f t o;obtain ⟨n,rfl⟩:=pS n (by simp at m;omega);have k:=XP h;have p:i<=v.length:=by omega
    simp only [Q6];rw [show decide ((j:Int) < (v.length:Int))=false by simp;omega,cF];unfold ZbT;have ⟨ys,M,O,W⟩:=Zou (str []) p;rw [Zrj p,bS,M,bS,PS (by omega),bS,O,f,bY k]
   | cons x l G =>
    intro j i n v h m z A f t o;obtain ⟨n,rfl⟩:=pS n (by simp at m;omega);have ⟨a,e,d⟩:=XW h;have ⟨P,R,F⟩:=XW (t.trans h);simp only [Q6];rw [YY P,cT,YL,R,bS,V,bS,Bool.not_not];have C:v[i]? = some v[i]:=Za (by omega);cases b:K x with
    | true =>
     rw [cT,YL,C,bS,W4,XQ (by omega),XQ (by omega)];refine G (j+1) (i+1) n (v.set i x) d (by simp at m;omega) (by omega) (by rw [List.length_set];exact A) ?_ ?_ (by omega)
     ·rw [ZbB e,iC,<- f,gH,b,ZbB (x:=x) (by rw [List.getElem?_set_self (by omega)]),List.take_set_of_le (Zq _),lg rfl,List.filter_nil]
     ·rw [List.drop_set_of_lt (by omega),F,d]
    | false =>
     rw [cF,XQ (by omega)];refine G (j+1) i n v d (by simp at m;omega) (by omega) A ?_ (by rw [F,d]) o;rw [ZbB e,iC,<- f,gH,b];simp
  refine key _ (i0+1) i0 N s rfl (by rw [bg];omega) (by omega) rfl ?_ rfl (by omega);have ⟨y,S,f,t⟩:=T;rw [ZbB S,iC,gH,lh (by simpa using f),List.filter_nil,bn];refine (jv.2 fun x b=>?_).symm;have ⟨j,k⟩:=aZ.1 b;have D:=YC k;rw [aL] at D;rw [List.getElem?_take,lg (by omega)] at k;have:=t j x (by omega) k;simpa using this
def Zhj (all:List Ym) (a b:be):Prop:=(∃ q,all.find? (fun q=>q.Zu.toList==a.toList)=some q/\b∈VJ q.ZG)/\∃ q∈all,q.Zu=b
def Zac (all:List Ym):Nat->be->be->Prop
 | 0,a,b=>a=b
 | n+1,a,c=>∃ b,Zac all n a b/\Zhj all b c
def Lk (all:List Ym) (p:Ym):Prop:=∀ b,¬ Zac all 5 p.Zu b
def VH (l:List Ym):Nat:=(l.map fun q=>cL q.ZG).sum
theorem ZpH (all:List Ym) (k:Nat) (q:Ym) (c:all[k]? = some q):XY (fun x:Ym=>x.Zu.toList==q.Zu.toList) all=(k:Int)->all.find? (fun x=>x.Zu.toList==q.Zu.toList)=some q:=by
 intro h;rcases TS (fun x:Ym=>x.Zu.toList==q.Zu.toList) all with ⟨a,_⟩ | ⟨i,x,a,b,d⟩
 ·rw [a] at h;omega
 ·have:i=k:=by rw [a] at h;omega
  subst this;rw [c] at b;cases b;exact d
theorem ZpG (all:List Ym) (a:be) (q:Ym) (h:all.find? (fun x=>x.Zu.toList==a.toList)=some q):q.Zu=a/\∃ k:Nat,all[k]? = some q/\XY (fun x:Ym=>x.Zu.toList==q.Zu.toList) all=(k:Int):=by
 have e:q.Zu=a:=by have:=List.find?_some h;exact UG.1 this
 subst e;refine ⟨rfl,?_⟩;rcases TS (fun x:Ym=>x.Zu.toList==q.Zu.toList) all with ⟨_,b⟩ | ⟨i,x,b,d,c⟩
 ·rw [b] at h;cases h
 ·rw [h] at c;cases c;exact ⟨i,d,b⟩
theorem Zop (c:Yp) (Y:Sz N c) (M:∀ q∈c.Z2,8388611+dL q.ZG<=N/\q.ZG.length<=4194304/\bL q.ZG) (hc:VH c.Z2<=4194304):Ck (z51 N c) c (Lk c.Z2 c.p') [] 0:=by
 have hN:=Y.n;have ha:=Y.a;unfold z51;have I:∀ k,VH (c.Z2.drop k)<=VH c.Z2:=by intro k;have:=lj (fun l=>VH l) (cC k c.Z2);simp only [VH,List.map_append,List.sum_append] at this ⊢;omega
 -- one z
 have z:∀ (f:List be) (i:Int) (ag:List be->Int->Option Yp),f.length<=4194304->∃ nx:List be,nx.length<=4194304/\(∀ b,b∈nx↔∃ a∈f,Zhj c.Z2 a b) /\
   Sw N c f i ag N [] (0:Int)=ag nx (Yh (i+1)):=by
  intro f i ag w;have key:∀ (l:List Ym) (k n:Nat) (s:List be),c.Z2.drop k=l->l.length < n->s.length+VH l<=4194304 ->
    ∃ nx,Sw N c f i ag n s (k:Int)=Gn N c i ag (s++nx)/\(s++nx).length<=4194304 /\
     ∀ b,b∈nx↔∃ (j:Nat) (q:Ym),l[j]? = some q/\XY (fun x:Ym=>x.Zu.toList==q.Zu.toList) c.Z2=((k+j:Nat):Int)/\q.Zu∈f/\b∈VJ q.ZG:=by
   intro l;induction l with
   | nil =>
    intro k n s h F C;obtain ⟨n,rfl⟩:=pS n (by simp at F;omega);refine ⟨[],?_,by simp [VH] at C ⊢;omega,by simp⟩;simp only [Sw,YZ (XP h),cF,bn]
   | cons p l X =>
    intro k n s h F C;obtain ⟨n,rfl⟩:=pS n (by simp at F;omega);have ⟨a,e,d⟩:=XW h;have ⟨hb1,O,P⟩:=M p (Zb e);have hcn:=Zau p.ZG;have e0:VH (p::l)=cL p.ZG+VH l:=by simp [VH]
    rw [e0] at C;have W:=I k;rw [h,e0] at W;have A:∀ (s':List be) (Z:Prop),s'.length+VH l<=4194304->(∃ t,s'=s++t/\∀ b,b∈t↔(XY (fun x:Ym=>x.Zu.toList==p.Zu.toList) c.Z2=(k:Int)/\p.Zu∈f/\b∈VJ p.ZG)) ->
      ∃ nx,Sw N c f i ag n s' ((k+1:Nat):Int)=Gn N c i ag (s++nx)/\(s++nx).length<=4194304 /\
       ∀ b,b∈nx↔∃ (j:Nat) (q:Ym),(p::l)[j]? = some q/\XY (fun x:Ym=>x.Zu.toList==q.Zu.toList) c.Z2=((k+j:Nat):Int)/\q.Zu∈f/\b∈VJ q.ZG:=by
     rintro s' _ R ⟨t,rfl,ht⟩;have ⟨nx,E,G,H⟩:=X (k+1) n (s++t) d (by simp at F;omega) R;refine ⟨t++nx,by rw [E,aA],by rw [<- aA];exact G,fun b=>?_⟩;rw [Zk,ht,H];constructor
     ·rintro (g | ⟨j,q,u,v,B⟩)
      ·exact ⟨0,p,rfl,g.1,g.2⟩
      ·exact ⟨j+1,q,by rw [bE];exact u,by rw [v];congr 1;omega,B⟩
     ·rintro ⟨j,q,u,v,B⟩;cases j with
      | zero=>simp only [aX,aR] at u;subst u;exact .inl ⟨v,B⟩
      | succ j=>rw [bE] at u;exact .inr ⟨j,q,u,by rw [v];congr 1;omega,B⟩
    simp only [Sw,YY a,cT,YL,e,bS];rw [ZqE c.Z2 p (by omega) (by omega),bS,XQ (by omega)];by_cases L:XY (fun x:Ym=>x.Zu.toList==p.Zu.toList) c.Z2=(k:Int)
    ·rw [L,l7,cT,G2 f (by omega) (by omega),bS];cases y:RI p.Zu f with
     | true =>
      have y:=(RJ _ _).1 y;rw [cT,ZhY N p.ZG (by omega) O P (by omega),bS,X6 (by omega),bS];refine A (s++VJ p.ZG) True (by rw [lA];omega) ⟨_,rfl,fun b=>?_⟩;exact ⟨fun g=>⟨L,y,g⟩,fun g=>g.2.2⟩
     | false =>
      have y:¬ p.Zu∈f:=fun h=>by rw [(RJ _ _).2 h] at y;cases y
      rw [cF];exact A s True (by omega) ⟨[],by simp,fun b=>by simp [y]⟩
    ·rw [show (XY (fun x:Ym=>x.Zu.toList==p.Zu.toList) c.Z2==(k:Int))=false by simpa using L,cF];exact A s True (by omega) ⟨[],by simp,fun b=>by simp [L]⟩
  obtain ⟨nx,E,G,H⟩:=key _ 0 N [] rfl (by simp;omega) (by simpa using hc);rw [ar] at E G;refine ⟨(TX (S8 nx)).filter fun x=>c.Z2.any fun q=>q.Zu.toList==x.toList,?_,fun b=>?_,?_⟩
  ·have L:=List.length_filter_le (fun x=>c.Z2.any fun q=>q.Zu.toList==x.toList) (TX (S8 nx));have y:=Zaw (S8 nx);have h3:=Zf8 nx;omega
  ·rw [List.mem_filter,Zru,(ZlQ nx).mem_iff,H,cR];constructor
   ·rintro ⟨⟨j,q,u,v,B,S⟩,T,U,V⟩;rw [dZ] at u;rw [au] at v;exact ⟨q.Zu,B,⟨q,ZpH _ _ _ u v,S⟩,T,U,UG.1 V⟩
   ·rintro ⟨a,u,⟨q,v,B⟩,T,S,U⟩;obtain ⟨rfl,k,V,g7⟩:=ZpG _ _ _ v;exact ⟨⟨k,q,by rw [dZ];exact V,by rw [au];exact g7,u,B⟩,T,S,UG.2 U⟩
  ·rw [show (0:Int)=((0:Nat):Int) from rfl,E];unfold Gn ZbR ZbS;have y:=Zaw (S8 nx);have h3:=Zf8 nx;rw [dT (by omega),cT,bS,dT (by omega),cT,bS,ZoL c _ (by omega) (by omega) (by omega) (by omega),bS]
 have D:∀ (m i:Nat) (f:List be),f.length<=4194304->(∀ b,b∈f↔Zac c.Z2 i c.p'.Zu b)->i+m=5->∀ n,m < n ->
   Ck (Rj N c n f (i:Int)) c (Lk c.Z2 c.p') [] 0:=by
  intro m;induction m with
  | zero =>
   intro i f w o hi n F;obtain ⟨n,rfl⟩:=pS n (by omega);have hi:i=5:=by omega
   subst hi;rw [Rj,show decide (((5:Nat):Int) < 5)=false from rfl,cF];unfold Zdh;simp only [Qw];refine (Ck.test (by decide)).iff ?_;unfold Lk;rw [lX];constructor
   ·intro h b M;have:=(o b).2 M;cases f with
    | nil=>cases this
    | cons x l=>exact h (by simp)
   ·intro h y;cases f with
    | nil=>simp at y
    | cons x l=>exact h x ((o x).1 (by simp))
  | succ m X =>
   intro i f w o hi n F;obtain ⟨n,rfl⟩:=pS n (by omega);rw [Rj,show decide ((i:Int) < 5)=true by simp;omega,cT];have ⟨nx,E,G,H⟩:=z f (i:Int) (Rj N c n) w;rw [H,XQ (by omega)];refine X (i+1) nx E (fun b=>?_) (by omega) n (by omega);rw [G];constructor
   ·rintro ⟨a,u,v⟩;exact ⟨a,(o a).1 u,v⟩
   ·rintro ⟨a,u,v⟩;exact ⟨a,(o a).2 u,v⟩
 exact D 5 0 [c.p'.Zu] (by simp) (fun b=>by simp [Zac,eq_comm]) rfl N (by omega)
abbrev Tok:=YN
def marksL:List be:=[(str [60]),(str [60,61]),(str [61,61]),(str [62,61]),(str [62])]
section
variable {N:Nat} (hN:4194304 < N)
end
section
variable {N:Nat} (hN:4194304 < N)
end
section
variable (l:List Tok)
variable {l}
theorem Zmo {s:be} (h:WG s=true):s.size<=16:=by
 rw [W9];unfold WG Dd at h;rw [Zc] at h;cases a:bs s with
 | nil=>simp
 | cons x l =>
  rw [a] at h;have:=h.1;simp only [Zc,lU] at this;simp only [Zf];omega
end
section
variable {l:List Tok}
end
section
theorem Dq.ite {c:Bool} {C P:Prop} {o1 a:Option Bool} (b:c=true↔C) (d:C->Dq o1 P) (e:¬C->Dq a P):Dq (bif c then o1 else a) P:=by
 cases c with
 | false=>exact e (fun h=>by have:=b.2 h;cases this)
 | true=>exact d (b.1 rfl)
theorem Dq.of {o:Option Bool} {b:Bool} {P:Prop} (h:o=some b) (a:b=true↔P):Dq o P:=⟨b,h,a⟩
theorem Dq.dec {P:Prop} [Decidable P] {Q:Prop} (h:P↔Q):Dq (some (decide P)) Q:=⟨decide P,rfl,by rw [lU,h]⟩
theorem ZaE {α:Type} {xs:List α} (p:xs.length<=4194304) {P:α->Prop} (F:Nat->Int->Option Bool) {E:Prop}
  (i:∀ (n k:Nat) x Q,k < 4194304->xs[k]? = some x->(P x->Dq (F n ((k+1:Nat):Int)) Q)->Dq (F (n+1) (k:Int)) (P x/\Q))
  (j:(∀ x∈xs,P x)->∀ (n k:Nat),xs.length<=k->Dq (F (n+1) (k:Int)) E) {N:Nat} (hN:xs.length < N):Dq (F N (0:Int)) ((∀ x∈xs,P x)/\E):=by
 have key:∀ (l:List α) (k n:Nat),xs.drop k=l->l.length < n->(∀ x∈xs.take k,P x)->Dq (F n (k:Int)) ((∀ x∈l,P x)/\E):=by
  intro l;induction l with
  | nil =>
   intro k n h e f;obtain ⟨n,rfl⟩:=pS n (by simp at e;omega);have g:=XP h;rw [bY g] at f;exact (j f n k g).iff ⟨fun h=>⟨by simp,h⟩,fun h=>h.2⟩
  | cons x l o =>
   intro k n h e f;obtain ⟨n,rfl⟩:=pS n (by simp at e;omega);have ⟨a,c,d⟩:=XW h;refine (i n k x _ (by omega) c fun m=>o (k+1) n d (by simp at e;omega) ?_).iff ?_
   ·intro y b;rw [List.take_add_one,c] at b;rcases List.mem_append.1 b with b | b
    ·exact f y b
    ·simp at b;subst b;exact m
   ·simp only [Zl,forall_eq_or_imp,and_assoc]
 have:=key xs 0 N rfl hN (by simp);exact this
variable {N:Nat} (hN:4194304 < N)
include hN in
theorem Zmn (s:be):Vs N s=some (WG s):=by
 by_cases a:s.size<=4194304
 ·exact Zmm hN s a
 ·have c:bs s≠[]:=fun h=>by rw [W9,h] at a;simp at a
  have d:WG s=false:=by
   cases h:WG s with
   | false=>rfl
   | true=>have:=Zmo h;omega
  obtain ⟨x,l,b⟩:∃ x l,bs s=x::l:=by
   cases h:bs s with
   | nil=>exact absurd h c
   | cons x l=>exact ⟨x,l,rfl⟩
  have e:(s.toList==(str []).toList)=false:=by rw [U6,U6,b];rfl
  have f:decide ((s.size:Int) > 16)=true:=dT (by omega);have g:XL s (0:Int)=some (x.toNat:Int):=by rw [show XL s (0:Int)=XL s ((0:Nat):Int) from rfl,DI,b];rfl
  rw [d];unfold Vs Gt;rw [e,f,g];simp only [cF,cT,bS]
include hN in
theorem Md (s:be):Dq (Vs N s) (WG s=true):=Dq.of (Zmn hN s) fj
include hN in
theorem Zbn (s:be):Dq (Qm N s) (UZ s=true):=Dq.of (ZsN hN s) fj
theorem Tj {a:be}:(a.toList==(str []).toList)=true↔a=str []:=UG
def Lu (l:List be) (k:Nat):Prop:=1<=l.length/\l.length<=k/\∀ w∈l,WG w=true
include hN in
theorem Zgk (l:List be) (c:l.length<=4194304) (k:Nat):Dq (MQ N l (k:Int)) (Lu l k):=by
 unfold MQ;refine Dq.cA (by rw [lU];omega) fun _=>Dq.cA (by rw [lU];omega) fun _=>?_;unfold ZdE Zcp;rw [Yg l c (fun x k r=>bif !WG x then some k else r) (MA N l) (some (-1)) hN]
 ·have ⟨i,d,e⟩:=Zgj (fun x => !WG x) l 0;rw [d];simp only [bS];refine ⟨_,rfl,?_⟩;rw [e];simp
 ·intro n k x a b;simp only [MA,YY (YC b),cT,YL,b,bS,z87,Zmn hN x,Xa (show k < 4611686018427387904 by omega)]
 ·intro n k a;simp only [MA,YZ a,cF,Zcq]
def Te (x:Yj):Prop :=
 (x.Zt=1/\WG x.ZB=true/\Lu x.To 5/\UZ x.Zu=true/\x.As=str []/\x.ZC=0/\x.ZD.length=0) \/
 (x.Zt=2/\WG x.ZB=true/\x.To.length=0/\x.Zu=str []/\x.As=str []/\0<=x.ZC/\x.ZC<=1000/\1+min x.ZC 1<=(x.ZD.length:Int)/\x.ZD.length<=8) \/
 (x.Zt=3/\x.ZB=str []/\x.To.length=0/\UZ x.Zu=true/\x.As=str []/\x.ZC=0/\x.ZD.length=1) \/
 (x.Zt=4/\x.ZB=str []/\x.To.length=0/\UZ x.Zu=true/\x.As=str []/\x.ZC=0/\x.ZD.length=0) \/
 (x.Zt=5/\x.ZB=str []/\x.To.length=0/\x.Zu=str []/\x.As=str []/\x.ZC=0/\2<=x.ZD.length/\x.ZD.length<=8) \/
 (x.Zt=6/\x.ZB=str []/\Lu x.To 6/\WG x.Zu=true/\WG x.As=true/\x.ZC=0/\x.ZD.length=0)
theorem Dj {n:Nat}:((n:Int)==0)=true↔n=0:=by simp
include hN in
theorem ZtU (x:Yj) (s:x.To.length<=4194304):Dq (BV N x) (Te x):=by
 unfold BV;refine Dq.ite Us (fun m=>?_) fun m=>Dq.ite Us (fun n=>?_) fun n=>?_
 ·refine (Dq.bA (Md hN _) fun _=>Dq.bA (Zgk hN _ s 5) fun _=>Dq.bA (Zbn hN _) fun _=>Dq.cA Tj fun _=>Dq.cA Us fun _=>Dq.of rfl Dj).iff ?_;unfold Te;simp [m]
 ·refine (Dq.bA (Md hN _) fun _=>Dq.cA Dj fun _=>Dq.cA Tj fun _=>Dq.cA Tj fun _=>Dq.cA (C:=0<=x.ZC) decide_eq_true_iff fun _=>Dq.cA (C:=x.ZC<=1000) decide_eq_true_iff fun _ =>
   Dq.cA (C:=1+min x.ZC 1<=(x.ZD.length:Int)) ?_ fun _=>Dq.dec (Q:=x.ZD.length<=8) (by omega)).iff ?_
  ·rw [lU];unfold VA;rw [Wp (by split<;>omega) (by split<;>omega)];split<;>omega
  ·unfold Te;simp [n]
 have i:∀ k,(k=3/\x.Zt=3)\/(k=4/\x.Zt=4)->Dq (La N x true) (Te x):=by
  intro k i;unfold La;simp only [cT];refine (Dq.cA Tj fun _=>Dq.cA Dj fun _=>Dq.bA (Zbn hN _) fun _=>Dq.cA Tj fun _=>Dq.cA Us fun _=>Dq.cA (C:=x.Zt=3↔x.ZD.length=1) ?_ fun _=>Dq.dec (Q:=x.ZD.length<=1) (by omega)).iff ?_
  ·rw [l3,eo];simp;omega
  ·unfold Te;rcases i with ⟨_,i⟩ | ⟨_,i⟩
   ·simp only [i];constructor
    ·rintro ⟨a,b,c,d,e,f,g⟩;exact je (je (kJ ⟨trivial,a,b,c,d,e,by simpa using f⟩))
    ·rintro (h | h | h | h | h | h)<;>simp at h;have ⟨a,b,c,d,e,f⟩:=h;exact ⟨a,by simpa using b,c,d,e,by simpa using f,by omega⟩
   ·simp only [i];constructor
    ·rintro ⟨a,b,c,d,e,f,g⟩;refine je (je (je (kJ ⟨trivial,a,b,c,d,e,?_⟩)));have:¬ x.ZD.length=1:=fun h=>by simpa using f.2 h
     omega
    ·rintro (h | h | h | h | h | h)<;>simp at h;have ⟨a,b,c,d,e,f⟩:=h;have f:x.ZD.length=0:=by rw [f];rfl
     exact ⟨a,by simpa using b,c,d,e,⟨fun h=>by omega,fun h=>by omega⟩,by omega⟩
 refine Dq.ite Us (fun o=>i 3 (kJ ⟨rfl,o⟩)) fun o=>?_;cases j:(x.Zt==4) with
 | true=>exact i 4 (je ⟨rfl,Us.1 j⟩)
 | false =>
  have j:¬ x.Zt=4:=fun h=>by rw [h] at j;cases j
  unfold La;simp only [cF];refine Dq.ite Us (fun p=>?_) fun p=>Dq.ite Us (fun q=>?_) fun q=>?_
  ·refine (Dq.cA Tj fun _=>Dq.cA Dj fun _=>Dq.cA Tj fun _=>Dq.cA Tj fun _=>Dq.cA Us fun _=>Dq.cA (C:=2<=x.ZD.length) (by rw [lU];omega) fun _=>Dq.dec (Q:=x.ZD.length<=8) (by omega)).iff ?_;unfold Te;simp [p]
  ·refine (Dq.cA Tj fun _=>Dq.bA (Zgk hN _ s 6) fun _=>Dq.bA (Md hN _) fun _=>Dq.bA (Md hN _) fun _=>Dq.cA Us fun _=>Dq.of rfl Dj).iff ?_;unfold Te;simp [q]
  ·refine Dq.fa.iff ⟨fun h=>h.elim,fun h=>?_⟩;unfold Te at h;rcases h with h | h | h | h | h | h
   ·exact m h.1
   ·exact n h.1
   ·exact o h.1
   ·exact j h.1
   ·exact p h.1
   ·exact q h.1
end
mutual
def R5:Yj->Prop
 | ⟨k,f,t,n,a,x,b⟩=>Te ⟨k,f,t,n,a,x,b⟩/\U4 b
def Wz:List Yj->Prop
 | []=>True
 | x::l=>R5 x/\Wz l
def U4:List (List Yj)->Prop
 | []=>True
 | x::l=>Wz x/\U4 l
end
theorem Zf0 (x:Yj):R5 x↔Te x/\U4 x.ZD:=by cases x;simp only [R5]
def Vq (o:Option (Bool × Int)) (P:Prop) (m:Int):Prop:=∃ r k,o=some (r,k)/\(r=true↔P)/\(r=true->k=m)
theorem Vq.iff {o P Q m m'} (h:Vq o P m) (k:P↔Q) (e:Q->m=m'):Vq o Q m':=by have ⟨r,j,c,b,d⟩:=h;exact ⟨r,j,c,b.trans k,fun a=>(d a).trans (e (k.1 (b.1 a)))⟩
theorem Vq.fa {k:Int} {P:Prop} {m:Int} (h:¬P):Vq (some (false,k)) P m:=⟨false,k,rfl,by simp [h],fun h=>by cases h⟩
theorem ZuC {t:List Yj->Int->Int->Option (Bool × Int)} {d:Nat} {ag:Int->Int->Option (Bool × Int)} {x:Yj} {kz:List Yj} (B:d<=10) (C:k < 4194304) (v:x.ZD.length<=4194304)
  (o:∀ b∈x.ZD,∀ n:Nat,n<=300->Vq (t b ((d+1:Nat):Int) (n:Int)) (Wz b/\dL b+(d+1)<=11/\n+cL b<=300) ((n+cL b:Nat):Int))
  (p:∀ n:Nat,n<=300->Vq (ag (n:Int) ((k+1:Nat):Int)) (Wz kz/\dL kz+d<=11/\n+cL kz<=300) ((n+cL kz:Nat):Int)) :
  ∀ (g:List (List Yj)) (j f n:Nat),x.ZD.drop j=g->g.length < f->n<=300 ->
   Vq (MR t (d:Int) (k:Int) ag x f (n:Int) (j:Int)) (U4 g/\VK g+d<=10/\n+XA g<=300/\Wz kz/\dL kz+d<=11/\n+XA g+cL kz<=300) ((n+XA g+cL kz:Nat):Int):=by
 intro g;induction g with
 | nil =>
  intro j f n h i s;obtain ⟨f,rfl⟩:∃ m,f=m+1:=⟨f-1,by simp at i;omega⟩
  simp only [MR,YZ (XP h),cF,Zda,Xa (show k < 4611686018427387904 by omega),U4,VK,XA];exact (p n s).iff ⟨fun q=>⟨trivial,by omega,by omega,q.1,q.2.1,by omega⟩,fun q=>⟨q.2.2.2.1,q.2.2.2.2.1,by omega⟩⟩ (fun _=>rfl)
 | cons b g A =>
  intro j f n h i s;obtain ⟨f,rfl⟩:∃ m,f=m+1:=⟨f-1,by simp at i;omega⟩
  have ⟨a,c,e⟩:=XW h;have ⟨r,m,w,u,y⟩:=o b (Zb c) n s;simp only [MR,YY a,cT,YL,c,bS,Xa (show d < 4611686018427387904 by omega),Xa (show j < 4611686018427387904 by omega),w,U4,VK,XA];cases r with
  | false =>
   refine Vq.fa fun q=>?_;have:false=true:=u.2 ⟨q.1.1,by omega,by omega⟩;cases this
  | true =>
   obtain ⟨z,D,E⟩:=u.1 rfl;rw [y rfl];simp only [Zg,cF];refine (A (j+1) f (n+cL b) e (by simp at i;omega) (by omega)).iff ⟨fun q=>⟨⟨z,q.1⟩,by omega,by omega,q.2.2.2.1,q.2.2.2.2.1,by omega⟩,fun q=>⟨q.1.2,by omega,by omega,q.2.2.2.1,q.2.2.2.2.1,by omega⟩⟩ (fun _=>by congr 1;omega)
theorem Zme:∀ (N:Nat) (xs:List Yj) (d n:Nat),4194317<=N+d->xs.length<=4194304->bL xs->d<=11->n<=300 ->
  Vq (Ga N xs (d:Int) (n:Int)) (Wz xs/\dL xs+d<=11/\n+cL xs<=300) ((n+cL xs:Nat):Int)
 | 0,_,_,_,h,_,_,_,_=>by omega
 | N+1,xs,d,n,h,hs,hb,hd,o=>by
  show Vq (Bw N (Ga N) xs (d:Int) (n:Int)) _ _;unfold Bw;have hN:4194304 < N:=by omega
  have key:∀ (l:List Yj) (k f n:Nat),xs.drop k=l->l.length < f->n<=300 ->
    Vq (Qj N (Ga N) xs (d:Int) f (n:Int) (k:Int)) (Wz l/\dL l+d<=11/\n+cL l<=300) ((n+cL l:Nat):Int):=by
   intro l;induction l with
   | nil =>
    intro k f n h o B;obtain ⟨f,rfl⟩:∃ m,f=m+1:=⟨f-1,by simp at o;omega⟩
    simp only [Qj,YZ (XP h),cF,Zc9,Wz,dL,cL];exact ⟨true,n,rfl,by simp;omega,fun _=>rfl⟩
   | cons x l D =>
    intro k f n h o B;obtain ⟨f,rfl⟩:∃ m,f=m+1:=⟨f-1,by simp at o;omega⟩
    have ⟨a,c,e⟩:=XW h;have C:=Zb c;have i:=(Qt _).1 (Rv hb C);simp only [Qj,YY a,cT,YL,c,bS,Xa (show n < 4611686018427387904 by omega)];have p:=RB x;have j:=PA x;have s:=Zf0 x;by_cases y:d<=10
    ·rw [dF (show ¬ (d:Int) > 10 by omega),cF];by_cases u:n+1<=300
     ·rw [dF (show ¬ ((n+1:Nat):Int) > 300 by omega),cF];have ⟨r,A,z⟩:=ZtU hN x i.1;rw [A,bS];cases r with
      | false =>
       refine Vq.fa fun q=>?_;have:=z.2 (s.1 (by simp only [Wz] at q;exact q.1.1)).1;cases this
      | true =>
       simp only [Zg,cF];refine (ZuC (kz:=l) y (by omega) i.2.1 (fun b v w g=>?_) (fun w g=>D (k+1) f w e (by simp at o;omega) g) x.ZD 0 N (n+1) rfl (by omega) u).iff ?_ ?_
       ·have t:=Ru i.2.2 v;exact Zme N b (d+1) w (by omega) t.1 t.2 (by omega) g
       ·simp only [Wz,dL,cL,p,j,s];exact ⟨fun q=>⟨⟨⟨z.1 rfl,q.1⟩,q.2.2.2.1⟩,by omega,by omega⟩,fun q=>⟨q.1.1.2,by omega,by omega,q.1.2,by omega,by omega⟩⟩
       ·intro _;simp only [cL,j];congr 1;omega
     ·rw [dT (show ((n+1:Nat):Int) > 300 by omega),cT];refine Vq.fa fun q=>?_;simp only [cL,j] at q;omega
    ·rw [dT (show (d:Int) > 10 by omega),cT];refine Vq.fa fun q=>?_;simp only [dL,p] at q;omega
  exact key xs 0 N n rfl (by omega) o
section
variable {N:Nat} (hN:4194304 < N)
def Tf (n:Int):Prop:=-999999<=n/\n<=999999
theorem ZuF (n:Int):Dq (Zcu N n) (Tf n):=Dq.cA (C:=-999999<=n) decide_eq_true_iff fun _=>Dq.dec fj
def SF (t:Y5):Prop:=Tf t.N/\((t.Zt=1/\t.Zw=str []/\t.Field=str [])\/((t.Zt=2\/t.Zt=3)/\WG t.Field=true/\(t.Zw=str []\/UZ t.Zw=true)))
theorem Dq.orE {c:Bool} {C P:Prop} {o:Option Bool} (b:c=true↔C) (h:¬C->Dq o P):Dq (bif c then some true else o) (C\/P) :=
 Dq.ite b (fun a=>Dq.tr.iff ⟨fun _=>kJ a,fun _=>trivial⟩) (fun a=>(h a).iff ⟨fun p=>je p,fun p=>p.resolve_left a⟩)
include hN in
theorem Zl6 (t:Y5):Dq (Gu N t) (SF t):=by
 unfold Gu;refine Dq.bN (ZuF _) fun _=>Dq.ite Us (fun b=>?_) fun b=>?_
 ·refine (Dq.cA Tj fun _=>Dq.of rfl Tj).iff ?_;simp [b]
 have c:(t.Zt=2\/t.Zt=3)->Dq (Lb N t true) ((t.Zt=1/\t.Zw=str []/\t.Field=str [])\/((t.Zt=2\/t.Zt=3)/\WG t.Field=true/\(t.Zw=str []\/UZ t.Zw=true))):=by intro c;unfold Lb;simp only [cT];refine (Dq.bA (Md hN _) fun _=>Dq.orE Tj fun _=>Dq.bS (Zbn hN _)).iff ?_;simp [b,c]
 refine Dq.ite Us (fun d=>c (kJ d)) fun d=>?_;cases a:(t.Zt==3) with
 | true=>exact c (je (Us.1 a))
 | false =>
  have a:¬ t.Zt=3:=fun h=>by rw [h] at a;cases a
  unfold Lb;simp only [cF];exact Dq.fa.iff (by simp [b,d,a])
def Lm (f:T3):Prop:=WG f.Zu=true/\(f.Zv.Zt=1\/f.Zv.Zt=2)/\Tf f.Zv.Lo/\Tf f.Zv.Hi/\(f.Zv.Zt=2->0<=f.Zv.Lo/\0<=f.Zv.Hi)
def GC (a:Xw):Prop:=SF a.Zx/\SF a.Zy/\a.Op∈marksL
def SE (m:Ys):Prop:=UZ m.Zu=true/\m.Zz.length<=4/\m.ZA.length<=6/\(∀ f∈m.Zz,Lm f)/\∀ a∈m.ZA,GC a
theorem Zry {a b c:Int}:decide (VA a b < c)=false↔c<=a/\c<=b:=by rw [lX];unfold VA;split<;>omega
theorem Zrs {a b c:Int}:decide (PV a b > c)=false↔a<=c/\b<=c:=by rw [lX];unfold PV;split<;>omega
include hN in
theorem Zrr (s:be):Dq ((Gv N).bind fun x=>VW N x s) (s∈marksL):=by
 have h:=Zig hN marksL (by decide) s;refine Dq.of (b:=marksL.any fun x=>Vv x s) h ?_;rw [cR];constructor
 ·rintro ⟨x,a,h⟩;rw [(ZeY _ _).1 h] at a;exact a
 ·intro h;exact ⟨s,h,Zpk s⟩
include hN in
theorem ZrB (m:Ys):Dq (Bx N m) (SE m):=by
 unfold Bx;refine Dq.bN (Zbn hN _) fun _=>Dq.cN (C:=m.Zz.length<=4) L3 fun z=>Dq.cN (C:=m.ZA.length<=6) L3 fun A=>?_;refine ZaE (P:=Lm) (E:=∀ a∈m.ZA,GC a) (by omega) _ (fun n k x Q j o p=>?_) (fun _ n k j=>?_) (by omega)
 ·have key:∀ (lo:Int),(x.Zv.Zt=2/\lo=0)\/(x.Zv.Zt≠2/\lo=-999999)->Dq (Gb N (k:Int) (Rh N m n) x lo) (Lm x/\Q):=by
   intro lo s;unfold Gb;rw [Xa (show k < 4611686018427387904 by omega)];refine (Dq.bN (P:=(x.Zv.Zt=1\/x.Zv.Zt=2)/\(lo<=x.Zv.Lo/\lo<=x.Zv.Hi)/\(x.Zv.Lo<=999999/\x.Zv.Hi<=999999)/\Q) (Md hN _) fun u=>?_).iff ?_
   ·have kz:(x.Zv.Zt=1\/x.Zv.Zt=2)->Dq (bif decide (VA x.Zv.Lo x.Zv.Hi < lo) then some false else bif decide (PV x.Zv.Lo x.Zv.Hi > (999999:Int)) then some false else Rh N m n ((k+1:Nat):Int)) ((lo<=x.Zv.Lo/\lo<=x.Zv.Hi)/\(x.Zv.Lo<=999999/\x.Zv.Hi<=999999)/\Q):=fun q =>
     Dq.cN Zry fun B=>Dq.cN Zrs fun D=>p (by unfold Lm Tf;exact ⟨u,q,⟨by omega,by omega⟩,⟨by omega,by omega⟩,fun g=>by omega⟩)
    cases i:(x.Zv.Zt != 1) with
    | false =>
     have i:=ZkB.1 i;simp only [cF];exact (kz (kJ i)).iff (by simp [i])
    | true =>
     simp only [cT];have t:¬ x.Zv.Zt=1:=fun h=>by rw [h] at i;cases i
     refine (Dq.cN (C:=x.Zv.Zt=2) ZkB fun g=>kz (je g)).iff ?_;simp [t]
   ·unfold Lm Tf;constructor
    ·rintro ⟨a,b,c,d,e⟩;exact ⟨⟨a,b,by omega,by omega,by omega⟩,e⟩
    ·rintro ⟨⟨a,b,c,d,e⟩,f⟩;refine ⟨a,b,?_,by omega,f⟩;rcases s with ⟨h,w⟩ | ⟨h,w⟩
     ·have:=e h;omega
     ·omega
  simp only [Rh,YY (YC o),cT,YL,o,bS];exact Dq.ite Us (fun g=>key 0 (kJ ⟨g,rfl⟩)) fun g=>key (-999999) (je ⟨g,rfl⟩)
 ·simp only [Rh,YZ j,cF,Zdd];refine (ZaE (xs:=m.ZA) (P:=GC) (E:=True) (by omega) _ (fun n k x Q j o p=>?_) (fun _ n k j=>?_) (by omega)).iff (by simp)
  ·simp only [Gc,YY (YC o),cT,YL,o,bS,Xa (show k < 4611686018427387904 by omega)];refine (Dq.bN (Zl6 hN _) fun i=>Dq.bN (Zl6 hN _) fun g=>?_:Dq _ (SF x.Zx/\SF x.Zy/\x.Op∈marksL/\Q)).iff (by unfold GC;simp only [and_assoc]);exact Dq.bN (o1:=(Gv N).bind fun y=>VW N y x.Op) (Zrr hN _) fun v=>p ⟨i,g,v⟩
  ·simp only [Gc,YZ j,cF,Zdc];exact Dq.tr
end
section
variable {N:Nat}
def GF (n:Int):Prop:=-9223372036854775808<=n/\n<=9223372036854775807
theorem ZhO (a b:be):bs (a++b)=bs a++bs b:=by unfold bs;rw [ByteArray.data_append,Array.toList_append]
theorem LC {a b:List UInt8} (h:a.length+b.length<=9223372036854775807):XR (YP a) (YP b)=some (YP (a++b)):=by
 unfold XR;have e:(YP a).size=a.length/\(YP b).size=b.length:=⟨by rw [W9,XC],by rw [W9,XC]⟩
 rw [e.1,e.2,dF (by simp only [IntKind.max];simp [fN,eO];omega)];simp only [cF];refine lj some (LA ?_);rw [ZhO,XC,XC,XC]
theorem ZeH:∀ f u,(SM f u).length<=f
 | 0,_=>Zq _
 | f+1,u=>by
  rw [SM];cases a:Nat.blt u 10 with
  | true=>simp
  | false =>
   have:=ZeH f (u / 10);simp only [cF,lA,bb];omega
theorem L5 {n:Int} (h:GF n):Re N n=some (RL n):=by unfold Re;rw [dT h.1,dT h.2];rfl
theorem ZqB (n:Int):(RL n).size<=26:=by unfold RL;have a:=ZeH 25 n.natAbs;have b:=ZeH 25 n.toNat;show (bif decide (n < 0) then 45::SM 25 n.natAbs else SM 25 n.toNat).toArray.size<=26;cases decide (n < 0)<;>simp<;>omega
theorem QC {a b:be} (h:(bs a).length+(bs b).length<=140737488355328):XR a b=some (YP (bs a++bs b)):=by have:=LC (a:=bs a) (b:=bs b) (by omega);rw [Dr,Dr] at this;exact this
theorem XV (l:List UInt8):bs (str l)=l:=XC l
def ZbA (k:Nat):List UInt8:=aP k 9
theorem HD (k:Nat):(ZbA k).length=k:=List.length_replicate
def XH (k:Nat) (F:List UInt8):List UInt8:=ZbA k++(F++[10])
theorem VQ (k:Nat) (F:List UInt8):(XH k F).length=k+(F.length+1):=by simp [XH,ZbA]
def Un (n:Int):List UInt8:=bs (RL n)
theorem SN (n:Int):(Un n).length<=26:=ZqB n
theorem Zlg (k:Nat) (b:k<=1000000):MD N (str [9]) (k:Int)=some (YP (ZbA k)):=by
 unfold MD;have e:∀ k,Hn (str [9]).data.toList k=aP k 9:=by
  intro k;induction k with
  | zero=>rfl
  | succ k a=>rw [Hn,a];rfl
 rw [dT (show (0:Int)<=(k:Int) by omega),dT (show (k:Int)<=140737488355328 by omega),dT (show (str [9]).size * ((k:Int)).toNat<=140737488355328 by show 1 * _<=_;omega),e,bD];rfl
def V6 (sep:List UInt8) (l:List be):List UInt8:=Vp sep (l.map bs)
theorem QL (l:List be) (a:List UInt8) (b:l.length<=4194304) (h:(V6 a l).length<=140737488355328):Ug N l (str a)=some (YP (V6 a l)):=by unfold Ug;have e:Vp (str a).data.toList (l.map (·.data.toList))=V6 a l:=rfl;rw [e,dT (show l.length<=140737488355328 by omega),dT h];rfl
theorem Zj2:∀ l:List (List UInt8),Vp [] l=l.flatten
  | []=>rfl
  | x::r=>by
    show x++(r.map (([]:List UInt8)++·)).flatten=(x::r).flatten;have e:r.map (([]:List UInt8)++·)=r:=by
      have:(fun y:List UInt8=>[]++y)=id:=by funext y;simp
      show r.map (fun y=>[]++y)=r;rw [this,List.map_id]
    rw [e];rfl
theorem Zfc (a:List UInt8) (M:Nat):∀ l:List (List UInt8),(∀ x∈l,x.length<=M)->(Vp a l).length<=l.length * (M+a.length)
  | [],_=>by simp [Vp]
  | x::r,h=>by
    have f:=h x (Zj ..);have c:∀ r:List (List UInt8),(∀ x∈r,x.length<=M)->((r.map (a++·)).flatten).length<=r.length * (M+a.length):=by
      intro r;induction r with
      | nil=>intro _;simp
      | cons y r e =>
        intro h;have g:=h y (Zj ..);have d:=e fun z b=>h z (Zi _ b);simp only [aJ,cG,lA,Zf,bC,kO];omega
    have d:=c r fun z b=>h z (Zi _ b);show (x++(r.map (a++·)).flatten).length<=_;simp only [lA,Zf,bC,kO];omega
theorem ZhF {B F:List UInt8} (h:B.length+F.length<=4294967296):Rr (YP B) (YP F)=some (YP (B++F)):=by
 unfold Rr;have e:(YP B).size=B.length/\(YP F).size=F.length:=⟨by rw [W9,XC],by rw [W9,XC]⟩
 rw [e.1,e.2,ai (show B.length+F.length<=lim by show B.length+F.length<=4294967296;omega)];simp only [cT];refine lj some (LA ?_);rw [ZhO,XC,XC,XC]
theorem RR (a:List be) (B F:List UInt8) (k:Nat) (hF:(a.map bs).flatten=F) (c:a.length<=4194304) (d:k<=1000000) (h:B.length+(XH k F).length<=4294967296) :
  Vb N a ⟨YP B,(k:Int)⟩=some ⟨YP (B++XH k F),(k:Int)⟩:=by subst hF;rw [VQ] at h;unfold Vb;have b:V6 [] a=(a.map bs).flatten:=Zj2 _;rw [Zlg k d,bS,QL a [] c (by rw [b];omega),bS,b,LC (by rw [HD];omega),bS,show str [10]=YP [10] from rfl,LC (by simp only [lA,bb,HD,aO];omega),bS];unfold Zcv ZcH;simp only [bS];rw [ZhF (by simp only [lA,bb,HD,aO];omega)];simp only [bS,XH,aA]
theorem Zra (a:List be) (F:List UInt8) (hF:(a.map bs).flatten=F) (c:a.length<=4194304) (h:(XH 0 F).length<=4294967296) :
  BW N a ⟨ao,(0:Int)⟩=some ⟨YP (XH 0 F),(0:Int)⟩:=by subst hF;rw [VQ] at h;unfold BW;have b:V6 [] a=(a.map bs).flatten:=Zj2 _;show (MD N (str [9]) ((0:Nat):Int)).bind _=_;rw [Zlg 0 (by omega),bS,QL a [] c (by rw [b];omega),bS,b,LC (by rw [HD];omega),bS,show str [10]=YP [10] from rfl,LC (by simp only [lA,bb,HD,aO];omega),bS];unfold Zcw ZcF;simp only [bS];rw [show ao=YP [] from rfl,ZhF (by simp only [lA,bb,HD,aO];omega)];simp only [bS,XH,aA,ar]
end
section
def Q1 (t:Y5):List UInt8:=bif Vv t.Zw (str []) then bs t.Field else bs t.Zw++[46]++bs t.Field
def DO (t:Y5):List UInt8:=bif decide (t.N > 0) then [32,43,32]++Un t.N else bif decide (t.N < 0) then [32,45,32]++Un (0-t.N) else []
def Q2 (t:Y5):List UInt8:=bif t.Zt==1 then Un t.N else (bif t.Zt==3 then [108,101,110,40]++Q1 t++[41] else Q1 t)++DO t
def VP (f:T3):List UInt8:=bs f.Zu++(bif f.Zv.Zt==2 then [58,32,116,101,120,116,32] else [58,32,105,110,116,32])++Un f.Zv.Lo++[46,46]++Un f.Zv.Hi
def TT (a:Xw):List UInt8:=Q2 a.Zx++[32]++bs a.Op++[32]++Q2 a.Zy
def DP (l:List Xw):List UInt8:=match l with
 | []=>[]
 | _::_=>[32,119,104,101,114,101,32]++Vp [32,97,110,100,32] (l.map TT)
def RW (m:Ys):List UInt8:=[109,101,115,115,97,103,101,32]++bs m.Zu++[40]++Vp [44,32] (m.Zz.map VP)++[41]++DP m.ZA++[59]
variable {s:be}
theorem TI (h:WG s=true):(bs s).length<=16:=Zmo h
theorem Hh (h:UZ s=true):(bs s).length<=50:=by unfold UZ at h;rw [Zc,lU] at h;exact h.1
theorem Zbv {n:Int} (h:Tf n):GF n:=by unfold Tf at h;unfold GF;omega
variable {t:Y5}
theorem Zgd (h:SF t):(bs t.Zw).length<=50/\(bs t.Field).length<=16:=by
 rcases h.2 with ⟨_,b,a⟩ | ⟨_,b,a⟩
 ·rw [b,a,XV];simp
 ·refine ⟨?_,TI b⟩;rcases a with a | a
  ·rw [a,XV];simp
  ·exact Hh a
theorem Zkn (h:s∈marksL):(bs s).length<=2:=by
 have:∀ x∈marksL,(bs x).length<=2:=by intro x a;simp only [marksL,Zl,List.not_mem_nil,or_false] at a;rcases a with h | h | h | h | h<;>subst h<;>(rw [XV];simp)
 exact this s h
theorem ZbC (h:SF t):(Q2 t).length<=150:=by
 have ⟨b,c⟩:=Zgd h;have d:(Q1 t).length<=67:=by unfold Q1;cases Vv t.Zw (str [])<;>simp<;>omega
 have e:=SN t.N;have a:=SN (0-t.N);have f:(DO t).length<=29:=by unfold DO;cases decide (t.N > 0)<;>cases decide (t.N < 0)<;>simp only [cT,cF,lA,Zf,aO]<;>omega
 unfold Q2;cases (t.Zt==1)<;>cases (t.Zt==3)<;>simp only [cT,cF,lA,Zf,aO]<;>omega
theorem ZpI {f:T3} (h:Lm f):(VP f).length<=100:=by have:=TI h.1;have a:=SN f.Zv.Lo;have b:=SN f.Zv.Hi;unfold VP;cases (f.Zv.Zt==2)<;>simp only [cT,cF,lA,Zf,aO]<;>omega
theorem ZnK {a:Xw} (h:GC a):(TT a).length<=350:=by have b:=ZbC h.1;have c:=ZbC h.2.1;have d:=Zkn h.2.2;unfold TT;simp only [lA,Zf,aO];omega
variable {N:Nat} (hN:4194304 < N)
theorem Zl7 (h:SF t) (A:List UInt8) (d:A.length<=100):HV N t (YP A)=some (YP (A++DO t)):=by unfold HV DO;have a:=h.1;unfold Tf at a;have b:=SN t.N;have c:=SN (0-t.N);unfold Un at b c;rw [L5 (Zbv h.1),Wp (by omega) (by omega),L5 (by unfold GF;omega)];cases decide (t.N > 0)<;>cases decide (t.N < 0)<;>simp only [cT,cF,bS,bn];all_goals simp (disch:=(simp only [XC,XV,lA,Zf,aO];omega)) only [QC,bS,XC,XV,Un]
theorem Zuu (h:SF t) (a:(t.Zt==1)=false):HW N t (YP (Q1 t))=some (YP (Q2 t)):=by
 have ⟨b,c⟩:=Zgd h;have d:(Q1 t).length<=67:=by unfold Q1;cases Vv t.Zw (str [])<;>simp<;>omega
 unfold HW Q2;rw [a];cases (t.Zt==3)<;>simp only [cT,cF]
 ·exact Zl7 h _ (by omega)
 ·simp (disch:=(simp only [XC,XV,lA,Zf,aO];omega)) only [QC,bS,XC,XV];exact Zl7 h _ (by simp only [lA,Zf,aO];omega)
theorem ZlD (h:SF t):HU N t=some (YP (Q2 t)):=by
 have ⟨d,f⟩:=Zgd h;unfold HU;cases b:(t.Zt==1) with
 | true =>
  simp only [cT,L5 (Zbv h.1),bS];unfold Q2;rw [b];simp only [cT,Un,Dr]
 | false =>
  simp only [cF];have e:(t.Zw.toList==(str []).toList)=Vv t.Zw (str []):=rfl;have a:=Zuu (N:=N) h b;unfold Q1 at a;rw [e];cases c:Vv t.Zw (str []) with
  | true =>
   rw [c] at a;simp only [cT,Dr] at a;simp only [Zg,cF];exact a
  | false =>
   rw [c] at a;simp only [cF] at a;simp only [cx,cT];simp (disch:=(simp only [XC,XV,lA,Zf,aO];omega)) only [QC,bS,XC,XV];exact a
theorem Zrp (f:T3->List UInt8) (l:List T3):(l.map fun x=>YP (f x)).map bs=l.map f:=by rw [cD];congr 1
theorem Zrq (f:Xw->List UInt8) (l:List Xw):(l.map fun x=>YP (f x)).map bs=l.map f:=by rw [cD];congr 1
theorem ZjC {m:Ys} (h:SE m):(Vp [44,32] (m.Zz.map VP)).length<=500:=by have:=Zfc [44,32] 100 (m.Zz.map VP) (fun x a=>by obtain ⟨f,b,rfl⟩:=aQ.1 a;exact ZpI (h.2.2.2.1 f b));simp only [aM,Zf,aO] at this;have:=h.2.1;omega
theorem ZhM {m:Ys} (h:SE m):(Vp [32,97,110,100,32] (m.ZA.map TT)).length<=2200:=by have:=Zfc [32,97,110,100,32] 350 (m.ZA.map TT) (fun x a=>by obtain ⟨f,b,rfl⟩:=aQ.1 a;exact ZnK (h.2.2.2.2 f b));simp only [aM,Zf,aO] at this;have:=h.2.2.1;omega
theorem ZuE {m:Ys} (h:SE m):(DP m.ZA).length<=2300:=by
 have:=ZhM h;unfold DP;cases b:m.ZA with
 | nil=>simp
 | cons a l=>rw [b] at this;simp only [lA,Zf,aO] at this ⊢;omega
theorem Zku {m:Ys} (h:SE m):(RW m).length<=3000:=by have a:=ZjC h;have b:=ZuE h;have c:=Hh h.1;unfold RW;simp only [lA,Zf,aO];omega
include hN in
theorem Zrw {m:Ys} (h:SE m) (B:List UInt8) (k:Nat) (z:k<=1000) (hB:B.length+(XH k (RW m)).length<=4294967296) :
  Lc N m ⟨YP B,(k:Int)⟩=some ⟨YP (B++XH k (RW m)),(k:Int)⟩:=by
 have C:=ZjC h;have o:=ZhM h;have w:=h.2.1;have x:=h.2.2.1;unfold Lc;rw [(TZ m.Zz (Qo N m ⟨YP B,(k:Int)⟩) (fun s f=>s++[YP (VP f)]) (fun s=>BY N m ⟨YP B,(k:Int)⟩ s) (fun j s=>s.length=j) (fun n j s f hi c=>?_) (fun n j s hi i=>?_) (N:=N) (s:=[]) (by omega) rfl).1]
 ·rw [Q0 (fun f=>YP (VP f))];rw [ar];unfold BY;rw [(TZ m.ZA (Ld N m ⟨YP B,(k:Int)⟩ (m.Zz.map fun f=>YP (VP f))) (fun s a=>s++[YP (TT a)]) (fun s=>BX N m ⟨YP B,(k:Int)⟩ (m.Zz.map fun f=>YP (VP f)) s) (fun j s=>s.length=j) (fun n j s a hi c=>?_) (fun n j s hi i=>?_) (N:=N) (s:=[]) (by omega) rfl).1]
  ·rw [Q0 (fun a=>YP (TT a)),ar];unfold BX;have p:V6 [44,32] (m.Zz.map fun f=>YP (VP f))=Vp [44,32] (m.Zz.map VP):=by unfold V6;rw [Zrp]
   have q:V6 [32,97,110,100,32] (m.ZA.map fun f=>YP (TT f))=Vp [32,97,110,100,32] (m.ZA.map TT):=by unfold V6;rw [Zrq]
   rw [QL (m.ZA.map fun f=>YP (TT f)) _ (by simp;omega) (by rw [q];omega),QL (m.Zz.map fun f=>YP (VP f)) _ (by simp;omega) (by rw [p];omega),p,q];simp only [bS];cases g:m.ZA with
   | nil =>
    simp only [ay,aO];rw [show decide (((0:Nat):Int) > 0)=false from rfl,cF];rw [RR _ B (RW m) k (by simp [XV,XC,RW,DP,g,aA]) (by simp) (by omega) hB];rfl
   | cons a l =>
    rw [g] at o;rw [dT (by simp:(((((a::l).map fun a=>YP (TT a)).length:Nat)):Int) > 0),cT];rw [show str [32,119,104,101,114,101,32]=YP [32,119,104,101,114,101,32] from rfl,LC (by simp only [Zf,aO] at o ⊢;omega)];simp only [bS];rw [RR _ B (RW m) k (by simp [XV,XC,RW,DP,g,aA]) (by simp) (by omega) hB];rfl
  ·refine ⟨?_,by simp [hi]⟩;have d:=YC c;have b:=h.2.2.2.2 a (Zb c);have y:=ZbC b.1;have t:=ZbC b.2.1;have u:=Zkn b.2.2;simp only [Ld,YY d,cT,YL,c,bS,ZlD b.1,ZlD b.2.1,Xa (show j < 4611686018427387904 by omega)];simp (disch:=(simp only [XC,XV,lA,Zf,aO];omega)) only [QC,bS,XC,XV];rw [X6 (by simp [hi];omega)];rfl
  ·simp only [Ld,YZ i,cF]
 ·refine ⟨?_,by simp [hi]⟩;have d:=YC c;have b:=h.2.2.2.1 f (Zb c);have y:=TI b.1;have t:=SN f.Zv.Lo;have u:=SN f.Zv.Hi;unfold Un at t u;have key:∀ T:List UInt8,T.length<=10->VP f=bs f.Zu++T++Un f.Zv.Lo++[46,46]++Un f.Zv.Hi->∀ ag:List be->Int->Option YG,Gw N s (j:Int) ag f (str T)=ag (s++[YP (VP f)]) ((j+1:Nat):Int):=by intro T A e ag;unfold Gw;rw [L5 (Zbv b.2.2.1),L5 (Zbv b.2.2.2.1),Xa (by omega),e];simp (disch:=(simp only [XC,XV,lA,Zf,aO];omega)) only [QC,bS,XC,XV];rw [X6 (by simp [hi];omega)];rfl
  simp only [Qo,YY d,cT,YL,c,bS];cases v:(f.Zv.Zt==2) with
  | true=>exact key [58,32,116,101,120,116,32] (by simp) (by unfold VP;rw [v];rfl) _
  | false=>exact key [58,32,105,110,116,32] (by simp) (by unfold VP;rw [v];rfl) _
 ·simp only [Qo,YZ i,cF]
end
section
def SK (l:List be):List UInt8:=V6 [44,32] l
def Sa (first:Bool) (hd w last:List UInt8) (atEnd:Bool):List UInt8:=bif first then hd++[32,123] else [125,32]++(bif (atEnd && !last.isEmpty) then last else w)++[32,123]
def QZ (f:be) (t:List be) (n:be):List UInt8:=bs f++[32,45,62,32]++SK t++[58,32]++bs n++[59]
def Lw (n:be):List UInt8:=[97,103,97,105,110,32]++bs n++[59]
def PB (n:be) (t:List be) (a:be):List UInt8:=[99,97,108,108,32]++bs n++[40]++SK t++[41,32,97,115,32]++bs a++[59]
def TW (f:be):List UInt8:=[99,104,111,105,99,101,32,97,116,32]++bs f
def Qc (f:be) (x:Int):List UInt8:=TW f++[32,119,105,116,104,105,110,32]++Un x
def RS (n:be):List UInt8:=[108,111,111,112,32]++bs n
abbrev Hg:List UInt8:=[112,97,114]
abbrev TB:List UInt8:=[111,114]
abbrev Lx:List UInt8:=[97,110,100]
abbrev LW:List UInt8:=[101,108,115,101]
mutual
def xI (k:Nat):Yj->List UInt8
 | ⟨kd,f,t,n,a,x,b⟩ =>
  bif kd==1 then XH k (QZ f t n)
  else bif kd==2 then (bif decide (x > 0) then xR k true (Qc f x) TB LW b else xR k true (TW f) TB [] b)
  else bif kd==3 then xR k true (RS n) [] [] b
  else bif kd==4 then XH k (Lw n)
  else bif kd==5 then xR k true Hg Lx [] b
  else bif kd==6 then XH k (PB n t a)
  else []
def xL (k:Nat):List Yj->List UInt8
 | []=>[]
 | x::l=>xI k x++xL k l
def xR (k:Nat) (first:Bool) (hd w last:List UInt8):List (List Yj)->List UInt8
 | []=>XH k [125]
 | b::l=>XH k (Sa first hd w last l.isEmpty)++(xL (k+1) b++xR k false hd w last l)
end
theorem ZuG (k:Nat) (x:Yj):xI k x=(bif x.Zt==1 then XH k (QZ x.ZB x.To x.Zu)
  else bif x.Zt==2 then (bif decide (x.ZC > 0) then xR k true (Qc x.ZB x.ZC) TB LW x.ZD else xR k true (TW x.ZB) TB [] x.ZD)
  else bif x.Zt==3 then xR k true (RS x.Zu) [] [] x.ZD
  else bif x.Zt==4 then XH k (Lw x.Zu)
  else bif x.Zt==5 then xR k true Hg Lx [] x.ZD
  else bif x.Zt==6 then XH k (PB x.Zu x.To x.As)
  else []):=by cases x;simp only [xI]
variable {N:Nat}
theorem ZnW (hN:4194304 < N) {o:List Yj->YG->Option YG} {i:List (List Yj)} {k:Nat} (A:k<=1000) (v:i.length<=4194304) (g w e:List UInt8)
  (u:∀ b∈i,∀ B:List UInt8,B.length+(xL (k+1) b).length<=4294967296->o b ⟨YP B,((k+1:Nat):Int)⟩=some ⟨YP (B++xL (k+1) b),((k+1:Nat):Int)⟩)
  (B:List UInt8) (hB:B.length+(xR k true g w e i).length<=4294967296) :
  Qg N o (str g) (str w) (str e) i ⟨YP B,(k:Int)⟩=some ⟨YP (B++xR k true g w e i),(k:Int)⟩:=by
 unfold Qg;have key:∀ (l:List (List Yj)) (j n:Nat) (B:List UInt8),i.drop j=l->l.length < n->B.length+(xR k (decide (j=0)) g w e l).length<=4294967296 ->
   TL N o (str g) (str w) (str e) i n (YP B) (k:Int) (j:Int)=some ⟨YP (B++xR k (decide (j=0)) g w e l),(k:Int)⟩:=by
  intro l;induction l with
  | nil =>
   intro j n B h s hL;obtain ⟨n,rfl⟩:=pS n (by simp at s;omega);simp only [xR] at hL ⊢;simp only [TL,YZ (XP h),cF,Zcy];rw [RR [str [125]] B [125] k (by simp [XV]) (by simp) (by omega) hL];rfl
  | cons b l y =>
   intro j n B h s hL;obtain ⟨n,rfl⟩:=pS n (by simp at s;omega);have ⟨a,c,d⟩:=XW h;simp only [xR,lA] at hL;have m:i.length=j+1+l.length:=by have:=lj List.length d;rw [bg] at this;omega
   have p:=y (j+1) n (B++XH k (Sa (decide (j=0)) g w e l.isEmpty)++xL (k+1) b) d (by simp at s;omega) (by rw [dF (by omega:¬ j+1=0)];simp only [lA];omega)
   rw [dF (by omega:¬ j+1=0)] at p;have kz:Pa o (j:Int) (TL N o (str g) (str w) (str e) i n) b (YP (B++XH k (Sa (decide (j=0)) g w e l.isEmpty))) (k:Int)=some ⟨YP (B++xR k (decide (j=0)) g w e (b::l)),(k:Int)⟩:=by unfold Pa;rw [Xa (by omega:k < 4611686018427387904),u b (Zb c) _ (by simp only [lA];omega)];simp only [bS];rw [Wp (by omega) (by omega),Xa (by omega),show ((k+1:Nat):Int)-1=(k:Int) by omega,p];simp only [xR,aA]
   have t:∀ f:List be,f.length<=3->(f.map bs).flatten=Sa (decide (j=0)) g w e l.isEmpty->Vb N f ⟨YP B,(k:Int)⟩=some ⟨YP (B++XH k (Sa (decide (j=0)) g w e l.isEmpty)),(k:Int)⟩:=fun f C x =>
    RR f B _ k x (by omega) (by omega) (by omega)
   simp only [TL,YY a,cT,YL,c,bS];by_cases q:j=0
   ·rw [show ((j:Int)==0)=true by simp [q],cT];rw [t [str g,str [32,123]] (by simp) (by simp [XV,Sa,q])];exact kz
   ·rw [show ((j:Int)==0)=false by simp;omega,cF];cases l with
    | nil =>
     rw [show ((j:Int)==Yh ((i.length:Int)-1))=true by rw [Wp (by omega) (by omega)];simp at m ⊢;omega,cT];cases e with
     | nil =>
      rw [show (!((str []).toList==(str []).toList))=false by rw [U6,XV];rfl,cF];rw [t [str [125,32],str w,str [32,123]] (by simp) (by simp [XV,Sa,q])];exact kz
     | cons z zs =>
      rw [show (!((str (z::zs)).toList==(str []).toList))=true by rw [U6,U6,XV,XV];rfl,cT];rw [t [str [125,32],str (z::zs),str [32,123]] (by simp) (by simp [XV,Sa,q])];exact kz
    | cons z zs =>
     rw [show ((j:Int)==Yh ((i.length:Int)-1))=false by rw [Wp (by omega) (by omega)];simp at m ⊢;omega,cF];rw [t [str [125,32],str w,str [32,123]] (by simp) (by simp [XV,Sa,q])];exact kz
 have:=key i 0 N B rfl (by omega) hB;exact this
theorem ZjW:∀ (N:Nat) (xs:List Yj) (k:Nat) (B:List UInt8),4194306+dL xs<=N->xs.length<=4194304->bL xs->Wz xs->k+dL xs<=1000->B.length+(xL k xs).length<=4294967296 ->
  Qp N xs ⟨YP B,(k:Int)⟩=some ⟨YP (B++xL k xs),(k:Int)⟩
 | 0,_,_,_,h,_,_,_,_,_=>by omega
 | N+1,xs,k,B,h,hs,u,hsh,hk,hB=>by
  show BZ N (Qp N) xs ⟨YP B,(k:Int)⟩=_;unfold BZ;have hN:4194304 < N:=by omega
  have key:∀ (l:List Yj) (j n:Nat) (B:List UInt8),xs.drop j=l->l.length < n->Wz l->dL l<=dL xs->B.length+(xL k l).length<=4294967296 ->
    Uh N (Qp N) xs n (YP B) (k:Int) (j:Int)=some ⟨YP (B++xL k l),(k:Int)⟩:=by
   intro l;induction l with
   | nil =>
    intro j n B h C _ _ hL;obtain ⟨n,rfl⟩:=pS n (by simp at C;omega);simp only [Uh,YZ (XP h),cF,ZdI,xL,bn]
   | cons x l L =>
    intro j n B h C s G hL;obtain ⟨n,rfl⟩:=pS n (by simp at C;omega);have ⟨a,c,d⟩:=XW h;have M:=Zb c;have p:=(Qt _).1 (Rv u M);have I:=RC M;rw [RB] at I;simp only [Wz,Zf0] at s;obtain ⟨⟨m,E⟩,F⟩:=s;simp only [xL,lA] at hL;simp only [dL] at G;have g:∀ (o:Option YG),o=some ⟨YP (B++xI k x),(k:Int)⟩->(o.bind fun y=>Uh N (Qp N) xs n y.Builder y.ZK (Yh ((j:Int)+1)))=some ⟨YP (B++xL k (x::l)),(k:Int)⟩:=by intro o R;rw [R,bS,Xa (by omega:j < 4611686018427387904)];have:=L (j+1) n (B++xI k x) d (by simp at C;omega) F (by omega) (by simp only [lA];omega);rw [this];simp only [xL,aA]
    have q:∀ v w i,B.length+(xR k true v w i x.ZD).length<=4294967296->Qg N (Qp N) (str v) (str w) (str i) x.ZD ⟨YP B,(k:Int)⟩=some ⟨YP (B++xR k true v w i x.ZD),(k:Int)⟩:=by
     intro v w i hB;refine ZnW hN (by omega) p.2.1 v w i (fun b t P D=>?_) B hB;have z:=Ru p.2.2 t;have S:=SL t;have A:∀ {l:List (List Yj)},U4 l->∀ {b},b∈l->Wz b:=by
      intro l;induction l with
      | nil=>intro _ b u;cases u
      | cons y l L =>
       intro H b u;simp only [U4] at H;rcases aW.1 u with rfl | u
       ·exact H.1
       ·exact L H.2 u
     exact ZjW N b (k+1) P (by omega) z.1 z.2 (A E t) (by omega) D
    have f:=ZuG k x;simp only [Uh,YY a,cT,YL,c,bS];unfold Te at m;rcases m with m | m | m | m | m | m
    ·rw [m.1] at f ⊢;rw [f] at hL;have f:xI k x=XH k (QZ x.ZB x.To x.Zu):=f;have hL:B.length+((XH k (QZ x.ZB x.To x.Zu)).length+(xL k l).length)<=4294967296:=hL;have T:(V6 [44,32] x.To).length<=4294967296:=by rw [VQ] at hL;unfold QZ SK at hL;simp only [lA] at hL;omega
     show ((Ug N x.To (str [44,32])).bind _)=_;rw [QL x.To [44,32] p.1 (by omega),bS];refine g _ ?_;rw [f];exact RR _ B _ k (by simp [XV,XC,QZ,SK,aA]) (by simp) (by omega) (by omega)
    ·rw [m.1] at f ⊢;have U:=TI m.2.1;have f:xI k x=(bif decide (x.ZC > 0) then xR k true (Qc x.ZB x.ZC) TB LW x.ZD else xR k true (TW x.ZB) TB [] x.ZD):=f;rw [f] at hL;show (bif decide (x.ZC > 0) then _ else _)=_;have v:=SN x.ZC;unfold Un at v;cases O:decide (x.ZC > 0) with
     | true =>
      rw [O] at f hL;simp only [cT] at hL f ⊢;rw [L5 (by unfold GF;omega)];have e:str (Qc x.ZB x.ZC)=YP ([99,104,111,105,99,101,32,97,116,32]++bs x.ZB++[32,119,105,116,104,105,110,32]++bs (RL x.ZC)):=rfl;simp (disch:=(simp only [XC,XV,lA,Zf,aO];omega)) only [QC,bS,XC,XV];rw [<- e];refine g _ ?_;rw [f];exact q (Qc x.ZB x.ZC) TB LW (by omega)
     | false =>
      rw [O] at f hL;simp only [cF] at hL f ⊢;have e:str (TW x.ZB)=YP ([99,104,111,105,99,101,32,97,116,32]++bs x.ZB):=rfl;simp (disch:=(simp only [XC,XV,lA,Zf,aO];omega)) only [QC,bS,XC,XV];rw [<- e];refine g _ ?_;rw [f];exact q (TW x.ZB) TB [] (by omega)
    ·rw [m.1] at f ⊢;have U:=Hh m.2.2.2.1;have f:xI k x=xR k true (RS x.Zu) [] [] x.ZD:=f;rw [f] at hL;show ((XR (str [108,111,111,112,32]) x.Zu).bind _)=_;have e:str (RS x.Zu)=YP ([108,111,111,112,32]++bs x.Zu):=rfl;simp (disch:=(simp only [XC,XV,lA,Zf,aO];omega)) only [QC,bS,XC,XV];rw [<- e];refine g _ ?_;rw [f];exact q (RS x.Zu) [] [] (by omega)
    ·rw [m.1] at f ⊢;have f:xI k x=XH k (Lw x.Zu):=f;rw [f] at hL;refine g _ ?_;rw [f];exact RR _ B _ k (by simp [XV,Lw,aA]) (by simp) (by omega) (by omega)
    ·rw [m.1] at f ⊢;have f:xI k x=xR k true Hg Lx [] x.ZD:=f;rw [f] at hL;refine g _ ?_;rw [f];exact q Hg Lx [] (by omega)
    ·rw [m.1] at f ⊢;have f:xI k x=XH k (PB x.Zu x.To x.As):=f;rw [f] at hL;have T:(V6 [44,32] x.To).length<=4294967296:=by rw [VQ] at hL;unfold PB SK at hL;simp only [lA] at hL;omega
     show ((Ug N x.To (str [44,32])).bind _)=_;rw [QL x.To [44,32] p.1 (by omega),bS];refine g _ ?_;rw [f];exact RR _ B _ k (by simp [XV,XC,PB,SK,aA]) (by simp) (by omega) (by omega)
  exact key xs 0 N B rfl (by omega) hsh (Zq _) hB
end
theorem Zkb (xs:List α) (F:Nat->be->Int->γ) (b:be->γ) (g:α->List UInt8) (L:Nat) (o:xs.length<=4194304)
  (i:∀ (n k:Nat) x A,k < 4194304->xs[k]? = some x->A.length+(g x).length<=L->F (n+1) (YP A) (k:Int)=F n (YP (A++g x)) ((k+1:Nat):Int))
  (j:∀ (n k:Nat) A,xs.length<=k->k<=xs.length->A.length<=L->F (n+1) (YP A) (k:Int)=b (YP A)):∀ (l:List α) (k n:Nat) (A:List UInt8),k<=xs.length->xs.drop k=l->l.length < n->A.length+((l.map g).flatten).length<=L->F n (YP A) (k:Int)=b (YP (A++(l.map g).flatten)):=by
 intro l;induction l with
 | nil =>
  intro k n A f h e hL;obtain ⟨n,rfl⟩:=pS n (by simp at e;omega);rw [j n k A (XP h) f (by omega)];simp
 | cons x l m =>
  intro k n A f h e hL;obtain ⟨n,rfl⟩:=pS n (by simp at e;omega);have ⟨a,c,d⟩:=XW h;rw [aJ,cG,lA] at hL;rw [i n k x A (by omega) c (by omega),m (k+1) n _ (by omega) d (by simp at e;omega) (by rw [lA];omega)];simp only [aJ,cG,aA]
def UC (p:Ym):List UInt8:=[112,114,111,116,111,99,111,108,32]++bs p.Zu++[40]++SK p.ZE++[41,32,123]
def Uz (m:Ys):List UInt8:=XH 1 (RW m)
def Sj (p:Ym):List UInt8:=XH 0 (UC p)++(p.ZF.map Uz).flatten++xL 1 p.ZG++XH 0 [125]
def Hy (l:List Ym):List UInt8:=(l.map Sj).flatten
def Ro (p:Ym):Prop:=WG p.Zu=true/\Lu p.ZE 6/\p.ZF.length<=40/\Wz p.ZG/\dL p.ZG<=10/\cL p.ZG<=300/\∀ m∈p.ZF,SE m
theorem LH {l:List be} (h:Lu l k) (c:k<=6):(SK l).length<=108:=by have:=Zfc [44,32] 16 (l.map bs) (fun x a=>by obtain ⟨w,b,rfl⟩:=aQ.1 a;exact TI (h.2.2 w b));simp only [aM,Zf,aO] at this;have:=h.2.1;unfold SK V6;omega
theorem Zp5 (first:Bool) (b w a:List UInt8) (e:Bool) (c:b.length<=70) (d:w.length<=10) (f:a.length<=10):(Sa first b w a e).length<=72:=by unfold Sa;cases first<;>cases (e && !a.isEmpty)<;>simp only [cT,cF,lA,Zf,aO]<;>omega
mutual
theorem ZuH:∀ (x:Yj) (k:Nat),R5 x->k+dI x<=20->(xI k x).length<=1000 * cI x
 | ⟨kd,f,t,n,a,x,b⟩,k,hs,hk=>by
  simp only [R5,dI,cI] at hs hk ⊢;have ⟨c,m⟩:=hs;have j:∀ h w d,h.length<=70->w.length<=10->d.length<=10->(xR k true h w d b).length<=100 * (b.length+1)+1000 * XA b:=fun h w d g i e=>Zmr b k true h w d m (by omega) g i e;unfold Te at c;simp only at c;rcases c with c | c | c | c | c | c
  ·rw [c.1];have g:=TI c.2.1;have i:=LH c.2.2.1 (by omega);have e:=Hh c.2.2.2.1;show (XH k (QZ f t n)).length<=_;rw [VQ];unfold QZ;simp only [lA,Zf,aO];omega
  ·rw [c.1];have g:=TI c.2.1;have i:=SN x;show (bif decide (x > 0) then xR k true (Qc f x) TB LW b else xR k true (TW f) TB [] b).length<=_;have e:(Qc f x).length<=70:=by unfold Qc TW;simp only [lA,Zf,aO];omega
   have o:(TW f).length<=70:=by unfold TW;simp only [lA,Zf,aO];omega
   have p:=j (Qc f x) TB LW e (by simp) (by simp);have s:=j (TW f) TB [] o (by simp) (by simp);cases decide (x > 0)<;>simp only [cT,cF]<;>omega
  ·rw [c.1];have g:=Hh c.2.2.2.1;show (xR k true (RS n) [] [] b).length<=_;have o:(RS n).length<=70:=by unfold RS;simp only [lA,Zf,aO];omega
   have q:=j (RS n) [] [] o (by simp) (by simp);omega
  ·rw [c.1];have e:=Hh c.2.2.2.1;show (XH k (Lw n)).length<=_;rw [VQ];unfold Lw;simp only [lA,Zf,aO];omega
  ·rw [c.1];show (xR k true Hg Lx [] b).length<=_;have q:=j Hg Lx [] (by simp) (by simp) (by simp);omega
  ·rw [c.1];have g:=TI c.2.2.2.1;have i:=LH c.2.2.1 (by omega);have e:=TI c.2.2.2.2.1;show (XH k (PB n t a)).length<=_;rw [VQ];unfold PB;simp only [lA,Zf,aO];omega
theorem ZbF:∀ (l:List Yj) (k:Nat),Wz l->k+dL l<=20->(xL k l).length<=1000 * cL l
 | [],k,_,_=>by simp [xL]
 | x::l,k,hs,hk=>by simp only [Wz,dL] at hs hk;have a:=ZuH x k hs.1 (by omega);have b:=ZbF l k hs.2 (by omega);simp only [xL,cL,lA];omega
theorem Zmr:∀ (l:List (List Yj)) (k:Nat) (first:Bool) (c w a:List UInt8),U4 l->k+VK l+1<=20->c.length<=70->w.length<=10->a.length<=10->(xR k first c w a l).length<=100 * (l.length+1)+1000 * XA l
 | [],k,first,c,w,a,_,hk,_,_,_=>by simp only [xR,VQ,Zf,aO];omega
 | b::l,k,first,c,w,a,hs,hk,h1,h2,h3=>by
  simp only [U4,VK] at hs hk;have d:=ZbF b (k+1) hs.1 (by omega);have e:=Zmr l k false c w a hs.2 (by omega) h1 h2 h3;have f:=Zp5 first c w a l.isEmpty h1 h2 h3
  simp only [xR,XA,lA,VQ,Zf];omega
end
theorem ZaQ (g:α->List UInt8) (M:Nat):∀ l:List α,(∀ x∈l,(g x).length<=M)->((l.map g).flatten).length<=l.length * M
 | [],_=>by simp
 | x::l,h=>by have b:=h x (Zj ..);have c:=ZaQ g M l fun z a=>h z (Zi _ a);simp only [aJ,cG,lA,Zf,bC,kO];omega
theorem ZkY {p:Ym} (h:Ro p):(Sj p).length<=1000000:=by have ⟨b,c,d,e,g,i,f⟩:=h;have j:=TI b;have k:=LH c (Zq _);have n:=ZaQ Uz 3010 p.ZF (fun m a=>by have:=Zku (f m a);unfold Uz;rw [VQ];omega);have o:=ZbF p.ZG 1 e (by omega);have q:p.ZF.length * 3010<=40 * 3010:=aS _ d;unfold Sj UC;simp only [lA,VQ,Zf,aO];omega
theorem Zue {l:List Ym} (c:l.length<=4194304) (h:∀ p∈l,Ro p) (a:l.length<=10):(Hy l).length<=10000000:=by have:=ZaQ Sj 1000000 l fun p b=>ZkY (h p b);unfold Hy;have:l.length * 1000000<=10 * 1000000:=aS _ a;omega
section
variable {N:Nat}
structure Pk (N:Nat) (p:Ym):Prop where
 v:Ro p
 l:p.ZG.length<=4194304
 b:bL p.ZG
theorem Pk.r {p:Ym} (h:Pk N p):p.ZE.length<=6:=h.v.2.1.2.1
theorem ZoR (A:List UInt8) (a:0 < A.length) (b:A.length<=4294967296):Gy N ⟨YP A,(0:Int)⟩=some (YP A):=by
 unfold Gy;have e:(YP A).size=A.length:=by rw [W9,XC]
 have g:SP (YP A)=some ():=by unfold SP;rw [e,show Nat.beq A.length 0=false by cases h:A.length with | zero=>omega | succ n=>rfl,ai (show A.length<=lim by show A.length<=4294967296;omega)];rfl
 rw [g];rfl
theorem ZkZ (hN:4194320 < N) {p:Ym} (h:Pk N p) (A:List UInt8) (c:A.length<=100000000) :
  (Qp N p.ZG ⟨YP A,(1:Int)⟩).bind (fun y=>Vb N ([(str [125])]:List be) (⟨y.Builder,(Yh (y.ZK-(1:Int)))⟩:YG))=some ⟨YP (A++xL 1 p.ZG++XH 0 [125]),(0:Int)⟩:=by have ⟨d,e,f,a,g,i,j⟩:=h.v;have k:=ZbF p.ZG 1 a (by omega);rw [show (1:Int)=((1:Nat):Int) from rfl,ZjW N p.ZG 1 A (by omega) h.l h.b a (by omega) (by omega),bS];show Vb N [str [125]] ⟨YP (A++xL 1 p.ZG),Yh (((1:Nat):Int)-((1:Nat):Int))⟩=_;rw [show Yh (((1:Nat):Int)-((1:Nat):Int))=((0:Nat):Int) from rfl];rw [RR [str [125]] _ [125] 0 (by simp [XV]) (by simp) (by omega) (by simp only [lA,VQ,Zf,aO];omega)];rfl
theorem Zfv {p:Ym} (h:Ro p):((p.ZF.map Uz).flatten).length<=120400:=by have b:=ZaQ Uz 3010 p.ZF (fun m a=>by have:=Zku (h.2.2.2.2.2.2 m a);unfold Uz;rw [VQ];omega);have c:p.ZF.length * 3010<=40 * 3010:=aS _ h.2.2.1;omega
theorem ZjL (p:Ym):(([(str [112,114,111,116,111,99,111,108,32]),p.Zu,(str [40]),YP (V6 [44,32] p.ZE),(str [41,32,123])]:List be).map bs).flatten=UC p:=by simp [XV,XC,UC,SK,aA]
theorem Zt9 (hN:4194320 < N) (l:List Ym) (u:l.length<=10) (h:∀ p∈l,Pk N p):By N l=some (YP (Hy l)):=by
 have O:=Zue (l:=l) (by omega) (fun p f=>(h p f).v) u;unfold By;cases d:l with
 | nil=>rfl
 | cons p r =>
  rw [<- d];have z:decide ((0:Int) < (l.length:Int))=true:=dT (by rw [d];simp);have G:l[0]? = some p:=by rw [d];rfl
  have f:=h p (Zb G);have e:Hy l=Sj p++(r.map Sj).flatten:=by rw [d];rfl
  have P:=ZkY f.v;have B:=Zfv f.v;have hL:=O;rw [e,lA] at hL;have Y:(XH 0 (UC p)).length<=200:=by have:=TI f.v.1;have:=LH f.v.2.1 (Zq _);unfold UC;simp only [lA,VQ,Zf,aO];omega
  have H:∀ q:Ym,Ro q->(V6 [44,32] q.ZE).length<=108:=fun q i=>LH i.2.1 (Zq _);rw [z,cT,show idx l (0:Int)=some p by rw [show (0:Int)=((0:Nat):Int) from rfl,YL,G]];simp only [bS];rw [QL p.ZE [44,32] (by have:=f.r;omega) (by have:=H p f.v;omega),bS,Zra _ _ (ZjL p) (by simp) (by omega)];simp only [bS];rw [show Yh ((0:Int)+1)=(1:Int) from rfl]
  -- the first protocol's messages
  have s:∀ (q:Ym),Pk N q->∀ (F:Nat->be->Int->Option be) (g:be->Option be) (A:List UInt8),A.length<=50000000 ->
    (∀ (n k:Nat) (m:Ys) (A:List UInt8),q.ZF[k]? = some m->Lc N m ⟨YP A,(1:Int)⟩=some ⟨YP (A++Uz m),(1:Int)⟩->k < 4194304->F (n+1) (YP A) (k:Int)=F n (YP (A++Uz m)) ((k+1:Nat):Int)) ->
    (∀ (n k:Nat) (A:List UInt8),q.ZF.length<=k->F (n+1) (YP A) (k:Int)=g (YP A))->F N (YP A) (0:Int)=g (YP (A++(q.ZF.map Uz).flatten)):=by
   intro q i F g A w L M;have R:=i.v.2.2.1;have B:=Zfv i.v;exact Zkb q.ZF F g Uz 100000000 (by omega) (fun n k m A t o w=>L n k m A o (by have C:=i.v.2.2.2.2.2.2 m (Zb o);exact Zrw (by omega) C A 1 (by omega) (by show A.length+(Uz m).length<=_;omega)) t) (fun n k A I _ X=>M n k A I) q.ZF 0 N A (by omega) rfl (by omega) (by omega)
  rw [s p f (fun n b k=>MT N l p n b (1:Int) k) (fun b=>BA N l p b (1:Int)) (XH 0 (UC p)) (by omega) (fun n k m A o a t=>?_) (fun n k A t=>?_)]
  ·unfold BA;have D:=ZkZ hN f (XH 0 (UC p)++(p.ZF.map Uz).flatten) (by simp only [lA];omega);rw [<- kG];rw [D,bS];show TP N l N (YP _) (0:Int) (Yh ((0:Int)+1))=_;rw [show Yh ((0:Int)+1)=((1:Nat):Int) from rfl];have S:XH 0 (UC p)++(p.ZF.map Uz).flatten++xL 1 p.ZG++XH 0 [125]=Sj p:=rfl;rw [S];rw [Zkb l (fun n b k=>TP N l n b (0:Int) k) (fun b=>(Gy N (⟨b,0⟩:YG)).bind fun x=>some x) Sj 10000000 (by omega) (fun n k q A t i w=>?_) (fun n k A t _ w=>?_) r 1 N (Sj p) (by rw [d];simp) (by rw [d];rfl) (by rw [d] at u;simp at u;omega) (by omega)]
   ·rw [<- e,ZoR _ (by rw [e];unfold Sj UC;simp only [lA,VQ,Zf];omega) (by omega)];rfl
   ·have c:=h q (Zb i);have T:=c.r;have U:=H q c.v;have V:=Zfv c.v;have W:(XH 0 (UC q)).length<=200:=by have:=TI c.v.1;have:=LH c.v.2.1 (Zq _);unfold UC;simp only [lA,VQ,Zf,aO];omega
    simp only [TP,YY (YC i),cT,YL,i,bS];rw [QL q.ZE [44,32] (by omega) (by omega),bS];have a:=RR (N:=N) _ A _ 0 (ZjL q) (by simp) (by omega) (by omega);rw [show (((0:Nat):Int))=(0:Int) from rfl] at a;rw [a];simp only [bS];rw [show Yh ((0:Int)+1)=(1:Int) from rfl];rw [s q c (fun y b j=>MS N (k:Int) (TP N l n) q y b (1:Int) j) (fun b=>Bz N (k:Int) (TP N l n) q b (1:Int)) (A++XH 0 (UC q)) (by simp only [lA];omega) (fun y j m A o a E=>?_) (fun y j A E=>?_)]
    ·unfold Bz;have D:=ZkZ hN c (A++XH 0 (UC q)++(q.ZF.map Uz).flatten) (by simp only [lA];omega);rw [<- kG];rw [D,bS,Xa (by omega)];simp only [Sj,aA]
    ·simp only [MS,YY (YC o),cT,YL,o,bS,a,Xa (show j < 4611686018427387904 by omega)]
    ·simp only [MS,YZ E,cF]
   ·simp only [TP,YZ t,cF]
  ·simp only [MT,YY (YC o),cT,YL,o,bS,a,Xa (show k < 4611686018427387904 by omega)]
  ·simp only [MT,YZ t,cF]
end
section
variable {N:Nat}
def Zeb (l:List Ym):Prop:=l.length<=10/\(∀ p∈l,Ro p)/\(Hy l).length<=8000
theorem ZsS (p:Ym) (Q:Prop):(WG p.Zu=true/\Lu p.ZE 6/\p.ZF.length<=40/\(Wz p.ZG/\dL p.ZG<=10/\cL p.ZG<=300)/\(∀ m∈p.ZF,SE m)/\Q)↔Ro p/\Q:=by
 unfold Ro;constructor
 ·rintro ⟨a,b,c,⟨d,e,f⟩,g,h⟩;exact ⟨⟨a,b,c,d,e,f,g⟩,h⟩
 ·rintro ⟨⟨a,b,c,d,e,f,g⟩,h⟩;exact ⟨a,b,c,⟨d,e,f⟩,g,h⟩
theorem ZuB (hN:4194320 < N) (l:List Ym) (z:l.length<=4194304) (e:∀ p∈l,bP p):Dq (MF N l) (Zeb l):=by
 unfold MF;refine Dq.cN (C:=l.length<=10) L3 fun f=>?_;refine ZaE (P:=Ro) (E:=(Hy l).length<=8000) (by omega) _ (fun n k p Q i c t=>?_) (fun a n k i=>?_) (by omega)
 ·have d:=e p (Zb c);simp only [Qh,YY (YC c),cT,YL,c,bS];refine (Dq.bN (Md (by omega) _) fun u=>Dq.bN (Zgk (by omega) _ d.r 6) fun v=>Dq.cN (C:=p.ZF.length<=40) L3 fun w=>?_).iff (ZsS p Q);have ⟨r,m,y,v2,v3⟩:=Zme N p.ZG 1 0 (by omega) d.l d.b (by omega) (by omega);rw [show Ga N p.ZG (1:Int) (0:Int)=some (r,m) from y,bS];refine Dq.cN (C:=Wz p.ZG/\dL p.ZG<=10/\cL p.ZG<=300) ?_ fun g=>?_
  ·have:r=true↔Wz p.ZG/\dL p.ZG<=10/\cL p.ZG<=300:=v2.trans ⟨fun q=>⟨q.1,by omega,by omega⟩,fun q=>⟨q.1,by omega,by omega⟩⟩;rw [<- this];cases r<;>simp
  ·refine ZaE (P:=SE) (E:=Q) (by omega) (MI N (k:Int) (Qh N l n) p) (fun x j m A o s h=>?_) (fun a x j o=>?_) (by omega)
   ·simp only [MI,YY (YC s),cT,YL,s,bS,Xa (show j < 4611686018427387904 by omega)];exact Dq.bN (ZrB (by omega) m) h
   ·simp only [MI,YZ o,cF,ZcL,Xa (show k < 4611686018427387904 by omega)];exact t ⟨u,v,w,g.1,g.2.1,g.2.2,a⟩
 ·simp only [Qh,YZ i,cF,ZcK];rw [Zt9 hN l f fun p c=>⟨a p c,(e p c).l,(e p c).b⟩,bS];exact Dq.dec (by rw [W9,XC];omega)
end
structure Pr (l:List Ym) (i:Nat) (p:Ym):Prop where
 name:∀ q∈l.take i,q.Zu≠p.Zu
 roles:∀ (k:Nat) x,p.ZE[k]? = some x->x ∉ p.ZE.take k
 sorts:Zag p
 atoms:B9 p
 items:VR l p [] p.ZG
 calls:Sf [] (Rt p.ZG)
 chain:Lk l p
structure Zs (N:Nat) (l:List Ym):Prop where
 len:l.length<=4194304
 p:∀ p∈l,bP p/\8388611+dL p.ZG<=N/\dL p.ZG<=4194304
 all:VH l<=4194304
 n:8388611 < N
theorem Zn7 {l:List Ym} {p} (h:p∈l):cL p.ZG<=VH l:=by
 unfold VH;induction l with
 | nil=>cases h
 | cons q l a =>
  rw [aJ,dW];rcases aW.1 h with rfl | h
  ·omega
  ·have:=a h;omega
theorem ZsT (l:List Ym) (o:Zs N l) (i:Nat) (p:Ym) (s:l[i]? = some p) (ag:Int->Option Y6) :
  ∃ O:Yp,(Gd N (l.take i) p).bind (fun u =>
    bif u then ((z46 N (⟨l,p,([]:List be),(⟨(str []),(str []),(0:Int)⟩:Y6)⟩:Yp) p.Zu (9:Int)).bind fun a =>
     Pd N (i:Int) ag p a.Z2 a.p'.Zu a.p'.ZE a.p'.ZF a.p'.ZG a.Z3 a.Z4.ZY a.Z4.Zu a.Z4.ZZ)
    else Pd N (i:Int) ag p l p.Zu p.ZE p.ZF p.ZG ([]:List be) (str []) (str []) (0:Int)) =
   (bif (O.Z4.ZZ != (0:Int)) then some O.Z4 else ag ((i+1:Nat):Int))/\(O.Z4.ZZ=0↔Pr l i p)/\((∃ q∈l.take i,q.Zu=p.Zu)->O.Z4=⟨p.Zu,p.Zu,9⟩):=by
 have hN:=o.n;have Z:=o.len;have hil:=YC s;have ⟨g,R,S⟩:=o.p p (Zb s);have hcp:=Zn7 (Zb s);have z:=o.all;have c0:Yp:=⟨l,p,[],⟨str [],str [],0⟩⟩
 -- the name
 have ⟨f,j,C⟩:=Ck.test (N:=N) (b:=(l.take i).any fun x=>x.Zu.toList==p.Zu.toList) (c:=⟨l,p,[],⟨str [],str [],0⟩⟩) (nm:=p.Zu) (e:=9) (by decide);have a1:f.Z2=l:=C.all;have p1:f.p'=p:=C.p
 -- the roles
 have ⟨o2,e2,d,T,t⟩:=Rz p.ZE (fun n c i'=>Pe N (i:Int) ag p n c.Z2 c.p'.Zu c.p'.ZE c.p'.ZF c.p'.ZG c.Z3 c.Z4.ZY c.Z4.Zu c.Z4.ZZ i')
  (fun c=>HZ N (i:Int) ag p c.Z2 c.p'.Zu c.p'.ZE c.p'.ZF c.p'.ZG c.Z3 c.Z4.ZY c.Z4.Zu c.Z4.ZZ) eU (fun _ _=>rfl)
  (fun k x=>x ∉ p.ZE.take k) (fun _=>[]) (fun _=>0) f.Z2 f.p' f.Z3.length
  (fun n k x c W X hp' _=>by
   have B:=YC W;have hr:=g.r;refine ⟨bif RI x (p.ZE.take k) then z46 N c x 9 else some c,?_,(Ck.test (by decide)).iff ?_⟩
   ·simp only [Pe,YY B,cT,Ge,YL,W,bS,PS (fP B),Qw];rw [G2 _ (by rw [aL];omega) (by rw [aL];omega),bS,XQ (by omega)];cases RI x (p.ZE.take k)<;>rfl
   ·rw [<- Bool.not_eq_true,RJ])
  (fun n k c B=>by simp only [Pe,YZ B,cF]) (N:=N) (by have:=g.r;omega) f rfl rfl (by rw [UH];omega)
 subst T;rw [UH,PI] at t;have a2:d.Z2=l:=by rw [t.all,a1]
 have H:d.p'=p:=by rw [t.p,p1]
 have sz:∀ c:Yp,c.Z2=l->c.p'=p->Sz N c:=fun c X s=>⟨by rw [s];exact g.r,by rw [s];exact g.m,by rw [X];exact Z,by omega⟩
 have ⟨D,e3,w⟩:=Zt8 (N:=N) d (sz d a2 H) (by rw [H];exact fun m P=>(g.ms m P).1);have a3:D.Z2=l:=by rw [w.all,a2]
 have I:D.p'=p:=by rw [w.p,H]
 have ⟨E,e4,y⟩:=ZnL (N:=N) D (sz D a3 I) (by rw [I];exact fun m P=>g.ms m P);have a4:E.Z2=l:=by rw [y.all,a3]
 have L:E.p'=p:=by rw [y.p,I]
 have l4:E.Z3.length<=0:=by have h1:=C.len;have h2:=t.len;have h3:=w.len;have h4:=y.len;have h0:([]:List be).length=0:=rfl;simp only at h1;omega
 have ⟨F,e5,G⟩:=ZjV N E p.ZG [] ⟨by rw [L];exact g.r,by rw [L];exact g.m,by rw [a4];exact Z,by omega⟩ R g.l g.b (by simpa using S) (by omega);have a5:F.Z2=l:=by rw [G.all,a4]
 have p5:F.p'=p:=by rw [G.p,L]
 have ⟨U,e6,Y⟩:=Zop (N:=N) F (sz F a5 p5) (by rw [a5];exact fun q v=>⟨(o.p q v).2.1,(o.p q v).1.l,(o.p q v).1.b⟩) (by rw [a5];exact z);refine ⟨U,?_,?_,?_⟩
 ·rw [Zoj _ p (by rw [aL];omega) (by rw [aL];omega),bS];have h5:Pd N (i:Int) ag p f.Z2 f.p'.Zu f.p'.ZE f.p'.ZF f.p'.ZG f.Z3 f.Z4.ZY f.Z4.Zu f.Z4.ZZ=(bif (U.Z4.ZZ != (0:Int)) then some U.Z4 else ag ((i+1:Nat):Int)):=by unfold Pd;refine e2.trans ?_;show HZ N (i:Int) ag p d.Z2 d.p'.Zu d.p'.ZE d.p'.ZF d.p'.ZG d.Z3 d.Z4.ZY d.Z4.Zu d.Z4.ZZ=_;unfold HZ;rw [show (⟨d.Z2,⟨d.p'.Zu,d.p'.ZE,d.p'.ZF,d.p'.ZG⟩,d.Z3,⟨d.Z4.ZY,d.Z4.Zu,d.Z4.ZZ⟩⟩:Yp)=d from rfl,e3,bS,e4,bS,e5,bS,e6,bS,XQ (by omega)]
  cases h:(l.take i).any fun x=>x.Zu.toList==p.Zu.toList with
  | true=>rw [h,cT] at j;rw [cT,j];exact h5
  | false =>
   rw [h,cF] at j;cases j;exact h5
 ·have h6:=((((((C.seq t).seq w).seq y).seq G).seq Y)).err;rw [h6,a4,L,a5,p5,H,I];simp only [bn,ar,true_and];rw [Zeh];constructor
  ·rintro ⟨⟨⟨⟨⟨⟨q1,q2⟩,q3⟩,q4⟩,q5⟩,q6⟩,q7⟩;exact ⟨q1,q2,q3,q4,q5,q7,q6⟩
  ·exact fun q=>⟨⟨⟨⟨⟨⟨q.name,q.roles⟩,q.sorts⟩,q.atoms⟩,q.items⟩,q.chain⟩,q.calls⟩
 ·rintro ⟨q,v,hn⟩;have h:((l.take i).any fun x=>x.Zu.toList==p.Zu.toList)=true:=cR.2 ⟨q,v,UG.2 hn⟩;rw [h,cT] at j;unfold z46 at j;rw [show ((0:Int)==0)=true from rfl,cT] at j;cases j;have A:=t.st (by show (9:Int)≠0;decide);have M:=w.st (by rw [A];show (9:Int)≠0;decide);have V:=y.st (by rw [M,A];show (9:Int)≠0;decide);have s5:=G.st (by rw [V,M,A];show (9:Int)≠0;decide);have s6:=Y.st (by rw [s5,V,M,A];show (9:Int)≠0;decide);rw [s6,s5,V,M,A]
theorem Zor (l:List Ym) (x:Zs N l) (v:Bool) (E:MF N l=some v) :
  ∃ r,Pb N l=some r/\(r.ZZ=0↔v=true/\∀ (i:Nat) p,l[i]? = some p->Pr l i p) /\
   (v=true->∀ (i:Nat) p,l[i]? = some p->(∀ (j:Nat) q,j < i->l[j]? = some q->Pr l j q)->(∃ q∈l.take i,q.Zu=p.Zu)->r=⟨p.Zu,p.Zu,9⟩):=by
 have hN:=x.n;have L:=x.len;unfold Pb;rw [E,bS];cases v with
 | false=>exact ⟨_,rfl,by simp,by simp⟩
 | true =>
  rw [Zg,cF];have key:∀ (m:List Ym) (k n:Nat),l.drop k=m->m.length < n->∃ r,UJ N l n (k:Int)=some r/\(r.ZZ=0↔∀ (i:Nat) p,m[i]? = some p->Pr l (k+i) p) /\
    (∀ (i:Nat) p,m[i]? = some p->(∀ (j:Nat) q,j < i->m[j]? = some q->Pr l (k+j) q)->(∃ q∈l.take (k+i),q.Zu=p.Zu)->r=⟨p.Zu,p.Zu,9⟩):=by
   intro m;induction m with
   | nil =>
    intro k n h w;obtain ⟨n,rfl⟩:=pS n (by simp at w;omega);exact ⟨_,by simp only [UJ,YZ (XP h),cF];rfl,by simp,by simp⟩
   | cons p m H =>
    intro k n h w;obtain ⟨n,rfl⟩:=pS n (by simp at w;omega);have ⟨a,e,d⟩:=XW h;have ⟨s,G,z,D⟩:=ZsT l x k p e (UJ N l n);have b:UJ N l (n+1) (k:Int)=(bif (s.Z4.ZZ != (0:Int)) then some s.Z4 else UJ N l n ((k+1:Nat):Int)):=by rw [<- G];simp only [UJ,YY a,cT,YL,e,bS,PS (fP a)]
    by_cases o:s.Z4.ZZ=0
    ·have ⟨r,A,t,u⟩:=H (k+1) n d (by simp at w;omega);rw [show (s.Z4.ZZ != (0:Int))=false by simpa using o,cF] at b;have C:=z.1 o;refine ⟨r,b.trans A,?_,?_⟩
     ·rw [t];constructor
      ·intro g i q c;cases i with
       | zero=>simp only [aX,aR] at c;subst c;exact C
       | succ i=>rw [bE] at c;have:=g i q c;rwa [show k+(i+1)=k+1+i by omega]
      ·intro g i q c;have:=g (i+1) q (by rw [bE];exact c)
       rwa [show k+(i+1)=k+1+i by omega] at this
     ·intro i q c B f;cases i with
      | zero =>
       simp only [aX,aR] at c;subst c;have:=D f;rw [this] at o;exact absurd (show (9:Int)=0 from o) (by decide)
      | succ i =>
       rw [bE] at c;refine u i q c (fun j F I y=>?_) (by rwa [show k+(i+1)=k+1+i by omega] at f);have:=B (j+1) F (by omega) (by rw [bE];exact y)
       rwa [show k+(j+1)=k+1+j by omega] at this
    ·rw [show (s.Z4.ZZ != (0:Int))=true by simpa using o,cT] at b;refine ⟨_,b,?_,?_⟩
     ·constructor
      ·exact fun g=>absurd g o
      ·exact fun g=>absurd (z.2 (g 0 p rfl)) o
     ·intro i q c B f;cases i with
      | zero=>simp only [aX,aR] at c;subst c;exact D f
      | succ i=>exact absurd (z.2 (B 0 p (by omega) rfl)) o
  obtain ⟨r,A,t,u⟩:=key l 0 N rfl (by omega);simp only [au] at t u;exact ⟨r,A,by rw [t];simp,fun _=>u⟩
structure Zhr (p:Ym):Prop where
 roles:∀ (k:Nat) x,p.ZE[k]? = some x->x ∉ p.ZE.take k
 sorts:Zag p
 atoms:B9 p
 calls:Sf [] (Rt p.ZG)
def NmD (l:List Ym):Prop:=l.Pairwise fun a b=>a.Zu≠b.Zu
def GH (l:List Ym):Prop:=Zeb l/\NmD l/\∀ p∈l,Zhr p/\VR l p [] p.ZG/\Lk l p
theorem Zso (l:List Ym):(∀ (i:Nat) p,l[i]? = some p->Pr l i p)↔NmD l/\∀ p∈l,Zhr p/\VR l p [] p.ZG/\Lk l p:=by
 constructor
 ·intro h;refine ⟨?_,fun p d=>?_⟩
  ·unfold NmD;rw [bz];intro i j hi g m;refine (h j l[j] (Za g)).name l[i] ?_;rw [iE];exact ⟨i,by omega,rfl⟩
  ·have ⟨i,hi⟩:=aZ.1 d;have:=h i p hi;exact ⟨⟨this.roles,this.sorts,this.atoms,this.calls⟩,this.items,this.chain⟩
 ·rintro ⟨e,k⟩ i p d;have ⟨a,b,c⟩:=k p (Zb d);refine ⟨fun q f=>?_,a.roles,a.sorts,a.atoms,b,a.calls,c⟩;unfold NmD at e;rw [bz] at e;rw [iE] at f;obtain ⟨j,g,rfl⟩:=f;obtain ⟨hi,rfl⟩:=aE.1 d;exact e j i (by omega) hi (by omega)
theorem Zh0 (l:List Ym) (a:Zs N l):∃ r,Pb N l=some r/\(r.ZZ=0↔GH l) /\
  (Zeb l->∀ (i:Nat) p,l[i]? = some p->(∀ (j:Nat) q,j < i->l[j]? = some q->Pr l j q)->(∃ q∈l.take i,q.Zu=p.Zu)->r=⟨p.Zu,p.Zu,9⟩):=by have ⟨v,e,g⟩:=ZuB (N:=N) (by have:=a.n;omega) l a.len fun p b=>(a.p p b).1;have ⟨r,d,f,h⟩:=Zor l a v e;exact ⟨r,d,by rw [f,g,Zso];rfl,fun c=>h (g.2 c)⟩
theorem Zoc (l:List Xp):VH (l.map oP)=V2 l:=by unfold VH V2;rw [cD];rfl
theorem ZmX {l:List Xp} (a:l.length<=4194304) (b:∀ p∈l,RP p/\8388611+dL (oL p.ZG)<=N/\dL (oL p.ZG)<=4194304) (c:V2 l<=4194304) (hN:8388611 < N):Zs N (l.map oP):=by refine ⟨by simpa using a,fun p d=>?_,by rw [Zoc];exact c,hN⟩;obtain ⟨q,e,rfl⟩:=aQ.1 d;exact b q e
end Gp
