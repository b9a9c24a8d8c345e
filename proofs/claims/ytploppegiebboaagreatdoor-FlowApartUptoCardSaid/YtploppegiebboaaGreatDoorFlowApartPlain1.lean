/- The plain law, part 1: what the functions compute answers as the statement says. -/
import Derived.Lib.Bytealg
import Derived.Test.YtploppegiebboaaGreatDoorFlowApartPure
set_option linter.all false
open List renaming getElem?_eq_some_iff→aE,map_cons→aI,length_take→aL,mem_map→aM,length_map→aN,length_nil→aP,replicate→aQ,mem_cons→aV,getElem?_cons_zero→aX,mem_iff_getElem?→aZ,nil_append→ah,map_nil→au,getElem?_cons_succ→bF,take_of_length_le→ba,length_singleton→bf,length_drop→bg,append_nil→bh,flatten_cons→bq,take_append_of_le_length→bw,take_append_drop→cE,map_map→cG,pairwise_iff_getElem→cK,any_eq_true→cU,sum_cons→db,drop_zero→de,foldl_cons→eM,count_cons→e9,singleton_append→fE,find?_eq_none→fZ,findIdx?_eq_some_iff_getElem→ft,filter_cons→gR,filter_append→iM,mem_take_iff_getElem→iN,flatMap_cons→iR,count_le_length→jy,filter_eq_self→kC
open Option.some renaming injEq→aR
open Nat renaming mul_le_mul_right→aT,ble_eq_true_of_le→ai,zero_add→aw,add_mul→bD,le_add_right→bR,le_trans→bV,le_of_lt→gH,one_mul→kY
open ByteArray renaming empty→ao
open Int renaming toNat_natCast→a8
open Go.IntKind renaming i64→bG,signed→eV,bits→fS,wrap→fx
open List.cons renaming injEq→bH
open Option renaming getD_some→bX,map_some→bb,bind→eg,bind_assoc→kQ
open Bool renaming not_false→cy,or_eq_false_iff→dG,and_eq_false_iff→eH,eq_iff_iff→fY
open Go.Lib renaming indexByte→fT
open Iff renaming rfl→fv
open Or renaming inr→jn,inl→kT
namespace Gp
open Go Go.Kx Gx
theorem dF{p:Prop}[Decidable p](h:¬p):decide p=false:=decide_eq_false h
theorem dT{p:Prop}[Decidable p](h:p):decide p=true:=lh h
theorem bS{α β:Type _}(a:α)(f:α->Option β):(some a).bind f=f a:=rfl
theorem cF{α:Sort _}{a b:α}:(bif false then a else b)=b:=rfl
theorem cT{α:Sort _}{a b:α}:(bif true then a else b)=a:=rfl
theorem aA{α:Type _}(a b c:List α):(a++b)++c=a++(b++c):=List.append_assoc a b c
theorem lA{α:Type _}{a b:List α}:(a++b).length=a.length+b.length:=List.length_append
theorem We{n:Int}(a:-9223372036854775808<=n)(b:n<=9223372036854775807):Yh n=n:=by show bG.wrap n=n;simp[fx,eV,fS];omega
theorem Xb{n:Nat}(h:n<4611686018427387904):Yh ((n:Int)+1)=((n+1:Nat):Int):=by rw[We (by omega) (by omega)];omega
variable {α:Type}
theorem YI(xs:List α)(k:Nat):idx xs (k:Int)=xs[k]?:= by
 unfold idx;have:decide (0<=(k:Int))=true:=by simp
 rw[this];simp
variable {i:Int}{k:Nat}{xs:List α}
theorem Zqy(h:i=k):idx xs i=xs[k]?:= by rw[h,YI]
theorem Vm(xs:List α)(k:Nat)(e:α):YE xs (k:Int) e=xs.set k e:=by unfold YE;simp
theorem Zt8(h:i=k)(e:α):YE xs i e=xs.set k e:=by rw[h,Vm]
theorem Zbf(A:List α)(x:α)(B:List α)(h:A.length=k):(A++x::B)[k]?=some x:=by subst h;simp
theorem HK(A:List α)(x y:α)(B:List α)(h:A.length=k):(A++x::B).set k y=A++y::B:=by subst h;simp
variable {A B L:List α}{x:α}
theorem QU(hL:L=A++x::B)(h:i=(A.length:Int)):idx L i=some x:=by rw[Zqy h,hL];exact Zbf A x B rfl
theorem ZlU(hL:L=A++x::B)(h:i=(A.length:Int))(y:α):YE L i y=A++y::B:=by rw[Zt8 h,hL];exact HK A x y B rfl
theorem X6{ys:List α}(h:xs.length+ys.length<=4294967296):Y8 xs ys=some (xs++ys):=by unfold Y8;have:Nat.ble (xs.length+ys.length) lim=true:=ai h;rw[this];rfl
theorem XY{l:List α}(h:xs.drop k=x::l):k<xs.length/\xs[k]?=some x/\xs.drop (k+1)=l:=by
 have a:k<xs.length:=by
  rcases Nat.lt_or_ge k xs.length with b|b
  ·exact b
  ·rw[List.drop_eq_nil_of_le b]at h;cases h
 rw[List.drop_eq_getElem_cons a]at h;simp only[bH]at h;exact⟨a,by rw[Za a,h.1],h.2⟩
theorem XS(h:xs.drop k=[]):xs.length<=k:=by simpa using h
theorem Zqp{a b:Nat}(h:a+b<4611686018427387904){j:Int}(hi:i=a)(c:j=b):XO .shr .u64 (wk .u64 (Yh (i+j))) (1:Int)=some (((a+b)/2:Nat):Int):=by
 subst hi c;rw[We (by omega) (by omega)];have d:wk .u64 ((a:Int)+b)=(a:Int)+b:=by show IntKind.u64.wrap _=_;simp[fx,eV,fS];omega
 rw[d];show some (((a:Int)+b).fdiv (2 ^ 1))=_;rw[Int.fdiv_eq_ediv_of_nonneg _ (by decide)];simp
variable {γ:Type}
def lv(b:α->Nat->γ->γ)(e:γ):List α->Nat->γ
 | [],_=>e
 |x::l,k=>b x k (lv b e l (k+1))
theorem ZrN(xs:List α)(F:Nat->Int->γ)(b:α->Nat->γ->γ)(e:γ)
  (g:∀n k x,k<xs.length->xs[k]?=some x->F (n+1) (k:Int)=b x k (F n ((k+1:Nat):Int)))
  (i:∀n k,xs.length<=k->F (n+1) (k:Int)=e) :
  ∀(l:List α) (k n:Nat),xs.drop k=l->l.length<n->F n (k:Int)=lv b e l k:=by
 intro l;induction l with
 |nil=>
  intro k n h f;obtain⟨n,rfl⟩:=pS n (by simp at f;omega);exact i n k (XS h)
 |cons x l j=>
  intro k n h f;obtain⟨n,rfl⟩:=pS n (by simp at f;omega);have⟨a,c,d⟩:=XY h;rw[g n k x a c,j (k+1) n d (by simp at f;omega)];rfl
theorem ZrM{F:Nat->Int->γ}{b:α->Nat->γ->γ}{e:γ}{n:Nat}(a:xs.length<n)(hi:i=((0:Nat):Int))
  (c:∀n k x,k<xs.length->xs[k]?=some x->F (n+1) (k:Int)=b x k (F n ((k+1:Nat):Int)))
  (d:∀n k,xs.length<=k->F (n+1) (k:Int)=e):F n i=lv b e xs 0:=by rw[hi];exact ZrN xs F b e c d xs 0 n rfl a
theorem YY{n:Nat}(h:k<n):decide ((k:Int)<(n:Int))=true:=by simp[h]
theorem YZ{n:Nat}(h:n<=k):decide ((k:Int)<(n:Int))=false:=by simp;omega
section
variable {α:Type}{K:α->Int}{r:α->α->Prop}
end
section
theorem Yg{α γ:Type}(xs:List α)(g:xs.length<=4194304)(b:α->Int->γ->γ)(F:Nat->Int->γ)(e:γ){n:Nat}(h:4194304<n)
  (a:∀n k x,k<xs.length->xs[k]?=some x->F (n+1) (k:Int)=b x k (F n (Yh ((k:Int)+1))))
  (c:∀n k,xs.length<=k->F (n+1) (k:Int)=e):F n (0:Int)=lv (fun x (k:Nat) r=>b x (k:Int) r) e xs 0:=
 ZrM (by omega) rfl (fun n k x d f=>by rw[a n k x d f,Xb (by omega)]) c
def VB(a b:be):Bool:=a.toList==b.toList
theorem ZpI(a:be):VB a a=true:=by simp[VB]
variable {N:Nat}(hN:4194304<N)
end
section
variable {N:Nat}(hN:4194304<N)
def ZgB{α:Type}(f:α->Bool)(l:List α):Option Int:=lv (fun x (k:Nat) r=>bif f x then some (k:Int) else r) (some (-1)) l 0
theorem Zoe(a b:be):(a.toList==b.toList)=(b.toList==a.toList):=by rw[fY,lk,lk];exact⟨Eq.symm,Eq.symm⟩
include hN in
theorem ZnM(l:List be)(b:l.length<=4194304)(v:be):TT N l v=ZgB (fun x=>VB x v) l:=by
 unfold TT ZgB;refine Yg l b (fun x k r=>bif VB x v then some k else r) (Tg l v) _ hN ?_ ?_
 ·intro n k x a c;simp only[Tg,YY a,YI,c,cT,bS,VB,Zoe v x]
 ·intro n k a;simp only[Tg,YZ a,cF,H9]
end
theorem Ho(hL:L=A++B)(hi:i=(A.length:Int)):lsl L none (some i)=some A:=by
 subst hL hi;have h:decide ((A.length:Int)<=((A++B).length:Int))=true:=by simp;omega
 have a:decide ((0:Int)<=(A.length:Int))=true:=by simp
 unfold lsl WK;simp only[bX,Option.getD_none,h,a];simp
section
variable {α:Type}
def PG(p:α->Nat->Bool):List α->Nat->Bool
 | [],_=>true
 |x::l,k=>p x k && PG p l (k+1)
theorem Zn0(p:α->Nat->Bool)(xs:List α)(F:Nat->Int->Option Bool)(e:Option Bool)
  (f:∀n k x,k<xs.length->xs[k]?=some x->F (n+1) (k:Int)=bif p x k then F n ((k+1:Nat):Int) else some false)
  (g:∀n k,xs.length<=k->F (n+1) (k:Int)=e) :
  ∀(l:List α) (k n:Nat),xs.drop k=l->l.length<n->F n (k:Int)=bif PG p l k then e else some false:=by
 intro l;induction l with
 |nil=>
  intro k n h b;obtain⟨n,rfl⟩:=pS n (by simp at b;omega);exact g n k (XS h)
 |cons x l i=>
  intro k n h b;obtain⟨n,rfl⟩:=pS n (by simp at b;omega);have⟨a,c,d⟩:=XY h;rw[f n k x a c,i (k+1) n d (by simp at b;omega)];show _=bif (p x k && PG p l (k+1)) then e else some false;cases p x k<;>rfl
theorem ZnZ(p:α->Nat->Bool){xs:List α}{F:Nat->Int->Option Bool}{e:Option Bool}{n:Nat}(a:xs.length<n)
  (b:∀n k x,k<xs.length->xs[k]?=some x->F (n+1) (k:Int)=bif p x k then F n ((k+1:Nat):Int) else some false)
  (c:∀n k,xs.length<=k->F (n+1) (k:Int)=e):F n (0:Int)=bif PG p xs 0 then e else some false:=
 Zn0 p xs F e b c xs 0 n rfl a
def bs(s:be):List UInt8:=s.data.toList
theorem Va(s:be):s.size=(bs s).length:=rfl
theorem Zup{s:be}{k:Nat}(h:k<(bs s).length):decide ((k:Int)<(s.size:Int))=true:=YY h
theorem Zuo{s:be}{k:Nat}(h:(bs s).length<=k):decide ((k:Int)<(s.size:Int))=false:=YZ h
theorem Tc(s:be):s.toList=bs s:=ByteArray.toList_eq s
theorem LP{a b:be}(h:bs a=bs b):a=b:=by cases a with|mk a=>cases b with|mk b=>simpa[bs]using h
theorem DS(s:be)(k:Nat):XM s (k:Int)=(bs s)[k]?.map (fun b=>(b.toNat:Int)):=by
 unfold XM;have h:decide (0<=(k:Int))=true:=by simp
 rw[h,cT];have e:s[(k:Int).toNat]?=(bs s)[k]?:= by simp[getElem?_def,bs];split<;>simp_all;rfl
 rw[e]
theorem Zfg(a b:be):VB a b=true↔a=b:=by unfold VB;rw[lk,Tc,Tc];exact⟨LP,fun h=>by rw[h]⟩
variable {N:Nat}(hN:4194304<N)
def Hn(c:Int):Bool:=(decide (97<=c) && decide (c<=122)) || (decide (65<=c) && decide (c<=90))
def PY(c:Int):Bool:=Hn c || ((decide (48<=c) && decide (c<=57)) || c==95)
theorem Zkv(N:Nat)(c:Int):z28 N c=some (Hn c):=by unfold z28 Hn;cases decide (97<=c)<;>cases decide (c<=122)<;>cases decide (65<=c)<;>rfl
theorem ZqE(N:Nat)(c:Int):z76 N c=some (PY c):=by
 unfold z76 PY Gq;rw[Zkv];simp only[bS];cases Hn c
 ·cases decide (48<=c)<;>cases decide (c<=57)<;>rfl
 ·rfl
def Dr(s:be):Bool:=
 match bs s with
 | []=>false
 |x::l=>Hn (x.toNat:Int) && (decide (l.length<16) && PG (fun (c:UInt8) _=>PY (c.toNat:Int)) (x::l) 0)
def keywords:List be:=[(str [97,103,97,105,110]),(str [97,110,100]),(str [97,115]),(str [97,116]),(str [99,97,108,108]),(str [99,104,111,105,99,101]),(str [101,108,115,101]),(str [102,114,111,109]),(str [105,102]),(str [105,110,116]),(str [108,101,110]),(str [108,111,111,112]),(str [109,101,115,115,97,103,101]),(str [111,102]),(str [111,102,102,101,114]),(str [111,110]),(str [111,114]),(str [112,97,114]),(str [112,108,97,121,115]),(str [112,114,111,116,111,99,111,108]),(str [115,101,114,118,105,99,101]),(str [116,101,120,116]),(str [116,105,109,101,115]),(str [116,111]),(str [118,97,114]),(str [119,104,101,114,101]),(str [119,104,105,108,101]),(str [119,105,116,104,105,110])]
def WH(s:be):Bool:=Dr s && !(keywords.any fun k=>VB k s)
include hN in
theorem ZsC(s:be)(b:s.size<=4194304):PB N s N (0:Int)=some (PG (fun (c:UInt8) _=>PY (c.toNat:Int)) (bs s) 0):=by
 rw[Va]at b;rw[ZnZ (xs:=bs s) (fun (c:UInt8) _=>PY (c.toNat:Int)) (F:=PB N s) (e:=some true) (by omega)]
 ·cases PG (fun (c:UInt8) _=>PY (c.toNat:Int)) (bs s) 0<;>rfl
 ·intro n k x a d;simp only[PB,Zup a,cT,DS,d,bb,bS,ZqE,Xb (show k<4611686018427387904 by omega)];cases PY (x.toNat:Int)<;>rfl
 ·intro n k a;simp only[PB,Zuo a,cF,ZdV]
theorem Zop:bs (str [])=[]:=rfl
include hN in
theorem ZsD(s:be)(a:s.size<=4194304):GL N s=some (Dr s):=by
 unfold GL;rw[ZsC hN s a,Tc,Tc,Zop,Va,show XM s (0:Int)=XM s ((0:Nat):Int) from rfl,DS];unfold Dr;cases h:bs s with
 |nil=>rfl
 |cons x l=>
  have e:(x::l==([]:List UInt8))=false:=rfl;rw[e];simp only[cF,aX,bb,bS,Zkv];have d:decide (((x::l).length:Int)>16) = !decide (l.length<16):=by
   by_cases q:l.length<16
   ·rw[dT q];simp;omega
   ·rw[dF q];simp;omega
  rw[d];cases Hn (x.toNat:Int)<;>cases decide (l.length<16)<;>rfl
theorem ZgC(f:α->Bool)(l:List α)(k:Nat):∃i,lv (fun x (k:Nat) r=>bif f x then some (k:Int) else r) (some (-1)) l k=some i/\decide (i>=0)=l.any f:=by
 induction l generalizing k with
 |nil=>exact⟨-1,rfl,rfl⟩
 |cons x l a=>
  show ∃i,(bif f x then some (k:Int) else lv _ _ l (k+1))=some i/\_;rw[List.any_cons];cases f x
  ·exact a (k+1)
  ·exact⟨k,rfl,by simp⟩
include hN in
theorem Ziz(l:List be)(a:l.length<=4194304)(v:be):V4 N l v=some (l.any fun x=>VB x v):=by unfold V4;rw[ZnM hN l a];have⟨i,b,c⟩:=ZgC (fun x=>VB x v) l 0;unfold ZgB;rw[b,bS,c]
include hN in
theorem ZmK(s:be)(b:s.size<=4194304):Vx N s=some (WH s):=by unfold Vx;rw[ZsD hN s b];simp only[bS];have a:=Ziz hN keywords (by decide) s;unfold keywords at a;rw[a];unfold WH keywords;simp only[bS];cases Dr s<;>rfl
end
section
def YQ(l:List UInt8):be:=⟨l.toArray⟩
theorem XE(l:List UInt8):bs (YQ l)=l:=by simp[bs,YQ]
theorem DC(s:be):YQ (bs s)=s:=LP (XE _)
theorem Zoo(s:be)(a b:Nat):bs (s.extract a b)=((bs s).take b).drop a:=by unfold bs;rw[ByteArray.data_extract,Array.toList_extract];simp[List.extract,List.drop_take]
variable {s:be}{x y:List UInt8}
theorem Zml{z:List UInt8}{i j:Int}(h:bs s=x++(y++z))(hi:i=(x.length:Int))(a:j=((x.length+y.length:Nat):Int)):ssl s (some i) (some j)=some (YQ y):=by
 subst hi a;have b:decide ((0:Int)<=(x.length:Int))=true:=by simp
 have c:decide ((x.length:Int)<=((x.length+y.length:Nat):Int))=true:=by simp;omega
 have d:decide (((x.length+y.length:Nat):Int)<=(s.size:Int))=true:=by rw[Va,h];simp;omega
 unfold ssl WK;simp only[bX,b,c,d,Bool.and_self,cT,bb,a8];congr 1;apply LP;rw[Zoo,XE,h,<-aA,bw (by simp),ba (by simp)];simp
theorem ZuD{j:Int}(h:bs s=x++y)(a:j=(x.length:Int)):ssl s none (some j)=some (YQ x):=by have e:ssl s none (some j)=ssl s (some 0) (some j):=rfl;rw[e];exact Zml (x:=[]) (y:=x) (z:=y) (by rw[h];rfl) rfl (by rw[a];simp)
theorem ZuC{i:Int}(h:bs s=x++y)(hi:i=(x.length:Int)):ssl s (some i) none=some (YQ y):=by have e:ssl s (some i) none=ssl s (some i) (some (s.size:Int)):=rfl;rw[e];exact Zml (x:=x) (y:=y) (z:=[]) (by rw[h];simp) hi (by rw[Va,h];simp)
theorem ZqC{l:List UInt8}{c:UInt8}(h:0<l.count c):∃p q,l=p++c::q/\p.count c=0/\fT l c=(p.length:Int):=by
 induction l with
 |nil=>simp at h
 |cons b l g=>
  cases a:(b==c)
  ·rw[e9,a]at h;have⟨p,q,d,e,f⟩:=g (by simpa using h);refine⟨b::p,q,by rw[d];rfl,by rw[e9,e,a];rfl,?_⟩;unfold fT;rw[a,f,show ((p.length:Int)==-1)=false by simp];simp
  ·have:b=c:=by simpa using a
   subst this;exact⟨[],l,rfl,by simp,by unfold fT;rw[a];rfl⟩
def WO(acc:List UInt8):List UInt8->List (List UInt8)
 | []=>[acc]
 |c::l=>if c=46 then acc::WO [] l else WO (acc++[c]) l
theorem DT(a:List UInt8)(c:UInt8)(l:List UInt8):WO a (c::l)=if c=46 then a::WO [] l else WO (a++[c]) l:=rfl
theorem Zmf:∀(l a:List UInt8),l.count 46=0->WO a l=[a++l]
 | [],a,_=>by simp[WO]
 |c::l,a,h=>by
  rw[e9]at h;have b:¬ c=46:=by intro b;subst b;simp at h
  rw[DT,mE b,Zmf l _ (by omega)];simp
theorem Zmg:∀(p a q:List UInt8),p.count 46=0->WO a (p++46::q)=(a++p)::WO [] q
 | [],a,q,_=>by rw[ah,DT,mD rfl,bh]
 |c::p,a,q,h=>by
  rw[e9]at h;have b:¬ c=46:=by intro b;subst b;simp at h
  show WO a (c::(p++46::q))=_;rw[DT,mE b,Zmg p _ q (by omega)];simp
theorem Zgs:∀(l a:List UInt8),(WO a l).length=l.count 46+1
 | [],a=>by simp[WO]
 |c::l,a=>by
  rw[DT,e9];split
  ·rename_i h;subst h;rw[Zf,Zgs l];simp
  ·rename_i h;rw[Zgs l];simp[h]
variable {N:Nat}
theorem ZqD(s:be):MK N s (str [46])=some (fT (bs s) 46):=by
 unfold MK z173;have b:(((str [46]).size:Int)==0)=false:=rfl;have c:(((str [46]).size:Int)==1)=true:=rfl;have d:XM (str [46]) (0:Int)=some 46:=by rw[show (0:Int)=((0:Nat):Int) from rfl,DS];rfl
 rw[b,c,d];simp only[cT,cF,bS,Bl];have e:Zfm s 46=fT (bs s) 46:=Go.Lib.firstIdx_eq s 46;rw[e,Tc,Tc];cases a:(bs (str [46])==bs s)
 ·rfl
 ·have a:bs (str [46])=bs s:=lz a;rw[<-a];rfl
theorem Zo3(s:be):Bv N s (str [46])=some (((bs s).count 46:Nat):Int):=by
 unfold Bv;have a:(((str [46]).size:Int)==0)=false:=rfl;have b:(((str [46]).size:Int)==1)=true:=rfl;have c:XM (str [46]) (0:Int)=some 46:=by rw[show (0:Int)=((0:Nat):Int) from rfl,DS];rfl
 rw[a,b,c];simp only[cT,cF,bS];congr 1;unfold ZaN;rw[show s.foldl (fun (n:Int) x=>if x==Kx.byteOf 46 then n+1 else n) ((0:Nat):Int)=(bs s).foldl (fun (n:Int) x=>if x==Kx.byteOf 46 then n+1 else n) ((0:Nat):Int) from Go.Lib.foldl_data _ _ _,Go.Lib.count_foldl];simp[Go.Lib.countByte,Kx.byteOf]
theorem Zqe(s d:be)(e:d=str [46])(Xz:Nat)(I:Xz<=s.size)(L:s.size<=4194304) :
  ∀(n:Nat) (a:be) (D R:List be),(bs a).count 46<n->(bs a).length<=4194304->D.length+(bs a).count 46=Xz->R.length=(bs a).count 46+1 ->
  Pp N s d (0:Int) ((Xz+1:Nat):Int) n a (D++R) (D.length:Int)=some (D++(WO [] (bs a)).map YQ):=by
 subst e;intro n;induction n with
 |zero=>intro a D R h;omega
 |succ n H=>
  intro a D R M u O j;have w:Yh ((s.size:Int)+1)=((s.size+1:Nat):Int):=Xb (by omega);have b:VH ((Xz+1:Nat):Int) ((s.size+1:Nat):Int)=((Xz+1:Nat):Int):=by unfold VH;rw[mE (by omega)]
  have g:Yh (((Xz+1:Nat):Int)-1)=(Xz:Int):=by rw[We (by omega) (by omega)];omega
  have k:(bs a).count 46=0->Gf a (D++R) (D.length:Int)=some (D++(WO [] (bs a)).map YQ):=by intro v;rw[v]at j;obtain⟨r,rfl⟩:=List.length_eq_one_iff.mp j;unfold Gf;rw[QU (A:=D) (x:=r) (B:=[]) rfl rfl,bS,ZlU (A:=D) (x:=r) (B:=[]) rfl rfl,Xb (by omega),Ho (A:=D++[a]) (B:=[]) (by simp) (by simp),Zmf _ _ v];simp[DC]
  by_cases G:D.length<Xz
  ·have m:decide ((D.length:Int)<(Xz:Int))=true:=by simp;omega
   have⟨p,q,f,t,E⟩:=ZqC (l:=bs a) (c:=46) (by omega);have z:(bs a).length=p.length+(q.length+1):=by rw[f];simp
   have C:(bs a).count 46=q.count 46+1:=by rw[f,List.count_append,e9,t];simp
   obtain⟨r,R',rfl⟩:∃r R',R=r::R':=by
    cases R with
    |nil=>simp at j
    |cons r R'=>exact⟨r,R',rfl⟩
   simp only[Zf]at j;have i:decide ((p.length:Int)<0)=false:=by simp
   have F:Yh ((p.length:Int)+0)=(p.length:Int):=by rw[We (by omega) (by omega)];omega
   have o:Yh ((p.length:Int)+((str [46]).size:Int))=((p++[46]:List UInt8).length:Int):=by rw[show ((str [46]).size:Int)=1 from rfl,Xb (by omega)];simp
   simp only[Pp,w,b,g,m,cT,ZqD,E,bS,i,cF,F,o];rw[ZuD f rfl,bS,QU (A:=D) (x:=r) (B:=R') rfl rfl,bS,ZuC (x:=p++[46]) (y:=q) (by rw[f];simp) rfl,bS,ZlU (A:=D) (x:=r) (B:=R') rfl rfl,Xb (by omega)];have:=H (YQ q) (D++[YQ p]) R' (by rw[XE];omega) (by rw[XE];omega) (by rw[XE];simp;omega) (by rw[XE];omega);rw[XE]at this;rw[show ((D.length+1:Nat):Int)=((D++[YQ p]).length:Int) by simp,show D++YQ p::R'=(D++[YQ p])++R' by simp,this,f,Zmg _ _ _ t];simp
  ·have m:decide ((D.length:Int)<(Xz:Int))=false:=by simp;omega
   simp only[Pp,w,b,g,m,cF];exact k (by omega)
theorem Zuw(hN:4194304<N)(s:be)(c:s.size<=1000000):Bp N s (str [46])=some ((WO [] (bs s)).map YQ):=by
 unfold Bp Zc4;have d:((-1:Int)==0)=false:=rfl;have e:((str [46]).toList==(str []).toList)=false:=by rw[Tc,Tc];rfl
 have f:decide ((-1:Int)<0)=true:=rfl;have g:(bs s).count 46<=(bs s).length:=jy;rw[d,e,f,Zo3];simp only[cT,cF,bS,Bt];rw[Va]at c;rw[Xb (by omega)];have h:Yh ((s.size:Int)+1)=((s.size+1:Nat):Int):=Xb (by rw[Va];omega);have b:VH (((bs s).count 46+1:Nat):Int) ((s.size+1:Nat):Int)=(((bs s).count 46+1:Nat):Int):=by unfold VH;rw[mE (by rw[Va];omega)]
 have m:Vj (str []) (((bs s).count 46+1:Nat):Int) (((bs s).count 46+1:Nat):Int)=some (aQ ((bs s).count 46+1) (str [])):=by
  unfold Vj;have i:decide ((0:Int)<=(((bs s).count 46+1:Nat):Int))=true:=by simp;omega
  have j:decide ((((bs s).count 46+1:Nat):Int)<=4294967296)=true:=by simp;omega
  simp only[i,j,Int.le_refl,decide_true,Bool.and_self,cT];simp
 rw[h,b,m,bS];have:=Zqe (N:=N) s (str [46]) rfl ((bs s).count 46) (by rw[Va];omega) (by rw[Va];omega) N s [] (aQ ((bs s).count 46+1) (str [])) (by omega) (by omega) (by simp) (by simp);rw[ah]at this;have a:Pp N s (str [46]) (0:Int) (((bs s).count 46+1:Nat):Int) N s (aQ ((bs s).count 46+1) (str [])) (0:Int)=some ([]++(WO [] (bs s)).map YQ):=this;rw[a];simp
def U7(s:be):Bool:=decide (s.size<=50) && (WO [] (bs s)).all fun p=>WH (YQ p)
theorem Zf2:∀(l a:List UInt8),∀p∈WO a l,p.length<=a.length+l.length
 | [],a,p,h=>by simp[WO]at h;subst h;simp
 |c::l,a,p,h=>by
  rw[DT]at h;split at h
  ·rcases aV.mp h with h|h
   ·subst h;simp
   ·have:=Zf2 l [] p h;simp at this;simp;omega
  ·have:=Zf2 l _ p h;simp at this;simp;omega
theorem Zta(hN:4194304<N)(s:be):Qu N s=some (U7 s):=by
 unfold Qu U7;by_cases h:s.size<=50
 ·rw[dT (show (s.size:Int)<=50 by omega),dT h,cT,Zuw hN s (by omega),bS];unfold ZdX ZcJ;have m:(WO [] (bs s)).length<=51:=by rw[Zgs];have:(bs s).count 46<=(bs s).length:=jy;rw[Va]at h;omega
  rw[Yg ((WO [] (bs s)).map YQ) (by simp;omega) (fun x k r=>bif !(WH x) then some k else r) (MR N ((WO [] (bs s)).map YQ)) (some (-1)) hN]
  ·have⟨i,e,f⟩:=ZgC (fun x=> !(WH x)) ((WO [] (bs s)).map YQ) 0;rw[e,bS,f,bS,List.any_map,List.not_any_eq_all_not];simp[Function.comp_def]
  ·intro n k x a d;have b:=Zb d;obtain⟨p,g,rfl⟩:=aM.mp b;have c:=Zf2 _ _ p g;have j:=ZmK hN (YQ p) (by rw[Va,XE];rw[Va]at h;simp at c;omega);simp only[MR,YY a,YI,d,cT,bS,z146,j]
  ·intro n k a;simp only[MR,YZ a,cF,ZcL]
 ·rw[dF (show ¬ (s.size:Int)<=50 by omega),dF h];rfl
end
section
mutual
def oI:Xq->Yj
 |⟨k,f,t,n,a,x,b⟩=>⟨k,f,t,n,a,x,WU b⟩
def oL:List Xq->List Yj
 | []=>[]
 |x::l=>oI x::oL l
def WU:List (List Xq)->List (List Yj)
 | []=>[]
 |x::l=>oL x::WU l
end
theorem ZbB:∀l,oL l=l.map oI
 | []=>by simp only[oL,au]
 |x::l=>by simp only[oL,aI,ZbB l]
theorem Zbz:∀l,WU l=l.map oL
 | []=>by simp only[WU,au]
 |x::l=>by simp only[WU,aI,Zbz l]
mutual
def dI:Yj->Nat
 |⟨_,_,_,_,_,_,b⟩=>VQ b+1
def dL:List Yj->Nat
 | []=>0
 |x::l=>max (dI x) (dL l)
def VQ:List (List Yj)->Nat
 | []=>0
 |x::l=>max (dL x) (VQ l)
end
mutual
def bI:Yj->Prop
 |⟨_,_,t,_,_,_,b⟩=>t.length<=4194304/\b.length<=4194304/\QF b
def bL:List Yj->Prop
 | []=>True
 |x::l=>bI x/\bL l
def QF:List (List Yj)->Prop
 | []=>True
 |x::l=>x.length<=4194304/\bL x/\QF l
end
theorem RM:∀ {l:List Yj} {x},x∈l->dI x<=dL l
 |y::l,x,h=>by
  simp only[dL];rcases aV.1 h with rfl|h
  ·omega
  ·have:=RM h;omega
theorem SU:∀ {l:List (List Yj)} {x},x∈l->dL x<=VQ l
 |y::l,x,h=>by
  simp only[VQ];rcases aV.1 h with rfl|h
  ·omega
  ·have:=SU h;omega
theorem RL(x:Yj):dI x=VQ x.ZD+1:=by cases x;simp only[dI]
theorem RG:∀ {l:List Yj} {x},bL l->x∈l->bI x
 |y::l,x,hb,h=>by
  simp only[bL]at hb;rcases aV.1 h with rfl|h
  ·exact hb.1
  ·exact RG hb.2 h
theorem RF:∀ {l:List (List Yj)} {x},QF l->x∈l->x.length<=4194304/\bL x
 |y::l,x,hb,h=>by
  simp only[QF]at hb;rcases aV.1 h with rfl|h
  ·exact⟨hb.1,hb.2.1⟩
  ·exact RF hb.2.2 h
theorem QE(x:Yj):bI x↔x.To.length<=4194304/\x.ZD.length<=4194304/\QF x.ZD:=by cases x;simp only[bI]
theorem Zk6(x:Xq):oI x=⟨x.Zt,x.ZB,x.To,x.Zu,x.As,x.ZC,WU x.ZD⟩:=by cases x;simp only[oI]
def Dq(o:Option Bool)(P:Prop):Prop:=∃r,o=some r/\(r=true↔P)
theorem Dq.iff{o P Q}(h:Dq o P)(k:P↔Q):Dq o Q:=by have⟨r,a,b⟩:=h;exact⟨r,a,b.trans k⟩
theorem Dq.tr:Dq (some true) True:=⟨true,rfl,by simp⟩
theorem Dq.fa:Dq (some false) False:=⟨false,rfl,by simp⟩
theorem Dq.bool(b:Bool):Dq (some b) (b=true):=⟨b,rfl,fv⟩
variable {C P:Prop}
theorem Dq.cA{c:Bool}{o:Option Bool}(a:c=true↔C)(h:C->Dq o P):Dq (bif c then o else some false) (C/\P):=by
 cases c with
 |false=>exact⟨false,rfl,by simp at a ⊢;intro h;exact absurd h a⟩
 |true=>
  have b:=a.1 rfl;have⟨r,d,e⟩:=h b;exact⟨r,d,by rw[e];exact⟨fun p=>⟨b,p⟩,fun p=>p.2⟩⟩
theorem Dq.cN{c:Bool}{o:Option Bool}(a:c=false↔C)(h:C->Dq o P):Dq (bif c then some false else o) (C/\P):=by
 cases c with
 |true=>exact⟨false,rfl,by simp at a ⊢;intro h;exact absurd h a⟩
 |false=>
  have b:=a.1 rfl;have⟨r,d,e⟩:=h b;exact⟨r,d,by rw[e];exact⟨fun p=>⟨b,p⟩,fun p=>p.2⟩⟩
variable {o1:Option Bool}
theorem Dq.bA{a:Option Bool}(b:Dq o1 C)(h:C->Dq a P):Dq (o1.bind fun x=>bif x then a else some false) (C/\P):=by have⟨r,e,c⟩:=b;rw[e];exact Dq.cA c h
theorem Dq.bN{a:Option Bool}(b:Dq o1 C)(h:C->Dq a P):Dq (o1.bind fun x=>bif (!x) then some false else a) (C/\P):=by have⟨r,e,c⟩:=b;rw[e];exact Dq.cN (by rw[<-c];cases r<;>simp) h
theorem Dq.bS(a:Dq o1 C):Dq (o1.bind fun x=>some x) C:=by have⟨r,e,b⟩:=a;exact⟨r,by rw[e];rfl,b⟩
theorem ZkW{a b:Int}:(a != b)=false↔a=b:=by simp
theorem UA{a b:Int}:(a==b)=true↔a=b:=by simp
theorem UN{a b:be}:(a.toList==b.toList)=true↔a=b:=Zfg a b
theorem ZsO{a b:be}:(!(a.toList==b.toList))=false↔a=b:=by rw[<-Zfg a b];unfold VB;cases (a.toList==b.toList)<;>simp
theorem YB{α:Type}{l:List α}{i:Nat}{x:α}(h:l[i]?=some x):i<l.length:=(aE.1 h).1
theorem Zph{α β:Type}{xs:List α}{ys:List β}(p:xs.length=ys.length)(q:xs.length<=4194304){R:α->β->Prop}(F:Nat->Int->Option Bool){E:Prop}
  (g:∀(n k:Nat) x y Q,k<4194304->xs[k]?=some x->ys[k]?=some y->Dq (F n ((k+1:Nat):Int)) Q->Dq (F (n+1) (k:Int)) (R x y/\Q))
  (j:∀(n k:Nat),xs.length<=k->Dq (F (n+1) (k:Int)) E) {N:Nat} (hN:xs.length<N):Dq (F N (0:Int)) ((∀(i:Nat) (x:α) (y:β),xs[i]?=some x->ys[i]?=some y->R x y)/\E):=by
 have key:∀d k n,xs.length-k=d->d<n->Dq (F n (k:Int)) ((∀(i:Nat) (x:α) (y:β),k<=i->xs[i]?=some x->ys[i]?=some y->R x y)/\E):=by
  intro d;induction d with
  |zero=>
   intro k n h m;obtain⟨n,rfl⟩:=pS n (by omega);refine (j n k (by omega)).iff ⟨fun a=>⟨fun i x y hi b _=>?_,a⟩,fun a=>a.2⟩;have:=YB b;omega
  |succ d o=>
   intro k n h m;obtain⟨n,rfl⟩:=pS n (by omega);have f:k<xs.length:=by omega
   have e:k<ys.length:=by omega
   refine (g n k _ _ _ (by omega) (Za f) (Za e) (o (k+1) n (by omega) (by omega))).iff ⟨fun a=>⟨fun i x y hi b c=>?_,a.2.2⟩,fun a=>⟨?_,fun i x y hi b c=>a.1 i x y (by omega) b c,a.2⟩⟩
   ·rcases Nat.eq_or_lt_of_le hi with rfl|hi
    ·rw[Za f]at b;rw[Za e]at c;cases b;cases c;exact a.1
    ·exact a.2.1 i x y hi b c
   ·exact a.1 k _ _ (Zq _) (Za f) (Za e)
 refine (key xs.length 0 N rfl hN).iff ⟨fun h=>⟨fun i x y b c=>h.1 i x y (Nat.zero_le _) b c,h.2⟩,fun h=>⟨fun i x y _ b c=>h.1 i x y b c,h.2⟩⟩
variable {N:Nat}(hN:4194304<N)
def bM(m:Ys):Prop:=m.Zz.length<=4194304/\m.ZA.length<=4194304
structure bP (p:Yl):Prop where
 r:p.ZE.length<=4194304
 m:p.ZF.length<=4194304
 ms:∀x∈p.ZF,bM x
 l:p.ZG.length<=4194304
 b:bL p.ZG
end
variable {N:Nat}
theorem Si{σ:Type}(xs:List α)(F:Nat->σ->Int->γ)(b:σ->α->σ)(f:σ->γ)(e:Nat->σ->Prop)
  (i:∀(n k:Nat) s x,e k s->xs[k]?=some x->F (n+1) s (k:Int)=F n (b s x) ((k+1:Nat):Int)/\e (k+1) (b s x))
  (j:∀(n k:Nat) s,e k s->xs.length<=k->F (n+1) s (k:Int)=f s) {s:σ} (hN:xs.length<N) (m:e 0 s) :
  F N s (0:Int)=f (xs.foldl b s)/\e xs.length (xs.foldl b s):=by
 have key:∀(l:List α) (k n:Nat) (s:σ),xs.drop k=l->l.length<n->e k s->F n s (k:Int)=f (l.foldl b s)/\e (k+l.length) (l.foldl b s):=by
  intro l;induction l with
  |nil=>
   intro k n s h g hi;obtain⟨n,rfl⟩:=pS n (by simp at g;omega);exact⟨j n k s hi (XS h),hi⟩
  |cons x l u=>
   intro k n s h g hi;obtain⟨n,rfl⟩:=pS n (by simp at g;omega);have⟨a,c,d⟩:=XY h;have⟨o,p⟩:=i n k s x hi c;have⟨q,t⟩:=u (k+1) n _ d (by simp at g;omega) p;refine⟨o.trans q,?_⟩;rw[Zf,show k+(l.length+1)=k+1+l.length by omega];exact t
 have:=key xs 0 N s rfl hN m;rw[aw]at this;exact this
mutual
def cI:Yj->Nat
 |⟨_,_,_,_,_,_,b⟩=>XC b+1
def cL:List Yj->Nat
 | []=>0
 |x::l=>cI x+cL l
def XC:List (List Yj)->Nat
 | []=>0
 |x::l=>cL x+XC l
end
theorem PM(x:Yj):cI x=XC x.ZD+1:=by cases x;simp only[cI]
theorem L3(h:xs[k]?=some x):xs.drop k=x::xs.drop (k+1):=by obtain⟨a,rfl⟩:=aE.1 h;exact List.drop_eq_getElem_cons a
theorem Zid:∀(l:List Xq) (s:Int),l.foldl (fun s x=>s+(cI (oI x):Int)) s=s+(cL (oL l):Int)
 | [],s=>by simp[oL,cL]
 |x::l,s=>by rw[eM,Zid l];simp only[oL,cL];push_cast;omega
theorem Zic:∀(l:List (List Xq)) (s:Int),l.foldl (fun s x=>s+(cL (oL x):Int)) s=s+(XC (WU l):Int)
 | [],s=>by simp[WU,XC]
 |x::l,s=>by rw[eM,Zic l];simp only[WU,XC];push_cast;omega
theorem ZfS(l:List (List Xq)):(WU l).length=l.length:=by rw[Zbz,aN]
theorem Ht(l:List Xq):(oL l).length=l.length:=by rw[ZbB,aN]
theorem ZbA{l:List Xq}{x}(h:x∈l):oI x∈oL l:=by rw[ZbB];exact aM.2 ⟨x,h,rfl⟩
theorem Zby{l:List (List Xq)}{x}(h:x∈l):oL x∈WU l:=by rw[Zbz];exact aM.2 ⟨x,h,rfl⟩
theorem DE(x:Xq):(oI x).ZD=WU x.ZD:=by rw[Zk6]
theorem ZeS:∀(N:Nat) (xs:List Xq),4194306+dL (oL xs)<=N->xs.length<=4194304->bL (oL xs)->cL (oL xs)<=1099511627776->Pj N xs=some ((cL (oL xs):Nat):Int)
 |0,_,h,_,_,_=>by omega
 |N+1,xs,h,hs,hb,hc=>by
  show Bh N (Pj N) xs=_;unfold Bh;have hN:4194304<N:=by omega
  have f:∀(k:Nat) (x:Xq) (s:Int) (ag:Int->Int->Option Int),xs[k]?=some x->0<=s->s+(XC (WU x.ZD):Int)<=1099511627776 ->
    Pl (Pj N) xs (k:Int) ag N s (0:Int)=ag (s+(XC (WU x.ZD):Int)) ((k+1:Nat):Int):=by
   intro k x s ag a w p;have u:=Zb a;have i:=(QE _).1 (RG hb (ZbA u));rw[DE,ZfS]at i;have q:=RM (ZbA u);rw[RL,DE]at q;have t:=YB a;have:=(Si x.ZD (Pl (Pj N) xs (k:Int) ag) (fun s b=>s+(cL (oL b):Int)) (fun s=>ag s ((k+1:Nat):Int))
    (fun j s=>0<=s/\s+(XC (WU (x.ZD.drop j)):Int)<=1099511627776) (fun n j s b hi c=>?_) (fun n j s hi c=>?_) (N:=N) (s:=s) (by omega) ⟨w,by rw[de];exact p⟩).1
   ·rw[this,Zic]
   ·have⟨v,d⟩:=hi;rw[L3 c]at d;simp only[WU,XC]at d;have m:=Zb c;have g:=RF i.2.2 (Zby m);have y:=SU (Zby m);rw[Ht]at g;have e:=ZeS N b (by omega) g.1 g.2 (by omega);refine⟨?_,by omega,by push_cast at d;omega⟩;simp only[Pl,YI,a,bS,YY (YB c),cT,c,e];rw[We (by omega) (by omega),Xb (by have:=YB c;omega)]
   ·simp only[Pl,YI,a,bS,YZ c,cF,Zcq];rw[Xb (by omega)]
  have:=(Si xs (Qm N (Pj N) xs) (fun s x=>s+(cI (oI x):Int)) (fun s=>some s)
   (fun j s=>0<=s/\s+(cL (oL (xs.drop j)):Int)<=1099511627776) (fun n k s x hi a=>?_) (fun n k s hi t=>?_) (N:=N) (s:=0) (by omega) ⟨by omega,by rw[de];omega⟩).1
  ·rw[this,Zid];simp
  ·have⟨v,d⟩:=hi;rw[L3 a]at d;simp only[oL,cL]at d;have o:=PM (oI x);rw[DE]at o;refine⟨?_,by omega,by push_cast at d;omega⟩;simp only[Qm,YY (YB a),cT];rw[We (by omega) (by omega),f k x (s+1) _ a (by omega) (by omega),o];congr 1;push_cast;omega
  ·simp only[Qm,YZ t,cF,Zcp]
def oA(a:LH):Xv:=⟨a.Zx,a.Op,a.Zy⟩
def oM(m:Vg):Ys:=⟨m.Zu,m.Zz,m.ZA.map oA⟩
def oP(p:Xp):Yl:=⟨p.Zu,p.ZE,p.ZF.map oM,oL p.ZG⟩
theorem Pb{β:Type}(f:α->β):∀(l:List α) (s:List β),l.foldl (fun s x=>s++[f x]) s=s++l.map f
 | [],s=>by simp
 |x::l,s=>by rw[eM,Pb f l,aI];simp
theorem Zli:∀(N:Nat) (xs:List Xq),4194306+dL (oL xs)<=N->xs.length<=4194304->bL (oL xs)->M3 N xs=some (oL xs)
 |0,_,h,_,_=>by omega
 |N+1,xs,h,hs,hb=>by
  show BA N (M3 N) xs=_;unfold BA;have hN:4194304<N:=by omega
  have c:∀(k:Nat) (x:Xq) (a:List Yj) (ag:List Yj->Int->Option (List Yj)),xs[k]?=some x->a.length<=4194304 ->
    Pu (M3 N) a (k:Int) ag x N [] (0:Int)=ag (a++[oI x]) ((k+1:Nat):Int):=by
   intro k x a ag f t;have u:=Zb f;have i:=(QE _).1 (RG hb (ZbA u));rw[DE,ZfS]at i;have p:=RM (ZbA u);rw[RL,DE]at p;have o:=YB f;have:=(Si x.ZD (Pu (M3 N) a (k:Int) ag x) (fun s b=>s++[oL b]) (fun s=>BB a (k:Int) ag x s)
    (fun j s=>s.length=j) (fun n j s b hi g=>?_) (fun n j s hi g=>?_) (N:=N) (s:=[]) (by omega) rfl).1
   ·rw[this,Pb,ah,<-Zbz];unfold BB;rw[X6 (by simp;omega),bS,Xb (by omega),Zk6]
   ·have m:=Zb g;have d:=RF i.2.2 (Zby m);have v:=SU (Zby m);rw[Ht]at d;have e:=Zli N b (by omega) d.1 d.2;have q:=YB g;refine⟨?_,by simp[hi]⟩;simp only[Pu,YY q,cT,YI,g,bS,e];rw[X6 (by simp;omega),bS,Xb (by omega)]
   ·simp only[Pu,YZ g,cF]
  have:=(Si xs (Qq N (M3 N) xs) (fun s x=>s++[oI x]) (fun s=>some s)
   (fun j s=>s.length=j) (fun n k s x hi f=>?_) (fun n k s hi o=>?_) (N:=N) (s:=[]) (by omega) rfl).1
  ·rw[this,Pb,ah,<-ZbB]
  ·have o:=YB f;refine⟨?_,by simp[hi]⟩;simp only[Qq,YY o,cT,YI,f,bS];rw[c k x s _ f (by omega)]
  ·simp only[Qq,YZ o,cF,Zdh]
section
variable {N:Nat}(hN:4194304<N)
def RP(p:Xp):Prop:=bP (oP p)
theorem ZsY(m:Vg):(oM m).ZA.length=m.ZA.length:=by show (m.ZA.map oA).length=_;simp
theorem ZnQ{p:Xp}(h:RP p){m}(b:m∈p.ZF):m.Zz.length<=4194304/\m.ZA.length<=4194304:=by have:=h.ms (oM m) (aM.2 ⟨m,b,rfl⟩);have a:=this.2;rw[ZsY]at a;exact⟨this.1,a⟩
theorem ZhO{p:Xp}(h:RP p):p.ZF.length<=4194304:=by
 have:=h.m;have e:(oP p).ZF.length=p.ZF.length:=by show (p.ZF.map oM).length=_;simp
 omega
theorem ZhN{p:Xp}(h:RP p):p.ZG.length<=4194304:=by have:=h.l;have e:(oP p).ZG.length=p.ZG.length:=Ht _;omega
include hN in
theorem Zs8(xs:List Xp)(q:xs.length<=4194304)(k:∀p∈xs,RP p/\4194306+dL (oL p.ZG)<=N):Bi N xs=some (xs.map oP):=by
 unfold Bi;have i3:∀(d:List Ys) (j:Nat) (ag:List Ys->Int->Option (List Yl)) (m:Vg),d.length<=4194304->j<4194304->m.ZA.length<=4194304 ->
   Pm d (j:Int) ag m N [] (0:Int)=ag (d++[oM m]) ((j+1:Nat):Int):=by
  intro d j ag m e g h;have:=(Si m.ZA (Pm d (j:Int) ag m) (fun s a=>s++[oA a]) (fun s=>Bn d (j:Int) ag m s) (fun i s=>s.length=i)
   (fun n i s a hi c=>?_) (fun n i s hi c=>?_) (N:=N) (s:=[]) (by omega) rfl).1
  ·rw[this,Pb,ah];unfold Bn;rw[X6 (by simp;omega),bS,Xb (by omega)];rfl
  ·have f:=YB c;refine⟨?_,by simp[hi]⟩;simp only[Pm,YY f,cT,YI,c,bS];rw[X6 (by simp;omega),bS,Xb (by omega)];rfl
  ·simp only[Pm,YZ c,cF]
 have i2:∀(ps:List Yl) (j:Nat) (ag:List Yl->Int->Option (List Yl)) (p:Xp) (b:List Yj),ps.length<=4194304->j<4194304->RP p ->
   Rn N ps (j:Int) ag p b N [] (0:Int)=ag (ps++[⟨p.Zu,p.ZE,p.ZF.map oM,b⟩]) ((j+1:Nat):Int):=by
  intro ps j ag p b e g h;have o:=ZhO h;have:=(Si p.ZF (Rn N ps (j:Int) ag p b) (fun s a=>s++[oM a]) (fun s=>Bm ps (j:Int) ag p b s) (fun i s=>s.length=i)
   (fun n i s a hi c=>?_) (fun n i s hi c=>?_) (N:=N) (s:=[]) (by omega) rfl).1
  ·rw[this,Pb,ah];unfold Bm;rw[X6 (by simp;omega),bS,Xb (by omega)]
  ·have f:=YB c;refine⟨?_,by simp[hi]⟩;simp only[Rn,YY f,cT,YI,c,bS];rw[i3 s i _ a (by omega) (by omega) (ZnQ h (Zb c)).2]
  ·simp only[Rn,YZ c,cF]
 have:=(Si xs (SA N xs) (fun s a=>s++[oP a]) (fun s=>some s) (fun i s=>s.length=i)
   (fun n i s a hi c=>?_) (fun n i s hi c=>?_) (N:=N) (s:=[]) (by omega) rfl).1
 ·rw[this,Pb,ah]
 ·have f:=YB c;refine⟨?_,by simp[hi]⟩;have⟨e,g⟩:=k a (Zb c);simp only[SA,YY f,cT,YI,c,bS];rw[Zli N a.ZG g (ZhN e) e.b,bS,i2 s i _ a _ (by omega) (by omega) e];rfl
 ·simp only[SA,YZ c,cF,ZcC]
end
section
variable {N:Nat}(hN:4194304<N)
def V9(l:List Xp):Nat:=(l.map fun p=>cL (oL p.ZG)).sum
def P7(l:List Xp):Nat:=(l.map fun p=>p.ZF.length).sum
def Zeq(p:Xp):Prop:=∀m∈p.ZF,m.Zz.length<=8/\m.ZA.length<=10
def ZhF(l:List Xp):Prop:=(∀p∈l,Zeq p)/\l.length<=12/\V9 l<=320/\P7 l<=60
theorem Hg{a b:Nat}:decide ((a:Int)>(b:Int))=false↔a<=b:=by simp
include hN in
theorem ZpY(l:List Xp)(V:l.length<=4194304)(H:∀p∈l,RP p/\4194306+dL (oL p.ZG)<=N)(W:V9 l<=1099511627776):Dq (Ba N l) (ZhF l):=by
 unfold Ba;have key:∀(e:List Xp) (k n:Nat) (s t:Nat),l.drop k=e->e.length<n->s+V9 e<=1099511627776->t<=k*4194304 ->
   Dq (Rk N l n (s:Int) (t:Int) (k:Int)) ((∀p∈e,Zeq p)/\l.length<=12/\s+V9 e<=320/\t+P7 e<=60):=by
  intro e;induction e with
  |nil=>
   intro k n s t h w A P;obtain⟨n,rfl⟩:=pS n (by simp at w;omega);simp only[Rk,YZ (XS h),cF,Zcf];refine (Dq.cA (C:=l.length<=12) (by rw[l8];omega) fun _=>Dq.cA (C:=s<=320) (by rw[l8];omega) fun _=>Dq.bool _).iff ?_;simp only[l8,V9,P7,au,List.sum_nil,Nat.add_zero,List.not_mem_nil,false_implies,implies_true,true_and];omega
  |cons p e U=>
   intro k n s t h w A P;obtain⟨n,rfl⟩:=pS n (by simp at w;omega);have⟨a,c,d⟩:=XY h;have B:=Zb c;have⟨y,M⟩:=H p B;have S:V9 (p::e)=cL (oL p.ZG)+V9 e:=by simp[V9]
   have T:P7 (p::e)=p.ZF.length+P7 e:=by simp[P7]
   have D:=ZhO y;simp only[Rk,YY a,cT,YI,c,bS];rw[ZeS N p.ZG M (ZhN y) y.b (by omega),bS];refine (Zph (xs:=p.ZF) (ys:=p.ZF) rfl D (R:=fun m _=>m.Zz.length<=8/\m.ZA.length<=10)
    (MB l (s:Int) (t:Int) (k:Int) (Rk N l n) ((cL (oL p.ZG):Nat):Int) p)
    (E:=(∀p∈e,Zeq p)/\l.length<=12/\s+cL (oL p.ZG)+V9 e<=320/\t+p.ZF.length+P7 e<=60) (fun I j u v Q F g X L=>?_) (fun I j F=>?_) (N:=N) (by omega)).iff ?_
   ·simp only[MB,YI,c,bS,YY (YB g),cT,g,Xb (show j<4611686018427387904 by omega)];refine (Dq.cN (C:=u.Zz.length<=8) (Hg (b:=8)) fun _=>Dq.cN (C:=u.ZA.length<=10) (Hg (b:=10)) fun _=>L).iff ⟨fun q=>⟨⟨q.1,q.2.1⟩,q.2.2⟩,fun q=>⟨q.1.1,q.1.2,q.2⟩⟩
   ·simp only[MB,YI,c,bS,YZ F,cF,Zcg];rw[We (by omega) (by omega),We (by omega) (by omega),Xb (by omega)];have:=U (k+1) n (s+cL (oL p.ZG)) (t+p.ZF.length) d (by simp at w;omega) (by omega) (by omega);push_cast at this;exact this
   ·rw[S,T];constructor
    ·rintro⟨o,z,G,O,Y⟩;refine⟨fun x f=>?_,G,by omega,by omega⟩;rcases aV.1 f with rfl|f
     ·intro m B;have⟨i,hi⟩:=aZ.1 B;exact o i m m hi hi
     ·exact z x f
    ·rintro⟨o,z,G,O⟩;exact⟨fun i u v g _=>o p (Zj ..) u (Zb g),fun x f=>o x (Zi _ f),z,by omega,by omega⟩
 have:=key l 0 N 0 0 rfl (by omega) (by omega) (by omega);refine this.iff ?_;unfold ZhF;simp only[aw]
end
def XX(p:α->Bool)(xs:List α):Int:=match xs.findIdx? p with
 |some i=>(i:Int)
 |none=>-1
theorem PJ(p:α->Bool)(xs:List α):decide (XX p xs>=0)=xs.any p:=by
 unfold XX;rw[<-List.findIdx?_isSome];cases h:xs.findIdx? p with
 |none=>simp
 |some i=>simp
theorem VC(xs:List α)(p:α->Bool)(F:Nat->Int->Option Int)
  (e:∀(n k:Nat) x,xs[k]?=some x->F (n+1) (k:Int)=bif p x then some (k:Int) else F n ((k+1:Nat):Int))
  (f:∀(n k:Nat),xs.length<=k->F (n+1) (k:Int)=some (-1)) (hN:xs.length<N):F N (0:Int)=some (XX p xs):=by
 have key:∀(l:List α) (k n:Nat),xs.drop k=l->l.length<n->F n (k:Int)=some (match l.findIdx? p with|some i=>((k+i:Nat):Int)|none=>-1):=by
  intro l;induction l with
  |nil=>
   intro k n h b;obtain⟨n,rfl⟩:=pS n (by simp at b;omega);rw[f n k (XS h)];rfl
  |cons x l g=>
   intro k n h b;obtain⟨n,rfl⟩:=pS n (by simp at b;omega);have⟨a,c,d⟩:=XY h;rw[e n k x c,List.findIdx?_cons];cases p x with
   |true=>simp
   |false=>
    rw[cF,g (k+1) n d (by simp at b;omega),mE (by simp)];cases l.findIdx? p with
    |none=>rfl
    |some i=>
     show some (((k+1+i:Nat):Int))=some (((k+(i+1):Nat):Int));rw[show k+1+i=k+(i+1) by omega]
 have:=key xs 0 N rfl hN;rw[show ((0:Nat):Int)=0 from rfl]at this;rw[this];unfold XX;cases xs.findIdx? p with
 |none=>rfl
 |some i=>simp
theorem XR{n:Nat}(h:n<9223372036854775807):Yh ((n:Int)+1)=((n+1:Nat):Int):=by rw[We (by omega) (by omega)];omega
def RR(v:be)(l:List be):Bool:=l.any fun x=>v.toList==x.toList
theorem RS(v:be)(l:List be):RR v l=true↔v∈l:=by
 unfold RR;rw[cU];constructor
 ·rintro⟨x,a,h⟩;rw[UN.1 h];exact a
 ·exact fun h=>⟨v,h,by simp⟩
theorem Df(l:List be)(b:l.length<N)(d:l.length<4611686018427387904)(v:be):V4 N l v=some (RR v l):=by
 unfold V4 TT;rw[VC l (fun x=>v.toList==x.toList) (Tg l v) (fun n k x a=>?_) (fun n k c=>?_) b,bS,PJ]
 ·rfl
 ·simp only[Tg,YY (YB a),cT,YI,a,bS];rw[XR (by have:=YB a;omega)]
 ·simp only[Tg,YZ c,cF,H9]
theorem ZqZ(s:List Yl)(c:Yl)(b:s.length<N)(e:s.length<4611686018427387904):Zaf N s c=some (XX (fun x=>x.Zu.toList==c.Zu.toList) s):=by
 unfold Zaf;refine VC s (fun x=>x.Zu.toList==c.Zu.toList) (Lt N s c) (fun n k x a=>?_) (fun n k d=>?_) b
 ·simp only[Lt,YY (YB a),cT,YI,a,bS,Zdw];rw[XR (by have:=YB a;omega)]
 ·simp only[Lt,YZ d,cF,Zd3]
theorem ZoJ(s:List Yl)(c:Yl)(a:s.length<N)(b:s.length<4611686018427387904):Gu N s c=some (s.any fun x=>x.Zu.toList==c.Zu.toList):=by unfold Gu;rw[ZqZ s c a b,bS,PJ]
theorem Zrb(s:List Ys)(c:Ys)(b:s.length<N)(e:s.length<4611686018427387904):Be N s c=some (XX (fun x=>x.Zu.toList==c.Zu.toList) s):=by
 unfold Be;refine VC s (fun x=>x.Zu.toList==c.Zu.toList) (MD N s c) (fun n k x a=>?_) (fun n k d=>?_) b
 ·simp only[MD,YY (YB a),cT,YI,a,bS,Zd7];rw[XR (by have:=YB a;omega)]
 ·simp only[MD,YZ d,cF,Zcj]
theorem ZoM(s:List Ys)(c:Ys)(a:s.length<N)(b:s.length<4611686018427387904):Zaj N s c=some (s.any fun x=>x.Zu.toList==c.Zu.toList):=by unfold Zaj;rw[Zrb s c a b,bS,PJ]
theorem Zrc(s:List T3)(c:T3)(b:s.length<N)(e:s.length<4611686018427387904):B3 N s c=some (XX (fun x=>x.Zu.toList==c.Zu.toList) s):=by
 unfold B3;refine VC s (fun x=>x.Zu.toList==c.Zu.toList) (Ld N s c) (fun n k x a=>?_) (fun n k d=>?_) b
 ·simp only[Ld,YY (YB a),cT,YI,a,bS,ZbZ];rw[XR (by have:=YB a;omega)]
 ·simp only[Ld,YZ d,cF,ZdD]
theorem ZoN(s:List T3)(c:T3)(a:s.length<N)(b:s.length<4611686018427387904):D4 N s c=some (s.any fun x=>x.Zu.toList==c.Zu.toList):=by unfold D4;rw[Zrc s c a b,bS,PJ]
theorem Zq6(s:List Ys)(c:Y5)(b:s.length<N)(e:s.length<4611686018427387904):Bf N s c=some (XX (fun x=>x.Zu.toList==c.Zw.toList) s):=by
 unfold Bf;refine VC s (fun x=>x.Zu.toList==c.Zw.toList) (ME N s c) (fun n k x a=>?_) (fun n k d=>?_) b
 ·simp only[ME,YY (YB a),cT,YI,a,bS,ZcR];rw[XR (by have:=YB a;omega)]
 ·simp only[ME,YZ d,cF,Zck]
theorem Zq7(s:List T3)(c:Y5)(b:s.length<N)(e:s.length<4611686018427387904):B4 N s c=some (XX (fun x=>x.Zu.toList==c.Field.toList) s):=by
 unfold B4;refine VC s (fun x=>x.Zu.toList==c.Field.toList) (Le N s c) (fun n k x a=>?_) (fun n k d=>?_) b
 ·simp only[Le,YY (YB a),cT,YI,a,bS,ZcS];rw[XR (by have:=YB a;omega)]
 ·simp only[Le,YZ d,cF,ZdE]
theorem Zra(s:List Ys)(c:Yj)(b:s.length<N)(e:s.length<4611686018427387904):Bg N s c=some (XX (fun x=>x.Zu.toList==c.Zu.toList) s):=by
 unfold Bg;refine VC s (fun x=>x.Zu.toList==c.Zu.toList) (MF N s c) (fun n k x a=>?_) (fun n k d=>?_) b
 ·simp only[MF,YY (YB a),cT,YI,a,bS,ZcT];rw[XR (by have:=YB a;omega)]
 ·simp only[MF,YZ d,cF,Zcl]
theorem ZoL(s:List Ys)(c:Yj)(a:s.length<N)(b:s.length<4611686018427387904):Zak N s c=some (s.any fun x=>x.Zu.toList==c.Zu.toList):=by unfold Zak;rw[Zra s c a b,bS,PJ]
theorem Zq8(s:List YT)(c:Yj)(b:s.length<N)(e:s.length<4611686018427387904):D8 N s c=some (XX (fun x=>x.Z5.toList==c.Zu.toList) s):=by
 unfold D8;refine VC s (fun x=>x.Z5.toList==c.Zu.toList) (Mt N s c) (fun n k x a=>?_) (fun n k d=>?_) b
 ·simp only[Mt,YY (YB a),cT,YI,a,bS,Zb1];rw[XR (by have:=YB a;omega)]
 ·simp only[Mt,YZ d,cF,Zb2]
theorem ZoK(s:List YT)(c:Yj)(a:s.length<N)(b:s.length<4611686018427387904):D7 N s c=some (s.any fun x=>x.Z5.toList==c.Zu.toList):=by unfold D7;rw[Zq8 s c a b,bS,PJ]
theorem Zq9(s:List YT)(c:Yj)(b:s.length<N)(e:s.length<4611686018427387904):D9 N s c=some (XX (fun x=>bif x.Z5.toList==c.Zu.toList then !x.Z7 else false) s):=by
 unfold D9;refine VC s (fun x=>bif x.Z5.toList==c.Zu.toList then !x.Z7 else false) (Mu N s c) (fun n k x a=>?_) (fun n k d=>?_) b
 ·simp only[Mu,YY (YB a),cT,YI,a,bS,Zb4];rw[XR (by have:=YB a;omega)];cases (x.Z5.toList==c.Zu.toList)<;>rfl
 ·simp only[Mu,YZ d,cF,Zb3]
theorem Zq0(s:List Yl)(c:Yj)(b:s.length<N)(e:s.length<4611686018427387904):Zag N s c=some (XX (fun x=>x.Zu.toList==c.Zu.toList) s):=by
 unfold Zag;refine VC s (fun x=>x.Zu.toList==c.Zu.toList) (Lu N s c) (fun n k x a=>?_) (fun n k d=>?_) b
 ·simp only[Lu,YY (YB a),cT,YI,a,bS,ZcU];rw[XR (by have:=YB a;omega)]
 ·simp only[Lu,YZ d,cF,Zd4]
theorem Zq1(s:List Yl)(c:Yl)(b:s.length<N)(e:s.length<4611686018427387904):Zah N s c=some (XX (fun x=>x.Zu.toList==c.Zu.toList) s):=by
 unfold Zah;refine VC s (fun x=>x.Zu.toList==c.Zu.toList) (Lv N s c) (fun n k x a=>?_) (fun n k d=>?_) b
 ·simp only[Lv,YY (YB a),cT,YI,a,bS,Zb5];rw[XR (by have:=YB a;omega)]
 ·simp only[Lv,YZ d,cF,Zd5]
theorem Zq3(s:List Yl)(c:be)(b:s.length<N)(e:s.length<4611686018427387904):Zai N s c=some (XX (fun x=>x.Zu.toList==c.toList) s):=by
 unfold Zai;refine VC s (fun x=>x.Zu.toList==c.toList) (Lw N s c) (fun n k x a=>?_) (fun n k d=>?_) b
 ·simp only[Lw,YY (YB a),cT,YI,a,bS,Zcc];rw[XR (by have:=YB a;omega)]
 ·simp only[Lw,YZ d,cF,Zd6]
theorem Zih(s:List Yl)(c:be)(a:s.length<N)(b:s.length<4611686018427387904):BM N s c=some (s.any fun x=>x.Zu.toList==c.toList):=by unfold BM;rw[Zq3 s c a b,bS,PJ]
theorem Zq2(s:List be)(c:Yp)(d:s.length<N)(g:s.length<4611686018427387904)(e:c.Z2.length<N)(a:c.Z2.length<4611686018427387904):Bo N s c=some (XX (fun x=> !(c.Z2.any fun q=>q.Zu.toList==x.toList)) s):=by
 unfold Bo;refine VC s (fun x=> !(c.Z2.any fun q=>q.Zu.toList==x.toList)) (MQ N s c) (fun n k x b=>?_) (fun n k f=>?_) d
 ·simp only[MQ,YY (YB b),cT,YI,b,bS,Mz,Zih c.Z2 x e a];rw[XR (by have:=YB b;omega)]
 ·simp only[MQ,YZ f,cF,ZcK]
def So:List be->List be->Prop
 |_,[]=>True
 |cs,a::r=>a ∉ cs/\So (cs++[a]) r
theorem ZkX:∀(b bs cs:List be),So cs (b++bs)↔So cs b/\So (cs++b) bs
 | [],bs,cs=>by simp[So]
 |a::r,bs,cs=>by simp only[List.cons_append,So,ZkX r bs (cs++[a]),and_assoc,aA,ah]
structure Nt (c:Yp) (P:Prop) (ns:List be) (n:Nat) (c':Yp):Prop where
 all:c'.Z2=c.Z2
 p:c'.p'=c.p'
 len:c'.Z3.length<=c.Z3.length+n
 err:c'.Z4.ZZ=0↔c.Z4.ZZ=0/\P/\So c.Z3 ns
 calls:c'.Z4.ZZ=0->c'.Z3=c.Z3++ns
 st:c.Z4.ZZ≠0->c'.Z4=c.Z4
def Ck(o:Option Yp)(c:Yp)(P:Prop)(ns:List be)(n:Nat):Prop:=∃c',o=some c'/\Nt c P ns n c'
theorem Ck.iff{o c P Q ns n}(h:Ck o c P ns n)(k:P↔Q):Ck o c Q ns n:=by have⟨a,e,g⟩:=h;exact⟨a,e,g.all,g.p,g.len,by rw[g.err,k],g.calls,g.st⟩
theorem Ck.le{o c P ns n m}(h:Ck o c P ns n)(k:n<=m):Ck o c P ns m:=by have⟨a,e,g⟩:=h;exact⟨a,e,g.all,g.p,bV g.len (by omega),g.err,g.calls,g.st⟩
theorem Ck.skip(c:Yp):Ck (some c) c True [] 0:=⟨c,rfl,rfl,rfl,Zq _,by simp[So],by simp,fun _=>rfl⟩
theorem Ck.note(c:Yp)(nm:be){e:Int}(a:e≠0)(b:List be)(n:Nat):Ck (z46 N c nm e) c False b n:=by
 unfold z46;by_cases h:c.Z4.ZZ=0
 ·rw[show (c.Z4.ZZ==(0:Int))=true by simpa using h,cT];exact⟨_,rfl,rfl,rfl,bR _ _,by simp[a],fun q=>absurd q a,fun q=>absurd h q⟩
 ·rw[show (c.Z4.ZZ==(0:Int))=false by simpa using h,cF];exact⟨_,rfl,rfl,rfl,bR _ _,by simp[h],fun q=>absurd q h,fun _=>rfl⟩
theorem Nt.seq{c P ns n c1 Q bs m c2}(g:Nt c P ns n c1)(a:Nt c1 Q bs m c2):Nt c (P/\Q) (ns++bs) (n+m) c2:=by
 refine⟨by rw[a.all,g.all],by rw[a.p,g.p],bV a.len (by have:=g.len;omega),?_,fun j=>?_,fun h=>?_⟩
 ·rw[a.err,g.err,ZkX];constructor
  ·rintro⟨⟨b,d,e⟩,i,f⟩;rw[g.calls (g.err.2 ⟨b,d,e⟩)]at f;exact⟨b,⟨d,i⟩,e,f⟩
  ·rintro⟨b,⟨d,i⟩,e,f⟩;refine⟨⟨b,d,e⟩,i,?_⟩;rw[g.calls (g.err.2 ⟨b,d,e⟩)];exact f
 ·rw[a.calls j,g.calls (a.err.1 j).1,aA]
 ·have k:=g.st h;rw[a.st (by rw[k];exact h),k]
theorem Ck.seq{o:Option Yp}{f:Yp->Option Yp}{c P Q ns bs n m}(h:Ck o c P ns n)
  (k:∀a,a.Z2=c.Z2->a.p'=c.p'->a.Z3.length<=c.Z3.length+n->Ck (f a) a Q bs m):Ck (o.bind f) c (P/\Q) (ns++bs) (n+m):=by have⟨a,e,g⟩:=h;have⟨b,d,i⟩:=k a g.all g.p g.len;exact⟨b,by rw[e];exact d,g.seq i⟩
theorem Nt.iff{c P Q ns n c'}(g:Nt c P ns n c')(k:P↔Q):Nt c Q ns n c':=⟨g.all,g.p,g.len,by rw[g.err,k],g.calls,g.st⟩
theorem Ck.test{b:Bool}{c:Yp}{nm:be}{e:Int}(a:e≠0):Ck (bif b then z46 N c nm e else some c) c (b=false) [] 0:=by
 cases b with
 |true=>exact (Ck.note (N:=N) c nm a [] 0).iff (by simp)
 |false=>exact (Ck.skip c).iff (by simp)
theorem RJ(xs:List α)(F:Nat->Yp->Int->γ)(j:Yp->γ)(b:Option Yp->(Yp->γ)->γ)(E:∀c f,b (some c) f=f c)
  (P:Nat->α->Prop) (z:α->List be) (m:α->Nat) (a0:List Yl) (A:Yl) (B:Nat)
  (G:∀(n k:Nat) x c,xs[k]?=some x->c.Z2=a0->c.p'=A->c.Z3.length+((xs.drop k).map m).sum<=B->∃o,F (n+1) c (k:Int)=b o (fun C=>F n C ((k+1:Nat):Int))/\Ck o c (P k x) (z x) (m x))
  (H:∀(n k:Nat) c,xs.length<=k->F (n+1) c (k:Int)=j c) (hN:xs.length<N) (c:Yp) (t:c.Z2=a0) (u:c.p'=A) (hB:c.Z3.length+(xs.map m).sum<=B) :
  ∃o,F N c (0:Int)=b o j/\Ck o c (∀(k:Nat) x,xs[k]?=some x->P k x) (xs.flatMap z) (xs.map m).sum:=by
 have key:∀(l:List α) (k n:Nat) (c:Yp),xs.drop k=l->l.length<n->c.Z2=a0->c.p'=A->c.Z3.length+(l.map m).sum<=B ->
   ∃o,F n c (k:Int)=b o j/\Ck o c (∀(i:Nat) x,l[i]?=some x->P (k+i) x) (l.flatMap z) (l.map m).sum:=by
  intro l;induction l with
  |nil=>
   intro k n c h w t u hB;obtain⟨n,rfl⟩:=pS n (by simp at w;omega);refine⟨some c,by rw[H n k c (XS h),E],?_⟩;exact (Ck.skip c).iff (by simp)
  |cons x l T=>
   intro k n c h w t u hB;obtain⟨n,rfl⟩:=pS n (by simp at w;omega);have⟨a,e,d⟩:=XY h;have⟨o1,v,C,D,g⟩:=G n k x c e t u (by rw[h];exact hB);subst D;rw[E]at v;rw[aI,db]at hB;have⟨I,L,M⟩:=T (k+1) n C d (by simp at w;omega) (by rw[g.all,t]) (by rw[g.p,u]) (by have:=g.len;omega);refine⟨I,v.trans L,?_⟩;have⟨O,R,S⟩:=M;refine⟨O,R,(g.seq S).iff ?_⟩;constructor
   ·rintro⟨v,D⟩ i y s;cases i with
    |zero=>simp only[aX,aR]at s;subst s;exact v
    |succ i=>rw[bF]at s;have:=D i y s;rwa [show k+(i+1)=k+1+i by omega]
   ·intro q;refine⟨q 0 x rfl,fun i y s=>?_⟩;have:=q (i+1) y (by rw[bF];exact s)
    rwa [show k+(i+1)=k+1+i by omega]at this
 have:=key xs 0 N c rfl hN t u hB;simpa using this
theorem QH(o:Option α):(o.bind fun x=>some x)=o:=by cases o<;>rfl
theorem P5(h:k<=xs.length):lsl xs none (some (k:Int))=some (xs.take k):=
 Ho (cE k xs).symm (by rw[aL];omega)
theorem Zgc(c:Yp)(l:List be)(k:Nat)(x:be)(e:l[k]?=some x)(j:l.length<N)(f:l.length<4611686018427387904)(g:c.p'.ZE.length<N)(b:c.p'.ZE.length<4611686018427387904) :
  Ck (Ms N c l (k:Int)) c (x∈c.p'.ZE/\x ∉ l.take k) [] 0:=by
 have i:=YB e;unfold Ms Gv;simp only[YI,e,bS,Df _ g b,P5 (gH i),QH];rw[Df _ (by rw[aL];omega) (by rw[aL];omega)];simp only[bS];cases a:RR x c.p'.ZE with
 |false=>
  simp only[cy,cT];refine (Ck.note c x (by decide) [] 0).iff ?_;have:¬ x∈c.p'.ZE:=fun h=>by rw[(RS _ _).2 h]at a;cases a
  simp[this]
 |true=>
  simp only[Zg,cF];have a:=(RS _ _).1 a;cases d:RR x (l.take k) with
  |true=>
   simp only[cT];refine (Ck.note c x (by decide) [] 0).iff ?_;have:=(RS _ _).1 d;simp[this]
  |false=>
   simp only[cF];refine (Ck.skip c).iff ?_;have:¬ x∈l.take k:=fun h=>by rw[(RS _ _).2 h]at d;cases d
   simp[this,a]
def G5(p:Yl)(l:List be):Prop:=∀(k:Nat) x,l[k]?=some x->x∈p.ZE/\x ∉ l.take k
def ZhP(p:Yl)(x:Yj):Prop:=G5 p (x.ZB::x.To)/\∃m∈p.ZF,m.Zu=x.Zu
def ZhC(all:List Yl)(p:Yl)(x:Yj):Prop:=∃q,all.find? (fun q=>q.Zu.toList==x.Zu.toList)=some q/\q.ZE.length=x.To.length/\G5 p x.To
theorem UO(xs:List α):(xs.map fun _=>0).sum=0:=by induction xs with
 |nil=>rfl
 |cons x l a=>rw[aI,db,a]
theorem PW(xs:List α):(xs.flatMap fun _=>([]:List be))=[]:=by induction xs with
 |nil=>rfl
 |cons x l a=>rw[iR,a];rfl
structure Sz (N:Nat) (c:Yp):Prop where
 r:c.p'.ZE.length<=4194304
 m:c.p'.ZF.length<=4194304
 a:c.Z2.length<=4194304
 n:8388609<N
theorem Sz.of{c b:Yp}(h:Sz N c)(e:b.Z2=c.Z2)(d:b.p'=c.p'):Sz N b:=⟨by rw[d];exact h.r,by rw[d];exact h.m,by rw[e];exact h.a,h.n⟩
theorem Zt5(c:Yp)(x:Yj)(b:Sz N c)(t:x.To.length<=4194304):Ck (D6 N c x) c (ZhP c.p' x) [] 0:=by
 have hN:=b.n;unfold D6;rw[X6 (by simp;omega),bS,fE];have⟨o,e,h⟩:=RJ (x.ZB::x.To) (fun n c i=>Mr N x (x.ZB::x.To) n c.Z2 c.p'.Zu c.p'.ZE c.p'.ZF c.p'.ZG c.Z3 c.Z4.ZY c.Z4.Zu c.Z4.ZZ i)
  (fun c=>HZ N x c.Z2 c.p'.Zu c.p'.ZE c.p'.ZF c.p'.ZG c.Z3 c.Z4.ZY c.Z4.Zu c.Z4.ZZ) eg (fun _ _=>rfl)
  (fun k y=>y∈c.p'.ZE/\y ∉ (x.ZB::x.To).take k) (fun _=>[]) (fun _=>0) c.Z2 c.p' c.Z3.length
  (fun n k y d g q a _=>⟨_,by
   simp only[Mr,YY (YB g),cT];rw[XR (by have:=YB g;simp at this;omega)],by have:=Zgc (N:=N) d (x.ZB::x.To) k y g (by simp;omega) (by simp;omega) (by rw[a];have:=b.r;omega) (by rw[a];have:=b.r;omega);rw[a]at this;exact this⟩)
  (fun n k d s=>by simp only[Mr,YZ s,cF]) (N:=N) (by simp;omega) c rfl rfl (by rw[UO];omega)
 rw[UO,PW]at h;refine Eq.mp (mG (fun o=>Ck o c _ _ _) e.symm) ?_;refine (Ck.seq h (f:=fun c=>HZ N x c.Z2 c.p'.Zu c.p'.ZE c.p'.ZF c.p'.ZG c.Z3 c.Z4.ZY c.Z4.Zu c.Z4.ZZ) (Q:=∃m∈c.p'.ZF,m.Zu=x.Zu) (bs:=[]) (m:=0) (fun d q a _=>?_));unfold HZ;have u:=b.m;rw[ZoL _ x (by rw[a];omega) (by rw[a];omega),bS];simp only[QH];refine (Ck.test (N:=N) (c:=d) (by decide)).iff ?_;rw[a,<-Bool.not_eq_true',Bool.not_not,cU];constructor
 ·rintro⟨m,j,p⟩;exact⟨m,j,UN.1 p⟩
 ·rintro⟨m,j,p⟩;exact⟨m,j,UN.2 p⟩
theorem Sb(p:α->Bool)(xs:List α):(XX p xs=-1/\xs.find? p=none)\/∃(i:Nat) (x:α),XX p xs=(i:Int)/\xs[i]?=some x/\xs.find? p=some x:=by
 unfold XX;cases h:xs.findIdx? p with
 |none=>
  refine .inl ⟨rfl,?_⟩;rw[List.findIdx?_eq_none_iff]at h;rw[fZ];exact fun x b=>by rw[h x b];simp
 |some i=>
  rw[ft]at h;have⟨a,d,e⟩:=h;refine .inr ⟨i,xs[i],rfl,Za a,?_⟩;rw[List.find?_eq_some_iff_getElem];exact⟨d,i,a,rfl,fun j c=>by have:=e j c;simpa using this⟩
theorem ZoE(c:Yp)(x:Yj)(z:Sz N c)(R:x.To.length<=4194304)(G:c.Z3.length<=4194304):Ck (Bb N c x) c (ZhC c.Z2 c.p' x) [x.As] 1:=by
 have hN:=z.n;have H:=z.a;have P:∀b:Yp,b.Z3.length<=4194304->Ck (Mv N x b.Z2 b.p'.Zu b.p'.ZE b.p'.ZF b.p'.ZG b.Z3 b.Z4.ZY b.Z4.Zu b.Z4.ZZ) b True [x.As] 1:=by
  intro b v;unfold Mv;rw[Df _ (by omega) (by omega),bS];cases d:RR x.As b.Z3 with
  |true=>
   have d:=(RS _ _).1 d;simp only[cT];have⟨C,e,g⟩:=Ck.note (N:=N) b x.As (e:=9) (by decide) [] 0;rw[show (⟨b.Z2,⟨b.p'.Zu,b.p'.ZE,b.p'.ZF,b.p'.ZG⟩,b.Z3,⟨b.Z4.ZY,b.Z4.Zu,b.Z4.ZZ⟩⟩:Yp)=b from rfl,e,bS];have D:=g.len;rw[X6 (by simp;omega),bS];have w:¬ C.Z4.ZZ=0:=fun h=>(g.err.1 h).2.1;refine⟨_,rfl,g.all,g.p,by simp;omega,⟨fun h=>absurd h w,fun h=>absurd d h.2.2.1⟩,fun h=>absurd h w,g.st⟩
  |false=>
   have d:¬ x.As∈b.Z3:=fun h=>by rw[(RS _ _).2 h]at d;cases d
   simp only[cF];rw[X6 (by simp;omega),bS];exact⟨_,rfl,rfl,rfl,by simp,by simp[So,d],fun _=>rfl,fun _=>rfl⟩
 have F:∀b:Yp,b.Z2=c.Z2->b.p'=c.p'->b.Z3.length<=4194304->Ck (H2 N x b.Z2 b.p'.Zu b.p'.ZE b.p'.ZF b.p'.ZG b.Z3 b.Z4.ZY b.Z4.Zu b.Z4.ZZ) b (G5 c.p' x.To) [x.As] 1:=by
  intro b j s v;unfold H2;have⟨o,e,h⟩:=RJ x.To (fun n c i=>Mw N x n c.Z2 c.p'.Zu c.p'.ZE c.p'.ZF c.p'.ZG c.Z3 c.Z4.ZY c.Z4.Zu c.Z4.ZZ i)
   (fun c=>Mv N x c.Z2 c.p'.Zu c.p'.ZE c.p'.ZF c.p'.ZG c.Z3 c.Z4.ZY c.Z4.Zu c.Z4.ZZ) eg (fun _ _=>rfl)
   (fun k y=>y∈c.p'.ZE/\y ∉ x.To.take k) (fun _=>[]) (fun _=>0) c.Z2 c.p' b.Z3.length
   (fun n k y b A H B _=>⟨_,by
    simp only[Mw,YY (YB A),cT];rw[XR (by have:=YB A;omega)],by have:=Zgc (N:=N) b x.To k y A (by omega) (by omega) (by rw[B];have:=z.r;omega) (by rw[B];have:=z.r;omega);rw[B]at this;exact this⟩)
   (fun n k b I=>by simp only[Mw,YZ I,cF]) (N:=N) (by omega) b j s (by rw[UO];omega)
  rw[UO,PW]at h;refine Eq.mp (mG (fun o=>Ck o b _ _ _) e.symm) ?_;refine (Ck.seq h (f:=fun c=>Mv N x c.Z2 c.p'.Zu c.p'.ZE c.p'.ZF c.p'.ZG c.Z3 c.Z4.ZY c.Z4.Zu c.Z4.ZZ) (Q:=True) (bs:=[x.As]) (m:=1) (fun C L M D=>P C (by omega))).iff ?_;exact⟨fun q=>q.1,fun q=>⟨q,trivial⟩⟩
 unfold Bb;rw[Zq0 _ x (by omega) (by omega),bS];rcases Sb (fun q:Yl=>q.Zu.toList==x.Zu.toList) c.Z2 with⟨v,d⟩|⟨i,q,v,d,E⟩
 ·rw[v,show decide ((-1:Int)<0)=true from rfl,cT,QH];refine (Ck.note c x.Zu (by decide) [x.As] 1).iff ?_;simp only[false_iff];rintro⟨q,u,_⟩;rw[d]at u;cases u
 ·rw[v,show decide ((i:Int)<0)=false by simp,cF,YI,d,bS];by_cases u:q.ZE.length=x.To.length
  ·rw[show ((q.ZE.length:Int) != (x.To.length:Int))=false by simp;omega,cF];refine (F c rfl rfl G).iff ⟨fun g=>⟨q,E,u,g⟩,?_⟩;rintro⟨O,t,_,g⟩;exact g
  ·rw[show ((q.ZE.length:Int) != (x.To.length:Int))=true by simp;omega,cT];refine (Ck.seq (Ck.note c x.Zu (e:=1) (by decide) [] 0) (Q:=G5 c.p' x.To) (bs:=[x.As]) (m:=1) (fun b j s D=>F b j s (by omega))).iff ?_;constructor
   ·exact fun g=>g.1.elim
   ·rintro⟨O,t,e,_⟩;rw[E]at t;cases t;exact absurd e u
section
def Qh(b:Bool)(ls:List YT):List YT:=ls.map fun o=>⟨o.Z5,o.Z6 && b,o.Z7⟩
def Tv(b:Bool)(ls:List YT):List YT:=ls.map fun o=>⟨o.Z5,o.Z6,o.Z7 || b⟩
def Zei(ls:List YT)(n:be):Prop:=∃o,ls.find? (fun o=>bif o.Z5.toList==n.toList then !o.Z7 else false)=some o/\o.Z6=true
def SK(all:List Yl)(p:Yl)(ls:List YT)(x:Yj):Prop:=
 (x.Zt=1->ZhP p x)/\(x.Zt=2->x.ZB∈p.ZE)/\(x.Zt=3->∀o∈ls,o.Z5≠x.Zu)/\(x.Zt=4->Zei ls x.Zu)/\(x.Zt=6->ZhC all p x)
def S4(ls:List YT)(x:Yj):List YT:=Tv (x.Zt==5) (if x.Zt=3 then ls++[⟨x.Zu,true,false⟩] else ls)
mutual
def Rc(all:List Yl)(p:Yl):List YT->Yj->Prop
 |ls,⟨k,f,t,n,a,x,b⟩=>SK all p ls ⟨k,f,t,n,a,x,b⟩/\Re all p (S4 ls ⟨k,f,t,n,a,x,b⟩) b
def VY(all:List Yl)(p:Yl):List YT->List Yj->Prop
 |_,[]=>True
 |ls,x::l=>Rc all p (Qh l.isEmpty ls) x/\VY all p ls l
def Re(all:List Yl)(p:Yl):List YT->List (List Yj)->Prop
 |_,[]=>True
 |ls,b::r=>VY all p ls b/\Re all p ls r
end
theorem Zlc(all p ls)(x:Yj):Rc all p ls x↔SK all p ls x/\Re all p (S4 ls x) x.ZD:=by cases x;simp only[Rc]
def Hh(x:Yj):List be:=if x.Zt=6 then [x.As] else []
mutual
def PI:Yj->List be
 |⟨k,f,t,n,a,x,b⟩=>Hh ⟨k,f,t,n,a,x,b⟩++LO b
def RD:List Yj->List be
 | []=>[]
 |x::l=>PI x++RD l
def LO:List (List Yj)->List be
 | []=>[]
 |b::r=>RD b++LO r
end
theorem Zn7(x:Yj):PI x=Hh x++LO x.ZD:=by cases x;simp only[PI]
theorem Zh5:∀l,RD l=l.flatMap PI
 | []=>rfl
 |x::l=>by simp only[RD,iR,Zh5 l]
theorem Zh4:∀l,LO l=l.flatMap RD
 | []=>rfl
 |x::l=>by simp only[LO,iR,Zh4 l]
theorem Dd:∀l,cL l=(l.map cI).sum
 | []=>rfl
 |x::l=>by simp only[cL,aI,db,Dd l]
theorem ZeI:∀l,XC l=(l.map cL).sum
 | []=>rfl
 |x::l=>by simp only[XC,aI,db,ZeI l]
theorem Zlf(all p ls):∀l:List Yj,VY all p ls l↔∀(k:Nat) x,l[k]?=some x->Rc all p (Qh (k+1==l.length) ls) x
 | []=>by simp[VY]
 |x::l=>by
  simp only[VY];rw[Zlf all p ls l];constructor
  ·rintro⟨b,c⟩ k y a;cases k with
   |zero=>
    simp only[aX,aR]at a;subst a;have:(0+1==(x::l).length)=l.isEmpty:=by cases l<;>simp
    rw[this];exact b
   |succ k=>
    rw[bF]at a;have:=c k y a;have e:(k+1+1==(x::l).length)=(k+1==l.length):=by simp
    rw[e];exact this
  ·intro h;refine⟨?_,fun k y a=>?_⟩
   ·have:=h 0 x rfl;have e:(0+1==(x::l).length)=l.isEmpty:=by cases l<;>simp
    rw[e]at this;exact this
   ·have:=h (k+1) y (by rw[bF];exact a);have e:(k+1+1==(x::l).length)=(k+1==l.length):=by simp
    rw[e]at this;exact this
theorem Zld(all p ls):∀l:List (List Yj),Re all p ls l↔∀(k:Nat) b,l[k]?=some b->VY all p ls b
 | []=>by simp[Re]
 |x::l=>by
  simp only[Re];rw[Zld all p ls l];constructor
  ·rintro⟨c,d⟩ k y a;cases k with
   |zero=>simp only[aX,aR]at a;subst a;exact c
   |succ k=>rw[bF]at a;exact d k y a
  ·exact fun h=>⟨h 0 x rfl,fun k y a=>h (k+1) y (by rw[bF];exact a)⟩
theorem ZkG{α γ:Type}(g:α->α)(xs:List α)(F:Nat->List α->Int->γ)(a:List α->γ)
  (c:∀(n k:Nat) v x,k<xs.length->v[k]?=some x->F (n+1) v (k:Int)=F n (v.set k (g x)) ((k+1:Nat):Int))
  (d:∀(n k:Nat) v,xs.length<=k->F (n+1) v (k:Int)=a v) {N:Nat} (hN:xs.length<N):F N xs (0:Int)=a (xs.map g):=by
 have key:∀(B A:List α) (n:Nat),A.length+B.length=xs.length->B.length<n->F n (A++B) (A.length:Int)=a (A++B.map g):=by
  intro B;induction B with
  |nil=>
   intro A n h b;obtain⟨n,rfl⟩:=pS n (by simp at b;omega);rw[d n _ _ (by simp at h;omega)];rfl
  |cons x B e=>
   intro A n h b;obtain⟨n,rfl⟩:=pS n (by simp at b;omega);rw[c n A.length _ x (by simp at h;omega) (Zbf A x B rfl),HK A x (g x) B rfl];have:=e (A++[g x]) n (by simp at h ⊢;omega) (by simp at b;omega);rw[aA,fE,lA,bf,aA,fE]at this;rw[this,aI]
 have:=key xs [] N (by simp) hN;simpa using this
theorem ZuU(b ls):(Qh b ls).length=ls.length:=by simp[Qh]
theorem Zqq(b ls):(Tv b ls).length=ls.length:=by simp[Tv]
set_option maxHeartbeats 1000000 in
theorem Zkg:∀(N:Nat) (c:Yp) (l:List Yj) (B:List YT),Sz 8388610 c->8388611+dL l<=N->l.length<=4194304->bL l->B.length+dL l<=4194304->c.Z3.length+cL l<=4194304 ->
  Ck (V3 N c l B) c (VY c.Z2 c.p' B l) (RD l) (cL l)
 |0,_,_,_,_,h,_,_,_,_=>by omega
 |N+1,c,l,B,hs,h,hlen,hb,hls,hc=>by
  show Ck (BU N (V3 N) c l B) _ _ _ _;unfold BU;have hN:8388609<N:=by omega
  have hsz:∀s:Yp,s.Z2=c.Z2->s.p'=c.p'->Sz N s:=fun s D A=>⟨by rw[A];exact hs.r,by rw[A];exact hs.m,by rw[D];exact hs.a,hN⟩
  have X:∀s:Yp,s.Z2=c.Z2->s.p'=c.p'->Sz 8388610 s:=fun s D A=>hs.of D A
  -- the blocks of one item
  have k7:∀(k:Nat) (x:Yj) (s:Yp) (u:List YT) (ag),l[k]?=some x->s.Z2=c.Z2->s.p'=c.p'->u.length+VQ x.ZD<=4194304->s.Z3.length+XC x.ZD<=4194304 ->
    ∃o,UT N (V3 N) (k:Int) ag x s.Z2 s.p'.Zu s.p'.ZE s.p'.ZF s.p'.ZG s.Z3 s.Z4.ZY s.Z4.Zu s.Z4.ZZ u =
     o.bind (fun t:Yp=>ag t.Z2 t.p'.Zu t.p'.ZE t.p'.ZF t.p'.ZG t.Z3 t.Z4.ZY t.Z4.Zu t.Z4.ZZ ((k+1:Nat):Int)) /\
     Ck o s (Re c.Z2 c.p' (Tv (x.Zt==5) u) x.ZD) (LO x.ZD) (XC x.ZD):=by
   intro k x s u ag E D A V W;have M:=Zb E;have I:=(QE _).1 (RG hb M);have Y:=RM M;rw[RL]at Y;have hk:=YB E;unfold UT;rw[ZkG (fun o:YT=>(⟨o.Z5,o.Z6,o.Z7 || (x.Zt==5)⟩:YT)) u
    (fun n v i=>Pv N (V3 N) (k:Int) ag x s.Z2 s.p'.Zu s.p'.ZE s.p'.ZF s.p'.ZG s.Z3 s.Z4.ZY s.Z4.Zu s.Z4.ZZ u n v i)
    (fun v=>BX N (V3 N) (k:Int) ag x s.Z2 s.p'.Zu s.p'.ZE s.p'.ZF s.p'.ZG s.Z3 s.Z4.ZY s.Z4.Zu s.Z4.ZZ v)
    (fun n j v o y F=>by simp only[Pv,YY y,cT,YI,F,bS,Vm];rw[XR (by omega)];cases o.Z7<;>simp)
    (fun n j v y=>by simp only[Pv,YZ y,cF]) (N:=N) (by omega)]
   unfold BX;have⟨o,e,g⟩:=RJ x.ZD (fun n c i=>Lb (V3 N) (k:Int) ag x (Tv (x.Zt==5) u) n c.Z2 c.p'.Zu c.p'.ZE c.p'.ZF c.p'.ZG c.Z3 c.Z4.ZY c.Z4.Zu c.Z4.ZZ i)
    (fun c=>BW (k:Int) ag c.Z2 c.p'.Zu c.p'.ZE c.p'.ZF c.p'.ZG c.Z3 c.Z4.ZY c.Z4.Zu c.Z4.ZZ) eg (fun _ _=>rfl)
    (fun _ b=>VY c.Z2 c.p' (Tv (x.Zt==5) u) b) RD cL c.Z2 c.p' 4194304
    (fun n j b t y S T hc2=>by rw[L3 y,aI,db]at hc2;have Z:=Zb y;have hbb:=RF I.2.2 Z;have hdb:=SU Z;have:=Zkg N t b (Tv (x.Zt==5) u) (X t S T) (by omega) hbb.1 hbb.2 (by rw[Zqq];omega) (by omega);rw[S,T]at this;refine⟨_,?_,this⟩;simp only[Lb,YY (YB y),cT,YI,y,bS];rw[XR (by have:=YB y;omega)])
    (fun n j t y=>by simp only[Lb,YZ y,cF]) (N:=N) (by omega) s D A (by rw[<-ZeI];omega)
   rw[<-Zh4,<-ZeI]at g;refine⟨o,e.trans ?_,g.iff (Zld _ _ _ _).symm⟩;congr 1;funext t;unfold BW;rw[XR (by omega)]
  -- one item
  have k8:∀(k:Nat) (x:Yj) (s:Yp) (u:List YT) (ag),l[k]?=some x->s.Z2=c.Z2->s.p'=c.p'->u.length+dI x<=4194304->s.Z3.length+cI x<=4194304 ->
    ∃o,GF N (V3 N) s.Z2 s.p'.Zu s.p'.ZE s.p'.ZF s.p'.ZG s.Z3 s.Z4.ZY s.Z4.Zu s.Z4.ZZ (k:Int) ag x u =
     o.bind (fun t:Yp=>ag t.Z2 t.p'.Zu t.p'.ZE t.p'.ZF t.p'.ZG t.Z3 t.Z4.ZY t.Z4.Zu t.Z4.ZZ ((k+1:Nat):Int)) /\
     Ck o s (Rc c.Z2 c.p' u x) (PI x) (cI x):=by
   intro k x s u ag E D A V W;have M:=Zb E;have I:=(QE _).1 (RG hb M);rw[RL]at V;rw[PM]at W;have hS:=hsz s D A;have hto:=I.1
   -- behind a first step
   have z:∀(o1:Option Yp) (P:Prop) (bs:List be) (m:Nat) (R:List YT),Ck o1 s P bs m->bs=Hh x->m<=1->R.length+VQ x.ZD<=4194304->(P↔SK c.Z2 c.p' u x)->Tv (x.Zt==5) R=S4 u x ->
     ∃o,(o1.bind fun t:Yp=>UT N (V3 N) (k:Int) ag x t.Z2 t.p'.Zu t.p'.ZE t.p'.ZF t.p'.ZG t.Z3 t.Z4.ZY t.Z4.Zu t.Z4.ZZ R) =
      o.bind (fun t:Yp=>ag t.Z2 t.p'.Zu t.p'.ZE t.p'.ZF t.p'.ZG t.Z3 t.Z4.ZY t.Z4.Zu t.Z4.ZZ ((k+1:Nat):Int))/\Ck o s (Rc c.Z2 c.p' u x) (PI x) (cI x):=by rintro o1 P bs m R ⟨t,rfl,g⟩ rfl hm1 hns hP hin;have⟨o,e,c3,e3,g3⟩:=k7 k x t R ag E (by rw[g.all,D]) (by rw[g.p,A]) hns (by have:=g.len;omega);refine⟨o,e,?_⟩;have O:=(g.seq g3).iff (Q:=Rc c.Z2 c.p' u x) (by rw[Zlc,hP,hin]);rw[<-Zn7]at O;exact Ck.le ⟨c3,e3,O⟩ (by rw[PM];omega)
   have w:x.Zt≠6->([]:List be)=Hh x:=fun G=>by unfold Hh;rw[mE G]
   have C:x.Zt≠3->Tv (x.Zt==5) u=S4 u x:=fun H=>by unfold S4;rw[mE H]
   unfold GF;by_cases h1:x.Zt=1
   ·rw[show (x.Zt==(1:Int))=true by simpa using h1,cT];refine z _ _ _ _ u (Zt5 s x hS hto) (w (by omega)) (by omega) (by omega) ?_ (C (by omega));rw[A];unfold SK;constructor
    ·exact fun q=>⟨fun _=>q,by omega,by omega,by omega,by omega⟩
    ·exact fun q=>q.1 h1
   rw[show (x.Zt==(1:Int))=false by simpa using h1,cF];by_cases h2:x.Zt=2
   ·rw[show (x.Zt==(2:Int))=true by simpa using h2,cT];have L:=Zgc (N:=N) s [x.ZB] 0 x.ZB rfl (by simp;omega) (by simp) (by have:=hS.r;omega) (by have:=hS.r;omega);refine z _ _ _ _ u L (w (by omega)) (by omega) (by omega) ?_ (C (by omega));rw[A];unfold SK;constructor
    ·exact fun q=>⟨by omega,fun _=>q.1,by omega,by omega,by omega⟩
    ·exact fun q=>⟨q.2.1 h2,by simp⟩
   rw[show (x.Zt==(2:Int))=false by simpa using h2,cF];by_cases H:x.Zt=3
   ·rw[show (x.Zt==(3:Int))=true by simpa using H,cT,ZoK u x (by omega) (by omega),bS,X6 (by simp;omega)];simp only[bS];have:=z (bif (u.any fun o=>o.Z5.toList==x.Zu.toList) then z46 N s x.Zu 9 else some s) _ _ _ (u++[⟨x.Zu,true,false⟩]) (Ck.test (by decide)) (w (by omega)) (by omega) (by simp;omega) (by
     unfold SK;rw[List.any_eq_false];constructor
     ·exact fun q=>⟨by omega,by omega,fun _ o F e=>q o F (by rw[e];simp),by omega,by omega⟩
     ·exact fun q o F e=>q.2.2.1 H o F (UN.1 e)) (by unfold S4;rw[mD H])
    have⟨o,e,g⟩:=this;refine⟨o,?_,g⟩;rw[<-e];cases (u.any fun o=>o.Z5.toList==x.Zu.toList)<;>rfl
   rw[show (x.Zt==(3:Int))=false by simpa using H,cF];by_cases O:x.Zt=4
   ·rw[show (x.Zt==(4:Int))=true by simpa using O,cT,Zq9 u x (by omega) (by omega),bS];have hH:∀P:Prop,(P↔Zei u x.Zu)->(P↔SK c.Z2 c.p' u x):=fun P q=>by
     rw[q];unfold SK;constructor
     ·exact fun q=>⟨by omega,by omega,by omega,fun _=>q,by omega⟩
     ·exact fun q=>q.2.2.2.1 O
    rcases Sb (fun o:YT=>bif o.Z5.toList==x.Zu.toList then !o.Z7 else false) u with⟨q1,q2⟩|⟨i,o,q1,q2,q3⟩
    ·rw[q1,show decide ((-1:Int)<0)=true from rfl,cT];refine z _ _ _ _ u (Ck.note s x.Zu (by decide) [] 0) (w (by omega)) (by omega) (by omega) (hH _ ?_) (C (by omega));simp only[false_iff];rintro⟨o,F,_⟩;rw[q2]at F;cases F
    ·rw[q1,show decide ((i:Int)<0)=false by simp,cF,YI,q2,bS];have:=z (bif !o.Z6 then z46 N s x.Zu 7 else some s) _ _ _ u (Ck.test (by decide)) (w (by omega)) (by omega) (by omega) (hH _ (by
      unfold Zei;constructor
      ·exact fun q=>⟨o,q3,by simpa using q⟩
      ·rintro⟨o',U,ht⟩;rw[q3]at U;cases U;simp[ht])) (C (by omega))
     have⟨o2,e,g⟩:=this;refine⟨o2,?_,g⟩;rw[<-e];cases o.Z6<;>rfl
   rw[show (x.Zt==(4:Int))=false by simpa using O,cF];by_cases G:x.Zt=6
   ·rw[show (x.Zt==(6:Int))=true by simpa using G,cT];refine z _ _ _ _ u (ZoE s x hS hto (by omega)) (by unfold Hh;rw[mD G]) (by omega) (by omega) ?_ (C (by omega));rw[A,D];unfold SK;constructor
    ·exact fun q=>⟨by omega,by omega,by omega,by omega,fun _=>q⟩
    ·exact fun q=>q.2.2.2.2 G
   ·rw[show (x.Zt==(6:Int))=false by simpa using G,cF];have:=z (some s) _ _ _ u (Ck.skip s) (w G) (by omega) (by omega) (by
     unfold SK;constructor
     ·exact fun q=>⟨by omega,by omega,by omega,by omega,by omega⟩
     ·exact fun _=>trivial) (C H)
    exact this
  have⟨o,e,g⟩:=RJ l (fun n c i=>VL N (V3 N) l B n c.Z2 c.p'.Zu c.p'.ZE c.p'.ZF c.p'.ZG c.Z3 c.Z4.ZY c.Z4.Zu c.Z4.ZZ i)
   (fun c=>BV c.Z2 c.p'.Zu c.p'.ZE c.p'.ZF c.p'.ZG c.Z3 c.Z4.ZY c.Z4.Zu c.Z4.ZZ) eg (fun _ _=>rfl)
   (fun k x=>Rc c.Z2 c.p' (Qh (k+1==l.length) B) x) PI cI c.Z2 c.p' 4194304
   (fun n k x s E D A hc1=>by
    rw[L3 E,aI,db]at hc1;have M:=Zb E;have Y:=RM M;have hk:=YB E;have⟨o,e,g⟩:=k8 k x s (Qh (k+1==l.length) B) (fun a b c d e f g h i j=>VL N (V3 N) l B n a b c d e f g h i j) E D A (by rw[ZuU];omega) (by omega);refine⟨o,?_,g⟩;simp only[VL,YY hk,cT,YI,E,bS,Zb0];rw[X6 (by simp;omega),bS,bS,ah];rw[ZkG (fun o:YT=>(⟨o.Z5,o.Z6 && (k+1==l.length),o.Z7⟩:YT)) B
     (fun m v i=>Pw N (V3 N) l s.Z2 s.p'.Zu s.p'.ZE s.p'.ZF s.p'.ZG s.Z3 s.Z4.ZY s.Z4.Zu s.Z4.ZZ (k:Int) (VL N (V3 N) l B n) x B m v i)
     (fun v=>GF N (V3 N) s.Z2 s.p'.Zu s.p'.ZE s.p'.ZF s.p'.ZG s.Z3 s.Z4.ZY s.Z4.Zu s.Z4.ZZ (k:Int) (VL N (V3 N) l B n) x v)
     (fun m j v o y F=>by
      simp only[Pw,YY y,cT,YI,F,bS,Vm];rw[XR (by omega)];have:((k:Int)==Yh ((l.length:Int)-1))=(k+1==l.length):=by rw[We (by omega) (by omega),fY];simp;omega
      rw[this];cases o.Z6<;>simp)
     (fun m j v y=>by simp only[Pw,YZ y,cF]) (N:=N) (by omega)]
    exact e)
   (fun n k s hk=>by simp only[VL,YZ hk,cF]) (N:=N) (by omega) c rfl rfl (by rw[<-Dd];omega)
  rw[<-Zh5,<-Dd]at g;have e':=e.trans (show (o.bind fun c=>BV c.Z2 c.p'.Zu c.p'.ZE c.p'.ZF c.p'.ZG c.Z3 c.Z4.ZY c.Z4.Zu c.Z4.ZZ)=o from QH o);refine Eq.mp (mG (fun o=>Ck o c _ _ _) e'.symm) (g.iff (Zlf _ _ _ _).symm)
end
section
def Zas(f:T3):Prop:=f.Zv.Lo<=f.Zv.Hi/\(bif f.Zv.Zt==2 then 0 else -1000)<=f.Zv.Lo/\f.Zv.Hi<=(bif f.Zv.Zt==2 then 40 else 1000)
def Zem(m:Ys):Prop:=∀(j:Nat) f,m.Zz[j]?=some f->(∀g∈m.Zz.take j,g.Zu≠f.Zu)/\Zas f
def Zau(p:Yl):Prop:=∀(k:Nat) m,p.ZF[k]?=some m->(∀q∈p.ZF.take k,q.Zu≠m.Zu)/\Zem m
theorem ZeA{α:Type}(l:List α)(f:α->be)(n:be):(l.any fun x=>(f x).toList==n.toList)=false↔∀x∈l,f x≠n:=by rw[List.any_eq_false];exact⟨fun h x a e=>h x a (UN.2 e),fun h x a e=>h x a (UN.1 e)⟩
set_option maxHeartbeats 1000000 in
variable {N:Nat}
theorem Zuu(c:Yp)(H:Sz N c)(L:∀m∈c.p'.ZF,m.Zz.length<=4194304):Ck (BN N c) c (Zau c.p') [] 0:=by
 have hN:=H.n;have U:=H.m;unfold BN
 -- the range of one field
 have R:∀(j:Nat) (f:T3) (p:Yp) (ag),j<4194304->∃o,Gy N (j:Int) ag f p.Z2 p.p'.Zu p.p'.ZE p.p'.ZF p.p'.ZG p.Z3 p.Z4.ZY p.Z4.Zu p.Z4.ZZ =
   o.bind (fun s:Yp=>ag s.Z2 s.p'.Zu s.p'.ZE s.p'.ZF s.p'.ZG s.Z3 s.Z4.ZY s.Z4.Zu s.Z4.ZZ ((j+1:Nat):Int))/\Ck o p (Zas f) [] 0:=by
  intro j f p ag v;have I:∀lo hi:Int,∃o,Gw N (j:Int) ag f p.Z2 p.p'.Zu p.p'.ZE p.p'.ZF p.p'.ZG p.Z3 p.Z4.ZY p.Z4.Zu p.Z4.ZZ lo hi =
   o.bind (fun s:Yp=>ag s.Z2 s.p'.Zu s.p'.ZE s.p'.ZF s.p'.ZG s.Z3 s.Z4.ZY s.Z4.Zu s.Z4.ZZ ((j+1:Nat):Int))/\Ck o p (f.Zv.Lo<=f.Zv.Hi/\lo<=f.Zv.Lo/\f.Zv.Hi<=hi) [] 0:=by
   intro lo hi;refine⟨bif decide (f.Zv.Lo>f.Zv.Hi) || (decide (f.Zv.Lo<lo) || decide (f.Zv.Hi>hi)) then z46 N p f.Zu 2 else some p,?_,(Ck.test (by decide)).iff ?_⟩
   ·unfold Gw;rw[XR (by omega)];cases decide (f.Zv.Lo>f.Zv.Hi)<;>cases decide (f.Zv.Lo<lo)<;>cases decide (f.Zv.Hi>hi)<;>rfl
   ·simp only[dG,lg];omega
  unfold Gy Zas;cases (f.Zv.Zt==2) with
  |true=>exact I 0 40
  |false=>exact I (-1000) 1000
 -- the fields of one message
 have S:∀(k:Nat) (m:Ys) (p:Yp) (ag),k<4194304->m.Zz.length<=4194304->∃o,Gz N (k:Int) ag m p.Z2 p.p'.Zu p.p'.ZE p.p'.ZF p.p'.ZG p.Z3 p.Z4.ZY p.Z4.Zu p.Z4.ZZ =
   o.bind (fun s:Yp=>ag s.Z2 s.p'.Zu s.p'.ZE s.p'.ZF s.p'.ZG s.Z3 s.Z4.ZY s.Z4.Zu s.Z4.ZZ ((k+1:Nat):Int))/\Ck o p (Zem m) [] 0:=by
  intro k m p ag u P;unfold Gz;have⟨o,e,g⟩:=RJ m.Zz (fun n c i=>SE N (k:Int) ag m n c.Z2 c.p'.Zu c.p'.ZE c.p'.ZF c.p'.ZG c.Z3 c.Z4.ZY c.Z4.Zu c.Z4.ZZ i)
   (fun c=>BP (k:Int) ag c.Z2 c.p'.Zu c.p'.ZE c.p'.ZF c.p'.ZG c.Z3 c.Z4.ZY c.Z4.Zu c.Z4.ZZ) eg (fun _ _=>rfl)
   (fun j f=>(∀g∈m.Zz.take j,g.Zu≠f.Zu)/\Zas f) (fun _=>[]) (fun _=>0) p.Z2 p.p' p.Z3.length
   (fun n j f s v M A _=>by
    have w:=YB v;simp only[SE,YY w,cT,YI,v,bS,P5 (gH w)];rw[ZoN _ f (by rw[aL];omega) (by rw[aL];omega),bS];have⟨B,t,C⟩:=Ck.test (N:=N) (b:=(m.Zz.take j).any fun x=>x.Zu.toList==f.Zu.toList) (c:=s) (nm:=f.Zu) (e:=9) (by decide);have⟨o,D,E,F,G⟩:=R j f B (fun a b c d e f g h i j=>SE N (k:Int) ag m n a b c d e f g h i j) (by omega);refine⟨o,?_,E,F,(C.seq G).iff (and_congr_left' (ZeA _ _ _))⟩;rw[<-D];cases z:(m.Zz.take j).any fun x=>x.Zu.toList==f.Zu.toList with
    |true=>rw[z,cT]at t;rw[cT,t];rfl
    |false=>rw[z,cF]at t;cases t;rfl)
   (fun n j s v=>by simp only[SE,YZ v,cF]) (N:=N) (by omega) p rfl rfl (by rw[UO];omega)
  rw[UO,PW]at g;refine⟨o,e.trans ?_,g⟩;congr 1;funext s;unfold BP;rw[XR (by omega)]
 have⟨o,e,g⟩:=RJ c.p'.ZF (fun n p i=>US N c n p.Z2 p.p'.Zu p.p'.ZE p.p'.ZF p.p'.ZG p.Z3 p.Z4.ZY p.Z4.Zu p.Z4.ZZ i)
  (fun c=>BO c.Z2 c.p'.Zu c.p'.ZE c.p'.ZF c.p'.ZG c.Z3 c.Z4.ZY c.Z4.Zu c.Z4.ZZ) eg (fun _ _=>rfl)
  (fun k m=>(∀q∈c.p'.ZF.take k,q.Zu≠m.Zu)/\Zem m) (fun _=>[]) (fun _=>0) c.Z2 c.p' c.Z3.length
  (fun n k m p u M A _=>by
   have y:=YB u;simp only[US,YY y,cT,YI,u,bS,A,P5 (gH y)];rw[ZoM _ m (by rw[aL];omega) (by rw[aL];omega),bS];have⟨B,t,C⟩:=Ck.test (N:=N) (b:=(c.p'.ZF.take k).any fun x=>x.Zu.toList==m.Zu.toList) (c:=p) (nm:=m.Zu) (e:=9) (by decide);have⟨o,D,E,F,G⟩:=S k m B (fun a b O d e f g h i j=>US N c n a b O d e f g h i j) (by omega) (L m (Zb u));refine⟨o,?_,E,F,(C.seq G).iff (and_congr_left' (ZeA _ _ _))⟩;rw[<-D];cases z:(c.p'.ZF.take k).any fun x=>x.Zu.toList==m.Zu.toList with
   |true=>
    rw[z,cT]at t;rw[cT,<-A];rw[show (⟨p.Z2,⟨p.p'.Zu,p.p'.ZE,p.p'.ZF,p.p'.ZG⟩,p.Z3,⟨p.Z4.ZY,p.Z4.Zu,p.Z4.ZZ⟩⟩:Yp)=p from rfl,t];rfl
   |false=>rw[z,cF]at t;cases t;rw[cF,<-A])
  (fun n k p u=>by simp only[US,YZ u,cF]) (N:=N) (by omega) c rfl rfl (by rw[UO];omega)
 rw[UO,PW]at g;have T:=e.trans (show (o.bind fun c=>BO c.Z2 c.p'.Zu c.p'.ZE c.p'.ZF c.p'.ZG c.Z3 c.Z4.ZY c.Z4.Zu c.Z4.ZZ)=o from QH o);exact Eq.mp (mG (fun o=>Ck o c _ _ _) T.symm) g
def P3(fs:List T3)(t:Y5):Int:=match fs.find? (fun f=>f.Zu.toList==t.Field.toList) with
 |some f=>f.Zv.Zt
 |none=>0
def kd(p:Yl)(m:Ys)(t:Y5):Int:=bif !(t.Zw.toList==(str []).toList) then (match p.ZF.find? (fun q=>q.Zu.toList==t.Zw.toList) with
 |some q=>P3 q.Zz t
 |none=>0) else P3 m.Zz t
theorem Zp1(c:Yp)(m:Ys)(t:Y5)(g:Sz N c)(k:∀m∈c.p'.ZF,m.Zz.length<=4194304)(o:m.Zz.length<=4194304):D5 N c m t=some (kd c.p' m t):=by
 have hN:=g.n;have p:=g.m;have j:∀(a:be) (fs:List T3) (w),fs.length<=4194304->HY N t a fs w=some (P3 fs t):=by
  intro a fs w h;unfold HY P3;rw[Zq7 fs t (by omega) (by omega),bS];rcases Sb (fun f:T3=>f.Zu.toList==t.Field.toList) fs with⟨d,b⟩|⟨i,q,d,b,e⟩
  ·rw[d,b];rfl
  ·rw[d,e,show decide ((i:Int)<0)=false by simp,cF,YI,b];rfl
 unfold D5 kd;cases (!(t.Zw.toList==(str []).toList)) with
 |false=>rw[cF,cF,j _ _ _ o]
 |true=>
  rw[cT,cT,Zq6 _ t (by omega) (by omega),bS];rcases Sb (fun q:Ys=>q.Zu.toList==t.Zw.toList) c.p'.ZF with⟨d,b⟩|⟨i,q,d,b,e⟩
  ·rw[d,b];rfl
  ·rw[d,e,show decide ((i:Int)<0)=false by simp,cF,YI,b,bS,j _ _ _ (k q (Zb b))]
def S7(p:Yl)(m:Ys)(t:Y5):Int:=bif t.Zt==1 then 0 else kd p m t
def TP(p:Yl)(m:Ys)(t:Y5):Nat:=bif t.Zt==2 then (bif S7 p m t==2 then 1 else 0) else 0
def Qz(p:Yl)(m:Ys)(a:Xv):Prop:=
 (a.Zx.Zt=1\/kd p m a.Zx≠0)/\(a.Zy.Zt=1\/kd p m a.Zy≠0)/\(a.Zx.Zt=3->S7 p m a.Zx=2)/\(a.Zy.Zt=3->S7 p m a.Zy=2) /\
 (TP p m a.Zx+TP p m a.Zy≠1)/\(TP p m a.Zx+TP p m a.Zy=2->a.Op=str [61,61]/\a.Zx.N=0/\a.Zy.N=0)
def Zan(p:Yl):Prop:=∀m∈p.ZF,∀a∈m.ZA,Qz p m a
set_option maxHeartbeats 2000000 in
theorem Zoa(c:Yp)(H:Sz N c)(hf:∀m∈c.p'.ZF,m.Zz.length<=4194304/\m.ZA.length<=4194304):Ck (BQ N c) c (Zan c.p') [] 0:=by
 have hN:=H.n;have hm:=H.m;have Y:∀q:Yp,q.p'=c.p'->∀m∈q.p'.ZF,m.Zz.length<=4194304:=fun q z m hq=>(hf m (by rw[<-z];exact hq)).1;unfold BQ
 -- what is counted at the end
 have k5:∀(j:Nat) (m:Ys) (a:Xv) (q:Yp) (t:Nat) (ag),j<4194304->t<=2->∃o,BT N m (j:Int) ag a q.Z2 q.p'.Zu q.p'.ZE q.p'.ZF q.p'.ZG q.Z3 q.Z4.ZY q.Z4.Zu q.Z4.ZZ (t:Int) =
   o.bind (fun s:Yp=>ag s.Z2 s.p'.Zu s.p'.ZE s.p'.ZF s.p'.ZG s.Z3 s.Z4.ZY s.Z4.Zu s.Z4.ZZ ((j+1:Nat):Int)) /\
   Ck o q (t≠1/\(t=2->a.Op=str [61,61]/\a.Zx.N=0/\a.Zy.N=0)) [] 0:=by
  intro j m a q t ag x ht;refine⟨bif ((t:Int)==1) || (((t:Int)==2) && (!(a.Op.toList==(str [61,61]).toList) || (a.Zx.N != 0 || a.Zy.N != 0))) then z46 N q m.Zu 11 else some q,?_,(Ck.test (by decide)).iff ?_⟩
  ·unfold BT;rw[XR (by omega)];cases ((t:Int)==1)<;>cases ((t:Int)==2)<;>cases (a.Op.toList==(str [61,61]).toList)<;>cases (a.Zx.N != 0)<;>cases (a.Zy.N != 0)<;>rfl
  ·simp only[dG,eH,lp,ZsO,bne_eq_false_iff_eq,ne_eq];constructor
   ·rintro⟨E,w⟩;refine⟨fun e=>E (by rw[e];rfl),fun e=>?_⟩;rcases w with w|w
    ·exact absurd (by rw[e];rfl) w
    ·exact⟨w.1,w.2.1,w.2.2⟩
   ·rintro⟨E,w⟩;refine⟨fun e=>E (by omega),?_⟩;by_cases e:t=2
    ·have⟨r1,r2,r3⟩:=w e;exact .inr ⟨r1,r2,r3⟩
    ·exact .inl (by omega)
 -- kinds, on one side
 have y:∀(m:Ys) (t:Y5) (q:Yp) (k:Int),∃o:Option Yp,o=(bif (t.Zt==3) && (k != 2) then z46 N q m.Zu 11 else some q)/\Ck o q (t.Zt=3->k=2) [] 0:=by intro m t q k;refine⟨_,rfl,(Ck.test (by decide)).iff ?_⟩;simp only[eH,lp,bne_eq_false_iff_eq];by_cases h:t.Zt=3<;>simp[h]
 have k9:∀(m:Ys) (u v:Int) (q:Yp) (D i:Nat) (ag) (t:Y5),(i=0\/i=1)->D<=1 ->
   GD N m u v q.Z2 q.p'.Zu q.p'.ZE q.p'.ZF q.p'.ZG q.Z3 q.Z4.ZY q.Z4.Zu q.Z4.ZZ (D:Int) (i:Int) ag t.Zt t.Zw t.Field t.N =
   (bif (t.Zt==3) && ((if i=0 then u else v) != 2) then z46 N q m.Zu 11 else some q).bind fun s:Yp=>
    ag s.Z2 s.p'.Zu s.p'.ZE s.p'.ZF s.p'.ZG s.Z3 s.Z4.ZY s.Z4.Zu s.Z4.ZZ ((D+(bif t.Zt==2 then (bif (if i=0 then u else v)==2 then 1 else 0) else 0):Nat):Int) ((i+1:Nat):Int):=by
  intro m u v q D i ag t hi X;have k7:∀q:Yp,GB u v (D:Int) (i:Int) ag t.Zt q.Z2 q.p'.Zu q.p'.ZE q.p'.ZF q.p'.ZG q.Z3 q.Z4.ZY q.Z4.Zu q.Z4.ZZ =
    ag q.Z2 q.p'.Zu q.p'.ZE q.p'.ZF q.p'.ZG q.Z3 q.Z4.ZY q.Z4.Zu q.Z4.ZZ ((D+(bif t.Zt==2 then (bif (if i=0 then u else v)==2 then 1 else 0) else 0):Nat):Int) ((i+1:Nat):Int):=by
   intro q;unfold GB;rw[XR (n:=D) (by omega),XR (n:=i) (by omega)];rcases hi with rfl|rfl
   ·rw[mD rfl];cases (t.Zt==2)<;>cases (u==2)<;>rfl
   ·rw[mE (by omega)];cases (t.Zt==2)<;>cases (v==2)<;>rfl
  unfold GD GC;simp only[k7];rcases hi with rfl|rfl
  ·rw[mD rfl];cases (t.Zt==3)<;>cases (u != 2)<;>rfl
  ·rw[mE (by omega)];cases (t.Zt==3)<;>cases (v != 2)<;>rfl
 have F:∀(m:Ys) (u v:Int) (q:Yp) (i:Nat) (ag) (t:Y5),(i=0\/i=1)->q.Z2=c.Z2->q.p'=c.p'->m.Zz.length<=4194304 ->
   GA N m q.Z2 q.p'.Zu q.p'.ZE q.p'.ZF q.p'.ZG q.Z3 q.Z4.ZY q.Z4.Zu q.Z4.ZZ u v (i:Int) ag t.Zt t.Zw t.Field t.N =
   (bif !(t.Zt==1) && (kd c.p' m t==0) then z46 N q m.Zu 10 else some q).bind fun s:Yp=>
    ag s.Z2 s.p'.Zu s.p'.ZE s.p'.ZF s.p'.ZG s.Z3 s.Z4.ZY s.Z4.Zu s.Z4.ZZ (if i=0 then (bif t.Zt==1 then u else kd c.p' m t) else u) (if i=0 then v else (bif t.Zt==1 then v else kd c.p' m t)) ((i+1:Nat):Int):=by
  intro m u v q i ag t hi C z B;have G:=Zp1 (N:=N) q m t (H.of C z) (Y q z) B;rw[z]at G;unfold GA;rw[show (⟨q.Z2,⟨q.p'.Zu,q.p'.ZE,q.p'.ZF,q.p'.ZG⟩,q.Z3,⟨q.Z4.ZY,q.Z4.Zu,q.Z4.ZZ⟩⟩:Yp)=q from rfl,
   show (⟨t.Zt,t.Zw,t.Field,t.N⟩:Y5)=t from rfl,G,bS,XR (n:=i) (by omega)]
  rcases hi with rfl|rfl
  ·cases (t.Zt==1)<;>cases (kd c.p' m t==0)<;>rfl
  ·cases (t.Zt==1)<;>cases (kd c.p' m t==0)<;>rfl
 -- one atom
 have one:∀(j:Nat) (m:Ys) (a:Xv) (q:Yp) (ag),j<4194304->m.Zz.length<=4194304->q.Z2=c.Z2->q.p'=c.p'->∃o,Rs N m (j:Int) ag a N q.Z2 q.p'.Zu q.p'.ZE q.p'.ZF q.p'.ZG q.Z3 q.Z4.ZY q.Z4.Zu q.Z4.ZZ (0:Int) (0:Int) (0:Int) =
   o.bind (fun s:Yp=>ag s.Z2 s.p'.Zu s.p'.ZE s.p'.ZF s.p'.ZG s.Z3 s.Z4.ZY s.Z4.Zu s.Z4.ZZ ((j+1:Nat):Int))/\Ck o q (Qz c.p' m a) [] 0:=by
  intro j m a q ag x B C z;obtain⟨M,rfl⟩:∃M,N=M+3:=⟨N-3,by omega⟩
  have t1:=fun (t:Y5) (q:Yp)=>Ck.test (N:=M+3) (b:= !(t.Zt==1) && (kd c.p' m t==0)) (c:=q) (nm:=m.Zu) (e:=10) (by decide);have⟨s,e2,R⟩:=t1 a.Zx q;have⟨c3,e3,g3⟩:=t1 a.Zy s;obtain⟨_,rfl,c4,e4,g4⟩:=y m a.Zx c3 (S7 c.p' m a.Zx);obtain⟨_,rfl,c5,e5,g5⟩:=y m a.Zy c4 (S7 c.p' m a.Zy);have X:TP c.p' m a.Zx<=1/\TP c.p' m a.Zy<=1:=by
   unfold TP;constructor
   ·cases (a.Zx.Zt==2)<;>cases (S7 c.p' m a.Zx==2)<;>simp
   ·cases (a.Zy.Zt==2)<;>cases (S7 c.p' m a.Zy==2)<;>simp
  have⟨o,e6,c6,e7,g6⟩:=k5 j m a c5 (TP c.p' m a.Zx+TP c.p' m a.Zy) ag x (by omega);refine⟨o,?_,c6,e7,?_⟩
  ·have a1:s.Z2=c.Z2:=by rw[R.all,C]
   have p1:s.p'=c.p':=by rw[R.p,z]
   rw[Rs,show decide ((0:Int)<2)=true from rfl,cT,show ((0:Int)==0)=true from rfl,cT];rw[show (0:Int)=((0:Nat):Int) from rfl,F m _ _ q 0 _ a.Zx (.inl rfl) C z B,e2,bS,mD rfl,mD rfl];rw[Rs,show decide (((0+1:Nat):Int)<2)=true from rfl,cT,show (((0+1:Nat):Int)==0)=false from rfl,cF,show (((0+1:Nat):Int)==1)=true from rfl,cT];rw[F m _ _ s (0+1) _ a.Zy (.inr rfl) a1 p1 B,e3,bS,mE (by omega),mE (by omega)];rw[Rs,show decide (((0+1+1:Nat):Int)<2)=false from rfl,cF];unfold Zdx;rw[SF,show decide ((0:Int)<2)=true from rfl,cT,show ((0:Int)==0)=true from rfl,cT];rw[show (0:Int)=((0:Nat):Int) from rfl,k9 m _ _ c3 0 0 _ a.Zx (.inl rfl) (by omega),mD rfl];rw[show (bif a.Zx.Zt==1 then ((0:Nat):Int) else kd c.p' m a.Zx)=S7 c.p' m a.Zx from rfl,e4,bS];rw[SF,show decide (((0+1:Nat):Int)<2)=true from rfl,cT,show (((0+1:Nat):Int)==0)=false from rfl,cF,show (((0+1:Nat):Int)==1)=true from rfl,cT];rw[show (0+(bif a.Zx.Zt==2 then (bif S7 c.p' m a.Zx==2 then 1 else 0) else 0))=TP c.p' m a.Zx by unfold TP;simp];rw[k9 m _ _ c4 (TP c.p' m a.Zx) (0+1) _ a.Zy (.inr rfl) (by omega),mE (by omega)];rw[show (bif a.Zy.Zt==1 then ((0:Nat):Int) else kd c.p' m a.Zy)=S7 c.p' m a.Zy from rfl,e5,bS];rw[SF,show decide (((0+1+1:Nat):Int)<2)=false from rfl,cF];exact e6
  ·refine ((((R.seq g3).seq g4).seq g5).seq g6).iff ?_;have hn:∀t:Y5,(!(t.Zt==1) && (kd c.p' m t==0))=false↔(t.Zt=1\/kd c.p' m t≠0):=by intro t;simp only[eH,Bool.not_eq_false',lk,lp,ne_eq]
   unfold Qz;rw[hn,hn];constructor
   ·rintro⟨⟨⟨⟨E,w⟩,S⟩,T⟩,U,V⟩;exact⟨E,w,S,T,U,V⟩
   ·rintro⟨E,w,S,T,U,V⟩;exact⟨⟨⟨⟨E,w⟩,S⟩,T⟩,U,V⟩
 have⟨o,e,g⟩:=RJ c.p'.ZF (fun n q i=>Vr N c n q.Z2 q.p'.Zu q.p'.ZE q.p'.ZF q.p'.ZG q.Z3 q.Z4.ZY q.Z4.Zu q.Z4.ZZ i)
  (fun c=>BR c.Z2 c.p'.Zu c.p'.ZE c.p'.ZF c.p'.ZG c.Z3 c.Z4.ZY c.Z4.Zu c.Z4.ZZ) eg (fun _ _=>rfl)
  (fun k m=>∀(j:Nat) a,m.ZA[j]?=some a->Qz c.p' m a) (fun _=>[]) (fun _=>0) c.Z2 c.p' c.Z3.length
  (fun n k m q A C z _=>by
   have Z:=YB A;have⟨W,hf2⟩:=hf m (Zb A);simp only[Vr,YY Z,cT,YI,A,bS];have⟨o,e,g⟩:=RJ m.ZA (fun I q i=>Un N (k:Int) (fun a b L d e f g h i j=>Vr N c n a b L d e f g h i j) m I q.Z2 q.p'.Zu q.p'.ZE q.p'.ZF q.p'.ZG q.Z3 q.Z4.ZY q.Z4.Zu q.Z4.ZZ i)
    (fun q=>BS (k:Int) (fun a b L d e f g h i j=>Vr N c n a b L d e f g h i j) q.Z2 q.p'.Zu q.p'.ZE q.p'.ZF q.p'.ZG q.Z3 q.Z4.ZY q.Z4.Zu q.Z4.ZZ) eg (fun _ _=>rfl)
    (fun _ a=>Qz c.p' m a) (fun _=>[]) (fun _=>0) c.Z2 c.p' q.Z3.length
    (fun I j a s x O P _=>by have hjl:=YB x;simp only[Un,YY hjl,cT,YI,x,bS];exact one j m a s _ (by omega) W O P)
    (fun I j s x=>by simp only[Un,YZ x,cF]) (N:=N) (by omega) q C z (by rw[UO];omega)
   rw[UO,PW]at g;refine⟨o,e.trans ?_,g⟩;congr 1;funext s;unfold BS;rw[XR (by omega)])
  (fun n k q A=>by simp only[Vr,YZ A,cF]) (N:=N) (by omega) c rfl rfl (by rw[UO];omega)
 rw[UO,PW]at g;have e':=e.trans (show (o.bind fun c=>BR c.Z2 c.p'.Zu c.p'.ZE c.p'.ZF c.p'.ZG c.Z3 c.Z4.ZY c.Z4.Zu c.Z4.ZZ)=o from QH o);refine Eq.mp (mG (fun o=>Ck o c _ _ _) e'.symm) (g.iff ?_);constructor
 ·intro h m hm a C;have⟨k,A⟩:=aZ.1 hm;have⟨j,x⟩:=aZ.1 C;exact h k m A j a x
 ·exact fun h k m A j a x=>h m (Zb A) a (Zb x)
end
def Dp(x:Yj):List be:=if x.Zt=6 then [x.Zu] else []
mutual
def PO:Yj->List be
 |⟨k,f,t,n,a,x,b⟩=>Dp ⟨k,f,t,n,a,x,b⟩++SR b
def VP:List Yj->List be
 | []=>[]
 |x::l=>PO x++VP l
def SR:List (List Yj)->List be
 | []=>[]
 |b::r=>VP b++SR r
end
theorem ZoY(x:Yj):PO x=Dp x++SR x.ZD:=by cases x;simp only[PO]
theorem Zio:∀(l:List Yj) (s:List be),l.foldl (fun s x=>s++PO x) s=s++VP l
 | [],s=>by simp[VP]
 |x::l,s=>by rw[eM,Zio l];simp only[VP,aA]
theorem Zin:∀(l:List (List Yj)) (s:List be),l.foldl (fun s x=>s++VP x) s=s++SR l
 | [],s=>by simp[SR]
 |x::l,s=>by rw[eM,Zin l];simp only[SR,aA]
mutual
theorem Ziq:∀x,(PO x).length<=cI x
 |⟨k,f,t,n,a,x,b⟩=>by
  have:=Zir b;have h:(Dp ⟨k,f,t,n,a,x,b⟩).length<=1:=by unfold Dp;split<;>simp
  simp only[PO,cI,lA];omega
theorem ZaL:∀l,(VP l).length<=cL l
 | []=>by simp[VP,cL]
 |x::l=>by have:=Ziq x;have:=ZaL l;simp only[VP,cL,lA];omega
theorem Zir:∀l,(SR l).length<=XC l
 | []=>by simp[SR,XC]
 |x::l=>by have:=ZaL x;have:=Zir l;simp only[SR,XC,lA];omega
end
theorem Zig:∀(N:Nat) (xs:List Yj),4194306+dL xs<=N->xs.length<=4194304->bL xs->cL xs<=4194304->Mx N xs=some (VP xs)
 |0,_,h,_,_,_=>by omega
 |N+1,xs,h,hs,hb,hc=>by
  show Bc N (Mx N) xs=_;unfold Bc;have hN:4194304<N:=by omega
  have a:∀(k:Nat) (x:Yj) (s:List be) (ag:List be->Int->Option (List be)),xs[k]?=some x->s.length+XC x.ZD<=4194304 ->
    H3 N (Mx N) (k:Int) ag x s=ag (s++SR x.ZD) ((k+1:Nat):Int):=by
   intro k x s ag c m;have u:=Zb c;have o:=(QE _).1 (RG hb u);have p:=RM u;rw[RL]at p;have t:=YB c;unfold H3;have:=(Si x.ZD (My (Mx N) (k:Int) ag x) (fun s b=>s++VP b) (fun s=>ag s ((k+1:Nat):Int))
    (fun j s=>s.length+XC (x.ZD.drop j)<=4194304) (fun n j s b hi d=>?_) (fun n j s hi d=>?_) (N:=N) (s:=s) (by omega) (by rw[de];exact m)).1
   ·rw[this,Zin]
   ·rw[L3 d]at hi;simp only[XC]at hi;have f:=Zb d;have g:=RF o.2.2 f;have v:=SU f;have q:=ZaL b;have e:=Zig N b (by omega) g.1 g.2 (by omega);refine⟨?_,by rw[lA];omega⟩;simp only[My,YY (YB d),cT,YI,d,bS,e];rw[X6 (by omega),bS,Xb (by have:=YB d;omega)]
   ·simp only[My,YZ d,cF,Zb7];rw[Xb (by omega)]
  have:=(Si xs (Sy N (Mx N) xs) (fun s x=>s++PO x) (fun s=>some s)
   (fun j s=>s.length+cL (xs.drop j)<=4194304) (fun n k s x hi c=>?_) (fun n k s hi t=>?_) (N:=N) (s:=[]) (by omega) (by rw[de];simpa using hc)).1
  ·rw[this,Zio];simp
  ·rw[L3 c]at hi;simp only[cL]at hi;have w:=PM x;have q:=Ziq x;refine⟨?_,by rw[lA];omega⟩;simp only[Sy,YY (YB c),cT,YI,c,bS];rw[ZoY];unfold Dp;by_cases i:x.Zt=6
   ·rw[show (x.Zt==(6:Int))=true by simpa using i,cT,X6 (by simp;omega),bS,a k x _ _ c (by simp;omega),mD i,aA]
   ·rw[show (x.Zt==(6:Int))=false by simpa using i,cF,a k x _ _ c (by omega),mE i,ah]
  ·simp only[Sy,YZ t,cF,Zb6]
theorem ZrI(h:k<=xs.length):lsl xs (some (k:Int)) none=some (xs.drop k):=by
 unfold lsl WK;have a:decide ((0:Int)<=(k:Int))=true:=by simp
 have b:decide ((k:Int)<=(xs.length:Int))=true:=by simp;exact h
 simp[a,b,h]
theorem ZoU(z:α)(h:k<=xs.length):∃ys,LW z xs (some (k:Int)) none=some ys/\ys.take k=xs.take k/\ys.length=xs.length:=by
 unfold LW WK;have a:decide ((0:Int)<=(k:Int))=true:=by simp
 have b:decide ((k:Int)<=(xs.length:Int))=true:=by simp;exact h
 refine⟨xs.take k++aQ (xs.length-k) z,?_,?_,?_⟩
 ·simp[a,b,h]
 ·rw[bw (by rw[aL];omega),List.take_take];simp
 ·rw[lA,aL,List.length_replicate];omega
theorem Zn8(p:α->Bool)(xs:List α){i:Nat}(h:XX p xs=(i:Int)):∃x,xs[i]?=some x/\p x=true/\∀(j:Nat) y,j<i->xs[j]?=some y->p y=false:=by
 unfold XX at h;cases e:xs.findIdx? p with
 |none=>rw[e]at h;simp at h
 |some k=>
  rw[e]at h;have g:k=i:=by simp at h;omega
  subst g;rw[ft]at e;have⟨c,d,f⟩:=e;refine⟨xs[k],Za c,d,fun j y a b=>?_⟩;have:=f j a;obtain⟨_,rfl⟩:=aE.1 b;simpa using this
theorem ZbU(h:xs[k]?=some x):xs.take (k+1)=xs.take k++[x]:=by obtain⟨a,rfl⟩:=aE.1 h;rw[List.take_succ_eq_append_getElem a]
theorem Zpa(c:Yp)(s:List be)(I:s.length<N)(L:s.length<4611686018427387904)(E:c.Z2.length<N)(g:c.Z2.length<4611686018427387904) :
  Bd N s c=some (s.filter fun x=>c.Z2.any fun q=>q.Zu.toList==x.toList):=by
 unfold Bd;rw[Zq2 s c I L E g,bS];generalize H:(fun x:be=>c.Z2.any fun q=>q.Zu.toList==x.toList)=K;have B:(fun x:be=> !(c.Z2.any fun q=>q.Zu.toList==x.toList))=fun x=> !(K x):=by rw[<-H]
 rw[B];rcases Sb (fun x:be=> !(K x)) s with⟨u,w⟩|⟨i0,X,u,w,Y⟩
 ·rw[u,show ((-1:Int)==-1)=true from rfl,cT];congr 1;rw[fZ]at w;refine (kC.2 fun x b=>?_).symm;have:=w x b;simpa using this
 ·have T:=Zn8 _ _ u;rw[u,show ((i0:Int)==-1)=false by simp,cF];have U:=YB w;rw[XR (by omega)];have V:∀x,Mz N x c=some (!(K x)):=fun x=>by unfold Mz;rw[Zih c.Z2 x E g,<-H];rfl
  have key:∀(l:List be) (j i n:Nat) (v:List be),s.drop j=l->l.length<n->i<j->v.length=s.length->v.take i=(s.take j).filter K->v.drop j=s.drop j->i<=s.length ->
    Pi N c n v (i:Int) (j:Int)=some (s.filter K):=by
   intro l;induction l with
   |nil=>
    intro j i n v h m z A f t o;obtain⟨n,rfl⟩:=pS n (by simp at m;omega);have k:=XS h;have p:i<=v.length:=by omega
    simp only[Pi];rw[show decide ((j:Int)<(v.length:Int))=false by simp;omega,cF];unfold Zcb;have⟨ys,M,O,W⟩:=ZoU (str []) p;rw[ZrI p,bS,M,bS,P5 (by omega),bS,O,f,ba k]
   |cons x l G=>
    intro j i n v h m z A f t o;obtain⟨n,rfl⟩:=pS n (by simp at m;omega);have⟨a,e,d⟩:=XY h;have⟨P,R,F⟩:=XY (t.trans h);simp only[Pi];rw[YY P,cT,YI,R,bS,V,bS,Bool.not_not];have C:v[i]?=some v[i]:=Za (by omega);cases b:K x with
    |true=>
     rw[cT,YI,C,bS,Vm,XR (by omega),XR (by omega)];refine G (j+1) (i+1) n (v.set i x) d (by simp at m;omega) (by omega) (by rw[List.length_set];exact A) ?_ ?_ (by omega)
     ·rw[ZbU e,iM,<-f,gR,b,ZbU (x:=x) (by rw[List.getElem?_set_self (by omega)]),List.take_set_of_le (Zq _),mD rfl,List.filter_nil]
     ·rw[List.drop_set_of_lt (by omega),F,d]
    |false=>
     rw[cF,XR (by omega)];refine G (j+1) i n v d (by simp at m;omega) (by omega) A ?_ (by rw[F,d]) o;rw[ZbU e,iM,<-f,gR,b];simp
  refine key _ (i0+1) i0 N s rfl (by rw[bg];omega) (by omega) rfl ?_ rfl (by omega);have⟨y,S,f,t⟩:=T;rw[ZbU S,iM,gR,mE (by simpa using f),List.filter_nil,bh];refine (kC.2 fun x b=>?_).symm;have⟨j,k⟩:=aZ.1 b;have D:=YB k;rw[aL]at D;rw[List.getElem?_take,mD (by omega)]at k;have:=t j x (by omega) k;simpa using this
def ZhD(all:List Yl)(a b:be):Prop:=(∃q,all.find? (fun q=>q.Zu.toList==a.toList)=some q/\b∈VP q.ZG)/\∃q∈all,q.Zu=b
def Zaq(all:List Yl):Nat->be->be->Prop
 |0,a,b=>a=b
 |n+1,a,c=>∃b,Zaq all n a b/\ZhD all b c
def Lz(all:List Yl)(p:Yl):Prop:=∀b,¬ Zaq all 5 p.Zu b
def VN(l:List Yl):Nat:=(l.map fun q=>cL q.ZG).sum
theorem Zp3(all:List Yl)(k:Nat)(q:Yl)(c:all[k]?=some q):XX (fun x:Yl=>x.Zu.toList==q.Zu.toList) all=(k:Int)->all.find? (fun x=>x.Zu.toList==q.Zu.toList)=some q:=by
 intro h;rcases Sb (fun x:Yl=>x.Zu.toList==q.Zu.toList) all with⟨a,_⟩|⟨i,x,a,b,d⟩
 ·rw[a]at h;omega
 ·have:i=k:=by rw[a]at h;omega
  subst this;rw[c]at b;cases b;exact d
theorem Zp2(all:List Yl)(a:be)(q:Yl)(h:all.find? (fun x=>x.Zu.toList==a.toList)=some q):q.Zu=a/\∃k:Nat,all[k]?=some q/\XX (fun x:Yl=>x.Zu.toList==q.Zu.toList) all=(k:Int):=by
 have e:q.Zu=a:=by have:=List.find?_some h;exact UN.1 this
 subst e;refine⟨rfl,?_⟩;rcases Sb (fun x:Yl=>x.Zu.toList==q.Zu.toList) all with⟨_,b⟩|⟨i,x,b,d,c⟩
 ·rw[b]at h;cases h
 ·rw[h]at c;cases c;exact⟨i,d,b⟩
theorem ZoP(c:Yp)(Y:Sz N c)(M:∀q∈c.Z2,8388611+dL q.ZG<=N/\q.ZG.length<=4194304/\bL q.ZG)(hc:VN c.Z2<=4194304):Ck (z51 N c) c (Lz c.Z2 c.p') [] 0:=by
 have hN:=Y.n;have ha:=Y.a;unfold z51;have I:∀k,VN (c.Z2.drop k)<=VN c.Z2:=by intro k;have:=mG (fun l=>VN l) (cE k c.Z2);simp only[VN,List.map_append,List.sum_append]at this ⊢;omega
 -- one z
 have z:∀(f:List be) (i:Int) (ag:List be->Int->Option Yp),f.length<=4194304->∃nx:List be,nx.length<=4194304/\(∀b,b∈nx↔∃a∈f,ZhD c.Z2 a b) /\
   SG N c f i ag N [] (0:Int)=ag nx (Yh (i+1)):=by
  intro f i ag w;have key:∀(l:List Yl) (k n:Nat) (s:List be),c.Z2.drop k=l->l.length<n->s.length+VN l<=4194304 ->
    ∃nx,SG N c f i ag n s (k:Int)=GH N c i ag (s++nx)/\(s++nx).length<=4194304 /\
     ∀b,b∈nx↔∃(j:Nat) (q:Yl),l[j]?=some q/\XX (fun x:Yl=>x.Zu.toList==q.Zu.toList) c.Z2=((k+j:Nat):Int)/\q.Zu∈f/\b∈VP q.ZG:=by
   intro l;induction l with
   |nil=>
    intro k n s h F C;obtain⟨n,rfl⟩:=pS n (by simp at F;omega);refine⟨[],?_,by simp[VN]at C ⊢;omega,by simp⟩;simp only[SG,YZ (XS h),cF,bh]
   |cons p l X=>
    intro k n s h F C;obtain⟨n,rfl⟩:=pS n (by simp at F;omega);have⟨a,e,d⟩:=XY h;have⟨hb1,O,P⟩:=M p (Zb e);have hcn:=ZaL p.ZG;have e0:VN (p::l)=cL p.ZG+VN l:=by simp[VN]
    rw[e0]at C;have W:=I k;rw[h,e0]at W;have A:∀(s':List be) (Z:Prop),s'.length+VN l<=4194304->(∃t,s'=s++t/\∀b,b∈t↔(XX (fun x:Yl=>x.Zu.toList==p.Zu.toList) c.Z2=(k:Int)/\p.Zu∈f/\b∈VP p.ZG)) ->
      ∃nx,SG N c f i ag n s' ((k+1:Nat):Int)=GH N c i ag (s++nx)/\(s++nx).length<=4194304 /\
       ∀b,b∈nx↔∃(j:Nat) (q:Yl),(p::l)[j]?=some q/\XX (fun x:Yl=>x.Zu.toList==q.Zu.toList) c.Z2=((k+j:Nat):Int)/\q.Zu∈f/\b∈VP q.ZG:=by
     rintro s' _ R ⟨t,rfl,ht⟩;have⟨nx,E,G,H⟩:=X (k+1) n (s++t) d (by simp at F;omega) R;refine⟨t++nx,by rw[E,aA],by rw[<-aA];exact G,fun b=>?_⟩;rw[Zk,ht,H];constructor
     ·rintro (g|⟨j,q,u,v,B⟩)
      ·exact⟨0,p,rfl,g.1,g.2⟩
      ·exact⟨j+1,q,by rw[bF];exact u,by rw[v];congr 1;omega,B⟩
     ·rintro⟨j,q,u,v,B⟩;cases j with
      |zero=>simp only[aX,aR]at u;subst u;exact .inl ⟨v,B⟩
      |succ j=>rw[bF]at u;exact .inr ⟨j,q,u,by rw[v];congr 1;omega,B⟩
    simp only[SG,YY a,cT,YI,e,bS];rw[Zq1 c.Z2 p (by omega) (by omega),bS,XR (by omega)];by_cases L:XX (fun x:Yl=>x.Zu.toList==p.Zu.toList) c.Z2=(k:Int)
    ·rw[L,ly,cT,Df f (by omega) (by omega),bS];cases y:RR p.Zu f with
     |true=>
      have y:=(RS _ _).1 y;rw[cT,Zig N p.ZG (by omega) O P (by omega),bS,X6 (by omega),bS];refine A (s++VP p.ZG) True (by rw[lA];omega) ⟨_,rfl,fun b=>?_⟩;exact⟨fun g=>⟨L,y,g⟩,fun g=>g.2.2⟩
     |false=>
      have y:¬ p.Zu∈f:=fun h=>by rw[(RS _ _).2 h]at y;cases y
      rw[cF];exact A s True (by omega) ⟨[],by simp,fun b=>by simp[y]⟩
    ·rw[show (XX (fun x:Yl=>x.Zu.toList==p.Zu.toList) c.Z2==(k:Int))=false by simpa using L,cF];exact A s True (by omega) ⟨[],by simp,fun b=>by simp[L]⟩
  obtain⟨nx,E,G,H⟩:=key _ 0 N [] rfl (by simp;omega) (by simpa using hc);rw[ah]at E G;refine⟨(Sg (Rj nx)).filter fun x=>c.Z2.any fun q=>q.Zu.toList==x.toList,?_,fun b=>?_,?_⟩
  ·have L:=List.length_filter_le (fun x=>c.Z2.any fun q=>q.Zu.toList==x.toList) (Sg (Rj nx));have y:=ZaM (Rj nx);have h3:=Zgr nx;omega
  ·rw[List.mem_filter,ZrT,(Zmd nx).mem_iff,H,cU];constructor
   ·rintro⟨⟨j,q,u,v,B,S⟩,T,U,V⟩;rw[de]at u;rw[aw]at v;exact⟨q.Zu,B,⟨q,Zp3 _ _ _ u v,S⟩,T,U,UN.1 V⟩
   ·rintro⟨a,u,⟨q,v,B⟩,T,S,U⟩;obtain⟨rfl,k,V,g7⟩:=Zp2 _ _ _ v;exact⟨⟨k,q,by rw[de];exact V,by rw[aw];exact g7,u,B⟩,T,S,UN.2 U⟩
  ·rw[show (0:Int)=((0:Nat):Int) from rfl,E];unfold GH Zb9 Zca;have y:=ZaM (Rj nx);have h3:=Zgr nx;rw[dT (by omega),cT,bS,dT (by omega),cT,bS,Zpa c _ (by omega) (by omega) (by omega) (by omega),bS]
 have D:∀(m i:Nat) (f:List be),f.length<=4194304->(∀b,b∈f↔Zaq c.Z2 i c.p'.Zu b)->i+m=5->∀n,m<n ->
   Ck (Rt N c n f (i:Int)) c (Lz c.Z2 c.p') [] 0:=by
  intro m;induction m with
  |zero=>
   intro i f w o hi n F;obtain⟨n,rfl⟩:=pS n (by omega);have hi:i=5:=by omega
   subst hi;rw[Rt,show decide (((5:Nat):Int)<5)=false from rfl,cF];unfold Zdz;simp only[QH];refine (Ck.test (by decide)).iff ?_;unfold Lz;rw[lg];constructor
   ·intro h b M;have:=(o b).2 M;cases f with
    |nil=>cases this
    |cons x l=>exact h (by simp)
   ·intro h y;cases f with
    |nil=>simp at y
    |cons x l=>exact h x ((o x).1 (by simp))
  |succ m X=>
   intro i f w o hi n F;obtain⟨n,rfl⟩:=pS n (by omega);rw[Rt,show decide ((i:Int)<5)=true by simp;omega,cT];have⟨nx,E,G,H⟩:=z f (i:Int) (Rt N c n) w;rw[H,XR (by omega)];refine X (i+1) nx E (fun b=>?_) (by omega) n (by omega);rw[G];constructor
   ·rintro⟨a,u,v⟩;exact⟨a,(o a).1 u,v⟩
   ·rintro⟨a,u,v⟩;exact⟨a,(o a).2 u,v⟩
 exact D 5 0 [c.p'.Zu] (by simp) (fun b=>by simp[Zaq,eq_comm]) rfl N (by omega)
abbrev Tok:=YO
def marksL:List be:=[(str [60]),(str [60,61]),(str [61,61]),(str [62,61]),(str [62])]
section
variable {N:Nat}(hN:4194304<N)
end
section
variable {N:Nat}(hN:4194304<N)
end
section
variable (l:List Tok)
variable {l}
theorem ZmM{s:be}(h:WH s=true):s.size<=16:=by
 rw[Va];unfold WH Dr at h;rw[Zc]at h;cases a:bs s with
 |nil=>simp
 |cons x l=>
  rw[a]at h;have:=h.1;simp only[Zc,l8]at this;simp only[Zf];omega
end
section
variable {l:List Tok}
end
section
theorem Dq.ite{c:Bool}{C P:Prop}{o1 a:Option Bool}(b:c=true↔C)(d:C->Dq o1 P)(e:¬C->Dq a P):Dq (bif c then o1 else a) P:=by
 cases c with
 |false=>exact e (fun h=>by have:=b.2 h;cases this)
 |true=>exact d (b.1 rfl)
theorem Dq.of{o:Option Bool}{b:Bool}{P:Prop}(h:o=some b)(a:b=true↔P):Dq o P:=⟨b,h,a⟩
theorem Dq.dec{P:Prop}[Decidable P]{Q:Prop}(h:P↔Q):Dq (some (decide P)) Q:=⟨decide P,rfl,by rw[l8,h]⟩
theorem ZaU{α:Type}{xs:List α}(p:xs.length<=4194304){P:α->Prop}(F:Nat->Int->Option Bool){E:Prop}
  (i:∀(n k:Nat) x Q,k<4194304->xs[k]?=some x->(P x->Dq (F n ((k+1:Nat):Int)) Q)->Dq (F (n+1) (k:Int)) (P x/\Q))
  (j:(∀x∈xs,P x)->∀(n k:Nat),xs.length<=k->Dq (F (n+1) (k:Int)) E) {N:Nat} (hN:xs.length<N):Dq (F N (0:Int)) ((∀x∈xs,P x)/\E):=by
 have key:∀(l:List α) (k n:Nat),xs.drop k=l->l.length<n->(∀x∈xs.take k,P x)->Dq (F n (k:Int)) ((∀x∈l,P x)/\E):=by
  intro l;induction l with
  |nil=>
   intro k n h e f;obtain⟨n,rfl⟩:=pS n (by simp at e;omega);have g:=XS h;rw[ba g]at f;exact (j f n k g).iff ⟨fun h=>⟨by simp,h⟩,fun h=>h.2⟩
  |cons x l o=>
   intro k n h e f;obtain⟨n,rfl⟩:=pS n (by simp at e;omega);have⟨a,c,d⟩:=XY h;refine (i n k x _ (by omega) c fun m=>o (k+1) n d (by simp at e;omega) ?_).iff ?_
   ·intro y b;rw[List.take_add_one,c]at b;rcases List.mem_append.1 b with b|b
    ·exact f y b
    ·simp at b;subst b;exact m
   ·simp only[Zl,forall_eq_or_imp,and_assoc]
 have:=key xs 0 N rfl hN (by simp);exact this
variable {N:Nat}(hN:4194304<N)
include hN in
theorem ZmL(s:be):Vx N s=some (WH s):=by
 by_cases a:s.size<=4194304
 ·exact ZmK hN s a
 ·have c:bs s≠[]:=fun h=>by rw[Va,h]at a;simp at a
  have d:WH s=false:=by
   cases h:WH s with
   |false=>rfl
   |true=>have:=ZmM h;omega
  obtain⟨x,l,b⟩:∃x l,bs s=x::l:=by
   cases h:bs s with
   |nil=>exact absurd h c
   |cons x l=>exact⟨x,l,rfl⟩
  have e:(s.toList==(str []).toList)=false:=by rw[Tc,Tc,b];rfl
  have f:decide ((s.size:Int)>16)=true:=dT (by omega);have g:XM s (0:Int)=some (x.toNat:Int):=by rw[show XM s (0:Int)=XM s ((0:Nat):Int) from rfl,DS,b];rfl
  rw[d];unfold Vx GL;rw[e,f,g];simp only[cF,cT,bS]
include hN in
theorem Mq(s:be):Dq (Vx N s) (WH s=true):=Dq.of (ZmL hN s) fv
include hN in
theorem ZbG(s:be):Dq (Qu N s) (U7 s=true):=Dq.of (Zta hN s) fv
theorem Tr{a:be}:(a.toList==(str []).toList)=true↔a=str []:=UN
def LJ(l:List be)(k:Nat):Prop:=1<=l.length/\l.length<=k/\∀w∈l,WH w=true
include hN in
theorem ZgE(l:List be)(c:l.length<=4194304)(k:Nat):Dq (M7 N l (k:Int)) (LJ l k):=by
 unfold M7;refine Dq.cA (by rw[l8];omega) fun _=>Dq.cA (by rw[l8];omega) fun _=>?_;unfold ZdW ZcH;rw[Yg l c (fun x k r=>bif !WH x then some k else r) (MP N l) (some (-1)) hN]
 ·have⟨i,d,e⟩:=ZgC (fun x=> !WH x) l 0;rw[d];simp only[bS];refine⟨_,rfl,?_⟩;rw[e];simp
 ·intro n k x a b;simp only[MP,YY (YB b),cT,YI,b,bS,z87,ZmL hN x,Xb (show k<4611686018427387904 by omega)]
 ·intro n k a;simp only[MP,YZ a,cF,ZcI]
def Tk(x:Yj):Prop:=
 (x.Zt=1/\WH x.ZB=true/\LJ x.To 5/\U7 x.Zu=true/\x.As=str []/\x.ZC=0/\x.ZD.length=0) \/
 (x.Zt=2/\WH x.ZB=true/\x.To.length=0/\x.Zu=str []/\x.As=str []/\0<=x.ZC/\x.ZC<=1000/\1+min x.ZC 1<=(x.ZD.length:Int)/\x.ZD.length<=8) \/
 (x.Zt=3/\x.ZB=str []/\x.To.length=0/\U7 x.Zu=true/\x.As=str []/\x.ZC=0/\x.ZD.length=1) \/
 (x.Zt=4/\x.ZB=str []/\x.To.length=0/\U7 x.Zu=true/\x.As=str []/\x.ZC=0/\x.ZD.length=0) \/
 (x.Zt=5/\x.ZB=str []/\x.To.length=0/\x.Zu=str []/\x.As=str []/\x.ZC=0/\2<=x.ZD.length/\x.ZD.length<=8) \/
 (x.Zt=6/\x.ZB=str []/\LJ x.To 6/\WH x.Zu=true/\WH x.As=true/\x.ZC=0/\x.ZD.length=0)
theorem Dw{n:Nat}:((n:Int)==0)=true↔n=0:=by simp
include hN in
theorem Zug(x:Yj)(s:x.To.length<=4194304):Dq (B9 N x) (Tk x):=by
 unfold B9;refine Dq.ite UA (fun m=>?_) fun m=>Dq.ite UA (fun n=>?_) fun n=>?_
 ·refine (Dq.bA (Mq hN _) fun _=>Dq.bA (ZgE hN _ s 5) fun _=>Dq.bA (ZbG hN _) fun _=>Dq.cA Tr fun _=>Dq.cA UA fun _=>Dq.of rfl Dw).iff ?_;unfold Tk;simp[m]
 ·refine (Dq.bA (Mq hN _) fun _=>Dq.cA Dw fun _=>Dq.cA Tr fun _=>Dq.cA Tr fun _=>Dq.cA (C:=0<=x.ZC) decide_eq_true_iff fun _=>Dq.cA (C:=x.ZC<=1000) decide_eq_true_iff fun _=>
   Dq.cA (C:=1+min x.ZC 1<=(x.ZD.length:Int)) ?_ fun _=>Dq.dec (Q:=x.ZD.length<=8) (by omega)).iff ?_
  ·rw[l8];unfold VH;rw[We (by split<;>omega) (by split<;>omega)];split<;>omega
  ·unfold Tk;simp[n]
 have i:∀k,(k=3/\x.Zt=3)\/(k=4/\x.Zt=4)->Dq (Ln N x true) (Tk x):=by
  intro k i;unfold Ln;simp only[cT];refine (Dq.cA Tr fun _=>Dq.cA Dw fun _=>Dq.bA (ZbG hN _) fun _=>Dq.cA Tr fun _=>Dq.cA UA fun _=>Dq.cA (C:=x.Zt=3↔x.ZD.length=1) ?_ fun _=>Dq.dec (Q:=x.ZD.length<=1) (by omega)).iff ?_
  ·rw[lk,fY];simp;omega
  ·unfold Tk;rcases i with⟨_,i⟩|⟨_,i⟩
   ·simp only[i];constructor
    ·rintro⟨a,b,c,d,e,f,g⟩;exact jn (jn (kT ⟨trivial,a,b,c,d,e,by simpa using f⟩))
    ·rintro (h|h|h|h|h|h)<;>simp at h;have⟨a,b,c,d,e,f⟩:=h;exact⟨a,by simpa using b,c,d,e,by simpa using f,by omega⟩
   ·simp only[i];constructor
    ·rintro⟨a,b,c,d,e,f,g⟩;refine jn (jn (jn (kT ⟨trivial,a,b,c,d,e,?_⟩)));have:¬ x.ZD.length=1:=fun h=>by simpa using f.2 h
     omega
    ·rintro (h|h|h|h|h|h)<;>simp at h;have⟨a,b,c,d,e,f⟩:=h;have f:x.ZD.length=0:=by rw[f];rfl
     exact⟨a,by simpa using b,c,d,e,⟨fun h=>by omega,fun h=>by omega⟩,by omega⟩
 refine Dq.ite UA (fun o=>i 3 (kT ⟨rfl,o⟩)) fun o=>?_;cases j:(x.Zt==4) with
 |true=>exact i 4 (jn ⟨rfl,UA.1 j⟩)
 |false=>
  have j:¬ x.Zt=4:=fun h=>by rw[h]at j;cases j
  unfold Ln;simp only[cF];refine Dq.ite UA (fun p=>?_) fun p=>Dq.ite UA (fun q=>?_) fun q=>?_
  ·refine (Dq.cA Tr fun _=>Dq.cA Dw fun _=>Dq.cA Tr fun _=>Dq.cA Tr fun _=>Dq.cA UA fun _=>Dq.cA (C:=2<=x.ZD.length) (by rw[l8];omega) fun _=>Dq.dec (Q:=x.ZD.length<=8) (by omega)).iff ?_;unfold Tk;simp[p]
  ·refine (Dq.cA Tr fun _=>Dq.bA (ZgE hN _ s 6) fun _=>Dq.bA (Mq hN _) fun _=>Dq.bA (Mq hN _) fun _=>Dq.cA UA fun _=>Dq.of rfl Dw).iff ?_;unfold Tk;simp[q]
  ·refine Dq.fa.iff ⟨fun h=>h.elim,fun h=>?_⟩;unfold Tk at h;rcases h with h|h|h|h|h|h
   ·exact m h.1
   ·exact n h.1
   ·exact o h.1
   ·exact j h.1
   ·exact p h.1
   ·exact q h.1
end
mutual
def Qc:Yj->Prop
 |⟨k,f,t,n,a,x,b⟩=>Tk ⟨k,f,t,n,a,x,b⟩/\Ta b
def Wz:List Yj->Prop
 | []=>True
 |x::l=>Qc x/\Wz l
def Ta:List (List Yj)->Prop
 | []=>True
 |x::l=>Wz x/\Ta l
end
theorem Zgj(x:Yj):Qc x↔Tk x/\Ta x.ZD:=by cases x;simp only[Qc]
def Vq(o:Option (Bool×Int))(P:Prop)(m:Int):Prop:=∃r k,o=some (r,k)/\(r=true↔P)/\(r=true->k=m)
theorem Vq.iff{o P Q m m'}(h:Vq o P m)(k:P↔Q)(e:Q->m=m'):Vq o Q m':=by have⟨r,j,c,b,d⟩:=h;exact⟨r,j,c,b.trans k,fun a=>(d a).trans (e (k.1 (b.1 a)))⟩
theorem Vq.fa{k:Int}{P:Prop}{m:Int}(h:¬P):Vq (some (false,k)) P m:=⟨false,k,rfl,by simp[h],fun h=>by cases h⟩
theorem ZuZ{t:List Yj->Int->Int->Option (Bool×Int)}{d:Nat}{ag:Int->Int->Option (Bool×Int)}{x:Yj}{lK:List Yj}(B:d<=10)(C:k<4194304)(v:x.ZD.length<=4194304)
  (o:∀b∈x.ZD,∀n:Nat,n<=300->Vq (t b ((d+1:Nat):Int) (n:Int)) (Wz b/\dL b+(d+1)<=11/\n+cL b<=300) ((n+cL b:Nat):Int))
  (p:∀n:Nat,n<=300->Vq (ag (n:Int) ((k+1:Nat):Int)) (Wz lK/\dL lK+d<=11/\n+cL lK<=300) ((n+cL lK:Nat):Int)) :
  ∀(g:List (List Yj)) (j f n:Nat),x.ZD.drop j=g->g.length<f->n<=300 ->
   Vq (M8 t (d:Int) (k:Int) ag x f (n:Int) (j:Int)) (Ta g/\VQ g+d<=10/\n+XC g<=300/\Wz lK/\dL lK+d<=11/\n+XC g+cL lK<=300) ((n+XC g+cL lK:Nat):Int):=by
 intro g;induction g with
 |nil=>
  intro j f n h i s;obtain⟨f,rfl⟩:∃m,f=m+1:=⟨f-1,by simp at i;omega⟩
  simp only[M8,YZ (XS h),cF,Zds,Xb (show k<4611686018427387904 by omega),Ta,VQ,XC];exact (p n s).iff ⟨fun q=>⟨trivial,by omega,by omega,q.1,q.2.1,by omega⟩,fun q=>⟨q.2.2.2.1,q.2.2.2.2.1,by omega⟩⟩ (fun _=>rfl)
 |cons b g A=>
  intro j f n h i s;obtain⟨f,rfl⟩:∃m,f=m+1:=⟨f-1,by simp at i;omega⟩
  have⟨a,c,e⟩:=XY h;have⟨r,m,w,u,y⟩:=o b (Zb c) n s;simp only[M8,YY a,cT,YI,c,bS,Xb (show d<4611686018427387904 by omega),Xb (show j<4611686018427387904 by omega),w,Ta,VQ,XC];cases r with
  |false=>
   refine Vq.fa fun q=>?_;have:false=true:=u.2 ⟨q.1.1,by omega,by omega⟩;cases this
  |true=>
   obtain⟨z,D,E⟩:=u.1 rfl;rw[y rfl];simp only[Zg,cF];refine (A (j+1) f (n+cL b) e (by simp at i;omega) (by omega)).iff ⟨fun q=>⟨⟨z,q.1⟩,by omega,by omega,q.2.2.2.1,q.2.2.2.2.1,by omega⟩,fun q=>⟨q.1.2,by omega,by omega,q.2.2.2.1,q.2.2.2.2.1,by omega⟩⟩ (fun _=>by congr 1;omega)
theorem ZmD:∀(N:Nat) (xs:List Yj) (d n:Nat),4194317<=N+d->xs.length<=4194304->bL xs->d<=11->n<=300 ->
  Vq (Gr N xs (d:Int) (n:Int)) (Wz xs/\dL xs+d<=11/\n+cL xs<=300) ((n+cL xs:Nat):Int)
 |0,_,_,_,h,_,_,_,_=>by omega
 |N+1,xs,d,n,h,hs,hb,hd,o=>by
  show Vq (BH N (Gr N) xs (d:Int) (n:Int)) _ _;unfold BH;have hN:4194304<N:=by omega
  have key:∀(l:List Yj) (k f n:Nat),xs.drop k=l->l.length<f->n<=300 ->
    Vq (Qr N (Gr N) xs (d:Int) f (n:Int) (k:Int)) (Wz l/\dL l+d<=11/\n+cL l<=300) ((n+cL l:Nat):Int):=by
   intro l;induction l with
   |nil=>
    intro k f n h o B;obtain⟨f,rfl⟩:∃m,f=m+1:=⟨f-1,by simp at o;omega⟩
    simp only[Qr,YZ (XS h),cF,Zdr,Wz,dL,cL];exact⟨true,n,rfl,by simp;omega,fun _=>rfl⟩
   |cons x l D=>
    intro k f n h o B;obtain⟨f,rfl⟩:∃m,f=m+1:=⟨f-1,by simp at o;omega⟩
    have⟨a,c,e⟩:=XY h;have C:=Zb c;have i:=(QE _).1 (RG hb C);simp only[Qr,YY a,cT,YI,c,bS,Xb (show n<4611686018427387904 by omega)];have p:=RL x;have j:=PM x;have s:=Zgj x;by_cases y:d<=10
    ·rw[dF (show ¬ (d:Int)>10 by omega),cF];by_cases u:n+1<=300
     ·rw[dF (show ¬ ((n+1:Nat):Int)>300 by omega),cF];have⟨r,A,z⟩:=Zug hN x i.1;rw[A,bS];cases r with
      |false=>
       refine Vq.fa fun q=>?_;have:=z.2 (s.1 (by simp only[Wz]at q;exact q.1.1)).1;cases this
      |true=>
       simp only[Zg,cF];refine (ZuZ (lK:=l) y (by omega) i.2.1 (fun b v w g=>?_) (fun w g=>D (k+1) f w e (by simp at o;omega) g) x.ZD 0 N (n+1) rfl (by omega) u).iff ?_ ?_
       ·have t:=RF i.2.2 v;exact ZmD N b (d+1) w (by omega) t.1 t.2 (by omega) g
       ·simp only[Wz,dL,cL,p,j,s];exact⟨fun q=>⟨⟨⟨z.1 rfl,q.1⟩,q.2.2.2.1⟩,by omega,by omega⟩,fun q=>⟨q.1.1.2,by omega,by omega,q.1.2,by omega,by omega⟩⟩
       ·intro _;simp only[cL,j];congr 1;omega
     ·rw[dT (show ((n+1:Nat):Int)>300 by omega),cT];refine Vq.fa fun q=>?_;simp only[cL,j]at q;omega
    ·rw[dT (show (d:Int)>10 by omega),cT];refine Vq.fa fun q=>?_;simp only[dL,p]at q;omega
  exact key xs 0 N n rfl (by omega) o
section
variable {N:Nat}(hN:4194304<N)
def Tl(n:Int):Prop:=-999999<=n/\n<=999999
theorem Zu2(n:Int):Dq (ZcM N n) (Tl n):=Dq.cA (C:=-999999<=n) decide_eq_true_iff fun _=>Dq.dec fv
def SN(t:Y5):Prop:=Tl t.N/\((t.Zt=1/\t.Zw=str []/\t.Field=str [])\/((t.Zt=2\/t.Zt=3)/\WH t.Field=true/\(t.Zw=str []\/U7 t.Zw=true)))
theorem Dq.orE{c:Bool}{C P:Prop}{o:Option Bool}(b:c=true↔C)(h:¬C->Dq o P):Dq (bif c then some true else o) (C\/P):=
 Dq.ite b (fun a=>Dq.tr.iff ⟨fun _=>kT a,fun _=>trivial⟩) (fun a=>(h a).iff ⟨fun p=>jn p,fun p=>p.resolve_left a⟩)
include hN in
theorem Zmv(t:Y5):Dq (GN N t) (SN t):=by
 unfold GN;refine Dq.bN (Zu2 _) fun _=>Dq.ite UA (fun b=>?_) fun b=>?_
 ·refine (Dq.cA Tr fun _=>Dq.of rfl Tr).iff ?_;simp[b]
 have c:(t.Zt=2\/t.Zt=3)->Dq (Lq N t true) ((t.Zt=1/\t.Zw=str []/\t.Field=str [])\/((t.Zt=2\/t.Zt=3)/\WH t.Field=true/\(t.Zw=str []\/U7 t.Zw=true))):=by intro c;unfold Lq;simp only[cT];refine (Dq.bA (Mq hN _) fun _=>Dq.orE Tr fun _=>Dq.bS (ZbG hN _)).iff ?_;simp[b,c]
 refine Dq.ite UA (fun d=>c (kT d)) fun d=>?_;cases a:(t.Zt==3) with
 |true=>exact c (jn (UA.1 a))
 |false=>
  have a:¬ t.Zt=3:=fun h=>by rw[h]at a;cases a
  unfold Lq;simp only[cF];exact Dq.fa.iff (by simp[b,d,a])
def LB(f:T3):Prop:=WH f.Zu=true/\(f.Zv.Zt=1\/f.Zv.Zt=2)/\Tl f.Zv.Lo/\Tl f.Zv.Hi/\(f.Zv.Zt=2->0<=f.Zv.Lo/\0<=f.Zv.Hi)
def GW(a:Xv):Prop:=SN a.Zx/\SN a.Zy/\a.Op∈marksL
def SM(m:Ys):Prop:=U7 m.Zu=true/\m.Zz.length<=4/\m.ZA.length<=6/\(∀f∈m.Zz,LB f)/\∀a∈m.ZA,GW a
theorem ZrX{a b c:Int}:decide (VH a b<c)=false↔c<=a/\c<=b:=by rw[lg];unfold VH;split<;>omega
theorem ZrR{a b c:Int}:decide (P8 a b>c)=false↔a<=c/\b<=c:=by rw[lg];unfold P8;split<;>omega
include hN in
theorem ZrQ(s:be):Dq ((GO N).bind fun x=>V4 N x s) (s∈marksL):=by
 have h:=Ziz hN marksL (by decide) s;refine Dq.of (b:=marksL.any fun x=>VB x s) h ?_;rw[cU];constructor
 ·rintro⟨x,a,h⟩;rw[(Zfg _ _).1 h]at a;exact a
 ·intro h;exact⟨s,h,ZpI s⟩
include hN in
theorem Zr0(m:Ys):Dq (BI N m) (SM m):=by
 unfold BI;refine Dq.bN (ZbG hN _) fun _=>Dq.cN (C:=m.Zz.length<=4) Hg fun z=>Dq.cN (C:=m.ZA.length<=6) Hg fun A=>?_;refine ZaU (P:=LB) (E:=∀a∈m.ZA,GW a) (by omega) _ (fun n k x Q j o p=>?_) (fun _ n k j=>?_) (by omega)
 ·have key:∀(lo:Int),(x.Zv.Zt=2/\lo=0)\/(x.Zv.Zt≠2/\lo=-999999)->Dq (Gs N (k:Int) (Rr N m n) x lo) (LB x/\Q):=by
   intro lo s;unfold Gs;rw[Xb (show k<4611686018427387904 by omega)];refine (Dq.bN (P:=(x.Zv.Zt=1\/x.Zv.Zt=2)/\(lo<=x.Zv.Lo/\lo<=x.Zv.Hi)/\(x.Zv.Lo<=999999/\x.Zv.Hi<=999999)/\Q) (Mq hN _) fun u=>?_).iff ?_
   ·have lK:(x.Zv.Zt=1\/x.Zv.Zt=2)->Dq (bif decide (VH x.Zv.Lo x.Zv.Hi<lo) then some false else bif decide (P8 x.Zv.Lo x.Zv.Hi>(999999:Int)) then some false else Rr N m n ((k+1:Nat):Int)) ((lo<=x.Zv.Lo/\lo<=x.Zv.Hi)/\(x.Zv.Lo<=999999/\x.Zv.Hi<=999999)/\Q):=fun q=>
     Dq.cN ZrX fun B=>Dq.cN ZrR fun D=>p (by unfold LB Tl;exact⟨u,q,⟨by omega,by omega⟩,⟨by omega,by omega⟩,fun g=>by omega⟩)
    cases i:(x.Zv.Zt != 1) with
    |false=>
     have i:=ZkW.1 i;simp only[cF];exact (lK (kT i)).iff (by simp[i])
    |true=>
     simp only[cT];have t:¬ x.Zv.Zt=1:=fun h=>by rw[h]at i;cases i
     refine (Dq.cN (C:=x.Zv.Zt=2) ZkW fun g=>lK (jn g)).iff ?_;simp[t]
   ·unfold LB Tl;constructor
    ·rintro⟨a,b,c,d,e⟩;exact⟨⟨a,b,by omega,by omega,by omega⟩,e⟩
    ·rintro⟨⟨a,b,c,d,e⟩,f⟩;refine⟨a,b,?_,by omega,f⟩;rcases s with⟨h,w⟩|⟨h,w⟩
     ·have:=e h;omega
     ·omega
  simp only[Rr,YY (YB o),cT,YI,o,bS];exact Dq.ite UA (fun g=>key 0 (kT ⟨g,rfl⟩)) fun g=>key (-999999) (jn ⟨g,rfl⟩)
 ·simp only[Rr,YZ j,cF,Zdv];refine (ZaU (xs:=m.ZA) (P:=GW) (E:=True) (by omega) _ (fun n k x Q j o p=>?_) (fun _ n k j=>?_) (by omega)).iff (by simp)
  ·simp only[Gt,YY (YB o),cT,YI,o,bS,Xb (show k<4611686018427387904 by omega)];refine (Dq.bN (Zmv hN _) fun i=>Dq.bN (Zmv hN _) fun g=>?_:Dq _ (SN x.Zx/\SN x.Zy/\x.Op∈marksL/\Q)).iff (by unfold GW;simp only[and_assoc]);exact Dq.bN (o1:=(GO N).bind fun y=>V4 N y x.Op) (ZrQ hN _) fun v=>p ⟨i,g,v⟩
  ·simp only[Gt,YZ j,cF,Zdu];exact Dq.tr
end
section
variable {N:Nat}
def GY(n:Int):Prop:=-9223372036854775808<=n/\n<=9223372036854775807
theorem Zh8(a b:be):bs (a++b)=bs a++bs b:=by unfold bs;rw[ByteArray.data_append,Array.toList_append]
theorem LR{a b:List UInt8}(h:a.length+b.length<=9223372036854775807):Xy (YQ a) (YQ b)=some (YQ (a++b)):=by
 unfold Xy;have e:(YQ a).size=a.length/\(YQ b).size=b.length:=⟨by rw[Va,XE],by rw[Va,XE]⟩
 rw[e.1,e.2,dF (by simp only[IntKind.max];simp[fS,eV];omega)];simp only[cF];refine mG some (LP ?_);rw[Zh8,XE,XE,XE]
theorem Ze0:∀f u,(SX f u).length<=f
 |0,_=>Zq _
 |f+1,u=>by
  rw[SX];cases a:Nat.blt u 10 with
  |true=>simp
  |false=>
   have:=Ze0 f (u/10);simp only[cF,lA,bf];omega
theorem Hj{n:Int}(h:GY n):Ro N n=some (RU n):=by unfold Ro;rw[dT h.1,dT h.2];rfl
theorem ZqY(n:Int):(RU n).size<=26:=by unfold RU;have a:=Ze0 25 n.natAbs;have b:=Ze0 25 n.toNat;show (bif decide (n<0) then 45::SX 25 n.natAbs else SX 25 n.toNat).toArray.size<=26;cases decide (n<0)<;>simp<;>omega
theorem QM{a b:be}(h:(bs a).length+(bs b).length<=140737488355328):Xy a b=some (YQ (bs a++bs b)):=by have:=LR (a:=bs a) (b:=bs b) (by omega);rw[DC,DC]at this;exact this
theorem XV(l:List UInt8):bs (str l)=l:=XE l
def ZbT(k:Nat):List UInt8:=aQ k 9
theorem HT(k:Nat):(ZbT k).length=k:=List.length_replicate
def XI(k:Nat)(F:List UInt8):List UInt8:=ZbT k++(F++[10])
theorem VX(k:Nat)(F:List UInt8):(XI k F).length=k+(F.length+1):=by simp[XI,ZbT]
def Uv(n:Int):List UInt8:=bs (RU n)
theorem SY(n:Int):(Uv n).length<=26:=ZqY n
theorem ZlG(k:Nat)(b:k<=1000000):MS N (str [9]) (k:Int)=some (YQ (ZbT k)):=by
 unfold MS;have e:∀k,HD (str [9]).data.toList k=aQ k 9:=by
  intro k;induction k with
  |zero=>rfl
  |succ k a=>rw[HD,a];rfl
 rw[dT (show (0:Int)<=(k:Int) by omega),dT (show (k:Int)<=140737488355328 by omega),dT (show (str [9]).size*((k:Int)).toNat<=140737488355328 by show 1*_<=_;omega),e,a8];rfl
def Ue(sep:List UInt8)(l:List be):List UInt8:=Vv sep (l.map bs)
theorem QX(l:List be)(a:List UInt8)(b:l.length<=4194304)(h:(Ue a l).length<=140737488355328):Uo N l (str a)=some (YQ (Ue a l)):=by unfold Uo;have e:Vv (str a).data.toList (l.map (·.data.toList))=Ue a l:=rfl;rw[e,dT (show l.length<=140737488355328 by omega),dT h];rfl
theorem Zkn:∀l:List (List UInt8),Vv [] l=l.flatten
  | []=>rfl
  |x::r=>by
    show x++(r.map (([]:List UInt8)++·)).flatten=(x::r).flatten;have e:r.map (([]:List UInt8)++·)=r:=by
      have:(fun y:List UInt8=>[]++y)=id:=by funext y;simp
      show r.map (fun y=>[]++y)=r;rw[this,List.map_id]
    rw[e];rfl
theorem Zfu(a:List UInt8)(M:Nat):∀l:List (List UInt8),(∀x∈l,x.length<=M)->(Vv a l).length<=l.length*(M+a.length)
  | [],_=>by simp[Vv]
  |x::r,h=>by
    have f:=h x (Zj ..);have c:∀r:List (List UInt8),(∀x∈r,x.length<=M)->((r.map (a++·)).flatten).length<=r.length*(M+a.length):=by
      intro r;induction r with
      |nil=>intro _;simp
      |cons y r e=>
        intro h;have g:=h y (Zj ..);have d:=e fun z b=>h z (Zi _ b);simp only[aI,bq,lA,Zf,bD,kY];omega
    have d:=c r fun z b=>h z (Zi _ b);show (x++(r.map (a++·)).flatten).length<=_;simp only[lA,Zf,bD,kY];omega
theorem ZhZ{B F:List UInt8}(h:B.length+F.length<=4294967296):RB (YQ B) (YQ F)=some (YQ (B++F)):=by
 unfold RB;have e:(YQ B).size=B.length/\(YQ F).size=F.length:=⟨by rw[Va,XE],by rw[Va,XE]⟩
 rw[e.1,e.2,ai (show B.length+F.length<=lim by show B.length+F.length<=4294967296;omega)];simp only[cT];refine mG some (LP ?_);rw[Zh8,XE,XE,XE]
theorem RY(a:List be)(B F:List UInt8)(k:Nat)(hF:(a.map bs).flatten=F)(c:a.length<=4194304)(d:k<=1000000)(h:B.length+(XI k F).length<=4294967296) :
  Vd N a ⟨YQ B,(k:Int)⟩=some ⟨YQ (B++XI k F),(k:Int)⟩:=by subst hF;rw[VX]at h;unfold Vd;have b:Ue [] a=(a.map bs).flatten:=Zkn _;rw[ZlG k d,bS,QX a [] c (by rw[b];omega),bS,b,LR (by rw[HT];omega),bS,show str [10]=YQ [10] from rfl,LR (by simp only[lA,bf,HT,aP];omega),bS];unfold ZcN ZcZ;simp only[bS];rw[ZhZ (by simp only[lA,bf,HT,aP];omega)];simp only[bS,XI,aA]
theorem Zrz(a:List be)(F:List UInt8)(hF:(a.map bs).flatten=F)(c:a.length<=4194304)(h:(XI 0 F).length<=4294967296) :
  Zab N a ⟨ao,(0:Int)⟩=some ⟨YQ (XI 0 F),(0:Int)⟩:=by subst hF;rw[VX]at h;unfold Zab;have b:Ue [] a=(a.map bs).flatten:=Zkn _;show (MS N (str [9]) ((0:Nat):Int)).bind _=_;rw[ZlG 0 (by omega),bS,QX a [] c (by rw[b];omega),bS,b,LR (by rw[HT];omega),bS,show str [10]=YQ [10] from rfl,LR (by simp only[lA,bf,HT,aP];omega),bS];unfold ZcO ZcX;simp only[bS];rw[show ao=YQ [] from rfl,ZhZ (by simp only[lA,bf,HT,aP];omega)];simp only[bS,XI,aA,ah]
end
section
def Pc(t:Y5):List UInt8:=bif VB t.Zw (str []) then bs t.Field else bs t.Zw++[46]++bs t.Field
def DY(t:Y5):List UInt8:=bif decide (t.N>0) then [32,43,32]++Uv t.N else bif decide (t.N<0) then [32,45,32]++Uv (0-t.N) else []
def Pd(t:Y5):List UInt8:=bif t.Zt==1 then Uv t.N else (bif t.Zt==3 then [108,101,110,40]++Pc t++[41] else Pc t)++DY t
def VW(f:T3):List UInt8:=bs f.Zu++(bif f.Zv.Zt==2 then [58,32,116,101,120,116,32] else [58,32,105,110,116,32])++Uv f.Zv.Lo++[46,46]++Uv f.Zv.Hi
def Sc(a:Xv):List UInt8:=Pd a.Zx++[32]++bs a.Op++[32]++Pd a.Zy
def DZ(l:List Xv):List UInt8:=match l with
 | []=>[]
 |_::_=>[32,119,104,101,114,101,32]++Vv [32,97,110,100,32] (l.map Sc)
def R5(m:Ys):List UInt8:=[109,101,115,115,97,103,101,32]++bs m.Zu++[40]++Vv [44,32] (m.Zz.map VW)++[41]++DZ m.ZA++[59]
variable {s:be}
theorem TR(h:WH s=true):(bs s).length<=16:=ZmM h
theorem Hy(h:U7 s=true):(bs s).length<=50:=by unfold U7 at h;rw[Zc,l8]at h;exact h.1
theorem ZbP{n:Int}(h:Tl n):GY n:=by unfold Tl at h;unfold GY;omega
variable {t:Y5}
theorem Zgw(h:SN t):(bs t.Zw).length<=50/\(bs t.Field).length<=16:=by
 rcases h.2 with⟨_,b,a⟩|⟨_,b,a⟩
 ·rw[b,a,XV];simp
 ·refine⟨?_,TR b⟩;rcases a with a|a
  ·rw[a,XV];simp
  ·exact Hy a
theorem ZkI(h:s∈marksL):(bs s).length<=2:=by
 have:∀x∈marksL,(bs x).length<=2:=by intro x a;simp only[marksL,Zl,List.not_mem_nil,or_false]at a;rcases a with h|h|h|h|h<;>subst h<;>(rw[XV];simp)
 exact this s h
theorem ZbV(h:SN t):(Pd t).length<=150:=by
 have⟨b,c⟩:=Zgw h;have d:(Pc t).length<=67:=by unfold Pc;cases VB t.Zw (str [])<;>simp<;>omega
 have e:=SY t.N;have a:=SY (0-t.N);have f:(DY t).length<=29:=by unfold DY;cases decide (t.N>0)<;>cases decide (t.N<0)<;>simp only[cT,cF,lA,Zf,aP]<;>omega
 unfold Pd;cases (t.Zt==1)<;>cases (t.Zt==3)<;>simp only[cT,cF,lA,Zf,aP]<;>omega
theorem Zp4{f:T3}(h:LB f):(VW f).length<=100:=by have:=TR h.1;have a:=SY f.Zv.Lo;have b:=SY f.Zv.Hi;unfold VW;cases (f.Zv.Zt==2)<;>simp only[cT,cF,lA,Zf,aP]<;>omega
theorem Zn9{a:Xv}(h:GW a):(Sc a).length<=350:=by have b:=ZbV h.1;have c:=ZbV h.2.1;have d:=ZkI h.2.2;unfold Sc;simp only[lA,Zf,aP];omega
variable {N:Nat}(hN:4194304<N)
theorem Zmw(h:SN t)(A:List UInt8)(d:A.length<=100):Gc N t (YQ A)=some (YQ (A++DY t)):=by unfold Gc DY;have a:=h.1;unfold Tl at a;have b:=SY t.N;have c:=SY (0-t.N);unfold Uv at b c;rw[Hj (ZbP h.1),We (by omega) (by omega),Hj (by unfold GY;omega)];cases decide (t.N>0)<;>cases decide (t.N<0)<;>simp only[cT,cF,bS,bh];all_goals simp (disch:=(simp only[XE,XV,lA,Zf,aP];omega)) only[QM,bS,XE,XV,Uv]
theorem ZuQ(h:SN t)(a:(t.Zt==1)=false):Gd N t (YQ (Pc t))=some (YQ (Pd t)):=by
 have⟨b,c⟩:=Zgw h;have d:(Pc t).length<=67:=by unfold Pc;cases VB t.Zw (str [])<;>simp<;>omega
 unfold Gd Pd;rw[a];cases (t.Zt==3)<;>simp only[cT,cF]
 ·exact Zmw h _ (by omega)
 ·simp (disch:=(simp only[XE,XV,lA,Zf,aP];omega)) only[QM,bS,XE,XV];exact Zmw h _ (by simp only[lA,Zf,aP];omega)
theorem Zl1(h:SN t):Gb N t=some (YQ (Pd t)):=by
 have⟨d,f⟩:=Zgw h;unfold Gb;cases b:(t.Zt==1) with
 |true=>
  simp only[cT,Hj (ZbP h.1),bS];unfold Pd;rw[b];simp only[cT,Uv,DC]
 |false=>
  simp only[cF];have e:(t.Zw.toList==(str []).toList)=VB t.Zw (str []):=rfl;have a:=ZuQ (N:=N) h b;unfold Pc at a;rw[e];cases c:VB t.Zw (str []) with
  |true=>
   rw[c]at a;simp only[cT,DC]at a;simp only[Zg,cF];exact a
  |false=>
   rw[c]at a;simp only[cF]at a;simp only[cy,cT];simp (disch:=(simp only[XE,XV,lA,Zf,aP];omega)) only[QM,bS,XE,XV];exact a
theorem ZrO(f:T3->List UInt8)(l:List T3):(l.map fun x=>YQ (f x)).map bs=l.map f:=by rw[cG];congr 1
theorem ZrP(f:Xv->List UInt8)(l:List Xv):(l.map fun x=>YQ (f x)).map bs=l.map f:=by rw[cG];congr 1
theorem ZjY{m:Ys}(h:SM m):(Vv [44,32] (m.Zz.map VW)).length<=500:=by have:=Zfu [44,32] 100 (m.Zz.map VW) (fun x a=>by obtain⟨f,b,rfl⟩:=aM.1 a;exact Zp4 (h.2.2.2.1 f b));simp only[aN,Zf,aP]at this;have:=h.2.1;omega
theorem Zh6{m:Ys}(h:SM m):(Vv [32,97,110,100,32] (m.ZA.map Sc)).length<=2200:=by have:=Zfu [32,97,110,100,32] 350 (m.ZA.map Sc) (fun x a=>by obtain⟨f,b,rfl⟩:=aM.1 a;exact Zn9 (h.2.2.2.2 f b));simp only[aN,Zf,aP]at this;have:=h.2.2.1;omega
theorem Zu1{m:Ys}(h:SM m):(DZ m.ZA).length<=2300:=by
 have:=Zh6 h;unfold DZ;cases b:m.ZA with
 |nil=>simp
 |cons a l=>rw[b]at this;simp only[lA,Zf,aP]at this ⊢;omega
theorem ZkP{m:Ys}(h:SM m):(R5 m).length<=3000:=by have a:=ZjY h;have b:=Zu1 h;have c:=Hy h.1;unfold R5;simp only[lA,Zf,aP];omega
include hN in
theorem ZrV{m:Ys}(h:SM m)(B:List UInt8)(k:Nat)(z:k<=1000)(hB:B.length+(XI k (R5 m)).length<=4294967296) :
  Lr N m ⟨YQ B,(k:Int)⟩=some ⟨YQ (B++XI k (R5 m)),(k:Int)⟩:=by
 have C:=ZjY h;have o:=Zh6 h;have w:=h.2.1;have x:=h.2.2.1;unfold Lr;rw[(Si m.Zz (Qx N m ⟨YQ B,(k:Int)⟩) (fun s f=>s++[YQ (VW f)]) (fun s=>Zad N m ⟨YQ B,(k:Int)⟩ s) (fun j s=>s.length=j) (fun n j s f hi c=>?_) (fun n j s hi i=>?_) (N:=N) (s:=[]) (by omega) rfl).1]
 ·rw[Pb (fun f=>YQ (VW f))];rw[ah];unfold Zad;rw[(Si m.ZA (Ls N m ⟨YQ B,(k:Int)⟩ (m.Zz.map fun f=>YQ (VW f))) (fun s a=>s++[YQ (Sc a)]) (fun s=>Zac N m ⟨YQ B,(k:Int)⟩ (m.Zz.map fun f=>YQ (VW f)) s) (fun j s=>s.length=j) (fun n j s a hi c=>?_) (fun n j s hi i=>?_) (N:=N) (s:=[]) (by omega) rfl).1]
  ·rw[Pb (fun a=>YQ (Sc a)),ah];unfold Zac;have p:Ue [44,32] (m.Zz.map fun f=>YQ (VW f))=Vv [44,32] (m.Zz.map VW):=by unfold Ue;rw[ZrO]
   have q:Ue [32,97,110,100,32] (m.ZA.map fun f=>YQ (Sc f))=Vv [32,97,110,100,32] (m.ZA.map Sc):=by unfold Ue;rw[ZrP]
   rw[QX (m.ZA.map fun f=>YQ (Sc f)) _ (by simp;omega) (by rw[q];omega),QX (m.Zz.map fun f=>YQ (VW f)) _ (by simp;omega) (by rw[p];omega),p,q];simp only[bS];cases g:m.ZA with
   |nil=>
    simp only[au,aP];rw[show decide (((0:Nat):Int)>0)=false from rfl,cF];rw[RY _ B (R5 m) k (by simp[XV,XE,R5,DZ,g,aA]) (by simp) (by omega) hB];rfl
   |cons a l=>
    rw[g]at o;rw[dT (by simp:(((((a::l).map fun a=>YQ (Sc a)).length:Nat)):Int)>0),cT];rw[show str [32,119,104,101,114,101,32]=YQ [32,119,104,101,114,101,32] from rfl,LR (by simp only[Zf,aP]at o ⊢;omega)];simp only[bS];rw[RY _ B (R5 m) k (by simp[XV,XE,R5,DZ,g,aA]) (by simp) (by omega) hB];rfl
  ·refine⟨?_,by simp[hi]⟩;have d:=YB c;have b:=h.2.2.2.2 a (Zb c);have y:=ZbV b.1;have t:=ZbV b.2.1;have u:=ZkI b.2.2;simp only[Ls,YY d,cT,YI,c,bS,Zl1 b.1,Zl1 b.2.1,Xb (show j<4611686018427387904 by omega)];simp (disch:=(simp only[XE,XV,lA,Zf,aP];omega)) only[QM,bS,XE,XV];rw[X6 (by simp[hi];omega)];rfl
  ·simp only[Ls,YZ i,cF]
 ·refine⟨?_,by simp[hi]⟩;have d:=YB c;have b:=h.2.2.2.1 f (Zb c);have y:=TR b.1;have t:=SY f.Zv.Lo;have u:=SY f.Zv.Hi;unfold Uv at t u;have key:∀T:List UInt8,T.length<=10->VW f=bs f.Zu++T++Uv f.Zv.Lo++[46,46]++Uv f.Zv.Hi->∀ag:List be->Int->Option YG,GP N s (j:Int) ag f (str T)=ag (s++[YQ (VW f)]) ((j+1:Nat):Int):=by intro T A e ag;unfold GP;rw[Hj (ZbP b.2.2.1),Hj (ZbP b.2.2.2.1),Xb (by omega),e];simp (disch:=(simp only[XE,XV,lA,Zf,aP];omega)) only[QM,bS,XE,XV];rw[X6 (by simp[hi];omega)];rfl
  simp only[Qx,YY d,cT,YI,c,bS];cases v:(f.Zv.Zt==2) with
  |true=>exact key [58,32,116,101,120,116,32] (by simp) (by unfold VW;rw[v];rfl) _
  |false=>exact key [58,32,105,110,116,32] (by simp) (by unfold VW;rw[v];rfl) _
 ·simp only[Qx,YZ i,cF]
end
section
def SS(l:List be):List UInt8:=Ue [44,32] l
def Sj(first:Bool)(hd w last:List UInt8)(atEnd:Bool):List UInt8:=bif first then hd++[32,123] else [125,32]++(bif (atEnd && !last.isEmpty) then last else w)++[32,123]
def Pa(f:be)(t:List be)(n:be):List UInt8:=bs f++[32,45,62,32]++SS t++[58,32]++bs n++[59]
def LL(n:be):List UInt8:=[97,103,97,105,110,32]++bs n++[59]
def PN(n:be)(t:List be)(a:be):List UInt8:=[99,97,108,108,32]++bs n++[40]++SS t++[41,32,97,115,32]++bs a++[59]
def Sf(f:be):List UInt8:=[99,104,111,105,99,101,32,97,116,32]++bs f
def Qk(f:be)(x:Int):List UInt8:=Sf f++[32,119,105,116,104,105,110,32]++Uv x
def RZ(n:be):List UInt8:=[108,111,111,112,32]++bs n
abbrev Hx:List UInt8:=[112,97,114]
abbrev TK:List UInt8:=[111,114]
abbrev LM:List UInt8:=[97,110,100]
abbrev Hb:List UInt8:=[101,108,115,101]
mutual
def xI(k:Nat):Yj->List UInt8
 |⟨kd,f,t,n,a,x,b⟩=>
  bif kd==1 then XI k (Pa f t n)
  else bif kd==2 then (bif decide (x>0) then xR k true (Qk f x) TK Hb b else xR k true (Sf f) TK [] b)
  else bif kd==3 then xR k true (RZ n) [] [] b
  else bif kd==4 then XI k (LL n)
  else bif kd==5 then xR k true Hx LM [] b
  else bif kd==6 then XI k (PN n t a)
  else []
def xL(k:Nat):List Yj->List UInt8
 | []=>[]
 |x::l=>xI k x++xL k l
def xR(k:Nat)(first:Bool)(hd w last:List UInt8):List (List Yj)->List UInt8
 | []=>XI k [125]
 |b::l=>XI k (Sj first hd w last l.isEmpty)++(xL (k+1) b++xR k false hd w last l)
end
theorem Zu3(k:Nat)(x:Yj):xI k x=(bif x.Zt==1 then XI k (Pa x.ZB x.To x.Zu)
  else bif x.Zt==2 then (bif decide (x.ZC>0) then xR k true (Qk x.ZB x.ZC) TK Hb x.ZD else xR k true (Sf x.ZB) TK [] x.ZD)
  else bif x.Zt==3 then xR k true (RZ x.Zu) [] [] x.ZD
  else bif x.Zt==4 then XI k (LL x.Zu)
  else bif x.Zt==5 then xR k true Hx LM [] x.ZD
  else bif x.Zt==6 then XI k (PN x.Zu x.To x.As)
  else []):=by cases x;simp only[xI]
variable {N:Nat}
theorem Zol(hN:4194304<N){o:List Yj->YG->Option YG}{i:List (List Yj)}{k:Nat}(A:k<=1000)(v:i.length<=4194304)(g w e:List UInt8)
  (u:∀b∈i,∀B:List UInt8,B.length+(xL (k+1) b).length<=4294967296->o b ⟨YQ B,((k+1:Nat):Int)⟩=some ⟨YQ (B++xL (k+1) b),((k+1:Nat):Int)⟩)
  (B:List UInt8) (hB:B.length+(xR k true g w e i).length<=4294967296) :
  Qo N o (str g) (str w) (str e) i ⟨YQ B,(k:Int)⟩=some ⟨YQ (B++xR k true g w e i),(k:Int)⟩:=by
 unfold Qo;have key:∀(l:List (List Yj)) (j n:Nat) (B:List UInt8),i.drop j=l->l.length<n->B.length+(xR k (decide (j=0)) g w e l).length<=4294967296 ->
   TU N o (str g) (str w) (str e) i n (YQ B) (k:Int) (j:Int)=some ⟨YQ (B++xR k (decide (j=0)) g w e l),(k:Int)⟩:=by
  intro l;induction l with
  |nil=>
   intro j n B h s hL;obtain⟨n,rfl⟩:=pS n (by simp at s;omega);simp only[xR]at hL ⊢;simp only[TU,YZ (XS h),cF,ZcQ];rw[RY [str [125]] B [125] k (by simp[XV]) (by simp) (by omega) hL];rfl
  |cons b l y=>
   intro j n B h s hL;obtain⟨n,rfl⟩:=pS n (by simp at s;omega);have⟨a,c,d⟩:=XY h;simp only[xR,lA]at hL;have m:i.length=j+1+l.length:=by have:=mG List.length d;rw[bg]at this;omega
   have p:=y (j+1) n (B++XI k (Sj (decide (j=0)) g w e l.isEmpty)++xL (k+1) b) d (by simp at s;omega) (by rw[dF (by omega:¬ j+1=0)];simp only[lA];omega)
   rw[dF (by omega:¬ j+1=0)]at p;have lK:Pn o (j:Int) (TU N o (str g) (str w) (str e) i n) b (YQ (B++XI k (Sj (decide (j=0)) g w e l.isEmpty))) (k:Int)=some ⟨YQ (B++xR k (decide (j=0)) g w e (b::l)),(k:Int)⟩:=by unfold Pn;rw[Xb (by omega:k<4611686018427387904),u b (Zb c) _ (by simp only[lA];omega)];simp only[bS];rw[We (by omega) (by omega),Xb (by omega),show ((k+1:Nat):Int)-1=(k:Int) by omega,p];simp only[xR,aA]
   have t:∀f:List be,f.length<=3->(f.map bs).flatten=Sj (decide (j=0)) g w e l.isEmpty->Vd N f ⟨YQ B,(k:Int)⟩=some ⟨YQ (B++XI k (Sj (decide (j=0)) g w e l.isEmpty)),(k:Int)⟩:=fun f C x=>
    RY f B _ k x (by omega) (by omega) (by omega)
   simp only[TU,YY a,cT,YI,c,bS];by_cases q:j=0
   ·rw[show ((j:Int)==0)=true by simp[q],cT];rw[t [str g,str [32,123]] (by simp) (by simp[XV,Sj,q])];exact lK
   ·rw[show ((j:Int)==0)=false by simp;omega,cF];cases l with
    |nil=>
     rw[show ((j:Int)==Yh ((i.length:Int)-1))=true by rw[We (by omega) (by omega)];simp at m ⊢;omega,cT];cases e with
     |nil=>
      rw[show (!((str []).toList==(str []).toList))=false by rw[Tc,XV];rfl,cF];rw[t [str [125,32],str w,str [32,123]] (by simp) (by simp[XV,Sj,q])];exact lK
     |cons z zs=>
      rw[show (!((str (z::zs)).toList==(str []).toList))=true by rw[Tc,Tc,XV,XV];rfl,cT];rw[t [str [125,32],str (z::zs),str [32,123]] (by simp) (by simp[XV,Sj,q])];exact lK
    |cons z zs=>
     rw[show ((j:Int)==Yh ((i.length:Int)-1))=false by rw[We (by omega) (by omega)];simp at m ⊢;omega,cF];rw[t [str [125,32],str w,str [32,123]] (by simp) (by simp[XV,Sj,q])];exact lK
 have:=key i 0 N B rfl (by omega) hB;exact this
theorem Zkh:∀(N:Nat) (xs:List Yj) (k:Nat) (B:List UInt8),4194306+dL xs<=N->xs.length<=4194304->bL xs->Wz xs->k+dL xs<=1000->B.length+(xL k xs).length<=4294967296 ->
  Qy N xs ⟨YQ B,(k:Int)⟩=some ⟨YQ (B++xL k xs),(k:Int)⟩
 |0,_,_,_,h,_,_,_,_,_=>by omega
 |N+1,xs,k,B,h,hs,u,hsh,hk,hB=>by
  show Zae N (Qy N) xs ⟨YQ B,(k:Int)⟩=_;unfold Zae;have hN:4194304<N:=by omega
  have key:∀(l:List Yj) (j n:Nat) (B:List UInt8),xs.drop j=l->l.length<n->Wz l->dL l<=dL xs->B.length+(xL k l).length<=4294967296 ->
    Up N (Qy N) xs n (YQ B) (k:Int) (j:Int)=some ⟨YQ (B++xL k l),(k:Int)⟩:=by
   intro l;induction l with
   |nil=>
    intro j n B h C _ _ hL;obtain⟨n,rfl⟩:=pS n (by simp at C;omega);simp only[Up,YZ (XS h),cF,Zd1,xL,bh]
   |cons x l L=>
    intro j n B h C s G hL;obtain⟨n,rfl⟩:=pS n (by simp at C;omega);have⟨a,c,d⟩:=XY h;have M:=Zb c;have p:=(QE _).1 (RG u M);have I:=RM M;rw[RL]at I;simp only[Wz,Zgj]at s;obtain⟨⟨m,E⟩,F⟩:=s;simp only[xL,lA]at hL;simp only[dL]at G;have g:∀(o:Option YG),o=some ⟨YQ (B++xI k x),(k:Int)⟩->(o.bind fun y=>Up N (Qy N) xs n y.Builder y.ZK (Yh ((j:Int)+1)))=some ⟨YQ (B++xL k (x::l)),(k:Int)⟩:=by intro o R;rw[R,bS,Xb (by omega:j<4611686018427387904)];have:=L (j+1) n (B++xI k x) d (by simp at C;omega) F (by omega) (by simp only[lA];omega);rw[this];simp only[xL,aA]
    have q:∀v w i,B.length+(xR k true v w i x.ZD).length<=4294967296->Qo N (Qy N) (str v) (str w) (str i) x.ZD ⟨YQ B,(k:Int)⟩=some ⟨YQ (B++xR k true v w i x.ZD),(k:Int)⟩:=by
     intro v w i hB;refine Zol hN (by omega) p.2.1 v w i (fun b t P D=>?_) B hB;have z:=RF p.2.2 t;have S:=SU t;have A:∀ {l:List (List Yj)},Ta l->∀ {b},b∈l->Wz b:=by
      intro l;induction l with
      |nil=>intro _ b u;cases u
      |cons y l L=>
       intro H b u;simp only[Ta]at H;rcases aV.1 u with rfl|u
       ·exact H.1
       ·exact L H.2 u
     exact Zkh N b (k+1) P (by omega) z.1 z.2 (A E t) (by omega) D
    have f:=Zu3 k x;simp only[Up,YY a,cT,YI,c,bS];unfold Tk at m;rcases m with m|m|m|m|m|m
    ·rw[m.1]at f ⊢;rw[f]at hL;have f:xI k x=XI k (Pa x.ZB x.To x.Zu):=f;have hL:B.length+((XI k (Pa x.ZB x.To x.Zu)).length+(xL k l).length)<=4294967296:=hL;have T:(Ue [44,32] x.To).length<=4294967296:=by rw[VX]at hL;unfold Pa SS at hL;simp only[lA]at hL;omega
     show ((Uo N x.To (str [44,32])).bind _)=_;rw[QX x.To [44,32] p.1 (by omega),bS];refine g _ ?_;rw[f];exact RY _ B _ k (by simp[XV,XE,Pa,SS,aA]) (by simp) (by omega) (by omega)
    ·rw[m.1]at f ⊢;have U:=TR m.2.1;have f:xI k x=(bif decide (x.ZC>0) then xR k true (Qk x.ZB x.ZC) TK Hb x.ZD else xR k true (Sf x.ZB) TK [] x.ZD):=f;rw[f]at hL;show (bif decide (x.ZC>0) then _ else _)=_;have v:=SY x.ZC;unfold Uv at v;cases O:decide (x.ZC>0) with
     |true=>
      rw[O]at f hL;simp only[cT]at hL f ⊢;rw[Hj (by unfold GY;omega)];have e:str (Qk x.ZB x.ZC)=YQ ([99,104,111,105,99,101,32,97,116,32]++bs x.ZB++[32,119,105,116,104,105,110,32]++bs (RU x.ZC)):=rfl;simp (disch:=(simp only[XE,XV,lA,Zf,aP];omega)) only[QM,bS,XE,XV];rw[<-e];refine g _ ?_;rw[f];exact q (Qk x.ZB x.ZC) TK Hb (by omega)
     |false=>
      rw[O]at f hL;simp only[cF]at hL f ⊢;have e:str (Sf x.ZB)=YQ ([99,104,111,105,99,101,32,97,116,32]++bs x.ZB):=rfl;simp (disch:=(simp only[XE,XV,lA,Zf,aP];omega)) only[QM,bS,XE,XV];rw[<-e];refine g _ ?_;rw[f];exact q (Sf x.ZB) TK [] (by omega)
    ·rw[m.1]at f ⊢;have U:=Hy m.2.2.2.1;have f:xI k x=xR k true (RZ x.Zu) [] [] x.ZD:=f;rw[f]at hL;show ((Xy (str [108,111,111,112,32]) x.Zu).bind _)=_;have e:str (RZ x.Zu)=YQ ([108,111,111,112,32]++bs x.Zu):=rfl;simp (disch:=(simp only[XE,XV,lA,Zf,aP];omega)) only[QM,bS,XE,XV];rw[<-e];refine g _ ?_;rw[f];exact q (RZ x.Zu) [] [] (by omega)
    ·rw[m.1]at f ⊢;have f:xI k x=XI k (LL x.Zu):=f;rw[f]at hL;refine g _ ?_;rw[f];exact RY _ B _ k (by simp[XV,LL,aA]) (by simp) (by omega) (by omega)
    ·rw[m.1]at f ⊢;have f:xI k x=xR k true Hx LM [] x.ZD:=f;rw[f]at hL;refine g _ ?_;rw[f];exact q Hx LM [] (by omega)
    ·rw[m.1]at f ⊢;have f:xI k x=XI k (PN x.Zu x.To x.As):=f;rw[f]at hL;have T:(Ue [44,32] x.To).length<=4294967296:=by rw[VX]at hL;unfold PN SS at hL;simp only[lA]at hL;omega
     show ((Uo N x.To (str [44,32])).bind _)=_;rw[QX x.To [44,32] p.1 (by omega),bS];refine g _ ?_;rw[f];exact RY _ B _ k (by simp[XV,XE,PN,SS,aA]) (by simp) (by omega) (by omega)
  exact key xs 0 N B rfl (by omega) hsh (Zq _) hB
end
theorem Zkw(xs:List α)(F:Nat->be->Int->γ)(b:be->γ)(g:α->List UInt8)(L:Nat)(o:xs.length<=4194304)
  (i:∀(n k:Nat) x A,k<4194304->xs[k]?=some x->A.length+(g x).length<=L->F (n+1) (YQ A) (k:Int)=F n (YQ (A++g x)) ((k+1:Nat):Int))
  (j:∀(n k:Nat) A,xs.length<=k->k<=xs.length->A.length<=L->F (n+1) (YQ A) (k:Int)=b (YQ A)):∀(l:List α) (k n:Nat) (A:List UInt8),k<=xs.length->xs.drop k=l->l.length<n->A.length+((l.map g).flatten).length<=L->F n (YQ A) (k:Int)=b (YQ (A++(l.map g).flatten)):=by
 intro l;induction l with
 |nil=>
  intro k n A f h e hL;obtain⟨n,rfl⟩:=pS n (by simp at e;omega);rw[j n k A (XS h) f (by omega)];simp
 |cons x l m=>
  intro k n A f h e hL;obtain⟨n,rfl⟩:=pS n (by simp at e;omega);have⟨a,c,d⟩:=XY h;rw[aI,bq,lA]at hL;rw[i n k x A (by omega) c (by omega),m (k+1) n _ (by omega) d (by simp at e;omega) (by rw[lA];omega)];simp only[aI,bq,aA]
def UJ(p:Yl):List UInt8:=[112,114,111,116,111,99,111,108,32]++bs p.Zu++[40]++SS p.ZE++[41,32,123]
def UH(m:Ys):List UInt8:=XI 1 (R5 m)
def Su(p:Yl):List UInt8:=XI 0 (UJ p)++(p.ZF.map UH).flatten++xL 1 p.ZG++XI 0 [125]
def HO(l:List Yl):List UInt8:=(l.map Su).flatten
def Ry(p:Yl):Prop:=WH p.Zu=true/\LJ p.ZE 6/\p.ZF.length<=40/\Wz p.ZG/\dL p.ZG<=10/\cL p.ZG<=300/\∀m∈p.ZF,SM m
theorem LX{l:List be}(h:LJ l k)(c:k<=6):(SS l).length<=108:=by have:=Zfu [44,32] 16 (l.map bs) (fun x a=>by obtain⟨w,b,rfl⟩:=aM.1 a;exact TR (h.2.2 w b));simp only[aN,Zf,aP]at this;have:=h.2.1;unfold SS Ue;omega
theorem Zqr(first:Bool)(b w a:List UInt8)(e:Bool)(c:b.length<=70)(d:w.length<=10)(f:a.length<=10):(Sj first b w a e).length<=72:=by unfold Sj;cases first<;>cases (e && !a.isEmpty)<;>simp only[cT,cF,lA,Zf,aP]<;>omega
mutual
theorem Zu4:∀(x:Yj) (k:Nat),Qc x->k+dI x<=20->(xI k x).length<=1000*cI x
 |⟨kd,f,t,n,a,x,b⟩,k,hs,hk=>by
  simp only[Qc,dI,cI]at hs hk ⊢;have⟨c,m⟩:=hs;have j:∀h w d,h.length<=70->w.length<=10->d.length<=10->(xR k true h w d b).length<=100*(b.length+1)+1000*XC b:=fun h w d g i e=>ZmP b k true h w d m (by omega) g i e;unfold Tk at c;simp only at c;rcases c with c|c|c|c|c|c
  ·rw[c.1];have g:=TR c.2.1;have i:=LX c.2.2.1 (by omega);have e:=Hy c.2.2.2.1;show (XI k (Pa f t n)).length<=_;rw[VX];unfold Pa;simp only[lA,Zf,aP];omega
  ·rw[c.1];have g:=TR c.2.1;have i:=SY x;show (bif decide (x>0) then xR k true (Qk f x) TK Hb b else xR k true (Sf f) TK [] b).length<=_;have e:(Qk f x).length<=70:=by unfold Qk Sf;simp only[lA,Zf,aP];omega
   have o:(Sf f).length<=70:=by unfold Sf;simp only[lA,Zf,aP];omega
   have p:=j (Qk f x) TK Hb e (by simp) (by simp);have s:=j (Sf f) TK [] o (by simp) (by simp);cases decide (x>0)<;>simp only[cT,cF]<;>omega
  ·rw[c.1];have g:=Hy c.2.2.2.1;show (xR k true (RZ n) [] [] b).length<=_;have o:(RZ n).length<=70:=by unfold RZ;simp only[lA,Zf,aP];omega
   have q:=j (RZ n) [] [] o (by simp) (by simp);omega
  ·rw[c.1];have e:=Hy c.2.2.2.1;show (XI k (LL n)).length<=_;rw[VX];unfold LL;simp only[lA,Zf,aP];omega
  ·rw[c.1];show (xR k true Hx LM [] b).length<=_;have q:=j Hx LM [] (by simp) (by simp) (by simp);omega
  ·rw[c.1];have g:=TR c.2.2.2.1;have i:=LX c.2.2.1 (by omega);have e:=TR c.2.2.2.2.1;show (XI k (PN n t a)).length<=_;rw[VX];unfold PN;simp only[lA,Zf,aP];omega
theorem ZbX:∀(l:List Yj) (k:Nat),Wz l->k+dL l<=20->(xL k l).length<=1000*cL l
 | [],k,_,_=>by simp[xL]
 |x::l,k,hs,hk=>by simp only[Wz,dL]at hs hk;have a:=Zu4 x k hs.1 (by omega);have b:=ZbX l k hs.2 (by omega);simp only[xL,cL,lA];omega
theorem ZmP:∀(l:List (List Yj)) (k:Nat) (first:Bool) (c w a:List UInt8),Ta l->k+VQ l+1<=20->c.length<=70->w.length<=10->a.length<=10->(xR k first c w a l).length<=100*(l.length+1)+1000*XC l
 | [],k,first,c,w,a,_,hk,_,_,_=>by simp only[xR,VX,Zf,aP];omega
 |b::l,k,first,c,w,a,hs,hk,h1,h2,h3=>by
  simp only[Ta,VQ]at hs hk;have d:=ZbX b (k+1) hs.1 (by omega);have e:=ZmP l k false c w a hs.2 (by omega) h1 h2 h3;have f:=Zqr first c w a l.isEmpty h1 h2 h3
  simp only[xR,XC,lA,VX,Zf];omega
end
theorem Zba(g:α->List UInt8)(M:Nat):∀l:List α,(∀x∈l,(g x).length<=M)->((l.map g).flatten).length<=l.length*M
 | [],_=>by simp
 |x::l,h=>by have b:=h x (Zj ..);have c:=Zba g M l fun z a=>h z (Zi _ a);simp only[aI,bq,lA,Zf,bD,kY];omega
theorem Zlm{p:Yl}(h:Ry p):(Su p).length<=1000000:=by have⟨b,c,d,e,g,i,f⟩:=h;have j:=TR b;have k:=LX c (Zq _);have n:=Zba UH 3010 p.ZF (fun m a=>by have:=ZkP (f m a);unfold UH;rw[VX];omega);have o:=ZbX p.ZG 1 e (by omega);have q:p.ZF.length*3010<=40*3010:=aT _ d;unfold Su UJ;simp only[lA,VX,Zf,aP];omega
theorem ZuA{l:List Yl}(c:l.length<=4194304)(h:∀p∈l,Ry p)(a:l.length<=10):(HO l).length<=10000000:=by have:=Zba Su 1000000 l fun p b=>Zlm (h p b);unfold HO;have:l.length*1000000<=10*1000000:=aT _ a;omega
section
variable {N:Nat}
structure Pk (N:Nat) (p:Yl):Prop where
 v:Ry p
 l:p.ZG.length<=4194304
 b:bL p.ZG
theorem Pk.r{p:Yl}(h:Pk N p):p.ZE.length<=6:=h.v.2.1.2.1
theorem Zpg(A:List UInt8)(a:0<A.length)(b:A.length<=4294967296):GQ N ⟨YQ A,(0:Int)⟩=some (YQ A):=by
 unfold GQ;have e:(YQ A).size=A.length:=by rw[Va,XE]
 have g:S2 (YQ A)=some ():=by unfold S2;rw[e,show Nat.beq A.length 0=false by cases h:A.length with|zero=>omega|succ n=>rfl,ai (show A.length<=lim by show A.length<=4294967296;omega)];rfl
 rw[g];rfl
theorem Zln(hN:4194320<N){p:Yl}(h:Pk N p)(A:List UInt8)(c:A.length<=100000000) :
  (Qy N p.ZG ⟨YQ A,(1:Int)⟩).bind (fun y=>Vd N ([(str [125])]:List be) (⟨y.Builder,(Yh (y.ZK-(1:Int)))⟩:YG))=some ⟨YQ (A++xL 1 p.ZG++XI 0 [125]),(0:Int)⟩:=by have⟨d,e,f,a,g,i,j⟩:=h.v;have k:=ZbX p.ZG 1 a (by omega);rw[show (1:Int)=((1:Nat):Int) from rfl,Zkh N p.ZG 1 A (by omega) h.l h.b a (by omega) (by omega),bS];show Vd N [str [125]] ⟨YQ (A++xL 1 p.ZG),Yh (((1:Nat):Int)-((1:Nat):Int))⟩=_;rw[show Yh (((1:Nat):Int)-((1:Nat):Int))=((0:Nat):Int) from rfl];rw[RY [str [125]] _ [125] 0 (by simp[XV]) (by simp) (by omega) (by simp only[lA,VX,Zf,aP];omega)];rfl
theorem ZfN{p:Yl}(h:Ry p):((p.ZF.map UH).flatten).length<=120400:=by have b:=Zba UH 3010 p.ZF (fun m a=>by have:=ZkP (h.2.2.2.2.2.2 m a);unfold UH;rw[VX];omega);have c:p.ZF.length*3010<=40*3010:=aT _ h.2.2.1;omega
theorem Zj7(p:Yl):(([(str [112,114,111,116,111,99,111,108,32]),p.Zu,(str [40]),YQ (Ue [44,32] p.ZE),(str [41,32,123])]:List be).map bs).flatten=UJ p:=by simp[XV,XE,UJ,SS,aA]
theorem Zuv(hN:4194320<N)(l:List Yl)(u:l.length<=10)(h:∀p∈l,Pk N p):BJ N l=some (YQ (HO l)):=by
 have O:=ZuA (l:=l) (by omega) (fun p f=>(h p f).v) u;unfold BJ;cases d:l with
 |nil=>rfl
 |cons p r=>
  rw[<-d];have z:decide ((0:Int)<(l.length:Int))=true:=dT (by rw[d];simp);have G:l[0]?=some p:=by rw[d];rfl
  have f:=h p (Zb G);have e:HO l=Su p++(r.map Su).flatten:=by rw[d];rfl
  have P:=Zlm f.v;have B:=ZfN f.v;have hL:=O;rw[e,lA]at hL;have Y:(XI 0 (UJ p)).length<=200:=by have:=TR f.v.1;have:=LX f.v.2.1 (Zq _);unfold UJ;simp only[lA,VX,Zf,aP];omega
  have H:∀q:Yl,Ry q->(Ue [44,32] q.ZE).length<=108:=fun q i=>LX i.2.1 (Zq _);rw[z,cT,show idx l (0:Int)=some p by rw[show (0:Int)=((0:Nat):Int) from rfl,YI,G]];simp only[bS];rw[QX p.ZE [44,32] (by have:=f.r;omega) (by have:=H p f.v;omega),bS,Zrz _ _ (Zj7 p) (by simp) (by omega)];simp only[bS];rw[show Yh ((0:Int)+1)=(1:Int) from rfl]
  -- the first protocol's messages
  have s:∀(q:Yl),Pk N q->∀(F:Nat->be->Int->Option be) (g:be->Option be) (A:List UInt8),A.length<=50000000 ->
    (∀(n k:Nat) (m:Ys) (A:List UInt8),q.ZF[k]?=some m->Lr N m ⟨YQ A,(1:Int)⟩=some ⟨YQ (A++UH m),(1:Int)⟩->k<4194304->F (n+1) (YQ A) (k:Int)=F n (YQ (A++UH m)) ((k+1:Nat):Int)) ->
    (∀(n k:Nat) (A:List UInt8),q.ZF.length<=k->F (n+1) (YQ A) (k:Int)=g (YQ A))->F N (YQ A) (0:Int)=g (YQ (A++(q.ZF.map UH).flatten)):=by
   intro q i F g A w L M;have R:=i.v.2.2.1;have B:=ZfN i.v;exact Zkw q.ZF F g UH 100000000 (by omega) (fun n k m A t o w=>L n k m A o (by have C:=i.v.2.2.2.2.2.2 m (Zb o);exact ZrV (by omega) C A 1 (by omega) (by show A.length+(UH m).length<=_;omega)) t) (fun n k A I _ X=>M n k A I) q.ZF 0 N A (by omega) rfl (by omega) (by omega)
  rw[s p f (fun n b k=>La N l p n b (1:Int) k) (fun b=>BL N l p b (1:Int)) (XI 0 (UJ p)) (by omega) (fun n k m A o a t=>?_) (fun n k A t=>?_)]
  ·unfold BL;have D:=Zln hN f (XI 0 (UJ p)++(p.ZF.map UH).flatten) (by simp only[lA];omega);rw[<-kQ];rw[D,bS];show TY N l N (YQ _) (0:Int) (Yh ((0:Int)+1))=_;rw[show Yh ((0:Int)+1)=((1:Nat):Int) from rfl];have S:XI 0 (UJ p)++(p.ZF.map UH).flatten++xL 1 p.ZG++XI 0 [125]=Su p:=rfl;rw[S];rw[Zkw l (fun n b k=>TY N l n b (0:Int) k) (fun b=>(GQ N (⟨b,0⟩:YG)).bind fun x=>some x) Su 10000000 (by omega) (fun n k q A t i w=>?_) (fun n k A t _ w=>?_) r 1 N (Su p) (by rw[d];simp) (by rw[d];rfl) (by rw[d]at u;simp at u;omega) (by omega)]
   ·rw[<-e,Zpg _ (by rw[e];unfold Su UJ;simp only[lA,VX,Zf];omega) (by omega)];rfl
   ·have c:=h q (Zb i);have T:=c.r;have U:=H q c.v;have V:=ZfN c.v;have W:(XI 0 (UJ q)).length<=200:=by have:=TR c.v.1;have:=LX c.v.2.1 (Zq _);unfold UJ;simp only[lA,VX,Zf,aP];omega
    simp only[TY,YY (YB i),cT,YI,i,bS];rw[QX q.ZE [44,32] (by omega) (by omega),bS];have a:=RY (N:=N) _ A _ 0 (Zj7 q) (by simp) (by omega) (by omega);rw[show (((0:Nat):Int))=(0:Int) from rfl]at a;rw[a];simp only[bS];rw[show Yh ((0:Int)+1)=(1:Int) from rfl];rw[s q c (fun y b j=>M9 N (k:Int) (TY N l n) q y b (1:Int) j) (fun b=>BK N (k:Int) (TY N l n) q b (1:Int)) (A++XI 0 (UJ q)) (by simp only[lA];omega) (fun y j m A o a E=>?_) (fun y j A E=>?_)]
    ·unfold BK;have D:=Zln hN c (A++XI 0 (UJ q)++(q.ZF.map UH).flatten) (by simp only[lA];omega);rw[<-kQ];rw[D,bS,Xb (by omega)];simp only[Su,aA]
    ·simp only[M9,YY (YB o),cT,YI,o,bS,a,Xb (show j<4611686018427387904 by omega)]
    ·simp only[M9,YZ E,cF]
   ·simp only[TY,YZ t,cF]
  ·simp only[La,YY (YB o),cT,YI,o,bS,a,Xb (show k<4611686018427387904 by omega)]
  ·simp only[La,YZ t,cF]
end
section
variable {N:Nat}
def Zeu(l:List Yl):Prop:=l.length<=10/\(∀p∈l,Ry p)/\(HO l).length<=8000
theorem Ztf(p:Yl)(Q:Prop):(WH p.Zu=true/\LJ p.ZE 6/\p.ZF.length<=40/\(Wz p.ZG/\dL p.ZG<=10/\cL p.ZG<=300)/\(∀m∈p.ZF,SM m)/\Q)↔Ry p/\Q:=by
 unfold Ry;constructor
 ·rintro⟨a,b,c,⟨d,e,f⟩,g,h⟩;exact⟨⟨a,b,c,d,e,f,g⟩,h⟩
 ·rintro⟨⟨a,b,c,d,e,f,g⟩,h⟩;exact⟨a,b,c,⟨d,e,f⟩,g,h⟩
theorem ZuY(hN:4194320<N)(l:List Yl)(z:l.length<=4194304)(e:∀p∈l,bP p):Dq (MU N l) (Zeu l):=by
 unfold MU;refine Dq.cN (C:=l.length<=10) Hg fun f=>?_;refine ZaU (P:=Ry) (E:=(HO l).length<=8000) (by omega) _ (fun n k p Q i c t=>?_) (fun a n k i=>?_) (by omega)
 ·have d:=e p (Zb c);simp only[Qp,YY (YB c),cT,YI,c,bS];refine (Dq.bN (Mq (by omega) _) fun u=>Dq.bN (ZgE (by omega) _ d.r 6) fun v=>Dq.cN (C:=p.ZF.length<=40) Hg fun w=>?_).iff (Ztf p Q);have⟨r,m,y,v2,v3⟩:=ZmD N p.ZG 1 0 (by omega) d.l d.b (by omega) (by omega);rw[show Gr N p.ZG (1:Int) (0:Int)=some (r,m) from y,bS];refine Dq.cN (C:=Wz p.ZG/\dL p.ZG<=10/\cL p.ZG<=300) ?_ fun g=>?_
  ·have:r=true↔Wz p.ZG/\dL p.ZG<=10/\cL p.ZG<=300:=v2.trans ⟨fun q=>⟨q.1,by omega,by omega⟩,fun q=>⟨q.1,by omega,by omega⟩⟩;rw[<-this];cases r<;>simp
  ·refine ZaU (P:=SM) (E:=Q) (by omega) (MX N (k:Int) (Qp N l n) p) (fun x j m A o s h=>?_) (fun a x j o=>?_) (by omega)
   ·simp only[MX,YY (YB s),cT,YI,s,bS,Xb (show j<4611686018427387904 by omega)];exact Dq.bN (Zr0 (by omega) m) h
   ·simp only[MX,YZ o,cF,Zc3,Xb (show k<4611686018427387904 by omega)];exact t ⟨u,v,w,g.1,g.2.1,g.2.2,a⟩
 ·simp only[Qp,YZ i,cF,Zc2];rw[Zuv hN l f fun p c=>⟨a p c,(e p c).l,(e p c).b⟩,bS];exact Dq.dec (by rw[Va,XE];omega)
end
structure PD (l:List Yl) (i:Nat) (p:Yl):Prop where
 name:∀q∈l.take i,q.Zu≠p.Zu
 roles:∀(k:Nat) x,p.ZE[k]?=some x->x ∉ p.ZE.take k
 sorts:Zau p
 atoms:Zan p
 items:VY l p [] p.ZG
 calls:So [] (RD p.ZG)
 chain:Lz l p
structure Zs (N:Nat) (l:List Yl):Prop where
 len:l.length<=4194304
 p:∀p∈l,bP p/\8388611+dL p.ZG<=N/\dL p.ZG<=4194304
 all:VN l<=4194304
 n:8388611<N
theorem Zox{l:List Yl}{p}(h:p∈l):cL p.ZG<=VN l:=by
 unfold VN;induction l with
 |nil=>cases h
 |cons q l a=>
  rw[aI,db];rcases aV.1 h with rfl|h
  ·omega
  ·have:=a h;omega
theorem Ztg(l:List Yl)(o:Zs N l)(i:Nat)(p:Yl)(s:l[i]?=some p)(ag:Int->Option Y6) :
  ∃O:Yp,(Gu N (l.take i) p).bind (fun u=>
    bif u then ((z46 N (⟨l,p,([]:List be),(⟨(str []),(str []),(0:Int)⟩:Y6)⟩:Yp) p.Zu (9:Int)).bind fun a=>
     Pq N (i:Int) ag p a.Z2 a.p'.Zu a.p'.ZE a.p'.ZF a.p'.ZG a.Z3 a.Z4.ZY a.Z4.Zu a.Z4.ZZ)
    else Pq N (i:Int) ag p l p.Zu p.ZE p.ZF p.ZG ([]:List be) (str []) (str []) (0:Int)) =
   (bif (O.Z4.ZZ != (0:Int)) then some O.Z4 else ag ((i+1:Nat):Int))/\(O.Z4.ZZ=0↔PD l i p)/\((∃q∈l.take i,q.Zu=p.Zu)->O.Z4=⟨p.Zu,p.Zu,9⟩):=by
 have hN:=o.n;have Z:=o.len;have hil:=YB s;have⟨g,R,S⟩:=o.p p (Zb s);have hcp:=Zox (Zb s);have z:=o.all;have c0:Yp:=⟨l,p,[],⟨str [],str [],0⟩⟩
 -- the name
 have⟨f,j,C⟩:=Ck.test (N:=N) (b:=(l.take i).any fun x=>x.Zu.toList==p.Zu.toList) (c:=⟨l,p,[],⟨str [],str [],0⟩⟩) (nm:=p.Zu) (e:=9) (by decide);have a1:f.Z2=l:=C.all;have p1:f.p'=p:=C.p
 -- the roles
 have⟨o2,e2,d,T,t⟩:=RJ p.ZE (fun n c i'=>Pr N (i:Int) ag p n c.Z2 c.p'.Zu c.p'.ZE c.p'.ZF c.p'.ZG c.Z3 c.Z4.ZY c.Z4.Zu c.Z4.ZZ i')
  (fun c=>Gg N (i:Int) ag p c.Z2 c.p'.Zu c.p'.ZE c.p'.ZF c.p'.ZG c.Z3 c.Z4.ZY c.Z4.Zu c.Z4.ZZ) eg (fun _ _=>rfl)
  (fun k x=>x ∉ p.ZE.take k) (fun _=>[]) (fun _=>0) f.Z2 f.p' f.Z3.length
  (fun n k x c W X hp' _=>by
   have B:=YB W;have hr:=g.r;refine⟨bif RR x (p.ZE.take k) then z46 N c x 9 else some c,?_,(Ck.test (by decide)).iff ?_⟩
   ·simp only[Pr,YY B,cT,Gv,YI,W,bS,P5 (gH B),QH];rw[Df _ (by rw[aL];omega) (by rw[aL];omega),bS,XR (by omega)];cases RR x (p.ZE.take k)<;>rfl
   ·rw[<-Bool.not_eq_true,RS])
  (fun n k c B=>by simp only[Pr,YZ B,cF]) (N:=N) (by have:=g.r;omega) f rfl rfl (by rw[UO];omega)
 subst T;rw[UO,PW]at t;have a2:d.Z2=l:=by rw[t.all,a1]
 have H:d.p'=p:=by rw[t.p,p1]
 have sz:∀c:Yp,c.Z2=l->c.p'=p->Sz N c:=fun c X s=>⟨by rw[s];exact g.r,by rw[s];exact g.m,by rw[X];exact Z,by omega⟩
 have⟨D,e3,w⟩:=Zuu (N:=N) d (sz d a2 H) (by rw[H];exact fun m P=>(g.ms m P).1);have a3:D.Z2=l:=by rw[w.all,a2]
 have I:D.p'=p:=by rw[w.p,H]
 have⟨E,e4,y⟩:=Zoa (N:=N) D (sz D a3 I) (by rw[I];exact fun m P=>g.ms m P);have a4:E.Z2=l:=by rw[y.all,a3]
 have L:E.p'=p:=by rw[y.p,I]
 have l4:E.Z3.length<=0:=by have h1:=C.len;have h2:=t.len;have h3:=w.len;have h4:=y.len;have h0:([]:List be).length=0:=rfl;simp only at h1;omega
 have⟨F,e5,G⟩:=Zkg N E p.ZG [] ⟨by rw[L];exact g.r,by rw[L];exact g.m,by rw[a4];exact Z,by omega⟩ R g.l g.b (by simpa using S) (by omega);have a5:F.Z2=l:=by rw[G.all,a4]
 have p5:F.p'=p:=by rw[G.p,L]
 have⟨U,e6,Y⟩:=ZoP (N:=N) F (sz F a5 p5) (by rw[a5];exact fun q v=>⟨(o.p q v).2.1,(o.p q v).1.l,(o.p q v).1.b⟩) (by rw[a5];exact z);refine⟨U,?_,?_,?_⟩
 ·rw[ZoJ _ p (by rw[aL];omega) (by rw[aL];omega),bS];have h5:Pq N (i:Int) ag p f.Z2 f.p'.Zu f.p'.ZE f.p'.ZF f.p'.ZG f.Z3 f.Z4.ZY f.Z4.Zu f.Z4.ZZ=(bif (U.Z4.ZZ != (0:Int)) then some U.Z4 else ag ((i+1:Nat):Int)):=by unfold Pq;refine e2.trans ?_;show Gg N (i:Int) ag p d.Z2 d.p'.Zu d.p'.ZE d.p'.ZF d.p'.ZG d.Z3 d.Z4.ZY d.Z4.Zu d.Z4.ZZ=_;unfold Gg;rw[show (⟨d.Z2,⟨d.p'.Zu,d.p'.ZE,d.p'.ZF,d.p'.ZG⟩,d.Z3,⟨d.Z4.ZY,d.Z4.Zu,d.Z4.ZZ⟩⟩:Yp)=d from rfl,e3,bS,e4,bS,e5,bS,e6,bS,XR (by omega)]
  cases h:(l.take i).any fun x=>x.Zu.toList==p.Zu.toList with
  |true=>rw[h,cT]at j;rw[cT,j];exact h5
  |false=>
   rw[h,cF]at j;cases j;exact h5
 ·have h6:=((((((C.seq t).seq w).seq y).seq G).seq Y)).err;rw[h6,a4,L,a5,p5,H,I];simp only[bh,ah,true_and];rw[ZeA];constructor
  ·rintro⟨⟨⟨⟨⟨⟨q1,q2⟩,q3⟩,q4⟩,q5⟩,q6⟩,q7⟩;exact⟨q1,q2,q3,q4,q5,q7,q6⟩
  ·exact fun q=>⟨⟨⟨⟨⟨⟨q.name,q.roles⟩,q.sorts⟩,q.atoms⟩,q.items⟩,q.chain⟩,q.calls⟩
 ·rintro⟨q,v,hn⟩;have h:((l.take i).any fun x=>x.Zu.toList==p.Zu.toList)=true:=cU.2 ⟨q,v,UN.2 hn⟩;rw[h,cT]at j;unfold z46 at j;rw[show ((0:Int)==0)=true from rfl,cT]at j;cases j;have A:=t.st (by show (9:Int)≠0;decide);have M:=w.st (by rw[A];show (9:Int)≠0;decide);have V:=y.st (by rw[M,A];show (9:Int)≠0;decide);have s5:=G.st (by rw[V,M,A];show (9:Int)≠0;decide);have s6:=Y.st (by rw[s5,V,M,A];show (9:Int)≠0;decide);rw[s6,s5,V,M,A]
theorem ZoR(l:List Yl)(x:Zs N l)(v:Bool)(E:MU N l=some v) :
  ∃r,Po N l=some r/\(r.ZZ=0↔v=true/\∀(i:Nat) p,l[i]?=some p->PD l i p) /\
   (v=true->∀(i:Nat) p,l[i]?=some p->(∀(j:Nat) q,j<i->l[j]?=some q->PD l j q)->(∃q∈l.take i,q.Zu=p.Zu)->r=⟨p.Zu,p.Zu,9⟩):=by
 have hN:=x.n;have L:=x.len;unfold Po;rw[E,bS];cases v with
 |false=>exact⟨_,rfl,by simp,by simp⟩
 |true=>
  rw[Zg,cF];have key:∀(m:List Yl) (k n:Nat),l.drop k=m->m.length<n->∃r,UQ N l n (k:Int)=some r/\(r.ZZ=0↔∀(i:Nat) p,m[i]?=some p->PD l (k+i) p) /\
    (∀(i:Nat) p,m[i]?=some p->(∀(j:Nat) q,j<i->m[j]?=some q->PD l (k+j) q)->(∃q∈l.take (k+i),q.Zu=p.Zu)->r=⟨p.Zu,p.Zu,9⟩):=by
   intro m;induction m with
   |nil=>
    intro k n h w;obtain⟨n,rfl⟩:=pS n (by simp at w;omega);exact⟨_,by simp only[UQ,YZ (XS h),cF];rfl,by simp,by simp⟩
   |cons p m H=>
    intro k n h w;obtain⟨n,rfl⟩:=pS n (by simp at w;omega);have⟨a,e,d⟩:=XY h;have⟨s,G,z,D⟩:=Ztg l x k p e (UQ N l n);have b:UQ N l (n+1) (k:Int)=(bif (s.Z4.ZZ != (0:Int)) then some s.Z4 else UQ N l n ((k+1:Nat):Int)):=by rw[<-G];simp only[UQ,YY a,cT,YI,e,bS,P5 (gH a)]
    by_cases o:s.Z4.ZZ=0
    ·have⟨r,A,t,u⟩:=H (k+1) n d (by simp at w;omega);rw[show (s.Z4.ZZ != (0:Int))=false by simpa using o,cF]at b;have C:=z.1 o;refine⟨r,b.trans A,?_,?_⟩
     ·rw[t];constructor
      ·intro g i q c;cases i with
       |zero=>simp only[aX,aR]at c;subst c;exact C
       |succ i=>rw[bF]at c;have:=g i q c;rwa [show k+(i+1)=k+1+i by omega]
      ·intro g i q c;have:=g (i+1) q (by rw[bF];exact c)
       rwa [show k+(i+1)=k+1+i by omega]at this
     ·intro i q c B f;cases i with
      |zero=>
       simp only[aX,aR]at c;subst c;have:=D f;rw[this]at o;exact absurd (show (9:Int)=0 from o) (by decide)
      |succ i=>
       rw[bF]at c;refine u i q c (fun j F I y=>?_) (by rwa [show k+(i+1)=k+1+i by omega]at f);have:=B (j+1) F (by omega) (by rw[bF];exact y)
       rwa [show k+(j+1)=k+1+j by omega]at this
    ·rw[show (s.Z4.ZZ != (0:Int))=true by simpa using o,cT]at b;refine⟨_,b,?_,?_⟩
     ·constructor
      ·exact fun g=>absurd g o
      ·exact fun g=>absurd (z.2 (g 0 p rfl)) o
     ·intro i q c B f;cases i with
      |zero=>simp only[aX,aR]at c;subst c;exact D f
      |succ i=>exact absurd (z.2 (B 0 p (by omega) rfl)) o
  obtain⟨r,A,t,u⟩:=key l 0 N rfl (by omega);simp only[aw]at t u;exact⟨r,A,by rw[t];simp,fun _=>u⟩
structure ZhK (p:Yl):Prop where
 roles:∀(k:Nat) x,p.ZE[k]?=some x->x ∉ p.ZE.take k
 sorts:Zau p
 atoms:Zan p
 calls:So [] (RD p.ZG)
def NmD(l:List Yl):Prop:=l.Pairwise fun a b=>a.Zu≠b.Zu
def GZ(l:List Yl):Prop:=Zeu l/\NmD l/\∀p∈l,ZhK p/\VY l p [] p.ZG/\Lz l p
theorem ZsN(l:List Yl):(∀(i:Nat) p,l[i]?=some p->PD l i p)↔NmD l/\∀p∈l,ZhK p/\VY l p [] p.ZG/\Lz l p:=by
 constructor
 ·intro h;refine⟨?_,fun p d=>?_⟩
  ·unfold NmD;rw[cK];intro i j hi g m;refine (h j l[j] (Za g)).name l[i] ?_;rw[iN];exact⟨i,by omega,rfl⟩
  ·have⟨i,hi⟩:=aZ.1 d;have:=h i p hi;exact⟨⟨this.roles,this.sorts,this.atoms,this.calls⟩,this.items,this.chain⟩
 ·rintro⟨e,k⟩ i p d;have⟨a,b,c⟩:=k p (Zb d);refine⟨fun q f=>?_,a.roles,a.sorts,a.atoms,b,a.calls,c⟩;unfold NmD at e;rw[cK]at e;rw[iN]at f;obtain⟨j,g,rfl⟩:=f;obtain⟨hi,rfl⟩:=aE.1 d;exact e j i (by omega) hi (by omega)
theorem Zii(l:List Yl)(a:Zs N l):∃r,Po N l=some r/\(r.ZZ=0↔GZ l) /\
  (Zeu l->∀(i:Nat) p,l[i]?=some p->(∀(j:Nat) q,j<i->l[j]?=some q->PD l j q)->(∃q∈l.take i,q.Zu=p.Zu)->r=⟨p.Zu,p.Zu,9⟩):=by have⟨v,e,g⟩:=ZuY (N:=N) (by have:=a.n;omega) l a.len fun p b=>(a.p p b).1;have⟨r,d,f,h⟩:=ZoR l a v e;exact⟨r,d,by rw[f,g,ZsN];rfl,fun c=>h (g.2 c)⟩
theorem ZoC(l:List Xp):VN (l.map oP)=V9 l:=by unfold VN V9;rw[cG];rfl
theorem Znl{l:List Xp}(a:l.length<=4194304)(b:∀p∈l,RP p/\8388611+dL (oL p.ZG)<=N/\dL (oL p.ZG)<=4194304)(c:V9 l<=4194304)(hN:8388611<N):Zs N (l.map oP):=by refine⟨by simpa using a,fun p d=>?_,by rw[ZoC];exact c,hN⟩;obtain⟨q,e,rfl⟩:=aM.1 d;exact b q e
end Gp
