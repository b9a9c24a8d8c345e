/- The plain law, part 2: what the functions compute answers as the statement says. -/
import Derived.Test.YtploppegiebboaaGreatDoorFlowApartPlain1
set_option linter.all false
open List renaming mem_singleton→aC,getElem?_eq_some_iff→aE,all_eq_true→aH,map_cons→aI,getElem?_map→aK,length_take→aL,mem_map→aM,length_map→aN,length_nil→aP,replicate→aQ,mem_append→aS,mem_cons→aV,mem_iff_getElem?→aZ,nil_append→ah,getElem?_take→aj,map_nil→au,getElem?_set→bB,cons_append→bJ,getElem?_drop→bO,take_of_length_le→ba,getElem?_replicate→bc,append_nil→bh,flatten_cons→bq,length_set→bz,mem_range→cB,pairwise_iff_getElem→cK,range→cO,ext_getElem?→cw,sum_cons→db,take_add_one→dh,nodup_iff_pairwise_ne→eG,find?_cons→fB,drop_drop→fJ,pairwise_append→fP,find?_eq_none→fZ,mem_flatten→gU,getLast?_eq_some_getLast→ga,getLast?_eq_getElem?→iO,append_eq_nil_iff→jo,take_succ_cons→kF
open Nat renaming beq→aF,ble→aY,ble_eq_true_of_le→ai,lt_or_ge→ay,le_trans→bV,sub_self→br,beq_refl→eu
open ByteArray renaming empty→ao
open Int renaming toNat_natCast→a8,eq_ofNat_of_zero_le→dE,emod_eq_of_lt→iS
open List.cons renaming injEq→bH
open Option renaming getD_some→bX,isSome_none→er,isSome_some→ff
open Classical renaming byContradiction→bx
open Bool renaming not_false→cy,or_eq_false_iff→dG
open Go.IntKind renaming signed→eV,bits→fS,wrap→fx,i32→kZ
namespace Gp
open Go Go.Kx Gx
def Wo:List Ys->Int->List T0
 | [],_=>[]
 |m::ms,c=>⟨m.Zu,m.Zz,c,⟨[],[]⟩⟩::Wo ms (c+m.Zz.length)
def X8(ms:List Ys):Nat:=(ms.map (·.Zz.length)).sum
theorem Ze1:∀(a:List Ys) (c:Int),(Wo a c).length=a.length
 | [],_=>rfl
 |m::a,c=>by simp[Wo,Ze1 a]
theorem Zjh:∀(a:List Ys) (c:Int),(Wo a c).map WL=Wo a c
 | [],_=>rfl
 |m::a,c=>by simp[Wo,WL,Zjh a]
variable {N:Nat}
theorem ZoX(fs:List T3)(h:fs.length<=4194304):BY N fs=some fs:=by unfold BY;rw[X6 (by simp;omega)];rfl
theorem Zqb(a:List Ys)(b:∀m∈a,m.Zz.length<=4194304):X8 a<=a.length*4194304:=by
 induction a with
 |nil=>simp[X8]
 |cons m a e=>
  have f:=b m (by simp);have d:=e fun q c=>b q (by simp[c]);unfold X8 at d ⊢;rw[aI,db,Zf,Nat.succ_mul];omega
theorem Zqn(l:List Ys)(s:l.length<=4194304)(g:∀m∈l,m.Zz.length<=4194304):∀(a:List Ys) (n k:Nat) (ds:List T0) (c:Nat),l.drop k=a->a.length<n->ds.length=k->c<=k*4194304 ->
  Pt N l n ds (c:Int) (k:Int)=Bu N l (ds++Wo a c) ((c+X8 a:Nat):Int):=by
 intro a;induction a with
 |nil=>
  intro n k ds c h b i j;obtain⟨n,rfl⟩:=pS n (by simp at b;omega);have o:l.length<=k:=by simpa using h
  simp only[Pt,YZ o,cF];simp[Wo,X8]
 |cons m a r=>
  intro n k ds c h b i j;obtain⟨n,rfl⟩:=pS n (by simp at b;omega);have d:l[k]?=some m:=by have:=mG (fun z=>z[0]?) h;simpa using this
  have f:=YB d;have q:=g m (Zb d);simp only[Pt,YY f,cT,YI,d,bS];rw[ZoX _ q,bS,X6 (by simp;omega),bS,Xb (by omega),We (by omega) (by omega)];have e:((c:Int)+(m.Zz.length:Int))=((c+m.Zz.length:Nat):Int):=by omega
  rw[e,r n (k+1) _ (c+m.Zz.length) (by rw[<-fJ,h];rfl) (by simp at b;omega) (by simp;omega) (by rw[Nat.succ_mul];omega)];congr 1
  ·simp[Wo]
  ·simp[X8];omega
theorem Zq4(s:List T0)(c:Y5)(b:s.length<N)(e:s.length<4611686018427387904):BZ N s c=some (XX (fun x=>x.Zu.toList==c.Zw.toList) s):=by
 unfold BZ;refine VC s (fun x=>x.Zu.toList==c.Zw.toList) (Lc N s c) (fun n k x a=>?_) (fun n k d=>?_) b
 ·simp only[Lc,YY (YB a),cT,YI,a,bS,ZdC];rw[XR (by have:=YB a;omega)]
 ·simp only[Lc,YZ d,cF,ZdB]
theorem Zq5(s:List T3)(c:Y5)(b:s.length<N)(e:s.length<4611686018427387904):B5 N s c=some (XX (fun x=>x.Zu.toList==c.Field.toList) s):=by
 unfold B5;refine VC s (fun x=>x.Zu.toList==c.Field.toList) (Lf N s c) (fun n k x a=>?_) (fun n k d=>?_) b
 ·simp only[Lf,YY (YB a),cT,YI,a,bS,ZdG];rw[XR (by have:=YB a;omega)]
 ·simp only[Lf,YZ d,cF,ZdF]
def Dg(ds:List T0)(d0:T0)(t:Y5):Option T0:=bif !(t.Zw.toList==(str []).toList) then ds.find? (fun x=>x.Zu.toList==t.Zw.toList) else some d0
theorem Ztc(v:4194304<N){ds:List T0}(w:ds.length<=4194304){i:Nat}{g d:T0}{f:T3}{k:Nat}{t:Y5}(n:ds[i]?=some g)(c:t.Zt≠1)(b:Dg ds g t=some d)
  (y:d.Zz.length<=4194304) (o:XX (fun x=>x.Zu.toList==t.Field.toList) d.Zz=(k:Int)) (h:d.Zz[k]?=some f) (z:0<=d.ZN/\d.ZN<=17592186044416) :
  Px N t ds (i:Int)=some ((⟨d.ZN+k,t.N⟩:Vs),bif t.Zt==2 then f.Zv.Zt==2 else false):=by
 have u:=YB h;have l:∀(a:be) (D:List T1) (E:List (Int×Int)),GI N t a d.Zz d.ZN D E=some ((⟨d.ZN+k,t.N⟩:Vs),bif t.Zt==2 then f.Zv.Zt==2 else false):=by intro a D E;unfold GI;rw[Zq5 _ _ (by omega) (by omega),bS,o,YI,h,We (by omega) (by omega)];cases (t.Zt==(2:Int))<;>rfl
 unfold Px;rw[show (t.Zt==(1:Int))=false by simpa using c,cF,YI,n,bS];unfold Dg at b;cases m:(!(t.Zw.toList==(str []).toList)) with
 |false=>
  rw[m]at b;cases b;rw[cF];exact l _ _ _
 |true=>
  rw[m,cT]at b;rw[cT,Zq4 _ _ (by omega) (by omega),bS];rcases Sb (fun x:T0=>x.Zu.toList==t.Zw.toList) ds with⟨_,e⟩|⟨j,q,r,e,s⟩
  ·rw[e]at b;cases b
  ·rw[s]at b;cases b;rw[r,YI,e,bS];exact l _ _ _
theorem Zji:∀(a:List Ys) (c:Int) (j:Nat),(Wo a c)[j]?=(a[j]?).map fun m=>(⟨m.Zu,m.Zz,c+(X8 (a.take j):Int),⟨[],[]⟩⟩:T0)
 | [],_,j=>by simp[Wo]
 |m::a,c,0=>by simp[Wo,X8]
 |m::a,c,j+1=>by
  have:=Zji a (c+m.Zz.length) j;simp only[Wo,List.getElem?_cons_succ,kF];rw[this];congr 1;funext q;have:(c+(m.Zz.length:Int))+(X8 (a.take j):Int)=c+(X8 (m::a.take j):Int):=by unfold X8;rw[aI,db];omega
  rw[this]
theorem Zj1(a:List Ys)(j:Nat)(m:Ys)(h:a[j]?=some m):X8 (a.take (j+1))=X8 (a.take j)+m.Zz.length:=by unfold X8;rw[dh,h];simp
theorem Zqc(c:List Ys){a b:Nat}(h:a<=b):X8 (c.take a)<=X8 (c.take b):=by
 induction b with
 |zero=>
  obtain rfl:a=0:=by omega
  exact Zq _
 |succ b f=>
  rcases ay b a with d|d
  ·obtain rfl:a=b+1:=by omega
   exact Zq _
  ·refine bV (f d) ?_;cases e:c[b]? with
   |none=>
    rw[List.getElem?_eq_none_iff]at e;rw[ba (by omega),ba (by omega)];exact Zq _
   |some m=>rw[Zj1 c b m e];omega
theorem Zqa(b:List Ys)(a:Nat):X8 (b.take a)<=X8 b:=by
 rcases Nat.le_total a b.length with h|h
 ·have:=Zqc b h
  rwa [List.take_length]at this
 ·rw[ba h];exact Zq _
def Di(a:Xv)(x y:Int):List T1:=
 bif a.Op.toList==(str [60]).toList then [⟨x,y,a.Zy.N-a.Zx.N-1⟩]
 else bif a.Op.toList==(str [60,61]).toList then [⟨x,y,a.Zy.N-a.Zx.N⟩]
 else bif a.Op.toList==(str [62]).toList then [⟨y,x,a.Zx.N-a.Zy.N-1⟩]
 else bif a.Op.toList==(str [62,61]).toList then [⟨y,x,a.Zx.N-a.Zy.N⟩]
 else [⟨x,y,a.Zy.N-a.Zx.N⟩,⟨y,x,a.Zx.N-a.Zy.N⟩]
theorem Zpf(a:Xv)(x y:Int)(b:-1152921504606846976<=a.Zx.N/\a.Zx.N<=1152921504606846976)(c:-1152921504606846976<=a.Zy.N/\a.Zy.N<=1152921504606846976) :
  B6 N a.Op ⟨x,a.Zx.N⟩ ⟨y,a.Zy.N⟩=some (Di a x y):=by
 unfold B6 Di Ql;dsimp only;rw[We (n:=a.Zy.N-a.Zx.N) (by omega) (by omega),We (n:=a.Zx.N-a.Zy.N) (by omega) (by omega),We (n:=a.Zy.N-a.Zx.N-1) (by omega) (by omega),We (n:=a.Zx.N-a.Zy.N-1) (by omega) (by omega),
  We (n:=a.Zy.N-a.Zx.N-0) (by omega) (by omega),We (n:=a.Zx.N-a.Zy.N-0) (by omega) (by omega),Int.sub_zero,Int.sub_zero]
 simp only[bS];cases (a.Op.toList==(str [60]).toList)<;>cases (a.Op.toList==(str [60,61]).toList)<;>cases (a.Op.toList==(str [62]).toList)<;>cases (a.Op.toList==(str [62,61]).toList)<;>rfl
def dA(ms:List Ys)(j:Nat)(m:Ys):T0:=⟨m.Zu,m.Zz,(X8 (ms.take j):Int),⟨[],[]⟩⟩
theorem Zjg{a:List Ys}{j:Nat}{m:Ys}(h:a[j]?=some m):(Wo a 0)[j]?=some (dA a j m):=by rw[Zji,h,Option.map_some,Int.zero_add];rfl
structure TAt (ms:List Ys) (i:Nat) (m:Ys) (t:Y5) (j k:Nat) (f:T3):Prop where
 q:∃q,ms[j]?=some q/\q.Zz[k]?=some f/\XX (fun x:T3=>x.Zu.toList==t.Field.toList) q.Zz=(k:Int)/\Dg (Wo ms 0) (dA ms i m) t=some (dA ms j q)
theorem Zks{fs:List T3}{t:Y5}(h:P3 fs t≠0):∃(k:Nat) (f:T3),fs[k]?=some f/\XX (fun x:T3=>x.Zu.toList==t.Field.toList) fs=(k:Int)/\P3 fs t=f.Zv.Zt:=by
 unfold P3 at h ⊢;rcases Sb (fun f:T3=>f.Zu.toList==t.Field.toList) fs with⟨b,a⟩|⟨i,q,b,a,c⟩
 ·rw[a]at h;exact absurd rfl h
 ·rw[c];exact⟨i,q,a,b,rfl⟩
theorem Zp0(b:List Ys)(a:List UInt8)(c:Int):(Wo b c).find? (fun x=>x.Zu.toList==a)=none/\b.find? (fun x=>x.Zu.toList==a)=none \/
  ∃(j:Nat) (q:Ys),b[j]?=some q/\b.find? (fun x=>x.Zu.toList==a)=some q/\(Wo b c).find? (fun x=>x.Zu.toList==a)=some ⟨q.Zu,q.Zz,c+(X8 (b.take j):Int),⟨[],[]⟩⟩:=by
 induction b generalizing c with
 |nil=>exact .inl ⟨rfl,rfl⟩
 |cons m b h=>
  cases d:(m.Zu.toList==a) with
  |true=>
   refine .inr ⟨0,m,rfl,?_,?_⟩
   ·rw[fB];simp only[d]
   ·rw[Wo,fB];simp only[d];simp[X8]
  |false=>
   rcases h (c+m.Zz.length) with⟨e,f⟩|⟨j,q,e,f,g⟩
   ·refine .inl ⟨?_,?_⟩
    ·rw[Wo,fB];simp only[d];exact e
    ·rw[fB];simp only[d];exact f
   ·refine .inr ⟨j+1,q,e,?_,?_⟩
    ·rw[fB];simp only[d];exact f
    ·rw[Wo,fB];simp only[d];rw[g];have:(c+(m.Zz.length:Int))+(X8 (b.take j):Int)=c+(X8 ((m::b).take (j+1)):Int):=by rw[kF];unfold X8;rw[aI,db];omega
     rw[this]
theorem ZuP{p:Yl}{i:Nat}{m:Ys}{t:Y5}(e:p.ZF[i]?=some m)(h:kd p m t≠0):∃(j k:Nat) (f:T3),TAt p.ZF i m t j k f/\kd p m t=f.Zv.Zt:=by
 unfold kd at h ⊢;cases b:(!(t.Zw.toList==(str []).toList)) with
 |false=>
  rw[b,cF]at h;rw[cF];have⟨k,f,c,a,d⟩:=Zks h;refine⟨i,k,f,⟨m,e,c,a,?_⟩,d⟩;unfold Dg;rw[b,cF]
 |true=>
  rw[b,cT]at h;rw[cT];rcases Zp0 p.ZF t.Zw.toList 0 with⟨_,a⟩|⟨j,q,c,a,d⟩
  ·rw[a]at h;exact absurd rfl h
  ·rw[a]at h ⊢;have⟨k,f,g,l,n⟩:=Zks h;refine⟨j,k,f,⟨q,c,g,l,?_⟩,n⟩;unfold Dg;rw[b,cT,d,Int.zero_add];rfl
structure Sm (N:Nat) (ms:List Ys):Prop where
 n:4194304<N
 l:ms.length<=4194304
 f:∀m∈ms,m.Zz.length<=4194304
 ne:∀m∈ms,(m.Zu.toList==(str []).toList)=false
theorem Sm.b{a:List Ys}(h:Sm N a):X8 a<=17592186044416:=by have:=Zqb a h.f;have c:=h.l;have:a.length*4194304<=4194304*4194304:=Nat.mul_le_mul_right _ c;omega
theorem Zpe(a:Xv)(x y:Int):(Di a x y).length<=2:=by unfold Di;cases (a.Op.toList==(str [60]).toList)<;>cases (a.Op.toList==(str [60,61]).toList)<;>cases (a.Op.toList==(str [62]).toList)<;>cases (a.Op.toList==(str [62,61]).toList)<;>simp
def Tw(d:T1):Bool:= !(decide (d.C<(-20000:Int)) || decide (d.C>(20000:Int)))
theorem Zro(D:List T1)(f:D.length<=4194304):∀(xs:List T1) (n k:Nat),D.drop k=xs->xs.length<n->TW D n (k:Int)=some (xs.all Tw):=by
 intro xs;induction xs with
 |nil=>
  intro n k h a;obtain⟨n,rfl⟩:=pS n (by simp at a;omega);have c:D.length<=k:=by simpa using h
  simp only[TW,YZ c,cF];rfl
 |cons d xs e=>
  intro n k h a;obtain⟨n,rfl⟩:=pS n (by simp at a;omega);have b:D[k]?=some d:=by have:=mG (fun z=>z[0]?) h;simpa using this
  have:=e n (k+1) (by rw[<-fJ,h];rfl) (by simp at a;omega);simp only[TW,YY (YB b),cT,YI,b,bS];rw[Xb (by have:=YB b;omega),this,List.all_cons];unfold Tw;cases decide (d.C<(-20000:Int))<;>cases decide (d.C>(20000:Int))<;>rfl
def sP(l:List Vg):Yl:=⟨str [80],[str [65]],l.map oM,[]⟩
theorem Zs9{s:be}(h:U7 s=true):(s.toList==(str []).toList)=false:=by
 cases b:(s.toList==(str []).toList) with
 |false=>rfl
 |true=>
  exfalso;have:s=str []:=UN.1 b;subst this;have a:U7 (str [])=false:=by kernel_rfl
  rw[a]at h;cases h
structure NpG (l:List Vg):Prop where
 len:l.length<=40
 msg:∀m∈l,SM (oM m)
 sorts:Zau (sP l)
 atoms:Zan (sP l)
theorem npG{l:List Vg}(h:GZ [sP l]):NpG l:=by
 obtain⟨⟨_,b,_⟩,_,c⟩:=h;obtain⟨_,_,e,_,_,_,d⟩:=b (sP l) (aC.2 rfl);obtain⟨o,_,_⟩:=c (sP l) (aC.2 rfl);refine⟨?_,fun m a=>d (oM m) (aM.2 ⟨m,a,rfl⟩),o.sorts,o.atoms⟩;have:(sP l).ZF.length=l.length:=by show (l.map oM).length=_;rw[aN]
 omega
theorem ZsM(c:4194304<N){l:List Vg}(h:NpG l):Sm N (l.map oM):=by
 refine⟨c,by rw[aN];have:=h.len;omega,fun m a=>?_,fun m a=>?_⟩
 ·obtain⟨q,b,rfl⟩:=aM.1 a;have:=(h.msg q b).2.1;omega
 ·obtain⟨q,b,rfl⟩:=aM.1 a;exact Zs9 (h.msg q b).1
theorem Zmx{p:Yl}(a:Sm N p.ZF){i:Nat}{m:Ys}{t:Y5}(d:p.ZF[i]?=some m)(h:t.Zt=1\/kd p m t≠0) :
  ∃(x:Int) (b:Bool),Px N t (Wo p.ZF 0) (i:Int)=some (⟨x,t.N⟩,b):=by
 by_cases c:t.Zt=1
 ·refine⟨-1,false,?_⟩;unfold Px;rw[show (t.Zt==(1:Int))=true by simpa using c,cT]
 ·obtain⟨j,k,f,⟨q,e,g,o,r⟩,A⟩:=ZuP d (h.resolve_left c);have C:=a.b;have s:=a.n;have u:=a.l;have v:=a.f q (Zb e);have w:=YB g;have y:=Zj1 p.ZF j _ e;have z:=Zqa p.ZF (j+1);have hB:0<=(dA p.ZF j q).ZN/\(dA p.ZF j q).ZN<=17592186044416:=by show 0<=(X8 (p.ZF.take j):Int)/\(X8 (p.ZF.take j):Int)<=17592186044416;omega
  exact⟨_,_,Ztc (N:=N) s (by rw[Ze1];exact u) (Zjg d) c r v o g hB⟩
theorem Zrn{p:Yl}{l:List Vg}(G:p.ZF=l.map oM)(w:Sm N p.ZF){i:Nat}{m:Vg}(H:l[i]?=some m)(U:m.ZA.length<=1000000)
  (I:∀a∈m.ZA,Qz p (oM m) (oA a)/\(-1152921504606846976<=a.Zx.N/\a.Zx.N<=1152921504606846976)/\(-1152921504606846976<=a.Zy.N/\a.Zy.N<=1152921504606846976)) :
  ∀(xs:List LH) (n k:Nat) (D:List T1) (Q:List (Int×Int)),m.ZA.drop k=xs->k<=m.ZA.length->xs.length<n->D.length<=2*k->Q.length<=k ->
   ∃d e,UR N (Wo p.ZF 0) (i:Int) (oM m).ZA n (k:Int) D Q=some (d,e)/\d.length<=2*m.ZA.length/\e.length<=m.ZA.length:=by
 have g:p.ZF[i]?=some (oM m):=by rw[G,aK,H];rfl
 have E:(oM m).ZA=m.ZA.map oA:=rfl;intro xs;induction xs with
 |nil=>
  intro n k D Q h u f O P;obtain⟨n,rfl⟩:=pS n (by simp at f;omega);have R:m.ZA.length<=k:=by simpa using h
  refine⟨D,Q,?_,by omega,by omega⟩;simp only[UR,YZ (show (oM m).ZA.length<=k by rw[E,aN];exact R),cF]
 |cons a xs F=>
  intro n k D Q h u f O P;obtain⟨n,rfl⟩:=pS n (by simp at f;omega);have v:m.ZA[k]?=some a:=by have:=mG (fun z=>z[0]?) h;simpa using this
  have S:=YB v;have c:(oM m).ZA[k]?=some (oA a):=by rw[E,aK,v];rfl
  have⟨K,L,M⟩:=I a (Zb v);have⟨a1,a2,_⟩:=K;have q:(oA a).Zx=a.Zx:=rfl;have r:(oA a).Zy=a.Zy:=rfl;rw[q]at a1;rw[r]at a2;have⟨x,b,A⟩:=Zmx w g a1;have⟨y,V,C⟩:=Zmx w g a2;have j:=Zpf (N:=N) (oA a) x y L M;have T:=Zpe (oA a) x y;have o:m.ZA.drop (k+1)=xs:=by rw[<-fJ,h];rfl
  cases b with
  |true=>
   have⟨d,e,s,t⟩:=F n (k+1) D (Q++[(x,y)]) o (by omega) (by simp at f;omega) (by omega) (by simp;omega);refine⟨d,e,?_,t⟩;simp only[UR,YY (YB c),cT,YI,c,bS,q,r,A,C];rw[X6 (by simp;omega),bS,Xb (by omega)];exact s
  |false=>
   have⟨d,e,s,t⟩:=F n (k+1) (D++Di (oA a) x y) Q o (by omega) (by simp at f;omega) (by rw[lA];omega) (by omega);refine⟨d,e,?_,t⟩;simp only[UR,YY (YB c),cT,YI,c,bS,q,r,A,C,cF];rw[q,r]at j;rw[j,bS,X6 (by omega),bS,Xb (by omega)];exact s
theorem Zrl{p:Yl}{l:List Vg}(g:p.ZF=l.map oM)(i:Sm N p.ZF)(t:∀m∈l,m.ZA.length<=10)
  (u:∀m∈l,∀a∈m.ZA,Qz p (oM m) (oA a)/\(-1152921504606846976<=a.Zx.N/\a.Zx.N<=1152921504606846976)/\(-1152921504606846976<=a.Zy.N/\a.Zy.N<=1152921504606846976)) :
  ∀(xs:List Vg) (n k:Nat) (G:List T5),l.drop k=xs->k<=l.length->xs.length<n->G.length=k->∃r,TV N p.ZF (Wo p.ZF 0) n (k:Int) G=some r:=by
 have c:p.ZF.length=l.length:=by rw[g,aN]
 have hn0:=i.n;have w:=i.l;intro xs;induction xs with
 |nil=>
  intro n k G h o e q;obtain⟨n,rfl⟩:=pS n (by simp at e;omega);have I:l.length<=k:=by simpa using h
  have x:aF G.length (Wo p.ZF 0).length=true:=by rw[Ze1,c,q,show k=l.length by omega];exact eu _
  exact⟨(Tx (Wo p.ZF 0) G,str [],0),by simp only[TV,YZ (show p.ZF.length<=k by omega),cF,x,cT]⟩
 |cons m xs E=>
  intro n k G h o e q;obtain⟨n,rfl⟩:=pS n (by simp at e;omega);have f:l[k]?=some m:=by have:=mG (fun z=>z[0]?) h;simpa using this
  have y:=YB f;have b:p.ZF[k]?=some (oM m):=by rw[g,aK,f];rfl
  have d:=Zb f;have A:=t m d;obtain⟨D,Q,j,F,H⟩:=Zrn g i f (by omega) (u m d) m.ZA N 0 [] [] rfl (by omega) (by omega) (by simp) (by simp);have s:=Zro D (by omega) D N 0 rfl (by omega);have hi:decide ((k:Int)=(G.length:Int))=true:=by rw[q];simp
  have C:=Zjg b;have j:UR N (Wo p.ZF 0) (k:Int) (oM m).ZA N 0 [] []=some (D,Q):=j;have s:TW D N 0=some (D.all Tw):=s;simp only[TV,YY (YB b),cT,YI,b,bS,hi,C,j,s];cases K:D.all Tw with
  |true=>
   have⟨r,v⟩:=E n (k+1) (G++[⟨D,Q⟩]) (by rw[<-fJ,h];rfl) (by omega) (by simp at e;omega) (by simp;omega);refine⟨r,?_⟩;rw[cT,Xb (by omega)];exact v
  |false=>exact⟨_,rfl⟩
theorem Zo9(s:4194304<N)(l:List Vg)(F:l.length<=4194304)(G:∀m∈l,m.Zz.length<=4194304)(t:Zs N [sP l]):∃r,Gh N (l.map oM)=some r:=by
 have⟨c,u,o,_⟩:=Zii [sP l] t;have y:Po N [⟨(str [80]),[(str [65])],l.map oM,[]⟩]=some c:=u;unfold Gh;rw[y,bS];by_cases h:GZ [sP l]
 ·rw[show (c.ZZ != (0:Int))=false by simpa using o.2 h,cF];have g:=npG h;have j:=ZsM s g;have k:∀m∈l.map oM,m.Zz.length<=4194304:=j.f;have q:=Zqn (N:=N) (l.map oM) j.l k (l.map oM) N 0 [] 0 rfl (by rw[aN];omega) rfl (by omega);rw[Nat.zero_add,ah]at q;rw[show Pt N (l.map oM) N [] 0 0=_ from q];unfold Bu;rw[show ((0:Nat):Int)=0 from rfl,Zjh];by_cases H:X8 (l.map oM)<=24
  ·rw[show decide (((X8 (l.map oM):Nat):Int)>(24:Int))=false by simp;omega,cF];have z:∀m∈l,∀a∈m.ZA,Qz (sP l) (oM m) (oA a)/\(-1152921504606846976<=a.Zx.N/\a.Zx.N<=1152921504606846976)/\(-1152921504606846976<=a.Zy.N/\a.Zy.N<=1152921504606846976):=by intro m d a x;have n:oM m∈(sP l).ZF:=aM.2 ⟨m,d,rfl⟩;have b:oA a∈(oM m).ZA:=aM.2 ⟨a,x,rfl⟩;have⟨v,w,_⟩:=(g.msg m d).2.2.2.2 (oA a) b;have A:Tl a.Zx.N:=v.1;have C:Tl a.Zy.N:=w.1;unfold Tl at A C;exact⟨g.atoms (oM m) n (oA a) b,by omega,by omega⟩
   have D:∀m∈l,m.ZA.length<=10:=fun m d=>by
    have:=(g.msg m d).2.2.1;have e:(oM m).ZA.length=m.ZA.length:=by show (m.ZA.map oA).length=_;rw[aN]
    omega
   obtain⟨r,i⟩:=Zrl (N:=N) (p:=sP l) (l:=l) rfl j D z l N 0 [] rfl (by omega) (by omega) rfl;have i:TV N (l.map oM) (Wo (l.map oM) 0) N 0 []=some r:=i;exact⟨r,i⟩
  ·rw[show decide (((X8 (l.map oM):Nat):Int)>(24:Int))=true by simp;omega,cT];exact⟨_,rfl⟩
 ·have E:¬ c.ZZ=0:=fun e=>h (o.1 e);rw[show (c.ZZ != (0:Int))=true by simpa using E,cT];exact⟨_,rfl⟩
theorem Ra{σ γ:Type}{F:Nat->σ->Option γ}{Q:γ->Prop}(a:Nat->σ->Prop)
  (b:∀m s,a m s->(∃m' s',m'<m/\a m' s'/\∀n,F (n+1) s=F n s')\/∀n,∃r,F (n+1) s=some r/\Q r):∀n m s,a m s->m<n->∃r,F n s=some r/\Q r
 |0,m,s,_,h=>by omega
 |n+1,m,s,hi,h=>by
  rcases b m s hi with⟨m',s',c,d,f⟩|c
  ·have⟨r,e,q⟩:=Ra a b n m' s' d (by omega);exact⟨r,(f n).trans e,q⟩
  ·exact c n
def Ub(x y:Int):Int:=if x<y then -1 else if y<x then 1 else 0
theorem ZeN(N:Nat)(x y:Int):MZ N x y=some (Ub x y):=by
 have b:∀z:Int,Gj N z=some false:=fun z=>by unfold Gj;simp
 unfold MZ Ub;rw[b,b];simp only[bS,cF];by_cases a:x<y
 ·simp[a]
 ·by_cases c:y<x
  ·simp[a,c]
  ·simp[a,c]
def Wm(a b:T6):Prop:=a.ZB<b.ZB\/(a.ZB=b.ZB/\(a.To<b.To\/(a.To=b.To/\a.ZP<b.ZP)))
def QP(a b:T6):Int:=if Ub a.ZB b.ZB≠0 then Ub a.ZB b.ZB else if Ub a.To b.To≠0 then Ub a.To b.To else Ub a.ZP b.ZP
theorem Zh9(o:4<N)(a b:T6):z164 N a b=some (QP a b):=by
 obtain⟨n,rfl⟩:∃n,N=n+4:=⟨N-4,by omega⟩
 unfold z164;rw[ZeN,ZeN,ZeN];simp only[bS];have e:∀x y z:Int,Zc7 (n+4) [x,y,z]=some (if x≠0 then x else if y≠0 then y else z):=by
  intro x y z;have g:∀(m k:Nat) v,[x,y,z][k]?=some v->Rp [x,y,z] (m+1) (k:Int)=bif (v != 0) then some v else Rp [x,y,z] m ((k+1:Nat):Int):=by intro m k v f;have l:=YB f;simp only[Zf,aP]at l;simp only[Rp,YY (YB f),cT,YI,f,bS];rw[Xb (by omega)]
  have en:∀m,Rp [x,y,z] (m+1) ((3:Nat):Int)=some 0:=by intro m;simp only[Rp,YZ (show [x,y,z].length<=3 from Zq _),cF,Zc8]
  show Rp [x,y,z] (n+3+1) ((0:Nat):Int)=_;rw[g _ 0 x rfl,g _ 1 y rfl,g _ 2 z rfl,en];have i:∀v:Int,¬ v=0->(v != 0)=true:=fun v h=>by simpa using h
  by_cases c:x=0
  ·by_cases d:y=0
   ·by_cases j:z=0
    ·simp[c,d,j]
    ·simp[c,d,i z j]
   ·simp[c,d,i y d]
  ·simp[c,i x c]
 rw[e];rfl
theorem ZeO(x y:Int):Ub x y<0↔x<y:=by
 unfold Ub;by_cases a:x<y
 ·simp[a]
 ·by_cases b:y<x<;>simp[a,b]
theorem De(x y:Int):Ub x y=0↔x=y:=by
 unfold Ub;by_cases a:x<y
 ·simp[a];omega
 ·by_cases b:y<x
  ·simp[a,b];omega
  ·simp[a,b];omega
theorem Zil(a b:T6):QP a b<0↔Wm a b:=by
 have e:=ZeO a.ZB b.ZB;have f:=De a.ZB b.ZB;have g:=ZeO a.To b.To;have t2:=De a.To b.To;have h:=ZeO a.ZP b.ZP;unfold QP Wm;by_cases c:Ub a.ZB b.ZB=0
 ·by_cases d:Ub a.To b.To=0
  ·simp[c,d];omega
  ·simp[c,d];omega
 ·simp[c];omega
theorem PF{a b:T6}(c:a.ZB=b.ZB)(d:a.To=b.To)(e:a.ZP=b.ZP):a=b:=by cases a;cases b;cases c;cases d;cases e;rfl
theorem Zim(a b:T6):QP a b=0↔a=b:=by
 have e:=De a.ZB b.ZB;have t2:=De a.To b.To;have f:=De a.ZP b.ZP;unfold QP;constructor
 ·intro h;by_cases c:Ub a.ZB b.ZB=0
  ·by_cases d:Ub a.To b.To=0
   ·simp[c,d]at h;exact PF (e.1 c) (t2.1 d) (f.1 h)
   ·simp[c,d]at h
  ·simp[c]at h
 ·rintro rfl;simp[e.2,t2.2,f.2]
theorem G7{a b c:T6}(d:Wm a b)(e:Wm b c):Wm a c:=by unfold Wm at *;omega
theorem UX{a:T6}(h:Wm a a):False:=by unfold Wm at h;omega
theorem ZnU(a b:T6):Wm a b\/a=b\/Wm b a:=by
 by_cases d:a.ZB<b.ZB
 ·exact .inl (.inl d)
 ·by_cases e:b.ZB<a.ZB
  ·exact .inr (.inr (.inl e))
  ·have hF:a.ZB=b.ZB:=by omega
   by_cases f:a.To<b.To
   ·exact .inl (.inr ⟨hF,.inl f⟩)
   ·by_cases g:b.To<a.To
    ·exact .inr (.inr (.inr ⟨hF.symm,.inl g⟩))
    ·have c:a.To=b.To:=by omega
     by_cases h:a.ZP<b.ZP
     ·exact .inl (.inr ⟨hF,.inr ⟨c,h⟩⟩)
     ·by_cases i:b.ZP<a.ZP
      ·exact .inr (.inr (.inr ⟨hF.symm,.inr ⟨c.symm,i⟩⟩))
      ·exact .inr (.inl (PF hF c (by omega)))
structure Zek (A:List T6) (x:T6) (r:Int×Bool):Prop where
 p:∃i:Nat,r.1=(i:Int)/\i<=A.length/\(∀(j:Nat) a,j<i->A[j]?=some a->Wm a x)/\(r.2=true->A[i]?=some x)/\(r.2=false->∀(j:Nat) a,i<=j->A[j]?=some a->Wm x a)
variable {α:Type}
theorem R9{R:α->α->Prop}{A:List α}(h:A.Pairwise R){i j:Nat}{a b:α}(c:i<j)(d:A[i]?=some a)(e:A[j]?=some b):R a b:=by obtain⟨f,rfl⟩:=aE.1 d;obtain⟨g,rfl⟩:=aE.1 e;exact cK.1 h i j f g c
variable {A:List T6}
theorem Zoq(x:T6)(t:A.Pairwise Wm)(C:4<N)(G:A.length<N)(M:A.length<1000000) :
  ∃r,Bq N A x=some r/\Zek A x r:=by
 unfold Bq;have:=Ra (F:=fun n (s:Int×Int)=>SB N A x n s.1 s.2) (Q:=Zek A x)
  (fun m s=>∃i j:Nat,s=((i:Int),(j:Int))/\m=j-i/\i<=j/\j<=A.length/\(∀(q:Nat) a,q<i->A[q]?=some a->Wm a x)/\(∀(q:Nat) a,j<=q->A[q]?=some a->¬ Wm a x)) ?_ N A.length ((0:Int),(A.length:Int)) ?_ G
 ·exact this
 ·rintro m ⟨O,P⟩ ⟨i,j,H,rfl,I,v,w,D⟩;cases H;by_cases z:i<j
  ·left;have k:(i+j)/2<A.length:=by omega
   have d:=Za k;have o:=Zqp (a:=i) (b:=j) (by omega) (i:=(i:Int)) (j:=(j:Int)) rfl rfl;have e:∀n,SB N A x (n+1) (i:Int) (j:Int) =
     bif decide (QP A[(i+j)/2] x<0) then SB N A x n (((i+j)/2+1:Nat):Int) (j:Int)
     else SB N A x n (i:Int) (((i+j)/2:Nat):Int):=by intro n;simp only[SB,YY z,cT,o,bS];rw[We (n:=(((i+j)/2:Nat):Int)) (by omega) (by omega),YI,d,bS,Zh9 C,bS,Xb (by omega)]
   by_cases g:Wm A[(i+j)/2] x
   ·refine⟨j-((i+j)/2+1),((((i+j)/2+1:Nat):Int),(j:Int)),by omega,⟨(i+j)/2+1,j,rfl,rfl,by omega,v,fun q a u c=>?_,D⟩,fun n=>?_⟩
    ·rcases ay q ((i+j)/2) with h|h
     ·exact G7 (R9 t h c d) g
     ·obtain rfl:q=(i+j)/2:=by omega
      rw[d]at c;cases c;exact g
    ·rw[e,dT ((Zil _ _).2 g),cT]
   ·refine⟨(i+j)/2-i,((i:Int),(((i+j)/2:Nat):Int)),by omega,⟨i,(i+j)/2,rfl,rfl,by omega,by omega,w,fun q a u c=>?_⟩,fun n=>?_⟩
    ·intro l;rcases ay ((i+j)/2) q with h|h
     ·exact g (G7 (R9 t h d c) l)
     ·obtain rfl:q=(i+j)/2:=by omega
      rw[d]at c;cases c;exact g l
    ·rw[e,dF (fun h=>g ((Zil _ _).1 h)),cF]
  ·right;obtain rfl:i=j:=by omega
   intro n;simp only[SB,YZ (Zq i),cF,Zc0];rcases ay i A.length with f|y
   ·have d:=Za f;rw[YY f,cT,YI,d,bS,Zh9 C,bS];refine⟨_,rfl,⟨i,rfl,v,w,fun h=>?_,fun h q a k c=>?_⟩⟩
    ·have h:(QP A[i] x==0)=true:=h;rw[<-(Zim _ _).1 (lz h)];exact d
    ·have h:(QP A[i] x==0)=false:=h;have K:¬ A[i]=x:=fun e=>by rw[(Zim _ _).2 e]at h;cases h
     have L:=D i _ (Zq _) d;have E:Wm x A[i]:=((ZnU A[i] x).resolve_left L).resolve_left K;rcases ay i q with o|o
     ·exact G7 E (R9 t o d c)
     ·obtain rfl:q=i:=by omega
      rw[d]at c;cases c;exact E
   ·rw[YZ y,cF];refine⟨_,rfl,⟨i,rfl,v,w,fun h=>(by cases h),fun h q a k c=>?_⟩⟩;have:=YB c;omega
 ·exact⟨0,A.length,rfl,rfl,by omega,by omega,fun q a k _=>by omega,fun q a k c=>by have:=YB c;omega⟩
section
variable {N:Nat}
theorem Zez{α:Type}(xs:List α)(f:α->Option Bool)(m:∀x∈xs,∃b,f x=some b)(F:Nat->Int->Option Int)
  (o:∀(n k:Nat) x,xs[k]?=some x->F (n+1) (k:Int)=(f x).bind fun b=>bif b then some (k:Int) else F n ((k+1:Nat):Int))
  (q:∀(n k:Nat),xs.length<=k->F (n+1) (k:Int)=some (-1)) (s:xs.length<N):∃r,F N (0:Int)=some r/\(decide (r>=0)=true↔∃x∈xs,f x=some true):=by
 have key:∀(l:List α) (k n:Nat),xs.drop k=l->l.length<n->∃r,F n (k:Int)=some r/\(decide (r>=0)=true↔∃x∈l,f x=some true):=by
  intro l;induction l with
  |nil=>
   intro k n h i;obtain⟨n,rfl⟩:=pS n (by simp at i;omega);exact⟨-1,q n k (XS h),by simp⟩
  |cons x l t=>
   intro k n h i;obtain⟨n,rfl⟩:=pS n (by simp at i;omega);have⟨a,c,d⟩:=XY h;have⟨b,j⟩:=m x (Zb c);rw[o n k x c,j,bS];cases b with
   |true=>exact⟨(k:Int),rfl,by simp[j]⟩
   |false=>
    have⟨r,e,g⟩:=t (k+1) n d (by simp at i;omega);exact⟨r,e,by rw[g];simp[j]⟩
 exact key xs 0 N rfl s
mutual
def DK:Yj->Prop
 |⟨k,_,_,_,_,_,b⟩=>k≠5/\k≠6/\R8 b
def U8:List Yj->Prop
 | []=>True
 |x::l=>DK x/\U8 l
def R8:List (List Yj)->Prop
 | []=>True
 |b::r=>U8 b/\R8 r
end
theorem Zlj(x:Yj):DK x↔x.Zt≠5/\x.Zt≠6/\R8 x.ZD:=by cases x;simp only[DK]
theorem Zlk:∀ {r:List (List Yj)},(∀b∈r,U8 b)->R8 r
 | [],_=>by simp only[R8]
 |b::r,h=>by simp only[R8];exact⟨h b (by simp),Zlk fun c a=>h c (by simp[a])⟩
theorem Zf3:∀ {l:List (List Yj)} {x},R8 l->x∈l->U8 x
 |b::r,x,h,a=>by
  simp only[R8]at h;rcases aV.1 a with rfl|a
  ·exact h.1
  ·exact Zf3 h.2 a
theorem Zf4:∀(M:Nat) (l:List Yj),4194305+dL l<M->bL l->l.length<=4194304->∃b,Ps M l=some b/\(b=true->U8 l)
 |0,l,h,_,_=>by omega
 |M+1,l,h,hb,hl=>by
  have key:∀(r:List Yj) (k n:Nat),l.drop k=r->r.length<n->∃b,MY M (Ps M) l n (k:Int)=some b/\(b=true->U8 r):=by
   intro r;induction r with
   |nil=>
    intro k n h i;obtain⟨n,rfl⟩:=pS n (by simp at i;omega);exact⟨true,by simp only[MY,YZ (XS h),cF,Zc5],fun _=>by simp only[U8]⟩
   |cons x r I=>
    intro k n D i;obtain⟨n,rfl⟩:=pS n (by simp at i;omega);have⟨a,c,d⟩:=XY D;have t:=Zb c;have L:=RM t;have E:=RL x;have⟨_,K,s⟩:=(QE x).1 (RG hb t);simp only[MY,YY a,cT,YI,c,bS];cases F:(x.Zt==(6:Int)) with
    |true=>exact⟨false,rfl,fun h=>by cases h⟩
    |false=>
     rw[cF];cases G:(x.Zt==(5:Int)) with
     |true=>exact⟨false,rfl,fun h=>by cases h⟩
     |false=>
      rw[cF];have⟨q,e,g⟩:=Zez x.ZD (z53 M (Ps M)) (fun y f=>by
       have⟨m,o⟩:=RF s f;have:=SU f;have⟨b,e,_⟩:=Zf4 M y (by omega) o m;exact⟨!b,by unfold z53;rw[e];rfl⟩) (MA M (Ps M) x.ZD) (fun n k y f=>by
        simp only[MA,YY (YB f),cT,YI,f,bS];rw[Xb (by have:=YB f;omega)]) (fun n k u=>by simp only[MA,YZ u,cF,Zce]) (N:=M) (by omega)
      unfold ZdA Zcd;rw[e,bS,bS];cases H:decide (q>=0) with
      |true=>exact⟨false,rfl,fun h=>by cases h⟩
      |false=>
       rw[cF,Xb (by omega)];have⟨b,v,w⟩:=I (k+1) n d (by simp at i;omega);refine⟨b,v,fun j=>?_⟩;simp only[U8];refine⟨(Zlj x).2 ⟨by simpa using G,by simpa using F,Zlk fun y f=>?_⟩,w j⟩;have⟨m,o⟩:=RF s f;have:=SU f;have⟨z,A,C⟩:=Zf4 M y (by omega) o m;cases z with
       |true=>exact C rfl
       |false=>
        exfalso;have:decide (q>=0)=true:=g.2 ⟨y,f,by unfold z53;rw[A];rfl⟩;rw[H]at this;cases this
  obtain⟨b,e,g⟩:=key l 0 M rfl (by omega);exact⟨b,e,g⟩
theorem Zfr{l:List be}(c:l.length<N)(d:l.length<=4194304){v:be}(f:v∈l):∃i:Nat,TT N l v=some (i:Int)/\l[i]?=some v:=by
 have e:=VC l (fun x=>v.toList==x.toList) (Tg l v) (fun n k x b=>by
  simp only[Tg,YY (YB b),cT,YI,b,bS];rw[Xb (by have:=YB b;omega)]) (fun n k g=>by simp only[Tg,YZ g,cF,H9]) c
 rcases Sb (fun x:be=>v.toList==x.toList) l with⟨_,a⟩|⟨i,x,h,a,j⟩
 ·exfalso;rw[fZ]at a;exact a v f (by simp)
 ·refine⟨i,by rw[<-h];exact e,?_⟩;have:=List.find?_some j;have:v=x:=UN.1 this;rw[this];exact a
theorem Zrp{l:List Ys}(c:l.length<N)(d:l.length<=4194304){x:Yj}(f:∃m∈l,m.Zu=x.Zu) :
  ∃i:Nat,Zcm N l x=some (i:Int)/\i<l.length:=by
 have e:=VC l (fun m=>m.Zu.toList==x.Zu.toList) (MG N l x) (fun n k m a=>by
  simp only[MG,YY (YB a),cT,YI,a,bS,Zco];rw[Xb (by have:=YB a;omega)]) (fun n k g=>by simp only[MG,YZ g,cF,Zcn]) c
 rcases Sb (fun m:Ys=>m.Zu.toList==x.Zu.toList) l with⟨_,b⟩|⟨i,m,j,b,o⟩
 ·exfalso;have⟨m,a,h⟩:=f;rw[fZ]at b;exact b m a (by rw[h];simp)
 ·exact⟨i,by rw[<-j];exact e,YB b⟩
def okT(B:Int->Prop)(n0:Nat)(ns:List YU)(k:Int):Prop:=B k\/∃(j:Nat) (nd:YU),k=((n0+j:Nat):Int)/\ns[j]?=some nd/\∀a∈nd.Yc,a.again'=false
def okS(B:Int->Prop)(n0:Nat)(ns:List YU)(f lb:Int)(k:Int):Prop:=
 okT B n0 ns k\/∃(j:Nat) (nd:YU) (a:T9),k=((n0+j:Nat):Int)/\ns[j]?=some nd/\nd.Yc=[a]/\a.Z8.ZB=f/\a.Z8.ZP=lb
def LK(p:Yl)(a:T6):Prop:=0<=a.ZB/\a.ZB<(p.ZE.length:Int)/\0<=a.To/\a.To<(p.ZE.length:Int)/\a.ZB≠a.To/\0<=a.ZP/\a.ZP<(p.ZF.length:Int)
structure NdOk (p:Yl) (B:Int->Prop) (n0:Nat) (ns:List YU) (nd:YU):Prop where
 e:∀k∈nd.Yb,okT B n0 ns k
 a:∀a∈nd.Yc,okS B n0 ns a.Z8.ZB a.Z8.ZP a.to'/\LK p a.Z8
 c:∀c∈nd.Yd,c.Ya∈nd.Yb/\0<=c.ticks'/\c.ticks'<=1000
 la:nd.Yc.length<=1
 le:nd.Yb.length<=8
 lc:nd.Yd.length<=1
def WOk(p:Yl)(B:Int->Prop)(n0:Nat)(ns:List YU):Prop:=∀nd∈ns,NdOk p B n0 ns nd
structure Emb (B:Int->Prop) (n0:Nat) (ns:List YU) (B':Int->Prop) (n1:Nat) (ns':List YU):Prop where
 b:∀k,B k->okT B' n1 ns' k
 n:∀(j:Nat) nd,ns[j]?=some nd->∃j',n0+j=n1+j'/\ns'[j']?=some nd
variable {B B':Int->Prop}{n0 n1:Nat}{ns ns':List YU}{p:Yl}
theorem okT.emb(h:Emb B n0 ns B' n1 ns'){k:Int}(a:okT B n0 ns k):okT B' n1 ns' k:=by
 rcases a with a|⟨j,nd,d,f,i⟩
 ·exact h.b k a
 ·have⟨c,e,g⟩:=h.n j nd f;exact .inr ⟨c,nd,by rw[d,e],g,i⟩
theorem okS.emb(h:Emb B n0 ns B' n1 ns'){f c k:Int}(b:okS B n0 ns f c k):okS B' n1 ns' f c k:=by
 rcases b with b|⟨j,nd,a,i,l,m⟩
 ·exact .inl (b.emb h)
 ·have⟨d,e,g⟩:=h.n j nd l;exact .inr ⟨d,nd,a,by rw[i,e],g,m⟩
theorem NdOk.emb(h:Emb B n0 ns B' n1 ns'){nd:YU}(b:NdOk p B n0 ns nd):NdOk p B' n1 ns' nd:=
 ⟨fun k f=>(b.e k f).emb h,fun a d=>⟨(b.a a d).1.emb h,(b.a a d).2⟩,b.c,b.la,b.le,b.lc⟩
theorem Emb.app(e:List YU):Emb B n0 ns B n0 (ns++e):=
 ⟨fun k b=>.inl b,fun j nd a=>⟨j,rfl,by rw[Zo (YB a)];exact a⟩⟩
theorem WOk.snoc(h:WOk p B n0 ns){nd:YU}(b:NdOk p B n0 (ns++[nd]) nd):WOk p B n0 (ns++[nd]):=fun x a=>by
 rcases aS.1 a with a|a
 ·exact (h x a).emb (.app _)
 ·rw[aC.1 a];exact b
theorem WOk.app(h:WOk p B n0 ns)(c:WOk p (okT B n0 ns) (n0+ns.length) ns'):WOk p B n0 (ns++ns')/\Emb (okT B n0 ns) (n0+ns.length) ns' B n0 (ns++ns'):=by
 have b:Emb (okT B n0 ns) (n0+ns.length) ns' B n0 (ns++ns'):=⟨fun k d=>d.emb (.app _),fun j nd e=>⟨ns.length+j,by omega,by rw[Zp (by omega),Nat.add_sub_cancel_left];exact e⟩⟩
 refine⟨fun x a=>?_,b⟩;rcases aS.1 a with a|a
 ·exact (h x a).emb (.app _)
 ·exact (c x a).emb b
theorem Emb.cons(nd:YU)(c:∀a∈nd.Yc,a.again'=false):Emb (fun k=>B k\/k=(n0:Int)) (n0+1) ns B n0 (nd::ns):=
 ⟨fun k b=>by
  rcases b with b|b
  ·exact .inl b
  ·exact .inr ⟨0,nd,by rw[b];simp,rfl,c⟩,fun j x d=>⟨j+1,by omega,by simpa using d⟩⟩
end
variable {B:Int->Prop}
theorem Zt6{p:Yl}{n0:Nat}(P:4194304<N)(C:p.ZE.length<=4194304){x:Yj}{b f:Nat}(y:b<p.ZF.length)(D:TT N p.ZE x.ZB=some (f:Int))(g:p.ZE[f]?=some x.ZB) :
  ∀(l:List be) (d:Int) (ns:List YU),(∀t∈l,t∈p.ZE/\t≠x.ZB)->okS B n0 ns (f:Int) (b:Int) d->WOk p B n0 ns->n0+ns.length+l.length<=4000000 ->
   ∃r,QL (Mi N p.ZE x (b:Int) n0) l (d,ns)=some r/\WOk p B n0 r.2/\(l≠[]->okT B n0 r.2 r.1)/\r.2.length=ns.length+l.length:=by
 intro l;induction l with
 |nil=>intro d ns _ _ s _;exact⟨(d,ns),rfl,s,fun h=>absurd rfl h,by simp⟩
 |cons t l O=>
  intro d ns z o s A;have⟨G,t2⟩:=z t (by simp);have⟨q,H,i⟩:=Zfr (N:=N) (by omega) C G;have M:¬ f=q:=fun e=>by rw[e,i]at g;cases g;exact t2 rfl
  have j:aY (n0+ns.length+1) lim=true:=ai (by unfold lim;simp at A;omega)
  let nd:YU:=⟨[],[⟨⟨(f:Int),(q:Int),(b:Int)⟩,d,decide (((l.length:Nat):Int)>0)⟩],[]⟩
  have v:NdOk p B n0 (ns++[nd]) nd:=⟨fun k E=>(by cases E),fun a n=>by rw[aC.1 n];refine⟨o.emb (.app _),?_⟩;have R:=YB g;have S:=YB i;refine⟨?_,?_,?_,?_,?_,?_,?_⟩<;>dsimp only<;>omega,fun c o=>(by cases o),by simp[nd],by simp[nd],by simp[nd]⟩
  have m:(ns++[nd])[ns.length]?=some nd:=by rw[Zp (Zq _),br];rfl
  have w:Mi N p.ZE x (b:Int) n0 l.length t (d,ns)=some (((n0+ns.length:Nat):Int),ns++[nd]):=by unfold Mi;rw[D,bS,H,bS];dsimp only;rw[j];rfl
  have⟨r,e,I,K,L⟩:=O ((n0+ns.length:Nat):Int) (ns++[nd]) (fun u F=>z u (by simp[F])) (.inr ⟨ns.length,nd,_,rfl,m,rfl,rfl,rfl⟩) (s.snoc v) (by simp at A ⊢;omega);refine⟨r,?_,I,fun _=>?_,by rw[L];simp;omega⟩
  ·show (Mi N p.ZE x (b:Int) n0 l.length t (d,ns)).bind _=_;rw[w];exact e
  ·cases l with
   |nil=>
    cases e;exact .inr ⟨ns.length,nd,rfl,m,fun a n=>by rw[aC.1 n];rfl⟩
   |cons u l=>exact K (by simp)
theorem Zle{all p ls}:∀ {l:List Yj} {x},VY all p ls l->x∈l->∃b,Rc all p (Qh b ls) x
 |y::l,x,h,a=>by
  simp only[VY]at h;rcases aV.1 a with rfl|a
  ·exact⟨_,h.1⟩
  ·exact Zle h.2 a
theorem ZfV{all p ls}:∀ {l:List (List Yj)} {x},Re all p ls l->x∈l->VY all p ls x
 |y::l,x,h,a=>by
  simp only[Re]at h;rcases aV.1 a with rfl|a
  ·exact h.1
  ·exact ZfV h.2 a
theorem ZlZ:∀ {l:List Yj} {x},Wz l->x∈l->Qc x
 |y::l,x,h,a=>by
  simp only[Wz]at h;rcases aV.1 a with rfl|a
  ·exact h.1
  ·exact ZlZ h.2 a
theorem Zgk:∀ {l:List (List Yj)} {x},Ta l->x∈l->Wz x
 |y::l,x,h,a=>by
  simp only[Ta]at h;rcases aV.1 a with rfl|a
  ·exact h.1
  ·exact Zgk h.2 a
theorem Zll:∀ {l:List Yj} {x},U8 l->x∈l->DK x
 |y::l,x,h,a=>by
  simp only[U8]at h;rcases aV.1 a with rfl|a
  ·exact h.1
  ·exact Zll h.2 a
theorem ZoB(l:List Yj):l.length<=cL l:=by
 induction l with
 |nil=>simp
 |cons x l a=>
  have:=PM x;simp only[cL,Zf];omega
theorem ZsE{c:List YT}{loops:X4}(h:∀o∈c,B ((YR loops o.Z5).getD 0))(b:Bool):∀o∈Qh b c,B ((YR loops o.Z5).getD 0):=by intro o d;obtain⟨o',a,rfl⟩:=aM.1 d;exact h o' a
structure Rl (p:Yl) (B:Int->Prop) (n0:Nat) (c:Nat) (r:WJ):Prop where
 w:WOk p B n0 r.2
 t:okT B n0 r.2 r.1
 n:r.2.length<=5*c
def LOk(N:Nat)(all:List Yl)(p:Yl)(n:Nat):Prop:=
 ∀(l:List Yj) (ls:List YT) (B:Int->Prop) (n0:Nat) (lP:Int) (loops:X4),Wz l->VY all p ls l->U8 l->dL l<n->n0+5*cL l<=100000->B lP->(∀o∈ls,B ((YR loops o.Z5).getD 0)) ->
  ∃r,Tz N p.ZE p.ZF n l lP loops n0=some r/\Rl p B n0 (cL l) r
variable {all:List Yl}
theorem ZoQ{p:Yl}{n:Nat}(S:4194304<N)(hL:LOk N all p n){x:Yj}{s:List YT}{n0:Nat}{lP:Int}{loops:X4}
  (G:Ta x.ZD) (u:Re all p s x.ZD) (H:R8 x.ZD) (T:VQ x.ZD<n) (U:n0+1+5*XC x.ZD<=100000) (V:x.ZD.length<=8) (hB:B lP) (I:∀o∈s,B ((YR loops o.Z5).getD 0)) :
  ∀(bs:List (List Yj)) (m i:Nat) (o:Int) (D:List Int) (ns:List YU),x.ZD.drop i=bs->i<=x.ZD.length->bs.length<m->D.length=i->WOk p B (n0+1) ns->(∀k∈D,okT B (n0+1) ns k)->(0<i->o∈D)->ns.length+5*XC bs<=5*XC x.ZD ->
   ∃r,QN N (Tz N p.ZE p.ZF n) x lP loops n0 m (i:Int) o D ns=some r/\WOk p B (n0+1) r.2.2/\(∀k∈r.2.1,okT B (n0+1) r.2.2 k)/\(0<x.ZD.length->r.1∈r.2.1)/\r.2.1.length<=8/\r.2.2.length<=5*XC x.ZD:=by
 intro bs;induction bs with
 |nil=>
  intro m i o D ns h hi j M A C f E;obtain⟨m,rfl⟩:∃q,m=q+1:=⟨m-1,by simp at j;omega⟩
  have:=XS h;simp only[XC]at E;refine⟨(o,D,ns),by simp only[QN,YZ this,cF],A,C,fun W=>f (by omega),?_,by omega⟩;dsimp only;omega
 |cons b bs R=>
  intro m i o D ns h hi j M A C f E;obtain⟨m,rfl⟩:∃q,m=q+1:=⟨m-1,by simp at j;omega⟩
  have⟨a,c,d⟩:=XY h;have l:=Zb c;have O:=SU l;simp only[XC]at E;have P:cL b+XC bs<=XC x.ZD:=by omega
  have⟨r,e,y⟩:=hL b s (okT B (n0+1) ns) (n0+1+ns.length) lP loops (Zgk G l) (ZfV u l) (Zf3 H l) (by omega) (by omega) (.inl hB) (fun o u=>.inl (I o u));have⟨w2,K⟩:=A.app y.w;have F:Y8 D [r.1]=some (D++[r.1]):=X6 (by simp;omega);have X:=y.n;have⟨q,L,g⟩:=R m (i+1) r.1 (D++[r.1]) (ns++r.2) d (by omega) (by simp at j;omega) (by simp;omega) w2 (fun k v=>by
   rcases aS.1 v with z|z
   ·exact (C k z).emb (.app _)
   ·rw[aC.1 z];exact y.t.emb K) (fun _=>by simp) (by simp;omega)
  refine⟨q,?_,g⟩;simp only[QN,YY a,cT,YI,c,bS,e,F];rw[Xb (by omega)];exact L
theorem Q3{κ:Type}[ke κ](lM:List (κ×α))(a b:κ)(x:α):YR (Xf lM a x) b=bif ke.eq a b then some x else YR lM b:=by
 haveI:kv:=⟨False⟩
 exact Hp
theorem ZsK{p:Yl}{f:be}{l:List be}(h:G5 p (f::l)):f∈p.ZE/\∀t∈l,t∈p.ZE/\t≠f:=by refine⟨(h 0 f rfl).1,fun t a=>?_⟩;have⟨k,b⟩:=aZ.1 a;have⟨c,d⟩:=h (k+1) t (by simpa using b);exact⟨c,fun e=>d (by rw[e];simp)⟩
theorem ZqV{p:Yl}{n:Nat}(V:4194304<N)(G:p.ZE.length<=4194304)(hm:p.ZF.length<=4194304)(hL:LOk N all p n)(x:Yj)(l:List YT)(B:Int->Prop)(n0:Nat)(lP:Int)(loops:X4)
  (hs:Qc x) (v:Rc all p l x) (hp:DK x) (hd:dI x<n+1) (D:n0+5*cI x<=100000) (hB:B lP) (H:∀o∈l,B ((YR loops o.Z5).getD 0)) :
  ∃r,P0 N p.ZE p.ZF (Tz N p.ZE p.ZF n) x lP loops n0=some r/\Rl p B n0 (cI x) r:=by
 have⟨s1,W⟩:=(Zgj x).1 hs;have⟨o1,E⟩:=(Zlc all p l x).1 v;have⟨p5,p6,X⟩:=(Zlj x).1 hp;have hdx:=RL x;have hcx:=PM x;have⟨oS,oC,K,oA,_⟩:=o1;have m:aY (n0+1) lim=true:=ai (by unfold lim;omega);unfold P0;rcases s1 with h|h|h|h|h|h
 ·-- a send
  have⟨k,_,w,_⟩:=h;rw[k,show ((1:Int)==4)=false from rfl,show ((1:Int)==1)=true from rfl,cF,cT];have⟨ro,me⟩:=oS k;have⟨r1,r2⟩:=ZsK ro;have⟨lab,e1,A⟩:=Zrp (N:=N) (by omega) hm me;have⟨f,L,Y⟩:=Zfr (N:=N) (by omega) G r1;rw[e1,bS];have⟨Z,w2,_⟩:=w;have⟨r,e,M,O,P⟩:=Zt6 (B:=B) (n0:=n0) V G A L Y x.To.reverse lP [] (fun t ht=>r2 t (List.mem_reverse.1 ht)) (.inl (.inl hB)) (fun nd I=>by cases I) (by simp;omega);refine⟨r,?_,⟨M,O (by intro e;have:=mG List.length e;simp at this;rw[this]at Z;simp at Z),by rw[P];simp;omega⟩⟩;unfold Sd;rw[show aY x.To.length lim=true from ai (by unfold lim;omega),cT];exact e
 ·-- a choice
  obtain⟨k,_,_,_,_,t0,t1,b1,b2⟩:=h;rw[k,show ((2:Int)==4)=false from rfl,show ((2:Int)==1)=false from rfl,show ((2:Int)==3)=false from rfl,m];simp only[cF,cT];have⟨f,L,Y⟩:=Zfr (N:=N) (by omega) G (oC k);rw[L,bS];have u:S4 l x=Tv false l:=by unfold S4;rw[mE (by omega),show (x.Zt==5)=false by rw[k];rfl]
  rw[u]at E;have T:∀o∈Tv false l,B ((YR loops o.Z5).getD 0):=fun o v=>by obtain⟨o',q,rfl⟩:=aM.1 v;exact H o' q
  obtain⟨r,e,M,O,P,g4,g5⟩:=ZoQ (B:=B) (n0:=n0) (lP:=lP) (loops:=loops) V hL W E X (by omega) (by omega) b2 hB T x.ZD N 0 (0:Int) [] [] rfl (by omega) (by omega) rfl (fun nd h=>by cases h) (fun k h=>by cases h) (fun h=>by omega) (by simp);have e:QN N (Tz N p.ZE p.ZF n) x lP loops n0 N (0:Int) (0:Int) [] []=some r:=e;rw[e,bS]
  let nd:YU:=⟨r.2.1,[],[⟨(f:Int),x.ZC,r.1⟩]⟩
  have C:Emb B (n0+1) r.2.2 B n0 (nd::r.2.2):=⟨fun k z=>.inl z,fun j y hj=>⟨j+1,by omega,by simpa using hj⟩⟩
  refine⟨((n0:Int),nd::r.2.2),rfl,⟨fun y d=>?_,.inr ⟨0,nd,by simp,rfl,fun a g=>by cases g⟩,by simp;omega⟩⟩;rcases aV.1 d with rfl|d
  ·exact⟨fun k z=>(O k z).emb C,fun a g=>(by cases g),fun c D=>by rw[aC.1 D];exact⟨P (by omega),t0,t1⟩,by simp[nd],g4,by simp[nd]⟩
  ·exact (M y d).emb C
 ·-- a loop
  obtain⟨k,_,_,_,_,_,b1⟩:=h;rw[k,show ((3:Int)==4)=false from rfl,show ((3:Int)==1)=false from rfl,show ((3:Int)==3)=true from rfl,m];simp only[cF,cT];obtain⟨b,R⟩:∃b,x.ZD=[b]:=List.length_eq_one_iff.1 b1;have hi:idx x.ZD (0:Int)=some b:=by rw[R];rfl
  have i:b∈x.ZD:=by rw[R];simp
  rw[hi,bS];have u:S4 l x=Tv false (l++[⟨x.Zu,true,false⟩]):=by unfold S4;rw[mD k,show (x.Zt==5)=false by rw[k];rfl]
  rw[u]at E;have hcb:XC x.ZD=cL b:=by rw[R];simp[XC]
  have hdb:=SU i;have⟨r,e,S⟩:=hL b _ (fun k=>B k\/k=(n0:Int)) (n0+1) lP (Xf loops x.Zu (n0:Int)) (Zgk W i) (ZfV E i) (Zf3 X i) (by omega) (by omega) (.inl hB) (fun o v=>by
   obtain⟨o',q,rfl⟩:=aM.1 v;show _\/_;dsimp only;rw[Q3];rcases aS.1 q with s|s
   ·have U:ke.eq x.Zu o'.Z5=false:=by
     cases F:ke.eq x.Zu o'.Z5 with
     |false=>rfl
     |true=>exact absurd ((ke.eq_iff _ _).1 F).symm (K k o' s)
    rw[U,cF];exact .inl (H o' s)
   ·rw[aC.1 s];have:ke.eq x.Zu x.Zu=true:=(ke.eq_iff _ _).2 rfl;rw[this];exact .inr rfl)
  rw[e,bS]
  let nd:YU:=⟨[r.1],[],[]⟩
  have C:Emb (fun k=>B k\/k=(n0:Int)) (n0+1) r.2 B n0 (nd::r.2):=Emb.cons nd (fun a g=>by cases g);have rn:=S.n;refine⟨((n0:Int),nd::r.2),rfl,⟨fun y d=>?_,.inr ⟨0,nd,by simp,rfl,fun a g=>by cases g⟩,by simp;omega⟩⟩;rcases aV.1 d with rfl|d
  ·exact⟨fun k z=>by rw[aC.1 z];exact S.t.emb C,fun a g=>(by cases g),fun c D=>(by cases D),by simp[nd],by simp[nd],by simp[nd]⟩
  ·exact (S.w y d).emb C
 ·-- an Again
  have⟨k,_⟩:=h;rw[k,show ((4:Int)==4)=true from rfl,cT];have⟨o,s,_⟩:=oA k;have h2:=List.mem_of_find?_eq_some s;have h3:=List.find?_some s;refine⟨_,rfl,⟨fun y d=>(by cases d),.inl ?_,by simp⟩⟩;have hn:o.Z5=x.Zu:=by
   cases F:(o.Z5.toList==x.Zu.toList) with
   |false=>rw[F]at h3;cases h3
   |true=>exact UN.1 F
  rw[<-hn];exact H o h2
 ·exact absurd h.1 p5
 ·exact absurd h.1 p6
theorem Zky{N:Nat}{all:List Yl}{p:Yl}(u:4194304<N)(v:p.ZE.length<=4194304)(z:p.ZF.length<=4194304):∀n,LOk N all p n
 |0=>fun l A B n0 lP loops _ _ _ h=>by omega
 |n+1=>fun l A B n0 lP loops E F G W X hB H=>by
  have hL:=Zky (all:=all) u v z n;have D:=ZoB l;have key:∀(d:List Yj) (a:Int) (ns:List YU),(∀x∈d,x∈l)->WOk p B n0 ns->okT B n0 ns a->n0+ns.length+5*cL d<=100000 ->
    ∃r,QL (fun _ x (b:WJ)=>(P0 N p.ZE p.ZF (Tz N p.ZE p.ZF n) x b.1 loops (n0+b.2.length)).bind fun r=>some (r.1,b.2++r.2)) d (a,ns)=some r/\WOk p B n0 r.2/\okT B n0 r.2 r.1/\r.2.length<=ns.length+5*cL d:=by
   intro d;induction d with
   |nil=>intro a ns _ m s _;exact⟨(a,ns),rfl,m,s,by simp⟩
   |cons x d V=>
    intro a ns i m s T;have c:=i x (by simp);simp only[cL]at T;have⟨b,k⟩:=Zle F c;have U:=RM c;have⟨r,e,g⟩:=ZqV u v z hL x (Qh b A) (okT B n0 ns) (n0+ns.length) a loops (ZlZ E c) k (Zll G c) (by omega) (by omega) s (fun o j=>.inl (ZsE H b o j));have⟨w2,K⟩:=m.app g.w;have Y:=g.n;have⟨q,L,M,O,P⟩:=V r.1 (ns++r.2) (fun y I=>i y (by simp[I])) w2 (g.t.emb K) (by rw[lA];omega);refine⟨q,?_,M,O,by rw[lA]at P;simp only[cL];omega⟩;show ((P0 N p.ZE p.ZF (Tz N p.ZE p.ZF n) x a loops (n0+ns.length)).bind _).bind _=_;rw[e];exact L
  have f:cL l.reverse=cL l:=by rw[Dd,Dd,List.map_reverse,List.sum_reverse]
  have⟨r,e,R,S,C⟩:=key l.reverse lP [] (fun x i=>List.mem_reverse.1 i) (fun nd h=>by cases h) (.inl hB) (by rw[f];simp;omega);refine⟨r,?_,⟨R,S,by rw[f]at C;simpa using C⟩⟩;show Dx _ l lP loops n0=_;unfold Dx Sd;rw[show aY l.length lim=true from ai (by unfold lim;omega),cT];exact e
structure GOk (p:Yl) (G:List YU):Prop where
 h0:∃ns,G=⟨[],[],[]⟩::ns/\WOk p (fun k=>k=0) 1 ns/\ns.length<=5000
theorem Zqo{p:Yl}(b:4194304<N)(c:p.ZE.length<=4194304)(d:p.ZF.length<=4194304)(f:Wz p.ZG)(a:VY all p [] p.ZG)(h:U8 p.ZG)(i:dL p.ZG<N)(j:cL p.ZG<=1000) :
  ∃s G,G4 N p.ZE p.ZF [⟨[],[],[]⟩] p.ZG (0:Int)=some (s,G)/\GOk p G/\okT (fun k=>k=0) 1 G.tail s:=by obtain⟨r,e,g⟩:=Zky (all:=all) b c d N p.ZG [] (fun k=>k=0) 1 (0:Int) [] f a h i (by omega) rfl (fun o a=>by cases a);have l:=g.n;refine⟨r.1,⟨[],[],[]⟩::r.2,?_,⟨r.2,rfl,g.w,by omega⟩,g.t⟩;unfold G4;have e:Tz N p.ZE p.ZF N p.ZG (0:Int) [] 1=some r:=e;show (Tz N p.ZE p.ZF N p.ZG (0:Int) [] 1).bind _=_;rw[e];rfl
def NA(G:List YU)(k:Int):Prop:=∃nd,idx G k=some nd/\∀a∈nd.Yc,a.again'=false
structure Vf (p:Yl) (G:List YU):Prop where
 n0:idx G 0=some ⟨[],[],[]⟩
 len:G.length<=5001
 e:∀nd∈G,∀k∈nd.Yb,NA G k
 a:∀nd∈G,∀a∈nd.Yc,LK p a.Z8/\(NA G a.to'\/∃nd' a',idx G a.to'=some nd'/\nd'.Yc=[a']/\a'.Z8.ZB=a.Z8.ZB/\a'.Z8.ZP=a.Z8.ZP)
 c:∀nd∈G,∀c∈nd.Yd,c.Ya∈nd.Yb/\0<=c.ticks'/\c.ticks'<=1000
 la:∀nd∈G,nd.Yc.length<=1
 le:∀nd∈G,nd.Yb.length<=8
 lc:∀nd∈G,nd.Yd.length<=1
variable {G:List YU}
theorem GOk.fl{p:Yl}(h:GOk p G):Vf p G/\∀k,okT (fun k=>k=0) 1 G.tail k->NA G k:=by
 obtain⟨ns,rfl,i,z⟩:=h.h0;have o:∀(j:Nat) nd,ns[j]?=some nd->idx ((⟨[],[],[]⟩:YU)::ns) ((1+j:Nat):Int)=some nd:=fun j nd q=>by rw[YI,Nat.add_comm];simpa using q
 have n:∀k,okT (fun k=>k=0) 1 ns k->NA ((⟨[],[],[]⟩:YU)::ns) k:=fun k f=>by
  rcases f with f|⟨j,nd,g,m,r⟩
  ·exact⟨⟨[],[],[]⟩,by rw[f];rfl,fun a l=>by cases l⟩
  ·exact⟨nd,by rw[g];exact o j nd m,r⟩
 have nd:∀(P:YU->Prop),P ⟨[],[],[]⟩->(∀x∈ns,P x)->∀x∈((⟨[],[],[]⟩:YU)::ns),P x:=fun P h0 g x d=>by
  rcases aV.1 d with rfl|d
  ·exact h0
  ·exact g x d
 refine⟨⟨rfl,by simp;omega,nd _ (fun k f=>by cases f) fun x d k f=>n k ((i x d).e k f),nd _ (fun k f=>by cases f) fun x d a l=>?_,nd _ (fun k f=>by cases f) fun x d=>(i x d).c,
  nd _ (by simp) fun x d=>(i x d).la,nd _ (by simp) fun x d=>(i x d).le,nd _ (by simp) fun x d=>(i x d).lc⟩,n⟩
 have⟨g,m⟩:=(i x d).a a l;refine⟨m,?_⟩;rcases g with g|⟨j,y,b,s,t,u,v,w⟩
 ·exact .inl (n _ g)
 ·exact .inr ⟨y,b,by rw[s];exact o j y t,u,v,w⟩
inductive ER (G:List YU):Int->Int->Prop
 |refl (a:Int):ER G a a
 |step {a b c:Int} {nd:YU} (h:ER G a b) (hb:idx G b=some nd) (hc:c∈nd.Yb):ER G a c
theorem R6:∀(n:Nat) (l:List Int),l.Nodup->(∀x∈l,0<=x/\x<(n:Int))->l.length<=n
 |0,l,_,h=>by
  cases l with
  |nil=>exact Zq _
  |cons x l=>have:=h x (by simp);omega
 |n+1,l,hn,h=>by
  by_cases b:(n:Int)∈l
  ·have:=R6 n (l.erase (n:Int)) (hn.erase _) (fun x a=>by have⟨c,d⟩:=(hn.mem_erase_iff).1 a;have:=h x d;omega)
   rw[List.length_erase_of_mem b]at this;omega
  ·have:=R6 n l hn (fun x a=>by have c:=h x a;have:x≠(n:Int):=fun e=>b (e▸a);omega)
   omega
theorem Ud{xs:List α}{k:Int}{x:α}(h:idx xs k=some x):∃j:Nat,k=(j:Int)/\xs[j]?=some x:=by
 haveI:kv:=⟨False⟩
 have⟨b,c,a⟩:=VD h;exact⟨k.toNat,by omega,a⟩
structure ClI (G:List YU) (l:List Int) (seen:List (Int×Bool)) (out lL:List Int):Prop where
 s:∀k,(YR seen k).getD false=true↔k∈out
 n:out.Nodup
 v:∀k,k∈out\/k∈lL->(∃nd,idx G k=some nd)/\∃x∈l,ER G x k
 l:∀x∈l,x∈out\/x∈lL
 c:∀k∈out,∀nd,idx G k=some nd->∀c∈nd.Yb,c∈out\/c∈lL
theorem ClI.len{l:List Int}{a:List (Int×Bool)}{b lL:List Int}(h:ClI G l a b lL):b.length<=G.length:=by refine R6 _ _ h.n fun x c=>?_;obtain⟨⟨nd,d⟩,_⟩:=h.v x (.inl c);have⟨j,e,f⟩:=Ud d;have:=YB f;omega
structure SI (G:List YU) (l r:List Int):Prop where
  s:r.Pairwise (· < ·)
  m:∀k,k∈r↔∃x∈l,ER G x k
theorem ZeM{p:Yl}{g:X5}(hN:4194304<N)(L:Vf p g.Ye)(l:List Int)(X:∀k∈l,∃nd,idx g.Ye k=some nd)(hn:l.length<=1000000) :
  ∃r,Lg N g l=some r/\SI g.Ye l r:=by
 have hG:=L.len;unfold Lg Zch;rw[X6 (by simp;omega),ah,bS,bS];have:=Ra (F:=fun n (s:List (Int×Bool)×List Int×List Int)=>Qs N g n s.1 s.2.1 s.2.2) (Q:=SI g.Ye l)
  (fun m s=>m=s.2.2.length+9*(g.Ye.length-s.2.1.length)/\m<=2000000/\ClI g.Ye l s.1 s.2.1 s.2.2) ?_ N (l.length+9*g.Ye.length) ([],[],l) ?_ (by omega)
 ·exact this
 ·rintro m ⟨t,d,lL⟩ ⟨rfl,D,hi⟩;dsimp only at D hi ⊢;have hol:=hi.len;rcases List.eq_nil_or_concat lL with rfl|⟨i,n,rfl⟩
  ·right;intro n;simp only[Qs,aP,show decide (((0:Nat):Int)>(0:Int))=false from rfl,cF,ZdH,Zci];rw[show decide ((d.length:Int)<=(4611686018427387903:Int))=true by simp;omega,cT,bS];refine⟨_,rfl,⟨?_,fun k=>?_⟩⟩
   ·have h1:=Zgq d;have H:(Qe d).Nodup:=(Zgp d).nodup_iff.2 hi.n;exact (h1.and H).imp fun h=>by have⟨a,b⟩:=h;omega
   ·rw[(Zgp d).mem_iff];constructor
    ·intro f;exact (hi.v k (.inl f)).2
    ·rintro⟨x,G,P⟩;induction P with
     |refl=>exact (hi.l _ G).resolve_right (by simp)
     |step h O C ih=>exact (hi.c _ ih _ O _ C).resolve_right (by simp)
  ·left;simp only[List.concat_eq_append]at D hi ⊢;obtain⟨⟨nd,u⟩,x,G,P⟩:=hi.v n (.inr (by simp));have z:nd∈g.Ye:=by have⟨j,_,Z⟩:=Ud u;exact Zb Z
   have hle:=L.le nd z;have el:(((i++[n]).length:Nat):Int)=((i.length+1:Nat):Int):=by simp
   have T:Yh ((((i++[n]).length:Nat):Int)-1)=((i.length:Nat):Int):=by
    have:(((i++[n]).length:Nat):Int)-1=((i.length:Nat):Int):=by simp
    rw[this,We (by omega) (by simp at D;omega)]
   have U:(i++[n])[i.length]?=some n:=by rw[Zp (Zq _),br];rfl
   have V:lsl (i++[n]) none (some ((i.length:Nat):Int))=some i:=Ho rfl rfl;have W:decide ((((i++[n]).length:Nat):Int)>(0:Int))=true:=by rw[el,l8];omega
   cases K:(YR t n).getD false with
   |true=>
    have w:=(hi.s n).1 K;refine⟨i.length+9*(g.Ye.length-d.length),(t,d,i),by simp,⟨rfl,by simp at D;omega,⟨hi.s,hi.n,fun k f=>hi.v k (f.imp id fun h=>by simp[h]),fun y M=>?_,fun k f A o c C=>?_⟩⟩,fun q=>?_⟩
    ·rcases hi.l y M with h|h
     ·exact .inl h
     ·rcases aS.1 h with h|h
      ·exact .inr h
      ·rw[aC.1 h];exact .inl w
    ·rcases hi.c k f A o c C with h|h
     ·exact .inl h
     ·rcases aS.1 h with h|h
      ·exact .inr h
      ·rw[aC.1 h];exact .inl w
    ·simp only[Qs,W,cT,T,YI,U,bS,V,K]
   |false=>
    have w:n ∉ d:=fun h=>by rw[(hi.s n).2 h]at K;cases K
    have I:ClI g.Ye l (Xf t n true) (d++[n]) (i++nd.Yb):=by
     refine⟨fun k=>?_,?_,fun k f=>?_,fun y M=>?_,fun k f A o c C=>?_⟩
     ·rw[Q3];cases S:ke.eq n k with
      |true=>
       have:=(ke.eq_iff _ _).1 S;rw[cT,<-this];simp
      |false=>
       have:¬ n=k:=fun e=>by rw[(ke.eq_iff _ _).2 e]at S;cases S
       rw[cF,hi.s,Zk,aC];constructor
       ·intro h;exact .inl h
       ·rintro (h|h)
        ·exact h
        ·exact absurd h.symm this
     ·rw[List.nodup_append];refine⟨hi.n,by simp,fun a Y b O=>?_⟩;rw[aC.1 O];intro e;exact w (e▸Y)
     ·rcases f with f|f
      ·rcases aS.1 f with h|h
       ·exact hi.v k (.inl h)
       ·rw[aC.1 h];exact hi.v n (.inr (by simp))
      ·rcases aS.1 f with h|h
       ·exact hi.v k (.inr (by simp[h]))
       ·have⟨R,g1,_⟩:=L.e nd z k h;exact⟨⟨R,g1⟩,x,G,.step P u h⟩
     ·rcases hi.l y M with h|h
      ·exact .inl (by simp[h])
      ·rcases aS.1 h with h|h
       ·exact .inr (by simp[h])
       ·exact .inl (by simp[aC.1 h])
     ·rcases aS.1 f with h|h
      ·rcases hi.c k h A o c C with H|H
       ·exact .inl (by simp[H])
       ·rcases aS.1 H with E|E
        ·exact .inr (by simp[E])
        ·exact .inl (by simp[aC.1 E])
      ·rw[aC.1 h,u]at o;cases o;exact .inr (by simp[C])
    have E:=I.len;rw[lA]at E;simp only[Zf,aP]at E;have e5:Y8 d [n]=some (d++[n]):=X6 (by simp;omega);have e6:Y8 i nd.Yb=some (i++nd.Yb):=X6 (by simp at D;omega);refine⟨(i++nd.Yb).length+9*(g.Ye.length-(d++[n]).length),(Xf t n true,d++[n],i++nd.Yb),by simp;omega,⟨rfl,by simp at D ⊢;omega,I⟩,fun q=>?_⟩;simp only[Qs,W,cT,T,YI,U,bS,V,K,cF,e5,u,e6]
 ·refine⟨by simp,by omega,⟨fun k=>by simp[YR],List.nodup_nil,fun k f=>?_,fun x G=>.inr G,fun k f=>by cases f⟩⟩;rcases f with f|f
  ·cases f
  ·exact⟨X k f,k,f,.refl k⟩
structure LvOk (X:List T9) (A:List T6) (T:List (List Int)) (g p:Int):Prop where
 s:A.Pairwise Wm
 l:T.length=A.length
 n:A.length<=X.length
 m:∀a,a∈A↔∃x∈X,x.Z8=a
 t:∀(i:Nat) a t,A[i]?=some a->T[i]?=some t->t.length<=X.length/\∀k,k∈t↔∃x∈X,x.Z8=a/\x.to'=k
 g0:0<=g/\g<=X.length/\(0<g↔∃x∈X,x.again'=true)
 p0:0<=p/\p<=X.length/\(0<p↔∃x∈X,x.again'=false)
theorem Zft{A:List α}{i:Nat}(x:α)(h:i<=A.length)(j:Nat):(W6 A i x)[j]?=if j<i then A[j]? else if j=i then some x else A[j-1]?:= by
 unfold W6;have c:(A.take i).length=i:=by rw[aL];omega
 by_cases a:j<i
 ·rw[mD a,aA,Zo (by omega),aj,mD a]
 ·rw[mE a];by_cases b:j=i
  ·rw[mD b,aA,Zp (by omega),c,b,br];rfl
  ·rw[mE b,aA,Zp (by omega),c,Zp (by simp;omega),bO];congr 1;simp;omega
theorem Zbk{A:List α}{i:Nat}(x:α)(h:i<=A.length):(W6 A i x).length=A.length+1:=by unfold W6;simp;omega
theorem ZqG{A:List α}{i:Nat}(x y:α):y∈W6 A i x↔y∈A\/y=x:=by
 unfold W6;have:=List.take_append_drop i A;rw[Zk,Zk,aC];constructor
 ·rintro ((h|h)|h)
  ·exact .inl (List.mem_of_mem_take h)
  ·exact .inr h
  ·exact .inl (List.mem_of_mem_drop h)
 ·rintro (h|h)
  ·rw[<-this,Zk]at h;rcases h with h|h
   ·exact .inl (.inl h)
   ·exact .inr h
  ·exact .inl (.inr h)
theorem ZuN{A:List α}{i:Nat}{a:α}(h:a∈A.take i):∃j,j<i/\A[j]?=some a:=by
 have⟨j,b⟩:=aZ.1 h;rw[aj]at b;split at b
 ·exact⟨j,by assumption,b⟩
 ·cases b
theorem Zjf{A:List α}{i:Nat}{a:α}(h:a∈A.drop i):∃j,i<=j/\A[j]?=some a:=by have⟨j,b⟩:=aZ.1 h;rw[bO]at b;exact⟨i+j,by omega,b⟩
theorem ZmF{n:Int}(a:0<=n)(b:n<=1000000):Yh (n+1)=n+1:=We (by omega) (by omega)
variable {T:List (List Int)}
theorem LvOk.put{X:List T9}{g p:Int}(h:LvOk X A T g p)(hX:X.length<=1000000)(x:T9){i:Nat}{b:Bool}(w:Zek A x.Z8 ((i:Int),b)) :
  ∃t,(bif b then T else W6 T i [])[i]?=some t/\t.length<=X.length/\i<=A.length /\
   LvOk (X++[x]) (bif b then A else W6 A i x.Z8) ((bif b then T else W6 T i []).set i (t++[x.to'])) (bif x.again' then Yh (g+(1:Int)) else g) (bif x.again' then p else Yh (p+(1:Int))):=by
 have⟨S,U,hi,O,h2,E⟩:=w.p;have U:(i:Int)=(S:Int):=U;obtain rfl:i=S:=by omega
 have⟨V,g2,W⟩:=h.g0;have⟨Y,p2,Z⟩:=h.p0;have hg:0<=(bif x.again' then Yh (g+(1:Int)) else g)/\(bif x.again' then Yh (g+(1:Int)) else g)<=((X++[x]).length:Int)/\(0<(bif x.again' then Yh (g+(1:Int)) else g)↔∃y∈X++[x],y.again'=true):=by
  cases M:x.again' with
  |true=>
   rw[cT,ZmF V (by omega)];exact⟨by omega,by simp;omega,fun _=>⟨x,by simp,M⟩,fun _=>by omega⟩
  |false=>
   rw[cF];refine⟨V,by simp;omega,fun h=>?_,fun⟨y,c,f⟩=>?_⟩
   ·have⟨y,c,f⟩:=W.1 h;exact⟨y,by simp[c],f⟩
   ·rcases aS.1 c with c|c
    ·exact W.2 ⟨y,c,f⟩
    ·rw[aC.1 c,M]at f;cases f
 have hp:0<=(bif x.again' then p else Yh (p+(1:Int)))/\(bif x.again' then p else Yh (p+(1:Int)))<=((X++[x]).length:Int)/\(0<(bif x.again' then p else Yh (p+(1:Int)))↔∃y∈X++[x],y.again'=false):=by
  cases M:x.again' with
  |false=>
   rw[cF,ZmF Y (by omega)];exact⟨by omega,by simp;omega,fun _=>⟨x,by simp,M⟩,fun _=>by omega⟩
  |true=>
   rw[cT];refine⟨Y,by simp;omega,fun h=>?_,fun⟨y,c,f⟩=>?_⟩
   ·have⟨y,c,f⟩:=Z.1 h;exact⟨y,by simp[c],f⟩
   ·rcases aS.1 c with c|c
    ·exact Z.2 ⟨y,c,f⟩
    ·rw[aC.1 c,M]at f;cases f
 cases b with
 |true=>
  have G:=h2 rfl;have D:=YB G;have hT:=Za (show i<T.length by rw[h.l];exact D);have⟨t1,t2⟩:=h.t i _ _ G hT;refine⟨T[i]'(by rw[h.l];exact D),hT,t1,hi,⟨h.s,by rw[cT,bz];exact h.l,by rw[cT];have:=h.n;simp;omega,fun a=>?_,fun j a t d o=>?_,hg,hp⟩⟩
  ·rw[cT,h.m];constructor
   ·rintro⟨y,c,e⟩;exact⟨y,by simp[c],e⟩
   ·rintro⟨y,c,e⟩;rcases aS.1 c with c|c
    ·exact⟨y,c,e⟩
    ·rw[aC.1 c]at e;exact (h.m a).1 (by rw[<-e];exact Zb G)
  ·rw[cT]at d o;rw[bB]at o;by_cases u:i=j
   ·subst u;rw[G]at d;cases d;rw[mD rfl,mD (by rw[h.l];exact D)]at o;cases o;refine⟨by simp;omega,fun k=>?_⟩;rw[Zk,t2,aC];constructor
    ·rintro (⟨y,c,e⟩|e)
     ·exact⟨y,by simp[c],e⟩
     ·exact⟨x,by simp,rfl,e.symm⟩
    ·rintro⟨y,c,r,v⟩;rcases aS.1 c with c|c
     ·exact .inl ⟨y,c,r,v⟩
     ·rw[aC.1 c]at v;exact .inr v.symm
   ·rw[mE u]at o;have⟨N,H⟩:=h.t j a t d o;refine⟨by simp;omega,fun k=>?_⟩;rw[H];constructor
    ·rintro⟨y,c,e⟩;exact⟨y,by simp[c],e⟩
    ·rintro⟨y,c,r,v⟩;rcases aS.1 c with c|c
     ·exact⟨y,c,r,v⟩
     ·exfalso;rw[aC.1 c]at r;rw[<-r]at d;rcases ay i j with F|F
      ·exact UX (R9 h.s F G d)
      ·exact UX (R9 h.s (show j<i by omega) d G)
 |false=>
  have E:=E rfl;have R:∀y∈X,y.Z8≠x.Z8:=fun y c e=>by
   have:=(h.m x.Z8).2 ⟨y,c,e⟩;have⟨j,hj⟩:=aZ.1 this;rcases ay j i with F|F
   ·exact UX (O j _ F hj)
   ·exact UX (E j _ F hj)
  have z:i<=T.length:=by rw[h.l];exact hi
  have I:(W6 T i [])[i]?=some []:=by rw[Zft _ z,mE (by omega),mD rfl]
  refine⟨[],I,by simp,hi,⟨?_,by rw[cF,cF,bz,Zbk _ z,Zbk _ hi,h.l],by rw[cF,Zbk _ hi];have:=h.n;simp;omega,fun a=>?_,fun j a t d o=>?_,hg,hp⟩⟩
  ·rw[cF];unfold W6;rw[aA,fP];refine⟨h.s.sublist (List.take_sublist _ _),?_,fun a d b w=>?_⟩
   ·rw[fP];refine⟨List.pairwise_singleton _ _,h.s.sublist (List.drop_sublist _ _),fun a d b w=>?_⟩;rw[aC.1 d];have⟨j,N,H⟩:=Zjf w;exact E j b N H
   ·have⟨j,N,H⟩:=ZuN d;have K:=O j a N H;rcases aS.1 w with w|w
    ·rw[aC.1 w];exact K
    ·have⟨j',r1,r2⟩:=Zjf w;exact G7 K (E j' b r1 r2)
  ·rw[cF,ZqG,h.m];constructor
   ·rintro (⟨y,c,e⟩|e)
    ·exact⟨y,by simp[c],e⟩
    ·exact⟨x,by simp,e.symm⟩
   ·rintro⟨y,c,e⟩;rcases aS.1 c with c|c
    ·exact .inl ⟨y,c,e⟩
    ·rw[aC.1 c]at e;exact .inr e.symm
  ·rw[cF]at d o;have hlen:(W6 T i ([]:List Int)).length=T.length+1:=Zbk _ z;rw[bB]at o;rw[Zft _ hi]at d;by_cases u:i=j
   ·subst u;rw[mD rfl,mD (by omega)]at o;rw[mE (by omega),mD rfl]at d;cases d;cases o;refine⟨by simp,fun k=>?_⟩;constructor
    ·intro P;have P:k∈[x.to']:=P;rw[aC.1 P];exact⟨x,by simp,rfl,rfl⟩
    ·rintro⟨y,c,r,v⟩;rcases aS.1 c with c|c
     ·exact absurd r (R y c)
     ·rw[aC.1 c]at v;rw[<-v];simp
   ·rw[mE u,Zft _ z]at o;have C:t.length<=X.length/\∀k,k∈t↔∃y∈X,y.Z8=a/\y.to'=k:=by
     by_cases q:j<i
     ·rw[mD q]at d o;exact h.t j a t d o
     ·rw[mE q,mE (by omega)]at d o;exact h.t (j-1) a t d o
    have L:a≠x.Z8:=fun e=>by
     subst e;by_cases q:j<i
     ·rw[mD q]at d;exact UX (O j _ q d)
     ·rw[mE q,mE (by omega)]at d;exact UX (E (j-1) _ (by omega) d)
    refine⟨by have:=C.1;simp;omega,fun k=>?_⟩;rw[C.2];constructor
    ·rintro⟨y,c,e⟩;exact⟨y,by simp[c],e⟩
    ·rintro⟨y,c,r,v⟩;rcases aS.1 c with c|c
     ·exact⟨y,c,r,v⟩
     ·rw[aC.1 c]at r;exact absurd r.symm L
def VM(G:List YU)(set:List Int):List T9:=(set.map fun n=>((idx G n).map (·.Yc)).getD []).flatten
variable {x:T9}
theorem PH{b:List Int}:x∈VM G b↔∃n∈b,∃nd,idx G n=some nd/\x∈nd.Yc:=by
 unfold VM;rw[gU];constructor
 ·rintro⟨l,d,a⟩;obtain⟨n,c,rfl⟩:=aM.1 d;cases h:idx G n with
  |none=>rw[h]at a;cases a
  |some nd=>rw[h]at a;exact⟨n,c,nd,h,a⟩
 ·rintro⟨n,c,nd,h,a⟩;exact⟨_,aM.2 ⟨n,c,rfl⟩,by rw[h];exact a⟩
theorem ZrK(G:4194304<N)(b:List T9):∀(r:List T9) (n k:Nat) (X:List T9) (A:List T6) (T:List (List Int)) (g p:Int),b.drop k=r->r.length<n->LvOk X A T g p->X.length+r.length<=900000->k+r.length<=1000000 ->
  ∃q,R3 N b n (k:Int) A T g p=some q/\LvOk (X++r) q.1 q.2.1 q.2.2.1 q.2.2.2:=by
 intro r;induction r with
 |nil=>
  intro n k X A T g p h j hi v w;obtain⟨n,rfl⟩:=pS n (by simp at j;omega);exact⟨(A,T,g,p),by simp only[R3,YZ (XS h),cF],by rw[bh];exact hi⟩
 |cons x r F=>
  intro n k X A T g p h j hi v w;obtain⟨n,rfl⟩:=pS n (by simp at j;omega);have⟨a,c,d⟩:=XY h;simp only[Zf]at v w j;have E:=hi.n;obtain⟨⟨y,H⟩,e,o⟩:=Zoq (N:=N) x.Z8 hi.s (by omega) (by omega) (by omega);obtain⟨i,rfl⟩:∃i:Nat,y=(i:Int):=by have⟨i,z,_⟩:=o.p;exact⟨i,z⟩
  have⟨t,C,t2,t3,t4⟩:=hi.put (by omega) x o;have⟨q,D,u⟩:=F n (k+1) _ _ _ _ _ d (by omega) t4 (by simp;omega) (by omega);refine⟨q,?_,by rw[aA]at u;exact u⟩;have m:(decide (0<=(i:Int)) && aY i A.length && aY (A.length+1) lim && aF T.length A.length)=true:=by rw[Zc,Zc,Zc];exact⟨⟨⟨by simp,ai t3⟩,ai (by unfold lim;omega)⟩,by rw[hi.l];exact eu _⟩
  have f:Y8 t [x.to']=some (t++[x.to']):=X6 (by simp;omega);simp only[R3,YY a,cT,YI,c,bS,e,a8,m,C,f];rw[Xb (by omega)];exact D
theorem LvOk.nil:LvOk [] [] [] 0 0:=
 ⟨.nil,rfl,Zq _,fun a=>by simp,fun i a t h=>by simp at h,⟨by omega,by simp,by simp⟩,⟨by omega,by simp,by simp⟩⟩
theorem ZrL(s:4194304<N)(b:List Int)(t:∀k∈b,∃nd,idx G k=some nd)(u:∀nd∈G,nd.Yc.length<=1)(E:b.length<=800000):∀(r:List Int) (n k:Nat) (X:List T9) (A:List T6) (T:List (List Int)) (g p:Int),b.drop k=r->r.length<n->LvOk X A T g p->X.length<=k ->
  ∃q,P6 N G b n (k:Int) A T g p=some q/\LvOk (X++VM G r) q.1 q.2.1 q.2.2.1 q.2.2.2:=by
 intro r;induction r with
 |nil=>
  intro n k X A T g p h l hi z;obtain⟨n,rfl⟩:=pS n (by simp at l;omega);exact⟨(A,T,g,p),by simp only[P6,YZ (XS h),cF],by rw[show VM G []=[] from rfl,bh];exact hi⟩
 |cons m r D=>
  intro n k X A T g p h l hi z;obtain⟨n,rfl⟩:=pS n (by simp at l;omega);have⟨a,c,d⟩:=XY h;have⟨nd,f⟩:=t m (Zb c);have i:nd∈G:=by have⟨j,_,v⟩:=Ud f;exact Zb v
  have C:=u nd i;obtain⟨q,e,w⟩:=ZrK s nd.Yc nd.Yc N 0 X A T g p rfl (by omega) hi (by omega) (by omega);have⟨x,y,o⟩:=D n (k+1) _ _ _ _ _ d (by simp at l;omega) w (by simp;omega);refine⟨x,?_,?_⟩
  ·have e:R3 N nd.Yc N (0:Int) A T g p=some q:=e;simp only[P6,YY a,cT,YI,c,bS,f,e];rw[Xb (by omega)];exact y
  ·have:VM G (m::r)=nd.Yc++VM G r:=by unfold VM;rw[aI,bq,f];rfl
   rw[this,<-aA];exact o
theorem Zku(b:4194304<N)(a:List Int)(c:∀k∈a,∃nd,idx G k=some nd)(d:∀nd∈G,nd.Yc.length<=1)(f:a.length<=800000) :
  ∃q,DA N G a=some q/\LvOk (VM G a) q.1 q.2.1 q.2.2.1 q.2.2.2:=by obtain⟨q,e,h⟩:=ZrL b a c d f a N 0 [] [] [] 0 0 rfl (by omega) .nil (by simp);exact⟨q,e,by simpa using h⟩
theorem QV{xs:List α}{n:Int}{x:α}(h:idx xs n=some x)(e:α):idx (YE xs n e) n=some e:=by obtain⟨j,rfl,a⟩:=Ud h;have:=YB a;rw[YI,Vm,bB,mD rfl,mD this]
theorem set_set(xs:List α)(n:Int)(e a:α):YE (YE xs n e) n a=YE xs n a:=by unfold YE;simp
def QG(en ag:Bool)(q:Int)(A:List T6):Bool:=(en && decide (0<A.length)) || ((ag && (decide (q>0) || decide (1<A.length))) || (match A.head?,A.getLast? with|some a,some b=>a.ZB != b.ZB|_,_=>false))
def X7(S:List Int)(en ag:Bool)(tk:Int)(ot:T6)(A:List T6):YX:=⟨S,en,ag,tk,ot,A,none⟩
abbrev WG:T6:=⟨(0:Int),(0:Int),(0:Int)⟩
variable {S:List Int}
theorem ZoS{g:X5}{l:List YX}{i:Int}{m q c:Int}(d:idx l i=some (WB S))(e:DA N g.Ye S=some (A,T,m,q))(j:idx S (0:Int)=some c)(k:A.length<=1000000) :
  Lj N g l i=bif QG (c==0) (decide (m>0)) q A then some (T,false,YE l i (X7 S (c==0) (decide (m>0)) 0 WG A))
   else Th N g i (A,T,m,q) (X7 S (c==0) (decide (m>0)) 0 WG A) N (YE l i (X7 S (c==0) (decide (m>0)) 0 WG A)) (0:Int):=by
 have n:∀b,Vy N g l i (WB S) (A,T,m,q) c ⟨S,false,false,0,WG,A,none⟩ ⟨S,false,decide (m>0),0,WG,A,none⟩ b=bif b then some (T,false,YE l i (X7 S (c==0) (decide (m>0)) 0 WG A))
   else Th N g i (A,T,m,q) (X7 S (c==0) (decide (m>0)) 0 WG A) N (YE l i (X7 S (c==0) (decide (m>0)) 0 WG A)) (0:Int):=by intro b;unfold Vy;dsimp only[WB];rw[set_set,set_set,QV d,bS];rfl
 unfold Lj G3;rw[d,bS];dsimp only[WB];rw[e,bS,j,bS];dsimp only;rw[QV d,bS];dsimp only;rw[set_set,QV d,bS];dsimp only;rw[set_set,QV d,bS];dsimp only;have h:∀b,Vy N g l i { set':=S,end':=false,again':=false,ticks':=0,other':=⟨0,0,0⟩,acts':=[],to':=none } (A,T,m,q) c ⟨S,false,false,0,WG,A,none⟩ ⟨S,false,decide (m>0),0,WG,A,none⟩ b=_:=n;simp only[h];generalize Th N g i (A,T,m,q) (X7 S (c==0) (decide (m>0)) 0 WG A) N (YE l i (X7 S (c==0) (decide (m>0)) 0 WG A)) (0:Int)=R;unfold QG;cases A with
 |nil=>
  simp only[aP,List.head?_nil,Bool.or_false,show decide (0<0)=false from rfl,show decide (1<0)=false from rfl,show decide (((0:Nat):Int)>(0:Int))=false from rfl,show decide (((0:Nat):Int)>(1:Int))=false from rfl,Bool.and_false,Bool.false_or];cases (c==0)<;>cases decide (m>0)<;>cases decide (q>0)<;>rfl
 |cons a A=>
  have o:decide ((((a::A).length:Nat):Int)>(0:Int))=true:=by rw[l8,Zf];omega
  have r:decide ((((a::A).length:Nat):Int)>(1:Int))=decide (1<(a::A).length):=by rw[decide_eq_decide];omega
  have s:decide (0<(a::A).length)=true:=by simp
  have i0:idx (a::A) (0:Int)=some a:=rfl;obtain⟨b,f⟩:∃b,(a::A).getLast?=some b:=by rw[ga (List.cons_ne_nil a A)];exact⟨_,rfl⟩
  have t:idx (a::A) (Yh ((((a::A).length:Nat):Int)-1))=some b:=by
   have:(((a::A).length:Nat):Int)-1=((A.length:Nat):Int):=by rw[Zf];omega
   rw[this,We (by omega) (by simp at k;omega),YI];rw[iO]at f;simpa using f
  simp only[o,r,s,i0,t,List.head?_cons,f,bS,cT,Bool.and_true];cases (c==0)<;>cases decide (m>0)<;>cases decide (q>0)<;>cases decide (1<(a::A).length)<;>rfl
def Tm(G:List YU)(c:V7)(tk:Int)(ot:T6):Prop:=
 tk=c.ticks'/\∃s,SI G [c.Ya] s/\(∃T g q,LvOk (VM G s) [ot] T g q)/\∀k,s[0]?=some k->k≠0
structure ChI (G:List YU) (A:List T6) (cs:List V7) (tk:Int) (ot:T6):Prop where
 r:∀c∈cs,∃a,A[0]?=some a/\a.ZB=c.Z9
 t:∀c∈cs,c.ticks'≠0->Tm G c tk ot
 z:(∀c∈cs,c.ticks'=0)->tk=0/\ot=WG
 b:0<=tk/\tk<=1000
theorem ChI.nil(G:List YU)(A:List T6):ChI G A [] 0 WG:=⟨fun c h=>(by cases h),fun c h=>(by cases h),fun _=>⟨rfl,rfl⟩,by omega⟩
def Uu(G:List YU)(set:List Int):List V7:=(set.map fun n=>((idx G n).map (·.Yd)).getD []).flatten
theorem ZoO{b:List Int}{x:V7}:x∈Uu G b↔∃n∈b,∃nd,idx G n=some nd/\x∈nd.Yd:=by
 unfold Uu;rw[gU];constructor
 ·rintro⟨l,d,a⟩;obtain⟨n,c,rfl⟩:=aM.1 d;cases h:idx G n with
  |none=>rw[h]at a;cases a
  |some nd=>rw[h]at a;exact⟨n,c,nd,h,a⟩
 ·rintro⟨n,c,nd,h,a⟩;exact⟨_,aM.2 ⟨n,c,rfl⟩,by rw[h];exact a⟩
structure GX (G:List YU) (l:List YX) (i:Int) (S:List Int) (en ag:Bool) (A:List T6) (T:List (List Int)) (cs:List V7) (r:(List (List Int))×Bool×(List YX)):Prop where
 e:∃tk ot,r.1=T/\r.2.2=YE l i (X7 S en ag tk ot A)/\(r.2.1=true->ChI G A cs tk ot)
theorem ZhU(a b:T6):((a.ZB==b.ZB) && ((a.To==b.To) && ((a.ZP==b.ZP) && true)))=true↔a=b:=by
 rw[Bool.and_true,Zc,Zc,lk,lk,lk];constructor
 ·rintro⟨c,d,e⟩;exact PF c d e
 ·rintro rfl;exact⟨rfl,rfl,rfl⟩
theorem ZpL{p:Yl}(c:Vf p G){a b:Int}(h:ER G a b)(d:∃nd,idx G a=some nd):∃nd,idx G b=some nd:=by
 cases h with
 |refl=>exact d
 |step h g i=>
  have⟨j,_,f⟩:=Ud g;have⟨nd,h,_⟩:=c.e _ (Zb f) _ i;exact⟨nd,h⟩
theorem ZeL{p:Yl}(a:Vf p G){l s:List Int}(h:SI G l s)(b:∀k∈l,∃nd,idx G k=some nd):∀k∈s,∃nd,idx G k=some nd:=fun k c=>by have⟨x,d,e⟩:=(h.m k).1 c;exact ZpL a e (b x d)
theorem Zti{l:List Int}(h:l.Pairwise (· < ·)):l.Nodup:=h.imp fun h=>by omega
theorem Zik{p:Yl}(a:Vf p G){l s:List Int}(h:SI G l s)(b:∀k∈l,∃nd,idx G k=some nd):s.length<=G.length:=
 R6 _ _ (Zti h.s) fun k c=>by have⟨nd,d⟩:=ZeL a h b k c;have⟨j,e,f⟩:=Ud d;have:=YB f;omega
theorem Zrm(hN:4194304<N){p:Yl}{g:X5}(L:Vf p g.Ye){l:List YX}{i:Int}{x0:YX}(hx:idx l i=some x0){en ag:Bool}{m q v:Int}
  {agf:List YX->Int->Option ((List (List Int))×Bool×(List YX))} {nd:YU} (O:nd∈g.Ye) (cs all:List V7)
  (hag:∀f u,ChI g.Ye A (cs++nd.Yd) f u->∃r,agf (YE l i (X7 S en ag f u A)) (Yh (v+(1:Int)))=some r/\GX g.Ye l i S en ag A T all r) :
  ∀(r:List V7) (n k:Nat) (f:Int) (u:T6),nd.Yd.drop k=r->k+r.length=nd.Yd.length->r.length<n->ChI g.Ye A (cs++nd.Yd.take k) f u ->
   ∃z,Ru N g i (A,T,m,q) v agf nd n (YE l i (X7 S en ag f u A)) (k:Int)=some z/\GX g.Ye l i S en ag A T all z:=by
 have hlc:=L.lc nd O;intro r;induction r with
 |nil=>
  intro n k f u h X hn hi;obtain⟨n,rfl⟩:=pS n (by simp at hn;omega);have Z:=XS h;rw[ba Z]at hi;have⟨z,e,F⟩:=hag f u hi;refine⟨z,?_,F⟩;simp only[Ru,YZ Z,cF,ZdJ];exact e
 |cons c r ih=>
  intro n k f u h X hn hi;obtain⟨n,rfl⟩:=pS n (by simp at hn;omega);have⟨a,hc,d⟩:=XY h;have hcm:=Zb hc;have D:∀z:(List (List Int))×Bool×(List YX),z=(T,false,YE l i (X7 S en ag f u A))->GX g.Ye l i S en ag A T all z:=fun z F=>by subst F;exact⟨f,u,rfl,rfl,fun h=>by cases h⟩
  have htk:nd.Yd.take (k+1)=nd.Yd.take k++[c]:=by rw[dh,hc];rfl
  simp only[Ru,YY a,cT,YI,hc,bS,QV hx];rw[Xb (by omega)];cases A with
  |nil=>
   rw[show ((([]:List T6).length:Int)==(0:Int))=true from rfl,cT];exact⟨_,rfl,D _ rfl⟩
  |cons a0 A=>
   rw[show ((((a0::A).length:Nat):Int)==(0:Int))=false by rw[Zf];simp;omega,cF,show idx (a0::A) (0:Int)=some a0 from rfl,bS];cases hro:(a0.ZB != c.Z9) with
   |true=>rw[cT];exact⟨_,rfl,D _ rfl⟩
   |false=>
    have hro':a0.ZB=c.Z9:=by simpa using hro
    rw[cF];have⟨c1,c2,c3⟩:=L.c nd O c hcm;have I:∀G H,ChI g.Ye (a0::A) (cs++nd.Yd.take (k+1)) G H->∃z,Ru N g i (a0::A,T,m,q) v agf nd n (YE l i (X7 S en ag G H (a0::A))) ((k+1:Nat):Int)=some z/\GX g.Ye l i S en ag (a0::A) T all z:=fun G H hi'=>
     ih n (k+1) G H d (by simp at X;omega) (by simp at hn;omega) hi'
    rw[htk,<-aA]at I;have R:∀E∈(cs++nd.Yd.take k)++[c],∃a,(a0::A)[0]?=some a/\a.ZB=E.Z9:=fun E j=>by
     rcases aS.1 j with h|h
     ·exact hi.r E h
     ·rw[aC.1 h];exact⟨a0,rfl,hro'⟩
    cases ht0:(c.ticks'==(0:Int)) with
    |true=>
     rw[cT];have C:c.ticks'=0:=by simpa using ht0
     refine I f u ⟨R,fun E j w=>?_,fun F=>hi.z fun E j=>F E (List.mem_append_left _ j),hi.b⟩;rcases aS.1 j with h|h
     ·exact hi.t E h w
     ·rw[aC.1 h]at w;exact absurd C w
    |false=>
     rw[cF];have C:c.ticks'≠0:=by simpa using ht0
     have⟨P,ho,_⟩:=L.e nd O _ c1;have U:∀k∈([c.Ya]:List Int),∃nd,idx g.Ye k=some nd:=fun k X=>by rw[aC.1 X];exact⟨P,ho⟩
     have⟨s,es,hs⟩:=ZeM hN L [c.Ya] U (by simp);have hsl:=Zik L hs U;have hgl:=L.len;obtain⟨⟨A2,T2,m2,q2⟩,el,Y⟩:=Zku hN s (ZeL L hs U) L.la (by omega);rw[es,bS];unfold G3;rw[el,bS];dsimp only at Y ⊢;cases hA2:((A2.length:Int) != (1:Int)) with
     |true=>rw[cT];exact⟨_,rfl,D _ rfl⟩
     |false=>
      rw[cF];obtain⟨o,rfl⟩:∃o,A2=[o]:=List.length_eq_one_iff.1 (have h9:(A2.length:Int)=1:=(by simpa using hA2);by omega);have hse:c.Ya∈s:=(hs.m _).2 ⟨_,aC.2 rfl,.refl _⟩;obtain⟨M,sr,rfl⟩:∃M sr,s=M::sr:=by
       cases s with
       |nil=>cases hse
       |cons x y=>exact⟨x,y,rfl⟩
      rw[show idx (M::sr) (0:Int)=some M from rfl,bS,show idx [o] (0:Int)=some o from rfl];simp only[bS];cases hk0:(M==(0:Int)) with
      |true=>rw[cT];exact⟨_,rfl,D _ rfl⟩
      |false=>
       rw[cF];have hk0':M≠0:=by simpa using hk0
       have htm:Tm g.Ye c c.ticks' o:=⟨rfl,M::sr,hs,⟨T2,m2,q2,Y⟩,fun k X=>by have:M=k:=Zm X;rw[<-this];exact hk0'⟩
       rw[set_set,QV hx];simp only[bS];rw[set_set];cases K:decide ((X7 S en ag f u (a0::A)).ticks'>(0:Int)) with
       |true=>
        rw[cT];have K:f>0:=lj K;cases V:((X7 S en ag f u (a0::A)).ticks' != c.ticks') with
        |true=>rw[cT];exact⟨_,rfl,D _ rfl⟩
        |false=>
         rw[cF];have V:f=c.ticks':=by have:(f != c.ticks')=false:=V;simpa using this
         cases W:((X7 S en ag f u (a0::A)).other'.ZB==o.ZB && ((X7 S en ag f u (a0::A)).other'.To==o.To && ((X7 S en ag f u (a0::A)).other'.ZP==o.ZP && true))) with
         |false=>rw[cy,cT];exact⟨_,rfl,D _ rfl⟩
         |true=>
          rw[Zg,cF];have W:u=o:=(ZhU _ _).1 W;refine I c.ticks' o ⟨R,fun E j w=>?_,fun F=>absurd (F c (by simp)) C,by omega⟩;rcases aS.1 j with h|h
          ·have:=hi.t E h w;rw[V,W]at this;exact this
          ·rw[aC.1 h];exact htm
       |false=>
        rw[cF];have K:¬ f>0:=of_decide_eq_false K;refine I c.ticks' o ⟨R,fun E j w=>?_,fun F=>absurd (F c (by simp)) C,by omega⟩;rcases aS.1 j with h|h
        ·exfalso;have h1:=(hi.t E h w).1;have hb:=hi.b;omega
        ·rw[aC.1 h];exact htm
theorem Zrk(G:4194304<N){p:Yl}{g:X5}(E:Vf p g.Ye){l:List YX}{i:Int}{H:YX}(I:idx l i=some H){en ag:Bool}{m q:Int}(y:YX)(F:y.set'=S)
  (K:∀k∈S,∃nd,idx g.Ye k=some nd) (O:S.length<=1000000) :
  ∀(r:List Int) (n k:Nat) (c:Int) (e:T6),S.drop k=r->r.length<n->ChI g.Ye A (Uu g.Ye (S.take k)) c e ->
   ∃z,Th N g i (A,T,m,q) y n (YE l i (X7 S en ag c e A)) (k:Int)=some z/\GX g.Ye l i S en ag A T (Uu g.Ye S) z:=by
 intro r;induction r with
 |nil=>
  intro n k c e h t hi;obtain⟨n,rfl⟩:=pS n (by simp at t;omega);have o:=XS h;rw[ba o]at hi;refine⟨(T,true,YE l i (X7 S en ag c e A)),?_,⟨c,e,rfl,rfl,fun _=>hi⟩⟩;simp only[Th,F,YZ o,cF,ZdI]
 |cons s r M=>
  intro n k c e h t hi;obtain⟨n,rfl⟩:=pS n (by simp at t;omega);have⟨a,C,d⟩:=XY h;have⟨nd,f⟩:=K s (Zb C);have b:nd∈g.Ye:=by have⟨j,_,L⟩:=Ud f;exact Zb L
  have D:Uu g.Ye (S.take (k+1))=Uu g.Ye (S.take k)++nd.Yd:=by rw[dh,C];unfold Uu;simp[f]
  simp only[Th,F,YY a,cT,YI,C,bS,f];have:=Zrm G E I (S:=S) (en:=en) (ag:=ag) (A:=A) (T:=T) (m:=m) (q:=q) (v:=(k:Int)) (agf:=Th N g i (A,T,m,q) y n) b (Uu g.Ye (S.take k)) (Uu g.Ye S) (fun u w x=>by rw[Xb (by omega)];exact M n (k+1) u w d (by simp at t;omega) (by rw[D];exact x)) nd.Yd N 0 c e rfl (by omega) (by have:=E.lc nd b;omega) (by simpa using hi)
  exact this
def W9(r:Int):List Int:=if r<=127 then [r] else if r<=2047 then [192+r/64,128+r%64] else [224+r/4096,128+r/64%64,128+r%64]
theorem ZmH{n:Int}(a:0<=n)(b:n<4294967296):wk .u32 n=n:=by show IntKind.u32.wrap _=_;simp[fx,eV,fS];omega
theorem ZgD{n:Int}(a:0<=n)(b:n<2147483648):wk .i32 n=n:=by show kZ.wrap _=_;simp[fx,eV,fS];omega
theorem Mp{n:Int}(a:0<=n):wk .u8 n=n%256:=by show IntKind.u8.wrap _=_;simp[fx,eV,fS]
theorem Zgl{n:Int}(a:0<=n)(k:Nat)(b:k<=31):XO .shr .i32 n (k:Int)=some (n/2 ^ k):=by
 have h:decide ((k:Int)<0)=false:=by simp
 show (bif decide ((k:Int)<0) then none else some (n.fdiv (2 ^ (min (k:Int).toNat kZ.bits))))=_;rw[h,cF,a8,show min k kZ.bits=k from Nat.min_eq_left (by show k<=32;omega)];rw[Int.fdiv_eq_ediv_of_nonneg _ (by exact Int.le_of_lt (Int.pow_pos (by decide)))]
theorem Zs6:(cO 64).all (fun x=>(XO .or .u8 (128:Int) (x:Int)==some (128+(x:Int))) && ((decide (32<=x) || XO .or .u8 (192:Int) (x:Int)==some (192+(x:Int))) && (decide (16<=x) || XO .or .u8 (224:Int) (x:Int)==some (224+(x:Int)))))=true:=by kernel_rfl
theorem Zn2:(cO 256).all (fun x=>XO .and .u8 (x:Int) (63:Int)==some ((x:Int)%64))=true:=by kernel_rfl
theorem DJ{n:Int}(d:0<=n)(e:n<64):XO .or .u8 (128:Int) n=some (128+n)/\(n<32->XO .or .u8 (192:Int) n=some (192+n))/\(n<16->XO .or .u8 (224:Int) n=some (224+n)):=by obtain⟨k,rfl⟩:=dE d;have:=aH.1 Zs6 k (cB.2 (by omega));simp only[Zc,Bool.or_eq_true,lk,l8]at this;have⟨a,b,c⟩:=this;exact⟨a,fun h=>b.resolve_left (by omega),fun h=>c.resolve_left (by omega)⟩
theorem Zey{n:Int}(a:0<=n)(b:n<256):XO .and .u8 n (63:Int)=some (n%64):=by obtain⟨k,rfl⟩:=dE a;have:=aH.1 Zn2 k (cB.2 (by omega));simpa using this
theorem Zgf{r:Int}(a:0<=r)(b:r<55296):((W9 r).all fun c=>decide (0<=c) && decide (c<256))=true:=by
 unfold W9;split
 ·simp;omega
 ·split
  ·simp;omega
  ·simp;omega
theorem ZeB{p:be}{l:List Int}(h:(l.all fun c=>decide (0<=c) && decide (c<256))=true)(a:p.size+l.length<=4294967296):Sa p l=some (p++TC l):=by
 unfold Sa RB;have:(TC l).size=l.length:=by unfold TC;simp[ByteArray.size]
 rw[h,cT,this,show aY (p.size+l.length) lim=true from ai a];rfl
theorem Zh1{r:Int}(a:0<=r)(e:r<55296)(p:be)(f:p.size<=1000000):Ge N p r=some (p++TC (W9 r)):=by
 have b:=Zgf a e;unfold Ge;rw[ZmH a (by omega)];by_cases c:r<=127
 ·rw[dT c,cT,Mp a,iS a (by omega)];unfold W9 at b ⊢;rw[mD c]at b ⊢;rw[ZeB b (by simp;omega)];rfl
 ·rw[dF c,cF];unfold Zc6;rw[ZmH a (by omega)];by_cases d:r<=2047
  ·rw[dT d,cT,show (6:Int)=((6:Nat):Int) from rfl,Zgl a 6 (by omega),bS,show (2:Int) ^ 6=64 from rfl,Mp (by omega),iS (by omega) (by omega),(DJ (by omega) (by omega)).2.1 (by omega),bS,
    Mp a,Zey (by omega) (by omega),bS,show r%256%64=r%64 by omega,(DJ (by omega) (by omega)).1,bS]
   unfold W9 at b ⊢;rw[mE c,mD d]at b ⊢;rw[ZeB b (by simp;omega)];rfl
  ·rw[dF d,cF,dT e,cT];unfold Gi;rw[cT,show (12:Int)=((12:Nat):Int) from rfl,Zgl a 12 (by omega),bS,show (2:Int) ^ 12=4096 from rfl,Mp (by omega),iS (by omega) (by omega),(DJ (by omega) (by omega)).2.2 (by omega),bS,
    show (6:Int)=((6:Nat):Int) from rfl,Zgl a 6 (by omega),bS,show (2:Int) ^ 6=64 from rfl,Mp (by omega),Zey (by omega) (by omega),bS,show r/64%256%64=r/64%64 by omega,(DJ (by omega) (by omega)).1,bS,
    Mp a,Zey (by omega) (by omega),bS,show r%256%64=r%64 by omega,(DJ (by omega) (by omega)).1,bS]
   unfold W9 at b ⊢;rw[mE c,mE d]at b ⊢;rw[ZeB b (by simp;omega)];rfl
def Xd(l:List Int):List Int:=(l.map W9).flatten
theorem Zt2{a b:Int}(j:0<=a)(d:a<55296)(k:0<=b)(e:b<55296){x y:List Int}(h:W9 a++x=W9 b++y):a=b/\x=y:=by
 unfold W9 at h;split at h
 ·split at h
  ·simp only[bJ,ah,bH]at h;exact h
  ·split at h
   ·simp only[bJ,ah,bH]at h;omega
   ·simp only[bJ,ah,bH]at h;omega
 ·split at h
  ·split at h
   ·simp only[bJ,ah,bH]at h;omega
   ·split at h
    ·simp only[bJ,ah,bH]at h;have⟨f,g,c⟩:=h;exact⟨by omega,c⟩
    ·simp only[bJ,ah,bH]at h;omega
  ·split at h
   ·simp only[bJ,ah,bH]at h;omega
   ·split at h
    ·simp only[bJ,ah,bH]at h;omega
    ·simp only[bJ,ah,bH]at h;have⟨f,g,c,i⟩:=h;exact⟨by omega,i⟩
theorem Zgg(a:Int):W9 a≠[]:=by
 unfold W9;split
 ·simp
 ·split<;>simp
theorem Zfd:∀ {l m:List Int},(∀x∈l,0<=x/\x<55296)->(∀x∈m,0<=x/\x<55296)->Xd l=Xd m->l=m
 | [],[],_,_,_=>rfl
 | [],b::m,_,_,h=>by
  unfold Xd at h;simp only[au,List.flatten_nil,aI,bq]at h;exact absurd (jo.1 h.symm).1 (Zgg b)
 |a::l,[],_,_,h=>by
  unfold Xd at h;simp only[au,List.flatten_nil,aI,bq]at h;exact absurd (jo.1 h).1 (Zgg a)
 |a::l,b::m,hl,hm,h=>by unfold Xd at h;simp only[aI,bq]at h;have⟨a1,a2⟩:=hl a (by simp);have⟨d,f⟩:=hm b (by simp);have⟨e,g⟩:=Zt2 a1 a2 d f h;rw[e,Zfd (fun x c=>hl x (by simp[c])) (fun x c=>hm x (by simp[c])) g]
theorem Zfc(l m:List Int):Xd (l++m)=Xd l++Xd m:=by unfold Xd;simp
theorem ZpB{l:List Int}:(Xd l).length<=3*l.length:=by
 induction l with
 |nil=>simp[Xd]
 |cons a l b=>
  have:(W9 a).length<=3:=by unfold W9;split<;>(try split)<;>simp
  unfold Xd at *;rw[aI,bq,lA,Zf];omega
theorem Zia{a b:be}(h:Y7 a=Y7 b):a=b:=by
 apply LP;unfold Y7 at h;unfold bs;generalize a.data.toList=x at h ⊢;generalize b.data.toList=y at h ⊢;induction x generalizing y with
 |nil=>cases y with
  |nil=>rfl
  |cons=>simp at h
 |cons c x f=>cases y with
  |nil=>simp at h
  |cons d y=>
   simp only[aI,bH]at h;have e:c=d:=UInt8.toNat_inj.1 (by omega);rw[e,f y h.2]
theorem Zlp{p:be}{l:List Int}{r:Int}(h:Y7 p=Xd l)(a:0<=r)(b:r<55296):Y7 (p++TC (W9 r))=Xd (l++[r]):=by
 haveI:kv:=⟨False⟩
 rw[ZaE,h,ZeH (Zgf a b),Zfc];simp[Xd]
theorem ZbM{p:be}{l:List Int}(h:Y7 p=Xd l):p.size<=3*l.length:=by
 haveI:kv:=⟨False⟩
 have a:=Se p;rw[h]at a;have:=ZpB (l:=l);omega
theorem ZgF{r:Int}(a:0<=r)(b:r<55296){p:be}{l:List Int}(h:Y7 p=Xd l)(c:l.length<=300000) :
  ∃z,MC N (wk .i32 r) p=some z/\Y7 z.2.2=Xd (l++[r]):=by have:=ZbM h;unfold MC ZcY;rw[ZgD a (by omega),bS,Zh1 a b p (by omega),bS];exact⟨_,rfl,Zlp h a b⟩
theorem ZmN{r:Int}(a:0<=r)(b:r<55296):∃z,H5 N (wk .i32 r) ao=some z/\Y7 z.2.2=Xd [r]:=by unfold H5 ZcW;rw[ZgD a (by omega),bS,Zh1 a b ao (by decide),bS];refine⟨_,rfl,?_⟩;have:=Zlp (p:=ao) (l:=[]) rfl a b;exact this
theorem Zqd{p:be}(a:p.size≠0)(h:p.size<=4294967296):S2 p=some ():=by
 unfold S2;have b:aF p.size 0=false:=by
  cases c:aF p.size 0 with
  |false=>rfl
  |true=>exact absurd (Zd c) a
 rw[b,show aY p.size lim=true from ai h];rfl
theorem ZpC{l:List Int}(h:l≠[]):(Xd l).length≠0:=by
 cases l with
 |nil=>exact absurd rfl h
 |cons a l=>
  unfold Xd;rw[aI,bq,lA];have:=Zgg a;have:(W9 a).length≠0:=fun e=>this (List.length_eq_zero_iff.1 e);omega
theorem Zmp{p:be}{l:List Int}(h:Y7 p=Xd l)(a:l≠[])(c:l.length<=300000):GR N p=some p:=by
 have d:=ZbM h;haveI:kv:=⟨False⟩
 have b:=Se p;have e:=ZpC a;rw[h]at b;unfold GR;rw[Zqd (by omega) (by omega)];rfl
theorem S8(y:4194304<N)(l:List Int)(s:∀x∈l,0<=x/\x<55296)(t:l≠[])(u:l.length<=300000):∃g,Lh N l=some g/\Y7 g=Xd l:=by
 unfold Lh;obtain⟨a,r,rfl⟩:∃a r,l=a::r:=by
  cases l with
  |nil=>exact absurd rfl t
  |cons a r=>exact⟨a,r,rfl⟩
 have key:∀(b:List Int) (n k:Nat) (p:be),(a::r).drop k=b->0<k->b.length<n->Y7 p=Xd ((a::r).take k)->∃g,Li N (a::r) n p (k:Int)=some g/\Y7 g=Xd (a::r):=by
  intro b;induction b with
  |nil=>
   intro n k p h v i f;obtain⟨n,rfl⟩:=pS n (by simp at i;omega);rw[ba (XS h)]at f;simp only[Li,YZ (XS h),cF];rw[Zmp f t u];exact⟨p,rfl,f⟩
  |cons x b w=>
   intro n k p h v i f;obtain⟨n,rfl⟩:=pS n (by simp at i;omega);have⟨q,c,d⟩:=XY h;have⟨j,v2⟩:=s x (Zb c);have⟨z,e,m⟩:=ZgF (N:=N) j v2 f (by rw[aL];omega);simp only[Li,YY q,cT,YI,c,bS,e];rw[Xb (by omega)];refine w n (k+1) _ d (by omega) (by simp at i;omega) ?_;rw[m,dh,c];rfl
 have o:decide ((0:Int)<(((a::r).length:Nat):Int))=true:=by rw[l8,Zf];omega
 have⟨j,v2⟩:=s a (by simp);have⟨z,e,m⟩:=ZmN (N:=N) j v2;rw[o,cT,show idx (a::r) (0:Int)=some a from rfl,bS,e,bS,show Yh ((0:Int)+1)=((1:Nat):Int) from rfl];exact key r N 1 _ rfl (by omega) (by simp at u;omega) (by rw[m];rfl)
def GS(G:List YU)(S:List Int):Prop:=∃L,L≠[]/\(∀k∈L,∃nd,idx G k=some nd)/\SI G L S
theorem GS.ne(h:GS G S):S≠[]:=by
 have⟨L,b,_,c⟩:=h;intro e;cases L with
 |nil=>exact b rfl
 |cons a L=>
  have:=(c.m a).2 ⟨a,by simp,.refl a⟩;rw[e]at this;cases this
theorem GS.idx{p:Yl}(a:Vf p G)(h:GS G S):∀k∈S,∃nd,idx G k=some nd:=by have⟨L,_,b,c⟩:=h;exact ZeL a c b
theorem GS.len{p:Yl}(a:Vf p G)(h:GS G S):S.length<=5001:=by have⟨L,_,b,c⟩:=h;exact bV (Zik a c b) a.len
theorem GS.rng{p:Yl}(a:Vf p G)(h:GS G S):∀x∈S,0<=x/\x<55296:=fun x b=>by have⟨nd,c⟩:=h.idx a x b;have⟨j,e,d⟩:=Ud c;have:=YB d;have:=a.len;omega
theorem GS.key(c:4194304<N){p:Yl}(a:Vf p G)(h:GS G S):∃b,Lh N S=some b/\Y7 b=Xd S:=
 S8 c S (h.rng a) h.ne (by have:=h.len a;omega)
theorem ZaA(a:∀nd∈G,nd.Yc.length<=1):∀S:List Int,(VM G S).length<=S.length
  | []=>Zq _
  |n::S=>by
    have:=ZaA a S;unfold VM at *;rw[aI,bq,lA,Zf];have c:(((idx G n).map (·.Yc)).getD []).length<=1:=by
      cases h:idx G n with
      |none=>simp
      |some nd=>
        have⟨j,_,b⟩:=Ud h;exact a nd (Zb b)
    omega
def Zen(M:List (List Int))(kn:X4):Prop:=∀ks n,YR kn ks=some n->∃(j:Nat) (S:List Int),n=(j:Int)/\M[j]?=some S/\Y7 ks=Xd S
def G6(G:List YU)(M:List (List Int))(T:List (List Int))(D:List Int):Prop:=∀(k:Nat) t d,T[k]?=some t->D[k]?=some d->∃(q:Nat) (S:List Int),d=(q:Int)/\M[q]?=some S/\SI G t S
abbrev Wb(l:List YX):List (List Int):=l.map (·.set')
theorem Zue(hN:4194304<N){p:Yl}{g:X5}(R:Vf p g.Ye)(T:List (List Int))(hT:∀t∈T,t≠[]/\t.length<=1000000/\∀k∈t,∃nd,idx g.Ye k=some nd)(hTl:T.length<=1000000) :
  ∀(r:List (List Int)) (n k:Nat) (l:List YX) (m:X4) (D:List Int),T.drop k=r->r.length<n->D.length=k->k<=T.length->(∀S∈Wb l,GS g.Ye S)->Zen (Wb l) m->l.length+r.length<=2000000->G6 g.Ye (Wb l) T D ->
   ∃z,Ri N g T n (k:Int) l m D=some z/\(∀S∈Wb z.1,GS g.Ye S)/\Zen (Wb z.1) z.2.1/\z.2.2.length=T.length/\G6 g.Ye (Wb z.1) T z.2.2/\∃e,z.1=l++e/\e.length<=r.length/\∀s∈e,∃S,s=WB S:=by
 intro r;induction r with
 |nil=>
  intro n k l m D h V hD hk K L hl x;obtain⟨n,rfl⟩:=pS n (by simp at V;omega);have:=XS h;exact⟨(l,m,D),by simp only[Ri,YZ this,cF],K,L,by dsimp only;omega,x,[],by simp,by simp,fun s F=>by cases F⟩
 |cons t r ih=>
  intro n k l m D h V hD hk K L hl x;obtain⟨n,rfl⟩:=pS n (by simp at V;omega);have⟨a,c,d⟩:=XY h;have⟨t1,t2,t3⟩:=hT t (Zb c);have⟨b,e1,w⟩:=ZeM hN R t t3 t2;have A:GS g.Ye b:=⟨t,t1,t3,w⟩
  have⟨U,e2,I⟩:=A.key hN R;simp only[Zf]at hl V;have o:∀(M:List (List Int)) (dn:Int),(∀q:Nat,∀S,(Wb l)[q]?=some S->M[q]?=some S)->(∃(q:Nat) (S:List Int),dn=(q:Int)/\M[q]?=some S/\SI g.Ye t S)->G6 g.Ye M T (D++[dn]):=by
   intro M dn hM hd j t' d' y f;rcases ay j D.length with hj|hj
   ·rw[Zo hj]at f;have⟨q,S,W,X,Y⟩:=x j t' d' y f;exact⟨q,S,W,hM q S X,Y⟩
   ·rw[Zp hj]at f;obtain rfl:j=k:=by have:=YB f;simp at this;omega
    rw[hD,br]at f;cases f;rw[c]at y;cases y;exact hd
  have O:∀dn:Int,Y8 D [dn]=some (D++[dn]):=fun dn=>X6 (by simp;omega);simp only[Ri,YY a,cT,YI,c,bS,e1,e2];cases hm:YR m U with
  |some nv=>
   obtain⟨q,S,rfl,E,Z⟩:=L U nv hm;have hSS:S=b:=Zfd ((K S (Zb E)).rng R) (A.rng R) (by rw[<-Z,I]);rw[ff,cT,bX,O,bS,Xb (by omega)];have⟨z,f1,f2,f3,f4,f5,e,f6,f7,f8⟩:=ih n (k+1) l m (D++[(q:Int)]) d (by omega) (by simp;omega) (by omega) K L (by omega) (o _ _ (fun _ _ h=>h) ⟨q,S,rfl,E,by rw[hSS];exact w⟩);exact⟨z,f1,f2,f3,f4,f5,e,f6,by simp;omega,f8⟩
  |none=>
   have hap:Y8 l [WB b]=some (l++[WB b]):=X6 (by simp;omega);rw[er,cF,hap,bS,O,bS,Xb (by omega)];have C:Wb (l++[WB b])=Wb l++[b]:=by simp[Wb,WB]
   have P:(Wb l).length=l.length:=aN ..;have u:∀q:Nat,∀S,(Wb l)[q]?=some S->(Wb (l++[WB b]))[q]?=some S:=fun q S h=>by rw[C,Zo (YB h)];exact h
   have v:(Wb (l++[WB b]))[l.length]?=some b:=by rw[C,Zp (by omega),P,br];rfl
   have⟨z,f1,f2,f3,f4,f5,e,f6,f7,f8⟩:=ih n (k+1) (l++[WB b]) (Xf m U (l.length:Int)) (D++[(l.length:Int)]) d (by omega) (by simp;omega) (by omega) (fun S G=>by
    rw[C]at G;rcases aS.1 G with h1|h1
    ·exact K S h1
    ·rw[aC.1 h1];exact A) (fun H n' i=>by
    rw[Q3]at i;cases E:ke.eq U H with
    |true=>
     rw[E,cT]at i;cases i;have:=(ke.eq_iff _ _).1 E;exact⟨l.length,b,rfl,v,by rw[<-this];exact I⟩
    |false=>
     rw[E,cF]at i;have⟨j,S,W,X,Y⟩:=L H n' i;exact⟨j,S,W,u j S X,Y⟩) (by simp;omega) (o _ _ u ⟨l.length,b,rfl,v,w⟩)
   exact⟨z,f1,f2,f3,f4,f5,WB b::e,by rw[f6];simp,by simp;omega,fun s F=>by
    rcases aV.1 F with rfl|F
    ·exact⟨b,rfl⟩
    ·exact f8 s F⟩
structure StK (G:List YU) (M:List (List Int)) (set:List Int) (en ag:Bool) (tk:Int) (ot:T6) (acts:List T6) (to:List Int):Prop where
 lv:∃T g q,LvOk (VM G set) acts T g q/\ag=decide (g>0)/\QG en ag q acts=false/\to.length=acts.length/\G6 G M T to
 en:∃k0,set[0]?=some k0/\en=(k0==0)
 ch:ChI G acts (Uu G set) tk ot
theorem StK.mono{M c:List (List Int)}{b:List Int}{en ag:Bool}{e:Int}{f:T6}{a:List T6}{i:List Int}(h:StK G M b en ag e f a i)(hM:∀q:Nat,∀S,M[q]?=some S->c[q]?=some S):StK G c b en ag e f a i:=by
 have⟨T,g,q,m,n,o,r,s⟩:=h.lv;exact⟨⟨T,g,q,m,n,o,r,fun k t d j l=>by have⟨q,S,u,v,w⟩:=s k t d j l;exact⟨q,S,u,hM q S v,w⟩⟩,h.en,h.ch⟩
def StX(G:List YU)(M:List (List Int))(s:YX):Prop:=∃D,s.to'=some D/\StK G M s.set' s.end' s.again' s.ticks' s.other' s.acts' D
structure StsOk (G:List YU) (start:Int) (l:List YM):Prop where
  n:0<l.length/\l.length<=1000
  s:∀s∈l,GS G s.set'/\StK G (l.map (·.set')) s.set' s.end' s.again' s.ticks' s.other' s.acts' s.to'
  f:∃s,l[0]?=some s/\SI G [start] s.set'
structure ZnN (G:List YU) (start:Int) (i:Nat) (right:Bool) (l:List YX) (kn:X4):Prop where
 le:i<=l.length
 n:0<l.length/\l.length<=1000
 g:∀S∈Wb l,GS G S
 k:Zen (Wb l) kn
 u:∀(j:Nat) s,i<=j->l[j]?=some s->∃S,s=WB S
 r:right=true->∀(j:Nat) s,j<i->l[j]?=some s->StX G (Wb l) s
 f:∃S,(Wb l)[0]?=some S/\SI G [start] S
def ZhR(G:List YU)(start:Int)(r:List YM×Int):Prop:=(r.1=[]/\(r.2=6\/r.2=13))\/(r.2=0/\StsOk G start r.1)
theorem ZuR{p:Yl}(d:Vf p G)(v:GS G S){m q:Int}(b:LvOk (VM G S) A T m q):∀t∈T,t≠[]/\t.length<=1000000/\∀k∈t,∃nd,idx G k=some nd:=by
 intro t z;have⟨i,hi⟩:=aZ.1 z;have s:i<A.length:=by rw[<-b.l];exact YB hi
 have u:=Za s;have⟨E,t2⟩:=b.t i _ t u hi;have C:=ZaA d.la S;have D:=v.len d;refine⟨fun e=>?_,by omega,fun k w=>?_⟩
 ·have⟨x,f,g⟩:=(b.m _).1 (Zb u);have:=(t2 x.to').2 ⟨x,f,g,rfl⟩;rw[e]at this;cases this
 ·have⟨x,f,_,g⟩:=(t2 k).1 w;have⟨n,F,nd,o,r⟩:=PH.1 f;have⟨j,_,y⟩:=Ud o;have⟨_,h⟩:=d.a nd (Zb y) x r;rw[<-g];rcases h with⟨c,h,_⟩|⟨c,_,h,_⟩
  ·exact⟨c,h⟩
  ·exact⟨c,h⟩
theorem Zqw(l:List α):idx l (0:Int)=l[0]?:= YI l 0
theorem Zud(hN:4194304<N){p:Yl}{g:X5}(U:Vf p g.Ye)(I:Int):∀(n i:Nat) (right:Bool) (l:List YX) (kn:X4),ZnN g.Ye I i right l kn->1001-i<n ->
    ∃r,Mj N g n (i:Int) right l kn=some r/\ZhR g.Ye I r:=by
  intro n;induction n with
  |zero=>intro i right l kn _ h;omega
  |succ n ih=>
    intro i right l kn h hn;have hnl:=h.n;rcases ay i l.length with hi|hi
    · have V:=Za hi;have⟨S,hs⟩:=h.u i _ (Zq _) V;rw[hs]at V;have R:idx l (i:Int)=some (WB S):=by rw[YI];exact V
      have hMi:(Wb l)[i]?=some S:=by rw[aK,V];rfl
      have L:=h.g S (Zb hMi);have hsl:=L.len U;obtain⟨⟨A,T,m,q⟩,e1,K⟩:=Zku hN S (L.idx U) U.la (by omega);dsimp only at K;have hal:=ZaA U.la S;have hAn:=K.n;have hTn:=K.l;obtain⟨o,E,rfl⟩:∃o E,S=o::E:=by
        cases S with
        |nil=>exact absurd rfl L.ne
        |cons a b=>exact⟨a,b,rfl⟩
      have hck:=ZoS (N:=N) (i:=(i:Int)) R e1 (show idx (o::E) (0:Int)=some o from rfl) (by omega);have hcr:∃z,Lj N g l (i:Int)=some z/\∃G H,z.1=T/\z.2.2=YE l (i:Int) (X7 (o::E) (o==0) (decide (m>0)) G H A)/\(z.2.1=true->QG (o==0) (decide (m>0)) q A=false/\ChI g.Ye A (Uu g.Ye (o::E)) G H):=by
        rw[hck];cases hb:QG (o==0) (decide (m>0)) q A with
        |true=>exact⟨_,rfl,0,WG,rfl,rfl,fun h=>by cases h⟩
        |false=>
          rw[cF];obtain⟨z,f1,G,H,f2,f3,f4⟩:=Zrk hN U R (S:=o::E) (en:=(o==0)) (ag:=decide (m>0)) (A:=A) (T:=T) (m:=m) (q:=q) (X7 (o::E) (o==0) (decide (m>0)) 0 WG A) rfl (L.idx U) (by omega) (o::E) N 0 0 WG rfl (by omega) (.nil _ _);exact⟨z,f1,G,H,f2,f3,fun h=>⟨rfl,f4 h⟩⟩
      obtain⟨⟨z1,ok,z3⟩,e2,G,H,f1,f2,f3⟩:=hcr;dsimp only at f1 f2 f3;subst f1 f2;have M:Wb (YE l (i:Int) (X7 (o::E) (o==0) (decide (m>0)) G H A))=Wb l:=by
        rw[Vm];refine cw fun j=>?_;rw[aK,aK,bB];by_cases c:i=j
        · subst c;rw[mD rfl,mD hi,V];rfl
        · rw[mE c]
      have w:(YE l (i:Int) (X7 (o::E) (o==0) (decide (m>0)) G H A)).length=l.length:=by rw[Vm,bz]
      obtain⟨⟨F,kn2,D⟩,e3,g1,g2,g3,g4,e,g5,g6,g7⟩:=Zue hN U z1 (ZuR U L K) (by omega) z1 N 0 _ kn [] rfl (by omega) rfl (by omega) (by rw[M];exact h.g) (by rw[M];exact h.k) (by rw[w];omega) (fun k t d _ hd=>by cases hd);dsimp only at g1 g2 g3 g4 g5;have e3:Ri N g z1 N (0:Int) (YE l (i:Int) (X7 (o::E) (o==0) (decide (m>0)) G H A)) kn []=some (F,kn2,D):=e3;simp only[Mj,YY hi,cT,e2,bS,QV R];rw[show (X7 (o::E) (o==0) (decide (m>0)) G H A).to'.isSome=false from rfl,cF,e3,bS];dsimp only;by_cases hlim:F.length>1000
      · rw[show decide ((F.length:Int)>(1000:Int))=true by rw[l8];omega,cT];exact⟨_,rfl,.inl ⟨rfl,.inl rfl⟩⟩
      · rw[show decide ((F.length:Int)>(1000:Int))=false by rw[lg];omega,cF,Xb (by omega)];have hl2:F.length=l.length+e.length:=by rw[g5,lA,w]
        have Z:idx (YE l (i:Int) (X7 (o::E) (o==0) (decide (m>0)) G H A)) (i:Int)=some (X7 (o::E) (o==0) (decide (m>0)) G H A):=QV R _;have hx2:F[i]?=some (X7 (o::E) (o==0) (decide (m>0)) G H A):=by rw[YI]at Z;rw[g5,Zo (YB Z)];exact Z
        have hM2:Wb F=Wb l++Wb e:=by rw[g5,Wb,List.map_append];exact mG (·++_) M
        have W:∀q:Nat,∀S,(Wb l)[q]?=some S->(Wb F)[q]?=some S:=fun q S hq=>by rw[hM2,Zo (YB hq)];exact hq
        let y:=DX (X7 (o::E) (o==0) (decide (m>0)) G H A) D
        have C:Wb (YE F (i:Int) y)=Wb F:=by
          rw[Vm];refine cw fun j=>?_;rw[aK,aK,bB];by_cases c:i=j
          · subst c;rw[mD rfl,mD (by omega),hx2];rfl
          · rw[mE c]
        have O:∀j:Nat,(YE F (i:Int) y)[j]?=if i=j then some y else F[j]?:= fun j=>by
          rw[Vm,bB];by_cases c:i=j
          · rw[mD c,mD c,mD (by omega)]
          · rw[mE c,mE c]
        have P:∀j:Nat,i≠j->j<l.length->F[j]?=l[j]?:= fun j c hj=>by rw[g5,Zo (by rw[w];exact hj),Vm,bB,mE c]
        refine ih (i+1) (bif right then ok else false) (YE F (i:Int) y) kn2 ⟨by rw[Vm,bz];omega,by rw[Vm,bz];omega,by rw[C];exact g1,by rw[C];exact g2,fun j s hj v=>?_,fun hr j s hj v=>?_,?_⟩ (by omega)
        · rw[O,mE (by omega)]at v;rcases ay j l.length with Y|Y
          · rw[P j (by omega) Y]at v;exact h.u j s (by omega) v
          · rw[g5,Zp (by rw[w];exact Y)]at v;exact g7 s (Zb v)
        · have hrr:right=true/\ok=true:=by cases right<;>cases ok<;>simp_all
          rw[C];rw[O]at v;by_cases c:i=j
          · rw[mD c]at v;cases v;have⟨b1,b2⟩:=f3 hrr.2;exact⟨D,rfl,⟨⟨z1,m,q,K,rfl,b1,by rw[g3];exact hTn,g4⟩,⟨o,rfl,rfl⟩,b2⟩⟩
          · rw[mE c,P j c (by omega)]at v;have⟨D',d1,d2⟩:=h.r hrr.1 j s (by omega) v;exact⟨D',d1,d2.mono W⟩
        · have⟨S0,X,q2⟩:=h.f;exact⟨S0,by rw[C];exact W 0 S0 X,q2⟩
    · simp only[Mj,YZ hi,cF];cases right with
      |false=>exact⟨_,rfl,.inl ⟨rfl,.inr rfl⟩⟩
      |true=>
        refine⟨_,rfl,.inr ⟨rfl,?_⟩⟩;have hM:(l.map HS).map (·.set')=Wb l:=by rw[List.map_map];rfl
        refine⟨by rw[aN];exact hnl,fun s hs=>?_,?_⟩
        · obtain⟨x,V,rfl⟩:=aM.1 hs;have⟨j,hj⟩:=aZ.1 V;have hj':=YB hj;obtain⟨D,d1,d2⟩:=h.r rfl j x (by omega) hj;refine⟨h.g _ (aM.2 ⟨x,V,rfl⟩),?_⟩;show StK _ _ _ _ _ _ _ _ (x.to'.getD []);rw[hM,d1];exact d2
        · have⟨S,X,q2⟩:=h.f;rw[aK]at X;cases h0:l[0]? with
          |none=>rw[h0]at X;cases X
          |some x=>rw[h0]at X;cases X;exact⟨HS x,by rw[aK,h0];rfl,q2⟩
theorem ZuE(d:4194304<N){p:Yl}{g:X5}(e:Vf p g.Ye)(a:Int)(o:∃nd,idx g.Ye a=some nd):∃r,Zar N g a=some r/\ZhR g.Ye a r:=by
 have n:∀k∈([a]:List Int),∃nd,idx g.Ye k=some nd:=fun k q=>by rw[aC.1 q];exact o
 have⟨S,t,b⟩:=ZeM d e [a] n (by simp);have c:GS g.Ye S:=⟨[a],by simp,n,b⟩
 have⟨m,u,i⟩:=c.key d e;unfold Zar sgG;rw[t,bS,u,bS];refine Zud d e a N 0 true [WB S] (Xf [] m (0:Int)) ⟨by simp,by simp,fun v h=>by rw[aC.1 h];exact c,fun f w h=>?_,fun j s _ h=>?_,fun _ j s h=>by omega,S,rfl,b⟩ (by omega)
 ·rw[Q3]at h;cases l:ke.eq m f with
  |true=>
   rw[l,cT]at h;cases h;have:=(ke.eq_iff _ _).1 l;exact⟨0,S,rfl,rfl,by rw[<-this];exact i⟩
  |false=>rw[l,cF]at h;cases h
 ·have:=YB h;simp only[Zf,aP]at this;obtain rfl:j=0:=by omega
  cases h;exact⟨S,rfl⟩
theorem DD(z:α){n:Nat}(h:n<=4294967296):Vj z (n:Int) (n:Int)=some (aQ n z):=by unfold Vj;rw[dT (by omega:(0:Int)<=(n:Int)),dT (Int.le_refl (n:Int)),dT (by omega:(n:Int)<=4294967296)];simp
def Xz:List Bool->Nat
 | []=>0
 |b::l=>Xz l+(bif b then 1 else 0)
theorem ZeQ:∀l,Xz l<=l.length
 | []=>Zq _
 |b::l=>by have:=ZeQ l;cases b<;>simp[Xz]<;>omega
theorem Ziv:∀ {l:List Bool} {i:Nat},l[i]?=some false->Xz (l.set i true)=Xz l+1
 |b::l,0,h=>by simp at h;subst h;simp[Xz]
 |b::l,i+1,h=>by have:=Ziv (l:=l) (i:=i) (by simpa using h);simp only[List.set_cons_succ,Xz,this];omega
inductive RE (l:List YM):Nat->Prop
 |fin {j:Nat} {s:YM} (h:l[j]?=some s) (he:s.end'=true):RE l j
 |step {j q:Nat} {s:YM} (h:l[j]?=some s) (hd:(q:Int)∈s.to') (hr:RE l q):RE l j
theorem ZuV{M:List (List Int)}{b:List Int}{en ag:Bool}{i:Int}{m:T6}{a:List T6}{e:List Int}(h:StK G M b en ag i m a e):∀d∈e,∃q:Nat,d=(q:Int)/\q<M.length:=fun d n=>by have⟨T,g,q,o,_,_,r,s⟩:=h.lv;have⟨k,f⟩:=aZ.1 n;have c:=YB f;have⟨j,S,t,u,_⟩:=s k _ d (Za (show k<T.length by rw[o.l,<-r];exact c)) f;exact⟨j,t,YB u⟩
structure LC (l:List YM) (g:List Bool):Prop where
 ln:g.length=l.length
 r:∀j:Nat,g[j]?=some true->RE l j
theorem ZpF(F:4194304<N){l:List YM}(A:∀s∈l,s.to'.length<=4194304/\∀d∈s.to',∃q:Nat,d=(q:Int)/\q<l.length){i:Nat}(hi:i<l.length){g:List Bool}{ch:Bool}(a:LC l g) :
  ∃z,PT N l i (g,ch)=some z/\LC l z.1/\((z=(g,ch))\/(z.2=true/\Xz z.1=Xz g+1)):=by
 have u:=Za hi;have⟨G,t2⟩:=A _ (Zb u);have c:=Za (show i<g.length by rw[a.ln];exact hi);unfold PT;rw[YI,u,bS];have fin:(RE l i)->∃z,((idx g (i:Int)).bind fun b=>bif b then some (g,ch) else some (YE g (i:Int) true,true))=some z/\LC l z.1/\((z=(g,ch))\/(z.2=true/\Xz z.1=Xz g+1)):=by
  intro w;rw[YI,c,bS];cases D:g[i]'(by rw[a.ln];exact hi) with
  |true=>exact⟨_,rfl,a,.inl rfl⟩
  |false=>
   rw[D]at c;refine⟨_,rfl,⟨by rw[Vm,bz];exact a.ln,fun j v=>?_⟩,.inr ⟨rfl,by rw[Vm];exact Ziv c⟩⟩;rw[Vm,bB]at v;by_cases m:i=j
   ·subst m;exact w
   ·rw[mE m]at v;exact a.r j v
 dsimp only;cases E:(l[i]).end' with
 |true=>
  rw[cT,bS,cT];exact fin (.fin u E)
 |false=>
  rw[cF];have⟨r,e,w⟩:=Zez (l[i]).to' (fun d=>GJ N d g) (fun d t=>by
   obtain⟨q,rfl,y⟩:=t2 d t;have:=Za (show q<g.length by rw[a.ln];exact y);exact⟨_,by unfold GJ;rw[YI,this];rfl⟩) (MH N (l[i]).to' g) (fun n k x h=>by
   simp only[MH,YY (YB h),cT,YI,h,bS];rw[Xb (by have:=YB h;omega)]) (fun n k h=>by simp only[MH,YZ h,cF,Zct]) (N:=N) (by omega)
  unfold ZdK Zcs;rw[e,bS,bS];cases y:decide (r>=0) with
  |true=>
   have⟨d,t,f⟩:=w.1 y;obtain⟨q,rfl,C⟩:=t2 d t;refine fin (.step u t (a.r q ?_));unfold GJ at f;rw[YI]at f;cases o:g[q]? with
   |none=>rw[o]at f;cases f
   |some b=>rw[o]at f;cases f;rfl
  |false=>
   rw[cF];exact⟨_,rfl,a,.inl rfl⟩
theorem ZlJ(f:4194304<N){l:List YM}(h:∀s∈l,s.to'.length<=4194304/\∀d∈s.to',∃q:Nat,d=(q:Int)/\q<l.length):∀(r:List YM) (g:List Bool) (ch:Bool),r.length<=l.length->LC l g ->
  ∃z,QL (fun i (_:YM) b=>PT N l i b) r (g,ch)=some z/\LC l z.1/\((z=(g,ch))\/(z.2=true/\Xz g<Xz z.1))
 | [],g,ch,_,hg=>⟨(g,ch),rfl,hg,.inl rfl⟩
 |x::r,g,ch,hr,hg=>by
  obtain⟨⟨k,m⟩,e,n,c⟩:=ZpF f h (show r.length<l.length by simp at hr;omega) (ch:=ch) hg;have⟨z,o,t,a⟩:=ZlJ f h r k m (by simp at hr;omega) n;refine⟨z,?_,t,?_⟩
  ·show (PT N l r.length (g,ch)).bind _=_;rw[e];exact o
  ·rcases c with c|⟨c,j⟩
   ·cases c;exact a
   ·rcases a with a|⟨a,u⟩
    ·right;rw[a];exact⟨c,by dsimp only at j ⊢;omega⟩
    ·right;exact⟨a,by dsimp only at j;omega⟩
theorem ZpH(y:4194304<N){l:List YM}(K:l.length<=1000)(z:∀s∈l,s.to'.length<=4194304/\∀d∈s.to',∃q:Nat,d=(q:Int)/\q<l.length) :
  ∃b,Zbc N l=some b/\(b=true->∀j:Nat,j<l.length->RE l j):=by
 unfold Zbc Za6;rw[DD _ (by omega),bS];have:=Ra (F:=fun n b=>Dk N l n b) (Q:=fun b=>b=true->∀j:Nat,j<l.length->RE l j) (fun m s=>m=2*(l.length-Xz s.1)+(bif s.2 then 1 else 0)/\LC l s.1) ?_ N (2*l.length+1) (aQ l.length false,true) ?_ (by omega)
 ·exact this
 ·rintro m ⟨g,ch⟩ ⟨rfl,o⟩;dsimp only at o ⊢;have L:=ZeQ g;have E:=o.ln;cases ch with
  |true=>
   left;obtain⟨⟨u,A⟩,e,v,a⟩:=ZlJ y z l.reverse g false (by simp) o;have G:=ZeQ u;have h:=v.ln;refine⟨_,(u,A),?_,⟨rfl,v⟩,fun n=>?_⟩
   ·rcases a with a|⟨a,D⟩
    ·cases a;simp
    ·dsimp only at a D ⊢;dsimp only at h;rw[a];dsimp only[cT];omega
   ·show (bif true then (Sd _ l (g,false)).bind _ else _)=_;unfold Sd;rw[cT,show aY l.length lim=true from ai (by unfold lim;omega),cT,e];rfl
  |false=>
   right;intro n;show ∃r,(bif false then _ else (B7 N g false).bind fun c=>some (!c))=some r/\_;rw[cF];have⟨r,e,C⟩:=Zez g (fun b=>some (false==b)) (fun b _=>⟨_,rfl⟩) (MI g false) (fun n k x f=>by
    simp only[MI,YY (YB f),cT,YI,f,bS];rw[Xb (by have:=YB f;omega)]) (fun n k f=>by simp only[MI,YZ f,cF,Zcv]) (N:=N) (by omega)
   unfold B7 Zcu;rw[e,bS,bS];refine⟨_,rfl,fun t j i=>o.r j ?_⟩;have t:decide (r>=0)=false:=by simpa using t
   have H:=Za (show j<g.length by omega);cases w:g[j]'(by omega) with
   |true=>rw[H,w]
   |false=>
    exfalso;have:=C.2 ⟨false,by rw[<-w];exact List.getElem_mem _,rfl⟩;rw[t]at this;cases this
 ·dsimp only;have:Xz (aQ l.length false)=0:=by
   induction l.length with
   |zero=>rfl
   |succ n I=>rw[List.replicate_succ,Xz,I];rfl
  refine⟨by rw[this];simp,by simp,fun j i=>?_⟩;rw[bc]at i;split at i<;>cases i
structure Rz (p:Yl) (l:List YM):Prop where
 n:0<l.length/\l.length<=1000
 ac:∀s∈l,∀a∈s.acts',LK p a
 al:∀s∈l,s.acts'.length<=5001
 srt:∀s∈l,s.acts'.Pairwise Wm
 fr:∀s∈l,∀a∈s.acts',∀b∈s.acts',a.ZB=b.ZB
 tl:∀s∈l,s.to'.length=s.acts'.length
 ti:∀s∈l,∀d∈s.to',∃q:Nat,d=(q:Int)/\q<l.length
 ag:∀s∈l,s.again'=true->s.acts'.length<=1
 en:∀s∈l,s.end'=true->s.acts'=[]/\s.again'=false/\s.ticks'=0/\s.other'=WG
 tk:∀s∈l,0<=s.ticks'/\s.ticks'<=1000/\(s.other'=WG\/LK p s.other')/\(s.ticks'=0->s.other'=WG)
 to:∀s∈l,0<s.ticks'->s.other'∈s.acts'/\s.again'=false
 agp:∀s∈l,∀(k q:Nat) (a:T6) (s2:YM),s.acts'[k]?=some a->s.to'[k]?=some (q:Int)->l[q]?=some s2->s2.again'=true->∀b∈s2.acts',b.ZB=a.ZB/\b.ZP=a.ZP
 st0:∀s,l[0]?=some s->s.again'=false
theorem Zfh{p:Yl}(c:Vf p G){a b:Int}(h:ER G a b):a=b\/NA G b:=by
 cases h with
 |refl=>exact .inl rfl
 |step h f g=>
  have⟨j,_,d⟩:=Ud f;exact .inr (c.e _ (Zb d) _ g)
theorem ZpM{a b c:Int}(h:ER G a b)(d:ER G b c):ER G a c:=by
 induction d with
 |refl=>exact h
 |step _ e f g=>exact .step g e f
theorem Zbw{k:Int}{nd:YU}(h:NA G k)(b:idx G k=some nd)(c:x∈nd.Yc):x.again'=false:=by have⟨d,a,e⟩:=h;rw[b]at a;cases a;exact e x c
theorem Zh3{p:Yl}(d:Vf p G)(e:x∈VM G S):LK p x.Z8:=by have⟨n,_,nd,b,c⟩:=PH.1 e;have⟨j,_,f⟩:=Ud b;exact (d.a nd (Zb f) x c).1
theorem Zmy{p:Yl}(i:Vf p G)(D:GS G S){c:V7}(E:c∈Uu G S){F:Int}{k:T6}(h:Tm G c F k):∃x∈VM G S,x.Z8=k/\x.again'=false:=by
 obtain⟨_,s,H,⟨T,g,q,I⟩,_⟩:=h;have⟨x,K,l⟩:=(I.m k).1 (by simp);have⟨n,M,nd,a,b⟩:=PH.1 K;have⟨m,N,w,d,o⟩:=ZoO.1 E;have⟨j,_,A⟩:=Ud d;have⟨C,_⟩:=i.c w (Zb A) c o;have⟨y,O,r⟩:=(H.m n).1 M;rw[aC.1 O]at r;have⟨L,_,_,f⟩:=D;have⟨z,P,t⟩:=(f.m m).1 N;have u:n∈S:=(f.m n).2 ⟨z,P,ZpM (.step t d C) r⟩;have v:NA G n:=by
  rcases Zfh i r with e|h
  ·rw[<-e];exact i.e w (Zb A) _ C
  ·exact h
 exact⟨x,PH.2 ⟨n,u,nd,a,b⟩,l,Zbw v a b⟩
theorem Zme(b:A.Pairwise Wm){f l:T6}(g:A.head?=some f)(j:A.getLast?=some l)(n:f.ZB=l.ZB):∀a∈A,a.ZB=f.ZB:=by
 intro a k;have⟨i,hi⟩:=aZ.1 k;have m:=YB hi;have c:A[0]?=some f:=by rw[<-List.head?_eq_getElem?];exact g
 have d:A[A.length-1]?=some l:=by rw[<-iO];exact j
 have o:f.ZB<=a.ZB:=by
  rcases Nat.eq_or_lt_of_le (Nat.zero_le i) with e|h
  ·rw[<-e,c]at hi;cases hi;exact Int.le_refl _
  ·have:=R9 b h c hi;unfold Wm at this;omega
 have q:a.ZB<=l.ZB:=by
  rcases ay i (A.length-1) with h|h
  ·have:=R9 b h hi d;unfold Wm at this;omega
  ·have:i=A.length-1:=by omega
   rw[this,d]at hi;cases hi;exact Int.le_refl _
 omega
theorem StsOk.fl{p:Yl}(N:Vf p G){I:Int}(v:NA G I){l:List YM}(h:StsOk G I l):Rz p l:=by
  have o:∀s∈l,∃T g q,LvOk (VM G s.set') s.acts' T g q/\s.again'=decide (g>0)/\QG s.end' s.again' q s.acts'=false/\s.to'.length=s.acts'.length/\G6 G (l.map (·.set')) T s.to':=fun s i=>(h.s s i).2.lv;have M:∀ {en ag:Bool} {q:Int} {A:List T6},QG en ag q A=false->(en=true->A=[])/\(ag=true->¬ q>0/\A.length<=1)/\(∀f l,A.head?=some f->A.getLast?=some l->f.ZB=l.ZB):=by
    intro en ag q A R;unfold QG at R;rw[dG,dG]at R;have⟨u,P,K⟩:=R;refine⟨fun e=>?_,fun e=>?_,fun f l W X=>?_⟩
    · rw[e,Bool.true_and,lg]at u;exact List.eq_nil_of_length_eq_zero (by omega)
    · rw[e,Bool.true_and,dG,lg,lg]at P;exact⟨P.1,by omega⟩
    · rw[W,X]at K;simpa using K
  have endf:∀s∈l,s.end'=true->s.acts'=[]/\s.again'=false/\s.ticks'=0/\s.other'=WG:=by
    intro s i he;have⟨T,g,q,u,P,K,_⟩:=o s i;have hA:=(M K).1 he;refine⟨hA,?_,?_⟩
    · rw[P,lg];intro hgp;have⟨x,C,_⟩:=u.g0.2.2.1 hgp;have:=(u.m x.Z8).2 ⟨x,C,rfl⟩;rw[hA]at this;cases this
    · refine (h.s s i).2.ch.z fun c O=>?_;have⟨a,H,_⟩:=(h.s s i).2.ch.r c O;rw[hA]at H;cases H
  have V:∀s∈l,s.ticks'≠0\/s.other'≠WG->∃c∈Uu G s.set',c.ticks'≠0/\Tm G c s.ticks' s.other':=by
    intro s i D;have hch:=(h.s s i).2.ch;apply bx;intro hno;have:∀c∈Uu G s.set',c.ticks'=0:=fun c O=>by apply bx;intro h0;exact hno ⟨c,O,h0,hch.t c O h0⟩
    have⟨z1,z2⟩:=hch.z this;rcases D with h|h
    · exact h z1
    · exact h z2
  refine⟨h.n,fun s i a H=>?_,fun s i=>?_,fun s i=>?_,fun s i a H b R=>?_,fun s i=>?_,fun s i d hd=>?_,fun s i H=>?_,endf,fun s i=>?_,fun s i ht=>?_,fun s i k q a s2 H hd Y w b R=>?_,fun s i=>?_⟩
  · have⟨T,g,q,u,_⟩:=o s i;have⟨x,C,e⟩:=(u.m a).1 H;rw[<-e];exact Zh3 N C
  · have⟨T,g,q,u,_⟩:=o s i;have:=u.n;have P:=ZaA N.la s.set';have K:=(h.s s i).1.len N;omega
  · have⟨T,g,q,u,_⟩:=o s i;exact u.s
  · have⟨T,g,q,u,_,K,_⟩:=o s i;have D:s.acts'≠[]:=fun e=>by rw[e]at H;cases H
    obtain⟨f,W⟩:∃f,s.acts'.head?=some f:=⟨_,List.head?_eq_some_head D⟩
    obtain⟨la,X⟩:∃la,s.acts'.getLast?=some la:=⟨_,ga D⟩
    have:=(M K).2.2 f la W X;rw[Zme u.s W X this a H,Zme u.s W X this b R]
  · obtain⟨T,g,q,_,_,_,h4,_⟩:=o s i;exact h4
  · have⟨q,e,hq⟩:=ZuV (h.s s i).2 d hd;exact⟨q,e,by simpa using hq⟩
  · obtain⟨T,g,q,_,_,K,_⟩:=o s i;exact ((M K).2.1 H).2
  · have⟨b1,b2⟩:=(h.s s i).2.ch.b;refine⟨b1,b2,?_,fun h0=>?_⟩
    · by_cases ho:s.other'=WG
      · exact .inl ho
      · have⟨c,O,_,ht⟩:=V s i (.inr ho);have⟨x,C,e,_⟩:=Zmy N (h.s s i).1 O ht;rw[<-e];exact .inr (Zh3 N C)
    · apply bx;intro ho;have⟨c,O,D,ht⟩:=V s i (.inr ho);exact D (ht.1.symm.trans h0)
  · have⟨c,O,_,htm⟩:=V s i (.inl (by omega));have⟨x,C,e,E⟩:=Zmy N (h.s s i).1 O htm;have⟨T,g,q,u,P,K,_⟩:=o s i;refine⟨(u.m _).2 ⟨x,C,e⟩,?_⟩;cases w:s.again' with
    |false=>rfl
    |true=>exact absurd (u.p0.2.2.2 ⟨x,C,E⟩) ((M K).2.1 w).1
  · have⟨T,g,q',u,_,_,h4,h5⟩:=o s i;have hkl:k<T.length:=by rw[u.l,<-h4];exact YB hd
    have⟨q2,S,e1,e2,hcl⟩:=h5 k _ _ (Za hkl) hd;obtain rfl:q=q2:=by omega
    rw[aK,Y]at e2;cases e2;have hs2m:=Zb Y;have⟨T2,g2,p2,k1,k2,k3,_⟩:=o s2 hs2m;rw[w]at k2;have⟨x,C,E⟩:=k1.g0.2.2.1 (lj k2.symm);have⟨n,hn,nd,L,F⟩:=PH.1 C;have⟨y,hy,hr⟩:=(hcl.m n).1 hn;have hyn:y=n:=by
      rcases Zfh N hr with e|v
      · exact e
      · have:=Zbw v L F;rw[E]at this;cases this
    subst hyn;have⟨z,hz,z1,z2⟩:=((u.t k a _ H (Za hkl)).2 y).1 hy;have⟨m,_,md,hmd,hzm⟩:=PH.1 hz;have⟨j,_,hj⟩:=Ud hmd;have hxy:x.Z8.ZB=a.ZB/\x.Z8.ZP=a.ZP:=by
      rcases (N.a md (Zb hj) z hzm).2 with v|⟨nd',a',r1,r2,r3,r4⟩
      · rw[z2]at v;have:=Zbw v L F;rw[E]at this;cases this
      · rw[z2,L]at r1;cases r1;rw[r2,aC]at F;rw[F,r3,r4,z1];exact⟨rfl,rfl⟩
    have hxm:=(k1.m x.Z8).2 ⟨x,C,rfl⟩;have hlen:=((M k3).2.1 w).2;have⟨i1,Z⟩:=aZ.1 hxm;have⟨i2,U⟩:=aZ.1 R;have g1:=YB Z;have g2:=YB U;obtain rfl:i1=i2:=by omega
    rw[Z]at U;cases U;exact hxy
  · have⟨s0,f1,f2⟩:=h.f;rw[i]at f1;cases f1;have⟨T,g,q,u,P,_⟩:=o s (Zb i);cases w:s.again' with
    |false=>rfl
    |true=>
      exfalso;rw[w]at P;have⟨x,C,E⟩:=u.g0.2.2.1 (lj P.symm);have⟨n,hn,nd,L,F⟩:=PH.1 C;have⟨y,hy,hr⟩:=(f2.m n).1 hn;rw[aC.1 hy]at hr;have:NA G n:=by
        rcases Zfh N hr with e|h
        · rw[<-e];exact v
        · exact h
      have:=Zbw this L F;rw[E]at this;cases this
theorem ZnW(m:4194304<N)(L:List Int)(f:∀x∈L,0<=x/\x<55296)(hL:L.length<=100000){p:be}{l:List Int}(a:Y7 p=Xd l)(o:l.length<=100000):∃z,Bs N L p=some z/\Y7 z=Xd (l++L):=by
 unfold Bs;have key:∀(r:List Int) (n k:Nat) (p:be),L.drop k=r->r.length<n->Y7 p=Xd (l++L.take k)->∃z,MW N L n p (k:Int)=some z/\Y7 z=Xd (l++L):=by
  intro r;induction r with
  |nil=>
   intro n k p h b a;obtain⟨n,rfl⟩:=pS n (by simp at b;omega);rw[ba (XS h)]at a;exact⟨p,by simp only[MW,YZ (XS h),cF,Zc1],a⟩
  |cons x r j=>
   intro n k p h b a;obtain⟨n,rfl⟩:=pS n (by simp at b;omega);have⟨q,c,d⟩:=XY h;have⟨g,v2⟩:=f x (Zb c);have⟨z,e,i⟩:=ZgF (N:=N) g v2 a (by rw[lA,aL];omega);simp only[MW,YY q,cT,YI,c,bS,e];rw[Xb (by omega)];refine j n (k+1) _ d (by simp at b;omega) ?_;rw[i,dh,c,aA];rfl
 exact key L N 0 p rfl (by omega) (by simpa using a)
theorem ZnV(o:4194304<N)(a:Int)(L:List Int)(l:∀x∈a::L,0<=x/\x<55296)(hL:L.length<=100000):∃z,Br N (a::L) ao=some z/\Y7 z=Xd (a::L):=by
 unfold Br;have key:∀(r:List Int) (n k:Nat) (p:be),(a::L).drop k=r->r.length<n->Y7 p=Xd ((a::L).take k)->∃z,MV N (a::L) n p (k:Int)=some z/\Y7 z=Xd (a::L):=by
  intro r;induction r with
  |nil=>
   intro n k p h b f;obtain⟨n,rfl⟩:=pS n (by simp at b;omega);rw[ba (XS h)]at f;exact⟨p,by simp only[MV,YZ (XS h),cF],f⟩
  |cons x r m=>
   intro n k p h b f;obtain⟨n,rfl⟩:=pS n (by simp at b;omega);have⟨q,c,d⟩:=XY h;have⟨g,v2⟩:=l x (Zb c);have⟨z,e,i⟩:=ZgF (N:=N) g v2 f (by rw[aL,Zf];omega);simp only[MV,YY q,cT,YI,c,bS,e];rw[Xb (by simp at q;omega)];refine m n (k+1) _ d (by simp at b;omega) ?_;rw[i,dh,c];rfl
 have j:decide ((0:Int)<(((a::L).length:Nat):Int))=true:=by rw[l8,Zf];omega
 have⟨g,v2⟩:=l a (by simp);have⟨z,e,i⟩:=ZmN (N:=N) g v2;rw[j,cT,show idx (a::L) (0:Int)=some a from rfl,bS,e,bS,show Yh ((0:Int)+1)=((1:Nat):Int) from rfl];exact key L N 1 _ rfl (by omega) (by rw[i];rfl)
def Vn(C:List Int):List T6->List Int->List Int
 |a::A,d::D=>a.ZB::a.To::a.ZP::(idx C d).getD 0::Vn C A D
 |_,_=>[]
def Tt(s:YM):Int:=(bif s.end' then 1 else 0)+(bif s.again' then 2 else 0)
def WA(s:YM)(C:List Int):List Int:=Tt s::s.ticks'::s.other'.ZB::s.other'.To::s.other'.ZP::Vn C s.acts' s.to'
structure QC (p:Yl):Prop where
 r:p.ZE.length<=6
 m:p.ZF.length<=40
variable {C:List Int}
theorem Zl4{p:Yl}(f:QC p)(g:∀c∈C,0<=c/\c<55296):∀(A:List T6) (D:List Int),(∀a∈A,LK p a)->∀x∈Vn C A D,0<=x/\x<55296
 | [],D,_,x,e=>by simp[Vn]at e
 |a::A,[],_,x,e=>by simp[Vn]at e
 |a::A,d::D,h,x,e=>by
  have o:=f.r;have q:=f.m;have⟨a1,a2,a3,a4,_,l,n⟩:=h a (by simp);simp only[Vn,Zl]at e;rcases e with rfl|rfl|rfl|rfl|e
  ·omega
  ·omega
  ·omega
  ·cases hi:idx C d with
   |none=>simp
   |some c=>
    have⟨j,_,k⟩:=Ud hi;exact g c (Zb k)
  ·exact Zl4 f g A D (fun b i=>h b (by simp[i])) x e
theorem Zl6{p:Yl}(b:QC p){l:List YM}(hF:Rz p l){s:YM}(f:s∈l)(g:∀c∈C,0<=c/\c<55296):∀x∈WA s C,0<=x/\x<55296:=by
 intro x a;have k:=b.r;have n:=b.m;have⟨h,t2,t3,_⟩:=hF.tk s f;have d:(0<=s.other'.ZB/\s.other'.ZB<55296)/\(0<=s.other'.To/\s.other'.To<55296)/\(0<=s.other'.ZP/\s.other'.ZP<55296):=by
  rcases t3 with e|⟨a1,a2,a3,a4,_,i,j⟩
  ·rw[e];simp
  ·omega
 simp only[WA,Zl]at a;rcases a with rfl|rfl|rfl|rfl|rfl|a
 ·unfold Tt;cases s.end'<;>cases s.again'<;>simp
 ·omega
 ·exact d.1
 ·exact d.2.1
 ·exact d.2.2
 ·exact Zl4 b g _ _ (hF.ac s f) x a
theorem Zuk(S:4194304<N){p:Yl}(H:QC p){l:List YM}(hF:Rz p l){s:YM}(i:s∈l)(T:∀c∈C,0<=c/\c<55296)(W:C.length=l.length):∃z,Bj N s C=some z/\Y7 z=Xd (WA s C):=by
 have hal:=hF.al s i;have htl:=hF.tl s i;have hr:=Zl6 H hF i T;have F:∀f:Int,f=Tt s->∃z,H6 N s C f=some z/\Y7 z=Xd (WA s C):=by
  rintro f rfl;unfold H6;have⟨z,e,I⟩:=ZnV S (Tt s) [s.ticks',s.other'.ZB,s.other'.To,s.other'.ZP] (fun x o=>hr x (by
   simp only[WA,Zl]at o ⊢;rcases o with h|h|h|h|h|h
   ·exact .inl h
   ·exact .inr (.inl h)
   ·exact .inr (.inr (.inl h))
   ·exact .inr (.inr (.inr (.inl h)))
   ·exact .inr (.inr (.inr (.inr (.inl h))))
   ·cases h)) (by simp)
  rw[e,bS];have key:∀(A:List T6) (D:List Int) (n k:Nat) (q:be) (b:List Int),s.acts'.drop k=A->k<=s.acts'.length->s.to'.drop k=D->A.length<n->Y7 q=Xd b->b.length<=5+4*k->b≠[] ->
    ∃z,MJ N s C n q (k:Int)=some z/\Y7 z=Xd (b++Vn C A D):=by
   intro A;induction A with
   |nil=>
    intro D n k q b L M O y E P t;obtain⟨n,rfl⟩:=pS n (by simp at y;omega);have hk:=XS L;simp only[MJ,YZ hk,cF,Zcw];have:D=[]:=by rw[<-O];exact List.drop_eq_nil_of_le (by omega)
    rw[Zmp E t (by omega)];exact⟨q,rfl,by rw[E];simp[Vn]⟩
   |cons a A ih=>
    intro D n k q b L M O y E P t;obtain⟨n,rfl⟩:=pS n (by simp at y;omega);have⟨X,U,Y⟩:=XY L;have u:k<s.to'.length:=by omega
    have v:=Za u;have R:D=s.to'[k]::s.to'.drop (k+1):=by rw[<-O];exact List.drop_eq_getElem_cons u
    have⟨j,V,hj⟩:=hF.ti s i _ (Zb v);have g:=Za (show j<C.length by omega);have⟨Z,c1⟩:=T _ (Zb g);have⟨a1,a2,a3,a4,_,a6,a7⟩:=hF.ac s i a (Zb U);have q1:=H.r;have q2:=H.m;have⟨z,e,I⟩:=ZnW S [a.ZB,a.To,a.ZP,C[j]] (fun x o=>by
     simp only[Zl,List.not_mem_nil,or_false]at o;rcases o with rfl|rfl|rfl|rfl
     ·omega
     ·omega
     ·omega
     ·exact⟨Z,c1⟩) (by simp) E (by omega)
    simp only[MJ,YY X,cT,YI,U,v,bS,V,g,e];rw[Xb (by omega)];obtain⟨z2,K,d⟩:=ih (s.to'.drop (k+1)) n (k+1) z (b++[a.ZB,a.To,a.ZP,C[j]]) Y (by omega) rfl (by simp at y;omega) I (by simp;omega) (by simp);refine⟨z2,K,?_⟩;rw[d,R,V];simp only[Vn,YI,g,bX];rw[aA];rfl
  obtain⟨z2,K,d⟩:=key s.acts' s.to' N 0 z _ rfl (by omega) rfl (by omega) I (by simp) (by simp);exact⟨z2,K,d⟩
 unfold Bj Bk;cases G:s.end' with
 |true=>
  cases w:s.again' with
  |true=>exact F _ (by unfold Tt;rw[G,w];rfl)
  |false=>exact F _ (by unfold Tt;rw[G,w];rfl)
 |false=>
  cases w:s.again' with
  |true=>exact F _ (by unfold Tt;rw[G,w];rfl)
  |false=>exact F _ (by unfold Tt;rw[G,w];rfl)
theorem Zl3:∀ {A c:List T6} {D b:List Int},D.length=A.length->b.length=c.length->Vn C A D=Vn C c b->A=c/\∀(k:Nat) d e,D[k]?=some d->b[k]?=some e->(idx C d).getD 0=(idx C e).getD 0
 | [],[],D,b,h1,h2,h=>⟨rfl,fun k d e i=>by have:=YB i;simp at h1;simp[h1]at i⟩
 | [],a'::c,D,e::b,h1,h2,h=>by simp[Vn]at h
 | [],a'::c,D,[],h1,h2,h=>by simp at h2
 |a::A,[],d::D,b,h1,h2,h=>by simp[Vn]at h
 |a::A,[],[],b,h1,h2,h=>by simp at h1
 |a::A,a'::c,[],b,h1,h2,h=>by simp at h1
 |a::A,a'::c,d::D,[],h1,h2,h=>by simp at h2
 |a::A,a'::c,d::D,e::b,h1,h2,h=>by
  simp only[Vn,bH]at h;have⟨j,l,m,n,o⟩:=h;have⟨q,r⟩:=Zl3 (by simpa using h1) (by simpa using h2) o;refine⟨by rw[PF j l m,q],fun k x y f g=>?_⟩;cases k with
  |zero=>simp at f g;rw[<-f,<-g];exact n
  |succ k=>exact r k x y (by simpa using f) (by simpa using g)
structure SgE (s t:YM) (C:List Int):Prop where
 en:s.end'=t.end'
 ag:s.again'=t.again'
 tk:s.ticks'=t.ticks'
 ot:s.other'=t.other'
 ac:s.acts'=t.acts'
 to:∀(k:Nat) d d',s.to'[k]?=some d->t.to'[k]?=some d'->(idx C d).getD 0=(idx C d').getD 0
theorem Zl5{s t:YM}(c:s.to'.length=s.acts'.length)(d:t.to'.length=t.acts'.length)(h:WA s C=WA t C):SgE s t C:=by
 simp only[WA,bH]at h;have⟨a,e,f,g,i,j⟩:=h;have⟨k,l⟩:=Zl3 c d j;have b:s.end'=t.end'/\s.again'=t.again':=by unfold Tt at a;cases m:s.end'<;>cases n:s.again'<;>cases o:t.end'<;>cases q:t.again'<;>rw[m,n,o,q]at a<;>revert a<;>decide
 exact⟨b.1,b.2,e,PF f g i,k,l⟩
theorem Zgm{c:List Int}:∀ {A:List T6} {D b:List Int},D.length=A.length->b.length=A.length->(∀(k:Nat) d d',D[k]?=some d->b[k]?=some d'->(idx C d).getD 0=(idx c d').getD 0)->Vn C A D=Vn c A b
 | [],D,b,_,_,_=>by simp[Vn]
 |a::A,[],b,h1,_,_=>by simp at h1
 |a::A,d::D,[],_,h2,_=>by simp at h2
 |a::A,d::D,d'::b,h1,h2,h=>by simp only[Vn];rw[h 0 d d' rfl rfl,Zgm (by simpa using h1) (by simpa using h2) (fun k x y e f=>h (k+1) x y (by simpa using e) (by simpa using f))]
theorem Zuj{s t:YM}{a:List Int}(h:SgE s t C)(b:s.to'.length=s.acts'.length)(c:t.to'.length=t.acts'.length)(e:∀(k:Nat) d d',s.to'[k]?=some d->t.to'[k]?=some d'->(idx a d).getD 0=(idx a d').getD 0):WA s a=WA t a:=by simp only[WA,bH];refine⟨by unfold Tt;rw[h.en,h.ag],h.tk,by rw[h.ot],by rw[h.ot],by rw[h.ot],?_⟩;rw[h.ac];exact Zgm (by rw[b,h.ac]) c e
theorem ZkO{κ:Type}[ke κ]:∀ {lM:List (κ×α)} {a:κ} (x:α),YR lM a=none->Xf lM a x=lM++[(a,x)]
 | [],a,x,_=>rfl
 | (k,v)::r,a,x,h=>by
  unfold YR at h;unfold Xf;cases b:ke.eq k a with
  |true=>rw[b]at h;cases h
  |false=>
   rw[b,cF]at h;rw[cF,ZkO x h];rfl
structure V5 (L:Nat) (C:List Int) (n:Nat):Prop where
 len:C.length=L
 rng:∀c∈C,0<=c/\c<(n:Int)
 sur:∀m:Nat,m<n->∃i:Nat,C[i]?=some (m:Int)
structure NxC (l:List YM) (C C':List Int) (n:Nat):Prop where
 c:V5 l.length C' n
 e:∀(i j:Nat) (s t:YM),l[i]?=some s->l[j]?=some t->(C'[i]?=C'[j]? ↔ WA s C=WA t C)
structure RnG (K:Nat->List Int) (n k:Nat) (lM:List (be×Int)) (nx:List Int):Prop where
 len:nx.length=n
 d:∀j:Nat,j<k->∃ks c,Y7 ks=Xd (K j)/\YR lM ks=some c/\nx[j]?=some c
 m:∀ks c,YR lM ks=some c->∃m:Nat,c=(m:Int)/\m<lM.length/\∃j:Nat,j<k/\Y7 ks=Xd (K j)
 i:∀ks ks' c,YR lM ks=some c->YR lM ks'=some c->ks=ks'
 s:∀m:Nat,m<lM.length->∃ks,YR lM ks=some (m:Int)
theorem RnG.old{K:Nat->List Int}{n k:Nat}{lM:List (be×Int)}{nx:List Int}(hi:RnG K n k lM nx)(e:k<n){z:be}(f:Y7 z=Xd (K k)){b:Int}(g:YR lM z=some b):RnG K n (k+1) lM (nx.set k b):=
 ⟨by rw[bz];exact hi.len,fun j t=>by
  rw[bB];by_cases a:k=j
  ·subst a;exact⟨z,b,f,g,by rw[mD rfl,mD (by rw[hi.len];exact e)]⟩
  ·rw[mE a];exact hi.d j (by omega),fun h l c=>by have⟨m,o,q,j,u,r⟩:=hi.m h l c;exact⟨m,o,q,j,by omega,r⟩,hi.i,hi.s⟩
theorem RnG.new{K:Nat->List Int}{n k:Nat}{lM:List (be×Int)}{nx:List Int}(hi:RnG K n k lM nx)(E:k<n){z:be}(x:Y7 z=Xd (K k))(y:YR lM z=none) :
  RnG K n (k+1) (Xf lM z (lM.length:Int)) (nx.set k (lM.length:Int))/\YR (Xf lM z (lM.length:Int)) z=some (lM.length:Int):=by
 have u:=ZkO (lM.length:Int) y;have f:∀a,YR (Xf lM z (lM.length:Int)) a=bif ke.eq z a then some (lM.length:Int) else YR lM a:=fun a=>Q3 lM z a _;have o:YR (Xf lM z (lM.length:Int)) z=some (lM.length:Int):=by rw[f,(ke.eq_iff z z).2 rfl];rfl
 have D:(Xf lM z (lM.length:Int)).length=lM.length+1:=by rw[u];simp
 have l:∀a e,YR lM a=some e->YR (Xf lM z (lM.length:Int)) a=some e:=fun a e b=>by
  rw[f];cases v:ke.eq z a with
  |true=>
   rw[<-(ke.eq_iff _ _).1 v,y]at b;cases b
  |false=>rw[cF];exact b
 have c:∀a e,YR (Xf lM z (lM.length:Int)) a=some e->(a=z/\e=(lM.length:Int))\/YR lM a=some e:=fun a e b=>by
  rw[f]at b;cases v:ke.eq z a with
  |true=>rw[v]at b;cases b;exact .inl ⟨((ke.eq_iff _ _).1 v).symm,rfl⟩
  |false=>rw[v,cF]at b;exact .inr b
 refine⟨⟨by rw[bz];exact hi.len,fun j L=>?_,fun a e b=>?_,fun a h e q A=>?_,fun m F=>?_⟩,o⟩
 ·rw[bB];by_cases w:k=j
  ·subst w;exact⟨z,_,x,o,by rw[mD rfl,mD (by rw[hi.len];exact E)]⟩
  ·rw[mE w];have⟨a,e,r,t,C⟩:=hi.d j (by omega);exact⟨a,e,r,l a e t,C⟩
 ·rcases c a e b with⟨rfl,rfl⟩|q
  ·exact⟨lM.length,rfl,by omega,k,by omega,x⟩
  ·have⟨m,r,t,j,C,G⟩:=hi.m a e q;exact⟨m,r,by omega,j,by omega,G⟩
 ·rcases c a e q with⟨rfl,rfl⟩|r
  ·rcases c h _ A with⟨rfl,_⟩|t
   ·rfl
   ·have⟨m,H,I,_⟩:=hi.m h _ t;omega
  ·rcases c h e A with⟨rfl,rfl⟩|t
   ·have⟨m,H,I,_⟩:=hi.m a _ r;omega
   ·exact hi.i a h e r t
 ·rcases ay m lM.length with q|q
  ·have⟨a,g⟩:=hi.s m q;exact⟨a,l a _ g⟩
  ·obtain rfl:m=lM.length:=by omega
   exact⟨z,o⟩
theorem RnG.nil(K:Nat->List Int)(n:Nat):RnG K n 0 [] (aQ n 0):=
 ⟨by simp,fun j d=>by omega,fun a c h=>by simp[YR]at h,fun a b c h=>by simp[YR]at h,fun m h=>by simp at h⟩
theorem RnG.fin{K:Nat->List Int}{n:Nat}{lM:List (be×Int)}{r:List Int}(hi:RnG K n n lM r)(k:∀i:Nat,i<n->∀x∈K i,0<=x/\x<55296):V5 n r lM.length/\∀i j:Nat,i<n->j<n->(r[i]?=r[j]? ↔ K i=K j):=by
 refine⟨⟨hi.len,fun c w=>?_,fun m y=>?_⟩,fun i j a l=>?_⟩
 ·have⟨i,o⟩:=aZ.1 w;have a:i<n:=by rw[<-hi.len];exact YB o
  have⟨f,z,q,e,h⟩:=hi.d i a;rw[o]at h;cases h;have⟨m,A,C,_⟩:=hi.m f c e;omega
 ·have⟨f,g⟩:=hi.s m y;have⟨m',A,C,j,D,E⟩:=hi.m f _ g;have⟨b,z,q,e,h⟩:=hi.d j D;have:f=b:=Zia (by rw[E,q]);rw[<-this,g]at e;cases e;exact⟨j,h⟩
 ·have⟨f,F,q,e,h⟩:=hi.d i a;have⟨b,H,u,v,G⟩:=hi.d j l;rw[h,G];constructor
  ·intro t;cases t;have:=hi.i f b F e v;refine Zfd (k i a) (k j l) ?_;rw[<-q,<-u,this]
  ·intro t;have:f=b:=Zia (by rw[q,u,t]);rw[this,v]at e;exact e.symm
def sK(l:List YM)(C:List Int)(i:Nat):List Int:=((l[i]?).map fun s=>WA s C).getD []
theorem ZbK{l:List YM}{i:Nat}{s:YM}(h:l[i]?=some s):sK l C i=WA s C:=by unfold sK;rw[h];rfl
theorem ZtV(M:4194304<N){p:Yl}(G:QC p){l:List YM}(hF:Rz p l)(H:∀c∈C,0<=c/\c<55296)(w:C.length=l.length)(v:Int) :
  ∃(f:List Int) (lM:List (be×Int)),(∀ag,Rv N l C v ag N [] (aQ l.length 0) (0:Int)=Lk v ag lM f)/\NxC l C f lM.length:=by
 have g:=hF.n;have key:∀(r:List YM) (n k:Nat) (lM:List (be×Int)) (nx:List Int),l.drop k=r->k<=l.length->r.length<n->RnG (sK l C) l.length k lM nx ->
   ∃(b:List (be×Int)) (f:List Int),(∀ag,Rv N l C v ag n lM nx (k:Int)=Lk v ag b f)/\RnG (sK l C) l.length l.length b f:=by
  intro r;induction r with
  |nil=>
   intro n k lM nx h R g hi;obtain⟨n,rfl⟩:=pS n (by simp at g;omega);have F:=XS h;obtain rfl:k=l.length:=by omega
   exact⟨lM,nx,fun ag=>by simp only[Rv,YZ F,cF],hi⟩
  |cons x r L=>
   intro n k lM nx h R g hi;obtain⟨n,rfl⟩:=pS n (by simp at g;omega);have⟨a,c,d⟩:=XY h;have⟨z,e,y⟩:=Zuk M G hF (Zb c) H w;rw[<-ZbK c]at y;have q:=Za (show k<nx.length by rw[hi.len];exact a);cases u:YR lM z with
   |some S=>
    have⟨b,f,A,D⟩:=L n (k+1) lM (nx.set k S) d (by omega) (by simp at g;omega) (hi.old a y u);refine⟨b,f,fun ag=>?_,D⟩;simp only[Rv,YY a,cT,YI,c,bS,e,q,u];rw[ff,Zg,cF,bX,Xb (by omega),Vm];exact A ag
   |none=>
    have⟨o,E⟩:=hi.new a y u;have⟨b,f,A,D⟩:=L n (k+1) _ (nx.set k (lM.length:Int)) d (by omega) (by simp at g;omega) o;refine⟨b,f,fun ag=>?_,D⟩;simp only[Rv,YY a,cT,YI,c,bS,e,q,u];rw[er,cy,cT,E,bX,Xb (by omega),Vm];exact A ag
 obtain⟨lM,f,e,hi⟩:=key l N 0 [] (aQ l.length 0) rfl (by omega) (by omega) (.nil _ _);have⟨O,P⟩:=hi.fin fun i hi x I=>by have m:=Za hi;rw[ZbK m]at I;exact Zl6 G hF (Zb m) H x I
 exact⟨f,lM,e,O,fun i j s t m K=>by have:=P i j (YB m) (YB K);rwa [ZbK m,ZbK K]at this⟩
def Zav(l:List YM)(C:List Int):Prop:=∀(i j:Nat) (s t:YM),l[i]?=some s->l[j]?=some t->C[i]?=C[j]? -> WA s C=WA t C
def PE(l:List YM)(C:List Int):Prop:=∀(i j:Nat) (s t:YM),l[i]?=some s->l[j]?=some t->WA s C=WA t C->C[i]?=C[j]?
theorem Zn1{n:Nat}{R:List Int}(b:R.Nodup)(g:R.length=n)(c:∀x∈R,0<=x/\x<(n:Int)){x:Int}(d:0<=x)(e:x<(n:Int)):x∈R:=by
 apply bx;intro f;have:=R6 n (x::R) (List.nodup_cons.2 ⟨f,b⟩) (fun y a=>by
  rcases aV.1 a with rfl|a
  ·exact⟨d,e⟩
  ·exact c y a)
 simp at this;omega
variable {L:Nat}
theorem ZlH{n:Nat}(h:V5 L C n):∃R:List Nat,R.length=n/\∀m:Nat,m<n->∃i,R[m]?=some i/\C[i]?=some (m:Int):=by
 have:∀k,k<=n->∃R:List Nat,R.length=k/\∀m:Nat,m<k->∃i,R[m]?=some i/\C[i]?=some (m:Int):=by
  intro k;induction k with
  |zero=>exact fun _=>⟨[],rfl,fun m c=>by omega⟩
  |succ k g=>
   intro l;have⟨R,a,d⟩:=g (by omega);have⟨i,hi⟩:=h.sur k (by omega);refine⟨R++[i],by simp[a],fun m c=>?_⟩;rcases ay m k with b|b
   ·have⟨j,e,f⟩:=d m b;exact⟨j,by rw[Zo (by omega)];exact e,f⟩
   ·obtain rfl:m=k:=by omega
    exact⟨i,by rw[Zp (by omega),a,br];rfl,hi⟩
 exact this n (Zq _)
theorem Zk4{f:List Int}{n s:Nat}(h:V5 L C n)(Y:V5 L f s)(l:∀i j:Nat,i<L->j<L->f[i]?=f[j]? -> C[i]?=C[j]?):n<=s/\(n=s->∀(i j:Nat),i<L->j<L->C[i]?=C[j]? -> f[i]?=f[j]?):=by
 have⟨R,P,I⟩:=ZlH h;have gC:∀i:Nat,i<L->∃c,C[i]?=some c/\0<=c/\c<(n:Int):=fun i hi=>by have:=Za (show i<C.length by rw[h.len];exact hi);exact⟨_,this,h.rng _ (Zb this)⟩
 have g:∀i:Nat,i<L->∃c,f[i]?=some c/\0<=c/\c<(s:Int):=fun i hi=>by have:=Za (show i<f.length by rw[Y.len];exact hi);exact⟨_,this,Y.rng _ (Zb this)⟩
 have M:∀(m i:Nat),R[m]?=some i->i<L:=fun m i hi=>by have⟨j,w,K⟩:=I m (by rw[<-P];exact YB hi);rw[hi]at w;cases w;rw[<-h.len];exact YB K
 -- the values at those places
 let V:List Int:=R.map fun i=>(f[i]?).getD 0
 have hV:∀(m i:Nat),R[m]?=some i->V[m]?=some ((f[i]?).getD 0):=fun m i hi=>by show (R.map _)[m]?=_;rw[aK,hi];rfl
 have y:V.length=n:=by show (R.map _).length=n;rw[aN,P]
 have z:V.Nodup:=by
  rw[eG,cK];intro a b ha hb hab;have U:a<n:=by omega
  have W:b<n:=by omega
  have⟨i,Z,i2⟩:=I a U;have⟨j,j1,j2⟩:=I b W;have A:=hV a i Z;have D:=hV b j j1;rw[Za ha]at A;rw[Za hb]at D;intro e;have E:=M a i Z;have F:=M b j j1;have⟨c1,t,_⟩:=g i E;have⟨c2,u,_⟩:=g j F;rw[t]at A;rw[u]at D;have A:V[a]=c1:=Zm A;have D:V[b]=c2:=Zm D;have:f[i]?=f[j]?:= by rw[t,u,<-A,<-D,e]
  have:=l i j E F this;rw[i2,j2]at this;have:(a:Int)=(b:Int):=Zm this;omega
 have G:∀x∈V,0<=x/\x<(s:Int):=fun x N=>by obtain⟨i,hi,rfl⟩:=aM.1 N;have⟨m,v⟩:=aZ.1 hi;have⟨c,t,u,S⟩:=g i (M m i v);rw[t];exact⟨u,S⟩
 refine⟨by rw[<-y];exact R6 s V z G,fun O i j hi hj e=>?_⟩;have o:∀i:Nat,i<L->∃q c,q<L/\f[i]?=f[q]? /\ C[i]?=some c/\C[q]?=some c/\∃m:Nat,R[m]?=some q/\c=(m:Int):=fun i hi=>by
  have⟨T,t,u,S⟩:=g i hi;have H:=Zn1 z (by rw[y,O]) G u S;have⟨q,hq,k⟩:=aM.1 H;have⟨m,v⟩:=aZ.1 hq;have r:=M m q v;have⟨d,d1,_⟩:=g q r;rw[d1]at k;have k:d=T:=k;have he:f[i]?=f[q]?:= by rw[t,d1,k]
  have⟨j',w,K⟩:=I m (by rw[<-P];exact YB v);rw[v]at w;cases w;exact⟨q,(m:Int),r,he,by rw[l i q hi r he];exact K,K,m,v,rfl⟩
 have⟨q,c,a1,a2,a3,a4,m,a5,a6⟩:=o i hi;have⟨q',T,b1,b2,b3,b4,m',b5,b6⟩:=o j hj;rw[a3,b3]at e;have e:c=T:=Zm e;have X:m=m':=by omega
 rw[X,b5]at a5;have:q'=q:=Zm a5;rw[a2,b2,this]
theorem ZsS{l:List YM}{a:List Int}{n b:Nat}(h:V5 l.length C n)(d:NxC l C a b)(g:PE l C):n<=b/\(n=b->∀(i j:Nat),i<l.length->j<l.length->C[i]?=C[j]? -> a[i]?=a[j]?):=
 Zk4 h d.c fun i j hi f e=>g i j _ _ (Za hi) (Za f) ((d.e i j _ _ (Za hi) (Za f)).1 e)
structure Bis (l:List YM) (R:Nat->Nat->Prop):Prop where
 e:∀(i j:Nat) (s t:YM),R i j->l[i]?=some s->l[j]?=some t->s.end'=t.end'/\s.again'=t.again'/\s.ticks'=t.ticks'/\s.other'=t.other'/\s.acts'=t.acts' /\
  ∀(k a b:Nat),s.to'[k]?=some (a:Int)->t.to'[k]?=some (b:Int)->R a b
def LA(l:List YM)(C:List Int):Prop:=∀R,Bis l R->∀i j:Nat,i<l.length->j<l.length->R i j->C[i]?=C[j]?
theorem ZaK{n:Nat}(h:V5 L C n):n<=L:=by
 have⟨R,g,c⟩:=ZlH h;have:(R.map fun i:Nat=>(i:Int)).length<=L:=by
  refine R6 L _ ?_ fun x o=>?_
  ·rw[eG,List.pairwise_map,cK];intro a b s t u e;have⟨i,d,i2⟩:=c a (by omega);have⟨j,f,q⟩:=c b (by omega);rw[Za s]at d;rw[Za t]at f;have d:R[a]=i:=Zm d;have f:R[b]=j:=Zm f;have e:(R[a]:Int)=(R[b]:Int):=e;have:i=j:=by omega
   rw[this,q]at i2;have:(b:Int)=(a:Int):=Zm i2;omega
  ·obtain⟨i,hi,rfl⟩:=aM.1 o;have⟨m,k⟩:=aZ.1 hi;have⟨j,l,r⟩:=c m (by rw[<-g];exact YB k);rw[k]at l;cases l;have:=YB r;rw[h.len]at this;omega
 rw[aN,g]at this;exact this
theorem ZoV(hN:4194304<N){p:Yl}(hp:QC p){l:List YM}(hF:Rz p l):∃C n,z70 N l=some C/\V5 l.length C n/\Zav l C/\PE l C/\LA l C:=by
 have hn:=hF.n;unfold z70;have w:Vj (0:Int) ((l.length:Nat):Int) ((l.length:Nat):Int)=some (aQ l.length 0):=DD _ (by omega);rw[w,bS];have:=Ra (F:=fun n (s:List Int×Int)=>Ll N l n s.1 s.2) (Q:=fun C=>∃n,V5 l.length C n/\Zav l C/\PE l C/\LA l C) (fun m s=>∃n:Nat,s.2=(n:Int)/\m=1001-n/\n<=1000/\V5 l.length s.1 n/\PE l s.1/\LA l s.1) ?_ N 1000 (aQ l.length 0,(1:Int)) ?_ (by omega)
 ·have⟨C,e,n,h⟩:=this;exact⟨C,n,e,h⟩
 ·rintro m ⟨C,v⟩ ⟨n,rfl,rfl,hn1,x,X,hB⟩;dsimp only at x X hB ⊢;have hCr:∀c∈C,0<=c/\c<55296:=fun c P=>by have:=x.rng c P;omega
  have⟨S,lM,e,q⟩:=ZtV hN hp hF hCr x.len (n:Int);have⟨q1,q2⟩:=ZsS x q X;have hk:=ZaK q.c;have u:∀ {D E:List Int},D.length=l.length->E.length=l.length->(∀a b:Nat,a<l.length->b<l.length->D[a]?=D[b]? -> E[a]?=E[b]?)->∀ {s t:YM},s∈l->t∈l->WA s D=WA t D->WA s E=WA t E:=by
   intro D E hD hE Z s t g o A;have K:=Zl5 (hF.tl s g) (hF.tl t o) A;refine Zuj K (hF.tl s g) (hF.tl t o) fun k d T z f=>?_;obtain⟨a,rfl,G⟩:=hF.ti s g d (Zb z);obtain⟨b,rfl,H⟩:=hF.ti t o T (Zb f);have y:=K.to k _ _ z f;rw[YI,YI]at y ⊢;have a1:=Za (show a<D.length by omega);have r:=Za (show b<D.length by omega);have:D[a]?=D[b]?:= by rw[a1,r]at y ⊢;simp only[bX]at y;rw[y]
   rw[Z a b G H this]
  have L:=q.c.len;have M:PE l S:=fun i j s t g o A=>by refine (q.e i j s t g o).2 (u L x.len (fun a b G H U=>?_) (Zb g) (Zb o) A);have a1:=Za G;have r:=Za H;exact X a b _ _ a1 r ((q.e a b _ _ a1 r).1 U)
  have O:LA l S:=fun R I i j hi V W=>by have a1:=Za hi;have r:=Za V;have⟨e1,e2,e3,Y,e5,e6⟩:=I.e i j _ _ W a1 r;have y:=hF.tl _ (Zb a1);have h2:=hF.tl _ (Zb r);refine (q.e i j _ _ a1 r).2 ?_;simp only[WA,bH];refine⟨by unfold Tt;rw[e1,e2],e3,by rw[Y],by rw[Y],by rw[Y],?_⟩;rw[e5];refine Zgm (by rw[y,e5]) h2 fun k d T z f=>?_;obtain⟨a,rfl,G⟩:=hF.ti _ (Zb a1) d (Zb z);obtain⟨b,rfl,H⟩:=hF.ti _ (Zb r) T (Zb f);rw[YI,YI,hB R I a b G H (e6 k a b z f)]
  by_cases hnn:n=lM.length
  ·right;intro m;refine⟨S,?_,lM.length,q.c,fun i j s t g o A=>?_,M,O⟩
   ·show (Vj (0:Int) ((l.length:Nat):Int) ((l.length:Nat):Int)).bind _=_;rw[w,bS,e];unfold Lk;rw[show ((lM.length:Int)==(n:Int))=true by rw[lk];omega,cT]
   ·exact u x.len L (q2 hnn) (Zb g) (Zb o) ((q.e i j s t g o).1 A)
  ·left;refine⟨1001-lM.length,(S,(lM.length:Int)),by omega,⟨lM.length,rfl,rfl,by omega,q.c,M,O⟩,fun m=>?_⟩
   ·show (Vj (0:Int) ((l.length:Nat):Int) ((l.length:Nat):Int)).bind _=_;rw[w,bS,e];unfold Lk;rw[show ((lM.length:Int)==(n:Int))=false by rw[lp];omega,cF]
 ·refine⟨1,rfl,rfl,by omega,⟨by simp,fun c P=>?_,fun m hm=>?_⟩,fun i j s t g o _=>?_,fun R _ i j hi V _=>?_⟩
  ·rw[List.mem_replicate]at P;rw[P.2];simp
  ·obtain rfl:m=0:=by omega
   exact⟨0,by rw[bc,mD hn.1];rfl⟩
  ·show (aQ l.length (0:Int))[i]?=(aQ l.length (0:Int))[j]?;rw[bc,bc,mD (YB g),mD (YB o)]
  ·show (aQ l.length (0:Int))[i]?=(aQ l.length (0:Int))[j]?;rw[bc,bc,mD hi,mD V]
end Gp
