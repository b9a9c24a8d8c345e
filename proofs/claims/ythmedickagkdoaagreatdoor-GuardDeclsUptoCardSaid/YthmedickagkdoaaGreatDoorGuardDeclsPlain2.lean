/- The plain law, part 2: what the functions compute answers as the statement says. -/
import Derived.Test.YthmedickagkdoaaGreatDoorGuardDeclsPlain1
set_option linter.all false
namespace Gp
open Go Go.Kx Gx
section
def YK:List Z2->Int->List T0
 | [],_=>[]
 | m::ms,c=>⟨m.Zt,m.Zy,c,⟨[],[]⟩⟩::YK ms (c+m.Zy.length)
def YC (ms:List Z2):Nat:=(ms.map (·.Zy.length)).sum
theorem TS:∀ (a:List Z2) (c:Int),(YK a c).length=a.length
 | [],_=>rfl
 | m::a,c=>by simp [YK,TS a]
theorem Zja:∀ (a:List Z2) (c:Int),(YK a c).map Xg=YK a c
 | [],_=>rfl
 | m::a,c=>by simp [YK,Xg,Zja a]
theorem Zn0 {N:Nat} (fs:List T2) (h:fs.length<=4194304):Dv N fs=some fs:=by
 unfold Dv
 rw [Xj (by simp;omega)];rfl
theorem Zo0 (a:List Z2) (b:∀ m∈a,m.Zy.length<=4194304):YC a<=a.length * 4194304:=by
 induction a with
 | nil=>simp [YC]
 | cons m a e =>
  have f:=b m (by simp)
  have d:=e fun q c=>b q (by simp [c])
  unfold YC at d ⊢
  rw [List.map_cons,List.sum_cons,Zf,Nat.succ_mul]
  omega
theorem Zo7 {N:Nat} (l:List Z2) (s:l.length<=4194304) (i:∀ m∈l,m.Zy.length<=4194304):∀ (a:List Z2) (n k:Nat) (b:List T0) (c:Nat),l.drop k=a->a.length < n->b.length=k->c<=k * 4194304 ->
  Qw N l n b (c:Int) (k:Int)=Bx N l (b++YK a c) ((c+YC a:Nat):Int):=by
 intro a
 induction a with
 | nil =>
  intro n k b c h d j o
  obtain ⟨n,rfl⟩:=pS n (by simp at d;omega)
  have p:l.length<=k:=by simpa using h
  simp only [Qw,Yr p,cF]
  simp [YK,YC]
 | cons m a r =>
  intro n k b c h d j o
  obtain ⟨n,rfl⟩:=pS n (by simp at d;omega)
  have f:l[k]? = some m:=by
   have:=congrArg (fun z=>z[0]?) h
   simpa using this
  have g:=Yf f
  have q:=i m (Zb f)
  simp only [Qw,Ym g,cT,Yj,f,bS]
  rw [Zn0 _ q,bS,Xj (by simp;omega),bS,YE (by omega),Xn (by omega) (by omega)]
  have e:((c:Int)+(m.Zy.length:Int))=((c+m.Zy.length:Nat):Int):=by omega
  rw [e,r n (k+1) _ (c+m.Zy.length) (by rw [<- List.drop_drop,h];rfl) (by simp at d;omega) (by simp;omega) (by rw [Nat.succ_mul];omega)]
  congr 1
  ·simp [YK]
  ·simp [YC];omega
theorem ZrQ {N:Nat} (l:List Yg) (s:l.length<=4194304) (j:∀ m∈l,m.Zy.length<=4194304):∀ (a:List Yg) (n k:Nat) (b:List T0) (c:Nat),l.drop k=a->a.length < n->b.length=k->c<=k * 4194304 ->
  Qy N l n b (c:Int) (k:Int)=BK N l (b++YK (a.map oM) c) ((c+YC (a.map oM):Nat):Int):=by
 intro a
 induction a with
 | nil =>
  intro n k b c h d o p
  obtain ⟨n,rfl⟩:=pS n (by simp at d;omega)
  have q:l.length<=k:=by simpa using h
  simp only [Qy,Yr q,cF]
  simp [YK,YC]
 | cons m a r =>
  intro n k b c h d o p
  obtain ⟨n,rfl⟩:=pS n (by simp at d;omega)
  have f:l[k]? = some m:=by
   have:=congrArg (fun z=>z[0]?) h
   simpa using this
  have g:=Yf f
  have t:=j m (Zb f)
  simp only [Qy,Ym g,cT,Yj,f,bS]
  rw [Xj (by simp;omega),bS,Xj (by simp;omega),bS,YE (by omega),Xn (by omega) (by omega)]
  have e:((c:Int)+(m.Zy.length:Int))=((c+m.Zy.length:Nat):Int):=by omega
  rw [e,r n (k+1) _ (c+m.Zy.length) (by rw [<- List.drop_drop,h];rfl) (by simp at d;omega) (by simp;omega) (by rw [Nat.succ_mul];omega)]
  have i:(oM m).Zy=m.Zy:=rfl
  congr 1
  ·simp [YK,i];rfl
  ·simp [YC,i];omega
end
section
theorem ZpA {N:Nat} (s:List T0) (c:Yq) (b:s.length < N) (e:s.length < 4611686018427387904):DK N s c=some (Y6 (fun x=>x.Zt.toList==c.Zv.toList) s):=by
 unfold DK
 refine W2 s (fun x=>x.Zt.toList==c.Zv.toList) (PW N s c) (fun n k x a=>?_) (fun n k d=>?_) b
 ·simp only [PW,Ym (Yf a),cT,Yj,a,bS,Zcu]
  rw [YZ (by have:=Yf a;omega)]
 ·simp only [PW,Yr d,cF,Zcm]
theorem ZpB {N:Nat} (s:List T2) (c:Yq) (b:s.length < N) (e:s.length < 4611686018427387904):DP N s c=some (Y6 (fun x=>x.Zt.toList==c.Field.toList) s):=by
 unfold DP
 refine W2 s (fun x=>x.Zt.toList==c.Field.toList) (P4 N s c) (fun n k x a=>?_) (fun n k d=>?_) b
 ·simp only [P4,Ym (Yf a),cT,Yj,a,bS,ZcD]
  rw [YZ (by have:=Yf a;omega)]
 ·simp only [P4,Yr d,cF,Zcz]
theorem ZhX {α:Type} {p:α->Bool} {xs:List α} {k:Nat} (h:Y6 p xs=(k:Int)):(∃ x,xs[k]? = some x/\p x=true)/\∀ (j:Nat) x,j < k->xs[j]? = some x->p x=false:=by
 unfold Y6 at h
 cases a:xs.findIdx? p with
 | none =>
  rw [a] at h
  have h:(-1:Int)=(k:Int):=h
  omega
 | some i =>
  rw [a] at h
  have h:(i:Int)=(k:Int):=h
  obtain rfl:i=k:=by omega
  rw [List.findIdx?_eq_some_iff_getElem] at a
  have ⟨d,e,f⟩:=a
  refine ⟨⟨xs[i],Za d,e⟩,fun j x b c=>?_⟩
  have:=f j b
  have ⟨l,g⟩:=List.getElem?_eq_some_iff.1 c
  rw [g] at this
  simpa using this
def QO (ds:List T0) (d0:T0) (t:Yq):Option T0:=bif !(t.Zv.toList==(str []).toList) then ds.find? (fun x=>x.Zt.toList==t.Zv.toList) else some d0
theorem Zrh {N:Nat} (v:4194304 < N) {c:List T0} (w:c.length<=4194304) {i:Nat} {h d:T0} {f:T2} {k:Nat} {t:Yq} (o:c[i]? = some h) (e:t.Zq≠1) (b:QO c h t=some d)
  (y:d.Zy.length<=4194304) (p:Y6 (fun x=>x.Zt.toList==t.Field.toList) d.Zy=(k:Int)) (l:d.Zy[k]? = some f) (z:0<=d.ZJ/\d.ZJ<=17592186044416) :
  Ss N t c (i:Int)=some ((⟨d.ZJ+k,t.N⟩:T6),bif t.Zq==2 then f.Zu.Zq==2 else false):=by
 have u:=Yf l
 have m:∀ (a:ByteArray) (D:List T1) (E:List (Int × Int)),LX N t a d.Zy d.ZJ D E=some ((⟨d.ZJ+k,t.N⟩:T6),bif t.Zq==2 then f.Zu.Zq==2 else false):=by
  intro a D E
  unfold LX
  rw [ZpB _ _ (by omega) (by omega),bS,p,Yj,l,Xn (by omega) (by omega)]
  cases (t.Zq==(2:Int))<;>rfl
 unfold Ss
 rw [show (t.Zq==(1:Int))=false by simpa using e,cF,Yj,o,bS]
 unfold QO at b
 cases n:(!(t.Zv.toList==(str []).toList)) with
 | false =>
  rw [n] at b
  cases b
  rw [cF];exact m _ _ _
 | true =>
  rw [n,cT] at b
  rw [cT,ZpA _ _ (by omega) (by omega),bS]
  rcases Th (fun x:T0=>x.Zt.toList==t.Zv.toList) c with ⟨_,g⟩ | ⟨j,q,r,g,s⟩
  ·rw [g] at b;cases b
  ·rw [s] at b
   cases b
   rw [r,Yj,g,bS];exact m _ _ _
structure DAt (ds:List T0) (i:Nat) (t:Yq) (j0:Nat) (d:T0):Prop where
 at_:ds[j0]? = some d
 here:(bif !(d.Zt.toList==t.Zv.toList) then (bif !(t.Zv.toList==(str []).toList) then true else ((j0:Int) != (i:Int))) else false)=false
 pass:∀ (j:Nat) x,j < j0->ds[j]? = some x->(bif !(x.Zt.toList==t.Zv.toList) then (bif !(t.Zv.toList==(str []).toList) then true else ((j:Int) != (i:Int))) else false)=true
theorem Zn7 {b:List T0} {i:Nat} {l d:T0} {t:Yq} (c:∀ x∈b,(x.Zt.toList==(str []).toList)=false) (m:b[i]? = some l) (a:QO b l t=some d):∃ v,DAt b i t v d:=by
 unfold QO at a
 cases g:(!(t.Zv.toList==(str []).toList)) with
 | false =>
  rw [g] at a
  cases a
  have e:t.Zv.toList=(str []).toList:=by simpa using g
  refine ⟨i,m,?_,fun j x w h=>?_⟩
  ·rw [e,c _ (Zb m)];simp
  ·rw [e,c _ (Zb h)]
   have:¬ (j:Int)=(i:Int):=by omega
   simpa using this
 | true =>
  rw [g,cT] at a
  rcases Th (fun x:T0=>x.Zt.toList==t.Zv.toList) b with ⟨_,f⟩ | ⟨j,q,s,f,u⟩
  ·rw [f] at a;cases a
  ·rw [u] at a
   cases a
   obtain ⟨⟨y,n,p⟩,r⟩:=ZhX s
   rw [f] at n
   cases n
   refine ⟨j,f,by rw [p];rfl,fun k x o h=>?_⟩
   rw [r k x o h,g];rfl
theorem ZsH {N:Nat} (F:4194304 < N) {c:List T0} (G:c.length<=4194304) {i:Nat} {d:T0} {k g:Nat} {t:Yq} (o:t.Zq≠1) (j:DAt c i t g d)
  (H:d.Zy.length<=4194304) (E:Y6 (fun x=>x.Zt.toList==t.Field.toList) d.Zy=(k:Int)) (I:0<=d.ZJ/\d.ZJ<=17592186044416) :
  Qu N c (i:Int) t=some (d.ZJ+k):=by
 have u:=Yf j.at_
 obtain ⟨⟨y,B,p⟩,l⟩:=ZhX E
 have v:=Yf B
 unfold Qu
 rw [show (t.Zq==(1:Int))=false by simpa using o,cF]
 have e:∀ (m q n:Nat) (ag:Int->Option Int),q+m=k->m < n->Ms c t (g:Int) ag n (q:Int)=some (d.ZJ+k):=by
  intro m
  induction m with
  | zero =>
   intro q n ag r s
   obtain ⟨n,rfl⟩:=pS n (by omega)
   obtain rfl:q=k:=by omega
   simp only [Ms,Yj,j.at_,bS,Ym v,cT,B,p]
   rw [Xn (by omega) (by omega)]
  | succ m A =>
   intro q n ag r s
   obtain ⟨n,rfl⟩:=pS n (by omega)
   have a:q < d.Zy.length:=by omega
   have b:=Za a
   simp only [Ms,Yj,j.at_,bS,Ym a,cT,b,l q _ (by omega) b,cF]
   rw [YE (by omega)]
   exact A (q+1) n ag (by omega) (by omega)
 have C:∀ (ag:Int->Option Int),Qv N c t (g:Int) ag false=some (d.ZJ+k):=fun ag=>e k 0 N ag (by omega) (by omega)
 have f:∀ (m q n:Nat),q+m=g->m < n->Uz N c (i:Int) t n (q:Int)=some (d.ZJ+k):=by
  intro m
  induction m with
  | zero =>
   intro q n r s
   obtain ⟨n,rfl⟩:=pS n (by omega)
   obtain rfl:q=g:=by omega
   have w:=j.here
   simp only [Uz,Yj,j.at_,bS,Ym u,cT]
   revert w
   cases (!(d.Zt.toList==t.Zv.toList)) with
   | false=>intro _;exact C _
   | true =>
    cases (!(t.Zv.toList==(str []).toList)) with
    | true=>intro h;cases h
    | false =>
     intro h
     have h:((q:Int) != (i:Int))=false:=h
     rw [cT,cF,h];exact C _
  | succ m A =>
   intro q n r s
   obtain ⟨n,rfl⟩:=pS n (by omega)
   have a:q < c.length:=by omega
   have b:=Za a
   have w:=j.pass q _ (by omega) b
   have z:=A (q+1) n (by omega) (by omega)
   have D:Qv N c t (q:Int) (Uz N c (i:Int) t n) true=some (d.ZJ+k):=by
    unfold Qv
    rw [cT,YE (by omega)];exact z
   simp only [Uz,Yj,b,bS,Ym a,cT]
   revert w
   cases (!((c[q]).Zt.toList==t.Zv.toList)) with
   | false=>intro h;cases h
   | true =>
    cases (!(t.Zv.toList==(str []).toList)) with
    | true=>intro _;exact D
    | false =>
     intro h
     have h:((q:Int) != (i:Int))=true:=h
     rw [cT,cF,h];exact D
 exact f g 0 N (by omega) (by omega)
end
section
theorem MW:∀ (a:List Z2) (c:Int) (j:Nat),(YK a c)[j]? = (a[j]?).map fun m=>(⟨m.Zt,m.Zy,c+(YC (a.take j):Int),⟨[],[]⟩⟩:T0)
 | [],_,j=>by simp [YK]
 | m::a,c,0=>by simp [YK,YC]
 | m::a,c,j+1=>by
  have:=MW a (c+m.Zy.length) j
  simp only [YK,List.getElem?_cons_succ,List.take_succ_cons]
  rw [this]
  congr 1
  funext q
  have:(c+(m.Zy.length:Int))+(YC (a.take j):Int)=c+(YC (m::a.take j):Int):=by
   unfold YC
   rw [List.map_cons,List.sum_cons];omega
  rw [this]
theorem RK (a:List Z2) (j:Nat) (m:Z2) (h:a[j]? = some m):YC (a.take (j+1))=YC (a.take j)+m.Zy.length:=by
 unfold YC
 rw [List.take_succ,h]
 simp
theorem Zjr (c:List Z2) {a b:Nat} (h:a<=b):YC (c.take a)<=YC (c.take b):=by
 induction b with
 | zero =>
  obtain rfl:a=0:=by omega
  exact Zo _
 | succ b f =>
  rcases Nat.lt_or_ge b a with d | d
  ·obtain rfl:a=b+1:=by omega
   exact Zo _
  ·refine Nat.le_trans (f d) ?_
   cases e:c[b]? with
   | none =>
    rw [List.getElem?_eq_none_iff] at e
    rw [List.take_of_length_le (by omega),List.take_of_length_le (by omega)]
    exact Zo _
   | some m=>rw [RK c b m e];omega
theorem Gk (b:List Z2) (a:Nat):YC (b.take a)<=YC b:=by
 rcases Nat.le_total a b.length with h | h
 ·have:=Zjr b h
  rwa [List.take_length] at this
 ·rw [List.take_of_length_le h];exact Zo _
theorem ZfS {N:Nat} (a:List Z2) (e:a.length < N) (i:a.length<=4194304) (j:YC a<=17592186044416):HF N (YK a 0)=some (YC a:Int):=by
 unfold HF
 have key:∀ (r n k:Nat),k+r=a.length->r < n->Mu (YK a 0) n (YC (a.take k):Int) (k:Int)=some (YC a:Int):=by
  intro r
  induction r with
  | zero =>
   intro n k f g
   obtain ⟨n,rfl⟩:=pS n (by omega)
   simp only [Mu,Yr (show (YK a 0).length<=k by rw [TS];omega),cF,Zdj]
   rw [List.take_of_length_le (by omega)]
  | succ r h =>
   intro n k f g
   obtain ⟨n,rfl⟩:=pS n (by omega)
   have b:k < a.length:=by omega
   have c:=Za b
   have d:=MW a 0 k
   rw [c,Option.map_some] at d
   simp only [Mu,Ym (show k < (YK a 0).length by rw [TS];omega),cT,Yj,d,bS]
   have l:=RK a k _ c
   have m:=Gk a (k+1)
   rw [YE (by omega),Xn (by omega) (by omega),show ((YC (a.take k):Int)+(a[k].Zy.length:Int))=(YC (a.take (k+1)):Int) by omega]
   exact h n (k+1) (by omega) (by omega)
 have:=key a.length N 0 (by omega) e
 simpa [YC] using this
theorem ZoP {N:Nat} (a:List Z2) (s:a.length < N) (t:a.length<=4194304) (u:YC a<=17592186044416) {b k:Nat} {m:Z2} {f:T2} (d:a[b]? = some m) (h:m.Zy[k]? = some f) :
  Dk N (YK a 0) ((YC (a.take b):Int)+(k:Int))=some f:=by
 unfold Dk
 have o:=Yf h
 have v:=RK a b _ d
 have w:=Gk a (b+1)
 have key:∀ (r n q:Nat),q+r=b->r < n->PD (YK a 0) n ((YC (a.take b):Int)-(YC (a.take q):Int)+(k:Int)) (q:Int)=some f:=by
  intro r
  induction r with
  | zero =>
   intro n q j l
   obtain ⟨n,rfl⟩:=pS n (by omega)
   obtain rfl:q=b:=by omega
   have c:=MW a 0 q
   rw [d,Option.map_some] at c
   rw [show ((YC (a.take q):Int)-(YC (a.take q):Int)+(k:Int))=(k:Int) by omega]
   simp only [PD,Ym (Yf c),cT,Yj,c,bS,Ym o,h]
  | succ r p =>
   intro n q j l
   obtain ⟨n,rfl⟩:=pS n (by omega)
   have e:q < a.length:=by have:=Yf d;omega
   have i:=Za e
   have c:=MW a 0 q
   rw [i,Option.map_some] at c
   have x:=RK a q _ i
   have y:=Zjr a (show q+1<=b by omega)
   have g:decide (((YC (a.take b):Int)-(YC (a.take q):Int)+(k:Int)) < (a[q].Zy.length:Int))=false:=by
    rw [decide_eq_false_iff_not];omega
   simp only [PD,Ym (Yf c),cT,Yj,c,bS,g,cF]
   rw [YE (by omega),Xn (by omega) (by omega),show ((YC (a.take b):Int)-(YC (a.take q):Int)+(k:Int)-(a[q].Zy.length:Int))=(YC (a.take b):Int)-(YC (a.take (q+1)):Int)+(k:Int) by omega]
   exact p n (q+1) (by omega) (by omega)
 have:=key b N 0 (by omega) (by have:=Yf d;omega)
 simpa [YC] using this
theorem ZlD {N:Nat} (a:List Z2) (c:a.length < N) (d:a.length<=4194304) (e:YC a<=17592186044416) {b k:Nat} {m:Z2} {f:T2} (g:a[b]? = some m) (h:m.Zy[k]? = some f) :
  VU N (YK a 0) ((YC (a.take b):Int)+(k:Int))=some (f.Zu.Zq==2):=by
 unfold VU
 have i:=Yf h
 have j:=RK a b _ g
 have l:=Gk a (b+1)
 rw [show decide (((YC (a.take b):Int)+(k:Int))>=(0:Int))=true by simp;omega,cT,ZfS a c d e,bS,
  show decide (((YC (a.take b):Int)+(k:Int)) < (YC a:Int))=true by simp;omega,cT,ZoP a c d e g h,bS]
end
section
def Tm (a:Y5) (x y:Int):List T1 :=
 bif a.Op.toList==(str [60]).toList then [⟨x,y,a.Zx.N-a.Zw.N-1⟩]
 else bif a.Op.toList==(str [60,61]).toList then [⟨x,y,a.Zx.N-a.Zw.N⟩]
 else bif a.Op.toList==(str [62]).toList then [⟨y,x,a.Zw.N-a.Zx.N-1⟩]
 else bif a.Op.toList==(str [62,61]).toList then [⟨y,x,a.Zw.N-a.Zx.N⟩]
 else [⟨x,y,a.Zx.N-a.Zw.N⟩,⟨y,x,a.Zw.N-a.Zx.N⟩]
theorem Zoh {N:Nat} (a:Y5) (x y:Int) (b:-1152921504606846976<=a.Zw.N/\a.Zw.N<=1152921504606846976) (c:-1152921504606846976<=a.Zx.N/\a.Zx.N<=1152921504606846976) :
  DT N a.Op ⟨x,a.Zw.N⟩ ⟨y,a.Zx.N⟩=some (Tm a x y):=by
 unfold DT Tm z51
 dsimp only
 rw [Xn (n:=a.Zx.N-a.Zw.N) (by omega) (by omega),Xn (n:=a.Zw.N-a.Zx.N) (by omega) (by omega),Xn (n:=a.Zx.N-a.Zw.N-1) (by omega) (by omega),Xn (n:=a.Zw.N-a.Zx.N-1) (by omega) (by omega),
  Xn (n:=a.Zx.N-a.Zw.N-0) (by omega) (by omega),Xn (n:=a.Zw.N-a.Zx.N-0) (by omega) (by omega),Int.sub_zero,Int.sub_zero]
 simp only [bS]
 cases (a.Op.toList==(str [60]).toList)<;>cases (a.Op.toList==(str [60,61]).toList)<;>cases (a.Op.toList==(str [62]).toList)<;>cases (a.Op.toList==(str [62,61]).toList)<;>rfl
theorem Zh1 (a:Wu) (g:T3) (x y:Int) (f:-1152921504606846976<=a.Zw.N/\a.Zw.N<=1152921504606846976) (h:-1152921504606846976<=a.Zx.N/\a.Zx.N<=1152921504606846976)
  (i:g.ZH.length<=4194304) (j:g.ZI.length<=4194304) (b:Bool) :
  Hl a g x y b=some (bif b then ⟨g.ZH,g.ZI++[(x,y)]⟩ else ⟨g.ZH++Tm (oA a) x y,g.ZI⟩):=by
 have c:(oA a).Zw=a.Zw:=rfl
 have d:(oA a).Zx=a.Zx:=rfl
 have e:(oA a).Op=a.Op:=rfl
 unfold Hl Tm
 rw [c,d,e,Xn (n:=a.Zx.N-a.Zw.N) (by omega) (by omega),Xn (n:=0-(a.Zx.N-a.Zw.N)) (by omega) (by omega),Xn (n:=a.Zx.N-a.Zw.N-1) (by omega) (by omega),Xn (n:=0-(a.Zx.N-a.Zw.N)-1) (by omega) (by omega)]
 rw [show 0-(a.Zx.N-a.Zw.N)=a.Zw.N-a.Zx.N by omega]
 cases b with
 | true=>rw [cT,cT,Xj (by simp;omega)];rfl
 | false =>
  rw [cF,cF]
  cases (a.Op.toList==(str [60]).toList) with
  | true=>rw [cT,cT,Xj (by simp;omega)];rfl
  | false =>
   rw [cF,cF]
   cases (a.Op.toList==(str [60,61]).toList) with
   | true=>rw [cT,cT,Xj (by simp;omega)];rfl
   | false =>
    rw [cF,cF]
    cases (a.Op.toList==(str [62]).toList) with
    | true=>rw [cT,cT,Xj (by simp;omega)];rfl
    | false =>
     rw [cF,cF]
     cases (a.Op.toList==(str [62,61]).toList) with
     | true=>rw [cT,cT,Xj (by simp;omega)];rfl
     | false=>rw [cF,cF,Xj (by simp;omega)];rfl
end
section
def dA (ms:List Z2) (j:Nat) (m:Z2):T0:=⟨m.Zt,m.Zy,(YC (ms.take j):Int),⟨[],[]⟩⟩
theorem MV {a:List Z2} {j:Nat} {m:Z2} (h:a[j]? = some m):(YK a 0)[j]? = some (dA a j m):=by
 rw [MW,h,Option.map_some,Int.zero_add];rfl
structure TAt (ms:List Z2) (i:Nat) (m:Z2) (t:Yq) (j k:Nat) (f:T2):Prop where
 q:∃ q,ms[j]? = some q/\q.Zy[k]? = some f/\Y6 (fun x:T2=>x.Zt.toList==t.Field.toList) q.Zy=(k:Int)/\QO (YK ms 0) (dA ms i m) t=some (dA ms j q)
theorem Zj1 {fs:List T2} {t:Yq} (h:S2 fs t≠0):∃ (k:Nat) (f:T2),fs[k]? = some f/\Y6 (fun x:T2=>x.Zt.toList==t.Field.toList) fs=(k:Int)/\S2 fs t=f.Zu.Zq:=by
 unfold S2 at h ⊢
 rcases Th (fun f:T2=>f.Zt.toList==t.Field.toList) fs with ⟨b,a⟩ | ⟨i,q,b,a,c⟩
 ·rw [a] at h;exact absurd rfl h
 ·rw [c];exact ⟨i,q,a,b,rfl⟩
theorem ZoS (b:List Z2) (a:List UInt8) (c:Int):(YK b c).find? (fun x=>x.Zt.toList==a)=none/\b.find? (fun x=>x.Zt.toList==a)=none \/
  ∃ (j:Nat) (q:Z2),b[j]? = some q/\b.find? (fun x=>x.Zt.toList==a)=some q/\(YK b c).find? (fun x=>x.Zt.toList==a)=some ⟨q.Zt,q.Zy,c+(YC (b.take j):Int),⟨[],[]⟩⟩:=by
 induction b generalizing c with
 | nil=>exact .inl ⟨rfl,rfl⟩
 | cons m b h =>
  cases d:(m.Zt.toList==a) with
  | true =>
   refine .inr ⟨0,m,rfl,?_,?_⟩
   ·rw [List.find?_cons];simp only [d]
   ·rw [YK,List.find?_cons];simp only [d];simp [YC]
  | false =>
   rcases h (c+m.Zy.length) with ⟨e,f⟩ | ⟨j,q,e,f,g⟩
   ·refine .inl ⟨?_,?_⟩
    ·rw [YK,List.find?_cons];simp only [d];exact e
    ·rw [List.find?_cons];simp only [d];exact f
   ·refine .inr ⟨j+1,q,e,?_,?_⟩
    ·rw [List.find?_cons];simp only [d];exact f
    ·rw [YK,List.find?_cons];simp only [d];rw [g]
     have:(c+(m.Zy.length:Int))+(YC (b.take j):Int)=c+(YC ((m::b).take (j+1)):Int):=by
      rw [List.take_succ_cons];unfold YC
      rw [List.map_cons,List.sum_cons];omega
     rw [this]
theorem ZsB {p:ZT} {i:Nat} {m:Z2} {t:Yq} (e:p.ZE[i]? = some m) (h:kd p m t≠0):∃ (j k:Nat) (f:T2),TAt p.ZE i m t j k f/\kd p m t=f.Zu.Zq:=by
 unfold kd at h ⊢
 cases b:(!(t.Zv.toList==(str []).toList)) with
 | false =>
  rw [b,cF] at h
  rw [cF]
  have ⟨k,f,c,a,d⟩:=Zj1 h
  refine ⟨i,k,f,⟨m,e,c,a,?_⟩,d⟩
  unfold QO
  rw [b,cF]
 | true =>
  rw [b,cT] at h
  rw [cT]
  rcases ZoS p.ZE t.Zv.toList 0 with ⟨_,a⟩ | ⟨j,q,c,a,d⟩
  ·rw [a] at h;exact absurd rfl h
  ·rw [a] at h ⊢
   have ⟨k,f,g,l,n⟩:=Zj1 h
   refine ⟨j,k,f,⟨q,c,g,l,?_⟩,n⟩
   unfold QO
   rw [b,cT,d,Int.zero_add];rfl
end
section
structure Sm (N:Nat) (ms:List Z2):Prop where
 n:4194304 < N
 l:ms.length<=4194304
 f:∀ m∈ms,m.Zy.length<=4194304
 ne:∀ m∈ms,(m.Zt.toList==(str []).toList)=false
theorem Sm.b {N:Nat} {a:List Z2} (h:Sm N a):YC a<=17592186044416:=by
 have:=Zo0 a h.f
 have c:=h.l
 have:a.length * 4194304<=4194304 * 4194304:=Nat.mul_le_mul_right _ c
 omega
theorem Sm.d {N:Nat} {b:List Z2} (h:Sm N b):∀ x∈YK b 0,(x.Zt.toList==(str []).toList)=false:=fun x e=>by
 have ⟨j,a⟩:=List.mem_iff_getElem?.1 e
 rw [MW] at a
 cases c:b[j]? with
 | none=>rw [c] at a;cases a
 | some m=>rw [c] at a;cases a;exact h.ne m (Zb c)
theorem ZlA {N:Nat} {p:ZT} (c:Sm N p.ZE) {i:Nat} {m:Z2} {t:Yq} (g:p.ZE[i]? = some m) (h:t.Zq=1\/kd p m t≠0) :
  ∃ (x:Int) (b:Bool),-1<=x/\x < (YC p.ZE:Int)/\Ss N t (YK p.ZE 0) (i:Int)=some (⟨x,t.N⟩,b)/\Qu N (YK p.ZE 0) (i:Int) t=some x /\
   (b=true↔t.Zq=2/\kd p m t=2)/\(t.Zq≠1->VU N (YK p.ZE 0) x=some (kd p m t==2)):=by
 by_cases a:t.Zq=1
 ·refine ⟨-1,false,by omega,by omega,?_,?_,?_,fun h=>absurd a h⟩
  ·unfold Ss
   rw [show (t.Zq==(1:Int))=true by simpa using a,cT]
  ·unfold Qu
   rw [show (t.Zq==(1:Int))=true by simpa using a,cT]
  ·constructor
   ·intro h;cases h
   ·rintro ⟨h,_⟩;omega
 ·obtain ⟨j,k,f,⟨q,o,r,u,v⟩,w⟩:=ZsB g (h.resolve_left a)
  have B:=c.b
  have y:=c.n
  have s:=c.l
  have z:=c.f q (Zb o)
  have C:=Yf r
  have D:=RK p.ZE j _ o
  have E:=Gk p.ZE (j+1)
  have ⟨I,A⟩:=Zn7 c.d (MV g) v
  have hB:0<=(dA p.ZE j q).ZJ/\(dA p.ZE j q).ZJ<=17592186044416:=by
   show 0<=(YC (p.ZE.take j):Int)/\(YC (p.ZE.take j):Int)<=17592186044416
   omega
  have F:=Zrh (N:=N) y (by rw [TS];exact s) (MV g) a v z u r hB
  have G:=ZsH (N:=N) y (by rw [TS];exact s) a A z u hB
  have H:=ZlD (N:=N) p.ZE (by omega) s B o r
  refine ⟨(YC (p.ZE.take j):Int)+(k:Int),bif t.Zq==2 then f.Zu.Zq==2 else false,by omega,by omega,F,G,?_,fun _=>?_⟩
  ·rw [w]
   cases e:(t.Zq==(2:Int)) with
   | false =>
    rw [cF]
    have:¬ t.Zq=2:=by simpa using e
    constructor
    ·intro h;cases h
    ·rintro ⟨h,_⟩;exact absurd h this
   | true =>
    rw [cT]
    have:t.Zq=2:=by simpa using e
    simp [this]
  ·rw [H,w]
end
section
theorem Znr {N:Nat} {p:ZT} (l:Sm N p.ZE) {i:Nat} {m:Z2} {a:Wu} (n:p.ZE[i]? = some m) (h:Td p m (oA a))
  (o:-1152921504606846976<=a.Zw.N/\a.Zw.N<=1152921504606846976) (q:-1152921504606846976<=a.Zx.N/\a.Zx.N<=1152921504606846976) :
  ∃ (x y:Int) (b d:Bool),Ss N a.Zw (YK p.ZE 0) (i:Int)=some (⟨x,a.Zw.N⟩,b)/\Ss N a.Zx (YK p.ZE 0) (i:Int)=some (⟨y,a.Zx.N⟩,d) /\
   -1<=x/\x < (YC p.ZE:Int)/\-1<=y/\y < (YC p.ZE:Int)/\(b=true->VU N (YK p.ZE 0) x=some true/\VU N (YK p.ZE 0) y=some true) /\
   ∀ g:T3,g.ZH.length<=4194304->g.ZI.length<=4194304->DY N (YK p.ZE 0) (i:Int) a g=some (bif b then ⟨g.ZH,g.ZI++[(x,y)]⟩ else ⟨g.ZH++Tm (oA a) x y,g.ZI⟩):=by
 have ⟨a1,a2,_,_,a5,_⟩:=h
 have I:(oA a).Zw=a.Zw:=rfl
 have K:(oA a).Zx=a.Zx:=rfl
 rw [I] at a1 a5
 rw [K] at a2 a5
 have ⟨x,b,w,z,A,B,f,t⟩:=ZlA l n a1
 have ⟨y,d,C,D,E,F,O,G⟩:=ZlA l n a2
 refine ⟨x,y,b,d,A,E,w,z,C,D,fun e=>?_,fun g r s=>?_⟩
 ·have ⟨H,u⟩:=f.1 e
  have L:WH p m a.Zw=1:=by
   unfold WH Vb
   rw [H,u];rfl
  rw [L] at a5
  have M:a.Zx.Zq=2/\kd p m a.Zx=2:=by
   unfold WH at a5
   by_cases c:a.Zx.Zq=2
   ·by_cases v:kd p m a.Zx=2
    ·exact ⟨c,v⟩
    ·exfalso
     apply a5
     have:Vb p m a.Zx=kd p m a.Zx:=by unfold Vb;rw [c];rfl
     rw [this,c,show (kd p m a.Zx==2)=false by simpa using v];rfl
   ·exfalso
    apply a5
    rw [show (a.Zx.Zq==2)=false by simpa using c];rfl
  refine ⟨?_,?_⟩
  ·rw [t (by omega),u];rfl
  ·rw [G (by omega),M.2];rfl
 ·unfold DY
  rw [B,bS,F,bS]
  cases k:(a.Zw.Zq==(2:Int)) with
  | false =>
   have:b=false:=by
    cases e:b with
    | false=>rfl
    | true=>have:=(f.1 e).1;rw [this] at k;cases k
   rw [cF,this,Zh1 a g x y o q r s false]
  | true =>
   have j:a.Zw.Zq=2:=by simpa using k
   have:b=(kd p m a.Zw==2):=by
    rw [Bool.eq_iff_iff,f,j]
    simp
   rw [cT,t (by omega),bS,<- this,Zh1 a g x y o q r s b]
end
section
structure BN (N:Nat) (ms:List Z2) (g:T3):Prop where
 d:∀ d∈g.ZH,-1<=d.X/\d.X < (YC ms:Int)/\-1<=d.Y/\d.Y < (YC ms:Int)
 e:∀ e∈g.ZI,VU N (YK ms 0) e.1=some true/\VU N (YK ms 0) e.2=some true
theorem Zof (a:Y5) (x y:Int):(Tm a x y).length<=2:=by
 unfold Tm
 cases (a.Op.toList==(str [60]).toList)<;>cases (a.Op.toList==(str [60,61]).toList)<;>cases (a.Op.toList==(str [62]).toList)<;>cases (a.Op.toList==(str [62,61]).toList)<;>simp
theorem Zog (a:Y5) (x y:Int) (P:Int->Prop) (b:P x) (c:P y):∀ d∈Tm a x y,P d.X/\P d.Y:=by
 unfold Tm
 cases (a.Op.toList==(str [60]).toList)<;>cases (a.Op.toList==(str [60,61]).toList)<;>cases (a.Op.toList==(str [62]).toList)<;>cases (a.Op.toList==(str [62,61]).toList)<;>simp [b,c]
theorem ZpT {N:Nat} {p:ZT} {l:List Yg} (P:p.ZE=l.map oM) (R:Sm N p.ZE) {i:Nat} {m:Yg} (c:l[i]? = some m) (hw:m.Zz.length<=1000000)
  (S:∀ a∈m.Zz,Td p (oM m) (oA a)/\(-1152921504606846976<=a.Zw.N/\a.Zw.N<=1152921504606846976)/\(-1152921504606846976<=a.Zx.N/\a.Zx.N<=1152921504606846976)) :
  ∀ (xs:List Wu) (n k:Nat) (g:T3),m.Zz.drop k=xs->k<=m.Zz.length->xs.length < n->g.ZH.length<=2 * k->g.ZI.length<=k->BN N p.ZE g ->
   ∃ f,VV N (YK p.ZE 0) (i:Int) (oM m).Zz n (k:Int) g.ZH g.ZI=some (f.ZH,f.ZI)/\UB N l (YK p.ZE 0) (i:Int) n (k:Int) g=some f /\
    f.ZH.length<=2 * m.Zz.length/\f.ZI.length<=m.Zz.length/\BN N p.ZE f:=by
 have D:p.ZE[i]? = some (oM m):=by rw [P,List.getElem?_map,c];rfl
 have L:(oM m).Zz=m.Zz.map oA:=rfl
 intro xs
 induction xs with
 | nil =>
  intro n k g h C r hd he q
  obtain ⟨n,rfl⟩:=pS n (by simp at r;omega)
  have M:m.Zz.length<=k:=by simpa using h
  refine ⟨g,?_,?_,by omega,by omega,q⟩
  ·simp only [VV,Yr (show (oM m).Zz.length<=k by rw [L,List.length_map];exact M),cF]
  ·simp only [UB,Yj,c,bS,Yr M,cF]
 | cons a xs O =>
  intro n k g h C r hd he q
  obtain ⟨n,rfl⟩:=pS n (by simp at r;omega)
  have s:m.Zz[k]? = some a:=by
   have:=congrArg (fun z=>z[0]?) h
   simpa using this
  have t:=Yf s
  have j:(oM m).Zz[k]? = some (oA a):=by rw [L,List.getElem?_map,s];rfl
  have ⟨T,G,H⟩:=S a (Zb s)
  have ⟨x,y,b,b',I,K,U,V,W,X,Y,Z⟩:=Znr R D T G H
  have o:=Z g (by omega) (by omega)
  have E:(oA a).Zw=a.Zw:=rfl
  have F:(oA a).Zx=a.Zx:=rfl
  have u:=Zoh (N:=N) (oA a) x y G H
  have hdl:=Zof (oA a) x y
  have v:m.Zz.drop (k+1)=xs:=by rw [<- List.drop_drop,h];rfl
  cases b with
  | true =>
   rw [cT] at o
   have ⟨b1,b2⟩:=Y rfl
   have ⟨f,w,A,B⟩:=O n (k+1) ⟨g.ZH,g.ZI++[(x,y)]⟩ v (by omega) (by simp at r;omega) (by show g.ZH.length<=_;omega) (by show (g.ZI++[(x,y)]).length<=_;simp;omega)
    ⟨q.d,fun e c=>by
     rcases List.mem_append.1 c with c | c
     ·exact q.e e c
     ·rw [List.mem_singleton.1 c];exact ⟨b1,b2⟩⟩
   refine ⟨f,?_,?_,B⟩
   ·simp only [VV,Ym (Yf j),cT,Yj,j,bS,E,F,I,K]
    rw [Xj (by simp;omega),bS,YE (by omega)];exact w
   ·simp only [UB,Yj,c,bS,Ym t,cT,s,o]
    rw [YE (by omega)];exact A
  | false =>
   rw [cF] at o
   have ⟨f,w,A,B⟩:=O n (k+1) ⟨g.ZH++Tm (oA a) x y,g.ZI⟩ v (by omega) (by simp at r;omega) (by show (g.ZH++Tm (oA a) x y).length<=_;rw [lA];omega) (by show g.ZI.length<=_;omega)
    ⟨fun d c=>by
     rcases List.mem_append.1 c with c | c
     ·exact q.d d c
     ·obtain ⟨⟨c1,c2⟩,c3,c4⟩:=Zog (oA a) x y (fun z=>-1<=z/\z < (YC p.ZE:Int)) ⟨U,V⟩ ⟨W,X⟩ d c
      exact ⟨c1,c2,c3,c4⟩,q.e⟩
   refine ⟨f,?_,?_,B⟩
   ·simp only [VV,Ym (Yf j),cT,Yj,j,bS,E,F,I,K,cF]
    rw [E,F] at u
    rw [u,bS,Xj (by omega),bS,YE (by omega)];exact w
   ·simp only [UB,Yj,c,bS,Ym t,cT,s,o]
    rw [YE (by omega)];exact A
end
section
def Up (d:T1):Bool := !(decide (d.C < (-20000:Int)) || decide (d.C > (20000:Int)))
theorem ZpU (D:List T1) (f:D.length<=4194304):∀ (xs:List T1) (n k:Nat),D.drop k=xs->xs.length < n->UA D n (k:Int)=some (xs.all Up):=by
 intro xs
 induction xs with
 | nil =>
  intro n k h a
  obtain ⟨n,rfl⟩:=pS n (by simp at a;omega)
  have c:D.length<=k:=by simpa using h
  simp only [UA,Yr c,cF];rfl
 | cons d xs e =>
  intro n k h a
  obtain ⟨n,rfl⟩:=pS n (by simp at a;omega)
  have b:D[k]? = some d:=by
   have:=congrArg (fun z=>z[0]?) h
   simpa using this
  have:=e n (k+1) (by rw [<- List.drop_drop,h];rfl) (by simp at a;omega)
  simp only [UA,Ym (Yf b),cT,Yj,b,bS]
  rw [YE (by have:=Yf b;omega),this,List.all_cons]
  unfold Up
  cases decide (d.C < (-20000:Int))<;>cases decide (d.C > (20000:Int))<;>rfl
theorem Zo9 {N:Nat} {c:List Z2} (i:Sm N c) (g:T3) (s:g.ZH.length<=20) (t:g.ZI.length<=20) (p:BN N c g):Ma N (YK c 0) g=some (g.ZH.all Up):=by
 have a:=i.n
 have r:=i.l
 have j:∀ (xs:List (Int × Int)) (n k:Nat),g.ZI.drop k=xs->xs.length < n->Mb N (YK c 0) g n (k:Int)=some true:=by
  intro xs
  induction xs with
  | nil =>
   intro n k h a
   obtain ⟨n,rfl⟩:=pS n (by simp at a;omega)
   have m:g.ZI.length<=k:=by simpa using h
   simp only [Mb,Yr m,cF,ZcR]
   rw [show decide ((g.ZH.length:Int)<=(20:Int))=true by simp;omega,cT,show decide ((g.ZI.length:Int)<=(20:Int))=true by simp;omega]
  | cons e xs o =>
   intro n k h a
   obtain ⟨n,rfl⟩:=pS n (by simp at a;omega)
   have f:g.ZI[k]? = some e:=by
    have:=congrArg (fun z=>z[0]?) h
    simpa using this
   have ⟨q,t2⟩:=p.e e (Zb f)
   have:=o n (k+1) (by rw [<- List.drop_drop,h];rfl) (by simp at a;omega)
   simp only [Mb,Ym (Yf f),cT,Yj,f,bS,q,t2,Zg,cF]
   rw [YE (by have:=Yf f;omega)];exact this
 have one:∀ (xs:List T1) (n k:Nat),g.ZH.drop k=xs->xs.length < n->Mc N (YK c 0) g (YC c:Int) n (k:Int)=some (xs.all Up):=by
  intro xs
  induction xs with
  | nil =>
   intro n k h a
   obtain ⟨n,rfl⟩:=pS n (by simp at a;omega)
   have m:g.ZH.length<=k:=by simpa using h
   simp only [Mc,Yr m,cF,ZcS]
   exact j g.ZI N 0 rfl (by omega)
  | cons d xs o =>
   intro n k h a
   obtain ⟨n,rfl⟩:=pS n (by simp at a;omega)
   have f:g.ZH[k]? = some d:=by
    have:=congrArg (fun z=>z[0]?) h
    simpa using this
   have ⟨u,v,w,x⟩:=p.d d (Zb f)
   have:=o n (k+1) (by rw [<- List.drop_drop,h];rfl) (by simp at a;omega)
   simp only [Mc,Ym (Yf f),cT,Yj,f,bS]
   rw [show decide (d.X < (-1:Int))=false by simp;omega,show decide (d.X>=(YC c:Int))=false by simp;omega,show decide (d.Y < (-1:Int))=false by simp;omega,show decide (d.Y>=(YC c:Int))=false by simp;omega]
   simp only [cF]
   rw [YE (by have:=Yf f;omega),this,List.all_cons]
   unfold Up
   cases decide (d.C < (-20000:Int))<;>cases decide (d.C > (20000:Int))<;>rfl
 unfold Ma
 rw [ZfS c (by omega) r i.b,bS]
 exact one g.ZH N 0 rfl (by omega)
end
section
structure HY (N:Nat) (ms:List Z2) (g:T3):Prop where
 d:g.ZH.length<=20
 e:g.ZI.length<=20
 gd:BN N ms g
 c:g.ZH.all Up=true
theorem ZpS {N:Nat} {p:ZT} {l:List Yg} (v:p.ZE=l.map oM) (t:Sm N p.ZE) (I:∀ m∈l,m.Zz.length<=10)
  (K:∀ m∈l,∀ a∈m.Zz,Td p (oM m) (oA a)/\(-1152921504606846976<=a.Zw.N/\a.Zw.N<=1152921504606846976)/\(-1152921504606846976<=a.Zx.N/\a.Zx.N<=1152921504606846976)) :
  ∀ (xs:List Yg) (n k:Nat) (G:List T3),l.drop k=xs->k<=l.length->xs.length < n->G.length=k->(∀ g∈G,HY N p.ZE g) ->
   ∃ r,U7 N p.ZE (YK p.ZE 0) n (k:Int) G=some r/\SG N l (YK p.ZE 0) n (k:Int) G=some r /\
    ((∃ a,r=([],a,2))\/∃ A,A.length=l.length/\(∀ g∈A,HY N p.ZE g)/\r=(Xv (YK p.ZE 0) A,str [],0)):=by
 have i:p.ZE.length=l.length:=by rw [v,List.length_map]
 have hn0:=t.n
 have S:=t.l
 intro xs
 induction xs with
 | nil =>
  intro n k G h x u y c
  obtain ⟨n,rfl⟩:=pS n (by simp at u;omega)
  have T:l.length<=k:=by simpa using h
  have E:Nat.beq G.length (YK p.ZE 0).length=true:=by rw [TS,i,y,show k=l.length by omega];exact Nat.beq_refl _
  refine ⟨_,?_,?_,.inr ⟨G,by omega,c,rfl⟩⟩
  ·simp only [U7,Yr (show p.ZE.length<=k by omega),cF,E,cT]
  ·simp only [SG,Yr T,cF,E,cT]
 | cons m xs V =>
  intro n k G h x u y c
  obtain ⟨n,rfl⟩:=pS n (by simp at u;omega)
  have j:l[k]? = some m:=by
   have:=congrArg (fun z=>z[0]?) h
   simpa using this
  have o:=Yf j
  have b:p.ZE[k]? = some (oM m):=by rw [v,List.getElem?_map,j];rfl
  have q:=Zb j
  have U:=I m q
  have ⟨g,B,C,W,X,D⟩:=ZpT v t j (by omega) (K m q) m.Zz N 0 ⟨[],[]⟩ rfl (by omega) (by omega) (by simp) (by simp) ⟨fun d f=>(by cases f),fun e L=>(by cases L)⟩
  have F:=ZpU g.ZH (by omega) g.ZH N 0 rfl (by omega)
  have H:=Zo9 t g (by omega) (by omega) D
  have hi:decide ((k:Int)=(G.length:Int))=true:=by rw [y];simp
  have f:=MV b
  cases s:g.ZH.all Up with
  | true =>
   have ⟨r,O,P,R⟩:=V n (k+1) (G++[g]) (by rw [<- List.drop_drop,h];rfl) (by omega) (by simp at u;omega) (by simp;omega) (fun M w=>by
    rcases List.mem_append.1 w with h | h
    ·exact c M h
    ·rw [List.mem_singleton.1 h];exact ⟨by omega,by omega,D,s⟩)
   refine ⟨r,?_,?_,R⟩
   ·simp only [U7,Ym (Yf b),cT,Yj,b,bS,hi,f]
    rw [show VV N (YK p.ZE 0) (k:Int) (oM m).Zz N 0 [] []=some (g.ZH,g.ZI) from B,bS]
    dsimp only
    rw [show UA g.ZH N 0=some (g.ZH.all Up) from F,bS,s,cT,YE (by omega)];exact O
   ·simp only [SG,Ym o,cT,Yj,hi,f,bS]
    rw [show UB N l (YK p.ZE 0) (k:Int) N 0 ⟨[],[]⟩=some g from C,bS,H,bS,s,Zg,cF,YE (by omega)];exact P
  | false =>
   refine ⟨([],m.Zt,2),?_,?_,.inl ⟨_,rfl⟩⟩
   ·simp only [U7,Ym (Yf b),cT,Yj,b,bS,hi,f]
    rw [show VV N (YK p.ZE 0) (k:Int) (oM m).Zz N 0 [] []=some (g.ZH,g.ZI) from B,bS]
    dsimp only
    rw [show UA g.ZH N 0=some (g.ZH.all Up) from F,bS,s,cF];rfl
   ·simp only [SG,Ym o,cT,Yj,hi,f,bS]
    rw [show UB N l (YK p.ZE 0) (k:Int) N 0 ⟨[],[]⟩=some g from C,bS,H,bS,s,Bool.not_false,cT,j,bS]
end
section
def rP (l:List Yg):Z3:=⟨str [80],[str [65]],l,[]⟩
def sP (l:List Yg):ZT:=⟨str [80],[str [65]],l.map oM,[]⟩
theorem Zfb (l:List Yg):oP (rP l)=sP l:=by
 unfold oP rP sP
 simp only [oL]
theorem Zrf {s:ByteArray} (h:WW s=true):(s.toList==(str []).toList)=false:=by
 cases b:(s.toList==(str []).toList) with
 | false=>rfl
 | true =>
  exfalso
  have:s=str []:=Wh.1 b
  subst this
  have a:WW (str [])=false:=by kernel_rfl
  rw [a] at h;cases h
structure BP (l:List Yg):Prop where
 len:l.length<=40
 msg:∀ m∈l,W0 (oM m)
 sorts:QE (sP l)
 atoms:MD (sP l)
theorem npG {l:List Yg} (h:MG [sP l]):BP l:=by
 obtain ⟨⟨_,b,_⟩,_,c⟩:=h
 have ⟨_,_,e,_,_,_,d⟩:=b (sP l) (List.mem_singleton.2 rfl)
 have ⟨o,_,_⟩:=c (sP l) (List.mem_singleton.2 rfl)
 refine ⟨?_,fun m a=>d (oM m) (List.mem_map.2 ⟨m,a,rfl⟩),o.sorts,o.atoms⟩
 have:(sP l).ZE.length=l.length:=by show (l.map oM).length=_;rw [List.length_map]
 omega
theorem Zfa {N:Nat} (c:4194304 < N) {l:List Yg} (h:BP l):Sm N (l.map oM):=by
 refine ⟨c,by rw [List.length_map];have:=h.len;omega,fun m a=>?_,fun m a=>?_⟩
 ·obtain ⟨q,b,rfl⟩:=List.mem_map.1 a
  have:=(h.msg q b).2.1;omega
 ·obtain ⟨q,b,rfl⟩:=List.mem_map.1 a
  exact Zrf (h.msg q b).1
theorem Zn9 {N:Nat} (w:4194304 < N) (l:List Yg) (x:l.length<=4194304) (y:∀ m∈l,m.Zy.length<=4194304) (z:Zs N [sP l]) (A:Zr N [rP l]) (B:∀ m∈l,nM (oM m)) :
  ∃ r,z6 N (l.map oM)=some r/\z8 N l=some r/\(r.1=[]\/BP l/\YC (l.map oM)<=24/\∃ G,G.length=l.length/\(∀ g∈G,HY N (l.map oM) g)/\r=(Xv (YK (l.map oM) 0) G,str [],0)):=by
 have ⟨c,D,t,_⟩:=ZnW [sP l] z
 have ⟨d,d1,k⟩:=Zrx [rP l] A (fun p C=>by
  rw [List.mem_singleton.1 C]
  exact ⟨by show nL (oL []);simp only [oL,nL],B⟩)
 rw [List.map_cons,List.map_nil,Zfb] at k
 have P:PG N [⟨(str [80]),[(str [65])],l.map oM,[]⟩]=some c:=D
 have R:P9 N [⟨(str [80]),[(str [65])],l,[]⟩]=some d:=d1
 unfold z6 z8
 rw [P,R,bS,bS]
 by_cases h:MG [sP l]
 ·rw [show (c.ZM != (0:Int))=false by simpa using t.2 h,show (d.ZM != (0:Int))=false by simpa using k.2 h,cF,cF]
  have b:=npG h
  have o:=Zfa w b
  have q:∀ m∈l.map oM,m.Zy.length<=4194304:=o.f
  have u:=Zo7 (N:=N) (l.map oM) o.l q (l.map oM) N 0 [] 0 rfl (by rw [List.length_map];omega) rfl (by omega)
  have v:=ZrQ (N:=N) l x y l N 0 [] 0 rfl (by omega) rfl (by omega)
  rw [Nat.zero_add,List.nil_append] at u v
  rw [show Qw N (l.map oM) N [] 0 0=_ from u,show Qy N l N [] 0 0=_ from v]
  unfold Bx BK
  rw [show ((0:Nat):Int)=0 from rfl,Zja]
  by_cases Y:YC (l.map oM)<=24
  ·rw [show decide (((YC (l.map oM):Nat):Int) > (24:Int))=false by simp;omega,cF,cF]
   have S:∀ m∈l,∀ a∈m.Zz,Td (sP l) (oM m) (oA a)/\(-1152921504606846976<=a.Zw.N/\a.Zw.N<=1152921504606846976)/\(-1152921504606846976<=a.Zx.N/\a.Zx.N<=1152921504606846976):=by
    intro m j a n
    have s:oM m∈(sP l).ZE:=List.mem_map.2 ⟨m,j,rfl⟩
    have i:oA a∈(oM m).Zz:=List.mem_map.2 ⟨a,n,rfl⟩
    have ⟨E,F,_⟩:=(b.msg m j).2.2.2.2 (oA a) i
    have T:Vi a.Zw.N:=E.1
    have U:Vi a.Zx.N:=F.1
    unfold Vi at T U
    exact ⟨b.atoms (oM m) s (oA a) i,by omega,by omega⟩
   have V:∀ m∈l,m.Zz.length<=10:=fun m j=>by
    have:=(b.msg m j).2.2.1
    have e:(oM m).Zz.length=m.Zz.length:=by show (m.Zz.map oA).length=_;rw [List.length_map]
    omega
   have ⟨r,H,I,K⟩:=ZpS (N:=N) (p:=sP l) (l:=l) rfl o V S l N 0 [] rfl (by omega) (by omega) rfl (fun g b=>(by cases b))
   refine ⟨r,H,I,?_⟩
   rcases K with ⟨a,n⟩ | ⟨G,L,M,O⟩
   ·exact .inl (by rw [n])
   ·exact .inr ⟨b,Y,G,L,M,O⟩
  ·rw [show decide (((YC (l.map oM):Nat):Int) > (24:Int))=true by simp;omega,cT,cT]
   exact ⟨_,rfl,rfl,.inl rfl⟩
 ·have W:¬ c.ZM=0:=fun e=>h (t.1 e)
  have X:¬ d.ZM=0:=fun e=>h (k.1 e)
  rw [show (c.ZM != (0:Int))=true by simpa using W,show (d.ZM != (0:Int))=true by simpa using X,cT,cT]
  exact ⟨_,rfl,rfl,.inl rfl⟩
end
section
theorem Zax:∀ (a:List T0) (G:List T3) (k:Nat) (d:T0) (g:T3),a[k]? = some d->G[k]? = some g->(Xv a G)[k]? = some ⟨d.Zt,d.Zy,d.ZJ,g⟩
 | [],_,_,_,_,h,_=>by simp at h
 | _::_,[],_,_,_,_,h=>by simp at h
 | d::a,g::G,0,_,_,h1,h2=>by
  simp only [List.getElem?_cons_zero,Option.some.injEq] at h1 h2
  subst h1 h2;rfl
 | d::a,g::G,k+1,_,_,h1,h2=>by
  rw [List.getElem?_cons_succ] at h1 h2
  simp only [Xv,List.getElem?_cons_succ]
  exact Zax a G k _ _ h1 h2
theorem ZeP:∀ (a:List T0) (G:List T3),G.length=a.length->(Xv a G).length=a.length
 | [],G,h=>by cases G<;>rfl
 | d::a,[],h=>by simp at h
 | d::a,g::G,h=>by simp only [Xv,Zf];rw [ZeP a G (by simpa using h)]
def W3 (ms:List Z2):List T2:=(ms.map (·.Zy)).flatten
theorem Zjo (a:List Z2):(W3 a).length=YC a:=by
 unfold W3 YC
 rw [List.length_flatten,List.map_map];rfl
theorem ZjP:∀ (a:List Z2) (c:Int) (G:List T3),G.length=a.length->((Xv (YK a c) G).map (·.Zy)).flatten=W3 a
  | [],c,G,h=>by cases G<;>rfl
  | m::a,c,[],h=>by simp at h
  | m::a,c,g::G,h=>by
    have:=ZjP a (c+m.Zy.length) G (by simpa using h)
    simp only [YK,Xv,List.map_cons,List.flatten_cons,W3] at this ⊢
    rw [this]
theorem ZoQ {N:Nat} (l:List T0) (e:l.length < N) (o:l.length<=4194304) (f:((l.map (·.Zy)).flatten).length<=4194304):HG N l=some ((l.map (·.Zy)).flatten):=by
  unfold HG
  have key:∀ (r:List T0) (n k:Nat) (a:List T2),l.drop k=r->r.length < n->(a++(r.map (·.Zy)).flatten).length<=4194304->Mv l n a (k:Int)=some (a++(r.map (·.Zy)).flatten):=by
    intro r
    induction r with
    | nil =>
      intro n k a h b c
      obtain ⟨n,rfl⟩:=pS n (by simp at b;omega)
      simp only [Mv,Yr (XF h),cF,Zdk]
      simp
    | cons d r m =>
      intro n k a h b c
      obtain ⟨n,rfl⟩:=pS n (by simp at b;omega)
      have ⟨g,i,j⟩:=XE h
      simp only [List.map_cons,List.flatten_cons] at c ⊢
      simp only [Mv,Ym g,cT,Yj,i,bS]
      rw [Xj (by simp only [lA] at c;omega),bS,YE (by omega),m n (k+1) _ j (by simp at b;omega) (by rw [aA];exact c),aA]
  have:=key l N 0 [] rfl e (by simpa using f)
  simpa using this
theorem Zjp:∀ (a:List Z2) (x:Nat),x < YC a->∃ (j k:Nat) (m:Z2) (f:T2),a[j]? = some m/\m.Zy[k]? = some f/\x=YC (a.take j)+k/\(W3 a)[x]? = some f
 | [],x,h=>by simp [YC] at h
 | m::a,x,h=>by
  by_cases b:x < m.Zy.length
  ·refine ⟨0,x,m,m.Zy[x],rfl,Za b,by simp [YC],?_⟩
   unfold W3
   rw [List.map_cons,List.flatten_cons,Zm b,Za b]
  ·have g:x-m.Zy.length < YC a:=by
    unfold YC at h ⊢
    rw [List.map_cons,List.sum_cons] at h;omega
   have ⟨j,k,q,f,d,e,i,c⟩:=Zjp a (x-m.Zy.length) g
   refine ⟨j+1,k,q,f,d,e,?_,?_⟩
   ·have:YC ((m::a).take (j+1))=m.Zy.length+YC (a.take j):=by
     rw [List.take_succ_cons];unfold YC
     rw [List.map_cons,List.sum_cons]
    omega
   ·unfold W3 at c ⊢
    rw [List.map_cons,List.flatten_cons,Zn (by omega)];exact c
theorem ZlE {N:Nat} {a:List Z2} (c:Sm N a) {x:Int} (h:VU N (YK a 0) x=some true):∃ (k:Nat) (f:T2),x=(k:Int)/\(W3 a)[k]? = some f/\f.Zu.Zq=2:=by
 have p:=c.n
 have d:=c.l
 by_cases g:x>=0
 ·obtain ⟨k,rfl⟩:∃ k:Nat,x=(k:Int):=⟨x.toNat,by omega⟩
  by_cases o:k < YC a
  ·have ⟨j,i,m,f,a1,a2,a3,a4⟩:=Zjp a k o
   have e:=ZlD (N:=N) a (by omega) d c.b a1 a2
   rw [show ((YC (a.take j):Int)+(i:Int))=(k:Int) by omega,h] at e
   refine ⟨k,f,rfl,a4,?_⟩
   have:=Zk e
   simpa using this.symm
  ·exfalso
   unfold VU at h
   rw [show decide ((k:Int)>=(0:Int))=true by simp,cT,ZfS a (by omega) d c.b,bS,show decide ((k:Int) < (YC a:Int))=false by simp;omega,cF] at h
   cases h
 ·exfalso
  unfold VU at h
  rw [show decide (x>=(0:Int))=false by simpa using g,cF] at h
  cases h
theorem Zpa {N:Nat} {f:List Z2} (j:Sm N f) {g:T3} (h:HY N f g):Bv N g (W3 f)=some true:=by
 have c:=j.n
 have ⟨U,V,s,y⟩:=h
 have v:=Zjo f
 have o:∀ (xs:List (Int × Int)) (n k:Nat),g.ZI.drop k=xs->xs.length < n->RA N g (W3 f) n (k:Int)=some true:=by
  intro xs
  induction xs with
  | nil =>
   intro n k h c
   obtain ⟨n,rfl⟩:=pS n (by simp at c;omega)
   simp only [RA,Yr (XF h),cF,Zdn]
  | cons e xs r =>
   intro n k h c
   obtain ⟨n,rfl⟩:=pS n (by simp at c;omega)
   have ⟨l,i,m⟩:=XE h
   have ⟨z,t2⟩:=s.e e (Zb i)
   have ⟨W,Z⟩:=e
   have ⟨a,A,a1,a2,a3⟩:=ZlE j z
   have ⟨b,B,t,u,D⟩:=ZlE j t2
   dsimp only at a1 t
   subst a1 t
   have al:=Yf a2
   have bl:=Yf u
   have p:=r n (k+1) m (by simp at c;omega)
   obtain ⟨M,rfl⟩:∃ M,N=M+3:=⟨N-3,by omega⟩
   simp only [RA,Ym l,cT,Yj,i,bS]
   have i0:ZW [(a:Int),(b:Int)] 0=some (a:Int):=rfl
   have E:ZW [(a:Int),(b:Int)] 1=some (b:Int):=rfl
   have z0:decide ((a:Int) < 0)=false:=by simp
   have F:decide ((b:Int) < 0)=false:=by simp
   have G:decide ((a:Int)>=((W3 f).length:Int))=false:=by simp;omega
   have H:decide ((b:Int)>=((W3 f).length:Int))=false:=by simp;omega
   have w0:ZN ((0:Int)+1)=1:=by rw [Xn (by omega) (by omega)];rfl
   have I:ZN ((1:Int)+1)=2:=by rw [Xn (by omega) (by omega)];rfl
   have K:(A.Zu.Zq != (2:Int))=false:=by simpa using a3
   have L:(B.Zu.Zq != (2:Int))=false:=by simpa using D
   have O:decide ((0:Int) < 2)=true:=rfl
   have d1:decide ((1:Int) < 2)=true:=rfl
   have P:decide ((2:Int) < 2)=false:=rfl
   simp only [Bw,O,d1,P,i0,E,z0,F,G,H,Yj,a2,u,K,L,cT,cF,bS,w0,I,Zdo]
   rw [YE (by omega)];exact p
 have one:∀ (xs:List T1) (n k:Nat),g.ZH.drop k=xs->xs.length < n->Mw N g (W3 f) n (k:Int)=some true:=by
  intro xs
  induction xs with
  | nil =>
   intro n k h c
   obtain ⟨n,rfl⟩:=pS n (by simp at c;omega)
   simp only [Mw,Yr (XF h),cF,Zdp]
   exact o g.ZI N 0 rfl (by omega)
  | cons d xs r =>
   intro n k h c
   obtain ⟨n,rfl⟩:=pS n (by simp at c;omega)
   have ⟨l,i,m⟩:=XE h
   have w:=Zb i
   have ⟨c1,c2,c3,c4⟩:=s.d d w
   have hi:=List.all_eq_true.1 y d w
   unfold Up at hi
   have x:decide (d.C < (-20000:Int))=false:=by
    cases q:decide (d.C < (-20000:Int)) with
    | false=>rfl
    | true=>rw [q] at hi;cases hi
   have R:decide (d.C > (20000:Int))=false:=by
    cases q:decide (d.C > (20000:Int)) with
    | false=>rfl
    | true=>rw [q,x] at hi;cases hi
   have S:decide (XJ d.X d.Y < (-1:Int))=false:=by rw [decide_eq_false_iff_not];unfold XJ;split<;>omega
   have T:decide (Wy d.X d.Y>=((W3 f).length:Int))=false:=by rw [decide_eq_false_iff_not];unfold Wy;split<;>omega
   simp only [Mw,Ym l,cT,Yj,i,bS,S,T,x,R,cF]
   rw [YE (by omega)]
   exact r n (k+1) m (by simp at c;omega)
 unfold Bv
 rw [show decide ((g.ZH.length:Int) > (20:Int))=false by simp;omega,cF,show decide ((g.ZI.length:Int) > (20:Int))=false by simp;omega,cF]
 exact one g.ZH N 0 rfl (by omega)
theorem ZpJ {N:Nat} (s:List T0) (c:T0) (b:s.length < N) (f:s.length < 4611686018427387904):Br N s c=some (s.any fun x=>x.Zt.toList==c.Zt.toList):=by
 have e:DL N s c=some (Y6 (fun x=>x.Zt.toList==c.Zt.toList) s):=by
  unfold DL
  refine W2 s (fun x=>x.Zt.toList==c.Zt.toList) (PX N s c) (fun n k x a=>?_) (fun n k d=>?_) b
  ·simp only [PX,Ym (Yf a),cT,Yj,a,bS,Zdl]
   rw [YZ (by have:=Yf a;omega)]
  ·simp only [PX,Yr d,cF,Zcn]
 unfold Br
 rw [e,bS,TO]
theorem ZpK {N:Nat} (s:List T2) (c:T2) (b:s.length < N) (f:s.length < 4611686018427387904):Bu N s c=some (s.any fun x=>x.Zt.toList==c.Zt.toList):=by
 have e:DQ N s c=some (Y6 (fun x=>x.Zt.toList==c.Zt.toList) s):=by
  unfold DQ
  refine W2 s (fun x=>x.Zt.toList==c.Zt.toList) (P5 N s c) (fun n k x a=>?_) (fun n k d=>?_) b
  ·simp only [P5,Ym (Yf a),cT,Yj,a,bS,Zdm]
   rw [YZ (by have:=Yf a;omega)]
  ·simp only [P5,Yr d,cF,ZcA]
 unfold Bu
 rw [e,bS,TO]
theorem Zsk {N:Nat} (f:T2) (h:Te f) (e:SL f):Bs N f.Zu=some true:=by
 have ⟨_,c,_⟩:=h
 have ⟨d,a,b⟩:=e
 unfold Bs
 rcases c with c | c
 ·rw [c] at a b
  have a:(-1000:Int)<=f.Zu.Lo:=a
  have b:f.Zu.Hi<=1000:=b
  rw [c,show ((1:Int)==1)=true from rfl,cT,show decide (f.Zu.Lo>=(-1000:Int))=true by simpa using a,cT,dT d,cT,dT b]
 ·rw [c] at a b
  have a:(0:Int)<=f.Zu.Lo:=a
  have b:f.Zu.Hi<=40:=b
  rw [c,show ((2:Int)==1)=false from rfl,cF,show ((2:Int)==2)=true from rfl,cT,show decide (f.Zu.Lo>=(0:Int))=true by simpa using a,cT,dT d,cT,dT b]
theorem Zpb {N:Nat} (A:4194304 < N) {l:List Yg} (y:BP l) (hv:YC (l.map oM)<=24) {G:List T3} (hG:G.length=l.length) (B:∀ g∈G,HY N (l.map oM) g):Hn N (Xv (YK (l.map oM) 0) G)=some true:=by
 have hs:=Zfa A y
 have P:=y.len
 generalize p:l.map oM=a at *
 have hml:a.length=l.length:=by rw [<- p,List.length_map]
 have hjl:(Xv (YK a 0) G).length=a.length:=by rw [ZeP _ _ (by rw [TS];omega),TS]
 have t:=ZjP a 0 G (by omega)
 have F:QE ⟨str [80],[str [65]],a,[]⟩:=by have:=y.sorts;unfold sP at this;rwa [p] at this
 have H:∀ m∈a,W0 m:=fun m C=>by
  rw [<- p] at C
  obtain ⟨q,S,rfl⟩:=List.mem_map.1 C
  exact y.msg q S
 have hfn:=Zjo a
 unfold Hn
 rw [show decide (((Xv (YK a 0) G).length:Int) > (40:Int))=false by simp;omega,cF,ZoQ _ (by omega) (by omega) (by rw [t];omega),bS,t,show decide (((W3 a).length:Int) > (24:Int))=false by simp;omega,cF]
 have key:∀ (r n k:Nat),k+r=a.length->r < n->Sw N (Xv (YK a 0) G) (W3 a) n (YC (a.take k):Int) (k:Int)=some true:=by
  intro r
  induction r with
  | zero =>
   intro n k hk hr
   obtain ⟨n,rfl⟩:=pS n (by omega)
   simp only [Sw,Yr (show (Xv (YK a 0) G).length<=k by omega),cF,ZcU]
  | succ r ih =>
   intro n k hk hr
   obtain ⟨n,rfl⟩:=pS n (by omega)
   have I:k < a.length:=by omega
   have u:=Za I
   have v:=Za (show k < G.length by omega)
   generalize C:a[k]=m at *
   generalize hg:G[k]=g at *
   have hD:=Zax _ _ k _ _ (MV u) v
   have K:=Zb u
   have ⟨T,m2,m3,U,m5⟩:=H m K
   have ⟨V,W⟩:=F k m u
   have w:=ih n (k+1) (by omega) (by omega)
   rw [RK a k m u] at w
   have hb:=Gk a (k+1)
   rw [RK a k m u] at hb
   have c1:((Xv (YK a 0) G).take k).any (fun x=>x.Zt.toList==m.Zt.toList)=false:=by
    rw [List.any_eq_false]
    intro d s z
    obtain ⟨i,hi,rfl⟩:=List.mem_take_iff_getElem.1 s
    have L:i < a.length:=by omega
    have M:=Zax _ _ i _ _ (MV (Za L)) (Za (show i < G.length by omega))
    have e:=(List.getElem?_eq_some_iff.1 M).2
    rw [e] at z
    refine V a[i] ?_ (Wh.1 z)
    show a[i]∈a.take k
    rw [List.mem_take_iff_getElem]
    exact ⟨i,by omega,rfl⟩
   have l4:∀ (xs:List T2) (b j:Nat) (d:T0),d.Zy=m.Zy->d.ZK=g->m.Zy.drop j=xs->xs.length < b->Md N (W3 a) (YC (a.take k):Int) (k:Int) (Sw N (Xv (YK a 0) G) (W3 a) n) d b (j:Int)=some true:=by
    intro xs
    induction xs with
    | nil =>
     intro b j d s o h c
     obtain ⟨b,rfl⟩:∃ x,b=x+1:=⟨b-1,by simp at c;omega⟩
     simp only [Md,s,Yr (XF h),cF,ZcV,o]
     rw [Zpa hs (B g (Zb v)),bS,Zg,cF,YE (by omega),Xn (by omega) (by omega)]
     have e:((YC (a.take k):Int)+(m.Zy.length:Int))=((YC (a.take k)+m.Zy.length:Nat):Int):=by omega
     rw [e];exact w
    | cons f xs O =>
     intro b j d s o h c
     obtain ⟨b,rfl⟩:∃ x,b=x+1:=⟨b-1,by simp at c;omega⟩
     have ⟨X,E,Y⟩:=XE h
     have R:=U f (Zb E)
     have ⟨Z,f2⟩:=W j f E
     have c2:(m.Zy.take j).any (fun x=>x.Zt.toList==f.Zt.toList)=false:=by
      rw [List.any_eq_false]
      exact fun x D z=>Z x D (Wh.1 z)
     simp only [Md,s,Ym X,cT,Yj,E,bS]
     rw [ZfW A,bS,R.1,Zg,cF,Zsk f R f2,bS,Zg,cF,Sa (by omega),bS,
      ZpK _ _ (by rw [List.length_take];omega) (by rw [List.length_take];omega),bS,c2,cF,YE (by omega)]
     exact O b (j+1) d s o Y (by simp at c;omega)
   simp only [Sw,Ym (show k < (Xv (YK a 0) G).length by omega),cT,Yj,hD,bS]
   rw [ZkF A,bS]
   have e1:(dA a k m).Zt=m.Zt:=rfl
   have e2:(dA a k m).Zy=m.Zy:=rfl
   have e3:(dA a k m).ZJ=(YC (a.take k):Int):=rfl
   rw [e1,e2,e3,T,Zg,cF,show decide ((m.Zy.length:Int) > (4:Int))=false by simp;omega,cF,show ((YC (a.take k):Int) != (YC (a.take k):Int))=false by simp,cF,
    Sa (by omega),bS,ZpJ _ _ (by rw [List.length_take];omega) (by rw [List.length_take];omega),bS,c1,cF]
   exact l4 m.Zy N 0 _ rfl rfl rfl (by omega)
 have:=key a.length N 0 (by omega) (by omega)
 simpa [YC] using this
end
section
theorem BU {α:Type} {xs:List α} (F:Nat->Int->Option Bool) (b:∀ (n k:Nat) x,xs[k]? = some x->F n ((k+1:Nat):Int)=some true->F (n+1) (k:Int)=some true)
  (e:∀ (n k:Nat),xs.length<=k->F (n+1) (k:Int)=some true) {N:Nat} (f:xs.length < N):F N (0:Int)=some true:=by
 have key:∀ (l:List α) (n k:Nat),xs.drop k=l->l.length < n->F n (k:Int)=some true:=by
  intro l
  induction l with
  | nil =>
   intro n k h a
   obtain ⟨n,rfl⟩:=pS n (by simp at a;omega)
   exact e n k (XF h)
  | cons x l g =>
   intro n k h a
   obtain ⟨n,rfl⟩:=pS n (by simp at a;omega)
   have ⟨_,c,d⟩:=XE h
   exact b n k x c (g n (k+1) d (by simp at a;omega))
 exact key xs N 0 rfl f
theorem Zr3 {N:Nat} (a:List T1) (h:a.length < N) (e:a.length<=4194304):DZ N a a=some true:=by
 unfold DZ
 rw [show ((a.length:Int) != (a.length:Int))=false by simp,cF]
 refine BU (xs:=a) _ (fun n k x b c=>?_) (fun n k d=>?_) h
 ·simp only [Hm,Ym (Yf b),cT,Yj,b,bS,beq_self_eq_true,Bool.and_true,Zg,cF]
  rw [YE (by have:=Yf b;omega)];exact c
 ·simp only [Hm,Yr d,cF,ZcT]
theorem Zle {N:Nat} (a:List T0) (h:a.length < N) (q:a.length<=4194304) (r:4194304 < N) (m:∀ d∈a,d.Zy.length<=4194304/\d.ZK.ZH.length<=4194304/\d.ZK.ZI.length<=4194304):z9 N a a=some true:=by
 unfold z9
 rw [show ((a.length:Int) != (a.length:Int))=false by simp,cF]
 refine BU (xs:=a) _ (fun n k x e o=>?_) (fun n k g=>?_) h
 ·have ⟨s,p,t⟩:=m x (Zb e)
  have g:=Yf e
  simp only [SI,Ym g,cT,Yj,e,bS,beq_self_eq_true,bne_self_eq_false,Zg,cF]
  rw [Zr3 _ (by omega) p,bS,Zg,cF]
  refine BU (xs:=x.Zy) _ (fun i j f b c=>?_) (fun i j l=>?_) (by omega)
  ·simp only [HR,Ym (Yf b),cT,Yj,b,bS,beq_self_eq_true,Bool.and_true,Zg,cF]
   rw [YE (by have:=Yf b;omega)];exact c
  ·simp only [HR,Yr l,cF,ZdS]
   refine BU (xs:=x.ZK.ZI) _ (fun i j f b c=>?_) (fun i j l=>?_) (by omega)
   ·simp only [HQ,Ym (Yf b),cT,Yj,b,bS,beq_self_eq_true,Bool.and_true,Zg,cF]
    rw [YE (by have:=Yf b;omega)];exact c
   ·simp only [HQ,Yr l,cF,ZdR]
    rw [YE (by omega)];exact o
 ·simp only [SI,Yr g,cF,ZdQ]
theorem Zo1 {N:Nat} (m:4194304 < N) (d:T0) (o:d.Zy.length<=4194304) (p:d.ZK.ZH.length<=4194304) (q:d.ZK.ZI.length<=4194304):∃ r,D2 N d=some r:=by
 have j:∀ (xs:List (Int × Int)) (n k:Nat) (a:List T1),d.ZK.ZI.drop k=xs->xs.length < n->a.length+2 * xs.length<=33554432->∃ r,Me d n a (k:Int)=some r:=by
  intro xs
  induction xs with
  | nil =>
   intro n k a h b c
   obtain ⟨n,rfl⟩:=pS n (by simp at b;omega)
   exact ⟨a,by simp only [Me,Yr (XF h),cF,ZcW]⟩
  | cons x xs l =>
   intro n k a h b c
   obtain ⟨n,rfl⟩:=pS n (by simp at b;omega)
   have ⟨f,g,i⟩:=XE h
   rw [Zf] at c b
   have ⟨r,e⟩:=l n (k+1) (a++[⟨x.1,x.2,0⟩,⟨x.2,x.1,0⟩]) i (by omega) (by simp;omega)
   refine ⟨r,?_⟩
   simp only [Me,Ym f,cT,Yj,g,bS]
   rw [Xj (by simp;omega),bS,YE (by omega)];exact e
 have one:∀ (xs:List T2) (n k:Nat) (a:List T1),d.Zy.drop k=xs->xs.length < n->a.length+2 * xs.length<=16777216->∃ r,Mf N d n a (k:Int)=some r:=by
  intro xs
  induction xs with
  | nil =>
   intro n k a h b c
   obtain ⟨n,rfl⟩:=pS n (by simp at b;omega)
   simp only [List.length_nil] at c
   have ⟨r,e⟩:=j d.ZK.ZI N 0 (a++d.ZK.ZH) rfl (by omega) (by rw [lA];omega)
   refine ⟨r,?_⟩
   simp only [Mf,Yr (XF h),cF,ZcX]
   rw [Xj (by omega),bS];exact e
  | cons x xs l =>
   intro n k a h b c
   obtain ⟨n,rfl⟩:=pS n (by simp at b;omega)
   have ⟨f,g,i⟩:=XE h
   rw [Zf] at c b
   have ⟨r,e⟩:=l n (k+1) (a++[⟨ZN (d.ZJ+(k:Int)),-1,x.Zu.Hi⟩,⟨-1,ZN (d.ZJ+(k:Int)),ZN (0-x.Zu.Lo)⟩]) i (by omega) (by simp;omega)
   refine ⟨r,?_⟩
   simp only [Mf,Ym f,cT,Yj,g,bS]
   rw [Xj (by simp;omega),bS,YE (by omega)];exact e
 exact one d.Zy N 0 [] rfl (by omega) (by simp;omega)
theorem Zoa {N:Nat} (l:List Yg) (E:z4 N=some true) (hN:8389000<=N) (s:RP (rP l)) (t:∀ m∈l,nM (oM m)):S3 N l=some true:=by
 have a:4194304 < N:=by omega
 have T:l.length<=4194304:=Zd4 s
 have U:dL (oL (rP l).ZF)=0:=by show dL (oL [])=0;simp only [oL,dL]
 have x:cL (oL (rP l).ZF)=0:=by show cL (oL [])=0;simp only [oL,cL]
 have o:∀ p∈[rP l],RP p/\8388611+dL (oL p.ZF)<=N/\dL (oL p.ZF)<=4194304:=fun p h=>by
  rw [List.mem_singleton.1 h]
  exact ⟨s,by omega,by omega⟩
 have b:∀ p∈[rP l],RP p/\4194306+dL (oL p.ZF)<=N:=fun p h=>⟨(o p h).1,by have:=(o p h).2.1;omega⟩
 have V:V2 [rP l]=0:=by unfold V2;rw [List.map_cons,List.map_nil,List.sum_cons,x];rfl
 have W:Zs N [sP l]:=by
  have:=ZvF (N:=N) (l:=[rP l]) (by simp) o (by omega) (by omega)
  rwa [List.map_cons,List.map_nil,Zfb] at this
 have X:Zr N [rP l]:=⟨by simp,o,fun p h=>by rw [List.mem_singleton.1 h];omega,by omega⟩
 have ⟨f,e,_⟩:=ZoO a [rP l] (by simp) b (by omega)
 have q:=Zre a [rP l] (by simp) b
 have ⟨r,H,I,K⟩:=Zn9 a l T (fun m F=>(Zd5 s F).1) W X t
 unfold S3
 rw [E,bS,Zg,cF,show z5 N [⟨(str [80]),([(str [65])]:List ByteArray),l,([]:List ZY)⟩]=some f from e,bS]
 cases f with
 | false=>rfl
 | true =>
  rw [Zg,cF,show z7 N [⟨(str [80]),([(str [65])]:List ByteArray),l,([]:List ZY)⟩]=some ([rP l].map oP) from q,bS,List.map_cons,List.map_nil,Zfb,
   show ZW [sP l] (0:Int)=some (sP l) from rfl,bS,show z6 N (sP l).ZE=some r from H,bS,I,bS,beq_self_eq_true,Zg,cF,bne_self_eq_false,cF]
  rcases K with h | ⟨w,P,G,R,B,S⟩
  ·rw [h,Zle [] (by simp;omega) (by simp) a (fun d u=>(by cases u)),bS];rfl
  ·have c:(l.map oM).length=l.length:=List.length_map _
   have C:=w.len
   have Y:(Xv (YK (l.map oM) 0) G).length=l.length:=by rw [ZeP _ _ (by rw [TS,c];omega),TS,c]
   have g:∀ d∈Xv (YK (l.map oM) 0) G,d.Zy.length<=4194304/\d.ZK.ZH.length<=4194304/\d.ZK.ZI.length<=4194304:=by
    intro d u
    have ⟨k,A⟩:=List.mem_iff_getElem?.1 u
    have Z:=Yf A
    have y:k < (l.map oM).length:=by omega
    have i:=Za (show k < G.length by omega)
    have j:=Za y
    have:=Zax _ _ k _ _ (MV j) i
    rw [A] at this
    cases this
    have q:=B _ (Zb i)
    have hf:=(Zfa a w).f _ (Zb j)
    exact ⟨hf,by have:=q.d;dsimp only;omega,by have:=q.e;dsimp only;omega⟩
   rw [S]
   dsimp only
   rw [Zle _ (by omega) (by omega) a g,bS,Zg,cF]
   cases h0:(((Xv (YK (l.map oM) 0) G).length:Int)==(0:Int)) with
   | true=>rfl
   | false =>
    rw [cF]
    have n:0 < (Xv (YK (l.map oM) 0) G).length:=by
     have:¬ ((Xv (YK (l.map oM) 0) G).length:Int)=0:=by simpa using h0
     omega
    have D:=Za n
    have ⟨L,M,O⟩:=g _ (Zb D)
    have ⟨bs,v⟩:=Zo1 a _ L M O
    have z:=Zpb a w P R B
    unfold z10
    rw [show decide ((0:Int) < 0)=false from rfl,cF,show decide ((0:Int)>=((Xv (YK (l.map oM) 0) G).length:Int))=false by rw [decide_eq_false_iff_not];omega,cF,z,bS,Zg,cF,
     show ZW (Xv (YK (l.map oM) 0) G) (0:Int)=_ from Yj _ 0,D,bS,v]
    rfl
end
end Gp
section
namespace Gx
open Go Go.Kx
def ZjZ (x:T4):Prop:=((Lit.int .i64 x.Zq).wf=true)/\((Lit.int .i64 x.Lo).wf=true)/\((Lit.int .i64 x.Hi).wf=true)
def ZeR (x:T2):Prop:=(x.Zt.size<=bd)/\(ZjZ x.Zu)
def ZeT (x:Yq):Prop:=((Lit.int .i64 x.Zq).wf=true)/\(x.Zv.size<=bd)/\(x.Field.size<=bd)/\((Lit.int .i64 x.N).wf=true)
def ZeS (x:Wu):Prop:=(ZeT x.Zw)/\(x.Op.size<=bd)/\(ZeT x.Zx)
def SZ (x:Yg):Prop:=(x.Zt.size<=bd)/\(x.Zy.length<=bd/\∀ y∈x.Zy,ZeR y)/\(x.Zz.length<=bd/\∀ y∈x.Zz,ZeS y)
end Gx
end
section
namespace Gp
open Go Go.Kx Gx
set_option maxRecDepth 100000
theorem Znu (k:Nat):z4 (k+300)=some true:=by kernel_rfl
theorem Znb {l:List Yg} (h:l.length<=bd/\∀ y∈l,SZ y):RP (rP l):=by
 have ⟨d,e⟩:=h
 unfold bd at d
 refine ⟨by show (1:Nat)<=_;omega,?_,fun x c=>?_,?_,?_⟩
 ·show (l.map oM).length<=_;rw [List.length_map];omega
 ·obtain ⟨m,f,rfl⟩:=List.mem_map.1 c
  have ⟨_,a,b⟩:=e m f
  have a:=a.1;have b:=b.1
  unfold bd at a b
  exact ⟨by show m.Zy.length<=_;omega,by show (m.Zz.map oA).length<=_;rw [List.length_map];omega⟩
 ·show (oL []).length<=_;rw [Sd];simp
 ·show bL (oL []);simp only [oL,bL]
theorem ZqL {m:Yg} (h:SZ m):nM (oM m):=by
 have ⟨d,_,_,e⟩:=h
 unfold bd at d
 refine ⟨by show m.Zt.size<=_;omega,fun a c=>?_⟩
 obtain ⟨b,f,rfl⟩:=List.mem_map.1 c
 have ⟨g,_,i⟩:=e b f
 have j:=g.2.1;have k:=i.2.1
 unfold bd at j k
 exact ⟨by show b.Zw.Zv.size<=_;omega,by show b.Zx.Zv.size<=_;omega⟩
theorem plain:∀ (a:(List Yg)),(a.length<=bd/\∀ y∈a,SZ y)->∃ N,S3 N a=some true:=by
 intro l b
 exact ⟨20000000+300,Zoa l (Znu _) (by omega) (Znb b) fun m c=>ZqL (b.2 m c)⟩
end Gp
end
