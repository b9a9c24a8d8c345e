/- The plain law, part 2: what the functions compute answers as the statement says. -/
import Derived.Test.YtnlleampnlmdlaaGreatDoorExpandProblemsPlain1
set_option linter.all false
section
namespace Gp
open Go Go.Kx Gx
def Y9 {α:Type} (p:α->Bool) (xs:List α):Int:=match xs.findIdx? p with
 | some i=>(i:Int)
 | none=>-1
theorem RB {α:Type} (p:α->Bool) (xs:List α):decide (Y9 p xs>=0)=xs.any p:=by
 unfold Y9
 rw [<- List.findIdx?_isSome]
 cases h:xs.findIdx? p with
 | none=>simp
 | some i=>simp
theorem VO {α:Type} (xs:List α) (p:α->Bool) (F:Nat->Int->Option Int)
  (e:∀ (n k:Nat) x,xs[k]? = some x->F (n+1) (k:Int)=bif p x then some (k:Int) else F n ((k+1:Nat):Int))
  (f:∀ (n k:Nat),xs.length<=k->F (n+1) (k:Int)=some (-1)) {N:Nat} (g:xs.length < N):F N (0:Int)=some (Y9 p xs):=by
 have key:∀ (l:List α) (k n:Nat),xs.drop k=l->l.length < n->F n (k:Int)=some (match l.findIdx? p with | some i=>((k+i:Nat):Int) | none=>-1):=by
  intro l
  induction l with
  | nil =>
   intro k n h b
   obtain ⟨n,rfl⟩:=pS n (by simp at b;omega)
   rw [f n k (Xh h)];rfl
  | cons x l j =>
   intro k n h b
   obtain ⟨n,rfl⟩:=pS n (by simp at b;omega)
   have ⟨a,c,d⟩:=Xg h
   rw [e n k x c,List.findIdx?_cons]
   cases p x with
   | true=>simp
   | false =>
    rw [cF,j (k+1) n d (by simp at b;omega),if_neg (by simp)]
    cases l.findIdx? p with
    | none=>rfl
    | some i =>
     show some (((k+1+i:Nat):Int))=some (((k+(i+1):Nat):Int))
     rw [show k+1+i=k+(i+1) by omega]
 have:=key xs 0 N rfl g
 rw [show ((0:Nat):Int)=0 from rfl] at this
 rw [this]
 unfold Y9
 cases xs.findIdx? p with
 | none=>rfl
 | some i=>simp
theorem YT {n:Nat} (h:n < 9223372036854775807):ZM ((n:Int)+1)=((n+1:Nat):Int):=by rw [XL (by omega) (by omega)];omega
def Xk (v:ByteArray) (l:List ByteArray):Bool:=l.any fun x=>v.toList==x.toList
theorem WM (v:ByteArray) (l:List ByteArray):Xk v l=true↔v∈l:=by
 unfold Xk
 rw [List.any_eq_true]
 constructor
 ·rintro ⟨x,a,h⟩;rw [Xm.1 h];exact a
 ·exact fun h=>⟨v,h,by simp⟩
theorem ME {N:Nat} (l:List ByteArray) (b:l.length < N) (d:l.length < 4611686018427387904) (v:ByteArray):W7 N l v=some (Xk v l):=by
 unfold W7 LC
 rw [VO l (fun x=>v.toList==x.toList) (Sc l v) (fun n k x a=>?_) (fun n k c=>?_) b,bS,RB]
 ·rfl
 ·simp only [Sc,Yh (Yf a),cT,Ye,a,bS]
  rw [YT (by have:=Yf a;omega)]
 ·simp only [Sc,Yl c,cF,GF]
theorem SN {N:Nat} (l:List ByteArray) (b:l.length < N) (d:l.length < 4611686018427387904) (v:ByteArray):V7 N l v=some (Y9 (fun x=>x.toList==v.toList) l):=by
 unfold V7
 refine VO l (fun x=>x.toList==v.toList) (P7 l v) (fun n k x a=>?_) (fun n k c=>?_) b
 ·simp only [P7,Yh (Yf a),cT,Ye,a,bS]
  rw [YT (by have:=Yf a;omega)]
 ·simp only [P7,Yl c,cF,Zcu]
theorem M9 (l:List ByteArray) (v:ByteArray):decide (Y9 (fun x=>x.toList==v.toList) l>=(0:Int))=Xk v l:=by
 rw [RB,Bool.eq_iff_iff,WM,List.any_eq_true]
 constructor
 ·rintro ⟨x,a,h⟩;rw [<- Xm.1 h];exact a
 ·exact fun h=>⟨v,h,by simp⟩
def RF (x:ZJ):List ByteArray:=(if x.Zq=1\/x.Zq=2 then [x.ZA] else [])++(if x.Zq=1\/x.Zq=6 then x.To else [])
mutual
def SM:ZJ->List ByteArray
 | ⟨k,f,t,n,a,x,b⟩=>RF ⟨k,f,t,n,a,x,b⟩++VX b
def X4:List ZJ->List ByteArray
 | []=>[]
 | x::l=>SM x++X4 l
def VX:List (List ZJ)->List ByteArray
 | []=>[]
 | x::l=>X4 x++VX l
end
theorem Zeu (x:ZJ):SM x=RF x++VX x.ZC:=by cases x;simp only [SM]
theorem Zjf:∀ (l:List ZJ) (s:List ByteArray),l.foldl (fun s x=>s++SM x) s=s++X4 l
 | [],s=>by simp [X4]
 | x::l,s=>by rw [List.foldl_cons,Zjf l];simp only [X4,aA]
theorem Zje:∀ (l:List (List ZJ)) (s:List ByteArray),l.foldl (fun s x=>s++X4 x) s=s++VX l
 | [],s=>by simp [VX]
 | x::l,s=>by rw [List.foldl_cons,Zje l];simp only [VX,aA]
theorem Znl (x:ZJ):(RF x).length<=x.To.length+1:=by
 unfold RF
 split<;>split<;>simp
theorem Zmn {N:Nat} (rc) (x:ZJ) (s:List ByteArray) (k:Int) (ag) (h:s.length+(RF x).length<=4294967296) :
  (bif (x.Zq==(1:Int)) then (Mt N rc s k ag x true) else Mt N rc s k ag x (x.Zq==(2:Int)))=Rs rc k ag x N (s++RF x) (0:Int):=by
 unfold RF at h ⊢
 simp only [Mt,Bb,Ba,D9,cT]
 by_cases a:x.Zq=1
 ·rw [if_pos (.inl a),if_pos (.inl a)] at h ⊢
  simp only [lA,Zf,List.length_nil] at h
  simp only [a,beq_self_eq_true,cT]
  rw [YW (by simp;omega),bS,YW (by simp;omega),bS,aA]
 ·have e:(x.Zq==1)=false:=by simpa using a
  simp only [e,cF]
  by_cases b:x.Zq=2
  ·rw [if_pos (.inr b),if_neg (by omega)] at h ⊢
   have d:(x.Zq==6)=false:=by simp [b]
   simp only [lA,Zf,List.length_nil] at h
   simp only [b,beq_self_eq_true,cT]
   rw [YW (by simp;omega),bS]
   have:((2:Int)==6)=false:=rfl
   simp
  ·have f:(x.Zq==2)=false:=by simpa using b
   rw [if_neg (by omega)] at h ⊢
   simp only [f,cF]
   by_cases c:x.Zq=6
   ·rw [if_pos (.inr c)] at h ⊢
    simp only [c,beq_self_eq_true,cT]
    simp only [List.nil_append] at h ⊢
    rw [YW h,bS]
   ·have d:(x.Zq==6)=false:=by simpa using c
    rw [if_neg (by omega)]
    simp [d]
theorem Zg3:∀ (N:Nat) (xs:List ZJ) (a:List ByteArray),4194306+dL xs<=N->xs.length<=4194304->bL xs->a.length+(X4 xs).length<=4294967296->Ms N xs a=some (a++X4 xs)
 | 0,_,_,h,_,_,_=>by omega
 | N+1,xs,a,h,hs,hb,hc=>by
  show D8 N (Ms N) xs a=_
  unfold D8
  have u:4194304 < N:=by omega
  have f:∀ (k:Nat) (x:ZJ) (s:List ByteArray) (ag:List ByteArray->Int->Option (List ByteArray)),xs[k]? = some x->s.length+(VX x.ZC).length<=4294967296 ->
    Rs (Ms N) (k:Int) ag x N s (0:Int)=ag (s++VX x.ZC) ((k+1:Nat):Int):=by
   intro k x s ag d l
   have r:=Zb d
   have m:=(WT _).1 (Wy hb r)
   have o:=Wt r
   rw [Ws] at o
   have q:=Yf d
   have:=(Xz x.ZC (Rs (Ms N) (k:Int) ag x) (fun s b=>s++X4 b) (fun s=>ag s ((k+1:Nat):Int))
    (fun j s=>s.length+(VX (x.ZC.drop j)).length<=4294967296) (fun n j s b hi c=>?_) (fun n j s hi c=>?_) (N:=N) (s:=s) (by omega) (by rw [List.drop_zero];exact l)).1
   ·rw [this,Zje]
   ·rw [VM c] at hi
    simp only [VX,lA] at hi
    have g:=Zb c
    have i:=Vl m.2.2 g
    have t:=WK g
    have e:=Zg3 N b s (by omega) i.1 i.2 (by omega)
    refine ⟨?_,by rw [lA];omega⟩
    simp only [Rs,Yh (Yf c),cT,Ye,c,bS,e]
    rw [Yy (by have:=Yf c;omega)]
   ·simp only [Rs,Yl c,cF,ZcX]
    rw [Yy (by omega)]
  have:=(Xz xs (V8 N (Ms N) xs) (fun s x=>s++SM x) (fun s=>some s)
   (fun j s=>s.length+(X4 (xs.drop j)).length<=4294967296) (fun n k s x hi d=>?_) (fun n k s hi q=>?_) (N:=N) (s:=a) (by omega) (by rw [List.drop_zero];exact hc)).1
  ·rw [this,Zjf]
  ·rw [VM d] at hi
   simp only [X4,lA] at hi
   have p:=hi
   rw [Zeu,lA] at p
   refine ⟨?_,by rw [lA];omega⟩
   simp only [V8,Yh (Yf d),cT,Ye,d,bS]
   rw [Zmn _ _ _ _ _ (by omega),f k x _ _ d (by rw [lA];omega),Zeu,aA]
  ·simp only [V8,Yl q,cF,ZcW]
theorem ZhZ (q:ByteArray->Bool):∀ (l:List ByteArray) (s:List ByteArray),l.foldl (fun s x=>bif q x then s++[x] else s) s=s++l.filter q
 | [],s=>by simp
 | x::l,s=>by
  rw [List.foldl_cons,ZhZ q l,List.filter_cons]
  cases q x<;>simp
theorem Zpi {N:Nat} (i:4194304 < N) (a:List ByteArray) (k:a.length<=4194304) (xs:List ZJ) (h:4194306+dL xs<=N) (d:xs.length<=4194304) (e:bL xs) (f:(X4 xs).length<=4294967296) (g:(X4 xs).length < N) :
  Dr N a xs=some (a.filter fun r=>Xk r (X4 xs)):=by
 unfold Dr
 rw [Zg3 N xs [] h d e (by simpa using f),bS,List.nil_append]
 have:=(Xz a (Qr N a (X4 xs)) (fun s x=>bif Xk x (X4 xs) then s++[x] else s) (fun s=>some s) (fun j s=>s.length<=j)
  (fun n j s x hi c=>?_) (fun n j s hi b=>?_) (N:=N) (s:=[]) (by omega) (by simp)).1
 ·rw [this,ZhZ];simp
 ·have b:=Yf c
  simp only [Qr,Yh b,cT,Ye,c,bS,ME (X4 xs) g (by omega)]
  rw [Yy (by omega)]
  cases Xk x (X4 xs) with
  | true =>
   simp only [cT]
   rw [YW (by simp;omega),bS]
   exact ⟨rfl,by simp;omega⟩
  | false=>exact ⟨rfl,by simp only [cF];omega⟩
 ·simp only [Qr,Yl b,cF,Zcd]
end Gp
end
section
namespace Gp
open Go Go.Kx Gx
theorem ZnD {N:Nat} (s:List ZL) (c:ZL) (b:s.length < N) (e:s.length < 4611686018427387904):DL N s c=some (Y9 (fun x=>x.Zt.toList==c.Zt.toList) s):=by
 unfold DL
 refine VO s (fun x=>x.Zt.toList==c.Zt.toList) (Mc N s c) (fun n k x a=>?_) (fun n k d=>?_) b
 ·simp only [Mc,Yh (Yf a),cT,Ye,a,bS,Zb6]
  rw [YT (by have:=Yf a;omega)]
 ·simp only [Mc,Yl d,cF,Zcw]
theorem Zma {N:Nat} (s:List ZL) (c:ZL) (a:s.length < N) (b:s.length < 4611686018427387904):L7 N s c=some (s.any fun x=>x.Zt.toList==c.Zt.toList):=by
 unfold L7
 rw [ZnD s c a b,bS,RB]
theorem ZnN {N:Nat} (s:List ZS) (c:ZS) (b:s.length < N) (e:s.length < 4611686018427387904):GG N s c=some (Y9 (fun x=>x.Zt.toList==c.Zt.toList) s):=by
 unfold GG
 refine VO s (fun x=>x.Zt.toList==c.Zt.toList) (Pp N s c) (fun n k x a=>?_) (fun n k d=>?_) b
 ·simp only [Pp,Yh (Yf a),cT,Ye,a,bS,ZcA]
  rw [YT (by have:=Yf a;omega)]
 ·simp only [Pp,Yl d,cF,Za1]
theorem Zmd {N:Nat} (s:List ZS) (c:ZS) (a:s.length < N) (b:s.length < 4611686018427387904):DP N s c=some (s.any fun x=>x.Zt.toList==c.Zt.toList):=by
 unfold DP
 rw [ZnN s c a b,bS,RB]
theorem ZnO {N:Nat} (s:List T0) (c:T0) (b:s.length < N) (e:s.length < 4611686018427387904):GK N s c=some (Y9 (fun x=>x.Zt.toList==c.Zt.toList) s):=by
 unfold GK
 refine VO s (fun x=>x.Zt.toList==c.Zt.toList) (Ps N s c) (fun n k x a=>?_) (fun n k d=>?_) b
 ·simp only [Ps,Yh (Yf a),cT,Ye,a,bS,ZcB]
  rw [YT (by have:=Yf a;omega)]
 ·simp only [Ps,Yl d,cF,Za4]
theorem Zme {N:Nat} (s:List T0) (c:T0) (a:s.length < N) (b:s.length < 4611686018427387904):DR N s c=some (s.any fun x=>x.Zt.toList==c.Zt.toList):=by
 unfold DR
 rw [ZnO s c a b,bS,RB]
theorem ZnI {N:Nat} (s:List ZS) (c:Ys) (b:s.length < N) (e:s.length < 4611686018427387904):GH N s c=some (Y9 (fun x=>x.Zt.toList==c.Zv.toList) s):=by
 unfold GH
 refine VO s (fun x=>x.Zt.toList==c.Zv.toList) (Pq N s c) (fun n k x a=>?_) (fun n k d=>?_) b
 ·simp only [Pq,Yh (Yf a),cT,Ye,a,bS,Za6]
  rw [YT (by have:=Yf a;omega)]
 ·simp only [Pq,Yl d,cF,Za2]
theorem ZnJ {N:Nat} (s:List T0) (c:Ys) (b:s.length < N) (e:s.length < 4611686018427387904):GM N s c=some (Y9 (fun x=>x.Zt.toList==c.Field.toList) s):=by
 unfold GM
 refine VO s (fun x=>x.Zt.toList==c.Field.toList) (Pt N s c) (fun n k x a=>?_) (fun n k d=>?_) b
 ·simp only [Pt,Yh (Yf a),cT,Ye,a,bS,Za7]
  rw [YT (by have:=Yf a;omega)]
 ·simp only [Pt,Yl d,cF,Za5]
theorem ZnM {N:Nat} (s:List ZS) (c:ZJ) (b:s.length < N) (e:s.length < 4611686018427387904):GJ N s c=some (Y9 (fun x=>x.Zt.toList==c.Zt.toList) s):=by
 unfold GJ
 refine VO s (fun x=>x.Zt.toList==c.Zt.toList) (Pr N s c) (fun n k x a=>?_) (fun n k d=>?_) b
 ·simp only [Pr,Yh (Yf a),cT,Ye,a,bS,Za8]
  rw [YT (by have:=Yf a;omega)]
 ·simp only [Pr,Yl d,cF,Za3]
theorem Zmc {N:Nat} (s:List ZS) (c:ZJ) (a:s.length < N) (b:s.length < 4611686018427387904):DQ N s c=some (s.any fun x=>x.Zt.toList==c.Zt.toList):=by
 unfold DQ
 rw [ZnM s c a b,bS,RB]
theorem ZnK {N:Nat} (s:List T8) (c:ZJ) (b:s.length < N) (e:s.length < 4611686018427387904):DV N s c=some (Y9 (fun x=>x.name'.toList==c.Zt.toList) s):=by
 unfold DV
 refine VO s (fun x=>x.name'.toList==c.Zt.toList) (Mi N s c) (fun n k x a=>?_) (fun n k d=>?_) b
 ·simp only [Mi,Yh (Yf a),cT,Ye,a,bS,ZcD]
  rw [YT (by have:=Yf a;omega)]
 ·simp only [Mi,Yl d,cF,ZcE]
theorem Zmb {N:Nat} (s:List T8) (c:ZJ) (a:s.length < N) (b:s.length < 4611686018427387904):DU N s c=some (s.any fun x=>x.name'.toList==c.Zt.toList):=by
 unfold DU
 rw [ZnK s c a b,bS,RB]
theorem ZnL {N:Nat} (s:List T8) (c:ZJ) (b:s.length < N) (e:s.length < 4611686018427387904):DW N s c=some (Y9 (fun x=>bif x.name'.toList==c.Zt.toList then !x.hidden' else false) s):=by
 unfold DW
 refine VO s (fun x=>bif x.name'.toList==c.Zt.toList then !x.hidden' else false) (Mj N s c) (fun n k x a=>?_) (fun n k d=>?_) b
 ·simp only [Mj,Yh (Yf a),cT,Ye,a,bS,ZcG]
  rw [YT (by have:=Yf a;omega)]
  cases (x.name'.toList==c.Zt.toList)<;>rfl
 ·simp only [Mj,Yl d,cF,ZcF]
theorem ZnE {N:Nat} (s:List ZL) (c:ZJ) (b:s.length < N) (e:s.length < 4611686018427387904):DM N s c=some (Y9 (fun x=>x.Zt.toList==c.Zt.toList) s):=by
 unfold DM
 refine VO s (fun x=>x.Zt.toList==c.Zt.toList) (Md N s c) (fun n k x a=>?_) (fun n k d=>?_) b
 ·simp only [Md,Yh (Yf a),cT,Ye,a,bS,Za9]
  rw [YT (by have:=Yf a;omega)]
 ·simp only [Md,Yl d,cF,Zcx]
theorem ZnF {N:Nat} (s:List ZL) (c:ZL) (b:s.length < N) (e:s.length < 4611686018427387904):DN N s c=some (Y9 (fun x=>x.Zt.toList==c.Zt.toList) s):=by
 unfold DN
 refine VO s (fun x=>x.Zt.toList==c.Zt.toList) (Me N s c) (fun n k x a=>?_) (fun n k d=>?_) b
 ·simp only [Me,Yh (Yf a),cT,Ye,a,bS,ZcH]
  rw [YT (by have:=Yf a;omega)]
 ·simp only [Me,Yl d,cF,Zcy]
theorem ZnH {N:Nat} (s:List ZL) (c:ByteArray) (b:s.length < N) (e:s.length < 4611686018427387904):DO N s c=some (Y9 (fun x=>x.Zt.toList==c.toList) s):=by
 unfold DO
 refine VO s (fun x=>x.Zt.toList==c.toList) (Mf N s c) (fun n k x a=>?_) (fun n k d=>?_) b
 ·simp only [Mf,Yh (Yf a),cT,Ye,a,bS,ZcN]
  rw [YT (by have:=Yf a;omega)]
 ·simp only [Mf,Yl d,cF,Zcz]
theorem ZgQ {N:Nat} (s:List ZL) (c:ByteArray) (a:s.length < N) (b:s.length < 4611686018427387904):Da N s c=some (s.any fun x=>x.Zt.toList==c.toList):=by
 unfold Da
 rw [ZnH s c a b,bS,RB]
theorem ZnG {N:Nat} (s:List ByteArray) (c:T7) (d:s.length < N) (g:s.length < 4611686018427387904) (e:c.all'.length < N) (a:c.all'.length < 4611686018427387904):GP N s c=some (Y9 (fun x => !(c.all'.any fun q=>q.Zt.toList==x.toList)) s):=by
 unfold GP
 refine VO s (fun x => !(c.all'.any fun q=>q.Zt.toList==x.toList)) (Px N s c) (fun n k x b=>?_) (fun n k f=>?_) d
 ·simp only [Px,Yh (Yf b),cT,Ye,b,bS,Mo,ZgQ c.all' x e a]
  rw [YT (by have:=Yf b;omega)]
 ·simp only [Px,Yl f,cF,Zbf]
end Gp
end
section
namespace Gp
open Go Go.Kx Gx
def Vr:List ByteArray->List ByteArray->Prop
 | _,[]=>True
 | cs,a::r=>a ∉ cs/\Vr (cs++[a]) r
theorem Zef:∀ (b bs cs:List ByteArray),Vr cs (b++bs)↔Vr cs b/\Vr (cs++b) bs
 | [],bs,cs=>by simp [Vr]
 | a::r,bs,cs=>by
  simp only [List.cons_append,Vr,Zef r bs (cs++[a]),and_assoc,aA,List.nil_append]
structure Nt (c:T7) (P:Prop) (ns:List ByteArray) (n:Nat) (c':T7):Prop where
 all:c'.all'=c.all'
 p:c'.p'=c.p'
 len:c'.calls'.length<=c.calls'.length+n
 err:c'.out'.ZI=0↔c.out'.ZI=0/\P/\Vr c.calls' ns
 calls:c'.out'.ZI=0->c'.calls'=c.calls'++ns
 st:c.out'.ZI≠0->c'.out'=c.out'
def Ck (o:Option T7) (c:T7) (P:Prop) (ns:List ByteArray) (n:Nat):Prop:=∃ c',o=some c'/\Nt c P ns n c'
theorem Ck.iff {o c P Q ns n} (h:Ck o c P ns n) (k:P↔Q):Ck o c Q ns n:=by
 have ⟨a,e,g⟩:=h
 exact ⟨a,e,g.all,g.p,g.len,by rw [g.err,k],g.calls,g.st⟩
theorem Ck.le {o c P ns n m} (h:Ck o c P ns n) (k:n<=m):Ck o c P ns m:=by
 have ⟨a,e,g⟩:=h
 exact ⟨a,e,g.all,g.p,Nat.le_trans g.len (by omega),g.err,g.calls,g.st⟩
theorem Ck.skip (c:T7):Ck (some c) c True [] 0:=⟨c,rfl,rfl,rfl,Zo _,by simp [Vr],by simp,fun _=>rfl⟩
theorem Ck.note {N:Nat} (c:T7) (nm:ByteArray) {e:Int} (a:e≠0) (b:List ByteArray) (n:Nat):Ck (Y6 N c nm e) c False b n:=by
 unfold Y6
 by_cases h:c.out'.ZI=0
 ·rw [show (c.out'.ZI==(0:Int))=true by simpa using h,cT]
  exact ⟨_,rfl,rfl,rfl,Nat.le_add_right _ _,by simp [a],fun q=>absurd q a,fun q=>absurd h q⟩
 ·rw [show (c.out'.ZI==(0:Int))=false by simpa using h,cF]
  exact ⟨_,rfl,rfl,rfl,Nat.le_add_right _ _,by simp [h],fun q=>absurd q h,fun _=>rfl⟩
theorem Nt.seq {c P ns n c1 Q bs m c2} (g:Nt c P ns n c1) (a:Nt c1 Q bs m c2):Nt c (P/\Q) (ns++bs) (n+m) c2:=by
 refine ⟨by rw [a.all,g.all],by rw [a.p,g.p],Nat.le_trans a.len (by have:=g.len;omega),?_,fun j=>?_,fun h=>?_⟩
 ·rw [a.err,g.err,Zef]
  constructor
  ·rintro ⟨⟨b,d,e⟩,i,f⟩
   rw [g.calls (g.err.2 ⟨b,d,e⟩)] at f
   exact ⟨b,⟨d,i⟩,e,f⟩
  ·rintro ⟨b,⟨d,i⟩,e,f⟩
   refine ⟨⟨b,d,e⟩,i,?_⟩
   rw [g.calls (g.err.2 ⟨b,d,e⟩)]
   exact f
 ·rw [a.calls j,g.calls (a.err.1 j).1,aA]
 ·have k:=g.st h
  rw [a.st (by rw [k];exact h),k]
theorem Ck.seq {o:Option T7} {f:T7->Option T7} {c P Q ns bs n m} (h:Ck o c P ns n)
  (k:∀ a,a.all'=c.all'->a.p'=c.p'->a.calls'.length<=c.calls'.length+n->Ck (f a) a Q bs m):Ck (o.bind f) c (P/\Q) (ns++bs) (n+m):=by
 have ⟨a,e,g⟩:=h
 have ⟨b,d,i⟩:=k a g.all g.p g.len
 exact ⟨b,by rw [e];exact d,g.seq i⟩
theorem Nt.iff {c P Q ns n c'} (g:Nt c P ns n c') (k:P↔Q):Nt c Q ns n c':=⟨g.all,g.p,g.len,by rw [g.err,k],g.calls,g.st⟩
theorem Ck.test {N:Nat} {b:Bool} {c:T7} {nm:ByteArray} {e:Int} (a:e≠0):Ck (bif b then Y6 N c nm e else some c) c (b=false) [] 0:=by
 cases b with
 | true=>exact (Ck.note (N:=N) c nm a [] 0).iff (by simp)
 | false=>exact (Ck.skip c).iff (by simp)
theorem SA {α γ:Type} (xs:List α) (F:Nat->T7->Int->γ) (j:T7->γ) (b:Option T7->(T7->γ)->γ) (D:∀ c f,b (some c) f=f c)
  (P:Nat->α->Prop) (w:α->List ByteArray) (m:α->Nat) (a0:List ZL) (z:ZL) (B:Nat)
  (E:∀ (n k:Nat) x c,xs[k]? = some x->c.all'=a0->c.p'=z->c.calls'.length+((xs.drop k).map m).sum<=B->∃ o,F (n+1) c (k:Int)=b o (fun A=>F n A ((k+1:Nat):Int))/\Ck o c (P k x) (w x) (m x))
  (G:∀ (n k:Nat) c,xs.length<=k->F (n+1) c (k:Int)=j c) {N:Nat} (H:xs.length < N) (c:T7) (s:c.all'=a0) (t:c.p'=z) (hB:c.calls'.length+(xs.map m).sum<=B) :
  ∃ o,F N c (0:Int)=b o j/\Ck o c (∀ (k:Nat) x,xs[k]? = some x->P k x) (xs.flatMap w) (xs.map m).sum:=by
 have key:∀ (l:List α) (k n:Nat) (c:T7),xs.drop k=l->l.length < n->c.all'=a0->c.p'=z->c.calls'.length+(l.map m).sum<=B ->
   ∃ o,F n c (k:Int)=b o j/\Ck o c (∀ (i:Nat) x,l[i]? = some x->P (k+i) x) (l.flatMap w) (l.map m).sum:=by
  intro l
  induction l with
  | nil =>
   intro k n c h v s t hB
   obtain ⟨n,rfl⟩:=pS n (by simp at v;omega)
   refine ⟨some c,by rw [G n k c (Xh h),D],?_⟩
   exact (Ck.skip c).iff (by simp)
  | cons x l S =>
   intro k n c h v s t hB
   obtain ⟨n,rfl⟩:=pS n (by simp at v;omega)
   have ⟨a,e,d⟩:=Xg h
   have ⟨o1,u,A,C,g⟩:=E n k x c e s t (by rw [h];exact hB)
   subst C
   rw [D] at u
   rw [List.map_cons,List.sum_cons] at hB
   have ⟨I,K,L⟩:=S (k+1) n A d (by simp at v;omega) (by rw [g.all,s]) (by rw [g.p,t]) (by have:=g.len;omega)
   refine ⟨I,u.trans K,?_⟩
   have ⟨M,O,R⟩:=L
   refine ⟨M,O,(g.seq R).iff ?_⟩
   constructor
   ·rintro ⟨u,C⟩ i y r
    cases i with
    | zero=>simp only [List.getElem?_cons_zero,Option.some.injEq] at r;subst r;exact u
    | succ i=>rw [List.getElem?_cons_succ] at r;have:=C i y r;rwa [show k+(i+1)=k+1+i by omega]
   ·intro q
    refine ⟨q 0 x rfl,fun i y r=>?_⟩
    have:=q (i+1) y (by rw [List.getElem?_cons_succ];exact r)
    rwa [show k+(i+1)=k+1+i by omega] at this
 have:=key xs 0 N c rfl H s t hB
 simpa using this
end Gp
end
section
namespace Gp
open Go Go.Kx Gx
theorem VH {α:Type} (o:Option α):(o.bind fun x=>some x)=o:=by cases o<;>rfl
theorem RN {α:Type} {xs:List α} {k:Nat} (h:k<=xs.length):lsl xs none (some (k:Int))=some (xs.take k) :=
 Ziy (List.take_append_drop k xs).symm (by rw [List.length_take];omega)
theorem Zez {N:Nat} (c:T7) (l:List ByteArray) (k:Nat) (x:ByteArray) (e:l[k]? = some x) (j:l.length < N) (f:l.length < 4611686018427387904) (g:c.p'.ZD.length < N) (b:c.p'.ZD.length < 4611686018427387904) :
  Ck (Mh N c l (k:Int)) c (x∈c.p'.ZD/\x ∉ l.take k) [] 0:=by
 have i:=Yf e
 unfold Mh L8
 simp only [Ye,e,bS,ME _ g b,RN (Nat.le_of_lt i),VH]
 rw [ME _ (by rw [List.length_take];omega) (by rw [List.length_take];omega)]
 simp only [bS]
 cases a:Xk x c.p'.ZD with
 | false =>
  simp only [Bool.not_false,cT]
  refine (Ck.note c x (by decide) [] 0).iff ?_
  have:¬ x∈c.p'.ZD:=fun h=>by rw [(WM _ _).2 h] at a;cases a
  simp [this]
 | true =>
  simp only [Zg,cF]
  have a:=(WM _ _).1 a
  cases d:Xk x (l.take k) with
  | true =>
   simp only [cT]
   refine (Ck.note c x (by decide) [] 0).iff ?_
   have:=(WM _ _).1 d
   simp [this]
  | false =>
   simp only [cF]
   refine (Ck.skip c).iff ?_
   have:¬ x∈l.take k:=fun h=>by rw [(WM _ _).2 h] at d;cases d
   simp [this,a]
def Ss (p:ZL) (l:List ByteArray):Prop:=∀ (k:Nat) x,l[k]? = some x->x∈p.ZD/\x ∉ l.take k
def Bn (p:ZL) (x:ZJ):Prop:=Ss p (x.ZA::x.To)/\∃ m∈p.ZE,m.Zt=x.Zt
def QE (all:List ZL) (p:ZL) (x:ZJ):Prop:=∃ q,all.find? (fun q=>q.Zt.toList==x.Zt.toList)=some q/\q.ZD.length=x.To.length/\Ss p x.To
theorem Xx {α:Type} (xs:List α):(xs.map fun _=>0).sum=0:=by induction xs with
 | nil=>rfl
 | cons x l a=>rw [List.map_cons,List.sum_cons,a]
theorem Vp {α:Type} (xs:List α):(xs.flatMap fun _=>([]:List ByteArray))=[]:=by induction xs with
 | nil=>rfl
 | cons x l a=>rw [List.flatMap_cons,a];rfl
structure Sz (N:Nat) (c:T7):Prop where
 r:c.p'.ZD.length<=4194304
 m:c.p'.ZE.length<=4194304
 a:c.all'.length<=4194304
 n:8388609 < N
theorem Sz.of {N:Nat} {c b:T7} (h:Sz N c) (e:b.all'=c.all') (d:b.p'=c.p'):Sz N b:=⟨by rw [d];exact h.r,by rw [d];exact h.m,by rw [e];exact h.a,h.n⟩
theorem Zqi {N:Nat} (c:T7) (x:ZJ) (b:Sz N c) (s:x.To.length<=4194304):Ck (DT N c x) c (Bn c.p' x) [] 0:=by
 have t:=b.n
 unfold DT
 rw [YW (by simp;omega),bS,List.singleton_append]
 have ⟨o,e,h⟩:=SA (x.ZA::x.To) (fun n c i=>Mg N x (x.ZA::x.To) n c.all' c.p'.Zt c.p'.ZD c.p'.ZE c.p'.ZF c.calls' c.out'.ZH c.out'.Zt c.out'.ZI i)
  (fun c=>Hr N x c.all' c.p'.Zt c.p'.ZD c.p'.ZE c.p'.ZF c.calls' c.out'.ZH c.out'.Zt c.out'.ZI) Option.bind (fun _ _=>rfl)
  (fun k y=>y∈c.p'.ZD/\y ∉ (x.ZA::x.To).take k) (fun _=>[]) (fun _=>0) c.all' c.p' c.calls'.length
  (fun n k y d g p a _=>⟨_,by
   simp only [Mg,Yh (Yf g),cT]
   rw [YT (by have:=Yf g;simp at this;omega)],by
   have:=Zez (N:=N) d (x.ZA::x.To) k y g (by simp;omega) (by simp;omega) (by rw [a];have:=b.r;omega) (by rw [a];have:=b.r;omega)
   rw [a] at this;exact this⟩)
  (fun n k d q=>by simp only [Mg,Yl q,cF]) (N:=N) (by simp;omega) c rfl rfl (by rw [Xx];omega)
 rw [Xx,Vp] at h
 refine Eq.mp (congrArg (fun o=>Ck o c _ _ _) e.symm) ?_
 refine (Ck.seq h (f:=fun c=>Hr N x c.all' c.p'.Zt c.p'.ZD c.p'.ZE c.p'.ZF c.calls' c.out'.ZH c.out'.Zt c.out'.ZI) (Q:=∃ m∈c.p'.ZE,m.Zt=x.Zt) (bs:=[]) (m:=0) (fun d p a _=>?_))
 unfold Hr
 have u:=b.m
 rw [Zmc _ x (by rw [a];omega) (by rw [a];omega),bS]
 simp only [VH]
 refine (Ck.test (N:=N) (c:=d) (by decide)).iff ?_
 rw [a,<- Bool.not_eq_true',Bool.not_not,List.any_eq_true]
 constructor
 ·rintro ⟨m,j,l⟩;exact ⟨m,j,Xm.1 l⟩
 ·rintro ⟨m,j,l⟩;exact ⟨m,j,Xm.2 l⟩
theorem RA {α:Type} (p:α->Bool) (xs:List α):(Y9 p xs=-1/\xs.find? p=none)\/∃ (i:Nat) (x:α),Y9 p xs=(i:Int)/\xs[i]? = some x/\xs.find? p=some x:=by
 unfold Y9
 cases h:xs.findIdx? p with
 | none =>
  refine .inl ⟨rfl,?_⟩
  rw [List.findIdx?_eq_none_iff] at h
  rw [List.find?_eq_none]
  exact fun x b=>by rw [h x b];simp
 | some i =>
  rw [List.findIdx?_eq_some_iff_getElem] at h
  have ⟨a,d,e⟩:=h
  refine .inr ⟨i,xs[i],rfl,Za a,?_⟩
  rw [List.find?_eq_some_iff_getElem]
  exact ⟨d,i,a,rfl,fun j c=>by have:=e j c;simpa using this⟩
theorem Zl5 {N:Nat} (c:T7) (x:ZJ) (w:Sz N c) (O:x.To.length<=4194304) (F:c.calls'.length<=4194304):Ck (DX N c x) c (QE c.all' c.p' x) [x.As] 1:=by
 have P:=w.n
 have G:=w.a
 have M:∀ b:T7,b.calls'.length<=4194304->Ck (Mk N x b.all' b.p'.Zt b.p'.ZD b.p'.ZE b.p'.ZF b.calls' b.out'.ZH b.out'.Zt b.out'.ZI) b True [x.As] 1:=by
  intro b u
  unfold Mk
  rw [ME _ (by omega) (by omega),bS]
  cases d:Xk x.As b.calls' with
  | true =>
   have d:=(WM _ _).1 d
   simp only [cT]
   have ⟨B,e,g⟩:=Ck.note (N:=N) b x.As (e:=9) (by decide) [] 0
   rw [show (⟨b.all',⟨b.p'.Zt,b.p'.ZD,b.p'.ZE,b.p'.ZF⟩,b.calls',⟨b.out'.ZH,b.out'.Zt,b.out'.ZI⟩⟩:T7)=b from rfl,e,bS]
   have C:=g.len
   rw [YW (by simp;omega),bS]
   have v:¬ B.out'.ZI=0:=fun h=>(g.err.1 h).2.1
   refine ⟨_,rfl,g.all,g.p,by simp;omega,⟨fun h=>absurd h v,fun h=>absurd d h.2.2.1⟩,fun h=>absurd h v,g.st⟩
  | false =>
   have d:¬ x.As∈b.calls':=fun h=>by rw [(WM _ _).2 h] at d;cases d
   simp only [cF]
   rw [YW (by simp;omega),bS]
   exact ⟨_,rfl,rfl,rfl,by simp,by simp [Vr,d],fun _=>rfl,fun _=>rfl⟩
 have E:∀ b:T7,b.all'=c.all'->b.p'=c.p'->b.calls'.length<=4194304->Ck (Hs N x b.all' b.p'.Zt b.p'.ZD b.p'.ZE b.p'.ZF b.calls' b.out'.ZH b.out'.Zt b.out'.ZI) b (Ss c.p' x.To) [x.As] 1:=by
  intro b j l u
  unfold Hs
  have ⟨o,e,h⟩:=SA x.To (fun n c i=>Ml N x n c.all' c.p'.Zt c.p'.ZD c.p'.ZE c.p'.ZF c.calls' c.out'.ZH c.out'.Zt c.out'.ZI i)
   (fun c=>Mk N x c.all' c.p'.Zt c.p'.ZD c.p'.ZE c.p'.ZF c.calls' c.out'.ZH c.out'.Zt c.out'.ZI) Option.bind (fun _ _=>rfl)
   (fun k y=>y∈c.p'.ZD/\y ∉ x.To.take k) (fun _=>[]) (fun _=>0) c.all' c.p' b.calls'.length
   (fun n k y b z G A _=>⟨_,by
    simp only [Ml,Yh (Yf z),cT]
    rw [YT (by have:=Yf z;omega)],by
    have:=Zez (N:=N) b x.To k y z (by omega) (by omega) (by rw [A];have:=w.r;omega) (by rw [A];have:=w.r;omega)
    rw [A] at this;exact this⟩)
   (fun n k b H=>by simp only [Ml,Yl H,cF]) (N:=N) (by omega) b j l (by rw [Xx];omega)
  rw [Xx,Vp] at h
  refine Eq.mp (congrArg (fun o=>Ck o b _ _ _) e.symm) ?_
  refine (Ck.seq h (f:=fun c=>Mk N x c.all' c.p'.Zt c.p'.ZD c.p'.ZE c.p'.ZF c.calls' c.out'.ZH c.out'.Zt c.out'.ZI) (Q:=True) (bs:=[x.As]) (m:=1) (fun B I K C=>M B (by omega))).iff ?_
  exact ⟨fun q=>q.1,fun q=>⟨q,trivial⟩⟩
 unfold DX
 rw [ZnE _ x (by omega) (by omega),bS]
 rcases RA (fun q:ZL=>q.Zt.toList==x.Zt.toList) c.all' with ⟨u,d⟩ | ⟨i,q,u,d,D⟩
 ·rw [u,show decide ((-1:Int) < 0)=true from rfl,cT,VH]
  refine (Ck.note c x.Zt (by decide) [x.As] 1).iff ?_
  simp only [false_iff]
  rintro ⟨q,t,_⟩
  rw [d] at t;cases t
 ·rw [u,show decide ((i:Int) < 0)=false by simp,cF,Ye,d,bS]
  by_cases t:q.ZD.length=x.To.length
  ·rw [show ((q.ZD.length:Int) != (x.To.length:Int))=false by simp;omega,cF]
   refine (E c rfl rfl F).iff ⟨fun g=>⟨q,D,t,g⟩,?_⟩
   rintro ⟨L,s,_,g⟩;exact g
  ·rw [show ((q.ZD.length:Int) != (x.To.length:Int))=true by simp;omega,cT]
   refine (Ck.seq (Ck.note c x.Zt (e:=1) (by decide) [] 0) (Q:=Ss c.p' x.To) (bs:=[x.As]) (m:=1) (fun b j l C=>E b j l (by omega))).iff ?_
   constructor
   ·exact fun g=>g.1.elim
   ·rintro ⟨L,s,e,_⟩
    rw [D] at s;cases s;exact absurd e t
end Gp
end
section
namespace Gp
open Go Go.Kx Gx
def R4 (b:Bool) (ls:List T8):List T8:=ls.map fun o=>⟨o.name',o.tail' && b,o.hidden'⟩
def Uh (b:Bool) (ls:List T8):List T8:=ls.map fun o=>⟨o.name',o.tail',o.hidden' || b⟩
def HA (ls:List T8) (n:ByteArray):Prop:=∃ o,ls.find? (fun o=>bif o.name'.toList==n.toList then !o.hidden' else false)=some o/\o.tail'=true
def Uu (all:List ZL) (p:ZL) (ls:List T8) (x:ZJ):Prop :=
 (x.Zq=1->Bn p x)/\(x.Zq=2->x.ZA∈p.ZD)/\(x.Zq=3->∀ o∈ls,o.name'≠x.Zt)/\(x.Zq=4->HA ls x.Zt)/\(x.Zq=6->QE all p x)
def RH (ls:List T8) (x:ZJ):List T8:=Uh (x.Zq==5) (if x.Zq=3 then ls++[⟨x.Zt,true,false⟩] else ls)
mutual
def Te (all:List ZL) (p:ZL):List T8->ZJ->Prop
 | ls,⟨k,f,t,n,a,x,b⟩=>Uu all p ls ⟨k,f,t,n,a,x,b⟩/\VV all p (RH ls ⟨k,f,t,n,a,x,b⟩) b
def WE (all:List ZL) (p:ZL):List T8->List ZJ->Prop
 | _,[]=>True
 | ls,x::l=>Te all p (R4 l.isEmpty ls) x/\WE all p ls l
def VV (all:List ZL) (p:ZL):List T8->List (List ZJ)->Prop
 | _,[]=>True
 | ls,b::r=>WE all p ls b/\VV all p ls r
end
theorem Zam (all p ls) (x:ZJ):Te all p ls x↔Uu all p ls x/\VV all p (RH ls x) x.ZC:=by cases x;simp only [Te]
def TN (x:ZJ):List ByteArray:=if x.Zq=6 then [x.As] else []
mutual
def U4:ZJ->List ByteArray
 | ⟨k,f,t,n,a,x,b⟩=>TN ⟨k,f,t,n,a,x,b⟩++Rz b
def VD:List ZJ->List ByteArray
 | []=>[]
 | x::l=>U4 x++VD l
def Rz:List (List ZJ)->List ByteArray
 | []=>[]
 | b::r=>VD b++Rz r
end
theorem Zgr (x:ZJ):U4 x=TN x++Rz x.ZC:=by cases x;simp only [U4]
theorem Zdk:∀ l,VD l=l.flatMap U4
 | []=>rfl
 | x::l=>by simp only [VD,List.flatMap_cons,Zdk l]
theorem Zdj:∀ l,Rz l=l.flatMap VD
 | []=>rfl
 | x::l=>by simp only [Rz,List.flatMap_cons,Zdj l]
theorem Bw:∀ l,cL l=(l.map cI).sum
 | []=>rfl
 | x::l=>by simp only [cL,List.map_cons,List.sum_cons,Bw l]
theorem Bu:∀ l,YF l=(l.map cL).sum
 | []=>rfl
 | x::l=>by simp only [YF,List.map_cons,List.sum_cons,Bu l]
theorem ZiZ (all p ls):∀ l:List ZJ,WE all p ls l↔∀ (k:Nat) x,l[k]? = some x->Te all p (R4 (k+1==l.length) ls) x
 | []=>by simp [WE]
 | x::l=>by
  simp only [WE]
  rw [ZiZ all p ls l]
  constructor
  ·rintro ⟨b,c⟩ k y a
   cases k with
   | zero =>
    simp only [List.getElem?_cons_zero,Option.some.injEq] at a
    subst a
    have:(0+1==(x::l).length)=l.isEmpty:=by cases l<;>simp
    rw [this];exact b
   | succ k =>
    rw [List.getElem?_cons_succ] at a
    have:=c k y a
    have e:(k+1+1==(x::l).length)=(k+1==l.length):=by simp
    rw [e];exact this
  ·intro h
   refine ⟨?_,fun k y a=>?_⟩
   ·have:=h 0 x rfl
    have e:(0+1==(x::l).length)=l.isEmpty:=by cases l<;>simp
    rw [e] at this;exact this
   ·have:=h (k+1) y (by rw [List.getElem?_cons_succ];exact a)
    have e:(k+1+1==(x::l).length)=(k+1==l.length):=by simp
    rw [e] at this;exact this
theorem ZiY (all p ls):∀ l:List (List ZJ),VV all p ls l↔∀ (k:Nat) b,l[k]? = some b->WE all p ls b
 | []=>by simp [VV]
 | x::l=>by
  simp only [VV]
  rw [ZiY all p ls l]
  constructor
  ·rintro ⟨c,d⟩ k y a
   cases k with
   | zero=>simp only [List.getElem?_cons_zero,Option.some.injEq] at a;subst a;exact c
   | succ k=>rw [List.getElem?_cons_succ] at a;exact d k y a
  ·exact fun h=>⟨h 0 x rfl,fun k y a=>h (k+1) y (by rw [List.getElem?_cons_succ];exact a)⟩
theorem Ziz {α γ:Type} (g:α->α) (xs:List α) (F:Nat->List α->Int->γ) (a:List α->γ)
  (c:∀ (n k:Nat) v x,k < xs.length->v[k]? = some x->F (n+1) v (k:Int)=F n (v.set k (g x)) ((k+1:Nat):Int))
  (d:∀ (n k:Nat) v,xs.length<=k->F (n+1) v (k:Int)=a v) {N:Nat} (e:xs.length < N):F N xs (0:Int)=a (xs.map g):=by
 have key:∀ (B A:List α) (n:Nat),A.length+B.length=xs.length->B.length < n->F n (A++B) (A.length:Int)=a (A++B.map g):=by
  intro B
  induction B with
  | nil =>
   intro A n h b
   obtain ⟨n,rfl⟩:=pS n (by simp at b;omega)
   rw [d n _ _ (by simp at h;omega)];rfl
  | cons x B f =>
   intro A n h b
   obtain ⟨n,rfl⟩:=pS n (by simp at b;omega)
   rw [c n A.length _ x (by simp at h;omega) (ZdT A x B rfl),ZjL A x (g x) B rfl]
   have:=f (A++[g x]) n (by simp at h ⊢;omega) (by simp at b;omega)
   rw [aA,List.singleton_append,lA,List.length_singleton,aA,List.singleton_append] at this
   rw [this,List.map_cons]
 have:=key xs [] N (by simp) e
 simpa using this
theorem ZqU (b ls):(R4 b ls).length=ls.length:=by simp [R4]
theorem Znm (b ls):(Uh b ls).length=ls.length:=by simp [Uh]
set_option maxHeartbeats 1000000 in
theorem Zif:∀ (N:Nat) (c:T7) (l:List ZJ) (A:List T8),Sz 8388610 c->8388611+dL l<=N->l.length<=4194304->bL l->A.length+dL l<=4194304->c.calls'.length+cL l<=4194304 ->
  Ck (Vf N c l A) c (WE c.all' c.p' A l) (VD l) (cL l)
 | 0,_,_,_,_,h,_,_,_,_=>by omega
 | N+1,c,l,A,hs,h,hlen,hb,hls,hc=>by
  show Ck (Di N (Vf N) c l A) _ _ _ _
  unfold Di
  have hN:8388609 < N:=by omega
  have hsz:∀ s:T7,s.all'=c.all'->s.p'=c.p'->Sz N s:=fun s C z=>⟨by rw [z];exact hs.r,by rw [z];exact hs.m,by rw [C];exact hs.a,hN⟩
  have V:∀ s:T7,s.all'=c.all'->s.p'=c.p'->Sz 8388610 s:=fun s C z=>hs.of C z
  -- the blocks of one item
  have k7:∀ (k:Nat) (x:ZJ) (s:T7) (ms:List T8) (ag),l[k]? = some x->s.all'=c.all'->s.p'=c.p'->ms.length+WB x.ZC<=4194304->s.calls'.length+YF x.ZC<=4194304 ->
    ∃ o,V6 N (Vf N) (k:Int) ag x s.all' s.p'.Zt s.p'.ZD s.p'.ZE s.p'.ZF s.calls' s.out'.ZH s.out'.Zt s.out'.ZI ms =
     o.bind (fun t:T7=>ag t.all' t.p'.Zt t.p'.ZD t.p'.ZE t.p'.ZF t.calls' t.out'.ZH t.out'.Zt t.out'.ZI ((k+1:Nat):Int)) /\
     Ck o s (VV c.all' c.p' (Uh (x.Zq==5) ms) x.ZC) (Rz x.ZC) (YF x.ZC):=by
   intro k x s ms ag D C z T U
   have K:=Zb D
   have H:=(WT _).1 (Wy hb K)
   have W:=Wt K
   rw [Ws] at W
   have hk:=Yf D
   unfold V6
   rw [Ziz (fun o:T8=>(⟨o.name',o.tail',o.hidden' || (x.Zq==5)⟩:T8)) ms
    (fun n v i=>Qp N (Vf N) (k:Int) ag x s.all' s.p'.Zt s.p'.ZD s.p'.ZE s.p'.ZF s.calls' s.out'.ZH s.out'.Zt s.out'.ZI ms n v i)
    (fun v=>Dm N (Vf N) (k:Int) ag x s.all' s.p'.Zt s.p'.ZD s.p'.ZE s.p'.ZF s.calls' s.out'.ZH s.out'.Zt s.out'.ZI v)
    (fun n j v o w E=>by
     simp only [Qp,Yh w,cT,Ye,E,bS,Zay]
     rw [YT (by omega)]
     cases o.hidden'<;>simp)
    (fun n j v w=>by simp only [Qp,Yl w,cF]) (N:=N) (by omega)]
   unfold Dm
   have ⟨o,e,g⟩:=SA x.ZC (fun n c i=>PR (Vf N) (k:Int) ag x (Uh (x.Zq==5) ms) n c.all' c.p'.Zt c.p'.ZD c.p'.ZE c.p'.ZF c.calls' c.out'.ZH c.out'.Zt c.out'.ZI i)
    (fun c=>Dk (k:Int) ag c.all' c.p'.Zt c.p'.ZD c.p'.ZE c.p'.ZF c.calls' c.out'.ZH c.out'.Zt c.out'.ZI) Option.bind (fun _ _=>rfl)
    (fun _ b=>WE c.all' c.p' (Uh (x.Zq==5) ms) b) VD cL c.all' c.p' 4194304
    (fun n j b t w O R hc2=>by
     rw [VM w,List.map_cons,List.sum_cons] at hc2
     have X:=Zb w
     have Y:=Vl H.2.2 X
     have hdb:=WK X
     have:=Zif N t b (Uh (x.Zq==5) ms) (V t O R) (by omega) Y.1 Y.2 (by rw [Znm];omega) (by omega)
     rw [O,R] at this
     refine ⟨_,?_,this⟩
     simp only [PR,Yh (Yf w),cT,Ye,w,bS]
     rw [YT (by have:=Yf w;omega)])
    (fun n j t w=>by simp only [PR,Yl w,cF]) (N:=N) (by omega) s C z (by rw [<- Bu];omega)
   rw [<- Zdj,<- Bu] at g
   refine ⟨o,e.trans ?_,g.iff (ZiY _ _ _ _).symm⟩
   congr 1
   funext t
   unfold Dk
   rw [YT (by omega)]
  -- one item
  have k8:∀ (k:Nat) (x:ZJ) (s:T7) (ms:List T8) (ag),l[k]? = some x->s.all'=c.all'->s.p'=c.p'->ms.length+dI x<=4194304->s.calls'.length+cI x<=4194304 ->
    ∃ o,Hg N (Vf N) s.all' s.p'.Zt s.p'.ZD s.p'.ZE s.p'.ZF s.calls' s.out'.ZH s.out'.Zt s.out'.ZI (k:Int) ag x ms =
     o.bind (fun t:T7=>ag t.all' t.p'.Zt t.p'.ZD t.p'.ZE t.p'.ZF t.calls' t.out'.ZH t.out'.Zt t.out'.ZI ((k+1:Nat):Int)) /\
     Ck o s (Te c.all' c.p' ms x) (U4 x) (cI x):=by
   intro k x s ms ag D C z T U
   have K:=Zb D
   have H:=(WT _).1 (Wy hb K)
   rw [Ws] at T
   rw [Ud] at U
   have hS:=hsz s C z
   have Z:=H.1
   -- behind a first step
   have y:∀ (o1:Option T7) (P:Prop) (bs:List ByteArray) (m:Nat) (M:List T8),Ck o1 s P bs m->bs=TN x->m<=1->M.length+WB x.ZC<=4194304->(P↔Uu c.all' c.p' ms x)->Uh (x.Zq==5) M=RH ms x ->
     ∃ o,(o1.bind fun t:T7=>V6 N (Vf N) (k:Int) ag x t.all' t.p'.Zt t.p'.ZD t.p'.ZE t.p'.ZF t.calls' t.out'.ZH t.out'.Zt t.out'.ZI M) =
      o.bind (fun t:T7=>ag t.all' t.p'.Zt t.p'.ZD t.p'.ZE t.p'.ZF t.calls' t.out'.ZH t.out'.Zt t.out'.ZI ((k+1:Nat):Int))/\Ck o s (Te c.all' c.p' ms x) (U4 x) (cI x):=by
    rintro o1 P bs m M ⟨t,rfl,g⟩ rfl hm1 hns hP hin
    have ⟨o,e,c3,e3,g3⟩:=k7 k x t M ag D (by rw [g.all,C]) (by rw [g.p,z]) hns (by have:=g.len;omega)
    refine ⟨o,e,?_⟩
    have L:=(g.seq g3).iff (Q:=Te c.all' c.p' ms x) (by rw [Zam,hP,hin])
    rw [<- Zgr] at L
    exact Ck.le ⟨c3,e3,L⟩ (by rw [Ud];omega)
   have u:x.Zq≠6->([]:List ByteArray)=TN x:=fun F=>by unfold TN;rw [if_neg F]
   have B:x.Zq≠3->Uh (x.Zq==5) ms=RH ms x:=fun G=>by unfold RH;rw [if_neg G]
   unfold Hg
   by_cases h1:x.Zq=1
   ·rw [show (x.Zq==(1:Int))=true by simpa using h1,cT]
    refine y _ _ _ _ ms (Zqi s x hS Z) (u (by omega)) (by omega) (by omega) ?_ (B (by omega))
    rw [z];unfold Uu;constructor
    ·exact fun q=>⟨fun _=>q,by omega,by omega,by omega,by omega⟩
    ·exact fun q=>q.1 h1
   rw [show (x.Zq==(1:Int))=false by simpa using h1,cF]
   by_cases h2:x.Zq=2
   ·rw [show (x.Zq==(2:Int))=true by simpa using h2,cT]
    have I:=Zez (N:=N) s [x.ZA] 0 x.ZA rfl (by simp;omega) (by simp) (by have:=hS.r;omega) (by have:=hS.r;omega)
    refine y _ _ _ _ ms I (u (by omega)) (by omega) (by omega) ?_ (B (by omega))
    rw [z];unfold Uu;constructor
    ·exact fun q=>⟨by omega,fun _=>q.1,by omega,by omega,by omega⟩
    ·exact fun q=>⟨q.2.1 h2,by simp⟩
   rw [show (x.Zq==(2:Int))=false by simpa using h2,cF]
   by_cases G:x.Zq=3
   ·rw [show (x.Zq==(3:Int))=true by simpa using G,cT,Zmb ms x (by omega) (by omega),bS,YW (by simp;omega)]
    simp only [bS]
    have:=y (bif (ms.any fun o=>o.name'.toList==x.Zt.toList) then Y6 N s x.Zt 9 else some s) _ _ _ (ms++[⟨x.Zt,true,false⟩]) (Ck.test (by decide)) (u (by omega)) (by omega) (by simp;omega) (by
     unfold Uu
     rw [List.any_eq_false]
     constructor
     ·exact fun q=>⟨by omega,by omega,fun _ o E e=>q o E (by rw [e];simp),by omega,by omega⟩
     ·exact fun q o E e=>q.2.2.1 G o E (Xm.1 e)) (by unfold RH;rw [if_pos G])
    have ⟨o,e,g⟩:=this
    refine ⟨o,?_,g⟩
    rw [<- e]
    cases (ms.any fun o=>o.name'.toList==x.Zt.toList)<;>rfl
   rw [show (x.Zq==(3:Int))=false by simpa using G,cF]
   by_cases L:x.Zq=4
   ·rw [show (x.Zq==(4:Int))=true by simpa using L,cT,ZnL ms x (by omega) (by omega),bS]
    have hH:∀ P:Prop,(P↔HA ms x.Zt)->(P↔Uu c.all' c.p' ms x):=fun P q=>by
     rw [q];unfold Uu;constructor
     ·exact fun q=>⟨by omega,by omega,by omega,fun _=>q,by omega⟩
     ·exact fun q=>q.2.2.2.1 L
    rcases RA (fun o:T8=>bif o.name'.toList==x.Zt.toList then !o.hidden' else false) ms with ⟨q1,q2⟩ | ⟨i,o,q1,q2,q3⟩
    ·rw [q1,show decide ((-1:Int) < 0)=true from rfl,cT]
     refine y _ _ _ _ ms (Ck.note s x.Zt (by decide) [] 0) (u (by omega)) (by omega) (by omega) (hH _ ?_) (B (by omega))
     simp only [false_iff]
     rintro ⟨o,E,_⟩;rw [q2] at E;cases E
    ·rw [q1,show decide ((i:Int) < 0)=false by simp,cF,Ye,q2,bS]
     have:=y (bif !o.tail' then Y6 N s x.Zt 7 else some s) _ _ _ ms (Ck.test (by decide)) (u (by omega)) (by omega) (by omega) (hH _ (by
      unfold HA
      constructor
      ·exact fun q=>⟨o,q3,by simpa using q⟩
      ·rintro ⟨o',S,ht⟩;rw [q3] at S;cases S;simp [ht])) (B (by omega))
     have ⟨o2,e,g⟩:=this
     refine ⟨o2,?_,g⟩
     rw [<- e]
     cases o.tail'<;>rfl
   rw [show (x.Zq==(4:Int))=false by simpa using L,cF]
   by_cases F:x.Zq=6
   ·rw [show (x.Zq==(6:Int))=true by simpa using F,cT]
    refine y _ _ _ _ ms (Zl5 s x hS Z (by omega)) (by unfold TN;rw [if_pos F]) (by omega) (by omega) ?_ (B (by omega))
    rw [z,C];unfold Uu;constructor
    ·exact fun q=>⟨by omega,by omega,by omega,by omega,fun _=>q⟩
    ·exact fun q=>q.2.2.2.2 F
   ·rw [show (x.Zq==(6:Int))=false by simpa using F,cF]
    have:=y (some s) _ _ _ ms (Ck.skip s) (u F) (by omega) (by omega) (by
     unfold Uu;constructor
     ·exact fun q=>⟨by omega,by omega,by omega,by omega,by omega⟩
     ·exact fun _=>trivial) (B G)
    exact this
  have ⟨o,e,g⟩:=SA l (fun n c i=>W5 N (Vf N) l A n c.all' c.p'.Zt c.p'.ZD c.p'.ZE c.p'.ZF c.calls' c.out'.ZH c.out'.Zt c.out'.ZI i)
   (fun c=>Dj c.all' c.p'.Zt c.p'.ZD c.p'.ZE c.p'.ZF c.calls' c.out'.ZH c.out'.Zt c.out'.ZI) Option.bind (fun _ _=>rfl)
   (fun k x=>Te c.all' c.p' (R4 (k+1==l.length) A) x) U4 cI c.all' c.p' 4194304
   (fun n k x s D C z hc1=>by
    rw [VM D,List.map_cons,List.sum_cons] at hc1
    have K:=Zb D
    have W:=Wt K
    have hk:=Yf D
    have ⟨o,e,g⟩:=k8 k x s (R4 (k+1==l.length) A) (fun a b c d e f g h i j=>W5 N (Vf N) l A n a b c d e f g h i j) D C z (by rw [ZqU];omega) (by omega)
    refine ⟨o,?_,g⟩
    simp only [W5,Yh hk,cT,Ye,D,bS,z60]
    rw [YW (by simp;omega),bS,bS,List.nil_append]
    rw [Ziz (fun o:T8=>(⟨o.name',o.tail' && (k+1==l.length),o.hidden'⟩:T8)) A
     (fun m v i=>Qq N (Vf N) l s.all' s.p'.Zt s.p'.ZD s.p'.ZE s.p'.ZF s.calls' s.out'.ZH s.out'.Zt s.out'.ZI (k:Int) (W5 N (Vf N) l A n) x A m v i)
     (fun v=>Hg N (Vf N) s.all' s.p'.Zt s.p'.ZD s.p'.ZE s.p'.ZF s.calls' s.out'.ZH s.out'.Zt s.out'.ZI (k:Int) (W5 N (Vf N) l A n) x v)
     (fun m j v o w E=>by
      simp only [Qq,Yh w,cT,Ye,E,bS,Zay]
      rw [YT (by omega)]
      have:((k:Int)==ZM ((l.length:Int)-1))=(k+1==l.length):=by
       rw [XL (by omega) (by omega),Bool.eq_iff_iff];simp;omega
      rw [this]
      cases o.tail'<;>simp)
     (fun m j v w=>by simp only [Qq,Yl w,cF]) (N:=N) (by omega)]
    exact e)
   (fun n k s hk=>by simp only [W5,Yl hk,cF]) (N:=N) (by omega) c rfl rfl (by rw [<- Bw];omega)
  rw [<- Zdk,<- Bw] at g
  have e':=e.trans (show (o.bind fun c=>Dj c.all' c.p'.Zt c.p'.ZD c.p'.ZE c.p'.ZF c.calls' c.out'.ZH c.out'.Zt c.out'.ZI)=o from VH o)
  refine Eq.mp (congrArg (fun o=>Ck o c _ _ _) e'.symm) (g.iff (ZiZ _ _ _ _).symm)
end Gp
end
section
namespace Gp
open Go Go.Kx Gx
def Rv (f:T0):Prop:=f.Zu.Lo<=f.Zu.Hi/\(bif f.Zu.Zq==2 then 0 else -1000)<=f.Zu.Lo/\f.Zu.Hi<=(bif f.Zu.Zq==2 then 40 else 1000)
def QH (m:ZS):Prop:=∀ (j:Nat) f,m.Zy[j]? = some f->(∀ g∈m.Zy.take j,g.Zt≠f.Zt)/\Rv f
def HD (p:ZL):Prop:=∀ (k:Nat) m,p.ZE[k]? = some m->(∀ q∈p.ZE.take k,q.Zt≠m.Zt)/\QH m
theorem Zdi {α:Type} (l:List α) (f:α->ByteArray) (n:ByteArray):(l.any fun x=>(f x).toList==n.toList)=false↔∀ x∈l,f x≠n:=by
 rw [List.any_eq_false]
 exact ⟨fun h x a e=>h x a (Xm.2 e),fun h x a e=>h x a (Xm.1 e)⟩
set_option maxHeartbeats 1000000 in
theorem Zqz {N:Nat} (c:T7) (F:Sz N c) (H:∀ m∈c.p'.ZE,m.Zy.length<=4194304):Ck (Db N c) c (HD c.p') [] 0:=by
 have R:=F.n
 have S:=F.m
 unfold Db
 -- the range of one field
 have M:∀ (j:Nat) (f:T0) (l:T7) (ag),j < 4194304->∃ o,Ha N (j:Int) ag f l.all' l.p'.Zt l.p'.ZD l.p'.ZE l.p'.ZF l.calls' l.out'.ZH l.out'.Zt l.out'.ZI =
   o.bind (fun p:T7=>ag p.all' p.p'.Zt p.p'.ZD p.p'.ZE p.p'.ZF p.calls' p.out'.ZH p.out'.Zt p.out'.ZI ((j+1:Nat):Int))/\Ck o l (Rv f) [] 0:=by
  intro j f l ag t
  have G:∀ lo hi:Int,∃ o,L9 N (j:Int) ag f l.all' l.p'.Zt l.p'.ZD l.p'.ZE l.p'.ZF l.calls' l.out'.ZH l.out'.Zt l.out'.ZI lo hi =
   o.bind (fun p:T7=>ag p.all' p.p'.Zt p.p'.ZD p.p'.ZE p.p'.ZF p.calls' p.out'.ZH p.out'.Zt p.out'.ZI ((j+1:Nat):Int))/\Ck o l (f.Zu.Lo<=f.Zu.Hi/\lo<=f.Zu.Lo/\f.Zu.Hi<=hi) [] 0:=by
   intro lo hi
   refine ⟨bif decide (f.Zu.Lo > f.Zu.Hi) || (decide (f.Zu.Lo < lo) || decide (f.Zu.Hi > hi)) then Y6 N l f.Zt 2 else some l,?_,(Ck.test (by decide)).iff ?_⟩
   ·unfold L9
    rw [YT (by omega)]
    cases decide (f.Zu.Lo > f.Zu.Hi)<;>cases decide (f.Zu.Lo < lo)<;>cases decide (f.Zu.Hi > hi)<;>rfl
   ·simp only [Bool.or_eq_false_iff,decide_eq_false_iff_not];omega
  unfold Ha Rv
  cases (f.Zu.Zq==2) with
  | true=>exact G 0 40
  | false=>exact G (-1000) 1000
 -- the fields of one message
 have O:∀ (k:Nat) (m:ZS) (l:T7) (ag),k < 4194304->m.Zy.length<=4194304->∃ o,Hb N (k:Int) ag m l.all' l.p'.Zt l.p'.ZD l.p'.ZE l.p'.ZF l.calls' l.out'.ZH l.out'.Zt l.out'.ZI =
   o.bind (fun p:T7=>ag p.all' p.p'.Zt p.p'.ZD p.p'.ZE p.p'.ZF p.calls' p.out'.ZH p.out'.Zt p.out'.ZI ((k+1:Nat):Int))/\Ck o l (QH m) [] 0:=by
  intro k m l ag s L
  unfold Hb
  have ⟨o,e,g⟩:=SA m.Zy (fun n c i=>Tx N (k:Int) ag m n c.all' c.p'.Zt c.p'.ZD c.p'.ZE c.p'.ZF c.calls' c.out'.ZH c.out'.Zt c.out'.ZI i)
   (fun c=>Dd (k:Int) ag c.all' c.p'.Zt c.p'.ZD c.p'.ZE c.p'.ZF c.calls' c.out'.ZH c.out'.Zt c.out'.ZI) Option.bind (fun _ _=>rfl)
   (fun j f=>(∀ g∈m.Zy.take j,g.Zt≠f.Zt)/\Rv f) (fun _=>[]) (fun _=>0) l.all' l.p' l.calls'.length
   (fun n j f p t I y _=>by
    have u:=Yf t
    simp only [Tx,Yh u,cT,Ye,t,bS,RN (Nat.le_of_lt u)]
    rw [Zme _ f (by rw [List.length_take];omega) (by rw [List.length_take];omega),bS]
    have ⟨z,r,A⟩:=Ck.test (N:=N) (b:=(m.Zy.take j).any fun x=>x.Zt.toList==f.Zt.toList) (c:=p) (nm:=f.Zt) (e:=9) (by decide)
    have ⟨o,B,C,D,E⟩:=M j f z (fun a b c d e f g h i j=>Tx N (k:Int) ag m n a b c d e f g h i j) (by omega)
    refine ⟨o,?_,C,D,(A.seq E).iff (and_congr_left' (Zdi _ _ _))⟩
    rw [<- B]
    cases w:(m.Zy.take j).any fun x=>x.Zt.toList==f.Zt.toList with
    | true=>rw [w,cT] at r;rw [cT,r];rfl
    | false=>rw [w,cF] at r;cases r;rfl)
   (fun n j p t=>by simp only [Tx,Yl t,cF]) (N:=N) (by omega) l rfl rfl (by rw [Xx];omega)
  rw [Xx,Vp] at g
  refine ⟨o,e.trans ?_,g⟩
  congr 1
  funext p
  unfold Dd
  rw [YT (by omega)]
 have ⟨o,e,g⟩:=SA c.p'.ZE (fun n l i=>V5 N c n l.all' l.p'.Zt l.p'.ZD l.p'.ZE l.p'.ZF l.calls' l.out'.ZH l.out'.Zt l.out'.ZI i)
  (fun c=>Dc c.all' c.p'.Zt c.p'.ZD c.p'.ZE c.p'.ZF c.calls' c.out'.ZH c.out'.Zt c.out'.ZI) Option.bind (fun _ _=>rfl)
  (fun k m=>(∀ q∈c.p'.ZE.take k,q.Zt≠m.Zt)/\QH m) (fun _=>[]) (fun _=>0) c.all' c.p' c.calls'.length
  (fun n k m l s I y _=>by
   have v:=Yf s
   simp only [V5,Yh v,cT,Ye,s,bS,y,RN (Nat.le_of_lt v)]
   rw [Zmd _ m (by rw [List.length_take];omega) (by rw [List.length_take];omega),bS]
   have ⟨z,r,A⟩:=Ck.test (N:=N) (b:=(c.p'.ZE.take k).any fun x=>x.Zt.toList==m.Zt.toList) (c:=l) (nm:=m.Zt) (e:=9) (by decide)
   have ⟨o,B,C,D,E⟩:=O k m z (fun a b K d e f g h i j=>V5 N c n a b K d e f g h i j) (by omega) (H m (Zb s))
   refine ⟨o,?_,C,D,(A.seq E).iff (and_congr_left' (Zdi _ _ _))⟩
   rw [<- B]
   cases w:(c.p'.ZE.take k).any fun x=>x.Zt.toList==m.Zt.toList with
   | true =>
    rw [w,cT] at r;rw [cT,<- y]
    rw [show (⟨l.all',⟨l.p'.Zt,l.p'.ZD,l.p'.ZE,l.p'.ZF⟩,l.calls',⟨l.out'.ZH,l.out'.Zt,l.out'.ZI⟩⟩:T7)=l from rfl,r];rfl
   | false=>rw [w,cF] at r;cases r;rw [cF,<- y])
  (fun n k l s=>by simp only [V5,Yl s,cF]) (N:=N) (by omega) c rfl rfl (by rw [Xx];omega)
 rw [Xx,Vp] at g
 have P:=e.trans (show (o.bind fun c=>Dc c.all' c.p'.Zt c.p'.ZD c.p'.ZE c.p'.ZF c.calls' c.out'.ZH c.out'.Zt c.out'.ZI)=o from VH o)
 exact Eq.mp (congrArg (fun o=>Ck o c _ _ _) P.symm) g
def MQ (fs:List T0) (t:Ys):Int:=match fs.find? (fun f=>f.Zt.toList==t.Field.toList) with
 | some f=>f.Zu.Zq
 | none=>0
def kd (p:ZL) (m:ZS) (t:Ys):Int:=bif !(t.Zv.toList==(str []).toList) then (match p.ZE.find? (fun q=>q.Zt.toList==t.Zv.toList) with
 | some q=>MQ q.Zy t
 | none=>0) else MQ m.Zy t
theorem Zna {N:Nat} (c:T7) (m:ZS) (t:Ys) (g:Sz N c) (k:∀ m∈c.p'.ZE,m.Zy.length<=4194304) (l:m.Zy.length<=4194304):DS N c m t=some (kd c.p' m t):=by
 have p:=g.n
 have o:=g.m
 have j:∀ (a:ByteArray) (fs:List T0) (w),fs.length<=4194304->Hq N t a fs w=some (MQ fs t):=by
  intro a fs w h
  unfold Hq MQ
  rw [ZnJ fs t (by omega) (by omega),bS]
  rcases RA (fun f:T0=>f.Zt.toList==t.Field.toList) fs with ⟨d,b⟩ | ⟨i,q,d,b,e⟩
  ·rw [d,b];rfl
  ·rw [d,e,show decide ((i:Int) < 0)=false by simp,cF,Ye,b];rfl
 unfold DS kd
 cases (!(t.Zv.toList==(str []).toList)) with
 | false=>rw [cF,cF,j _ _ _ l]
 | true =>
  rw [cT,cT,ZnI _ t (by omega) (by omega),bS]
  rcases RA (fun q:ZS=>q.Zt.toList==t.Zv.toList) c.p'.ZE with ⟨d,b⟩ | ⟨i,q,d,b,e⟩
  ·rw [d,b];rfl
  ·rw [d,e,show decide ((i:Int) < 0)=false by simp,cF,Ye,b,bS,j _ _ _ (k q (Zb b))]
def VR (p:ZL) (m:ZS) (t:Ys):Int:=bif t.Zq==1 then 0 else kd p m t
def WS (p:ZL) (m:ZS) (t:Ys):Nat:=bif t.Zq==2 then (bif VR p m t==2 then 1 else 0) else 0
def QD (p:ZL) (m:ZS) (a:YM):Prop :=
 (a.Zw.Zq=1\/kd p m a.Zw≠0)/\(a.Zx.Zq=1\/kd p m a.Zx≠0)/\(a.Zw.Zq=3->VR p m a.Zw=2)/\(a.Zx.Zq=3->VR p m a.Zx=2) /\
 (WS p m a.Zw+WS p m a.Zx≠1)/\(WS p m a.Zw+WS p m a.Zx=2->a.Op=str [61,61]/\a.Zw.N=0/\a.Zx.N=0)
def HB (p:ZL):Prop:=∀ m∈p.ZE,∀ a∈m.Zz,QD p m a
set_option maxHeartbeats 2000000 in
theorem ZlJ {N:Nat} (c:T7) (F:Sz N c) (Y:∀ m∈c.p'.ZE,m.Zy.length<=4194304/\m.Zz.length<=4194304):Ck (De N c) c (HB c.p') [] 0:=by
 have hN:=F.n
 have hm:=F.m
 have V:∀ l:T7,l.p'=c.p'->∀ m∈l.p'.ZE,m.Zy.length<=4194304:=fun l x m hq=>(Y m (by rw [<- x];exact hq)).1
 unfold De
 -- what is counted at the end
 have k5:∀ (j:Nat) (m:ZS) (a:YM) (l:T7) (t:Nat) (ag),j < 4194304->t<=2->∃ o,Dh N m (j:Int) ag a l.all' l.p'.Zt l.p'.ZD l.p'.ZE l.p'.ZF l.calls' l.out'.ZH l.out'.Zt l.out'.ZI (t:Int) =
   o.bind (fun q:T7=>ag q.all' q.p'.Zt q.p'.ZD q.p'.ZE q.p'.ZF q.calls' q.out'.ZH q.out'.Zt q.out'.ZI ((j+1:Nat):Int)) /\
   Ck o l (t≠1/\(t=2->a.Op=str [61,61]/\a.Zw.N=0/\a.Zx.N=0)) [] 0:=by
  intro j m a l t ag v ht
  refine ⟨bif ((t:Int)==1) || (((t:Int)==2) && (!(a.Op.toList==(str [61,61]).toList) || (a.Zw.N != 0 || a.Zx.N != 0))) then Y6 N l m.Zt 11 else some l,?_,(Ck.test (by decide)).iff ?_⟩
  ·unfold Dh
   rw [YT (by omega)]
   cases ((t:Int)==1)<;>cases ((t:Int)==2)<;>cases (a.Op.toList==(str [61,61]).toList)<;>cases (a.Zw.N != 0)<;>cases (a.Zx.N != 0)<;>rfl
  ·simp only [Bool.or_eq_false_iff,Bool.and_eq_false_iff,beq_eq_false_iff_ne,ZiV,bne_eq_false_iff_eq,ne_eq]
   constructor
   ·rintro ⟨C,u⟩
    refine ⟨fun e=>C (by rw [e];rfl),fun e=>?_⟩
    rcases u with u | u
    ·exact absurd (by rw [e];rfl) u
    ·exact ⟨u.1,u.2.1,u.2.2⟩
   ·rintro ⟨C,u⟩
    refine ⟨fun e=>C (by omega),?_⟩
    by_cases e:t=2
    ·have ⟨r1,r2,r3⟩:=u e;exact .inr ⟨r1,r2,r3⟩
    ·exact .inl (by omega)
 -- kinds, on one side
 have w:∀ (m:ZS) (t:Ys) (l:T7) (k:Int),∃ o:Option T7,o=(bif (t.Zq==3) && (k != 2) then Y6 N l m.Zt 11 else some l)/\Ck o l (t.Zq=3->k=2) [] 0:=by
  intro m t l k
  refine ⟨_,rfl,(Ck.test (by decide)).iff ?_⟩
  simp only [Bool.and_eq_false_iff,beq_eq_false_iff_ne,bne_eq_false_iff_eq]
  by_cases h:t.Zq=3<;>simp [h]
 have k9:∀ (m:ZS) (r s:Int) (l:T7) (B i:Nat) (ag) (t:Ys),(i=0\/i=1)->B<=1 ->
   Hf N m r s l.all' l.p'.Zt l.p'.ZD l.p'.ZE l.p'.ZF l.calls' l.out'.ZH l.out'.Zt l.out'.ZI (B:Int) (i:Int) ag t.Zq t.Zv t.Field t.N =
   (bif (t.Zq==3) && ((if i=0 then r else s) != 2) then Y6 N l m.Zt 11 else some l).bind fun q:T7 =>
    ag q.all' q.p'.Zt q.p'.ZD q.p'.ZE q.p'.ZF q.calls' q.out'.ZH q.out'.Zt q.out'.ZI ((B+(bif t.Zq==2 then (bif (if i=0 then r else s)==2 then 1 else 0) else 0):Nat):Int) ((i+1:Nat):Int):=by
  intro m r s l B i ag t hi U
  have k7:∀ l:T7,Hd r s (B:Int) (i:Int) ag t.Zq l.all' l.p'.Zt l.p'.ZD l.p'.ZE l.p'.ZF l.calls' l.out'.ZH l.out'.Zt l.out'.ZI =
    ag l.all' l.p'.Zt l.p'.ZD l.p'.ZE l.p'.ZF l.calls' l.out'.ZH l.out'.Zt l.out'.ZI ((B+(bif t.Zq==2 then (bif (if i=0 then r else s)==2 then 1 else 0) else 0):Nat):Int) ((i+1:Nat):Int):=by
   intro l
   unfold Hd
   rw [YT (n:=B) (by omega),YT (n:=i) (by omega)]
   rcases hi with rfl | rfl
   ·rw [if_pos rfl];cases (t.Zq==2)<;>cases (r==2)<;>rfl
   ·rw [if_neg (by omega)];cases (t.Zq==2)<;>cases (s==2)<;>rfl
  unfold Hf He
  simp only [k7]
  rcases hi with rfl | rfl
  ·rw [if_pos rfl];cases (t.Zq==3)<;>cases (r != 2)<;>rfl
  ·rw [if_neg (by omega)];cases (t.Zq==3)<;>cases (s != 2)<;>rfl
 have D:∀ (m:ZS) (r s:Int) (l:T7) (i:Nat) (ag) (t:Ys),(i=0\/i=1)->l.all'=c.all'->l.p'=c.p'->m.Zy.length<=4194304 ->
   Hc N m l.all' l.p'.Zt l.p'.ZD l.p'.ZE l.p'.ZF l.calls' l.out'.ZH l.out'.Zt l.out'.ZI r s (i:Int) ag t.Zq t.Zv t.Field t.N =
   (bif !(t.Zq==1) && (kd c.p' m t==0) then Y6 N l m.Zt 10 else some l).bind fun q:T7 =>
    ag q.all' q.p'.Zt q.p'.ZD q.p'.ZE q.p'.ZF q.calls' q.out'.ZH q.out'.Zt q.out'.ZI (if i=0 then (bif t.Zq==1 then r else kd c.p' m t) else r) (if i=0 then s else (bif t.Zq==1 then s else kd c.p' m t)) ((i+1:Nat):Int):=by
  intro m r s l i ag t hi A x z
  have E:=Zna (N:=N) l m t (F.of A x) (V l x) z
  rw [x] at E
  unfold Hc
  rw [show (⟨l.all',⟨l.p'.Zt,l.p'.ZD,l.p'.ZE,l.p'.ZF⟩,l.calls',⟨l.out'.ZH,l.out'.Zt,l.out'.ZI⟩⟩:T7)=l from rfl,
   show (⟨t.Zq,t.Zv,t.Field,t.N⟩:Ys)=t from rfl,E,bS,YT (n:=i) (by omega)]
  rcases hi with rfl | rfl
  ·cases (t.Zq==1)<;>cases (kd c.p' m t==0)<;>rfl
  ·cases (t.Zq==1)<;>cases (kd c.p' m t==0)<;>rfl
 -- one atom
 have one:∀ (j:Nat) (m:ZS) (a:YM) (l:T7) (ag),j < 4194304->m.Zy.length<=4194304->l.all'=c.all'->l.p'=c.p'->∃ o,Si N m (j:Int) ag a N l.all' l.p'.Zt l.p'.ZD l.p'.ZE l.p'.ZF l.calls' l.out'.ZH l.out'.Zt l.out'.ZI (0:Int) (0:Int) (0:Int) =
   o.bind (fun q:T7=>ag q.all' q.p'.Zt q.p'.ZD q.p'.ZE q.p'.ZF q.calls' q.out'.ZH q.out'.Zt q.out'.ZI ((j+1:Nat):Int))/\Ck o l (QD c.p' m a) [] 0:=by
  intro j m a l ag v z A x
  obtain ⟨M,rfl⟩:∃ M,N=M+3:=⟨N-3,by omega⟩
  have t1:=fun (t:Ys) (l:T7)=>Ck.test (N:=M+3) (b := !(t.Zq==1) && (kd c.p' m t==0)) (c:=l) (nm:=m.Zt) (e:=10) (by decide)
  have ⟨q,e2,L⟩:=t1 a.Zw l
  have ⟨Z,e3,g3⟩:=t1 a.Zx q
  obtain ⟨_,rfl,c4,e4,g4⟩:=w m a.Zw Z (VR c.p' m a.Zw)
  obtain ⟨_,rfl,c5,e5,g5⟩:=w m a.Zx c4 (VR c.p' m a.Zx)
  have U:WS c.p' m a.Zw<=1/\WS c.p' m a.Zx<=1:=by
   unfold WS
   constructor
   ·cases (a.Zw.Zq==2)<;>cases (VR c.p' m a.Zw==2)<;>simp
   ·cases (a.Zx.Zq==2)<;>cases (VR c.p' m a.Zx==2)<;>simp
  have ⟨o,e6,c6,e7,g6⟩:=k5 j m a c5 (WS c.p' m a.Zw+WS c.p' m a.Zx) ag v (by omega)
  refine ⟨o,?_,c6,e7,?_⟩
  ·have a1:q.all'=c.all':=by rw [L.all,A]
   have p1:q.p'=c.p':=by rw [L.p,x]
   rw [Si,show decide ((0:Int) < 2)=true from rfl,cT,show ((0:Int)==0)=true from rfl,cT]
   rw [show (0:Int)=((0:Nat):Int) from rfl,D m _ _ l 0 _ a.Zw (.inl rfl) A x z,e2,bS,if_pos rfl,if_pos rfl]
   rw [Si,show decide (((0+1:Nat):Int) < 2)=true from rfl,cT,show (((0+1:Nat):Int)==0)=false from rfl,cF,show (((0+1:Nat):Int)==1)=true from rfl,cT]
   rw [D m _ _ q (0+1) _ a.Zx (.inr rfl) a1 p1 z,e3,bS,if_neg (by omega),if_neg (by omega)]
   rw [Si,show decide (((0+1+1:Nat):Int) < 2)=false from rfl,cF]
   unfold Zb7
   rw [Ty,show decide ((0:Int) < 2)=true from rfl,cT,show ((0:Int)==0)=true from rfl,cT]
   rw [show (0:Int)=((0:Nat):Int) from rfl,k9 m _ _ Z 0 0 _ a.Zw (.inl rfl) (by omega),if_pos rfl]
   rw [show (bif a.Zw.Zq==1 then ((0:Nat):Int) else kd c.p' m a.Zw)=VR c.p' m a.Zw from rfl,e4,bS]
   rw [Ty,show decide (((0+1:Nat):Int) < 2)=true from rfl,cT,show (((0+1:Nat):Int)==0)=false from rfl,cF,show (((0+1:Nat):Int)==1)=true from rfl,cT]
   rw [show (0+(bif a.Zw.Zq==2 then (bif VR c.p' m a.Zw==2 then 1 else 0) else 0))=WS c.p' m a.Zw by unfold WS;simp]
   rw [k9 m _ _ c4 (WS c.p' m a.Zw) (0+1) _ a.Zx (.inr rfl) (by omega),if_neg (by omega)]
   rw [show (bif a.Zx.Zq==1 then ((0:Nat):Int) else kd c.p' m a.Zx)=VR c.p' m a.Zx from rfl,e5,bS]
   rw [Ty,show decide (((0+1+1:Nat):Int) < 2)=false from rfl,cF]
   exact e6
  ·refine ((((L.seq g3).seq g4).seq g5).seq g6).iff ?_
   have hn:∀ t:Ys,(!(t.Zq==1) && (kd c.p' m t==0))=false↔(t.Zq=1\/kd c.p' m t≠0):=by
    intro t
    simp only [Bool.and_eq_false_iff,Bool.not_eq_false',beq_iff_eq,beq_eq_false_iff_ne,ne_eq]
   unfold QD
   rw [hn,hn]
   constructor
   ·rintro ⟨⟨⟨⟨C,u⟩,O⟩,P⟩,R,S⟩;exact ⟨C,u,O,P,R,S⟩
   ·rintro ⟨C,u,O,P,R,S⟩;exact ⟨⟨⟨⟨C,u⟩,O⟩,P⟩,R,S⟩
 have ⟨o,e,g⟩:=SA c.p'.ZE (fun n l i=>WG N c n l.all' l.p'.Zt l.p'.ZD l.p'.ZE l.p'.ZF l.calls' l.out'.ZH l.out'.Zt l.out'.ZI i)
  (fun c=>Df c.all' c.p'.Zt c.p'.ZD c.p'.ZE c.p'.ZF c.calls' c.out'.ZH c.out'.Zt c.out'.ZI) Option.bind (fun _ _=>rfl)
  (fun k m=>∀ (j:Nat) a,m.Zz[j]? = some a->QD c.p' m a) (fun _=>[]) (fun _=>0) c.all' c.p' c.calls'.length
  (fun n k m l y A x _=>by
   have W:=Yf y
   have ⟨T,hf2⟩:=Y m (Zb y)
   simp only [WG,Yh W,cT,Ye,y,bS]
   have ⟨o,e,g⟩:=SA m.Zz (fun G l i=>VA N (k:Int) (fun a b H d e f g h i j=>WG N c n a b H d e f g h i j) m G l.all' l.p'.Zt l.p'.ZD l.p'.ZE l.p'.ZF l.calls' l.out'.ZH l.out'.Zt l.out'.ZI i)
    (fun l=>Dg (k:Int) (fun a b H d e f g h i j=>WG N c n a b H d e f g h i j) l.all' l.p'.Zt l.p'.ZD l.p'.ZE l.p'.ZF l.calls' l.out'.ZH l.out'.Zt l.out'.ZI) Option.bind (fun _ _=>rfl)
    (fun _ a=>QD c.p' m a) (fun _=>[]) (fun _=>0) c.all' c.p' l.calls'.length
    (fun G j a q v I K _=>by
     have X:=Yf v
     simp only [VA,Yh X,cT,Ye,v,bS]
     exact one j m a q _ (by omega) T I K)
    (fun G j q v=>by simp only [VA,Yl v,cF]) (N:=N) (by omega) l A x (by rw [Xx];omega)
   rw [Xx,Vp] at g
   refine ⟨o,e.trans ?_,g⟩
   congr 1
   funext q
   unfold Dg
   rw [YT (by omega)])
  (fun n k l y=>by simp only [WG,Yl y,cF]) (N:=N) (by omega) c rfl rfl (by rw [Xx];omega)
 rw [Xx,Vp] at g
 have e':=e.trans (show (o.bind fun c=>Df c.all' c.p'.Zt c.p'.ZD c.p'.ZE c.p'.ZF c.calls' c.out'.ZH c.out'.Zt c.out'.ZI)=o from VH o)
 refine Eq.mp (congrArg (fun o=>Ck o c _ _ _) e'.symm) (g.iff ?_)
 constructor
 ·intro h m hm a A
  have ⟨k,y⟩:=List.mem_iff_getElem?.1 hm
  have ⟨j,v⟩:=List.mem_iff_getElem?.1 A
  exact h k m y j a v
 ·exact fun h k m y j a v=>h m (Zb y) a (Zb v)
end Gp
end
section
namespace Gp
open Go Go.Kx Gx
def RG (x:ZJ):List ByteArray:=if x.Zq=6 then [x.Zt] else []
mutual
def VK:ZJ->List ByteArray
 | ⟨k,f,t,n,a,x,b⟩=>RG ⟨k,f,t,n,a,x,b⟩++WA b
def Xc:List ZJ->List ByteArray
 | []=>[]
 | x::l=>VK x++Xc l
def WA:List (List ZJ)->List ByteArray
 | []=>[]
 | b::r=>Xc b++WA r
end
theorem ZgR (x:ZJ):VK x=RG x++WA x.ZC:=by cases x;simp only [VK]
theorem ZgU:∀ (l:List ZJ) (s:List ByteArray),l.foldl (fun s x=>s++VK x) s=s++Xc l
 | [],s=>by simp [Xc]
 | x::l,s=>by rw [List.foldl_cons,ZgU l];simp only [Xc,aA]
theorem ZgS:∀ (l:List (List ZJ)) (s:List ByteArray),l.foldl (fun s x=>s++Xc x) s=s++WA l
 | [],s=>by simp [WA]
 | x::l,s=>by rw [List.foldl_cons,ZgS l];simp only [WA,aA]
mutual
theorem Zds:∀ x,(VK x).length<=cI x
 | ⟨k,f,t,n,a,x,b⟩=>by
  have:=ZgW b
  have h:(RG ⟨k,f,t,n,a,x,b⟩).length<=1:=by unfold RG;split<;>simp
  simp only [VK,cI,lA]
  omega
theorem MC:∀ l,(Xc l).length<=cL l
 | []=>by simp [Xc,cL]
 | x::l=>by
  have:=Zds x
  have:=MC l
  simp only [Xc,cL,lA]
  omega
theorem ZgW:∀ l,(WA l).length<=YF l
 | []=>by simp [WA,YF]
 | x::l=>by
  have:=MC x
  have:=ZgW l
  simp only [WA,YF,lA]
  omega
end
theorem ZgO:∀ (N:Nat) (xs:List ZJ),4194306+dL xs<=N->xs.length<=4194304->bL xs->cL xs<=4194304->Mm N xs=some (Xc xs)
 | 0,_,h,_,_,_=>by omega
 | N+1,xs,h,hs,hb,hc=>by
  show DY N (Mm N) xs=_
  unfold DY
  have v:4194304 < N:=by omega
  have a:∀ (k:Nat) (x:ZJ) (s:List ByteArray) (ag:List ByteArray->Int->Option (List ByteArray)),xs[k]? = some x->s.length+YF x.ZC<=4194304 ->
    Ht N (Mm N) (k:Int) ag x s=ag (s++WA x.ZC) ((k+1:Nat):Int):=by
   intro k x s ag c l
   have r:=Zb c
   have m:=(WT _).1 (Wy hb r)
   have o:=Wt r
   rw [Ws] at o
   have q:=Yf c
   unfold Ht
   have:=(Xz x.ZC (Mn (Mm N) (k:Int) ag x) (fun s b=>s++Xc b) (fun s=>ag s ((k+1:Nat):Int))
    (fun j s=>s.length+YF (x.ZC.drop j)<=4194304) (fun n j s b hi d=>?_) (fun n j s hi d=>?_) (N:=N) (s:=s) (by omega) (by rw [List.drop_zero];exact l)).1
   ·rw [this,ZgS]
   ·rw [VM d] at hi
    simp only [YF] at hi
    have f:=Zb d
    have g:=Vl m.2.2 f
    have t:=WK f
    have p:=MC b
    have e:=ZgO N b (by omega) g.1 g.2 (by omega)
    refine ⟨?_,by rw [lA];omega⟩
    simp only [Mn,Yh (Yf d),cT,Ye,d,bS,e]
    rw [YW (by omega),bS,Yy (by have:=Yf d;omega)]
   ·simp only [Mn,Yl d,cF,ZcJ]
    rw [Yy (by omega)]
  have:=(Xz xs (TC N (Mm N) xs) (fun s x=>s++VK x) (fun s=>some s)
   (fun j s=>s.length+cL (xs.drop j)<=4194304) (fun n k s x hi c=>?_) (fun n k s hi q=>?_) (N:=N) (s:=[]) (by omega) (by rw [List.drop_zero];simpa using hc)).1
  ·rw [this,ZgU];simp
  ·rw [VM c] at hi
   simp only [cL] at hi
   have u:=Ud x
   have p:=Zds x
   refine ⟨?_,by rw [lA];omega⟩
   simp only [TC,Yh (Yf c),cT,Ye,c,bS]
   rw [ZgR]
   unfold RG
   by_cases i:x.Zq=6
   ·rw [show (x.Zq==(6:Int))=true by simpa using i,cT,YW (by simp;omega),bS,a k x _ _ c (by simp;omega),if_pos i,aA]
   ·rw [show (x.Zq==(6:Int))=false by simpa using i,cF,a k x _ _ c (by omega),if_neg i,List.nil_append]
  ·simp only [TC,Yl q,cF,ZcI]
theorem Zix {α:Type} {xs:List α} {k:Nat} (h:k<=xs.length):lsl xs (some (k:Int)) none=some (xs.drop k):=by
 unfold lsl WU
 have a:decide ((0:Int)<=(k:Int))=true:=by simp
 have b:decide ((k:Int)<=(xs.length:Int))=true:=by simp;exact h
 simp [a,b,h]
theorem Zmj {α:Type} (z:α) {xs:List α} {k:Nat} (h:k<=xs.length):∃ ys,MB z xs (some (k:Int)) none=some ys/\ys.take k=xs.take k/\ys.length=xs.length:=by
 unfold MB WU
 have a:decide ((0:Int)<=(k:Int))=true:=by simp
 have b:decide ((k:Int)<=(xs.length:Int))=true:=by simp;exact h
 refine ⟨xs.take k++List.replicate (xs.length-k) z,?_,?_,?_⟩
 ·simp [a,b,h]
 ·rw [List.take_append_of_le_length (by rw [List.length_take];omega),List.take_take];simp
 ·rw [lA,List.length_take,List.length_replicate];omega
theorem ZlG {α:Type} (p:α->Bool) (xs:List α) {i:Nat} (h:Y9 p xs=(i:Int)):∃ x,xs[i]? = some x/\p x=true/\∀ (j:Nat) y,j < i->xs[j]? = some y->p y=false:=by
 unfold Y9 at h
 cases e:xs.findIdx? p with
 | none=>rw [e] at h;simp at h
 | some k =>
  rw [e] at h
  have g:k=i:=by simp at h;omega
  subst g
  rw [List.findIdx?_eq_some_iff_getElem] at e
  have ⟨c,d,f⟩:=e
  refine ⟨xs[k],Za c,d,fun j y a b=>?_⟩
  have:=f j a
  obtain ⟨_,rfl⟩:=List.getElem?_eq_some_iff.1 b
  simpa using this
theorem Gb {α:Type} {xs:List α} {k:Nat} {x:α} (h:xs[k]? = some x):xs.take (k+1)=xs.take k++[x]:=by
 obtain ⟨a,rfl⟩:=List.getElem?_eq_some_iff.1 h
 rw [List.take_succ_eq_append_getElem a]
theorem Zmv {N:Nat} (c:T7) (s:List ByteArray) (H:s.length < N) (I:s.length < 4611686018427387904) (D:c.all'.length < N) (g:c.all'.length < 4611686018427387904) :
  DZ N s c=some (s.filter fun x=>c.all'.any fun q=>q.Zt.toList==x.toList):=by
 unfold DZ
 rw [ZnG s c H I D g,bS]
 generalize G:(fun x:ByteArray=>c.all'.any fun q=>q.Zt.toList==x.toList)=K
 have A:(fun x:ByteArray => !(c.all'.any fun q=>q.Zt.toList==x.toList))=fun x => !(K x):=by rw [<- G]
 rw [A]
 rcases RA (fun x:ByteArray => !(K x)) s with ⟨t,u⟩ | ⟨i0,W,t,u,X⟩
 ·rw [t,show ((-1:Int)==-1)=true from rfl,cT]
  congr 1
  rw [List.find?_eq_none] at u
  refine (List.filter_eq_self.2 fun x b=>?_).symm
  have:=u x b
  simpa using this
 ·have S:=ZlG _ _ t
  rw [t,show ((i0:Int)==-1)=false by simp,cF]
  have T:=Yf u
  rw [YT (by omega)]
  have U:∀ x,Mo N x c=some (!(K x)):=fun x=>by
   unfold Mo
   rw [ZgQ c.all' x D g,<- G];rfl
  have key:∀ (l:List ByteArray) (j i n:Nat) (v:List ByteArray),s.drop j=l->l.length < n->i < j->v.length=s.length->v.take i=(s.take j).filter K->v.drop j=s.drop j->i<=s.length ->
    Qx N c n v (i:Int) (j:Int)=some (s.filter K):=by
   intro l
   induction l with
   | nil =>
    intro j i n v h m w z f r o
    obtain ⟨n,rfl⟩:=pS n (by simp at m;omega)
    have k:=Xh h
    have p:i<=v.length:=by omega
    simp only [Qx]
    rw [show decide ((j:Int) < (v.length:Int))=false by simp;omega,cF]
    unfold ZcM
    have ⟨ys,L,M,V⟩:=Zmj (str []) p
    rw [Zix p,bS,L,bS,RN (by omega),bS,M,f,List.take_of_length_le k]
   | cons x l F =>
    intro j i n v h m w z f r o
    obtain ⟨n,rfl⟩:=pS n (by simp at m;omega)
    have ⟨a,e,d⟩:=Xg h
    have ⟨O,P,E⟩:=Xg (r.trans h)
    simp only [Qx]
    rw [Yh O,cT,Ye,P,bS,U,bS,Bool.not_not]
    have B:v[i]? = some v[i]:=Za (by omega)
    cases b:K x with
    | true =>
     rw [cT,Ye,B,bS,Zay,YT (by omega),YT (by omega)]
     refine F (j+1) (i+1) n (v.set i x) d (by simp at m;omega) (by omega) (by rw [List.length_set];exact z) ?_ ?_ (by omega)
     ·rw [Gb e,List.filter_append,<- f,List.filter_cons,b,Gb (x:=x) (by rw [List.getElem?_set_self (by omega)]),List.take_set_of_le (Zo _),if_pos rfl,List.filter_nil]
     ·rw [List.drop_set_of_lt (by omega),E,d]
    | false =>
     rw [cF,YT (by omega)]
     refine F (j+1) i n v d (by simp at m;omega) (by omega) z ?_ (by rw [E,d]) o
     rw [Gb e,List.filter_append,<- f,List.filter_cons,b]
     simp
  refine key _ (i0+1) i0 N s rfl (by rw [List.length_drop];omega) (by omega) rfl ?_ rfl (by omega)
  have ⟨y,R,f,r⟩:=S
  rw [Gb R,List.filter_append,List.filter_cons,if_neg (by simpa using f),List.filter_nil,List.append_nil]
  refine (List.filter_eq_self.2 fun x b=>?_).symm
  have ⟨j,k⟩:=List.mem_iff_getElem?.1 b
  have C:=Yf k
  rw [List.length_take] at C
  rw [List.getElem?_take,if_pos (by omega)] at k
  have:=r j x (by omega) k
  simpa using this
def QF (all:List ZL) (a b:ByteArray):Prop:=(∃ q,all.find? (fun q=>q.Zt.toList==a.toList)=some q/\b∈Xc q.ZF)/\∃ q∈all,q.Zt=b
def XS (all:List ZL):Nat->ByteArray->ByteArray->Prop
 | 0,a,b=>a=b
 | n+1,a,c=>∃ b,XS all n a b/\QF all b c
def QG (all:List ZL) (p:ZL):Prop:=∀ b,¬ XS all 5 p.Zt b
def WV (l:List ZL):Nat:=(l.map fun q=>cL q.ZF).sum
theorem Znd (a:List ZL) (k:Nat) (q:ZL) (d:a[k]? = some q):Y9 (fun x:ZL=>x.Zt.toList==q.Zt.toList) a=(k:Int)->a.find? (fun x=>x.Zt.toList==q.Zt.toList)=some q:=by
 intro h
 rcases RA (fun x:ZL=>x.Zt.toList==q.Zt.toList) a with ⟨b,_⟩ | ⟨i,x,b,c,e⟩
 ·rw [b] at h;omega
 ·have:i=k:=by rw [b] at h;omega
  subst this
  rw [d] at c;cases c
  exact e
theorem Znb (b:List ZL) (a:ByteArray) (q:ZL) (h:b.find? (fun x=>x.Zt.toList==a.toList)=some q):q.Zt=a/\∃ k:Nat,b[k]? = some q/\Y9 (fun x:ZL=>x.Zt.toList==q.Zt.toList) b=(k:Int):=by
 have f:q.Zt=a:=by
  have:=List.find?_some h
  exact Xm.1 this
 subst f
 refine ⟨rfl,?_⟩
 rcases RA (fun x:ZL=>x.Zt.toList==q.Zt.toList) b with ⟨_,c⟩ | ⟨i,x,c,e,d⟩
 ·rw [c] at h;cases h
 ·rw [h] at d;cases d
  exact ⟨i,e,c⟩
theorem Zmf {N:Nat} (c:T7) (X:Sz N c) (L:∀ q∈c.all',8388611+dL q.ZF<=N/\q.ZF.length<=4194304/\bL q.ZF) (hc:WV c.all'<=4194304):Ck (Dn N c) c (QG c.all' c.p') [] 0:=by
 have hN:=X.n
 have ha:=X.a
 unfold Dn
 have H:∀ k,WV (c.all'.drop k)<=WV c.all':=by
  intro k
  have:=congrArg (fun l=>WV l) (List.take_append_drop k c.all')
  simp only [WV,List.map_append,List.sum_append] at this ⊢
  omega
 -- one y
 have y:∀ (f:List ByteArray) (i:Int) (ag:List ByteArray->Int->Option T7),f.length<=4194304->∃ nx:List ByteArray,nx.length<=4194304/\(∀ b,b∈nx↔∃ a∈f,QF c.all' a b) /\
   Tz N c f i ag N [] (0:Int)=ag nx (ZM (i+1)):=by
  intro f i ag v
  have key:∀ (l:List ZL) (k n:Nat) (s:List ByteArray),c.all'.drop k=l->l.length < n->s.length+WV l<=4194304 ->
    ∃ nx,Tz N c f i ag n s (k:Int)=Hh N c i ag (s++nx)/\(s++nx).length<=4194304 /\
     ∀ b,b∈nx↔∃ (j:Nat) (q:ZL),l[j]? = some q/\Y9 (fun x:ZL=>x.Zt.toList==q.Zt.toList) c.all'=((k+j:Nat):Int)/\q.Zt∈f/\b∈Xc q.ZF:=by
   intro l
   induction l with
   | nil =>
    intro k n s h E B
    obtain ⟨n,rfl⟩:=pS n (by simp at E;omega)
    refine ⟨[],?_,by simp [WV] at B ⊢;omega,by simp⟩
    simp only [Tz,Yl (Xh h),cF,List.append_nil]
   | cons p l W =>
    intro k n s h E B
    obtain ⟨n,rfl⟩:=pS n (by simp at E;omega)
    have ⟨a,e,d⟩:=Xg h
    have ⟨hb1,M,O⟩:=L p (Zb e)
    have hcn:=MC p.ZF
    have Z:WV (p::l)=cL p.ZF+WV l:=by simp [WV]
    rw [Z] at B
    have V:=H k
    rw [h,Z] at V
    have z:∀ (K:List ByteArray) (Y:Prop),K.length+WV l<=4194304->(∃ t,K=s++t/\∀ b,b∈t↔(Y9 (fun x:ZL=>x.Zt.toList==p.Zt.toList) c.all'=(k:Int)/\p.Zt∈f/\b∈Xc p.ZF)) ->
      ∃ nx,Tz N c f i ag n K ((k+1:Nat):Int)=Hh N c i ag (s++nx)/\(s++nx).length<=4194304 /\
       ∀ b,b∈nx↔∃ (j:Nat) (q:ZL),(p::l)[j]? = some q/\Y9 (fun x:ZL=>x.Zt.toList==q.Zt.toList) c.all'=((k+j:Nat):Int)/\q.Zt∈f/\b∈Xc q.ZF:=by
     rintro K _ P ⟨t,rfl,ht⟩
     have ⟨nx,D,F,G⟩:=W (k+1) n (s++t) d (by simp at E;omega) P
     refine ⟨t++nx,by rw [D,aA],by rw [<- aA];exact F,fun b=>?_⟩
     rw [List.mem_append,ht,G]
     constructor
     ·rintro (g | ⟨j,q,r,u,A⟩)
      ·exact ⟨0,p,rfl,g.1,g.2⟩
      ·exact ⟨j+1,q,by rw [List.getElem?_cons_succ];exact r,by rw [u];congr 1;omega,A⟩
     ·rintro ⟨j,q,r,u,A⟩
      cases j with
      | zero=>simp only [List.getElem?_cons_zero,Option.some.injEq] at r;subst r;exact .inl ⟨u,A⟩
      | succ j=>rw [List.getElem?_cons_succ] at r;exact .inr ⟨j,q,r,by rw [u];congr 1;omega,A⟩
    simp only [Tz,Yh a,cT,Ye,e,bS]
    rw [ZnF c.all' p (by omega) (by omega),bS,YT (by omega)]
    by_cases I:Y9 (fun x:ZL=>x.Zt.toList==p.Zt.toList) c.all'=(k:Int)
    ·rw [I,beq_self_eq_true,cT,ME f (by omega) (by omega),bS]
     cases w:Xk p.Zt f with
     | true =>
      have w:=(WM _ _).1 w
      rw [cT,ZgO N p.ZF (by omega) M O (by omega),bS,YW (by omega),bS]
      refine z (s++Xc p.ZF) True (by rw [lA];omega) ⟨_,rfl,fun b=>?_⟩
      exact ⟨fun g=>⟨I,w,g⟩,fun g=>g.2.2⟩
     | false =>
      have w:¬ p.Zt∈f:=fun h=>by rw [(WM _ _).2 h] at w;cases w
      rw [cF]
      exact z s True (by omega) ⟨[],by simp,fun b=>by simp [w]⟩
    ·rw [show (Y9 (fun x:ZL=>x.Zt.toList==p.Zt.toList) c.all'==(k:Int))=false by simpa using I,cF]
     exact z s True (by omega) ⟨[],by simp,fun b=>by simp [I]⟩
  have ⟨nx,D,F,G⟩:=key _ 0 N [] rfl (by simp;omega) (by simpa using hc)
  rw [List.nil_append] at D F
  refine ⟨(U5 (TX nx)).filter fun x=>c.all'.any fun q=>q.Zt.toList==x.toList,?_,fun b=>?_,?_⟩
  ·have I:=List.length_filter_le (fun x=>c.all'.any fun q=>q.Zt.toList==x.toList) (U5 (TX nx))
   have w:=BE (TX nx)
   have h3:=ZeO nx
   omega
  ·rw [List.mem_filter,Zom,(ZjT nx).mem_iff,G,List.any_eq_true]
   constructor
   ·rintro ⟨⟨j,q,r,u,A,R⟩,S,T,U⟩
    rw [List.drop_zero] at r
    rw [Nat.zero_add] at u
    exact ⟨q.Zt,A,⟨q,Znd _ _ _ r u,R⟩,S,T,Xm.1 U⟩
   ·rintro ⟨a,r,⟨q,u,A⟩,S,R,T⟩
    obtain ⟨rfl,k,U,g7⟩:=Znb _ _ _ u
    exact ⟨⟨k,q,by rw [List.drop_zero];exact U,by rw [Nat.zero_add];exact g7,r,A⟩,S,R,Xm.2 T⟩
  ·rw [show (0:Int)=((0:Nat):Int) from rfl,D]
   unfold Hh z70 z71
   have w:=BE (TX nx)
   have h3:=ZeO nx
   rw [dT (by omega),cT,bS,dT (by omega),cT,bS,Zmv c _ (by omega) (by omega) (by omega) (by omega),bS]
 have C:∀ (m i:Nat) (f:List ByteArray),f.length<=4194304->(∀ b,b∈f↔XS c.all' i c.p'.Zt b)->i+m=5->∀ n,m < n ->
   Ck (Sj N c n f (i:Int)) c (QG c.all' c.p') [] 0:=by
  intro m
  induction m with
  | zero =>
   intro i f v o hi n E
   obtain ⟨n,rfl⟩:=pS n (by omega)
   have hi:i=5:=by omega
   subst hi
   rw [Sj,show decide (((5:Nat):Int) < 5)=false from rfl,cF]
   unfold Zb9
   simp only [VH]
   refine (Ck.test (by decide)).iff ?_
   unfold QG
   rw [decide_eq_false_iff_not]
   constructor
   ·intro h b L
    have:=(o b).2 L
    cases f with
    | nil=>cases this
    | cons x l=>exact h (by simp)
   ·intro h w
    cases f with
    | nil=>simp at w
    | cons x l=>exact h x ((o x).1 (by simp))
  | succ m W =>
   intro i f v o hi n E
   obtain ⟨n,rfl⟩:=pS n (by omega)
   rw [Sj,show decide ((i:Int) < 5)=true by simp;omega,cT]
   have ⟨nx,D,F,G⟩:=y f (i:Int) (Sj N c n) v
   rw [G,YT (by omega)]
   refine W (i+1) nx D (fun b=>?_) (by omega) n (by omega)
   rw [F]
   constructor
   ·rintro ⟨a,r,u⟩;exact ⟨a,(o a).1 r,u⟩
   ·rintro ⟨a,r,u⟩;exact ⟨a,(o a).2 r,u⟩
 exact C 5 0 [c.p'.Zt] (by simp) (fun b=>by simp [XS,eq_comm]) rfl N (by omega)
end Gp
end
section
namespace Gp
open Go Go.Kx Gx
structure QI (l:List ZL) (i:Nat) (p:ZL):Prop where
 name:∀ q∈l.take i,q.Zt≠p.Zt
 roles:∀ (k:Nat) x,p.ZD[k]? = some x->x ∉ p.ZD.take k
 sorts:HD p
 atoms:HB p
 items:WE l p [] p.ZF
 calls:Vr [] (VD p.ZF)
 chain:QG l p
structure Zs (N:Nat) (l:List ZL):Prop where
 len:l.length<=4194304
 p:∀ p∈l,bP p/\8388611+dL p.ZF<=N/\dL p.ZF<=4194304
 all:WV l<=4194304
 n:8388611 < N
theorem Zl1 {l:List ZL} {p} (h:p∈l):cL p.ZF<=WV l:=by
 unfold WV
 induction l with
 | nil=>cases h
 | cons q l a =>
  rw [List.map_cons,List.sum_cons]
  rcases List.mem_cons.1 h with rfl | h
  ·omega
  ·have:=a h;omega
theorem Zpq {N:Nat} (l:List ZL) (o:Zs N l) (i:Nat) (p:ZL) (s:l[i]? = some p) (ag:Int->Option T6) :
  ∃ M:T7,(L7 N (l.take i) p).bind (fun u =>
    bif u then ((Y6 N (⟨l,p,([]:List ByteArray),(⟨(str []),(str []),(0:Int)⟩:T6)⟩:T7) p.Zt (9:Int)).bind fun a =>
     Qc N (i:Int) ag p a.all' a.p'.Zt a.p'.ZD a.p'.ZE a.p'.ZF a.calls' a.out'.ZH a.out'.Zt a.out'.ZI)
    else Qc N (i:Int) ag p l p.Zt p.ZD p.ZE p.ZF ([]:List ByteArray) (str []) (str []) (0:Int)) =
   (bif (M.out'.ZI != (0:Int)) then some M.out' else ag ((i+1:Nat):Int))/\(M.out'.ZI=0↔QI l i p)/\((∃ q∈l.take i,q.Zt=p.Zt)->M.out'=⟨p.Zt,p.Zt,9⟩):=by
 have hN:=o.n
 have Y:=o.len
 have hil:=Yf s
 have ⟨g,P,R⟩:=o.p p (Zb s)
 have hcp:=Zl1 (Zb s)
 have z:=o.all
 have c0:T7:=⟨l,p,[],⟨str [],str [],0⟩⟩
 -- the name
 have ⟨f,j,C⟩:=Ck.test (N:=N) (b:=(l.take i).any fun x=>x.Zt.toList==p.Zt.toList) (c:=⟨l,p,[],⟨str [],str [],0⟩⟩) (nm:=p.Zt) (e:=9) (by decide)
 have a1:f.all'=l:=C.all
 have p1:f.p'=p:=C.p
 -- the roles
 have ⟨o2,e2,d,S,t⟩:=SA p.ZD (fun n c i'=>Qd N (i:Int) ag p n c.all' c.p'.Zt c.p'.ZD c.p'.ZE c.p'.ZF c.calls' c.out'.ZH c.out'.Zt c.out'.ZI i')
  (fun c=>LF N (i:Int) ag p c.all' c.p'.Zt c.p'.ZD c.p'.ZE c.p'.ZF c.calls' c.out'.ZH c.out'.Zt c.out'.ZI) Option.bind (fun _ _=>rfl)
  (fun k x=>x ∉ p.ZD.take k) (fun _=>[]) (fun _=>0) f.all' f.p' f.calls'.length
  (fun n k x c V W hp' _=>by
   have B:=Yf V
   have hr:=g.r
   refine ⟨bif Xk x (p.ZD.take k) then Y6 N c x 9 else some c,?_,(Ck.test (by decide)).iff ?_⟩
   ·simp only [Qd,Yh B,cT,L8,Ye,V,bS,RN (Nat.le_of_lt B),VH]
    rw [ME _ (by rw [List.length_take];omega) (by rw [List.length_take];omega),bS,YT (by omega)]
    cases Xk x (p.ZD.take k)<;>rfl
   ·rw [<- Bool.not_eq_true,WM])
  (fun n k c B=>by simp only [Qd,Yl B,cF]) (N:=N) (by have:=g.r;omega) f rfl rfl (by rw [Xx];omega)
 subst S
 rw [Xx,Vp] at t
 have a2:d.all'=l:=by rw [t.all,a1]
 have H:d.p'=p:=by rw [t.p,p1]
 have sz:∀ c:T7,c.all'=l->c.p'=p->Sz N c:=fun c W s=>⟨by rw [s];exact g.r,by rw [s];exact g.m,by rw [W];exact Y,by omega⟩
 have ⟨D,e3,w⟩:=Zqz (N:=N) d (sz d a2 H) (by rw [H];exact fun m O=>(g.ms m O).1)
 have a3:D.all'=l:=by rw [w.all,a2]
 have I:D.p'=p:=by rw [w.p,H]
 have ⟨E,e4,y⟩:=ZlJ (N:=N) D (sz D a3 I) (by rw [I];exact fun m O=>g.ms m O)
 have a4:E.all'=l:=by rw [y.all,a3]
 have K:E.p'=p:=by rw [y.p,I]
 have l4:E.calls'.length<=0:=by
  have h1:=C.len;have h2:=t.len;have h3:=w.len;have h4:=y.len
  have h0:([]:List ByteArray).length=0:=rfl
  simp only at h1
  omega
 have ⟨F,e5,G⟩:=Zif N E p.ZF [] ⟨by rw [K];exact g.r,by rw [K];exact g.m,by rw [a4];exact Y,by omega⟩ P g.l g.b (by simpa using R) (by omega)
 have a5:F.all'=l:=by rw [G.all,a4]
 have Z:F.p'=p:=by rw [G.p,K]
 have ⟨T,e6,X⟩:=Zmf (N:=N) F (sz F a5 Z) (by rw [a5];exact fun q v=>⟨(o.p q v).2.1,(o.p q v).1.l,(o.p q v).1.b⟩) (by rw [a5];exact z)
 refine ⟨T,?_,?_,?_⟩
 ·rw [Zma _ p (by rw [List.length_take];omega) (by rw [List.length_take];omega),bS]
  have h5:Qc N (i:Int) ag p f.all' f.p'.Zt f.p'.ZD f.p'.ZE f.p'.ZF f.calls' f.out'.ZH f.out'.Zt f.out'.ZI=(bif (T.out'.ZI != (0:Int)) then some T.out' else ag ((i+1:Nat):Int)):=by
   unfold Qc
   refine e2.trans ?_
   show LF N (i:Int) ag p d.all' d.p'.Zt d.p'.ZD d.p'.ZE d.p'.ZF d.calls' d.out'.ZH d.out'.Zt d.out'.ZI=_
   unfold LF
   rw [show (⟨d.all',⟨d.p'.Zt,d.p'.ZD,d.p'.ZE,d.p'.ZF⟩,d.calls',⟨d.out'.ZH,d.out'.Zt,d.out'.ZI⟩⟩:T7)=d from rfl,e3,bS,e4,bS,e5,bS,e6,bS,YT (by omega)]
  cases h:(l.take i).any fun x=>x.Zt.toList==p.Zt.toList with
  | true=>rw [h,cT] at j;rw [cT,j];exact h5
  | false =>
   rw [h,cF] at j;cases j
   exact h5
 ·have h6:=((((((C.seq t).seq w).seq y).seq G).seq X)).err
  rw [h6,a4,K,a5,Z,H,I]
  simp only [List.append_nil,List.nil_append,true_and]
  rw [Zdi]
  constructor
  ·rintro ⟨⟨⟨⟨⟨⟨q1,q2⟩,q3⟩,q4⟩,q5⟩,q6⟩,q7⟩
   exact ⟨q1,q2,q3,q4,q5,q7,q6⟩
  ·exact fun q=>⟨⟨⟨⟨⟨⟨q.name,q.roles⟩,q.sorts⟩,q.atoms⟩,q.items⟩,q.chain⟩,q.calls⟩
 ·rintro ⟨q,v,hn⟩
  have h:((l.take i).any fun x=>x.Zt.toList==p.Zt.toList)=true:=List.any_eq_true.2 ⟨q,v,Xm.2 hn⟩
  rw [h,cT] at j
  unfold Y6 at j
  rw [show ((0:Int)==0)=true from rfl,cT] at j
  cases j
  have A:=t.st (by show (9:Int)≠0;decide)
  have L:=w.st (by rw [A];show (9:Int)≠0;decide)
  have U:=y.st (by rw [L,A];show (9:Int)≠0;decide)
  have s5:=G.st (by rw [U,L,A];show (9:Int)≠0;decide)
  have s6:=X.st (by rw [s5,U,L,A];show (9:Int)≠0;decide)
  rw [s6,s5,U,L,A]
theorem Zmg {N:Nat} (l:List ZL) (x:Zs N l) (v:Bool) (E:Ra N l=some v) :
  ∃ r,Qb N l=some r/\(r.ZI=0↔v=true/\∀ (i:Nat) p,l[i]? = some p->QI l i p) /\
   (v=true->∀ (i:Nat) p,l[i]? = some p->(∀ (j:Nat) q,j < i->l[j]? = some q->QI l j q)->(∃ q∈l.take i,q.Zt=p.Zt)->r=⟨p.Zt,p.Zt,9⟩):=by
 have K:=x.n
 have L:=x.len
 unfold Qb
 rw [E,bS]
 cases v with
 | false=>exact ⟨_,rfl,by simp,by simp⟩
 | true =>
  rw [Zg,cF]
  have key:∀ (m:List ZL) (k n:Nat),l.drop k=m->m.length < n->∃ r,V2 N l n (k:Int)=some r/\(r.ZI=0↔∀ (i:Nat) p,m[i]? = some p->QI l (k+i) p) /\
    (∀ (i:Nat) p,m[i]? = some p->(∀ (j:Nat) q,j < i->m[j]? = some q->QI l (k+j) q)->(∃ q∈l.take (k+i),q.Zt=p.Zt)->r=⟨p.Zt,p.Zt,9⟩):=by
   intro m
   induction m with
   | nil =>
    intro k n h w
    obtain ⟨n,rfl⟩:=pS n (by simp at w;omega)
    exact ⟨_,by simp only [V2,Yl (Xh h),cF];rfl,by simp,by simp⟩
   | cons p m H =>
    intro k n h w
    obtain ⟨n,rfl⟩:=pS n (by simp at w;omega)
    have ⟨a,e,d⟩:=Xg h
    have ⟨s,G,z,D⟩:=Zpq l x k p e (V2 N l n)
    have b:V2 N l (n+1) (k:Int)=(bif (s.out'.ZI != (0:Int)) then some s.out' else V2 N l n ((k+1:Nat):Int)):=by
     rw [<- G]
     simp only [V2,Yh a,cT,Ye,e,bS,RN (Nat.le_of_lt a)]
    by_cases o:s.out'.ZI=0
    ·have ⟨r,A,t,u⟩:=H (k+1) n d (by simp at w;omega)
     rw [show (s.out'.ZI != (0:Int))=false by simpa using o,cF] at b
     have C:=z.1 o
     refine ⟨r,b.trans A,?_,?_⟩
     ·rw [t]
      constructor
      ·intro g i q c
       cases i with
       | zero=>simp only [List.getElem?_cons_zero,Option.some.injEq] at c;subst c;exact C
       | succ i=>rw [List.getElem?_cons_succ] at c;have:=g i q c;rwa [show k+(i+1)=k+1+i by omega]
      ·intro g i q c
       have:=g (i+1) q (by rw [List.getElem?_cons_succ];exact c)
       rwa [show k+(i+1)=k+1+i by omega] at this
     ·intro i q c B f
      cases i with
      | zero =>
       simp only [List.getElem?_cons_zero,Option.some.injEq] at c;subst c
       have:=D f
       rw [this] at o;exact absurd (show (9:Int)=0 from o) (by decide)
      | succ i =>
       rw [List.getElem?_cons_succ] at c
       refine u i q c (fun j F I y=>?_) (by rwa [show k+(i+1)=k+1+i by omega] at f)
       have:=B (j+1) F (by omega) (by rw [List.getElem?_cons_succ];exact y)
       rwa [show k+(j+1)=k+1+j by omega] at this
    ·rw [show (s.out'.ZI != (0:Int))=true by simpa using o,cT] at b
     refine ⟨_,b,?_,?_⟩
     ·constructor
      ·exact fun g=>absurd g o
      ·exact fun g=>absurd (z.2 (g 0 p rfl)) o
     ·intro i q c B f
      cases i with
      | zero=>simp only [List.getElem?_cons_zero,Option.some.injEq] at c;subst c;exact D f
      | succ i=>exact absurd (z.2 (B 0 p (by omega) rfl)) o
  have ⟨r,A,t,u⟩:=key l 0 N rfl (by omega)
  simp only [Nat.zero_add] at t u
  exact ⟨r,A,by rw [t];simp,fun _=>u⟩
end Gp
end
section
namespace Gp
open Go Go.Kx Gx
structure Zgf (p:ZL):Prop where
 roles:∀ (k:Nat) x,p.ZD[k]? = some x->x ∉ p.ZD.take k
 sorts:HD p
 atoms:HB p
 calls:Vr [] (VD p.ZF)
def UY (l:List ZL):Prop:=l.Pairwise fun a b=>a.Zt≠b.Zt
def UZ (l:List ZL):Prop:=QK l/\UY l/\∀ p∈l,Zgf p/\WE l p [] p.ZF/\QG l p
theorem ZiU (l:List ZL):(∀ (i:Nat) p,l[i]? = some p->QI l i p)↔UY l/\∀ p∈l,Zgf p/\WE l p [] p.ZF/\QG l p:=by
 constructor
 ·intro h
  refine ⟨?_,fun p d=>?_⟩
  ·unfold UY
   rw [List.pairwise_iff_getElem]
   intro i j hi g m
   refine (h j l[j] (Za g)).name l[i] ?_
   rw [List.mem_take_iff_getElem]
   exact ⟨i,by omega,rfl⟩
  ·have ⟨i,hi⟩:=List.mem_iff_getElem?.1 d
   have:=h i p hi
   exact ⟨⟨this.roles,this.sorts,this.atoms,this.calls⟩,this.items,this.chain⟩
 ·rintro ⟨e,k⟩ i p d
  have ⟨a,b,c⟩:=k p (Zb d)
  refine ⟨fun q f=>?_,a.roles,a.sorts,a.atoms,b,a.calls,c⟩
  unfold UY at e
  rw [List.pairwise_iff_getElem] at e
  rw [List.mem_take_iff_getElem] at f
  obtain ⟨j,g,rfl⟩:=f
  obtain ⟨hi,rfl⟩:=List.getElem?_eq_some_iff.1 d
  exact e j i (by omega) hi (by omega)
theorem Zdp {N:Nat} (l:List ZL) (a:Zs N l):∃ r,Qb N l=some r/\(r.ZI=0↔UZ l) /\
  (QK l->∀ (i:Nat) p,l[i]? = some p->(∀ (j:Nat) q,j < i->l[j]? = some q->QI l j q)->(∃ q∈l.take i,q.Zt=p.Zt)->r=⟨p.Zt,p.Zt,9⟩):=by
 have ⟨v,e,g⟩:=Zkb (N:=N) (by have:=a.n;omega) l a.len fun p b=>(a.p p b).1
 have ⟨r,d,f,h⟩:=Zmg l a v e
 exact ⟨r,d,by rw [f,g,ZiU];rfl,fun c=>h (g.2 c)⟩
theorem BT {l:List ZL} (h:UY l) {p} (a:p∈l):l.find? (fun q=>q.Zt.toList==p.Zt.toList)=some p:=by
 induction l with
 | nil=>cases a
 | cons q l d =>
  unfold UY at h
  rw [List.pairwise_cons] at h
  rw [List.find?_cons]
  rcases List.mem_cons.1 a with rfl | a
  ·simp
  ·have b:=h.1 p a
   rw [show (q.Zt.toList==p.Zt.toList)=false from by
    cases c:(q.Zt.toList==p.Zt.toList) with
    | false=>rfl
    | true=>exact absurd (Xm.1 c) b]
   exact d h.2 a
theorem ZdO {l:List ZL} {a:ByteArray} {q} (h:l.find? (fun q=>q.Zt.toList==a.toList)=some q):q∈l/\q.Zt=a :=
 ⟨List.mem_of_find?_eq_some h,by have:=List.find?_some h;exact Xm.1 this⟩
end Gp
end
section
namespace Gp
open Go Go.Kx Gx
theorem Zl2 (l:List ZU):WV (l.map oP)=WW l:=by
 unfold WV WW
 rw [List.map_map];rfl
theorem ZtL {N:Nat} {l:List ZU} (a:l.length<=4194304) (b:∀ p∈l,RP p/\8388611+dL (oL p.ZF)<=N/\dL (oL p.ZF)<=4194304) (c:WW l<=4194304) (d:8388611 < N):Zs N (l.map oP):=by
 refine ⟨by simpa using a,fun p e=>?_,by rw [Zl2];exact c,d⟩
 obtain ⟨q,f,rfl⟩:=List.mem_map.1 e
 exact b q f
end Gp
end
section
namespace Gp
open Go Go.Kx Gx
theorem Zad {α:Type} (a:ByteArray) (k:ByteArray) (x:α):∀ s:List (ByteArray × α),YS (Xo s k x) a=if k=a then some x else YS s a
 | []=>by
  show (bif k.data.toList==a.data.toList then some x else YS [] a)=if k=a then some x else YS [] a
  by_cases h:k=a
  ·rw [if_pos h,(Tj k a).2 h];rfl
  ·rw [if_neg h,show (k.data.toList==a.data.toList)=false from by
    cases b:(k.data.toList==a.data.toList) with
    | false=>rfl
    | true=>exact absurd ((Tj k a).1 b) h]
   rfl
 | (j,y)::r=>by
  have f:∀ {u v:ByteArray},u≠v->(u.data.toList==v.data.toList)=false:=fun {u v} h=>by
   cases b:(u.data.toList==v.data.toList) with
   | false=>rfl
   | true=>exact absurd ((Tj u v).1 b) h
  by_cases c:j=k
  ·subst c
   rw [Xo,(Tj j j).2 rfl,cT,YS]
   by_cases h:j=a
   ·rw [if_pos h,(Tj j a).2 h];rfl
   ·rw [if_neg h,f h,cF,YS,f h];rfl
  ·rw [Xo,f c,cF,YS,Zad a k x r]
   by_cases h:j=a
   ·rw [(Tj j a).2 h,cT,YS,(Tj j a).2 h,cT,if_neg (fun e=>c (h.trans e.symm))]
   ·rw [f h,cF,YS,f h,cF]
def QN (l:List ZL) (s:List (ByteArray × ZL)):List (ByteArray × ZL):=l.foldl (fun s p=>Xo s p.Zt p) s
theorem Zea (a:ByteArray):∀ (l:List ZL) (s:List (ByteArray × ZL)),UY l->(∀ p∈l,YS s p.Zt=none)->YS (QN l s) a=(l.find? (fun q=>q.Zt.toList==a.toList)).or (YS s a)
 | [],s,_,_=>by simp [QN]
 | p::l,s,hn,hs=>by
  unfold UY at hn
  rw [List.pairwise_cons] at hn
  show YS (QN l (Xo s p.Zt p)) a=_
  rw [Zea a l _ hn.2 (fun q b=>by rw [Zad,if_neg (hn.1 q b)];exact hs q (Zi _ b)),Zad,List.find?_cons]
  by_cases h:p.Zt=a
  ·rw [if_pos h,Xm.2 h]
   have:l.find? (fun q=>q.Zt.toList==a.toList)=none:=by
    rw [List.find?_eq_none]
    intro q b c
    exact hn.1 q b (h.trans (Xm.1 c).symm)
   rw [this];rfl
  ·rw [if_neg h,show (p.Zt.toList==a.toList)=false from by
    cases c:(p.Zt.toList==a.toList) with
    | false=>rfl
    | true=>exact absurd (Xm.1 c) h]
theorem Zm1 {N:Nat} (c:4194304 < N) (l:List ZL) (nm:ByteArray) (d:l.length<=4194304):Qy N l nm N [] 0=TE N nm (QN l []):=by
 have:=(Xz l (Qy N l nm) (fun s p=>Xo s p.Zt p) (fun s=>TE N nm s)
  (fun _ _=>True) (fun n k s x hi a=>?_) (fun n k s hi b=>?_) (N:=N) (s:=[]) (by omega) trivial).1
 ·exact this
 ·refine ⟨?_,trivial⟩
  simp only [Qy,Yh (Yf a),cT,Ye,a,bS]
  rw [Yy (by have:=Yf a;omega)]
 ·simp only [Qy,Yl b,cF]
mutual
def plI:ZJ->Prop
 | ⟨k,_,_,_,_,_,b⟩=>k≠5/\k≠6/\M3 b
def Q2:List ZJ->Prop
 | []=>True
 | x::l=>plI x/\Q2 l
def M3:List (List ZJ)->Prop
 | []=>True
 | b::r=>Q2 b/\M3 r
end
theorem Zpm (x:ZJ):plI x↔x.Zq≠5/\x.Zq≠6/\M3 x.ZC:=by cases x;simp only [plI]
end Gp
end
section
namespace Gp
open Go Go.Kx Gx
theorem ZgG:∀ l:List (List ZJ),YF l=(l.map cL).sum
 | []=>rfl
 | x::l=>by simp only [YF,List.map_cons,List.sum_cons,ZgG l]
theorem ZgJ:∀ l:List ZJ,cL l=l.length+(l.map fun x=>YF x.ZC).sum
 | []=>rfl
 | x::l=>by
  simp only [cL,List.map_cons,List.sum_cons,Zf,ZgJ l]
  rw [Ud];omega
theorem ZdQ {α:Type} (f:α->Nat):∀ (l:List α) (s:Int),l.foldl (fun s b=>s+(f b:Int)) s=s+((l.map f).sum:Int)
 | [],s=>by simp
 | b::l,s=>by rw [List.foldl_cons,ZdQ f l,List.map_cons,List.sum_cons];push_cast;omega
theorem Zg5:∀ (N:Nat) (xs:List ZJ),4194306+dL xs<=N->xs.length<=4194304->bL xs->cL xs<=1099511627776->Rj N xs=some ((cL xs:Nat):Int)
 | 0,_,h,_,_,_=>by omega
 | N+1,xs,h,hs,hb,hc=>by
  show Dx N (Rj N) xs=_
  unfold Dx
  have f:∀ (k:Nat) (x:ZJ) (s:Int) (ag:Int->Int->Option Int),xs[k]? = some x->0<=s->s+(YF x.ZC:Int)<=1099511627776 ->
    Qs (Rj N) (k:Int) ag x N s (0:Int)=ag (s+(YF x.ZC:Int)) ((k+1:Nat):Int):=by
   intro k x s ag d t g
   have r:=Zb d
   have m:=(WT _).1 (Wy hb r)
   have o:=Wt r
   rw [Ws] at o
   have p:=Yf d
   rw [ZgG] at g ⊢
   have:=(Xz x.ZC (Qs (Rj N) (k:Int) ag x) (fun s b=>s+(cL b:Int)) (fun s=>ag s ((k+1:Nat):Int))
    (fun j s=>0<=s/\s+(((x.ZC.drop j).map cL).sum:Int)<=1099511627776) (fun n j s b hi c=>?_) (fun n j s hi c=>?_) (N:=N) (s:=s) (by omega) ⟨t,by rw [List.drop_zero];exact g⟩).1
   ·rw [this,ZdQ]
   ·have ⟨q,a⟩:=hi
    rw [VM c,List.map_cons,List.sum_cons] at a
    have i:=Zb c
    have l:=Vl m.2.2 i
    have u:=WK i
    have e:=Zg5 N b (by omega) l.1 l.2 (by push_cast at a;omega)
    refine ⟨?_,by omega,by push_cast at a;omega⟩
    simp only [Qs,Yh (Yf c),cT,Ye,c,bS,e]
    rw [XL (by omega) (by push_cast at a;omega),Yy (by have:=Yf c;omega)]
   ·simp only [Qs,Yl c,cF,Zcj]
    rw [Yy (by omega)]
  rw [ZgJ] at hc ⊢
  have:=(Xz xs (Ri N (Rj N) xs) (fun s x=>s+(YF x.ZC:Int)) (fun s=>some s)
   (fun j s=>0<=s/\s+(((xs.drop j).map fun x=>YF x.ZC).sum:Int)<=1099511627776) (fun n k s x hi d=>?_) (fun n k s hi p=>?_) (N:=N) (s:=(xs.length:Int)) (by omega) ⟨by omega,by rw [List.drop_zero];push_cast at hc ⊢;omega⟩).1
  ·rw [this,ZdQ fun x:ZJ=>YF x.ZC];push_cast;rfl
  ·have ⟨q,a⟩:=hi
   rw [VM d,List.map_cons,List.sum_cons] at a
   refine ⟨?_,by omega,by push_cast at a;omega⟩
   simp only [Ri,Yh (Yf d),cT,Ye,d,bS]
   rw [f k x s _ d q (by push_cast at a;omega)]
  ·simp only [Ri,Yl p,cF,Zci]
end Gp
end
section
namespace Gp
open Go Go.Kx Gx
theorem ZgP {s:ByteArray} (h:(bs s).length<=1000):Yg (str []) s=some s:=by
 rw [Xb (by rw [Yx];simp;omega),Yx,List.nil_append,MS]
theorem Zj6 (N:Nat) {t:Ys} (h:Vj t):Qz N t ⟨[],str []⟩=some t:=by
 unfold Qz
 cases a:(t.Zv.toList==(str []).toList) with
 | true=>rfl
 | false =>
  rw [Bool.not_false,cT]
  have:(bs t.Zv).length<=50:=(Lh h).1
  rw [ZgP (by omega)];rfl
theorem ZjR {α:Type} (l:List α):l.foldl (fun s x=>s++[x]) []=l:=by
 have:=VY (fun x:α=>x) l []
 rw [this];simp
theorem Zop {N:Nat} (i:4194304 < N) (l:List ZS) (o:l.length<=4194304) (h:∀ m∈l,Wx m):z37 N ⟨[],str []⟩ l=some l:=by
 unfold z37
 have:=(Xz l (Vg N ⟨[],str []⟩ l) (fun s x=>s++[x]) (fun s=>some s)
  (fun j s=>s.length=j) (fun n k s x hi b=>?_) (fun n k s hi c=>?_) (N:=N) (s:=[]) (by omega) rfl).1
 ·rw [this,ZjR]
 ·have c:=Yf b
  have g:=h x (Zb b)
  have ⟨e,p,q,r,f⟩:=g
  refine ⟨?_,by simp [hi]⟩
  simp only [Vg,Yh c,cT,Ye,b,bS]
  rw [ZgP (by have:=VW e;omega),bS]
  unfold Bc
  rw [YW (by simp;omega),List.nil_append,bS,bS]
  have:=(Xz x.Zz (Sk N ⟨[],str []⟩ s (k:Int) (Vg N ⟨[],str []⟩ l n) x x.Zt x.Zy) (fun s y=>s++[y]) (fun w=>PU s (k:Int) (Vg N ⟨[],str []⟩ l n) x.Zt x.Zy w)
   (fun j s=>s.length=j) (fun n j s y hi a=>?_) (fun n j s hi a=>?_) (N:=N) (s:=[]) (by omega) rfl).1
  ·rw [this,ZjR]
   unfold PU
   rw [YW (by simp;omega),bS,Yy (by omega)]
  ·have d:=Yf a
   have ⟨a1,a2,a3⟩:=f y (Zb a)
   refine ⟨?_,by simp [hi]⟩
   simp only [Sk,Yh d,cT,Ye,a,bS,Zj6 N a1,Zj6 N a2]
   rw [YW (by simp;omega),bS,Yy (by omega)]
  ·simp only [Sk,Yl a,cF]
 ·simp only [Vg,Yl c,cF,Ds]
end Gp
end
section
namespace Gp
open Go Go.Kx Gx
theorem HJ:∀ {l:List ZJ} {x},x∈l->YF x.ZC+1<=cL l
 | y::l,x,h=>by
  simp only [cL]
  rcases List.mem_cons.1 h with rfl | h
  ·rw [Ud];omega
  ·have:=HJ h;omega
theorem My:∀ {l:List (List ZJ)} {x},x∈l->cL x<=YF l
 | y::l,x,h=>by
  simp only [YF]
  rcases List.mem_cons.1 h with rfl | h
  ·omega
  ·have:=My h;omega
end Gp
end
section
namespace Gp
open Go Go.Kx Gx
end Gp
end
section
namespace Gp
open Go Go.Kx Gx
theorem Zir:∀ (N:Nat) (xs:List ZT),4194306+dL (oL xs)<=N->xs.length<=4194304->bL (oL xs)->cL (oL xs)<=4194304 ->
  ∃ a b:Int,Ts N xs=some (a,b)/\0<=a/\0<=b/\a+b<=(cL (oL xs):Int)/\(a+b=0->Q2 (oL xs))
 | 0,_,h,_,_,_=>by omega
 | N+1,xs,h,hs,hb,hc=>by
  show ∃ a b:Int,GN N (Ts N) xs=_/\_
  unfold GN
  have m:∀ (k:Nat) (x:ZT) (ag:Int->Int->Int->Option (Int × Int)),xs[k]? = some x->∀ (r:List (List ZT)) (j n:Nat) (s t:Int),x.ZC.drop j=r->r.length < n->0<=s->0<=t->s+t+(YF (YA r):Int)<=8388608 ->
    ∃ a b:Int,Pu (Ts N) (k:Int) ag x n s t (j:Int)=ag a b ((k+1:Nat):Int)/\s<=a/\t<=b/\a+b<=s+t+(YF (YA r):Int)/\(a+b=s+t->M3 (YA r)):=by
   intro k x ag U r
   have A:=Zb U
   have i:=(WT _).1 (Wy hb (XV A))
   rw [Xl,UK] at i
   have M:=Wt (XV A)
   rw [Ws,Xl] at M
   have hk:=Yf U
   induction r with
   | nil =>
    intro j n s t h g I K f
    obtain ⟨n,rfl⟩:=pS n (by simp at g;omega)
    refine ⟨s,t,?_,by omega,by omega,by omega,fun _=>by simp only [YA,M3]⟩
    simp only [Pu,Yl (Xh h),cF,Zbb]
    rw [Yy (by omega)]
   | cons y r S =>
    intro j n s t h g I K f
    obtain ⟨n,rfl⟩:=pS n (by simp at g;omega)
    have ⟨u,c,d⟩:=Xg h
    have o:=Zb c
    have p:=Vl i.2.2 (WD o)
    have Y:=WK (WD o)
    rw [UL] at p
    simp only [YA,YF] at f ⊢
    push_cast at f
    have O:=HJ (XV A)
    rw [Xl] at O
    have Z:=My (WD o)
    have ⟨a,b,e,a0,b0,T,z⟩:=Zir N y (by omega) p.1 p.2 (by omega)
    have ⟨D,E,F,a1,G,H,l⟩:=S (j+1) n (s+a) (t+b) d (by simp at g;omega) (by omega) (by omega) (by omega)
    refine ⟨D,E,?_,by omega,by omega,by push_cast;omega,fun C=>?_⟩
    ·simp only [Pu,Yh u,cT,Ye,c,bS,e]
     rw [XL (by omega) (by omega),XL (by omega) (by omega),Yy (by omega)]
     exact F
    ·simp only [M3]
     exact ⟨z (by omega),l (by omega)⟩
  have key:∀ (r:List ZT) (j n:Nat) (s t:Int),xs.drop j=r->r.length < n->0<=s->0<=t->s+t+(cL (oL r):Int)<=4194304 ->
    ∃ a b:Int,VZ N (Ts N) xs n s t (j:Int)=some (a,b)/\s<=a/\t<=b/\a+b<=s+t+(cL (oL r):Int)/\(a+b=s+t->Q2 (oL r)):=by
   intro r
   induction r with
   | nil =>
    intro j n s t h g I K f
    obtain ⟨n,rfl⟩:=pS n (by simp at g;omega)
    refine ⟨s,t,?_,by omega,by omega,by omega,fun _=>by simp only [oL,Q2]⟩
    simp only [VZ,Yl (Xh h),cF,Zba]
   | cons x r S =>
    intro j n s t h g I K f
    obtain ⟨n,rfl⟩:=pS n (by simp at g;omega)
    have ⟨u,c,d⟩:=Xg h
    have A:=Zb c
    have i:=(WT _).1 (Wy hb (XV A))
    rw [Xl,UK] at i
    simp only [oL,cL] at f ⊢
    rw [Ud,Xl] at f ⊢
    push_cast at f ⊢
    have P:(oI x).Zq=x.Zq:=by rw [XU]
    have q:∀ (v w:Int),s<=v->t<=w->v+w<=s+t+1->(v+w=s+t->x.Zq≠5/\x.Zq≠6)->∃ a b:Int,LD N (Ts N) (j:Int) (VZ N (Ts N) xs n) x v w=some (a,b)/\s<=a/\t<=b/\a+b<=s+t+((YF (YA x.ZC):Int)+1+(cL (oL r):Int))/\(a+b=s+t->plI (oI x)/\Q2 (oL r)):=by
     intro v w V W X L
     have ⟨a,b,e,a1,G,T,z⟩:=m j x (VZ N (Ts N) xs n) c x.ZC 0 N v w rfl (by omega) (by omega) (by omega) (by omega)
     have ⟨D,E,F,a2,b2,H,l⟩:=S (j+1) n a b d (by simp at g;omega) (by omega) (by omega) (by omega)
     refine ⟨D,E,?_,by omega,by omega,by omega,fun C=>⟨?_,l (by omega)⟩⟩
     ·unfold LD
      exact e.trans F
     ·rw [Zpm,Xl,P]
      have:=L (by omega)
      exact ⟨this.1,this.2,z (by omega)⟩
    simp only [VZ,Yh u,cT,Ye,c,bS,GO,Q2]
    by_cases B:x.Zq=6
    ·rw [show (x.Zq==(6:Int))=true by simpa using B,cT,show (x.Zq==(5:Int))=false by simp [B],cF,XL (by omega) (by omega)]
     exact q (s+1) t (by omega) (by omega) (by omega) (fun C=>by omega)
    ·rw [show (x.Zq==(6:Int))=false by simpa using B,cF]
     by_cases R:x.Zq=5
     ·rw [show (x.Zq==(5:Int))=true by simpa using R,cT,XL (by omega) (by omega)]
      exact q s (t+1) (by omega) (by omega) (by omega) (fun C=>by omega)
     ·rw [show (x.Zq==(5:Int))=false by simpa using R,cF]
      exact q s t (by omega) (by omega) (by omega) (fun _=>⟨R,B⟩)
  have ⟨a,b,e,a1,G,T,z⟩:=key xs 0 N 0 0 rfl (by rw [show xs.length=xs.length from rfl];omega) (by omega) (by omega) (by omega)
  exact ⟨a,b,e,a1,G,by omega,fun h=>z (by omega)⟩
end Gp
end
section
namespace Gp
open Go Go.Kx Gx
end Gp
end
section
namespace Gp
open Go Go.Kx Gx
end Gp
end
section
namespace Gp
open Go Go.Kx Gx
theorem Zel {l:List ZL} {a b:ByteArray} (h:QF l a b):∀ (n:Nat) c,XS l n b c->XS l (n+1) a c
 | 0,c,e=>by
  have e:b=c:=e
  subst e
  exact ⟨a,rfl,h⟩
 | n+1,c,⟨d,h1,h2⟩=>⟨d,Zel h n d h1,h2⟩
theorem Zpz (l:List ZL) (f:∀ p∈l,QG l p):∃ R:ByteArray->Nat,(∀ a,R a<=4)/\∀ p∈l,∀ b,QF l p.Zt b->R b < R p.Zt:=by
 classical
 refine ⟨fun a=>(if ∃ b,XS l 1 a b then 1 else 0)+(if ∃ b,XS l 2 a b then 1 else 0)+(if ∃ b,XS l 3 a b then 1 else 0)+(if ∃ b,XS l 4 a b then 1 else 0),fun a=>?_,fun p i b j=>?_⟩
 ·dsimp only;split<;>split<;>split<;>split<;>omega
 ·have d:∀ n,(∃ c,XS l n b c)->∃ c,XS l (n+1) p.Zt c:=fun n ⟨c,h⟩=>⟨c,Zel j n c h⟩
  have e:∀ n,(if ∃ c,XS l n b c then 1 else 0)<=(if ∃ c,XS l (n+1) p.Zt c then 1 else 0):=by
   intro n
   split
   ·rename_i h;rw [if_pos (d n h)];exact Zo _
   ·exact Nat.zero_le _
  have k:∃ c,XS l 1 p.Zt c:=d 0 ⟨b,rfl⟩
  have m:¬ ∃ c,XS l 4 b c:=fun h=>by have ⟨c,g⟩:=d 4 h;exact f p i c g
  have o:(if ∃ c,XS l 1 b c then 1 else 0)<=(if ∃ c,XS l 2 p.Zt c then 1 else 0):=e 1
  have q:(if ∃ c,XS l 2 b c then 1 else 0)<=(if ∃ c,XS l 3 p.Zt c then 1 else 0):=e 2
  have r:(if ∃ c,XS l 3 b c then 1 else 0)<=(if ∃ c,XS l 4 p.Zt c then 1 else 0):=e 3
  dsimp only
  rw [if_pos k,if_neg m]
  omega
mutual
def EI (l:List ZL) (R:ByteArray->Nat) (r:Nat):ZJ->Prop
 | ⟨k,_,t,n,a,_,b⟩=>(k=6->∃ q∈l,q.Zt=n/\q.ZD.length=t.length/\R n < r)/\(bs n).length<=50/\(bs a).length<=50/\t.length<=6/\b.length<=8/\Ut l R r b
def EL (l:List ZL) (R:ByteArray->Nat) (r:Nat):List ZJ->Prop
 | []=>True
 | x::xs=>EI l R r x/\EL l R r xs
def Ut (l:List ZL) (R:ByteArray->Nat) (r:Nat):List (List ZJ)->Prop
 | []=>True
 | b::bs=>EL l R r b/\Ut l R r bs
end
theorem Zda {l R r} (x:ZJ):EI l R r x↔(x.Zq=6->∃ q∈l,q.Zt=x.Zt/\q.ZD.length=x.To.length/\R x.Zt < r)/\(bs x.Zt).length<=50/\(bs x.As).length<=50/\x.To.length<=6/\x.ZC.length<=8/\Ut l R r x.ZC:=by
 cases x;simp only [EI]
theorem Bf {l R r}:∀ {xs:List ZJ} {x},EL l R r xs->x∈xs->EI l R r x
 | y::xs,x,h,a=>by
  simp only [EL] at h
  rcases List.mem_cons.1 a with rfl | a
  ·exact h.1
  ·exact Bf h.2 a
theorem Be {l R r}:∀ {xs:List (List ZJ)} {x},Ut l R r xs->x∈xs->EL l R r x
 | y::xs,x,h,a=>by
  simp only [Ut] at h
  rcases List.mem_cons.1 a with rfl | a
  ·exact h.1
  ·exact Be h.2 a
theorem Zo9:(bs (str [])).length<=50:=by rw [Yx];exact Nat.zero_le _
theorem Zqn {x:ZJ} (h:XI x):(bs x.Zt).length<=50/\(bs x.As).length<=50/\x.To.length<=6/\x.ZC.length<=8:=by
 have z:=Zo9
 rcases h with ⟨_,_,a,b,c,_,d⟩ | ⟨_,_,a,b,c,_,_,_,d⟩ | ⟨_,_,a,b,c,_,d⟩ | ⟨_,_,a,b,c,_,d⟩ | ⟨_,_,a,b,c,_,_,d⟩ | ⟨_,_,a,b,c,_,d⟩
 ·exact ⟨VW b,by rw [c];exact z,by have:=a.2.1;omega,by omega⟩
 ·exact ⟨by rw [b];exact z,by rw [c];exact z,by omega,by omega⟩
 ·exact ⟨VW b,by rw [c];exact z,by omega,by omega⟩
 ·exact ⟨VW b,by rw [c];exact z,by omega,by omega⟩
 ·exact ⟨by rw [b];exact z,by rw [c];exact z,by omega,by omega⟩
 ·exact ⟨by have:=W4 b;omega,by have:=W4 c;omega,a.2.1,by omega⟩
mutual
theorem e_I {l:List ZL} {R:ByteArray->Nat} {r:Nat} {p:ZL}:∀ (x:ZJ) ls,Te l p ls x->TW x->(∀ a∈VK x,(∃ q∈l,q.Zt=a)->R a < r)->EI l R r x
 | ⟨k,f,t,n,a,z,b⟩,ls,h,hs,hc=>by
  rw [Zam] at h
  rw [H6] at hs
  have ⟨i,j,m,o⟩:=Zqn hs.1
  simp only [EI]
  refine ⟨fun d=>?_,i,j,m,o,ZhT b _ h.2 hs.2 fun q g=>hc q (by simp only [VK];exact List.mem_append_right _ g)⟩
  have ⟨_,_,_,_,s⟩:=h.1
  have ⟨q,u,v,_⟩:=s d
  have ⟨e,c⟩:=ZdO u
  have c:q.Zt=n:=c
  exact ⟨q,e,c,v,hc n (by simp only [VK,RG];rw [if_pos d];simp) ⟨q,e,c⟩⟩
theorem e_L {l:List ZL} {R:ByteArray->Nat} {r:Nat} {p:ZL}:∀ (xs:List ZJ) ls,WE l p ls xs->Xq xs->(∀ a∈Xc xs,(∃ q∈l,q.Zt=a)->R a < r)->EL l R r xs
 | [],_,_,_,_=>by simp only [EL]
 | x::xs,ls,h,hs,hc=>by
  simp only [WE] at h
  simp only [Xq] at hs
  simp only [EL]
  exact ⟨e_I x _ h.1 hs.1 fun q b=>hc q (by simp only [Xc];exact List.mem_append_left _ b),e_L xs _ h.2 hs.2 fun q b=>hc q (by simp only [Xc];exact List.mem_append_right _ b)⟩
theorem ZhT {l:List ZL} {R:ByteArray->Nat} {r:Nat} {p:ZL}:∀ (xs:List (List ZJ)) ls,VV l p ls xs->Wa xs->(∀ a∈WA xs,(∃ q∈l,q.Zt=a)->R a < r)->Ut l R r xs
 | [],_,_,_,_=>by simp only [Ut]
 | x::xs,ls,h,hs,hc=>by
  simp only [VV] at h
  simp only [Wa] at hs
  simp only [Ut]
  exact ⟨e_L x _ h.1 hs.1 fun q b=>hc q (by simp only [WA];exact List.mem_append_left _ b),ZhT xs _ h.2 hs.2 fun q b=>hc q (by simp only [WA];exact List.mem_append_right _ b)⟩
end
mutual
theorem ZpB {l R r}:∀ x,EI l R r x->(SM x).length<=7 * cI x
 | ⟨k,f,t,n,a,z,b⟩,h=>by
  simp only [EI] at h
  have c:=Znl ⟨k,f,t,n,a,z,b⟩
  have c:(RF ⟨k,f,t,n,a,z,b⟩).length<=t.length+1:=c
  have:=Zjd b h.2.2.2.2.2
  have:=h.2.2.2.1
  rw [Zeu,Ud,lA]
  show _+(VX b).length<=7 * (YF b+1)
  omega
theorem Zet {l R r}:∀ xs,EL l R r xs->(X4 xs).length<=7 * cL xs
 | [],_=>by simp [X4]
 | x::xs,h=>by
  simp only [EL] at h
  have:=ZpB x h.1
  have:=Zet xs h.2
  simp only [X4,cL,lA];omega
theorem Zjd {l R r}:∀ xs,Ut l R r xs->(VX xs).length<=7 * YF xs
 | [],_=>by simp [VX]
 | x::xs,h=>by
  simp only [Ut] at h
  have:=Zet x h.1
  have:=Zjd xs h.2
  simp only [VX,YF,lA];omega
end
theorem VI:∀ xs:List ZJ,xs.length<=cL xs
 | []=>by simp [cL]
 | x::xs=>by have:=VI xs;have:=Ud x;simp only [cL,Zf];omega
mutual
theorem ZlL {l R r}:∀ x,EI l R r x->cI x<=4194304->bI x
 | ⟨k,f,t,n,a,z,b⟩,h,hc=>by
  simp only [EI] at h
  simp only [cI] at hc
  simp only [bI]
  exact ⟨by omega,by omega,Zgw b h.2.2.2.2.2 (by omega)⟩
theorem Zdl {l R r}:∀ xs,EL l R r xs->cL xs<=4194304->bL xs
 | [],_,_=>by simp only [bL]
 | x::xs,h,hc=>by
  simp only [EL] at h
  simp only [cL] at hc
  simp only [bL]
  exact ⟨ZlL x h.1 (by omega),Zdl xs h.2 (by omega)⟩
theorem Zgw {l R r}:∀ xs,Ut l R r xs->YF xs<=4194304->VG xs
 | [],_,_=>by simp only [VG]
 | x::xs,h,hc=>by
  simp only [Ut] at h
  simp only [YF] at hc
  simp only [VG]
  have:=VI x
  exact ⟨by omega,Zdl x h.1 (by omega),Zgw xs h.2 (by omega)⟩
end
end Gp
end
section
namespace Gp
open Go Go.Kx Gx
def Wg (l:List ZL) (A:List (ByteArray × ZL)):Prop:=∀ p∈l,YS A p.Zt=some p
theorem Zqj {l:List ZL} (SM:(List ZJ)->T2->(List (ByteArray × Bool))->ZL->Option (Bool × (List (ByteArray × Bool)))) (v:ZL) (k:Nat) (D:k < 4194304) (b:List ZJ)
  (m:∀ g,∃ o,∀ c:T2,Wg l c.all'->SM b c g v=some o)
  (ag:T2->List (ByteArray × Bool)->List (ByteArray × Bool)->Int->Option (Bool × List (ByteArray × Bool)))
  (r:∀ g f,∃ o,∀ c:T2,Wg l c.all'->ag c g f ((k+1:Nat):Int)=some o) (s:List ByteArray) (A:s.length<=4194304) (g:List (ByteArray × Bool)) :
  ∀ (q:List ByteArray) (j n:Nat) (f:List (ByteArray × Bool)),s.drop j=q->q.length < n->∃ o,∀ c:T2,Wg l c.all'->Rh SM c v g (k:Int) (ag c) b s n f (j:Int)=some o:=by
 intro q
 induction q with
 | nil =>
  intro j n f h p
  obtain ⟨n,rfl⟩:=pS n (by simp at p;omega)
  obtain ⟨⟨B,w⟩,y⟩:=m g
  cases B with
  | false =>
   refine ⟨(false,w),fun c i=>?_⟩
   simp only [Rh,Yl (Xh h),cF,Dp]
   rw [y c i];rfl
  | true =>
   have ⟨t,u⟩:=r w f
   refine ⟨t,fun c i=>?_⟩
   simp only [Rh,Yl (Xh h),cF,Dp]
   rw [y c i,bS,Yy (by omega)]
   exact u c i
 | cons x q C =>
  intro j n f h p
  obtain ⟨n,rfl⟩:=pS n (by simp at p;omega)
  have ⟨a,e,d⟩:=Xg h
  cases z:(YS f x).getD false with
  | true =>
   refine ⟨(false,g),fun c i=>?_⟩
   simp only [Rh,Yh a,cT,Ye,e,bS,z]
  | false =>
   have ⟨t,u⟩:=C (j+1) n (Xo f x true) d (by simp at p;omega)
   refine ⟨t,fun c i=>?_⟩
   simp only [Rh,Yh a,cT,Ye,e,bS,z,cF]
   rw [Yy (by omega)]
   exact u c i
theorem ZjJ {l:List ZL} {R:ByteArray->Nat} {r:Nat} (s:T2->ByteArray->(List (ByteArray × Bool))->Option (Bool × (List (ByteArray × Bool))))
  (B:∀ q∈l,R q.Zt < r->∀ f,∃ o,∀ c:T2,Wg l c.all'->s c q.Zt f=some o) (m:ZL) (C:m.ZD.length<=4194304) :
  ∀ (N:Nat) (xs:List ZJ),4194306+dL xs<=N->cL xs<=300->EL l R r xs->∀ f,∃ o,∀ c:T2,Wg l c.all'->US s N xs c f m=some o
 | 0,_,h,_,_,_=>by omega
 | N+1,xs,h,i,he,f=>by
  show ∃ o,∀ c:T2,Wg l c.all'->Do N s (US s N) xs c f m=some o
  unfold Do
  have W:=VI xs
  have y:∀ (k:Nat) (x:ZJ) (ag:T2->List (ByteArray × Bool)->Int->Option (Bool × List (ByteArray × Bool))),xs[k]? = some x ->
    (∀ f,∃ o,∀ c:T2,Wg l c.all'->ag c f ((k+1:Nat):Int)=some o)->∀ f v,∃ o,∀ c:T2,Wg l c.all' ->
    PT N (US s N) c m (k:Int) (ag c) x f v=some o:=by
   intro k x ag V M f v
   have G:=Zb V
   have ⟨_,_,_,_,X,K⟩:=(Zda x).1 (Bf he G)
   have O:=Wt G
   rw [Ws] at O
   have hcx:=HJ G
   have hk:=Yf V
   cases v with
   | true=>exact ⟨(false,f),fun c i=>by unfold PT;rfl⟩
   | false =>
    have key:∀ (q:List (List ZJ)) (j n:Nat) f g,x.ZC.drop j=q->q.length < n->∃ o,∀ c:T2,Wg l c.all' ->
      Ur N (US s N) c m (k:Int) (ag c) x n f g (j:Int)=some o:=by
     intro q
     induction q with
     | nil =>
      intro j n f g h u
      obtain ⟨n,rfl⟩:=pS n (by simp at u;omega)
      have ⟨o,t⟩:=M f
      refine ⟨o,fun c i=>?_⟩
      simp only [Ur,Yl (Xh h),cF,Zcc]
      rw [Yy (by omega)]
      exact t c i
     | cons b q U =>
      intro j n f g h u
      obtain ⟨n,rfl⟩:=pS n (by simp at u;omega)
      have ⟨a,e,d⟩:=Xg h
      have z:=Zb e
      have hdb:=WK z
      have hcb:=My z
      have A:=Be K z
      have w:=fun f=>ZjJ s B m C N b (by omega) (by omega) A f
      have next:=fun f g=>U (j+1) n f g d (by simp at u;omega)
      cases S:(x.Zq==(5:Int)) with
      | true =>
       have P:=Zdl b A (by omega)
       have hrr:=Zet b A
       have hlb:=VI b
       have ⟨o,t⟩:=Zqj (US s N) m j (by omega) b w (fun c=>Ur N (US s N) c m (k:Int) (ag c) x n) next
        (m.ZD.filter fun r=>Xk r (X4 b)) (by have:=List.length_filter_le (fun r=>Xk r (X4 b)) m.ZD;omega) f _ 0 N g rfl (by
         rw [List.drop_zero]
         have:=List.length_filter_le (fun r=>Xk r (X4 b)) m.ZD;omega)
       refine ⟨o,fun c i=>?_⟩
       simp only [Ur,Yh a,cT,Ye,e,bS,S]
       rw [Zpi (by omega) m.ZD C b (by omega) (by omega) P (by omega) (by omega),bS]
       exact t c i
      | false =>
       obtain ⟨⟨L,I⟩,t⟩:=w f
       cases L with
       | false =>
        refine ⟨(false,I),fun c i=>?_⟩
        simp only [Ur,Yh a,cT,Ye,e,bS,S,cF]
        rw [t c i];rfl
       | true =>
        have ⟨D,E⟩:=next I g
        refine ⟨D,fun c i=>?_⟩
        simp only [Ur,Yh a,cT,Ye,e,bS,S,cF]
        rw [t c i,bS,Yy (by omega)]
        exact E c i
    have ⟨o,t⟩:=key _ 0 N f [] rfl (by rw [List.drop_zero];omega)
    exact ⟨o,fun c i=>by unfold PT;rw [cF];exact t c i⟩
  have key:∀ (q:List ZJ) (j n:Nat) f,xs.drop j=q->q.length < n->∃ o,∀ c:T2,Wg l c.all' ->
    VB N s (US s N) xs c m n f (j:Int)=some o:=by
   intro q
   induction q with
   | nil =>
    intro j n f h u
    obtain ⟨n,rfl⟩:=pS n (by simp at u;omega)
    refine ⟨(true,f),fun c i=>?_⟩
    simp only [VB,Yl (Xh h),cF,Zcb]
   | cons x q U =>
    intro j n f h u
    obtain ⟨n,rfl⟩:=pS n (by simp at u;omega)
    have ⟨a,e,d⟩:=Xg h
    have G:=Zb e
    have H:=y j x (fun c=>VB N s (US s N) xs c m n) e (fun f=>U (j+1) n f d (by simp at u;omega))
    cases T:(x.Zq==(6:Int)) with
    | true =>
     have ⟨p,Y,F,_,Z⟩:=((Zda x).1 (Bf he G)).1 (by simpa using T)
     obtain ⟨⟨L,I⟩,t⟩:=B p Y (by rw [F];exact Z) f
     rw [F] at t
     have ⟨D,E⟩:=H I (!L)
     refine ⟨D,fun c i=>?_⟩
     simp only [VB,Yh a,cT,Ye,e,bS,T]
     rw [t c i,bS]
     exact E c i
    | false =>
     have ⟨D,E⟩:=H f false
     refine ⟨D,fun c i=>?_⟩
     simp only [VB,Yh a,cT,Ye,e,bS,T,cF]
     exact E c i
  exact key _ 0 N f rfl (by rw [List.drop_zero];omega)
structure Rn (l:List ZL) (R:ByteArray->Nat):Prop where
 le:∀ a,R a<=4
 e:∀ p∈l,EL l R (R p.Zt) p.ZF
 d:∀ p∈l,dL p.ZF<=10
 c:∀ p∈l,cL p.ZF<=300
 r:∀ p∈l,p.ZD.length<=6
 m:∀ p∈l,p.ZE.length<=40
 ms:∀ p∈l,∀ m∈p.ZE,Wx m
theorem Zp5 {l:List ZL} (c:UZ l):∃ R,Rn l R:=by
 have ⟨R,f,g⟩:=Zpz l fun p b=>(c.2.2 p b).2.2
 refine ⟨R,f,fun p b=>?_,fun p b=>?_,fun p b=>?_,fun p b=>?_,fun p b=>?_,fun p b=>?_⟩
 ·have ⟨_,_,_,h,_⟩:=c.1.2.1 p b
  refine e_L p.ZF [] (c.2.2 p b).2.1 h fun a d e=>g p b a ⟨⟨p,BT c.2.1 b,d⟩,e⟩
 ·exact (c.1.2.1 p b).2.2.2.2.1
 ·exact (c.1.2.1 p b).2.2.2.2.2.1
 ·exact (c.1.2.1 p b).2.1.2.1
 ·exact (c.1.2.1 p b).2.2.1
 ·exact (c.1.2.1 p b).2.2.2.2.2.2
theorem ZjI {l:List ZL} {R:ByteArray->Nat} (b:Rn l R):∀ (r N:Nat) (p:ZL),p∈l->R p.Zt < r->4194320+r<=N->∀ a,∃ o,∀ c:T2,Wg l c.all'->PI N c p.Zt a=some o
 | 0,_,_,_,h,_,_=>by omega
 | r+1,0,_,_,_,h,_=>by omega
 | r+1,N+1,p,hp,hr,h,a=>by
  show ∃ o,∀ c:T2,Wg l c.all'->LR N (PI N) c p.Zt a=some o
  cases g:(YS a p.Zt).getD false with
  | true=>exact ⟨(true,a),fun c f=>by unfold LR;rw [g];rfl⟩
  | false =>
   have m:=b.d p hp
   have ⟨o,k⟩:=ZjJ (r:=R p.Zt) (PI N) (fun q i j a=>ZjI b r N q i (by omega) (by omega) a) p (by have:=b.r p hp;omega) N p.ZF (by omega) (b.c p hp) (b.e p hp) (Xo a p.Zt true)
   refine ⟨o,fun c f=>?_⟩
   unfold LR ZfI
   rw [g,bS,cF,f p hp,Option.getD_some,bS,k c f]
   rfl
end Gp
end
section
namespace Gp
open Go Go.Kx Gx
def RX (h:ByteArray) (t:Ys):Ys:=if t.Zv=str [] then t else ⟨t.Zq,Z3 (bs h++bs t.Zv),t.Field,t.N⟩
def rnM (h:ByteArray) (m:ZS):ZS:=⟨Z3 (bs h++bs m.Zt),m.Zy,m.Zz.map fun a=>⟨RX h a.Zw,a.Op,RX h a.Zx⟩⟩
def Bm (s:Nat) (m:ZS):Prop:=m.Zy.length<=4/\m.Zz.length<=6/\(bs m.Zt).length<=s/\∀ a∈m.Zz,(bs a.Zw.Zv).length<=s/\(bs a.Zx.Zv).length<=s
theorem ZlU {m:ZS} (h:Wx m):Bm 50 m:=⟨h.2.1,h.2.2.1,VW h.1,fun a b=>⟨(Lh (h.2.2.2.2 a b).1).1,(Lh (h.2.2.2.2 a b).2.1).1⟩⟩
theorem Zgz {s t:Nat} (h:s<=t) {m:ZS} (b:Bm s m):Bm t m:=⟨b.1,b.2.1,by have:=b.2.2.1;omega,fun a c=>by have:=b.2.2.2 a c;omega⟩
theorem Zjt {h:ByteArray} {t:Ys} {s:Nat} (a:(bs h).length<=51) (b:(bs t.Zv).length<=s):(bs (RX h t).Zv).length<=s+51:=by
 unfold RX
 split
 ·omega
 ·show (bs (Z3 (bs h++bs t.Zv))).length<=_
  rw [Yq,lA];omega
theorem Zp3 {h:ByteArray} {m:ZS} {s:Nat} (d:(bs h).length<=51) (b:Bm s m):Bm (s+51) (rnM h m):=by
 have ⟨i,j,k,e⟩:=b
 refine ⟨i,by show (List.map _ _).length<=_;rw [List.length_map];exact j,?_,fun a g=>?_⟩
 ·show (bs (Z3 (bs h++bs m.Zt))).length<=_
  rw [Yq,lA];omega
 ·obtain ⟨f,c,rfl⟩:=List.mem_map.1 g
  exact ⟨Zjt d (e f c).1,Zjt d (e f c).2⟩
theorem Zj7 (N:Nat) {h:ByteArray} {t:Ys} {s:Nat} {ro:List (ByteArray × ByteArray)} (c:(bs h).length<=51) (d:s<=10000) (f:(bs t.Zv).length<=s):Qz N t ⟨ro,h⟩=some (RX h t):=by
 unfold Qz RX
 cases b:(t.Zv.toList==(str []).toList) with
 | true=>rw [if_pos (Xm.1 b)];rfl
 | false =>
  rw [if_neg (fun e=>by rw [Xm.2 e] at b;cases b),Bool.not_false,cT,Xb (a:=h) (by omega)];rfl
theorem Zor {N:Nat} (p:4194304 < N) {ro:List (ByteArray × ByteArray)} {h:ByteArray} {s:Nat} (f:(bs h).length<=51) (g:s<=10000) (l:List ZS) (q:l.length<=4194304) (i:∀ m∈l,Bm s m):z37 N ⟨ro,h⟩ l=some (l.map (rnM h)):=by
 unfold z37
 have:=(Xz l (Vg N ⟨ro,h⟩ l) (fun s x=>s++[rnM h x]) (fun s=>some s)
  (fun j s=>s.length=j) (fun n k s x hi c=>?_) (fun n k s hi d=>?_) (N:=N) (s:=[]) (by omega) rfl).1
 ·rw [this,VY];rfl
 ·have d:=Yf c
  have ⟨r,t,u,o⟩:=i x (Zb c)
  refine ⟨?_,by simp [hi]⟩
  simp only [Vg,Yh d,cT,Ye,c,bS]
  rw [Xb (a:=h) (by omega),bS]
  unfold Bc
  rw [YW (by simp;omega),List.nil_append,bS,bS]
  have:=(Xz x.Zz (Sk N ⟨ro,h⟩ s (k:Int) (Vg N ⟨ro,h⟩ l n) x (Z3 (bs h++bs x.Zt)) x.Zy) (fun s y=>s++[(⟨RX h y.Zw,y.Op,RX h y.Zx⟩:YM)]) (fun w=>PU s (k:Int) (Vg N ⟨ro,h⟩ l n) (Z3 (bs h++bs x.Zt)) x.Zy w)
   (fun j s=>s.length=j) (fun n j s y hi b=>?_) (fun n j s hi b=>?_) (N:=N) (s:=[]) (by omega) rfl).1
  ·rw [this,VY,List.nil_append]
   unfold PU
   rw [YW (by simp;omega),bS,Yy (by omega)];rfl
  ·have e:=Yf b
   have ⟨a1,a2⟩:=o y (Zb b)
   refine ⟨?_,by simp [hi]⟩
   simp only [Sk,Yh e,cT,Ye,b,bS,Zj7 N f g a1,Zj7 N f g a2]
   rw [YW (by simp;omega),bS,Yy (by omega)]
  ·simp only [Sk,Yl b,cF]
 ·simp only [Vg,Yl d,cF,Ds]
def TR (ro:List (ByteArray × ByteArray)) (s:ByteArray):ByteArray:=(YS ro s).getD s
theorem Zjy (N:Nat) (ro:List (ByteArray × ByteArray)) (h s:ByteArray):Hw N ⟨ro,h⟩ s=some (TR ro s):=by
 unfold Hw TR
 cases YS ro s<;>rfl
mutual
def RW (ro:List (ByteArray × ByteArray)) (h:ByteArray):ZJ->ZJ
 | ⟨k,f,t,n,a,z,b⟩=>⟨k,if f=str [] then f else TR ro f,t.map (TR ro),if k=1\/k=3\/k=4 then Z3 (bs h++bs n) else n,a,z,UP ro h b⟩
def Ul (ro:List (ByteArray × ByteArray)) (h:ByteArray):List ZJ->List ZJ
 | []=>[]
 | x::xs=>RW ro h x::Ul ro h xs
def UP (ro:List (ByteArray × ByteArray)) (h:ByteArray):List (List ZJ)->List (List ZJ)
 | []=>[]
 | x::xs=>Ul ro h x::UP ro h xs
def GI (s:Nat):ZJ->Prop
 | ⟨_,_,t,n,_,_,b⟩=>(bs n).length<=s/\t.length<=6/\b.length<=8/\X8 s b
def GL (s:Nat):List ZJ->Prop
 | []=>True
 | x::xs=>GI s x/\GL s xs
def X8 (s:Nat):List (List ZJ)->Prop
 | []=>True
 | b::bs=>GL s b/\X8 s bs
end
theorem Zp2 (ro h) (x:ZJ):RW ro h x=⟨x.Zq,if x.ZA=str [] then x.ZA else TR ro x.ZA,x.To.map (TR ro),if x.Zq=1\/x.Zq=3\/x.Zq=4 then Z3 (bs h++bs x.Zt) else x.Zt,x.As,x.ZB,UP ro h x.ZC⟩:=by cases x;simp only [RW]
theorem Zjs (ro h):∀ l:List ZJ,Ul ro h l=l.map (RW ro h)
 | []=>rfl
 | x::l=>by simp only [Ul,List.map_cons,Zjs ro h l]
theorem Zex (ro h):∀ l:List (List ZJ),UP ro h l=l.map (Ul ro h)
 | []=>rfl
 | x::l=>by simp only [UP,List.map_cons,Zex ro h l]
theorem Zlp {s} (x:ZJ):GI s x↔(bs x.Zt).length<=s/\x.To.length<=6/\x.ZC.length<=8/\X8 s x.ZC:=by cases x;simp only [GI]
theorem Zge {s}:∀ {xs:List ZJ} {x},GL s xs->x∈xs->GI s x
 | y::xs,x,h,a=>by
  simp only [GL] at h
  rcases List.mem_cons.1 a with rfl | a
  ·exact h.1
  ·exact Zge h.2 a
theorem Zgd {s}:∀ {xs:List (List ZJ)} {x},X8 s xs->x∈xs->GL s x
 | y::xs,x,h,a=>by
  simp only [X8] at h
  rcases List.mem_cons.1 a with rfl | a
  ·exact h.1
  ·exact Zgd h.2 a
theorem Bh {s}:∀ {a b:List ZJ},GL s a->GL s b->GL s (a++b)
 | [],b,_,h=>h
 | x::a,b,h,g=>by
  simp only [GL,List.cons_append] at h ⊢
  exact ⟨h.1,Bh h.2 g⟩
theorem Zgc {s}:∀ {a b:List (List ZJ)},X8 s a->X8 s b->X8 s (a++b)
 | [],b,_,h=>h
 | x::a,b,h,g=>by
  simp only [X8,List.cons_append] at h ⊢
  exact ⟨h.1,Zgc h.2 g⟩
theorem Bv:∀ a b:List ZJ,cL (a++b)=cL a+cL b
 | [],b=>by simp [cL]
 | x::a,b=>by simp only [List.cons_append,cL,Bv a b];omega
theorem ZgE:∀ a b:List (List ZJ),YF (a++b)=YF a+YF b
 | [],b=>by simp [YF]
 | x::a,b=>by simp only [List.cons_append,YF,ZgE a b];omega
mutual
theorem ZlM {s}:∀ x,GI s x->cI x<=4194304->bI x
 | ⟨k,f,t,n,a,z,b⟩,h,hc=>by
  simp only [GI] at h
  simp only [cI] at hc
  simp only [bI]
  exact ⟨by omega,by omega,Zgx b h.2.2.2 (by omega)⟩
theorem Br {s}:∀ xs,GL s xs->cL xs<=4194304->bL xs
 | [],_,_=>by simp only [bL]
 | x::xs,h,hc=>by
  simp only [GL] at h
  simp only [cL] at hc
  simp only [bL]
  exact ⟨ZlM x h.1 (by omega),Br xs h.2 (by omega)⟩
theorem Zgx {s}:∀ xs,X8 s xs->YF xs<=4194304->VG xs
 | [],_,_=>by simp only [VG]
 | x::xs,h,hc=>by
  simp only [X8] at h
  simp only [YF] at hc
  simp only [VG]
  have:=VI x
  exact ⟨by omega,Br x h.1 (by omega),Zgx xs h.2 (by omega)⟩
end
mutual
theorem Zp4 {s ro h} (c:(bs h).length<=51):∀ x,GI s x->GI (s+51) (RW ro h x)/\cI (RW ro h x)=cI x
 | ⟨k,f,t,n,a,z,b⟩,g=>by
  simp only [GI] at g
  have ⟨m,d,e,i⟩:=g
  have ⟨j,l⟩:=Zju (ro:=ro) c b i
  simp only [RW,GI,cI]
  refine ⟨⟨?_,by rw [List.length_map];exact d,by rw [Zex,List.length_map];exact e,j⟩,by rw [l]⟩
  split
  ·rw [Yq,lA];omega
  ·omega
theorem Zey {s ro h} (a:(bs h).length<=51):∀ xs,GL s xs->GL (s+51) (Ul ro h xs)/\cL (Ul ro h xs)=cL xs
 | [],_=>by simp only [Ul,GL,cL,and_self]
 | x::xs,g=>by
  simp only [GL] at g
  have ⟨b,c⟩:=Zp4 (ro:=ro) a x g.1
  have ⟨d,e⟩:=Zey (ro:=ro) a xs g.2
  simp only [Ul,GL,cL]
  exact ⟨⟨b,d⟩,by rw [c,e]⟩
theorem Zju {s ro h} (a:(bs h).length<=51):∀ xs,X8 s xs->X8 (s+51) (UP ro h xs)/\YF (UP ro h xs)=YF xs
 | [],_=>by simp only [UP,X8,YF,and_self]
 | x::xs,g=>by
  simp only [X8] at g
  have ⟨b,c⟩:=Zey (ro:=ro) a x g.1
  have ⟨d,e⟩:=Zju (ro:=ro) a xs g.2
  simp only [UP,X8,YF]
  exact ⟨⟨b,d⟩,by rw [c,e]⟩
end
mutual
theorem Znh {s t} (h:s<=t):∀ x,GI s x->GI t x
 | ⟨k,f,to,n,a,z,b⟩,g=>by
  simp only [GI] at g ⊢
  exact ⟨by omega,g.2.1,g.2.2.1,Zh2 h b g.2.2.2⟩
theorem ZdS {s t} (h:s<=t):∀ x,GL s x->GL t x
 | [],_=>by simp only [GL]
 | x::xs,g=>by
  simp only [GL] at g ⊢
  exact ⟨Znh h x g.1,ZdS h xs g.2⟩
theorem Zh2 {s t} (h:s<=t):∀ x,X8 s x->X8 t x
 | [],_=>by simp only [X8]
 | x::xs,g=>by
  simp only [X8] at g ⊢
  exact ⟨ZdS h x g.1,Zh2 h xs g.2⟩
end
theorem Zih {ro:List (ByteArray × ByteArray)} {h:ByteArray} {s:Nat} (F:(bs h).length<=51) (G:s<=10000) :
  ∀ (N:Nat) (xs:List ZJ),4194306+dL xs<=N->cL xs<=4194304->GL s xs->Wb N ⟨ro,h⟩ xs=some (Ul ro h xs)
 | 0,_,h,_,_=>by omega
 | N+1,xs,hN,hc,hg=>by
  show Du N (Wb N) ⟨ro,h⟩ xs=_
  unfold Du
  have C:=VI xs
  have:=(Xz xs (XX N (Wb N) ⟨ro,h⟩ xs) (fun s x=>s++[RW ro h x]) (fun s=>some s)
   (fun j s=>s.length=j) (fun n k b x hi o=>?_) (fun n k s hi p=>?_) (N:=N) (s:=[]) (by omega) rfl).1
  ·rw [this,VY,Zjs];rfl
  ·have p:=Yf o
   have q:=Zb o
   have ⟨M,O,P,H⟩:=(Zlp x).1 (Zge hg q)
   have r:=Wt q
   rw [Ws] at r
   have I:=HJ q
   refine ⟨?_,by simp [hi]⟩
   have D:∀ f t l,Hk N (Wb N) ⟨ro,h⟩ b (k:Int) (XX N (Wb N) ⟨ro,h⟩ xs n) x f t l =
     XX N (Wb N) ⟨ro,h⟩ xs n (b++[(⟨x.Zq,f,t,l,x.As,x.ZB,UP ro h x.ZC⟩:ZJ)]) ((k+1:Nat):Int):=by
    intro f t l
    unfold Hk
    have:=(Xz x.ZC (P0 (Wb N) ⟨ro,h⟩ b (k:Int) (XX N (Wb N) ⟨ro,h⟩ xs n) x f t l) (fun s y=>s++[Ul ro h y]) (fun w=>Dv b (k:Int) (XX N (Wb N) ⟨ro,h⟩ xs n) x f t l w)
     (fun j s=>s.length=j) (fun n j s y hi c=>?_) (fun n j s hi c=>?_) (N:=N) (s:=[]) (by omega) rfl).1
    ·rw [this,VY,List.nil_append,<- Zex]
     unfold Dv
     rw [YW (by simp;omega),bS,Yy (by omega)]
    ·have d:=Yf c
     have g:=Zb c
     have K:=WK g
     have L:=My g
     have e:=Zih F G N y (by omega) (by omega) (Zgd H g) (ro:=ro)
     refine ⟨?_,by simp [hi]⟩
     simp only [P0,Yh d,cT,Ye,c,bS,e]
     rw [YW (by simp;omega),bS,Yy (by omega)]
    ·simp only [P0,Yl c,cF]
   have E:∀ f,Hl N (Wb N) ⟨ro,h⟩ b (k:Int) (XX N (Wb N) ⟨ro,h⟩ xs n) x f =
     XX N (Wb N) ⟨ro,h⟩ xs n (b++[(⟨x.Zq,f,x.To.map (TR ro),if x.Zq=1\/x.Zq=3\/x.Zq=4 then Z3 (bs h++bs x.Zt) else x.Zt,x.As,x.ZB,UP ro h x.ZC⟩:ZJ)]) ((k+1:Nat):Int):=by
    intro f
    unfold Hl
    have:=(Xz x.To (P1 N (Wb N) ⟨ro,h⟩ b (k:Int) (XX N (Wb N) ⟨ro,h⟩ xs n) x f) (fun s y=>s++[TR ro y]) (fun w=>Dw N (Wb N) ⟨ro,h⟩ b (k:Int) (XX N (Wb N) ⟨ro,h⟩ xs n) x f w)
     (fun j s=>s.length=j) (fun n j s y hi c=>?_) (fun n j s hi c=>?_) (N:=N) (s:=[]) (by omega) rfl).1
    ·rw [this,VY,List.nil_append]
     have m:∀ v,PZ N (Wb N) ⟨ro,h⟩ b (k:Int) (XX N (Wb N) ⟨ro,h⟩ xs n) x f (x.To.map (TR ro)) v=XX N (Wb N) ⟨ro,h⟩ xs n (b++[(⟨x.Zq,f,x.To.map (TR ro),if v=true then Z3 (bs h++bs x.Zt) else x.Zt,x.As,x.ZB,UP ro h x.ZC⟩:ZJ)]) ((k+1:Nat):Int):=by
      intro v
      unfold PZ
      cases v with
      | true=>rw [cT,Xb (a:=h) (by omega),bS,D,if_pos rfl]
      | false=>rw [cF,D,if_neg (by decide)]
     unfold Dw
     by_cases u:x.Zq=1
     ·rw [show (x.Zq==(1:Int))=true by simpa using u,cT,m,if_pos rfl,if_pos (.inl u)]
     ·rw [show (x.Zq==(1:Int))=false by simpa using u,cF]
      by_cases z:x.Zq=3
      ·rw [show (x.Zq==(3:Int))=true by simpa using z,cT,m,if_pos rfl,if_pos (.inr (.inl z))]
      ·rw [show (x.Zq==(3:Int))=false by simpa using z,cF]
       by_cases A:x.Zq=4
       ·rw [show (x.Zq==(4:Int))=true by simpa using A,m,if_pos rfl,if_pos (.inr (.inr A))]
       ·rw [show (x.Zq==(4:Int))=false by simpa using A,m,if_neg (by decide),if_neg (by rintro (h | h | h)<;>contradiction)]
    ·have d:=Yf c
     refine ⟨?_,by simp [hi]⟩
     simp only [P1,Yh d,cT,Ye,c,bS,Zjy]
     rw [YW (by simp;omega),bS,Yy (by omega)]
    ·simp only [P1,Yl c,cF]
   simp only [XX,Yh p,cT,Ye,o,bS]
   rw [Zp2]
   cases B:(x.ZA.toList==(str []).toList) with
   | true =>
    have i:x.ZA=str []:=Xm.1 B
    rw [Zg,cF,E,if_pos i]
   | false =>
    have i:¬ x.ZA=str []:=fun e=>by rw [Xm.2 e] at B;cases B
    rw [Bool.not_false,cT,Zjy,bS,E,if_neg i]
  ·simp only [XX,Yl p,cF,Zch]
end Gp
end
section
namespace Gp
open Go Go.Kx Gx
structure Bq (s:Nat) (n:Nat) (q:ZL):Prop where
 r:q.ZD.length=n
 m:q.ZE.length<=40
 ms:∀ m∈q.ZE,Bm s m
 c:cL q.ZF<=300
 g:GL s q.ZF
def UX (l:List ZL) (R:ByteArray->Nat) (D:List (ByteArray × ZL)):Prop:=∀ q∈l,∀ o,YS D q.Zt=some o->Bq (100 * (R q.Zt+1)) q.ZD.length o
structure Pw (l:List ZL) (R:ByteArray->Nat) (S:Nat) (D:List (ByteArray × ZL)) (ok:Bool) (ms:List ZS) (part:List ZJ):Prop where
 d:UX l R D
 m:ms.length<=80
 ok:ok=true->ms.length<=40
 ms:∀ m∈ms,Bm S m
 c:cL part<=300
 g:GL S part
def Tw (l:List ZL) (R:ByteArray->Nat) (S:Nat) (nm:ByteArray) (ro:List ByteArray) (bo:List ZJ) (f:List (ByteArray × ZL)->Option (List ZJ × T2 × Bool × ZL)):Prop :=
 ∃ D ok ms part,Pw l R S D ok ms part/\∀ A,Wg l A->f A=some (part,⟨A,D⟩,ok,⟨nm,ro,ms,bo⟩)
theorem Tw.to {l R S nm ro bo f g} (h:Tw l R S nm ro bo g) (e:∀ A,Wg l A->f A=g A):Tw l R S nm ro bo f:=by
 have ⟨D,ok,ms,part,b,c⟩:=h
 exact ⟨D,ok,ms,part,b,fun A a=>(e A a).trans (c A a)⟩
theorem Tw.none {l R S nm ro bo D ms f} (b:UX l R D) (c:ms.length<=80) (a:∀ m∈ms,Bm S m) (e:∀ A,Wg l A->f A=some ([],⟨A,D⟩,false,⟨nm,ro,ms,bo⟩)):Tw l R S nm ro bo f :=
 ⟨D,false,ms,[],⟨b,c,(fun h=>by cases h),a,(by simp [cL]),(by simp only [GL])⟩,e⟩
theorem ZdV {l R S nm ro bo} {N k:Nat} (i:4198320<=N) (j:k < 4194304) {ag} (d:∀ D ms part,Pw l R S D true ms part->Tw l R S nm ro bo (fun A=>ag A D true nm ro ms bo part ((k+1:Nat):Int)))
  {D ms part} (ok:Bool) (b:UX l R D) (c:ms.length<=80) (a:∀ m∈ms,Bm S m) (n:cL part<=3000) (g:GL S part) :
  Tw l R S nm ro bo (fun A=>Sl N (k:Int) ag A D ok nm ro ms bo part):=by
 have h:=Br part g (by omega)
 have o:=QT part
 have p:=VI part
 have e:z40 N part=_:=Zg5 N part (by omega) (by omega) h (by omega)
 by_cases q:cL part > 300
 ·refine Tw.none b c a fun A f=>?_
  unfold Sl
  rw [e,bS,dT (by omega),cT]
 ·by_cases r:ms.length > 40
  ·refine Tw.none b c a fun A f=>?_
   unfold Sl
   rw [e,bS,dF (by omega),cF,dT (by omega),cT]
  ·cases ok with
   | false =>
    refine Tw.none b c a fun A f=>?_
    unfold Sl
    rw [e,bS,dF (by omega),cF,dF (by omega),cF,Bool.not_false,cT]
   | true =>
    refine (d D ms part ⟨b,c,fun _=>by omega,a,by omega,g⟩).to fun A f=>?_
    unfold Sl
    rw [e,bS,dF (by omega),cF,dF (by omega),cF,Zg,cF,Yy (by omega)]
theorem ZnX (N:Nat) (nm:ByteArray) (ro:List ByteArray) (ms:List ZS) (l part:List ZJ) (k:Int) (ag) (x:ZJ) (o:ZL) (v:Bool) (m:ByteArray) (c:Bool) (p:List (ByteArray × ZL)) (r:o.ZD.length=x.To.length) (w:x.To.length<=6) :
  ∀ (q:List ByteArray) (j n:Nat) g,o.ZD.drop j=q->q.length < n->∃ f,∀ A,PX N nm ro ms l part k ag x (o,c,⟨A,p⟩) v m n g (j:Int) =
   Dt N nm ro ms l part k ag (o,c,⟨A,p⟩) v m f:=by
 intro q
 induction q with
 | nil =>
  intro j n g h i
  obtain ⟨n,rfl⟩:=pS n (by simp at i;omega)
  exact ⟨g,fun A=>by simp only [PX,Yl (Xh h),cF]⟩
 | cons b q u =>
  intro j n g h i
  obtain ⟨n,rfl⟩:=pS n (by simp at i;omega)
  have ⟨a,e,d⟩:=Xg h
  have t:x.To[j]? = some x.To[j]:=Za (by omega)
  have ⟨f,s⟩:=u (j+1) n (Xo g b x.To[j]) d (by simp at i;omega)
  refine ⟨f,fun A=>?_⟩
  rw [<- s A]
  simp only [PX,Yh a,cT,Ye,e,t,bS]
  rw [Yy (by omega)]
theorem ZmA:(bs (str [46])).length=1:=by rw [Yx];rfl
theorem ZdK {l:List ZL} {R:ByteArray->Nat} {r:Nat} (hr:r<=4) (w:T2->ByteArray->Option (ZL × Bool × T2))
  (K:∀ q∈l,R q.Zt < r->∀ D,UX l R D->∃ o ok X,UX l R X/\(ok=true->Bq (100 * (R q.Zt+1)) q.ZD.length o)/\∀ A,Wg l A->w ⟨A,D⟩ q.Zt=some (o,ok,⟨A,X⟩))
  (nm:ByteArray) (ro:List ByteArray) (y:List ZJ) :
  ∀ (N:Nat) (xs:List ZJ),4198330+dL xs<=N->cL xs<=300->EL l R r xs->∀ D ok ms,UX l R D->ms.length<=80->(ok=true->ms.length<=40)->(∀ m∈ms,Bm (100 * (r+1)) m) ->
   Tw l R (100 * (r+1)) nm ro y (fun A=>VC w N xs ⟨A,D⟩ ok ⟨nm,ro,ms,y⟩)
 | 0,_,h,_,_=>by omega
 | N+1,xs,h,hc,he=>by
  have hlen:=VI xs
  have key:∀ (q:List ZJ) (j n:Nat) D ok ms part,xs.drop j=q->q.length < n->Pw l R (100 * (r+1)) D ok ms part ->
    Tw l R (100 * (r+1)) nm ro y (fun A=>XW N w (VC w N) xs n A D ok nm ro ms y part (j:Int)):=by
   intro q
   induction q with
   | nil =>
    intro j n D ok ms part h hn s
    obtain ⟨n,rfl⟩:=pS n (by simp at hn;omega)
    exact ⟨D,ok,ms,part,s,fun A B=>by simp only [XW,Yl (Xh h),cF,Zce]⟩
   | cons x q ih =>
    intro j n D ok ms part h hn s
    obtain ⟨n,rfl⟩:=pS n (by simp at hn;omega)
    have ⟨a,e,d⟩:=Xg h
    have G:=Zb e
    have ⟨L,hnm,has,hto,hbl,hel⟩:=(Zda x).1 (Bf he G)
    have hdx:=Wt G
    rw [Ws] at hdx
    have hcx:=HJ G
    have next:=fun D ms part s=>ih (j+1) n D true ms part d (by simp at hn;omega) s
    cases h6:(x.Zq==(6:Int)) with
    | true =>
     have ⟨p,hpl,hpn,hpr,hR⟩:=L (by simpa using h6)
     have ⟨o,E,X,hD',hB,ho⟩:=K p hpl (by rw [hpn];exact hR) D s.d
     rw [hpn] at ho hB
     have k6:∀ v:Bool,(v=true->ok=true/\E=true)->Tw l R (100 * (r+1)) nm ro y (fun A=>PV N nm ro ms y part (j:Int) (XW N w (VC w N) xs n) x (o,E,⟨A,X⟩) v):=by
      intro v hv
      cases v with
      | false=>exact Tw.none hD' s.m s.ms fun A B=>by unfold PV;rfl
      | true =>
       have ⟨v1,v2⟩:=hv rfl
       have I:=hB v2
       have hmk:=s.ok v1
       have hdot:=ZmA
       have ⟨Y,hmp⟩:=ZnX N nm ro ms y part (j:Int) (XW N w (VC w N) xs n) x o true (Z3 (bs x.As++bs (str [46]))) E X (by rw [I.r,hpr]) hto _ 0 N [] rfl (by rw [List.drop_zero,I.r,hpr];omega)
       have hh:(bs (Z3 (bs x.As++bs (str [46])))).length<=51:=by rw [Yq,lA];omega
       have hs:100 * (R x.Zt+1)<=10000:=by omega
       have e1:=Zor (N:=N) (by omega) (ro:=Y) hh hs o.ZE (by have:=I.m;omega) I.ms
       have hdo:=QT o.ZF
       have hqc:=I.c
       have M:z39 N ⟨Y,_⟩ o.ZF=_:=Zih (ro:=Y) hh hs N o.ZF (by omega) (by omega) I.g
       have ⟨g1,g2⟩:=Zey (ro:=Y) hh o.ZF I.g
       have hl2:=VI (Ul Y (Z3 (bs x.As++bs (str [46]))) o.ZF)
       have hlp:=VI part
       have hpc:=s.c
       have hqm:=I.m
       refine (ZdV (N:=N) (k:=j) (by omega) (by omega) next (D:=X) (ms:=ms++o.ZE.map (rnM (Z3 (bs x.As++bs (str [46]))))) (part:=part++Ul Y (Z3 (bs x.As++bs (str [46]))) o.ZF) true hD' (by rw [lA,List.length_map];omega) (fun m G=>?_) (by rw [Bv,g2];omega) (Bh s.g (ZdS (by omega) _ g1))).to fun A B=>?_
       ·rcases List.mem_append.1 G with G | G
        ·exact s.ms m G
        ·obtain ⟨m',hm',rfl⟩:=List.mem_map.1 G
         exact Zgz (by omega) (Zp3 hh (I.ms m' hm'))
       ·have hmA:=hmp A
        unfold PV
        rw [Zg,cF,Xb (by omega),bS]
        refine hmA.trans ?_
        unfold Dt
        dsimp only
        rw [e1,bS,YW (by rw [List.length_map];omega),bS,M,bS,YW (by rw [g2] at hl2;omega),bS]
     cases ok with
     | true =>
      refine (k6 E fun h=>⟨rfl,h⟩).to fun A B=>?_
      simp only [XW,Yh a,cT,Ye,e,bS,h6]
      rw [ho A B];rfl
     | false =>
      refine (k6 false fun h=>by cases h).to fun A B=>?_
      simp only [XW,Yh a,cT,Ye,e,bS,h6]
      rw [ho A B];rfl
    | false =>
     cases h5:(x.Zq==(5:Int)) with
     | true =>
      have bl:∀ (q:List (List ZJ)) (i m:Nat) D ok ms part,x.ZC.drop i=q->q.length < m->i<=8->UX l R D->ms.length<=80->(ok=true->ms.length<=40)->(∀ m∈ms,Bm (100 * (r+1)) m)->cL part<=300+300 * i->GL (100 * (r+1)) part ->
        Tw l R (100 * (r+1)) nm ro y (fun A=>PY N (VC w N) (j:Int) (XW N w (VC w N) xs n) x m A D ok nm ro ms y part (i:Int)):=by
       intro q
       induction q with
       | nil =>
        intro i m D ok ms part H u hi T U p3 V p5 Z
        obtain ⟨m,rfl⟩:∃ z,m=z+1:=⟨m-1,by simp at u;omega⟩
        refine (ZdV (N:=N) (k:=j) (by omega) (by omega) next ok T U V (by omega) Z).to fun A B=>?_
        simp only [PY,Yl (Xh H),cF,Zcf]
       | cons b q W =>
        intro i m D ok ms part H u hi T U p3 V p5 Z
        obtain ⟨m,rfl⟩:∃ z,m=z+1:=⟨m-1,by simp at u;omega⟩
        have ⟨a2,M,d2⟩:=Xg H
        have C:=Zb M
        have hdb:=WK C
        have hcb:=My C
        have ⟨D2,O,P,f,F,S⟩:=ZdK hr w K nm ro y N b (by omega) (by omega) (Be hel C) D ok ms T U p3 V
        have l1:=VI part
        have l2:=VI f
        have hc2:=F.c
        refine (W (i+1) m D2 O P (part++f) d2 (by simp at u;omega) (by omega) F.d F.m F.ok F.ms (by rw [Bv];omega) (Bh Z F.g)).to fun A B=>?_
        simp only [PY,Yh a2,cT,Ye,M,bS]
        have S:VC w N b ⟨A,D⟩ ok ⟨nm,ro,ms,y⟩=_:=S A B
        rw [S,bS]
        dsimp only
        rw [YW (by omega),bS,Yy (by omega)]
      refine (bl _ 0 N D ok ms part rfl (by rw [List.drop_zero];omega) (by omega) s.d s.m s.ok s.ms (by have:=s.c;omega) s.g).to fun A B=>?_
      simp only [XW,Yh a,cT,Ye,e,bS,h6,cF,h5]
      rfl
     | false =>
      have bl:∀ (q:List (List ZJ)) (i m:Nat) D ok ms t,x.ZC.drop i=q->q.length < m->i<=8->UX l R D->ms.length<=80->(ok=true->ms.length<=40)->(∀ m∈ms,Bm (100 * (r+1)) m)->YF t<=300 * i->t.length=i->X8 (100 * (r+1)) t ->
        Tw l R (100 * (r+1)) nm ro y (fun A=>PW N (VC w N) part (j:Int) (XW N w (VC w N) xs n) x x.To m A D ok nm ro ms y t (i:Int)):=by
       intro q
       induction q with
       | nil =>
        intro i m D ok ms t H u hi T U p3 V p5 Z p7
        obtain ⟨m,rfl⟩:∃ z,m=z+1:=⟨m-1,by simp at u;omega⟩
        have l1:=VI part
        have hpc:=s.c
        have hcI:cL [(⟨x.Zq,x.ZA,x.To,x.Zt,x.As,x.ZB,t⟩:ZJ)]=YF t+1:=by simp only [cL,cI];try omega
        refine (ZdV (N:=N) (k:=j) (by omega) (by omega) next (part:=part++[(⟨x.Zq,x.ZA,x.To,x.Zt,x.As,x.ZB,t⟩:ZJ)]) ok T U V (by rw [Bv,hcI];omega) (Bh s.g ?_)).to fun A B=>?_
        ·simp only [GL,GI]
         exact ⟨⟨by omega,hto,by omega,p7⟩,trivial⟩
        ·simp only [PW,Yl (Xh H),cF,Zcg]
         rw [YW (by simp;omega),bS]
       | cons b q W =>
        intro i m D ok ms t H u hi T U p3 V p5 Z p7
        obtain ⟨m,rfl⟩:∃ z,m=z+1:=⟨m-1,by simp at u;omega⟩
        have ⟨a2,M,d2⟩:=Xg H
        have C:=Zb M
        have hdb:=WK C
        have hcb:=My C
        have ⟨D2,O,P,f,F,S⟩:=ZdK hr w K nm ro y N b (by omega) (by omega) (Be hel C) D ok ms T U p3 V
        have hc2:=F.c
        have hcb2:YF [f]=cL f:=by simp only [YF];omega
        refine (W (i+1) m D2 O P (t++[f]) d2 (by simp at u;omega) (by omega) F.d F.m F.ok F.ms (by rw [ZgE,hcb2];omega) (by simp [Z]) (Zgc p7 (by simp only [X8];exact ⟨F.g,trivial⟩))).to fun A B=>?_
        simp only [PW,Yh a2,cT,Ye,M,bS]
        have S:VC w N b ⟨A,D⟩ ok ⟨nm,ro,ms,y⟩=_:=S A B
        rw [S,bS]
        dsimp only
        rw [YW (by simp;omega),bS,Yy (by omega)]
      refine (bl _ 0 N D ok ms [] rfl (by rw [List.drop_zero];omega) (by omega) s.d s.m s.ok s.ms (by simp [YF]) rfl (by simp only [X8])).to fun A B=>?_
      simp only [XW,Yh a,cT,Ye,e,bS,h6,cF,h5]
      unfold Hj
      rw [YW (by simp;omega),List.nil_append,bS,bS]
      rfl
  intro D ok ms h1 H h3 h4
  refine (key _ 0 N D ok ms [] rfl (by rw [List.drop_zero];omega) ⟨h1,H,h3,h4,by simp [cL],by simp only [GL]⟩).to fun A B=>?_
  rfl
end Gp
end
section
namespace Gp
open Go Go.Kx Gx
theorem ZhX {l:List ZL} {R:ByteArray->Nat} (a:Rn l R) (f:UY l):∀ (r N:Nat) (p:ZL),p∈l->R p.Zt < r->4198350+r<=N->∀ D,UX l R D ->
  ∃ o ok b,UX l R b/\(ok=true->Bq (100 * (R p.Zt+1)) p.ZD.length o)/\∀ A,Wg l A->S9 N ⟨A,D⟩ p.Zt=some (o,ok,⟨A,b⟩)
 | 0,_,_,_,h,_,_,_=>by omega
 | r+1,0,_,_,_,h,_,_=>by omega
 | r+1,N+1,p,hp,hr,h,D,k=>by
  show ∃ o ok b,UX l R b/\(ok=true->Bq (100 * (R p.Zt+1)) p.ZD.length o)/\∀ A,Wg l A->PJ N (S9 N) ⟨A,D⟩ p.Zt=some (o,ok,⟨A,b⟩)
  cases w:YS D p.Zt with
  | some o=>exact ⟨o,true,D,k,fun _=>k p hp o w,fun A i=>by unfold PJ;dsimp only;rw [w];rfl⟩
  | none =>
   have F:=a.d p hp
   have C:=a.m p hp
   have E:=a.r p hp
   have ⟨b,ok,ms,part,j,v⟩:=ZdK (a.le p.Zt) (S9 N) (fun q s z D k=>ZhX a f r N q s (by omega) (by omega) D k) p.Zt p.ZD [] N p.ZF (by omega) (a.c p hp) (a.e p hp) D true p.ZE k (by omega) (fun _=>C)
    (fun m u=>Zgz (by omega) (ZlU (a.ms p hp m u)))
   have n:∀ A,Wg l A->PJ N (S9 N) ⟨A,D⟩ p.Zt=(bif (!ok) then (some ((⟨(str []),([]:List ByteArray),([]:List ZS),([]:List ZJ)⟩:ZL),false,(⟨A,b⟩:T2)))
     else some ((⟨p.Zt,p.ZD,ms,part⟩:ZL),true,(⟨A,(Xo b p.Zt (⟨p.Zt,p.ZD,ms,part⟩:ZL))⟩:T2))):=by
    intro A i
    unfold PJ Hj ZfJ
    dsimp only
    rw [w,i p hp]
    simp only [bS,Option.getD_none,Option.getD_some,Option.isSome_none,cF]
    rw [YW (by simp;omega),List.nil_append,bS,bS,Zop (by omega) p.ZE (by omega) (a.ms p hp),bS]
    have v:VC (S9 N) N p.ZF ⟨A,D⟩ true ⟨p.Zt,p.ZD,p.ZE,[]⟩=_:=v A i
    rw [v,bS]
   cases ok with
   | false=>exact ⟨_,false,b,j.d,(fun h=>by cases h),fun A i=>n A i⟩
   | true =>
    have hB:Bq (100 * (R p.Zt+1)) p.ZD.length ⟨p.Zt,p.ZD,ms,part⟩:=⟨rfl,j.ok rfl,j.ms,j.c,j.g⟩
    refine ⟨_,true,_,fun q s o t=>?_,fun _=>hB,fun A i=>n A i⟩
    rw [Zad] at t
    split at t
    ·rename_i B
     cases t
     have x:=BT f hp
     have y:=BT f s
     rw [B] at x
     rw [x] at y
     cases y
     exact hB
    ·exact j.d q s o t
theorem ZlW {s n:Nat} {q:ZL} (h:Bq s n q) (b:n<=6):bP q/\dL q.ZF<=300:=by
 have d:=h.c
 have e:=VI q.ZF
 have f:=QT q.ZF
 have i:=h.m
 have j:=h.r
 exact ⟨⟨by omega,by omega,fun m a=>by have:=h.ms m a;exact ⟨by have:=this.1;omega,by have:=this.2.1;omega⟩,by omega,Br q.ZF h.g (by omega)⟩,by omega⟩
theorem ZtK {N:Nat} {q:ZL} (c:8389000<=N) (a:bP q) (d:dL q.ZF<=300) (e:cL q.ZF<=300):Zs N [q] :=
 ⟨by simp,fun p b=>by rw [List.mem_singleton.1 b];exact ⟨a,by omega,by omega⟩,by unfold WV;simp;omega,by omega⟩
theorem ZnR {N:Nat} {l:List ZL} (u:UZ l) (y:8389000<=N) {p:ZL} (g:p∈l) :
  ∃ o e,(e=0\/e=14\/e=6\/e=9)/\(bP o/\dL o.ZF<=300)/\∀ A,Wg l A->TE N p.Zt A=some (o,e):=by
 have ⟨R,k⟩:=Zp5 u
 have G:=k.le p.Zt
 have f:bP ⟨str [],[],[],[]⟩/\dL ([]:List ZJ)<=300:=⟨⟨by simp,by simp,(fun m z=>by cases z),by simp,(by simp only [bL])⟩,by simp [dL]⟩
 obtain ⟨⟨D,H⟩,d⟩:=ZjI k 5 N p g (by omega) (by omega) []
 cases D with
 | false =>
  refine ⟨_,14,by simp,f,fun A b=>?_⟩
  have d:=d ⟨A,[]⟩ b
  have d:z16 N ⟨A,[]⟩ p.Zt []=_:=d
  unfold TE
  rw [b p g]
  simp only [bS,Option.isSome_some,Option.getD_some,Zg,cF]
  rw [d];rfl
 | true =>
  have ⟨o,ok,I,_,hB,h⟩:=ZhX k u.2.1 5 N p g (by omega) (by omega) [] (fun q _ o B=>by cases B)
  have a:∀ A,Wg l A->TE N p.Zt A=(bif (!ok) then (some ((⟨(str []),([]:List ByteArray),([]:List ZS),([]:List ZJ)⟩:ZL),(6:Int)))
    else (Ra N ([o]:List ZL)).bind fun C =>
    bif (!C) then (some ((⟨(str []),([]:List ByteArray),([]:List ZS),([]:List ZJ)⟩:ZL),(6:Int)))
    else (Qb N ([o]:List ZL)).bind fun n =>
    bif (n.ZI != (0:Int)) then (some ((⟨(str []),([]:List ByteArray),([]:List ZS),([]:List ZJ)⟩:ZL),(9:Int)))
    else some (o,(0:Int))):=by
   intro A b
   have d:=d ⟨A,[]⟩ b
   have d:z16 N ⟨A,[]⟩ p.Zt []=_:=d
   have h:=h A b
   have h:z17 N ⟨A,[]⟩ p.Zt=_:=h
   unfold TE
   rw [b p g]
   simp only [bS,Option.isSome_some,Option.getD_some,Zg,cF]
   rw [d,bS]
   simp only [Zg,cF]
   rw [h,bS]
  cases ok with
  | false=>exact ⟨_,6,by simp,f,fun A b=>a A b⟩
  | true =>
   have j:=hB rfl
   have ⟨w,x⟩:=ZlW j (k.r p g)
   have t:=ZtK y w x j.c
   have ⟨v,E,v2⟩:=Zkb (N:=N) (by omega) _ t.len fun q j=>(t.p q j).1
   have ⟨s,F,K,_⟩:=Zdp _ t
   rw [E] at a
   cases v with
   | false=>exact ⟨_,6,by simp,f,fun A b=>a A b⟩
   | true =>
    simp only [Zg,cF,bS] at a
    rw [F] at a
    simp only [bS] at a
    by_cases i:s.ZI=0
    ·rw [show (s.ZI != (0:Int))=false by simpa using i] at a
     exact ⟨o,0,by simp,⟨w,x⟩,fun A b=>a A b⟩
    ·rw [show (s.ZI != (0:Int))=true by simpa using i] at a
     exact ⟨_,9,by simp,f,fun A b=>a A b⟩
theorem ZlA {l m:List ZL} (a:UY m) (h:∀ p∈l,p∈m):Wg l (QN m []):=fun p b=>by
 rw [Zea p.Zt m [] a (fun _ _=>rfl),BT a (h p b)];rfl
theorem ZhY {N:Nat} {m:List ZL} (a:Zs N m) (b:UZ m) (nm:ByteArray):z8 N m nm=TE N nm (QN m []):=by
 have ⟨r,c,d,_⟩:=Zdp _ a
 have:=a.n
 unfold z8
 rw [c,bS,d.2 b,show ((0:Int) != 0)=false from rfl,cF,Zm1 (by omega) m _ a.len]
theorem Zm7 {N:Nat} (s:4194304 < N) (l:List ZU) (t:l.length<=4194304) (o:∀ p∈l,RP p/\4194306+dL (oL p.ZF)<=N) (y:WW l<=4194304) (i:∀ p∈l,cL (oL p.ZF)<=4194304):∃ b,z9 N l=some b/\(b=true->Bg l):=by
 unfold z9
 have key:∀ (m:List ZU) (k n:Nat),l.drop k=m->m.length < n->∃ b,Mu N l n (k:Int)=some b/\(b=true->Bg l):=by
  intro m
  induction m with
  | nil =>
   intro j n h f
   obtain ⟨n,rfl⟩:=pS n (by simp at f;omega)
   simp only [Mu,Yl (Xh h),cF,Zc3]
   rw [VH]
   have ⟨b,e,g⟩:=Zm8 s l t o (by omega)
   exact ⟨b,e,g.1⟩
  | cons p m x =>
   intro k n h f
   obtain ⟨n,rfl⟩:=pS n (by simp at f;omega)
   have ⟨a,c,d⟩:=Xg h
   have r:=Zb c
   have ⟨q,w⟩:=o p r
   have ⟨u,v,e,_⟩:=Zir N p.ZF w (QJ q) q.b (i p r)
   have e:z12 N p.ZF=some (u,v):=e
   simp only [Mu,Yh a,cT,Ye,c,bS,e]
   cases decide (u > 3) with
   | true=>exact ⟨_,rfl,fun h=>by cases h⟩
   | false =>
    rw [cF,Yy (by omega)]
    exact x (k+1) n d (by simp at f;omega)
 exact key _ 0 N rfl (by rw [List.drop_zero];omega)
end Gp
end
section
namespace Gp
open Go Go.Kx Gx
structure Nr (c:ZZ) (P:Prop) (ns:List ByteArray) (n:Nat) (c':ZZ):Prop where
 all:c'.l'=c.l'
 p:c'.p'=c.p'
 len:c'.calls'.length<=c.calls'.length+n
 err:c'.first'.ZI=0↔c.first'.ZI=0/\P/\Vr c.calls' ns
 calls:c'.first'.ZI=0->c'.calls'=c.calls'++ns
 st:c.first'.ZI≠0->c'.first'=c.first'
def Rk (o:Option ZZ) (c:ZZ) (P:Prop) (ns:List ByteArray) (n:Nat):Prop:=∃ c',o=some c'/\Nr c P ns n c'
theorem Rk.iff {o c P Q ns n} (h:Rk o c P ns n) (k:P↔Q):Rk o c Q ns n:=by
 have ⟨a,e,g⟩:=h
 exact ⟨a,e,g.all,g.p,g.len,by rw [g.err,k],g.calls,g.st⟩
theorem Rk.le {o c P ns n m} (h:Rk o c P ns n) (k:n<=m):Rk o c P ns m:=by
 have ⟨a,e,g⟩:=h
 exact ⟨a,e,g.all,g.p,Nat.le_trans g.len (by omega),g.err,g.calls,g.st⟩
theorem Rk.skip (c:ZZ):Rk (some c) c True [] 0:=⟨c,rfl,rfl,rfl,Zo _,by simp [Vr],by simp,fun _=>rfl⟩
theorem Rk.note {N:Nat} (c:ZZ) (nm:ByteArray) {e:Int} (a:e≠0) (b:List ByteArray) (n:Nat):Rk (Y3 N c nm e) c False b n:=by
 unfold Y3
 by_cases h:c.first'.ZI=0
 ·rw [show (c.first'.ZI==(0:Int))=true by simpa using h,cT]
  exact ⟨_,rfl,rfl,rfl,Nat.le_add_right _ _,by simp [a],fun q=>absurd q a,fun q=>absurd h q⟩
 ·rw [show (c.first'.ZI==(0:Int))=false by simpa using h,cF]
  exact ⟨_,rfl,rfl,rfl,Nat.le_add_right _ _,by simp [h],fun q=>absurd q h,fun _=>rfl⟩
theorem Nr.seq {c P ns n c1 Q bs m c2} (g:Nr c P ns n c1) (a:Nr c1 Q bs m c2):Nr c (P/\Q) (ns++bs) (n+m) c2:=by
 refine ⟨by rw [a.all,g.all],by rw [a.p,g.p],Nat.le_trans a.len (by have:=g.len;omega),?_,fun j=>?_,fun h=>?_⟩
 ·rw [a.err,g.err,Zef]
  constructor
  ·rintro ⟨⟨b,d,e⟩,i,f⟩
   rw [g.calls (g.err.2 ⟨b,d,e⟩)] at f
   exact ⟨b,⟨d,i⟩,e,f⟩
  ·rintro ⟨b,⟨d,i⟩,e,f⟩
   refine ⟨⟨b,d,e⟩,i,?_⟩
   rw [g.calls (g.err.2 ⟨b,d,e⟩)]
   exact f
 ·rw [a.calls j,g.calls (a.err.1 j).1,aA]
 ·have k:=g.st h
  rw [a.st (by rw [k];exact h),k]
theorem Rk.seq {o:Option ZZ} {f:ZZ->Option ZZ} {c P Q ns bs n m} (h:Rk o c P ns n)
  (k:∀ a,a.l'=c.l'->a.p'=c.p'->a.calls'.length<=c.calls'.length+n->Rk (f a) a Q bs m):Rk (o.bind f) c (P/\Q) (ns++bs) (n+m):=by
 have ⟨a,e,g⟩:=h
 have ⟨b,d,i⟩:=k a g.all g.p g.len
 exact ⟨b,by rw [e];exact d,g.seq i⟩
theorem Nr.iff {c P Q ns n c'} (g:Nr c P ns n c') (k:P↔Q):Nr c Q ns n c':=⟨g.all,g.p,g.len,by rw [g.err,k],g.calls,g.st⟩
theorem Rk.test {N:Nat} {b:Bool} {c:ZZ} {nm:ByteArray} {e:Int} (a:e≠0):Rk (bif b then Y3 N c nm e else some c) c (b=false) [] 0:=by
 cases b with
 | true=>exact (Rk.note (N:=N) c nm a [] 0).iff (by simp)
 | false=>exact (Rk.skip c).iff (by simp)
theorem La {α γ:Type} (xs:List α) (F:Nat->ZZ->Int->γ) (j:ZZ->γ) (b:Option ZZ->(ZZ->γ)->γ) (D:∀ c f,b (some c) f=f c)
  (P:Nat->α->Prop) (w:α->List ByteArray) (m:α->Nat) (a0:List ZU) (z:ZU) (B:Nat)
  (E:∀ (n k:Nat) x c,xs[k]? = some x->c.l'=a0->c.p'=z->c.calls'.length+((xs.drop k).map m).sum<=B->∃ o,F (n+1) c (k:Int)=b o (fun A=>F n A ((k+1:Nat):Int))/\Rk o c (P k x) (w x) (m x))
  (G:∀ (n k:Nat) c,xs.length<=k->F (n+1) c (k:Int)=j c) {N:Nat} (H:xs.length < N) (c:ZZ) (s:c.l'=a0) (t:c.p'=z) (hB:c.calls'.length+(xs.map m).sum<=B) :
  ∃ o,F N c (0:Int)=b o j/\Rk o c (∀ (k:Nat) x,xs[k]? = some x->P k x) (xs.flatMap w) (xs.map m).sum:=by
 have key:∀ (l:List α) (k n:Nat) (c:ZZ),xs.drop k=l->l.length < n->c.l'=a0->c.p'=z->c.calls'.length+(l.map m).sum<=B ->
   ∃ o,F n c (k:Int)=b o j/\Rk o c (∀ (i:Nat) x,l[i]? = some x->P (k+i) x) (l.flatMap w) (l.map m).sum:=by
  intro l
  induction l with
  | nil =>
   intro k n c h v s t hB
   obtain ⟨n,rfl⟩:=pS n (by simp at v;omega)
   refine ⟨some c,by rw [G n k c (Xh h),D],?_⟩
   exact (Rk.skip c).iff (by simp)
  | cons x l S =>
   intro k n c h v s t hB
   obtain ⟨n,rfl⟩:=pS n (by simp at v;omega)
   have ⟨a,e,d⟩:=Xg h
   have ⟨o1,u,A,C,g⟩:=E n k x c e s t (by rw [h];exact hB)
   subst C
   rw [D] at u
   rw [List.map_cons,List.sum_cons] at hB
   have ⟨I,K,L⟩:=S (k+1) n A d (by simp at v;omega) (by rw [g.all,s]) (by rw [g.p,t]) (by have:=g.len;omega)
   refine ⟨I,u.trans K,?_⟩
   have ⟨M,O,R⟩:=L
   refine ⟨M,O,(g.seq R).iff ?_⟩
   constructor
   ·rintro ⟨u,C⟩ i y r
    cases i with
    | zero=>simp only [List.getElem?_cons_zero,Option.some.injEq] at r;subst r;exact u
    | succ i=>rw [List.getElem?_cons_succ] at r;have:=C i y r;rwa [show k+(i+1)=k+1+i by omega]
   ·intro q
    refine ⟨q 0 x rfl,fun i y r=>?_⟩
    have:=q (i+1) y (by rw [List.getElem?_cons_succ];exact r)
    rwa [show k+(i+1)=k+1+i by omega] at this
 have:=key xs 0 N c rfl H s t hB
 simpa using this
end Gp
end
section
namespace Gp
open Go Go.Kx Gx
theorem Zd8 {α β:Type} (xs:List α) (p:α->Bool) (z:β) (g:α->β) (F:Nat->Int->Option β)
  (c:∀ (n k:Nat) x,xs[k]? = some x->k < 4611686018427387904->F (n+1) (k:Int)=bif p x then some (g x) else F n ((k+1:Nat):Int))
  (f:∀ (n k:Nat),xs.length<=k->F (n+1) (k:Int)=some z) {N:Nat} (i:xs.length < N) (m:xs.length < 4611686018427387904) :
  F N (0:Int)=some ((xs.find? p).elim z g):=by
 have key:∀ (l:List α) (k n:Nat),xs.drop k=l->l.length < n->F n (k:Int)=some ((l.find? p).elim z g):=by
  intro l
  induction l with
  | nil =>
   intro k n h b
   obtain ⟨n,rfl⟩:=pS n (by simp at b;omega)
   rw [f n k (Xh h)];rfl
  | cons x l j =>
   intro k n h b
   obtain ⟨n,rfl⟩:=pS n (by simp at b;omega)
   have ⟨a,e,d⟩:=Xg h
   rw [c n k x e (by omega),List.find?_cons]
   cases p x with
   | true=>rfl
   | false=>exact j (k+1) n d (by simp at b;omega)
 exact key xs 0 N rfl i
def Zec:Yi:=⟨str [],[],[]⟩
theorem Zjr {N:Nat} (p:ZU) (a:ByteArray) (h:p.ZE.length<=4194304) (d:4194304 < N) :
  Lz N p a=some ((p.ZE.find? (fun m=>m.Zt.toList==a.toList)).elim (Zec,false) (fun m=>(m,true))):=by
 unfold Lz
 refine Zd8 p.ZE (fun m=>m.Zt.toList==a.toList) (Zec,false) (fun m=>(m,true)) (Pl p a) (fun n k x c b=>?_) (fun n k b=>?_) (N:=N) (by omega) (by omega)
 ·simp only [Pl,Yh (Yf c),cT,Ye,c,bS]
  rw [Yy b]
 ·simp only [Pl,Yl b,cF,ZaW,Zec]
def Zeo:ZU:=⟨str [],[],[],[]⟩
theorem ZeB {N:Nat} (l:List ZU) (a:ByteArray) (h:l.length<=4194304) (d:4194304 < N) :
  LA N l a=some ((l.find? (fun m=>m.Zt.toList==a.toList)).elim (Zeo,false) (fun m=>(m,true))):=by
 unfold LA
 refine Zd8 l (fun m=>m.Zt.toList==a.toList) (Zeo,false) (fun m=>(m,true)) (Pn l a) (fun n k x c b=>?_) (fun n k b=>?_) (N:=N) (by omega) (by omega)
 ·simp only [Pn,Yh (Yf c),cT,Ye,c,bS]
  rw [Yy b]
 ·simp only [Pn,Yl b,cF,ZaX,Zeo]
theorem BS {α β:Type} (f:α->β) (p:β->Bool):∀ l:List α,(l.map f).find? p=(l.find? (fun x=>p (f x))).map f
 | []=>rfl
 | x::l=>by
  rw [List.map_cons,List.find?_cons,List.find?_cons,BS f p l]
  cases p (f x)<;>rfl
structure Sr (N:Nat) (c:ZZ):Prop where
 r:c.p'.ZD.length<=4194304
 m:c.p'.ZE.length<=4194304
 a:c.l'.length<=4194304
 n:8388609 < N
theorem Sr.of {N:Nat} {c b:ZZ} (h:Sr N c) (e:b.l'=c.l') (d:b.p'=c.p'):Sr N b:=⟨by rw [d];exact h.r,by rw [d];exact h.m,by rw [e];exact h.a,h.n⟩
theorem Zgs (l:List ByteArray) (v:ByteArray):decide (Y9 (fun x=>x.toList==v.toList) l < (0:Int)) = !Xk v l:=by
 rw [<- M9 l v]
 by_cases h:Y9 (fun x=>x.toList==v.toList) l < (0:Int)
 ·rw [dT h,dF (by omega)];rfl
 ·rw [dF h,dT (by omega)];rfl
theorem ZeA {N:Nat} (c:ZZ) (l:List ByteArray) (f:Sr N c) (m:l.length<=4194305):Rk (Qa N c l) c (Ss (oP c.p') l) [] 0:=by
 have q:=f.n
 have s:=f.r
 unfold Qa
 have ⟨o,e,h⟩:=La l (fun n c i=>S4 N l n c.l' c.p'.Zt c.p'.ZD c.p'.ZE c.p'.ZF c.calls' c.first'.ZH c.first'.Zt c.first'.ZI i)
  (fun c=>GB c.l' c.p'.Zt c.p'.ZD c.p'.ZE c.p'.ZF c.calls' c.first'.ZH c.first'.Zt c.first'.ZI) Option.bind (fun _ _=>rfl)
  (fun k y=>y∈c.p'.ZD/\y ∉ l.take k) (fun _=>[]) (fun _=>0) c.l' c.p' c.calls'.length
  (fun n k y b g p d _=>by
   have a:=Yf g
   refine ⟨bif (!Xk y c.p'.ZD || Xk y (l.take k)) then Y3 N b y 12 else some b,?_,(Rk.test (by decide)).iff ?_⟩
   ·simp only [S4,Yh a,cT,Ye,g,bS,RN (Nat.le_of_lt a)]
    rw [d,SN _ (by omega) (by omega),bS,Zgs,YT (by omega)]
    cases t:Xk y c.p'.ZD with
    | false=>rw [<- d];rfl
    | true =>
     rw [Zg,cF,SN _ (by rw [List.length_take];omega) (by rw [List.length_take];omega),bS,M9]
     cases Xk y (l.take k)<;>rw [<- d]<;>rfl
   ·rw [Bool.or_eq_false_iff,Bool.not_eq_false',WM,<- Bool.not_eq_true,WM])
  (fun n k b a=>by simp only [S4,Yl a,cF]) (N:=N) (by omega) c rfl rfl (by rw [Xx];omega)
 rw [Xx,Vp] at h
 have j:=e.trans (show (o.bind fun c=>GB c.l' c.p'.Zt c.p'.ZD c.p'.ZE c.p'.ZF c.calls' c.first'.ZH c.first'.Zt c.first'.ZI)=o from VH o)
 exact Eq.mp (congrArg (fun o=>Rk o c _ _ _) j.symm) h
theorem ZpC {N:Nat} (c:ZZ) (x:ZT) (y:Sr N c) (M:x.To.length<=4194304) (E:c.calls'.length<=4194304):Rk (GC N c x) c (QE (c.l'.map oP) (oP c.p') (oI x)) [x.As] 1:=by
 have P:=y.n
 have K:=y.a
 have A:∀ b:ZZ,b.l'=c.l'->b.p'=c.p'->b.calls'.length<=4194304->Rk (Pm N x b.l' b.p'.Zt b.p'.ZD b.p'.ZE b.p'.ZF b.calls' b.first'.ZH b.first'.Zt b.first'.ZI) b (Ss (oP c.p') x.To) [x.As] 1:=by
  intro b z r v
  unfold Pm
  have ⟨d,k,f⟩:=ZeA (N:=N) b x.To (y.of z r) (by omega)
  rw [r] at f
  rw [show (⟨b.l',⟨b.p'.Zt,b.p'.ZD,b.p'.ZE,b.p'.ZF⟩,b.calls',⟨b.first'.ZH,b.first'.Zt,b.first'.ZI⟩⟩:ZZ)=b from rfl,k,bS]
  have L:=f.len
  suffices h:Rk ((V7 N d.calls' x.As).bind fun F =>
    bif (decide (F>=(0:Int))) then ((Y3 N d x.As (9:Int)).bind fun u =>
    (YG u.calls' ([x.As]:List ByteArray)).bind fun G =>
    some (⟨u.l',u.p',G,u.first'⟩:ZZ))
    else (YG d.calls' ([x.As]:List ByteArray)).bind fun H =>
    some (⟨d.l',d.p',H,d.first'⟩:ZZ)) d True [x.As] 1 by
   have ⟨j,l,o⟩:=h
   exact ⟨j,l,(f.seq o).iff (by simp)⟩
  rw [SN _ (by omega) (by omega),bS,M9]
  cases i:Xk x.As d.calls' with
  | true =>
   have i:=(WM _ _).1 i
   simp only [cT]
   have ⟨j,e,g⟩:=Rk.note (N:=N) d x.As (e:=9) (by decide) [] 0
   rw [e,bS]
   have w:=g.len
   rw [YW (by simp;omega),bS]
   have s:¬ j.first'.ZI=0:=fun h=>(g.err.1 h).2.1
   refine ⟨_,rfl,g.all,g.p,by simp;omega,⟨fun h=>absurd h s,fun h=>absurd i h.2.2.1⟩,fun h=>absurd h s,g.st⟩
  | false =>
   have i:¬ x.As∈d.calls':=fun h=>by rw [(WM _ _).2 h] at i;cases i
   simp only [cF]
   rw [YW (by simp;omega),bS]
   exact ⟨_,rfl,rfl,rfl,by simp,by simp [Vr,i],fun _=>rfl,fun _=>rfl⟩
 unfold GC
 rw [ZeB _ _ K (by omega),bS]
 have t:(c.l'.map oP).find? (fun q=>q.Zt.toList==(oI x).Zt.toList)=(c.l'.find? (fun q=>q.Zt.toList==x.Zt.toList)).map oP:=by
  rw [BS];have:(oI x).Zt=x.Zt:=by rw [XU]
  rw [this];rfl
 have B:(oI x).To=x.To:=HX x
 cases D:c.l'.find? (fun m=>m.Zt.toList==x.Zt.toList) with
 | none =>
  simp only [Option.elim_none]
  rw [Bool.not_false,cT]
  have ⟨d,k,f⟩:=Rk.note (N:=N) c x.Zt (e:=10) (by decide) [] 0
  rw [k,bS]
  have ⟨j,l,o⟩:=A d f.all f.p (by have:=f.len;omega)
  refine ⟨j,l,(f.seq o).iff ?_⟩
  unfold QE
  rw [t,D];simp
 | some q =>
  simp only [Option.elim_some]
  rw [Zg,cF]
  have C:(q.ZD.length=x.To.length/\Ss (oP c.p') x.To)↔QE (c.l'.map oP) (oP c.p') (oI x):=by
   unfold QE
   rw [t,D,B]
   constructor
   ·rintro ⟨v,i⟩;exact ⟨oP q,rfl,v,i⟩
   ·rintro ⟨O,I,v,i⟩
    cases I;exact ⟨v,i⟩
  by_cases w:q.ZD.length=x.To.length
  ·rw [show ((q.ZD.length:Int) != (x.To.length:Int))=false by rw [w];simp,cF]
   exact (A c rfl rfl E).iff (by rw [<- C];simp [w])
  ·rw [show ((q.ZD.length:Int) != (x.To.length:Int))=true by simp;omega,cT]
   have ⟨d,k,f⟩:=Rk.note (N:=N) c x.Zt (e:=1) (by decide) [] 0
   rw [k,bS]
   have ⟨j,l,o⟩:=A d f.all f.p (by have:=f.len;omega)
   exact ⟨j,l,(f.seq o).iff (by rw [<- C];simp [w])⟩
end Gp
end
