/- The plain law, part 3: what the functions compute answers as the statement says. -/
import Derived.Test.YtdlhgdfjpilcjaaGreatDoorExplainWhyPlain2
set_option linter.all false
section
namespace Gp
open Go Go.Kx Gx
variable {N:Nat}
theorem Zho:∀ (r:List T0) (x:Nat),x < (Zx r).length→∃ (i:Nat) (d:T0) (j:Nat) (f:T4),r[i]? = some d∧d.Fields[j]? = some f∧x=(Zx (r.take i)).length+j
 | [],x,h=>by simp [Zx] at h
 | d::r,x,h=>by
  rw [Sh,lA] at h
  by_cases c:x < d.Fields.length
  ·exact ⟨0,d,x,d.Fields[x],rfl,Za c,by simp [Zx]⟩
  ·obtain ⟨i,e,j,f,h1,h2,h3⟩:=Zho r (x-d.Fields.length) (by omega)
   refine ⟨i+1,e,j,f,by simpa using h1,h2,?_⟩
   rw [List.take_succ_cons,Sh,lA]
   omega
theorem ZjH (l:List T0) (hl:l.length≤4194304) (hfl:(Zx l).length≤4194304) {i j:Nat} {d:T0} {f:T4} (hi:l[i]? = some d) (hj:d.Fields[j]? = some f):∀ (q n k:Nat),i=k+q→q < n →
  Si l n (((Zx (l.take i)).length+j-(Zx (l.take k)).length:Nat):Int) (k:Int)=some (d,f,true)
 | 0,n,k,hq,hn=>by
  obtain ⟨n,rfl⟩:=pS n (by omega)
  obtain rfl:i=k:=by omega
  have hk:=(List.getElem?_eq_some_iff.1 hi).1
  have hjl:=(List.getElem?_eq_some_iff.1 hj).1
  rw [show (Zx (l.take i)).length+j-(Zx (l.take i)).length=j by omega,Si,ZI hk,Zw,hi]
  simp only [cT,bS]
  rw [dT (show (j:Int)≥0 by omega),ZI hjl,Zw,hj];rfl
 | q+1,n,k,hq,hn=>by
  obtain ⟨n,rfl⟩:=pS n (by omega)
  have hi':=(List.getElem?_eq_some_iff.1 hi).1
  have hk:k < l.length:=by omega
  have hg:=Za hk
  have hnx:=Rs hg
  have hmono:(Zx (l.take (k+1))).length≤(Zx (l.take i)).length:=by
   have:=Qk (l.take i) (k+1)
   rw [List.take_take,show min (k+1) i=k+1 by omega] at this
   exact this
  have htot:=Qk l (i+1)
  have hn2:=Rs hi
  have hjl:=(List.getElem?_eq_some_iff.1 hj).1
  rw [Si,ZI hk,Zw,hg]
  simp only [cT,bS]
  rw [dT (show (((Zx (l.take i)).length+j-(Zx (l.take k)).length:Nat):Int)≥0 by omega),ZK (by omega)]
  simp only [cT,cond_false]
  rw [ZH (by omega),YD (by omega) (by omega)]
  have:=ZjH l hl hfl hi hj q n (k+1) (by omega) (by omega)
  rw [← this]
  congr 1
  omega
theorem Zgc (l:List T0) (hl:l.length≤4194304) (hfl:(Zx l).length≤4194304) (hv:Yi l=true) (hnm:∀ x∈l,W6 x) {i j:Nat} {d:T0} {f:T4} (hi:l[i]? = some d) (hj:d.Fields[j]? = some f) {x:Int} (hx:x=(((Zx (l.take i)).length+j:Nat):Int)):∀ (q n k:Nat),i=k+q→q < n →
  SB l x n (k:Int)=some (Zu (bs d.Name++[46]++bs f.Name),f.Sort'.Kind==2)
 | 0,n,k,hq,hn=>by
  obtain ⟨n,rfl⟩:=pS n (by omega)
  obtain rfl:i=k:=by omega
  have hk:=(List.getElem?_eq_some_iff.1 hi).1
  have hjl:=(List.getElem?_eq_some_iff.1 hj).1
  have htot:=Qk l (i+1)
  have hn2:=Rs hi
  obtain ⟨first,h1,_,_,_,h2⟩:=Tf hv hi
  unfold XJ at h2
  simp only [Zc,decide_eq_true_eq] at h2
  have hF:=h2.2.2.1
  obtain ⟨n1,n2⟩:=hnm d (Zb hi)
  have n2:=n2 f (Zb hj)
  rw [Yd] at n1 n2
  rw [SB,ZI hk,Zw,hi]
  simp only [cT,bS]
  rw [hF,hx,dT (by omega),YD (by omega) (by omega),dT (by omega)]
  simp only [cT]
  rw [YD (by omega) (by omega),Zgn (k:=j) (by omega),hj]
  simp only [bS]
  rw [show str [46]=Zu [46] from rfl,Uz (by simp;omega),bS,YE (by simp;omega)];rfl
 | q+1,n,k,hq,hn=>by
  obtain ⟨n,rfl⟩:=pS n (by omega)
  have hi':=(List.getElem?_eq_some_iff.1 hi).1
  have hk:k < l.length:=by omega
  have hg:=Za hk
  have hnx:=Rs hg
  have hmono:(Zx (l.take (k+1))).length≤(Zx (l.take i)).length:=by
   have:=Qk (l.take i) (k+1)
   rw [List.take_take,show min (k+1) i=k+1 by omega] at this
   exact this
  have htot:=Qk l (i+1)
  have hn2:=Rs hi
  have hjl:=(List.getElem?_eq_some_iff.1 hj).1
  obtain ⟨first,h1,_,_,_,h2⟩:=Tf hv hg
  unfold XJ at h2
  simp only [Zc,decide_eq_true_eq] at h2
  have hF:=h2.2.2.1
  rw [SB,ZI hk,Zw,hg]
  simp only [cT,bS]
  rw [hF,dT (show x≥_ by omega),YD (by omega) (by omega),dF (by omega)]
  simp only [cT,cond_false]
  rw [ZH (by omega)]
  exact Zgc l hl hfl hv hnm hi hj hx q n (k+1) (by omega) (by omega)
theorem GI (hN:4194304 < N) {l:List T0} (hl:l.length≤1000) (hd:∀ x∈l,Xt x) (hv:Yi l=true) (hnm:∀ x∈l,W6 x) {x:Int} (h0:0≤x) (h1:x < ((Zx l).length:Int)) :
  ∃ s u t,s.length≤16777216∧u.length≤16777216∧TK N l x=some (Zu s)∧Pt N l x=some (Zu s,t)∧TM N l x=some (Zu u)∧WC N l x=some (Zu u):=by
 have hfl:(Zx l).length≤4194304:=by
  unfold Yi at hv
  simp only [Zc,decide_eq_true_eq] at hv
  omega
 obtain ⟨k,rfl⟩:=Ze h0
 obtain ⟨i,d,j,f,hi,hj,hx⟩:=Zho l k (by omega)
 have hil:=(List.getElem?_eq_some_iff.1 hi).1
 have e1:=ZjH l (by omega) hfl hi hj i N 0 (by omega) (by omega)
 rw [show (Zx (l.take i)).length+j-(Zx (l.take 0)).length=k by simp [Zx] at *;omega] at e1
 have e2:=Zgc l (by omega) hfl hv hnm hi hj (x:=(k:Int)) (by omega) i N 0 (by omega) (by omega)
 obtain ⟨n1,n2⟩:=hnm d (Zb hi)
 have n2:=n2 f (Zb hj)
 rw [Yd] at n1 n2
 have e1:Dy N l (k:Int)=some (d,f,true):=e1
 have e2:Pt N l (k:Int)=some (Zu (bs d.Name++[46]++bs f.Name),f.Sort'.Kind==2):=e2
 have e3:TK N l (k:Int)=some (Zu (bs d.Name++[46]++bs f.Name)):=by
  unfold TK
  rw [e1]
  simp only [bS]
  rw [show str [46]=Zu [46] from rfl,Uz (by simp;omega),bS,YE (by simp;omega)];rfl
 cases hk:(f.Sort'.Kind==2) with
 | true =>
  refine ⟨_,[108,101,110,40]++(bs d.Name++[46]++bs f.Name)++[41],true,by simp;omega,by simp;omega,e3,by rw [e2,hk],?_,?_⟩
  ·unfold TM
   rw [e1]
   simp only [bS,hk,cT]
   rw [e3,bS,show str [108,101,110,40]=Zu [108,101,110,40] from rfl,show str [41]=Zu [41] from rfl,ZS (by simp;omega),bS,ZS (by simp;omega)];rfl
  ·unfold WC
   rw [e2]
   simp only [bS,hk,cT]
   rw [show str [108,101,110,40]=Zu [108,101,110,40] from rfl,show str [41]=Zu [41] from rfl,ZS (by simp;omega),bS,ZS (by simp;omega)];rfl
 | false =>
  refine ⟨bs d.Name++[46]++bs f.Name,bs d.Name++[46]++bs f.Name,false,by simp only [lA,Zg,List.length_nil];omega,by simp only [lA,Zg,List.length_nil];omega,e3,by rw [e2,hk],?_,?_⟩
  ·unfold TM
   rw [e1]
   simp only [bS,hk,cond_false]
   exact by rw [e3];rfl
  ·unfold WC
   rw [e2,hk];rfl
theorem Vw (n:Int):(bs (XE n)).length≤26:=by rw [← Yd];exact Zg5 n
theorem Znc {fl:List T4} {g:T6} (h:ZR fl g=true) {d:T1} (hd:d∈g.Diffs):YK (fl.length:Int) d:=by
 unfold ZR at h
 simp only [Zc,decide_eq_true_eq] at h
 have h3:=h.2.1
 rw [XM] at h3
 obtain ⟨i,hi⟩:=List.mem_iff_getElem?.1 hd
 exact of_decide_eq_true (h3 i d hi)
theorem ZjE (hN:4194304 < N) (d:T0) (hd:Xt d):∃ r,z72 N d=some r :=
 ZiU hN d hd d.Fields 0 N [] rfl (by have:=hd.f;omega) (by have:=hd.f;simp;omega)
def Zem (N:Nat) (l:List T0) (d:T1):Option ByteArray :=
 bif decide (d.X < (0:Int)) then (bif decide (d.Y < (0:Int)) then ((Xd N d.C).bind fun x13=>(Zv (str [48,32,60,61,32]) x13).bind fun x14=>some x14)
  else (WC N l d.Y).bind fun x19=>(Zv x19 (str [32,62,61,32])).bind fun x20=>(Xd N (Zi (0-d.C))).bind fun x21=>(Zv x20 x21).bind fun x22=>some x22)
 else bif decide (d.Y < (0:Int)) then ((WC N l d.X).bind fun x33=>(Zv x33 (str [32,60,61,32])).bind fun x34=>(Xd N d.C).bind fun x35=>(Zv x34 x35).bind fun x36=>some x36)
 else (WC N l d.X).bind fun x41=>(Zv x41 (str [32,60,61,32])).bind fun x42=>(WC N l d.Y).bind fun x43=>(Zv x42 x43).bind fun x44 =>
  bif decide (d.C > (0:Int)) then ((Zv x44 (str [32,43,32])).bind fun x45=>(Xd N d.C).bind fun x46=>(Zv x45 x46).bind fun x47=>some x47)
  else bif decide (d.C < (0:Int)) then ((Zv x44 (str [32,45,32])).bind fun x48=>(Xd N (Zi (0-d.C))).bind fun x49=>(Zv x48 x49).bind fun x50=>some x50)
  else some x44
theorem ZlL (hN:4194304 < N) {l:List T0} (hl:l.length≤1000) (hd:∀ x∈l,Xt x) (hv:Yi l=true) (hnm:∀ x∈l,W6 x) {d:T1} (h:YK ((Zx l).length:Int) d) :
  ∃ s:List UInt8,s.length≤67108864∧GN N l d=some (Zu s)∧Zem N l d=some (Zu s):=by
 obtain ⟨a1,a2,a3,a4,a5,a6⟩:=h
 have hc:XT d.C:=⟨by omega,by omega⟩
 have hw:Zi (0-d.C)=-d.C:=by rw [YD (by omega) (by omega)];omega
 have hm:XT (-d.C):=⟨by omega,by omega⟩
 have l1:=Vw d.C
 have l2:=Vw (-d.C)
 unfold GN Zem
 by_cases cX:d.X < 0
 ·rw [dT cX]
  by_cases cY:d.Y < 0
  ·rw [dT cY]
   simp only [cT]
   unfold Ql
   rw [VT hc,Un hN hc]
   simp only [cT,bS]
   rw [show str [48,32,60,61,32]=Zu [48,32,60,61,32] from rfl,YE (by simp;omega)]
   exact ⟨_,by simp;omega,rfl,rfl⟩
  ·obtain ⟨s,u,t,_,b2,_,_,e3,e4⟩:=GI hN hl hd hv hnm (x:=d.Y) (by omega) a4
   rw [dF cY]
   simp only [cT,cond_false]
   unfold Ql
   rw [dT cX,dF cY,hw,VT hm,Un hN hm,e3,e4]
   simp only [cT,cond_false,bS]
   rw [show str [32,62,61,32]=Zu [32,62,61,32] from rfl,ZS (by simp;omega)]
   simp only [bS]
   rw [YE (by simp;omega)]
   exact ⟨_,by simp;omega,rfl,rfl⟩
 ·rw [dF cX]
  simp only [cond_false]
  unfold Ql
  obtain ⟨s,u,t,_,b2,_,_,e3,e4⟩:=GI hN hl hd hv hnm (x:=d.X) (by omega) a2
  by_cases cY:d.Y < 0
  ·rw [dT cY,VT hc,Un hN hc,e3,e4]
   simp only [cT,cond_false,bS]
   rw [show str [32,60,61,32]=Zu [32,60,61,32] from rfl,ZS (by simp;omega)]
   simp only [bS]
   rw [YE (by simp;omega)]
   exact ⟨_,by simp;omega,rfl,rfl⟩
  ·obtain ⟨s',u',t',_,b2',_,_,e3',e4'⟩:=GI hN hl hd hv hnm (x:=d.Y) (by omega) a4
   rw [dF cX,dF cY,e3,e4,e3',e4']
   simp only [cT,cond_false,bS]
   rw [show str [32,60,61,32]=Zu [32,60,61,32] from rfl,ZS (by simp;omega)]
   simp only [bS]
   rw [ZS (by simp;omega)]
   simp only [bS]
   by_cases p1:d.C > 0
   ·rw [dT p1,VT hc,Un hN hc]
    simp only [cT,bS]
    rw [show str [32,43,32]=Zu [32,43,32] from rfl,ZS (by simp;omega)]
    simp only [bS]
    rw [YE (by simp;omega)]
    exact ⟨_,by simp;omega,rfl,rfl⟩
   ·rw [dF p1]
    by_cases p2:d.C < 0
    ·rw [dT p2,hw,VT hm,Un hN hm]
     simp only [cT,cond_false,bS]
     rw [show str [32,45,32]=Zu [32,45,32] from rfl,ZS (by simp;omega)]
     simp only [bS]
     rw [YE (by simp;omega)]
     exact ⟨_,by simp;omega,rfl,rfl⟩
    ·rw [dF p2]
     exact ⟨_,by simp;omega,rfl,rfl⟩
theorem ZgM (hN:4194304 < N) (l:List T0) (hl:l.length≤1000) (hd:∀ x∈l,Xt x) (hnm:∀ x∈l,W6 x) {at' part:Int} (hp:XT part) :
  ∃ s:List UInt8,s.length≤67108864∧z39 N l at' part=some (Zu s)∧VG N l at' part=some (Zu s):=by
 have none':∃ s:List UInt8,s.length≤67108864∧some (str [])=some (Zu s)∧some (str [])=some (Zu s):=⟨[],by simp,rfl,rfl⟩
 unfold z39 VG z37
 rw [Zb2 hN l (by omega) hd hnm,Zae hN l (by omega) hd hnm]
 simp only [bS]
 by_cases c1:at' < 0
 ·rw [dT c1]
  cases Yi l<;>exact none'
 rw [dF c1]
 by_cases c2:at'≥(l.length:Int)
 ·rw [dT c2]
  cases Yi l<;>exact none'
 rw [dF c2]
 simp only [cond_false]
 cases hv:Yi l with
 | false=>exact none'
 | true =>
 obtain ⟨k,rfl⟩:=Ze (show 0≤at' by omega)
 have hk:k < l.length:=by omega
 have hg:=Za hk
 generalize hy:l[k]=y at hg
 have hmem:=Zb hg
 obtain ⟨r,er⟩:=ZjE hN y (hd y hmem)
 have e0:((0:Int) != 0)=false:=rfl
 simp only [Zh,cond_false,Zw,hg,bS,er,e0]
 by_cases c3:part < 0
 ·rw [dT c3];exact none'
 rw [dF c3]
 simp only [cond_false]
 obtain ⟨p,rfl⟩:=Ze (show 0≤part by omega)
 have hgv:ZR (Zx l) y.Guard=true:=by
  obtain ⟨_,_,_,_,_,h2⟩:=Tf hv hg
  exact L2 h2
 have hin:=Gy hgv
 have h1:=hin.dl
 have h2:=hin.el
 have hpp:Vr N y=some (((y.Guard.Diffs.length+y.Guard.Equals.length:Nat)):Int):=by
  unfold Vr
  rw [YD (by omega) (by omega)]
  congr 1
 rw [hpp]
 simp only [bS]
 by_cases c4:p < y.Guard.Diffs.length
 ·have hx:=Za c4
  rw [ZI c4,dF (show ¬ (p:Int)≥((y.Guard.Diffs.length+y.Guard.Equals.length:Nat):Int) by omega),dF (show ¬ (p:Int)≥(y.Guard.Diffs.length:Int) by omega),Zw,hx]
  obtain ⟨s,q1,q2,q3⟩:=ZlL hN hl hd hv hnm (Znc hgv (Zb hx))
  simp only [cT,cond_false,bS]
  refine ⟨s,q1,by rw [q2];rfl,?_⟩
  rw [← q3]
  unfold Zem
  cases decide ((y.Guard.Diffs[p]).X < 0)<;>cases decide ((y.Guard.Diffs[p]).Y < 0)<;>rfl
 ·rw [ZK (by omega)]
  simp only [cond_false]
  have hi:=hp.2
  have hw:Zi ((p:Int)-(y.Guard.Diffs.length:Int))=((p-y.Guard.Diffs.length:Nat):Int):=by rw [YD (by omega) (by omega)];omega
  rw [hw]
  by_cases c5:p-y.Guard.Diffs.length < y.Guard.Equals.length
  ·have hx:=Za c5
   rw [ZI c5,dF (show ¬ (p:Int)≥((y.Guard.Diffs.length+y.Guard.Equals.length:Nat):Int) by omega),dT (show (p:Int)≥(y.Guard.Diffs.length:Int) by omega),Zw,hx]
   obtain ⟨⟨a1,a2⟩,a3,a4⟩:=hin.e _ (Zb hx)
   obtain ⟨s,u,t,b1,_,q1,q2,_,_⟩:=GI hN hl hd hv hnm a1 a2
   obtain ⟨s',u',t',b1',_,q1',q2',_,_⟩:=GI hN hl hd hv hnm a3 a4
   simp only [cT,cond_false,bS,q1,q2,q1',q2']
   rw [show str [32,61,61,32]=Zu [32,61,61,32] from rfl,ZS (by simp;omega)]
   simp only [bS]
   rw [ZS (by simp;omega)]
   exact ⟨_,by simp;omega,rfl,rfl⟩
  ·rw [ZK (by omega),dT (show (p:Int)≥((y.Guard.Diffs.length+y.Guard.Equals.length:Nat):Int) by omega)]
   exact none'
end Gp
end
section
namespace Gp
open Go Go.Kx Gx
variable {N:Nat} {g:T5} {m:T8}
theorem MT {β:Type} {F:Nat→Int→Option β} {j:Nat} {r:Option β} (h1:∀ i n,i < j→F (n+1) (i:Int)=F n ((i+1:Nat):Int)) (h2:∀ n,F (n+1) (j:Int)=r):∀ (q n k:Nat),j=k+q→q < n→F n (k:Int)=r
 | 0,n,k,h,hn=>by
  obtain ⟨n,rfl⟩:=pS n (by omega)
  obtain rfl:j=k:=by omega
  exact h2 n
 | q+1,n,k,h,hn=>by
  obtain ⟨n,rfl⟩:=pS n (by omega)
  rw [h1 k n (by omega)]
  exact MT h1 h2 q n (k+1) (by omega) (by omega)
theorem ZfJ (hN:4194304 < N) {d:T0} {l:List Zm} (hl:l.length≤4194304) (hs:∀ v∈l,v.S.size≤4194304) (hlen:l.length=d.Fields.length) {i:Nat} (hi:i < l.length) (h:∀ f v,d.Fields[i]? = some f→l[i]? = some v→YW f.Sort' v=true) (n:Nat) :
  VU N d l (n+1) (i:Int)=VU N d l n ((i+1:Nat):Int):=by
 have c1:=Za hi
 have c2:=Za (show i < d.Fields.length by omega)
 rw [VU,ZI hi,Zw,Zw,c1,c2]
 simp only [cT,bS]
 rw [ZdR hN _ _ (hs _ (Zb c1)),h _ _ c2 c1,ZH (by omega)];rfl
theorem ZhM (hN:4194304 < N) {d:T0} {l:List Zm} (hl:l.length≤4194304) (hs:∀ v∈l,v.S.size≤4194304) (h:Ww d.Fields l):Mz N d l=some (-1) :=
 MT (F:=VU N d l) (j:=l.length) (fun i n hi=>ZfJ hN hl hs h.1.symm hi (fun f v a b=>h.2 i f v a b) n)
  (fun n=>by rw [VU,ZK (Nat.le_refl _)];rfl) l.length N 0 (by omega) (by omega)
theorem Zo9 (hN:4194304 < N) {d:T0} {l:List Zm} (hl:l.length≤4194304) (hs:∀ v∈l,v.S.size≤4194304) (hlen:l.length=d.Fields.length) {j:Nat} {f v} (hf:d.Fields[j]? = some f) (hv:l[j]? = some v) (hb:YW f.Sort' v=false)
  (h:∀ (i:Nat) f v,i < j→d.Fields[i]? = some f→l[i]? = some v→YW f.Sort' v=true):Mz N d l=some (j:Int):=by
 have hj:=(List.getElem?_eq_some_iff.1 hv).1
 refine MT (F:=VU N d l) (j:=j) (fun i n hi=>ZfJ hN hl hs hlen (by omega) (fun f v a b=>h i f v hi a b) n) (fun n=>?_) j N 0 (by omega) (by omega)
 rw [VU,ZI hj,Zw,Zw,hv,hf]
 simp only [cT,bS]
 rw [ZdR hN _ _ (hs _ (Zb hv)),hb];rfl
theorem Zgm (d:T0) (h:d.Guard.Diffs.length≤20∧d.Guard.Equals.length≤20):Vr N d=some (((d.Guard.Diffs.length+d.Guard.Equals.length:Nat)):Int):=by
 unfold Vr
 rw [YD (by omega) (by omega)]
 congr 1
theorem Ze4 {d:T0} {vs ks:List Zm} (hg:d.Guard.Diffs.length≤20∧d.Guard.Equals.length≤20) {i:Nat} (hi:i < d.Guard.Diffs.length+d.Guard.Equals.length) {b:Bool} (h:Pn N d vs ks (i:Int)=some b) (n:Nat) :
  Uk N d vs ks (n+1) (i:Int)=bif b then Uk N d vs ks n ((i+1:Nat):Int) else some (i:Int):=by
 rw [Uk,Zgm d hg,bS,ZI hi,h,ZH (by omega)]
 cases b<;>rfl
theorem Zlz {d:T0} {vs ks:List Zm} (hg:d.Guard.Diffs.length≤20∧d.Guard.Equals.length≤20) (n:Nat) :
  Uk N d vs ks (n+1) ((d.Guard.Diffs.length+d.Guard.Equals.length:Nat):Int)=some (-1):=by
 rw [Uk,Zgm d hg,bS,ZK (Nat.le_refl _)];rfl
theorem ZsV {a b:List Zm} (hl:a.length≤4194304) {j:Nat} {x y:Zm} (hx:a[j]? = some x) (hy:b[j]? = some y) (hne:x≠y) (h:∀ i,i < j→∃ v,a[i]? = some v∧b[i]? = some v) (hN:4194304 < N):Zcn N a b=some (j:Int):=by
 have hj:=(List.getElem?_eq_some_iff.1 hx).1
 have hj2:=(List.getElem?_eq_some_iff.1 hy).1
 refine MT (F:=S6 a b) (j:=j) (fun i n hi=>?_) (fun n=>?_) j N 0 (by omega) (by omega)
 ·obtain ⟨v,v1,v2⟩:=h i hi
  rw [S6,ZI (show i < a.length by omega),ZI (show i < b.length by omega),Zw,Zw,v1,v2]
  simp only [cT,bS]
  show (bif !(SH v v) then _ else _)=_
  rw [(H3 v v).2 rfl,ZH (by omega)];rfl
 ·rw [S6,ZI hj,ZI hj2,Zw,Zw,hx,hy]
  simp only [cT,bS]
  show (bif !(SH x y) then _ else _)=_
  rw [Zin hne];rfl
theorem Zmj {s:ZJ} {x:T3} {q:ZJ × Int} (hR:StepR (N:=N) g m s x q) (he:q.2=11∨q.2=17):∃ (i:Nat) (y:T9),m.Moves[i]? = some y∧Wj y s.At x=true:=by
 cases hR with
 | role _=>rcases he with h | h<;>cases h
 | move _ _=>rcases he with h | h<;>cases h
 | type _ h1 h2 _ _=>exact ⟨_,_,h1,h2⟩
 | guard _ h1 h2 _ _ _=>exact ⟨_,_,h1,h2⟩
 | ok h1 h2 h3 h4 h5 _ _ _ _ _=>exact ⟨_,_,h2,h3⟩
theorem ZoO (hN:4194304 < N) (hm:m.Moves.length≤4194304) {s:ZJ} {x:T3} {i:Nat} {y:T9} (h1:m.Moves[i]? = some y) (h2:Wj y s.At x=true):∃ k:Nat,Sw N m s.At x=some (k:Int):=by
 obtain ⟨z,_,e,h⟩:=Zei hN m hm s x
 rcases h with ⟨_,h⟩ | ⟨k,_,rfl,_,_⟩
 ·rw [h i y h1] at h2;cases h2
 ·exact ⟨k,e⟩
theorem Zn5 (c:Y7 N g m) (hX:Gf g m) {l:List T3} {j:Nat} {t:ZJ} {x:T3} (hI:PY g m l j t) (hj:j < l.length) {i:Nat} {y:T9} {d:T0} (hy:m.Moves[i]? = some y) (hh:Wj y t.At x=true) (hd:idx g.Decls x.Label=some d) (hfl:Ww d.Fields x.Values) (hag:y.Again=true):t.Pending.length=x.Values.length:=by
 have hap:=ZjL.1 hX.mv.ap
 obtain ⟨g1,g2⟩:=hap i y hy
 obtain ⟨a1,a2,_⟩:=(Zeq y).1 g1 hag
 rw [ZgB] at hh
 by_cases hj0:j=0
 ·exact absurd (hh.1.trans (hI.z hj0)) a2
 ·obtain ⟨j',rfl⟩:∃ z,j=z+1:=⟨j-1,by omega⟩
  have hx':=Za (show j' < l.length by omega)
  obtain ⟨k',u,hu,hu1,hu2,hu3⟩:=hI.b j' _ rfl hx'
  obtain ⟨s1,s2⟩:=((Db y i u k').1 (g2 k' u hu)).2 hag (by rw [hu1,hh.1])
  obtain ⟨d',hd',hf'⟩:=hI.f j' _ rfl hx'
  have hp:=hI.p j' _ rfl hx'
  rw [hu2] at s1
  rw [s1] at hp
  have hp:t.Pending=(l[j']).Values:=hp
  rw [← hu3,s2,hh.2.2.2,hd] at hd'
  cases hd'
  rw [hp,← hf'.1,hfl.1]
theorem Zk3 {x p:List Zm} {q:Nat} (hlen:p.length=x.length) (hne:x≠p) (hle:q≤x.length) (hpre:∀ i,i < q→∃ v,x[i]? = some v∧p[i]? = some v) (hdif:q < x.length→x[q]? ≠ p[q]?):∃ a b,x[q]? = some a∧p[q]? = some b∧a≠b:=by
 have hq:q < x.length:=by
  refine Nat.lt_of_le_of_ne hle fun e=>hne ?_
  subst e
  refine List.ext_getElem? fun z=>?_
  by_cases hz:z < x.length
  ·obtain ⟨v,w1,w2⟩:=hpre z hz
   rw [w1,w2]
  ·rw [List.getElem?_eq_none (by omega),List.getElem?_eq_none (by omega)]
 have c1:=Za hq
 have c2:=Za (show q < p.length by omega)
 have:=hdif hq
 rw [c1,c2] at this
 exact ⟨_,_,c1,c2,fun e=>this (by rw [e])⟩
theorem Zez (c:Y7 N g m) {t:ZJ} (hS:StM g m t) {d:T0} {x:T3} {first:Nat} (hfl:Ww d.Fields x.Values) (hf:d.First=(first:Int)) (hle:first+x.Values.length≤t.Known.length) (hin:U6 t.Known.length d.Guard) (hkn:Uc (Zx g.Decls) (Yq first x.Values t.Known)) {j:Nat} (hj:j < d.Guard.Diffs.length+d.Guard.Equals.length) :
  Pn N d x.Values t.Known (j:Int)=some (Vk d.Guard (Yq first x.Values t.Known) j) :=
 ZmS d hf hfl hle (Dt c hS) (Zh6 hkn) hin hj
theorem Zld (c:Y7 N g m) (hX:Gf g m) {l:List T3} {j:Nat} {t:ZJ} {x:T3} (hS:StM g m t) (hI:PY g m l j t) (hj:j < l.length) (hx:XO x) {q:ZJ × Int} (hR:StepR (N:=N) g m t x q) {e k p:Int} (he:q.2=e) (hk:V9 g m t x e k p) (vb:Int) :
  Q9 N g m (t,(j:Int),e) x vb=some (⟨(j:Int),k,p,bif k==1 then x.Role else vb⟩,true,0):=by
 have hN:=c.hN
 have hm:m.Moves.length≤4194304:=by have:=c.a.n.n;omega
 have role:x.Role=m.Role→(x.Role != m.Role)=false:=fun h=>by simp [h]
 have mv:e=11∨e=17→∃ k:Nat,Sw N m t.At x=some (k:Int):=fun h=>by
  obtain ⟨i,y,h1,h2⟩:=Zmj hR (by rw [he];exact h)
  exact ZoO hN hm h1 h2
 have nn:∀ k:Nat,decide ((k:Int) < 0)=false:=fun k=>by simp
 have nn':∀ k:Nat,decide ((k:Int)≥0)=true:=fun k=>by simp
 have m1:decide ((-1:Int)≥0)=false:=rfl
 unfold Q9
 cases hk with
 | stranger h =>
  rw [show (x.Role != m.Role)=true by simp [h]];rfl
 | move h hno =>
  rw [role h]
  obtain ⟨z,_,ez,hz⟩:=Zei hN m hm t x
  rcases hz with ⟨rfl,_⟩ | ⟨i,y,rfl,h1,h2⟩
  ·simp only [cond_false,ez,bS];rfl
  ·rw [hno i y h1] at h2;cases h2
 | count h hd hne =>
  obtain ⟨z,ez⟩:=mv (.inl rfl)
  rw [role h]
  simp only [cond_false,ez,bS,nn,hd]
  rw [Uq,dF hne];rfl
 | sort h hd hlen hf hv hbad hgood =>
  obtain ⟨z,ez⟩:=mv (.inl rfl)
  rw [role h]
  simp only [cond_false,ez,bS,nn,hd]
  rw [Uq,dT hlen,Zo9 hN hx.l hx.s hlen hf hv hbad hgood]
  simp only [Zh,cond_false,bS,nn',cT];rfl
 | guard h hd hfl hf hle hin hkn hj' hbad hgood =>
  obtain ⟨z,ez⟩:=mv (.inr rfl)
  rename_i d i first
  have hg:M4 N d x.Values t.Known=some (i:Int):=by
   have hl:=hin.dl
   have hl2:=hin.el
   refine MT (F:=Uk N d x.Values t.Known) (j:=i) (fun z n hz=>?_) (fun n=>?_) i N 0 (by omega) (by omega)
   ·rw [Ze4 ⟨hin.dl,hin.el⟩ (by omega) (Zez c hS hfl hf hle hin hkn (by omega)),hgood z hz];rfl
   ·rw [Ze4 ⟨hin.dl,hin.el⟩ hj' (Zez c hS hfl hf hle hin hkn hj'),hbad];rfl
  rw [role h]
  simp only [cond_false,ez,bS,nn,hd]
  rw [Uq,dT hfl.1.symm,ZhM hN hx.l hx.s hfl]
  simp only [Zh,cond_false,bS,m1,hg,nn',cT];rfl
 | same h hy hh hd hfl hag hne hle' hpre hdif hf hle hin hkn hgood =>
  obtain ⟨z,ez⟩:=mv (.inr rfl)
  rename_i i y d q' first
  have hg:M4 N d x.Values t.Known=some (-1):=by
   have hl:=hin.dl
   have hl2:=hin.el
   refine MT (F:=Uk N d x.Values t.Known) (j:=d.Guard.Diffs.length+d.Guard.Equals.length) (fun z n hz=>?_) (fun n=>Zlz ⟨hin.dl,hin.el⟩ n) (d.Guard.Diffs.length+d.Guard.Equals.length) N 0 (by omega) (by omega)
   rw [Ze4 ⟨hin.dl,hin.el⟩ hz (Zez c hS hfl hf hle hin hkn hz),hgood z hz];rfl
  obtain ⟨a,b,c1,c2,c3⟩:=Zk3 (Zn5 c hX hI hj hy hh hd hfl hag) hne hle' hpre hdif
  rw [role h]
  simp only [cond_false,ez,bS,nn,hd]
  rw [Uq,dT hfl.1.symm,ZhM hN hx.l hx.s hfl]
  simp only [Zh,cond_false,bS,m1,hg]
  rw [ZsV hx.l c1 c2 c3 hpre hN];rfl
theorem ZhD (hN:4194304 < N) (hg:XI g) (hs:XV g) (hn:Xi g) (ht:m.Timeouts.length≤4194304) (l:List T3) (hl:l.length≤4194304) (he:∀ x∈l,XO x) :
  (∃ e,R7 N g m l=some (Ze6,false,e)∧QC N g m l=some (Ze6,false,e)) ∨
  (∃ (t:ZJ) (j:Nat) (x:T3) (e k p r:Int),Y7 N g m∧l[j]? = some x∧V9 g m t x e k p∧R7 N g m l=some (⟨(j:Int),k,p,r⟩,true,0)∧QC N g m l=some (⟨(j:Int),k,p,r⟩,true,0)):=by
 obtain ⟨q,r1,r2,_,_⟩:=ZkH hN hg hs hn ht l hl he
 rcases Zh0 hN hg hs hn ht l hl he with ⟨t,j,e,hr,h,hf⟩ | ⟨t,j,x,e,k,p,c,hX,hr,he0,he1,hrv,hx,hse,hS,hI,hk,hf⟩
 ·refine .inl ⟨e,hf,?_⟩
  rw [r1] at hr
  cases hr
  unfold QC
  rw [r2]
  rcases h with rfl | rfl<;>rfl
 ·have hxs:=he x (Zb hx)
  have hj:=(List.getElem?_eq_some_iff.1 hx).1
  obtain ⟨_,hR⟩:=Bo c hn hS hxs
  rw [r1] at hr
  cases hr
  refine .inr ⟨t,j,x,e,k,p,_,c,hx,hk,hf,?_⟩
  unfold QC
  rw [r2]
  have b1:(e==1)=false:=by simp [he1]
  have b0:(e==0)=false:=by simp [he0]
  simp only [bS,b1,b0,cond_false,Zw,hx]
  have key:=fun vb=>Zld c hX hS hI hj hxs hR hse hk vb
  cases x.Send with
  | true=>exact key _
  | false=>exact key _
end Gp
end
section
namespace Gp
open Go Go.Kx Gx
variable {N:Nat} {g:T5} {m:T8}
def ZkZ (N:Nat) (g_:T5) (m_:T8) (b_:Xu) (x2:T3) (x4:ByteArray):Option (ByteArray × Int) :=
 bif (b_.Kind==(1:Int)) then ((Zv x4 (str [105,115,32,110,111,116,32,97,110,32,101,118,101,110,116,32,111,102,32])).bind fun x5 =>
 (Sq N g_ m_.Role).bind fun x6 =>
 (Zv x5 x6).bind fun x7 =>
 some (x7,(0:Int)))
 else bif (b_.Kind==(2:Int)) then ((Zv x4 (str [105,115,32,110,111,116,32,112,101,114,109,105,116,116,101,100,32,104,101,114,101])).bind fun x8 =>
 some (x8,(0:Int)))
 else bif (b_.Kind==(3:Int)) then ((Zv x4 (str [104,97,115,32])).bind fun x9 =>
 (Xd N (x2.Values.length:Int)).bind fun x10 =>
 (Zv x9 x10).bind fun x11 =>
 (Zv x11 (str [32,118,97,108,117,101,115,32,105,110,115,116,101,97,100,32,111,102,32])).bind fun x12 =>
 (idx g_.Decls x2.Label).bind fun x13 =>
 (Xd N (x13.Fields.length:Int)).bind fun x14 =>
 (Zv x12 x14).bind fun x15 =>
 some (x15,(0:Int)))
 else bif (b_.Kind==(4:Int)) then ((idx g_.Decls x2.Label).bind fun x16 =>
 (idx x16.Fields b_.Part).bind fun x17 =>
 (Zv x4 (str [104,97,115,32,116,104,101,32,118,97,108,117,101,32])).bind fun x18 =>
 (idx x2.Values b_.Part).bind fun x19 =>
 (RE N x19).bind fun x20 =>
 (Zv x18 x20).bind fun x21 =>
 (Zv x21 (str [32,102,111,114,32])).bind fun x22 =>
 (Zv x22 x17.Name).bind fun x23 =>
 (Zv x23 (str [44,32,119,104,105,99,104,32,105,115,32,110,111,116,32,102,114,111,109,32])).bind fun x24 =>
 (Xd N x17.Sort'.Lo).bind fun x25 =>
 (Zv x24 x25).bind fun x26 =>
 (Zv x26 (str [32,116,111,32])).bind fun x27 =>
 (Xd N x17.Sort'.Hi).bind fun x28 =>
 (Zv x27 x28).bind fun x29 =>
 some (x29,(0:Int)))
 else bif (b_.Kind==(5:Int)) then ((Zv x4 (str [100,111,101,115,32,110,111,116,32,107,101,101,112,32,116,104,101,32,103,117,97,114,100,32])).bind fun x30 =>
 (VG N g_.Decls x2.Label b_.Part).bind fun x31 =>
 (Zv x30 x31).bind fun x32 =>
 some (x32,(0:Int)))
 else (Zv x4 (str [100,111,101,115,32,110,111,116,32,104,97,118,101,32,116,104,101,32,115,97,109,101,32,118,97,108,117,101,115,32,97,115,32,116,104,101,32,109,101,115,115,97,103,101,32,97,104,101,97,100])).bind fun x33 =>
 some (x33,(0:Int))
theorem Zqi (c:Y7 N g m) {t:ZJ} {x:T3} (hS:ShowOk g x) {e k p:Int} (hk:V9 g m t x e k p) (hp:XT p) (j r:Int) {S:List UInt8} (hSl:S.length≤35184600000000) :
  ∃ R:List UInt8,R.length≤134217728∧z50 N g m ⟨j,k,p,r⟩ x=some (Zu R)∧ZkZ N g m ⟨j,k,p,r⟩ x (Zu S)=some (Zu (S++R),0):=by
 have hN:=c.hN
 obtain ⟨v1,v2⟩:=Th c.a.v
 have last:(∀ s:List UInt8,s=[100,111,101,115,32,110,111,116,32,104,97,118,101,32,116,104,101,32,115,97,109,101,32,118,97,108,117,101,115,32,97,115,32,116,104,101,32,109,101,115,115,97,103,101,32,97,104,101,97,100]→s.length=50):=fun s h=>by rw [h];rfl
 cases hk with
 | stranger h =>
  have a1:=(hS.sizes).1 m.Role
  refine ⟨[105,115,32,110,111,116,32,97,110,32,101,118,101,110,116,32,111,102,32]++bs (W2 g.Roles m.Role),by simp;omega,?_,?_⟩
  ·show (Option.bind (Tx N g.Roles m.Role) _)=_
   rw [H4,bS]
   show (Option.bind (Zv (Zu [105,115,32,110,111,116,32,97,110,32,101,118,101,110,116,32,111,102,32]) _) _)=_
   rw [YE (by simp;omega)];rfl
  ·show (Option.bind (Zv (Zu S) (Zu [105,115,32,110,111,116,32,97,110,32,101,118,101,110,116,32,111,102,32])) _)=_
   rw [ZS (by simp;omega),bS,Zgi,bS,YE (by simp;omega),bS,aA]
 | move h hno =>
  refine ⟨[105,115,32,110,111,116,32,112,101,114,109,105,116,116,101,100,32,104,101,114,101],by simp,rfl,?_⟩
  show (Option.bind (Zv (Zu S) (Zu [105,115,32,110,111,116,32,112,101,114,109,105,116,116,101,100,32,104,101,114,101])) _)=_
  rw [ZS (by simp;omega),bS]
 | count h hd hne =>
  rename_i d
  obtain ⟨i,_,hi⟩:=QJ hd
  have hfl:d.Fields.length≤4:=by
   obtain ⟨_,_,_,_,_,h2⟩:=Tf c.a.v hi
   unfold XJ at h2
   simp only [Zc,decide_eq_true_eq] at h2
   exact h2.2.1
  have hl:=hS.l
  have i1:XT (x.Values.length:Int):=⟨by omega,by omega⟩
  have i2:XT (d.Fields.length:Int):=⟨by omega,by omega⟩
  have l1:=Vw (x.Values.length:Int)
  have l2:=Vw (d.Fields.length:Int)
  refine ⟨[104,97,115,32]++bs (XE (x.Values.length:Int))++[32,118,97,108,117,101,115,32,105,110,115,116,101,97,100,32,111,102,32]++bs (XE (d.Fields.length:Int)),by simp;omega,?_,?_⟩
  ·show (Option.bind (Wg N (x.Values.length:Int)) _)=_
   rw [VT i1,bS,show str [104,97,115,32]=Zu [104,97,115,32] from rfl,YE (by simp;omega),bS,show str [32,118,97,108,117,101,115,32,105,110,115,116,101,97,100,32,111,102,32]=Zu [32,118,97,108,117,101,115,32,105,110,115,116,101,97,100,32,111,102,32] from rfl,ZS (by simp;omega),bS]
   simp only [hd,bS]
   rw [VT i2,bS,YE (by simp;omega)];rfl
  ·show (Option.bind (Zv (Zu S) (Zu [104,97,115,32])) _)=_
   rw [ZS (by simp;omega),bS,Un hN i1,bS,YE (by simp;omega),bS,show str [32,118,97,108,117,101,115,32,105,110,115,116,101,97,100,32,111,102,32]=Zu [32,118,97,108,117,101,115,32,105,110,115,116,101,97,100,32,111,102,32] from rfl,ZS (by simp;omega),bS]
   simp only [hd,bS]
   rw [Un hN i2,bS,YE (by simp;omega),bS]
   simp only [aA]
 | sort h hd hlen hf hv hbad hgood =>
  rename_i d q f v
  obtain ⟨i,_,hi⟩:=QJ hd
  have hso:=Gh c.a.v (Zb hi) (Zb hf)
  have i1:XT f.Sort'.Lo:=by unfold XK at hso;constructor<;>omega
  have i2:XT f.Sort'.Hi:=by unfold XK at hso;constructor<;>omega
  have l1:=Vw f.Sort'.Lo
  have l2:=Vw f.Sort'.Hi
  have nv:=hS.v v (Zb hv)
  have l3:=HD nv.s
  have l4:=(c.ss.d d (Zb hi)).f f (Zb hf)
  rw [Yd] at l4
  refine ⟨[104,97,115,32,116,104,101,32,118,97,108,117,101,32]++Wp v++[32,102,111,114,32]++bs f.Name++[44,32,119,104,105,99,104,32,105,115,32,110,111,116,32,102,114,111,109,32]++bs (XE f.Sort'.Lo)++[32,116,111,32]++bs (XE f.Sort'.Hi),by simp;omega,?_,?_⟩
  ·show (Option.bind (idx g.Decls x.Label) _)=_
   rw [hd,bS]
   show (Option.bind (idx d.Fields (q:Int)) _)=_
   rw [Zw,hf,bS]
   show (Option.bind (idx x.Values (q:Int)) _)=_
   rw [Zw,hv,bS,Zgb hN nv,bS,show str [104,97,115,32,116,104,101,32,118,97,108,117,101,32]=Zu [104,97,115,32,116,104,101,32,118,97,108,117,101,32] from rfl,ZS (by simp;omega),bS,
    show str [32,102,111,114,32]=Zu [32,102,111,114,32] from rfl,ZS (by simp;omega),bS,YE (by simp;omega),bS,
    show str [44,32,119,104,105,99,104,32,105,115,32,110,111,116,32,102,114,111,109,32]=Zu [44,32,119,104,105,99,104,32,105,115,32,110,111,116,32,102,114,111,109,32] from rfl,ZS (by simp;omega),bS,VT i1,bS,YE (by simp;omega),bS,
    show str [32,116,111,32]=Zu [32,116,111,32] from rfl,ZS (by simp;omega),bS,VT i2,bS,YE (by simp;omega)];rfl
  ·show (Option.bind (idx g.Decls x.Label) _)=_
   rw [hd,bS]
   show (Option.bind (idx d.Fields (q:Int)) _)=_
   rw [Zw,hf,bS,show str [104,97,115,32,116,104,101,32,118,97,108,117,101,32]=Zu [104,97,115,32,116,104,101,32,118,97,108,117,101,32] from rfl,ZS (by simp;omega),bS]
   show (Option.bind (idx x.Values (q:Int)) _)=_
   rw [Zw,hv,bS,ZcO hN nv,bS,ZS (by simp;omega),bS,
    show str [32,102,111,114,32]=Zu [32,102,111,114,32] from rfl,ZS (by simp;omega),bS,YE (by simp;omega),bS,
    show str [44,32,119,104,105,99,104,32,105,115,32,110,111,116,32,102,114,111,109,32]=Zu [44,32,119,104,105,99,104,32,105,115,32,110,111,116,32,102,114,111,109,32] from rfl,ZS (by simp;omega),bS,Un hN i1,bS,YE (by simp;omega),bS,
    show str [32,116,111,32]=Zu [32,116,111,32] from rfl,ZS (by simp;omega),bS,Un hN i2,bS,YE (by simp;omega),bS]
   simp only [aA]
 | guard h hd hfl hf hle hin hkn hj' hbad hgood =>
  rename_i d q first
  obtain ⟨s,b1,b2,b3⟩:=ZgM hN g.Decls (by omega) c.gg.dd c.ss.d (at':=x.Label) hp
  refine ⟨[100,111,101,115,32,110,111,116,32,107,101,101,112,32,116,104,101,32,103,117,97,114,100,32]++s,by simp;omega,?_,?_⟩
  ·show (Option.bind (z39 N g.Decls x.Label (q:Int)) _)=_
   rw [b2,bS,show str [100,111,101,115,32,110,111,116,32,107,101,101,112,32,116,104,101,32,103,117,97,114,100,32]=Zu [100,111,101,115,32,110,111,116,32,107,101,101,112,32,116,104,101,32,103,117,97,114,100,32] from rfl,ZS (by simp;omega)];rfl
  ·show (Option.bind (Zv (Zu S) (Zu [100,111,101,115,32,110,111,116,32,107,101,101,112,32,116,104,101,32,103,117,97,114,100,32])) _)=_
   rw [ZS (by simp;omega),bS]
   show (Option.bind (VG N g.Decls x.Label (q:Int)) _)=_
   rw [b3,bS,ZS (by simp;omega),bS,aA]
 | same h hy hh hd hfl hag hne hle' hpre hdif hf hle hin hkn hgood =>
  refine ⟨[100,111,101,115,32,110,111,116,32,104,97,118,101,32,116,104,101,32,115,97,109,101,32,118,97,108,117,101,115,32,97,115,32,116,104,101,32,109,101,115,115,97,103,101,32,97,104,101,97,100],by simp,rfl,?_⟩
  show (Option.bind (Zv (Zu S) (Zu [100,111,101,115,32,110,111,116,32,104,97,118,101,32,116,104,101,32,115,97,109,101,32,118,97,108,117,101,115,32,97,115,32,116,104,101,32,109,101,115,115,97,103,101,32,97,104,101,97,100])) _)=_
  rw [ZS (by simp;omega),bS]
theorem Zq4 (c:Y7 N g m) {t:ZJ} {x:T3} (hl:x.Values.length≤4194304) {e k p:Int} (hk:V9 g m t x e k p):XT p:=by
 cases hk with
 | stranger h=>exact ⟨by omega,by omega⟩
 | move h hno=>exact ⟨by omega,by omega⟩
 | count h hd hne=>exact ⟨by omega,by omega⟩
 | sort h hd hlen hf hv hbad hgood =>
  have:=(List.getElem?_eq_some_iff.1 hv).1
  exact ⟨by omega,by omega⟩
 | guard h hd hfl hf hle hin hkn hj' hbad hgood =>
  have:=hin.dl
  have:=hin.el
  exact ⟨by omega,by omega⟩
 | same h hy hh hd hfl hag hne hle' hpre hdif hf hle hin hkn hgood=>exact ⟨by omega,by omega⟩
end Gp
end
section
namespace Gp
open Go Go.Kx Gx
variable {N:Nat} {g:T5} {m:T8}
theorem Zl0 (hN:4194304 < N) (ht:m.Timeouts.length≤4194304) (hv:Rr m):Tt N m=some (some ⟨m,XB N m⟩,true):=by
 have hm:=hv.n
 unfold Tt
 rw [Zc3 hN,(ZdZ m).2 hm]
 simp only [bS,Zh,cond_false]
 rw [ZdF hN m hm]
 obtain ⟨b1,b2,e1,e2,e3⟩:=Zik hN hm
 obtain ⟨b3,e4,h4⟩:=Zjt hN hm
 have e6:=ZhI (t:=⟨m,XB N m⟩) hN rfl ht
 rw [hv.ap,Zc] at e3
 obtain ⟨rfl,rfl⟩:=e3
 have:b3=true:=h4.2 hv.rc
 subst this
 rw [hv.tm] at e6
 simp only [bS,e1,e2,e4,e6,cT]
theorem Zhd (hN:4194304 < N) (hv:Rr m):GS m:=((Zfj hN hv.n).2 hv.ap).1
theorem Zfd {x y:T9} (h1:¬ Xk x y) (h2:Tv x y≠0):Xk y x:=by
 rw [Ne,Zd5] at h2
 unfold Xk at *
 revert h1 h2
 cases x.Send<;>cases y.Send<;>simp<;>omega
def UH (m:T8) (a b:Int):Prop:=∃ x y,m.Moves[a.toNat]? = some x∧m.Moves[b.toNat]? = some y∧Xk x y
theorem Zmu (a b:Int) (h:UH m a b):¬ UH m b a:=by
 obtain ⟨x,y,h1,h2,h3⟩:=h
 rintro ⟨y',x',g1,g2,g3⟩
 rw [h1] at g2;rw [h2] at g1
 cases g1;cases g2
 exact Zf8 _ (Zat h3 g3)
theorem Zrj {a b c:Int} (h:UH m a b) (k:UH m b c):UH m a c:=by
 obtain ⟨x,y,h1,h2,h3⟩:=h
 obtain ⟨y',z,g1,g2,g3⟩:=k
 rw [h2] at g1;cases g1
 exact ⟨x,z,h1,g2,Zat h3 g3⟩
theorem Zi5 {r:Int→Int→Prop} (has:∀ a b,r a b→¬ r b a):∀ (A B:List Int),(∀ a,a∈A↔a∈B)→A.Pairwise r→B.Pairwise r→A=B
 | [],[],_,_,_=>rfl
 | [],y::B,h,_,_=>absurd ((h y).2 (by simp)) (by simp)
 | x::A,[],h,_,_=>absurd ((h x).1 (by simp)) (by simp)
 | x::A,y::B,h,ha,hb=>by
  rw [List.pairwise_cons] at ha hb
  have hxy:x=y:=Classical.byContradiction fun hne=>by
   have h1:x∈B:=by
    rcases List.mem_cons.1 ((h x).1 (by simp)) with e | e
    ·exact absurd e hne
    ·exact e
   have h2:y∈A:=by
    rcases List.mem_cons.1 ((h y).2 (by simp)) with e | e
    ·exact absurd e.symm hne
    ·exact e
   exact has _ _ (ha.1 y h2) (hb.1 x h1)
  subst hxy
  rw [Zi5 has A B (fun a=>⟨fun h1=>by
   rcases List.mem_cons.1 ((h a).1 (List.mem_cons_of_mem _ h1)) with e | e
   ·subst e;exact absurd (ha.1 a h1) (has _ _ (ha.1 a h1))
   ·exact e,fun h1=>by
   rcases List.mem_cons.1 ((h a).2 (List.mem_cons_of_mem _ h1)) with e | e
   ·subst e;exact absurd (hb.1 a h1) (has _ _ (hb.1 a h1))
   ·exact e⟩) ha.2 hb.2]
structure MovesAre (m:T8) (s:Int) (i:Nat) (L:List Int):Prop where
 srt:L.Pairwise (UH m)
 mem:∀ a,a∈L↔∃ (k:Nat) (x:T9),a=(k:Int)∧k < i∧m.Moves[k]? = some x∧x.From=s
 len:L.length≤i
theorem MovesAre.uniq {s:Int} {i:Nat} {A B:List Int} (h:MovesAre m s i A) (k:MovesAre m s i B):A=B :=
 Zi5 Zmu A B (fun a=>(h.mem a).trans (k.mem a).symm) h.srt k.srt
theorem Zrd (hN:4194304 < N) (hv:Rr m) (s:Nat) (hs:s < m.States.toNat):∃ L,(XB N m)[s]? = some L∧MovesAre m (s:Int) m.Moves.length L∧L.length=(YB m m.Moves.length s).length:=by
 obtain ⟨l,h1,h2,h3,h4⟩:=L1 hN hv.n s hs
 have hp:=Zhd hN hv
 refine ⟨l,h1,⟨?_,fun a=>⟨fun h=>?_,fun h=>?_⟩,?_⟩,?_⟩
 ·rw [List.pairwise_iff_getElem]
  intro i j hi hj hij
  obtain ⟨a,x,e1,e2,e3⟩:=(h3 _).1 (List.getElem_mem hi)
  obtain ⟨b,y,f1,f2,f3⟩:=(h3 _).1 (List.getElem_mem hj)
  have hne:a≠b:=fun e=>by
   have:l[i]=l[j]:=by rw [e1,f1,e]
   have:=(List.getElem_inj h2).1 this
   omega
  have hd:=hp b a y x (Ne.symm hne) f2 e2 (f3.trans e3.symm)
  rw [e1,f1]
  refine ⟨x,y,by rw [Int.toNat_natCast];exact e2,by rw [Int.toNat_natCast];exact f2,?_⟩
  exact Zfd (h4 i j a b x y hij (by rw [Za hi,e1]) (by rw [Za hj,f1]) e2 f2) (fun c=>by
   rw [Zd5] at c
   exact hd.2 ⟨c.2.1,c.2.2⟩)
 ·obtain ⟨k,x,e1,e2,e3⟩:=(h3 a).1 h
  exact ⟨k,x,e1,(List.getElem?_eq_some_iff.1 e2).1,e2,e3⟩
 ·obtain ⟨k,x,e1,_,e2,e3⟩:=h
  exact (h3 a).2 ⟨k,x,e1,e2,e3⟩
 ·have h1':=h1
  rw [ZbV N m s hs] at h1'
  rw [← Option.some.inj h1',(BH hN m hv.n s).1.length_eq]
  exact ZbJ m m.Moves.length s
 ·rw [ZbV N m s hs] at h1
  rw [← Option.some.inj h1]
  exact (BH hN m hv.n s).1.length_eq
theorem Zlx (x y:T9):∃ b,DZ N x y=some b∧(b=true↔Xk x y):=by
 unfold DZ Xk
 cases hx:x.Send<;>cases hy:y.Send
 case true.false=>exact ⟨true,rfl,by simp⟩
 case false.true=>exact ⟨false,rfl,by simp⟩
 all_goals
  by_cases c:x.Peer=y.Peer
  ·exact ⟨decide (x.Label < y.Label),by simp [c],by simp [c]⟩
  ·have e:(x.Peer != y.Peer)=true:=by simpa using c
   exact ⟨decide (x.Peer < y.Peer),by rw [e];rfl,by simp [c]⟩
theorem Zl9 (hN:4194304 < N) (hp:GS m) (hn:m.Moves.length≤400) {s:Int} {i:Nat} {acc:List Int} (h:MovesAre m s i acc) {v:T9} (hv:m.Moves[i]? = some v) (hs:v.From=s) (ag:List Int→Int→Option (List Int)) :
  ∀ (n:Nat) (A B:List Int) (j:Int),B.length < n→acc=A++B→j=(A.length:Int)→(∀ y∈A,UH m y (i:Int)) →
  ∃ A B,acc=A++B∧(∀ y∈A,UH m y (i:Int))∧(∀ y∈B,UH m (i:Int) y)∧SL N m acc (i:Int) ag n j=PB acc (i:Int) ag (A.length:Int):=by
 intro n
 have hi:=(List.getElem?_eq_some_iff.1 hv).1
 induction n with
 | zero=>intro A B j h;omega
 | succ n ih =>
  intro A B j hn' he hj hA
  cases B with
  | nil =>
   have hd:decide (j < (acc.length:Int))=false:=by rw [he];simp;omega
   refine ⟨A,[],he,hA,by simp,?_⟩
   simp only [SL,hd,cond_false]
   rw [hj]
  | cons y B =>
   have hal:=h.len
   have hl:acc.length=A.length+(B.length+1):=by rw [he];simp
   have hd:decide (j < (acc.length:Int))=true:=by rw [he];simp;omega
   have e1:idx acc j=some y:=ZaL he hj
   obtain ⟨k,x,rfl,hki,hx,hxs⟩:=(h.mem y).1 (by rw [he];simp)
   obtain ⟨b,b1,b2⟩:=Zlx (N:=N) v x
   cases b with
   | true =>
    refine ⟨A,(k:Int)::B,he,hA,fun z hz=>?_,?_⟩
    ·have h0:UH m (i:Int) (k:Int):=⟨v,x,by rw [Int.toNat_natCast];exact hv,by rw [Int.toNat_natCast];exact hx,b2.1 rfl⟩
     rcases List.mem_cons.1 hz with rfl | hz
     ·exact h0
     ·have:=h.srt
      rw [he] at this
      exact Zrj h0 ((List.pairwise_cons.1 (List.pairwise_append.1 this).2.1).1 z hz)
    ·simp only [SL,hd,cT,Zw,hv,e1,hx,bS,b1,Zh,cond_false]
     rw [hj]
   | false =>
    have hlt:UH m (k:Int) (i:Int):=by
     refine ⟨x,v,by rw [Int.toNat_natCast];exact hx,by rw [Int.toNat_natCast];exact hv,?_⟩
     refine Zfd (fun c=>by have:=b2.2 c;cases this) (fun c=>?_)
     rw [Zd5] at c
     exact (hp i k v x (by omega) hv hx (hs.trans hxs.symm)).2 ⟨c.2.1,c.2.2⟩
    obtain ⟨A',B',p1,p2,p3,p4⟩:=ih (A++[(k:Int)]) B (Zi (j+1)) (by simp at hn';omega) (by rw [he];simp) (by rw [hj,ZH (by omega)];simp)
     (by
      intro z hz
      rcases List.mem_append.mp hz with hz | hz
      ·exact hA z hz
      ·simp at hz;subst hz;exact hlt)
    refine ⟨A',B',p1,p2,p3,?_⟩
    simp only [SL,hd,cT,Zw,hv,e1,hx,bS,b1,Bool.not_false]
    exact p4
theorem ZeS (hN:4194304 < N) (hp:GS m) (hn:m.Moves.length≤400) (s:Int):∀ (r:List T9) (n i:Nat) (acc:List Int),m.Moves.drop i=r→r.length < n→i≤m.Moves.length→MovesAre m s i acc →
  ∃ L,Vf N m s n acc (i:Int)=some L∧MovesAre m s m.Moves.length L
 | [],n,i,acc,h,hn',hil,hM=>by
  obtain ⟨n,rfl⟩:∃ z,n=z+1:=⟨n-1,by simp at hn';omega⟩
  have hle:=Y2 h
  refine ⟨acc,by rw [Vf,ZK hle];rfl,hM.srt,fun a=>⟨fun ha=>?_,fun ha=>?_⟩,?_⟩
  ·obtain ⟨k,x,e1,_,e2,e3⟩:=(hM.mem a).1 ha
   exact ⟨k,x,e1,(List.getElem?_eq_some_iff.1 e2).1,e2,e3⟩
  ·obtain ⟨k,x,e1,e0,e2,e3⟩:=ha
   exact (hM.mem a).2 ⟨k,x,e1,by omega,e2,e3⟩
  ·have:=hM.len;omega
 | x::r,n,i,acc,h,hn',hil,hM=>by
  obtain ⟨n,rfl⟩:∃ z,n=z+1:=⟨n-1,by simp at hn';omega⟩
  obtain ⟨hi,hx,hr⟩:=YU h
  simp only [Zg] at hn'
  rw [Vf,ZI hi,Zw,hx,ZH (by omega)]
  simp only [cT,bS]
  by_cases c:x.From=s
  ·rw [show (x.From != s)=false by simp [c],cond_false]
   obtain ⟨A,B,p1,p2,p3,p4⟩:=Zl9 (N:=N) hN hp hn hM hx c (Vf N m s n) N [] acc (0:Int) (by have:=hM.len;omega) rfl (by simp) (by simp)
   rw [p4]
   unfold PB
   have hal:=hM.len
   have hl:acc.length=A.length+B.length:=by rw [p1];simp
   rw [Qp p1 rfl,Za1 p1 rfl]
   simp only [bS]
   rw [YC (by simp;omega),bS,YC (by simp;omega),bS,YC (by simp;omega),bS,ZH (by omega)]
   refine ZeS hN hp hn s r n (i+1) _ hr (by omega) (by omega) ⟨?_,fun a=>⟨fun ha=>?_,fun ha=>?_⟩,by simp;omega⟩
   ·have hs:=hM.srt
    rw [p1,List.pairwise_append] at hs
    simp only [List.nil_append,aA,List.singleton_append]
    rw [List.pairwise_append,List.pairwise_cons]
    refine ⟨hs.1,⟨p3,hs.2.1⟩,fun y hy z hz=>?_⟩
    rcases List.mem_cons.1 hz with rfl | hz
    ·exact p2 y hy
    ·exact hs.2.2 y hy z hz
   ·have:a=(i:Int)∨a∈acc:=by
     rw [p1]
     simp only [List.nil_append,List.mem_append,List.mem_singleton] at ha ⊢
     rcases ha with (h | h) | h
     ·exact .inr (.inl h)
     ·exact .inl h
     ·exact .inr (.inr h)
    rcases this with rfl | ha
    ·exact ⟨i,x,rfl,by omega,hx,c⟩
    ·obtain ⟨k,y,e1,e2,e3⟩:=(hM.mem a).1 ha
     exact ⟨k,y,e1,by omega,e3⟩
   ·obtain ⟨k,y,rfl,e2,e3,e4⟩:=ha
    have:(k:Int)=(i:Int)∨(k:Int)∈acc:=by
     by_cases e:k=i
     ·exact .inl (by rw [e])
     ·exact .inr ((hM.mem _).2 ⟨k,y,rfl,by omega,e3,e4⟩)
    rw [p1] at this
    simp only [List.nil_append,List.mem_append,List.mem_singleton] at this ⊢
    rcases this with h | h | h
    ·exact .inl (.inr h)
    ·exact .inl (.inl h)
    ·exact .inr h
  ·rw [show (x.From != s)=true by simp [c],cT]
   refine ZeS hN hp hn s r n (i+1) acc hr (by omega) (by omega) ⟨hM.srt,fun a=>⟨fun ha=>?_,fun ha=>?_⟩,by have:=hM.len;omega⟩
   ·obtain ⟨k,y,e1,e2,e3⟩:=(hM.mem a).1 ha
    exact ⟨k,y,e1,by omega,e3⟩
   ·obtain ⟨k,y,e1,e2,e3,e4⟩:=ha
    refine (hM.mem a).2 ⟨k,y,e1,?_,e3,e4⟩
    by_cases e:k=i
    ·subst e;rw [hx] at e3;cases e3;exact absurd e4 c
    ·omega
theorem ZrC (hN:4194304 < N) (ht:m.Timeouts.length≤4194304) (hv:Rr m) (hr:TO N m=some true) {s:Int} (s0:0≤s) (s1:s < m.States) :
  ∃ L,z53 N m s=some L∧Mc N m s=some L∧MovesAre m s m.Moves.length L∧L.length=(YB m m.Moves.length s.toNat).length:=by
 obtain ⟨c,rfl⟩:=Ze s0
 have hm:=hv.n
 obtain ⟨L,h1,h2,h5⟩:=Zrd hN hv c (by omega)
 obtain ⟨R,h3,h4⟩:=ZeS hN (Zhd hN hv) hm.n (c:Int) m.Moves N 0 [] rfl (by have:=hm.n;omega) (Nat.zero_le _) ⟨.nil,fun a=>⟨fun h=>(by cases h),fun ⟨k,x,_,h,_⟩=>(by omega)⟩,Nat.le_refl _⟩
 obtain rfl:=h2.uniq h4
 refine ⟨L,?_,?_,h2,h5⟩
 ·unfold z53
  rw [Zl0 hN ht hv]
  simp only [bS,Pq,Zh,cond_false]
  rw [dF (show ¬ (c:Int) < 0 by omega),dF (show ¬ (c:Int)≥m.States by omega)]
  simp only [cond_false,Zw,h1,bS]
 ·unfold Mc MQ
  rw [hr]
  simp only [bS,cT]
  rw [dT (show (c:Int)≥0 by omega),cT,dT s1]
  simp only [bS,Zh,cond_false]
  unfold z69
  rw [show (0:Int)=((0:Nat):Int) from rfl,h3]
  rfl
def LB (l:List Yj) (s:Int):Option Yj:=l.find? fun t=>t.State==s
theorem Zql (hN:4194304 < N) (ht:m.Timeouts.length≤4194304) (hb:Tm N m=some true) (hr:TO N m=some true) {s:Int} (s0:0≤s) (s1:s < m.States) :
  ∃ t b,DR N m s=some (t,b)∧GF N m s=some (t,b)∧(LB m.Timeouts s=bif b then some t else none)∧(b=true→t∈m.Timeouts∧t.State=s):=by
 have key:∀ (r:List Yj) (n k:Nat),m.Timeouts.drop k=r→r.length < n →
   ∃ z,Rn N m.Timeouts s n (k:Int)=some z∧RH m s n (k:Int)=some z∧((z=-1∧r.find? (fun t=>t.State==s)=none)∨∃ (i:Nat) (t:Yj),z=(i:Int)∧m.Timeouts[i]? = some t∧t.State=s∧r.find? (fun t=>t.State==s)=some t):=by
  intro r
  induction r with
  | nil =>
   intro n k h hn
   obtain ⟨n,rfl⟩:=pS n (by simp at hn;omega)
   refine ⟨-1,?_,?_,.inl ⟨rfl,rfl⟩⟩
   ·rw [Rn,ZK (Y2 h)];rfl
   ·rw [RH,ZK (Y2 h)];rfl
  | cons x r ih =>
   intro n k h hn
   obtain ⟨n,rfl⟩:=pS n (by simp at hn;omega)
   obtain ⟨hk,hx,hr⟩:=YU h
   simp only [Zg] at hn
   rw [Rn,RH,ZI hk,Zw,hx,ZH (by omega)]
   simp only [cT,bS,ZaQ,List.find?_cons]
   cases c:(x.State==s) with
   | true=>exact ⟨(k:Int),rfl,rfl,.inr ⟨k,x,rfl,hx,by simpa using c,rfl⟩⟩
   | false =>
    simp only [cond_false]
    exact ih n (k+1) hr (by omega)
 obtain ⟨z,e1,e2,hz⟩:=key m.Timeouts N 0 rfl (by omega)
 unfold DR GF MQ LB
 rw [hb,hr]
 simp only [bS,Zh,cond_false,cT]
 rw [dT (show s≥0 from s0),cT,dT s1]
 simp only [bS,Zh,cond_false]
 unfold BN z70
 rw [show (0:Int)=((0:Nat):Int) from rfl,e1,e2]
 simp only [bS]
 rcases hz with ⟨rfl,h⟩ | ⟨i,t,rfl,h1,h2,h3⟩
 ·exact ⟨_,_,rfl,rfl,h,fun h=>by cases h⟩
 ·rw [dF (show ¬ (i:Int) < ((0:Nat):Int) by omega),dT (show (i:Int)≥((0:Nat):Int) by omega),Zw,h1]
  exact ⟨t,true,rfl,rfl,h3,fun _=>⟨Zb h1,h2⟩⟩
end Gp
end
section
namespace Gp
open Go Go.Kx Gx
variable {N:Nat}
def WN (f:T4):List UInt8:=bs f.Name++[58,32]++(bif f.Sort'.Kind==2 then [116,101,120,116] else [105,110,116])++[32]++bs (XE f.Sort'.Lo)++[32,46,46,32]++bs (XE f.Sort'.Hi)
structure QG (f:T4):Prop where
 n:(bs f.Name).length≤4000000
 lo:XT f.Sort'.Lo
 hi:XT f.Sort'.Hi
theorem ZdP {f:T4} (h:QG f):(WN f).length≤4000100:=by
 have h1:=h.n
 have h2:=Vw f.Sort'.Lo
 have h3:=Vw f.Sort'.Hi
 unfold WN
 cases (f.Sort'.Kind==2)<;>simp<;>omega
theorem Ztd {f:T4} (h:QG f):DU N f=some (Zu (WN f)):=by
 have h1:=h.n
 have h2:=Vw f.Sort'.Lo
 have h3:=Vw f.Sort'.Hi
 have key:∀ k:List UInt8,k.length≤4→QQ N f (Zu k)=some (Zu (bs f.Name++[58,32]++k++[32]++bs (XE f.Sort'.Lo)++[32,46,46,32]++bs (XE f.Sort'.Hi))):=fun k hk=>by
  unfold QQ
  rw [VT h.lo,VT h.hi,show str [58,32]=Zu [58,32] from rfl,show str [32]=Zu [32] from rfl,show str [32,46,46,32]=Zu [32,46,46,32] from rfl]
  rw [Uz (by simp;omega),bS,ZS (by simp;omega),bS,ZS (by simp;omega),bS,bS,YE (by simp;omega),bS,ZS (by simp;omega),bS,bS,YE (by simp;omega),bS]
 unfold DU WN
 cases (f.Sort'.Kind==2)
 ·exact key [105,110,116] (by simp)
 ·exact key [116,101,120,116] (by simp)
def WS (sep:List UInt8) (l:List (List UInt8)):List UInt8:=(l.map (sep++·)).flatten
theorem Zaf (sep x:List UInt8) (l:List (List UInt8)):WS sep (x::l)=sep++x++WS sep l:=by unfold WS;simp
theorem ZfV {sep:List UInt8} {c:Nat}:∀ {l:List (List UInt8)},(∀ x∈l,x.length≤c)→(WS sep l).length≤l.length * (c+sep.length)
 | [],_=>by simp [WS]
 | x::l,h=>by
  have h1:=ZfV (sep:=sep) (l:=l) fun y hy=>h y (List.mem_cons_of_mem _ hy)
  have h2:=h x List.mem_cons_self
  rw [Zaf,Zg,Nat.add_mul]
  simp only [lA]
  omega
theorem MD {sep:List UInt8} {c:Nat} {l:List (List UInt8)} (h:∀ x∈l,x.length≤c):(Xr sep l).length≤l.length * (c+sep.length):=by
 cases l with
 | nil=>simp [Xr]
 | cons x l =>
  have h1:=ZfV (sep:=sep) (l:=l) fun y hy=>h y (List.mem_cons_of_mem _ hy)
  have h2:=h x List.mem_cons_self
  show (x++WS sep l).length≤_
  rw [Zg,Nat.add_mul,lA]
  omega
theorem Zdo {l:List (List UInt8)} {sep:List UInt8} (hl:l.length≤1000) (h:(Xr sep l).length≤140737488355328):TW N (l.map Zu) (Zu sep)=some (Zu (Xr sep l)):=by
  have e1:(Zu sep).data.toList=sep:=YQ _
  have e2:(l.map Zu).map (·.data.toList)=l:=by
    rw [List.map_map]
    conv=>rhs;rw [← List.map_id l]
    exact List.map_congr_left fun x _=>YQ x
  unfold TW
  rw [e1,e2,List.length_map,dT (show l.length≤140737488355328 by omega),dT h]
  rfl
theorem Zir (l:List T0) (label:Int) (x:T0):∀ (r:List T4) (n k:Nat) (acc:List ByteArray),x.Fields.drop k=r→r.length < n→k+r.length≤1000→acc.length+r.length≤1000→(∀ f∈r,QG f) →
  RU N l label x n acc (k:Int)=PO N l label x (acc++r.map fun f=>Zu (WN f))
 | [],n,k,acc,h,hn,hk,ha,hf=>by
  obtain ⟨n,rfl⟩:=pS n (by simp at hn;omega)
  rw [RU,ZK (Y2 h)]
  simp
 | f::r,n,k,acc,h,hn,hk,ha,hf=>by
  obtain ⟨n,rfl⟩:=pS n (by simp at hn;omega)
  obtain ⟨hi,hx,hr⟩:=YU h
  simp only [Zg] at hn hk ha
  rw [RU,ZI hi,Zw,hx,ZH (by omega)]
  simp only [cT,bS]
  rw [Ztd (hf f List.mem_cons_self),bS,YC (by simp;omega),bS]
  rw [Zir l label x r n (k+1) _ hr (by omega) (by omega) (by simp;omega) fun y hy=>hf y (List.mem_cons_of_mem _ hy)]
  simp
theorem ZjD (l:List T0) (label:Int) (x:T0) (v8:List ByteArray) (A:Nat→List UInt8) (T:Nat) (hT:T≤40) (hw:Zi ((x.Guard.Diffs.length:Int)+(x.Guard.Equals.length:Int))=(T:Int)) (hA:∀ i,i < T→z39 N l label (i:Int)=some (Zu (A i))) :
  ∀ (q n k:Nat) (acc:List ByteArray),T-k=q→q < n→acc.length+q≤1000→k≤T →
  Qr N l label x v8 n acc (k:Int)=Q1 N x v8 (acc++(List.range' k q).map fun i=>Zu (A i))
 | 0,n,k,acc,h,hn,ha,hk=>by
  obtain ⟨n,rfl⟩:=pS n (by omega)
  rw [Qr,hw,ZK (show T≤k by omega)]
  simp
 | q+1,n,k,acc,h,hn,ha,hk=>by
  obtain ⟨n,rfl⟩:=pS n (by omega)
  rw [Qr,hw,ZI (show k < T by omega),hA k (by omega),ZH (by omega)]
  simp only [cT,bS]
  rw [YC (by simp;omega),bS,ZjD l label x v8 A T hT hw hA q n (k+1) _ (by omega) (by omega) (by simp;omega) (by omega)]
  congr 1
  simp [List.range'_succ]
def M3 (nm:List UInt8) (F As:List (List UInt8)):List UInt8:=nm++[40]++Xr [44,32] F++[41]++match As with
 | []=>[]
 | a::r=>[32,119,104,101,114,101,32]++Xr [32,97,110,100,32] (a::r)
theorem Zmz (x:T0) (F As:List (List UInt8)) (hn:(bs x.Name).length≤4000000) (hF:F.length≤100) (hF2:∀ y∈F,y.length≤4000100) (hA:As.length≤100) (hA2:∀ y∈As,y.length≤67108864) :
  Q1 N x (F.map Zu) (As.map Zu)=some (Zu (M3 (bs x.Name) F As)):=by
 have h1:=MD (sep:=[44,32]) hF2
 have h2:=MD (sep:=[32,97,110,100,32]) hA2
 have g1:F.length * (4000100+2)≤100 * 4000102:=Nat.mul_le_mul hF (by decide)
 have g2:As.length * (67108864+5)≤100 * 67108869:=Nat.mul_le_mul hA (by decide)
 have h1:(Xr [44,32] F).length≤400010200:=Nat.le_trans h1 g1
 have h2:(Xr [32,97,110,100,32] As).length≤6710886900:=Nat.le_trans h2 g2
 unfold Q1 M3
 rw [show str [40]=Zu [40] from rfl,show str [41]=Zu [41] from rfl,show str [44,32]=Zu [44,32] from rfl,show str [32,97,110,100,32]=Zu [32,97,110,100,32] from rfl,show str [32,119,104,101,114,101,32]=Zu [32,119,104,101,114,101,32] from rfl]
 rw [Uz (by simp;omega),bS,Zdo (by omega) (by omega),bS,ZS (by simp;omega),bS,ZS (by simp;omega),bS]
 cases As with
 | nil=>simp
 | cons a r =>
  rw [dT (show (((a::r).map Zu).length:Int) > 0 by simp),cT,Zdo (by omega) (by omega),bS,ZS (by simp;omega),bS,ZS (by simp;omega),bS]
theorem Zjd (hN:4194304 < N) {f:T4} (h:QG f) {acc:List UInt8} (ha:acc.length≤4611686018427387904) (k:Int) (ag:ByteArray→Int→Option ByteArray) :
  Pp N k ag f (Zu acc)=ag (Zu (acc++WN f)) (Zi (k+1)):=by
 have h1:=h.n
 have h2:=Vw f.Sort'.Lo
 have h3:=Vw f.Sort'.Hi
 unfold Pp
 rw [show str [58,32]=Zu [58,32] from rfl,show str [116,101,120,116,32]=Zu [116,101,120,116,32] from rfl,show str [105,110,116,32]=Zu [105,110,116,32] from rfl]
 rw [Uz (by simp;omega),bS,ZS (by simp;omega),bS]
 have key:∀ z:List UInt8,z.length≤4611686018435387920→PH N k ag f (Zu z)=ag (Zu (z++(bs (XE f.Sort'.Lo)++[32,46,46,32]++bs (XE f.Sort'.Hi)))) (Zi (k+1)):=fun z hz=>by
  unfold PH
  rw [Un hN h.lo,Un hN h.hi,show str [32,46,46,32]=Zu [32,46,46,32] from rfl,bS,Uz (by simp;omega),bS,bS,YE (by simp;omega),bS,ZS (by simp;omega),bS]
 unfold WN
 cases (f.Sort'.Kind==2)
 ·rw [cond_false,ZS (by simp;omega),bS,key _ (by simp;omega)]
  simp
 ·rw [cT,ZS (by simp;omega),bS,key _ (by simp;omega)]
  simp
theorem ZfM (hN:4194304 < N) (l:List T0) (label:Int) (x:T0):∀ (r:List T4) (n k:Nat) (acc:List UInt8),0 < k→x.Fields.drop k=r→r.length < n→k+r.length≤1000→acc.length+r.length * 4000102≤4611686018427387904→(∀ f∈r,QG f) →
  WQ N l label x n (Zu acc) (k:Int)=SA N l label x (Zu (acc++WS [44,32] (r.map WN)))
 | [],n,k,acc,h0,h,hn,hk,ha,hf=>by
  obtain ⟨n,rfl⟩:=pS n (by simp at hn;omega)
  rw [WQ,ZK (Y2 h)]
  simp [WS]
 | f::r,n,k,acc,h0,h,hn,hk,ha,hf=>by
  obtain ⟨n,rfl⟩:=pS n (by simp at hn;omega)
  obtain ⟨hi,hx,hr⟩:=YU h
  simp only [Zg] at hn hk ha
  have hl:=ZdP (hf f List.mem_cons_self)
  rw [WQ,ZI hi,Zw,hx,dT (show (k:Int) > 0 by omega)]
  simp only [cT,bS]
  rw [show str [44,32]=Zu [44,32] from rfl,ZS (by simp;omega),bS,Zjd hN (hf f List.mem_cons_self) (by simp;omega),ZH (by omega)]
  rw [ZfM hN l label x r n (k+1) _ (by omega) hr (by omega) (by omega) (by simp;omega) fun y hy=>hf y (List.mem_cons_of_mem _ hy)]
  rw [List.map_cons,Zaf]
  simp
theorem Zlv (hN:4194304 < N) (l:List T0) (label:Int) (x:T0) (hl:x.Fields.length≤100) (hf:∀ f∈x.Fields,QG f) {acc:List UInt8} (ha:acc.length≤4000010) :
  WQ N l label x N (Zu acc) 0=SA N l label x (Zu (acc++Xr [44,32] (x.Fields.map WN))):=by
 obtain ⟨M,rfl⟩:∃ z,N=z+1:=⟨N-1,by omega⟩
 rw [show (0:Int)=((0:Nat):Int) from rfl]
 cases hx:x.Fields with
 | nil =>
  rw [WQ,hx,ZK (by simp)]
  simp [Xr]
 | cons f r =>
  rw [hx] at hf hl
  simp only [Zg] at hl
  have hfl:=ZdP (hf f List.mem_cons_self)
  rw [WQ,hx,ZI (by simp),Zw]
  simp only [List.getElem?_cons_zero,cT,bS]
  rw [dF (show ¬ ((0:Nat):Int) > 0 by omega),cond_false,Zjd hN (hf f List.mem_cons_self) (by omega),ZH (by omega)]
  rw [ZfM hN l label x r M 1 _ (by omega) (by rw [hx];rfl) (by omega) (by omega) (by simp;omega) fun y hy=>hf y (List.mem_cons_of_mem _ hy)]
  show _=SA (M+1) l label x (Zu (acc++(WN f++WS [44,32] (r.map WN))))
  simp
theorem Zft (l:List T0) (label:Int) (x:T0) (A:Nat→List UInt8) (T:Nat) (hT:T≤40) (hp:Vr N x=some (T:Int)) (hA:∀ i,i < T→VG N l label (i:Int)=some (Zu (A i))∧(A i).length≤67108864) :
  ∀ (q n k:Nat) (acc:List UInt8),0 < k→T-k=q→q < n→acc.length+q * 67108869≤4611686018427387904→k≤T →
  TA N l label x n (Zu acc) (k:Int)=some (Zu (acc++WS [32,97,110,100,32] ((List.range' k q).map A)))
 | 0,n,k,acc,h0,h,hn,ha,hk=>by
  obtain ⟨n,rfl⟩:=pS n (by omega)
  rw [TA,hp,bS,ZK (show T≤k by omega)]
  simp [WS,Md]
 | q+1,n,k,acc,h0,h,hn,ha,hk=>by
  obtain ⟨n,rfl⟩:=pS n (by omega)
  obtain ⟨a1,a2⟩:=hA k (by omega)
  rw [TA,hp,bS,ZI (show k < T by omega),a1,ZH (by omega),show ((k:Int)==0)=false by simp;omega,show str [32,97,110,100,32]=Zu [32,97,110,100,32] from rfl]
  simp only [cT,cond_false]
  rw [ZS (by simp;omega),bS,bS,ZS (by simp;omega),bS]
  rw [Zft l label x A T hT hp hA q n (k+1) _ (by omega) (by omega) (by omega) (by simp;omega) (by omega)]
  rw [List.range'_succ,List.map_cons,Zaf]
  simp
theorem ZlC (hN:4194304 < N) (l:List T0) (label:Int) (x:T0) (A:Nat→List UInt8) (T:Nat) (hT:T≤40) (hp:Vr N x=some (T:Int)) (hA:∀ i,i < T→VG N l label (i:Int)=some (Zu (A i))∧(A i).length≤67108864) {nm:List UInt8} {F:List (List UInt8)} (hl:(nm++[40]++Xr [44,32] F).length≤1000000000) :
  SA N l label x (Zu (nm++[40]++Xr [44,32] F))=some (Zu (M3 nm F ((List.range T).map A))):=by
 obtain ⟨M,rfl⟩:∃ z,N=z+1:=⟨N-1,by omega⟩
 unfold SA M3
 rw [show str [41]=Zu [41] from rfl,ZS (by simp only [List.length_singleton];omega),bS,show (0:Int)=((0:Nat):Int) from rfl,TA,hp,bS]
 cases T with
 | zero =>
  rw [ZK (Nat.le_refl _)]
  simp [Md]
 | succ T =>
  obtain ⟨a1,a2⟩:=hA 0 (by omega)
  rw [ZI (by omega),a1,ZH (by omega),show (((0:Nat):Int)==0)=true from rfl,show str [32,119,104,101,114,101,32]=Zu [32,119,104,101,114,101,32] from rfl]
  simp only [cT]
  rw [ZS (by simp only [lA,Zg,List.length_nil] at hl ⊢;omega),bS,bS,ZS (by simp only [lA,Zg,List.length_nil] at hl ⊢;omega),bS]
  rw [Zft l label x A (T+1) hT hp hA T M (0+1) _ (by omega) (by omega) (by omega) (by simp only [lA,Zg,List.length_nil] at hl ⊢;omega) (by omega)]
  have e:(List.range (T+1)).map A=A 0::(List.range' 1 T).map A:=by
   rw [List.range_eq_range',List.range'_succ,List.map_cons]
  rw [e]
  show some (Zu _)=some (Zu (_++([32,119,104,101,114,101,32]++(A 0++WS [32,97,110,100,32] ((List.range' 1 T).map A)))))
  simp
theorem ZhF:∀ {l:List T0} {x:T0},x∈l→x.Fields.length≤(Zx l).length
 | [],x,h=>by cases h
 | y::l,x,h=>by
  rw [Sh,lA]
  rcases List.mem_cons.1 h with rfl | h
  ·omega
  ·have:=ZhF h;omega
theorem Zpf {s:Yb} (h:XK s):XT s.Lo∧XT s.Hi:=by
 rcases h with ⟨_,h1,h2,h3⟩ | ⟨_,h1,h2,h3⟩<;>exact ⟨⟨by omega,by omega⟩,by omega,by omega⟩
theorem ZrQ (hN:4194304 < N) (l:List T0) (hl:l.length≤1000) (hd:∀ x∈l,Xt x) (hnm:∀ x∈l,W6 x) (label:Int) :
  ∃ s:List UInt8,s.length≤8000000000∧M9 N l label=some (Zu s)∧Lq N l label=some (Zu s):=by
 have none':∃ s:List UInt8,s.length≤8000000000∧some (str [])=some (Zu s)∧some (str [])=some (Zu s):=⟨[],by simp,rfl,rfl⟩
 have hat:=fun part hp=>ZgM (N:=N) hN l hl hd hnm (at':=label) (part:=part) hp
 unfold M9 Lq z37
 rw [Zb2 hN l (by omega) hd hnm,Zae hN l (by omega) hd hnm]
 simp only [bS]
 by_cases c1:label < 0
 ·rw [dT c1]
  cases Yi l<;>exact none'
 rw [dF c1]
 by_cases c2:label≥(l.length:Int)
 ·rw [dT c2]
  cases Yi l<;>exact none'
 rw [dF c2]
 simp only [cond_false]
 cases hv:Yi l with
 | false=>exact none'
 | true =>
 obtain ⟨k,rfl⟩:=Ze (show 0≤label by omega)
 have hk:k < l.length:=by omega
 have hg:=Za hk
 generalize hy:l[k]=y at hg
 have hmem:=Zb hg
 obtain ⟨r,er⟩:=ZjE hN y (hd y hmem)
 have e0:((0:Int) != 0)=false:=rfl
 simp only [Zh,cond_false,Zw,hg,bS,er,e0]
 have hgv:ZR (Zx l) y.Guard=true:=by
  obtain ⟨_,_,_,_,_,h2⟩:=Tf hv hg
  exact L2 h2
 have hin:=Gy hgv
 have h1:=hin.dl
 have h2:=hin.el
 have hfl:=(Th hv).2
 have hfy:=ZhF hmem
 have hny:=(hnm y hmem).n
 have hfo:∀ f∈y.Fields,QG f:=fun f hf=>by
  have hs:=Zpf (Gh hv hmem hf)
  exact ⟨by rw [← Yd];exact (hnm y hmem).f f hf,hs.1,hs.2⟩
 let T:=y.Guard.Diffs.length+y.Guard.Equals.length
 have hT:T≤40:=by show _+_≤_;omega
 have hpp:Vr N y=some (T:Int):=by
  unfold Vr
  rw [YD (by omega) (by omega)]
  congr 1
 have hw:Zi ((y.Guard.Diffs.length:Int)+(y.Guard.Equals.length:Int))=(T:Int):=by
  rw [YD (by omega) (by omega)];show _=((_+_:Nat):Int);omega
 have hA0:∀ i:Nat,∃ s:List UInt8,i < T→s.length≤67108864∧z39 N l (k:Int) (i:Int)=some (Zu s)∧VG N l (k:Int) (i:Int)=some (Zu s):=fun i=>by
  by_cases hi:i < T
  ·obtain ⟨s,h⟩:=hat (i:Int) ⟨by omega,by omega⟩
   exact ⟨s,fun _=>h⟩
  ·exact ⟨[],fun h=>absurd h hi⟩
 let A:Nat→List UInt8:=fun i=>(hA0 i).choose
 have hA:∀ i,i < T→(A i).length≤67108864∧z39 N l (k:Int) (i:Int)=some (Zu (A i))∧VG N l (k:Int) (i:Int)=some (Zu (A i)):=fun i hi=>(hA0 i).choose_spec hi
 have hAl:∀ z∈(List.range T).map A,z.length≤67108864:=fun z hz=>by
  obtain ⟨i,hi,rfl⟩:=List.mem_map.1 hz
  exact (hA i (List.mem_range.1 hi)).1
 have hFl:∀ z∈y.Fields.map WN,z.length≤4000100:=fun z hz=>by
  obtain ⟨f,hf,rfl⟩:=List.mem_map.1 hz
  exact ZdP (hfo f hf)
 have hnb:(bs y.Name).length≤4000000:=by rw [← Yd];exact hny
 have j1:=MD (sep:=[44,32]) hFl
 have j2:=MD (sep:=[32,97,110,100,32]) hAl
 simp only [List.length_map,List.length_range,Zg,List.length_nil] at j1 j2
 have g1:y.Fields.length * (4000100+(0+1+1))≤24 * 4000102:=Nat.mul_le_mul (by omega) (by decide)
 have g2:T * (67108864+(0+1+1+1+1+1))≤40 * 67108869:=Nat.mul_le_mul hT (by decide)
 refine ⟨M3 (bs y.Name) (y.Fields.map WN) ((List.range T).map A),?_,?_,?_⟩
 ·unfold M3
  simp only [lA,Zg,List.length_nil]
  cases hc:(List.range T).map A with
  | nil=>simp only [List.length_nil];omega
  | cons a q =>
   rw [hc] at j2
   simp only [lA,Zg,List.length_nil]
   omega
 ·have:=Zir (N:=N) l (k:Int) y y.Fields N 0 [] rfl (by omega) (by omega) (by simp;omega) hfo
  rw [show (0:Int)=((0:Nat):Int) from rfl,this]
  unfold PO
  have:=ZjD (N:=N) l (k:Int) y ([]++y.Fields.map fun f=>Zu (WN f)) A T hT hw (fun i hi=>(hA i hi).2.1) T N 0 [] (by omega) (by omega) (by simp;omega) (by omega)
  rw [show (0:Int)=((0:Nat):Int) from rfl,this]
  have e1:([]++y.Fields.map fun f=>Zu (WN f))=(y.Fields.map WN).map Zu:=by simp
  have e2:([]++(List.range' 0 T).map fun i=>Zu (A i))=((List.range T).map A).map Zu:=by simp [List.range_eq_range']
  rw [e1,e2]
  exact Zmz y _ _ hnb (by simp;omega) hFl (by simp;omega) hAl
 ·rw [show str [40]=Zu [40] from rfl,Uz (by simp;omega),bS,Zlv hN l (k:Int) y (by omega) hfo (by simp;omega)]
  exact ZlC hN l (k:Int) y A T hT hpp (fun i hi=>⟨(hA i hi).2.2,(hA i hi).1⟩) (by simp only [lA,Zg,List.length_nil];omega)
end Gp
end
section
namespace Gp
open Go Go.Kx Gx
variable {N:Nat} {g:T5} {m:T8}
structure Hu (N:Nat) (g:T5) (m:T8):Prop where
 c:Y7 N g m
 x:Gf g m
 mb:Tm N m=some true
 rb:TO N m=some true
theorem Zix (c:Y7 N g m) (hn:Xi g):Hu N g m:=by
 obtain ⟨b,e,f,h⟩:=Qf c.hN g c.gg c.ss hn m c.t
 rw [c.e] at e
 cases e
 obtain ⟨b2,e2,f2,h2⟩:=Zhz c.hN m c.t
 have hx:=h rfl
 refine ⟨c,hx,?_,?_⟩
 ·cases b2 with
  | true=>exact e2
  | false =>
   exfalso
   have:=c.e
   unfold Vb at this
   obtain ⟨b1,e1,_,_⟩:=Zeb c.hN g c.gg c.ss hn
   rw [e1,e2] at this
   cases b1<;>simp at this
 ·cases b2 with
  | true=>exact f2
  | false =>
   exfalso
   unfold z51 at f
   obtain ⟨b1,_,f1,_⟩:=Zeb c.hN g c.gg c.ss hn
   rw [f1,f2] at f
   cases b1<;>simp at f
def Zsj (s:ByteArray):Prop:=(∃ t,bs s=[115,101,110,100,32]++t)∨∃ t,bs s=[114,101,99,101,105,118,101,32]++t
structure Hz (s:ByteArray):Prop where
 ge:8≤(bs s).length
 len:(bs s).length≤8100000000
 st:Zsj s
theorem Zj9 (c:Hu N g m) (st:Int) (L:List Int) (hL:∀ a∈L,∃ (k:Nat) (x:T9),a=(k:Int)∧m.Moves[k]? = some x):∀ (r:List Int) (n k:Nat) (acc:List ByteArray),L.drop k=r→r.length < n→k+r.length≤1000→acc.length+r.length≤1000 →
  ∃ v:List ByteArray,v.length=r.length∧(∀ s∈v,Hz s)∧UE N g m st L n acc (k:Int)=RX N g m st (acc++v)∧Up N g m st L n acc (k:Int)=Qb N g m st (acc++v)
 | [],n,k,acc,h,hn,hk,ha=>by
  obtain ⟨n,rfl⟩:=pS n (by simp at hn;omega)
  refine ⟨[],rfl,by simp,?_,?_⟩
  ·rw [UE,ZK (Y2 h)];simp
  ·rw [Up,ZK (Y2 h)];simp
 | a::r,n,k,acc,h,hn,hk,ha=>by
  obtain ⟨n,rfl⟩:=pS n (by simp at hn;omega)
  obtain ⟨hi,hx,hr⟩:=YU h
  simp only [Zg] at hn hk ha
  have hN:=c.c.hN
  obtain ⟨q,y,rfl,hy⟩:=hL a (Zb hx)
  have hmem:=Zb hy
  obtain ⟨_,_,⟨p0,_⟩,_,l0,_⟩:=c.x.mv.n.mv y hmem
  have p1:=c.x.p y hmem
  have l1:=c.x.a.l y hmem
  obtain ⟨pn,hpn⟩:=Ze p0
  obtain ⟨ln,hln⟩:=Ze l0
  have hp:=Za (show pn < g.Roles.length by omega)
  have hl:=Za (show ln < g.Decls.length by omega)
  generalize hR:g.Roles[pn]=role at hp
  generalize hD:g.Decls[ln]=d at hl
  have hrs:(bs role).length≤4000000:=by rw [← Yd];exact c.c.ss.r role (Zb hp)
  have hds:(bs d.Name).length≤4000000:=by rw [← Yd];exact (c.c.ss.d d (Zb hl)).n
  obtain ⟨s,s1,s2,s3⟩:=ZrQ hN g.Decls (by have:=(Th c.c.a.v).1;omega) c.c.gg.dd c.c.ss.d y.Label
  rw [UE,Up,ZI hi,Zw,hx,ZH (by omega)]
  simp only [cT,bS,Zw,hy]
  rw [s2,s3]
  simp only [hpn,hln,Zw,hp,hl,bS]
  rw [show str [115,101,110,100,32]=Zu [115,101,110,100,32] from rfl,show str [114,101,99,101,105,118,101,32]=Zu [114,101,99,101,105,118,101,32] from rfl,show str [32,116,111,32]=Zu [32,116,111,32] from rfl,show str [32,102,114,111,109,32]=Zu [32,102,114,111,109,32] from rfl,show str [32,97,103,97,105,110,32,116,111,32]=Zu [32,97,103,97,105,110,32,116,111,32] from rfl]
  have go:∀ z:List UInt8,Hz (Zu z)→∃ v:List ByteArray,v.length=r.length+1∧(∀ s∈v,Hz s)∧((Z7 acc [Zu z]).bind fun x=>UE N g m st L n x ((k+1:Nat):Int))=RX N g m st (acc++v)∧((Z7 acc [Zu z]).bind fun x=>Up N g m st L n x ((k+1:Nat):Int))=Qb N g m st (acc++v):=fun z hz=>by
   obtain ⟨v,v1,v2,v3,v4⟩:=Zj9 c st L hL r n (k+1) (acc++[Zu z]) hr (by omega) (by omega) (by simp;omega)
   rw [YC (by simp;omega)]
   refine ⟨Zu z::v,by simp [v1],fun s hs=>?_,?_,?_⟩
   ·rcases List.mem_cons.1 hs with rfl | hs
    ·exact hz
    ·exact v2 s hs
   ·rw [bS,v3];simp
   ·rw [bS,v4];simp
  cases y.Again with
  | true =>
   simp only [cT]
   rw [YE (by simp;omega)]
   simp only [bS]
   rw [ZS (by simp;omega)]
   simp only [bS]
   rw [YE (by simp;omega)]
   simp only [bS]
   exact go ([115,101,110,100,32]++bs d.Name++[32,97,103,97,105,110,32,116,111,32]++bs role) ⟨by rw [YQ];simp<;>omega,by rw [YQ];simp<;>omega,.inl ⟨bs d.Name++[32,97,103,97,105,110,32,116,111,32]++bs role,by rw [YQ];simp⟩⟩
  | false =>
   simp only [cond_false]
   cases y.Send with
   | true =>
    simp only [cT]
    rw [ZS (by simp;omega)]
    simp only [bS]
    rw [ZS (by simp;omega)]
    simp only [bS]
    rw [YE (by simp;omega)]
    simp only [bS]
    exact go ([115,101,110,100,32]++s++[32,116,111,32]++bs role) ⟨by rw [YQ];simp<;>omega,by rw [YQ];simp<;>omega,.inl ⟨s++[32,116,111,32]++bs role,by rw [YQ];simp⟩⟩
   | false =>
    simp only [cond_false]
    rw [ZS (by simp;omega)]
    simp only [bS]
    rw [ZS (by simp;omega)]
    simp only [bS]
    rw [YE (by simp;omega)]
    simp only [bS]
    exact go ([114,101,99,101,105,118,101,32]++s++[32,102,114,111,109,32]++bs role) ⟨by rw [YQ];simp<;>omega,by rw [YQ];simp<;>omega,.inr ⟨s++[32,102,114,111,109,32]++bs role,by rw [YQ];simp⟩⟩
def TH (b:Bool):Nat:=bif b then 1 else 0
def LF (m:T8) (s:Int):Bool:=(idx m.Finals s).getD false
theorem ZnK (hv:Rr m) {t:Yj} (ht:t∈m.Timeouts):XT t.Ticks∧∃ (k:Nat) (y:T9),t.Else=(k:Int)∧m.Moves[k]? = some y:=by
 have h:=hv.tm
 rw [XM] at h
 obtain ⟨i,hi⟩:=List.getElem?_of_mem ht
 have:=h i t hi
 unfold V2 at this
 simp only [Zc,decide_eq_true_eq] at this
 obtain ⟨⟨⟨h1,h2,h3,h4⟩,_⟩,_⟩:=this
 obtain ⟨k,hk⟩:=Ze h3
 exact ⟨⟨by omega,by omega⟩,k,_,hk,Za (show k < m.Moves.length by omega)⟩
theorem Zo6 (c:Hu N g m) {st:Int} (s0:0≤st) (s1:st < m.States) (v:List ByteArray) (hv:v.length≤1000) :
  ∃ w:List ByteArray,w.length=TH (LB m.Timeouts st).isSome+TH (LF m st)∧(∀ s∈w,(bs s).length≤8100000000∧bs s≠[])∧RX N g m st v=some (v++w)∧Qb N g m st v=some (v++w,0):=by
 have hN:=c.c.hN
 have hmv:=c.x.mv
 obtain ⟨t,b,e1,e2,e3,e4⟩:=Zql hN c.c.t c.mb c.rb s0 s1
 obtain ⟨sn,rfl⟩:=Ze s0
 have hf:=hmv.n.f
 have hfin:=Za (show sn < m.Finals.length by omega)
 generalize hF:m.Finals[sn]=fin at hfin
 have hfv:LF m (sn:Int)=fin:=by unfold LF;rw [Zw,hfin];rfl
 rw [hfv]
 have last:∀ u:List ByteArray,u.length≤1010→∃ w:List ByteArray,w.length=TH fin∧(∀ s∈w,(bs s).length≤8100000000∧bs s≠[])∧(bif fin then ((Z7 u ([(str [116,104,101,32,101,110,100])]:List ByteArray)).bind fun x=>some x) else some u)=some (u++w)∧(bif fin then ((Z7 u ([(str [116,104,101,32,101,110,100])]:List ByteArray)).bind fun x=>some (x,(0:Int))) else some (u,(0:Int)))=some (u++w,0):=fun u hu=>by
  cases fin with
  | false=>exact ⟨[],rfl,by simp,by simp,by simp⟩
  | true =>
   rw [YC (by simp;omega)]
   refine ⟨[str [116,104,101,32,101,110,100]],rfl,fun s hs=>?_,rfl,rfl⟩
   rw [List.mem_singleton.1 hs]
   have e:bs (str [116,104,101,32,101,110,100])=[116,104,101,32,101,110,100]:=rfl
   rw [e];exact ⟨by simp,by simp⟩
 unfold RX Qb
 rw [e1,e2,e3]
 simp only [bS]
 cases b with
 | false =>
  simp only [cond_false,Zw,hfin,bS]
  obtain ⟨w,w1,w2,w3,w4⟩:=last v (by omega)
  exact ⟨w,by rw [w1];simp [TH],w2,w3,w4⟩
 | true =>
  obtain ⟨ht,_⟩:=e4 rfl
  obtain ⟨hi,k,y,hk,hy⟩:=ZnK hmv ht
  have hmem:=Zb hy
  obtain ⟨_,_,⟨p0,_⟩,_,l0,_⟩:=hmv.n.mv y hmem
  have p1:=c.x.p y hmem
  have l1:=c.x.a.l y hmem
  obtain ⟨pn,hpn⟩:=Ze p0
  obtain ⟨ln,hln⟩:=Ze l0
  have hp:=Za (show pn < g.Roles.length by omega)
  have hl:=Za (show ln < g.Decls.length by omega)
  generalize hR:g.Roles[pn]=role at hp
  generalize hD:g.Decls[ln]=d at hl
  have hrs:(bs role).length≤4000000:=by rw [← Yd];exact c.c.ss.r role (Zb hp)
  have hds:(bs d.Name).length≤4000000:=by rw [← Yd];exact (c.c.ss.d d (Zb hl)).n
  have hit:=Vw t.Ticks
  simp only [cT,hk,Zw,hy,bS]
  rw [VT hi,Un hN hi]
  simp only [bS,hpn,hln,Zw,hp,hl,hfin]
  rw [show str [119,105,116,104,105,110,32]=Zu [119,105,116,104,105,110,32] from rfl,show str [32,116,105,99,107,115,44,32,111,116,104,101,114,119,105,115,101,32]=Zu [32,116,105,99,107,115,44,32,111,116,104,101,114,119,105,115,101,32] from rfl,show str [32,116,111,32]=Zu [32,116,111,32] from rfl]
  rw [YE (by simp;omega)]
  simp only [bS]
  rw [ZS (by simp;omega)]
  simp only [bS]
  rw [YE (by simp;omega)]
  simp only [bS]
  rw [ZS (by simp;omega)]
  simp only [bS]
  rw [YE (by simp;omega)]
  simp only [bS]
  rw [YC (by simp;omega)]
  simp only [bS]
  generalize hz:([119,105,116,104,105,110,32]++bs (XE t.Ticks)++[32,116,105,99,107,115,44,32,111,116,104,101,114,119,105,115,101,32]++bs d.Name++[32,116,111,32]++bs role:List UInt8)=z
  have hzl:z.length≤8100000000∧z≠[]:=by
   rw [← hz]
   refine ⟨by simp;omega,by simp⟩
  obtain ⟨w,w1,w2,w3,w4⟩:=last (v++[Zu z]) (by simp;omega)
  refine ⟨Zu z::w,by simp [w1,TH];omega,fun s hs=>?_,?_,?_⟩
  ·rcases List.mem_cons.1 hs with rfl | hs
   ·rw [YQ];exact hzl
   ·exact w2 s hs
  ·rw [w3];simp
  ·rw [w4];simp
theorem ZiC (c:Hu N g m) {st:Int} (s0:0≤st) (s1:st < m.States) :
  ∃ (L:List Int) (v w:List ByteArray),MovesAre m st m.Moves.length L∧L.length=(YB m m.Moves.length st.toNat).length∧v.length=L.length∧(∀ s∈v,Hz s)∧w.length=TH (LB m.Timeouts st).isSome+TH (LF m st)∧(∀ s∈w,(bs s).length≤8100000000∧bs s≠[]) ∧
   z31 N g m st=some (v++w)∧((Mc N m st).bind fun x3=>Up N g m st x3 N ([]:List ByteArray) (0:Int))=some (v++w,0):=by
 have hN:=c.c.hN
 have hmv:=c.x.mv
 obtain ⟨L,e1,e2,hL,hLc⟩:=ZrC hN c.c.t hmv c.rb s0 s1
 have hml:=hmv.n.n
 have hLl:=hL.len
 obtain ⟨v,v1,v2,v3,v4⟩:=Zj9 c st L (fun a ha=>by obtain ⟨k,x,h1,_,h2,_⟩:=(hL.mem a).1 ha;exact ⟨k,x,h1,h2⟩) L N 0 [] rfl (by omega) (by omega) (by simp;omega)
 obtain ⟨w,w1,w2,w3,w4⟩:=Zo6 c s0 s1 v (by omega)
 refine ⟨L,v,w,hL,hLc,v1,v2,w1,w2,?_,?_⟩
 ·unfold z31
  rw [e1,bS,show (0:Int)=((0:Nat):Int) from rfl,v3,List.nil_append,w3]
 ·rw [e2,bS,show (0:Int)=((0:Nat):Int) from rfl,v4,List.nil_append,w4];rfl
theorem ZfA (c:Y7 N g m) (hn:Xi g):QH N g m=some true∧((Vc N g m).bind fun x1=>UB N g m x1)=some true:=by
 have hS:=TX c
 refine ⟨?_,?_⟩
 ·unfold QH
  rw [ZfU c,bS,Zga c hS];rfl
 ·rw [ZgH c hn,bS,Zi2 c hn hS]
theorem Ztc (hN:4194304 < N) (hg:XI g) (hs:XV g) (hn:Xi g) (ht:m.Timeouts.length≤4194304) (h:Vb N g m=some false):QH N g m=some false∧((Vc N g m).bind fun x1=>UB N g m x1)=some false:=by
 obtain ⟨b,e,f,_⟩:=Qf hN g hg hs hn m ht
 rw [h] at e
 cases e
 refine ⟨?_,?_⟩
 ·unfold QH z24
  rw [h]
  simp only [bS]
  have:∀ s,z46 N g m s=some false:=fun s=>by
   unfold z46
   rw [h];rfl
  show ((some _).bind _).bind _=_
  simp only [bS,Bool.not_false,cT,this]
 ·unfold Vc UB
  rw [f]
  simp only [bS,Bool.not_false,cT,cond_false]
theorem ZpH (hN:4194304 < N) (hg:XI g) (hs:XV g) (hn:Xi g) (ht:m.Timeouts.length≤4194304) (st:Int) :
  (UL N g m st=some ([],1)∧TT N g m st=some ([],1)) ∨
  ∃ (L:List Int) (v w:List ByteArray),Hu N g m∧0≤st∧st < m.States∧MovesAre m st m.Moves.length L∧L.length=(YB m m.Moves.length st.toNat).length∧v.length=L.length∧(∀ s∈v,Hz s)∧w.length=TH (LB m.Timeouts st).isSome+TH (LF m st)∧(∀ s∈w,(bs s).length≤8100000000∧bs s≠[]) ∧
   z31 N g m st=some (v++w)∧UL N g m st=some (v++w,0)∧TT N g m st=some (v++w,0):=by
 obtain ⟨b,e,hb⟩:=LA hN g hg hs m ht
 cases b with
 | false =>
  obtain ⟨h1,h2⟩:=Ztc hN hg hs hn ht e
  refine .inl ⟨?_,?_⟩
  ·unfold UL
   rw [h1];rfl
  ·unfold TT
   cases hq:Vc N g m with
   | none=>rw [hq] at h2;cases h2
   | some q =>
    rw [hq] at h2
    simp only [bS] at h2 ⊢
    rw [h2];rfl
 | true =>
  have c:Y7 N g m:=⟨hN,hg,hs,ht,hb rfl,e⟩
  have cx:=Zix c hn
  obtain ⟨h1,h2⟩:=ZfA c hn
  have e1:∀ {A:Type} (f:Bool→Option A),((Vc N g m).bind fun x1=>(UB N g m x1).bind f)=f true:=fun f=>by
   rw [← Option.bind_assoc,h2];rfl
  by_cases c0:st < 0
  ·refine .inl ⟨?_,?_⟩
   ·unfold UL
    rw [h1,dT c0];rfl
   ·unfold TT
    rw [e1,dT c0];rfl
  by_cases c1:st≥m.States
  ·refine .inl ⟨?_,?_⟩
   ·unfold UL
    rw [h1,dF c0,dT c1];rfl
   ·unfold TT
    rw [e1,dF c0,dT c1];rfl
  obtain ⟨L,v,w,a1,a1c,a2,a3,a4,a5,a6,a7⟩:=ZiC cx (show 0≤st by omega) (by omega)
  refine .inr ⟨L,v,w,cx,by omega,by omega,a1,a1c,a2,a3,a4,a5,a6,?_,?_⟩
  ·unfold UL
   rw [h1,dF c0,dF c1,a6];rfl
  ·unfold TT
   rw [e1,dF c0,dF c1]
   simp only [Zh,cond_false]
   exact a7
end Gp
end
section
namespace Gp
open Go Go.Kx Gx
variable {N:Nat} {g:T5} {m:T8}
end Gp
end
section
namespace Gp
open Go Go.Kx Gx
variable {N:Nat} {g:T5} {m:T8}
theorem Zhe {f:ZJ→T3→ZJ × Int} (r:List T3):∀ (h:List T3) (s:ZJ) (k:Nat),(XF f h s k).2.2≠0→XF f (h++r) s k=XF f h s k
 | [],s,k,hne=>absurd rfl hne
 | x::h,s,k,hne=>by
  show XF f (x::(h++r)) s k=_
  rw [XF,XF] at *
  cases c:((f s x).2 != 0) with
  | true=>rfl
  | false =>
   rw [c] at hne
   exact Zhe r h _ _ hne
theorem Zkn (hN:4194304 < N) (hg:XI g) (hs:XV g) (hn:Xi g) (ht:m.Timeouts.length≤4194304) (l:List T3) (hl:l.length≤4194304) (he:∀ x∈l,XO x) (hso:∀ x∈l,ShowOk g x) :
  (∃ (t:ZJ) (j e:Int),X6 N g m l=some (t,j,e)∧(e=0∨e=1)∧Qg N g m l=some (str [],e)∧z45 N g m l=some (str [],e)) ∨
  (∃ (t:ZJ) (j e:Int) (z:List UInt8),X6 N g m l=some (t,j,e)∧e≠0∧e≠1∧z.length≤35184900000000∧z≠[]∧Qg N g m l=some (Zu z,0)∧z45 N g m l=some (Zu z,0)):=by
 rcases Zh0 hN hg hs hn ht l hl he with ⟨t,j,e,r1,r2,h1⟩ | ⟨t,j,x,e,k,p,c,_,r1,r2,r3,_,_,_,_,_,_,h1⟩
 ·rcases ZhD hN hg hs hn ht l hl he with ⟨e',g1,g2⟩ | ⟨t',j',x',e',k',p',r',_,_,_,g1,g2⟩
  ·rw [h1] at g1
   cases g1
   refine .inl ⟨t,j,e,r1,r2,?_,?_⟩
   ·unfold Qg
    rw [h1]
    simp only [bS]
    cases (e != 0)<;>rfl
   ·unfold z45
    rw [g2];rfl
  ·rw [h1] at g1
   simp only [Option.some.injEq,Prod.mk.injEq] at g1
   cases g1.2.1
 ·rcases ZhD hN hg hs hn ht l hl he with ⟨e',g1,g2⟩ | ⟨t',j',x',e',k',p',r',c',hx,hk,g1,g2⟩
  ·rw [h1] at g1
   simp only [Option.some.injEq,Prod.mk.injEq] at g1
   cases g1.2.1
  ·have hxs:=he x' (Zb hx)
   have hS:=hso x' (Zb hx)
   have hsl:=Zqq hS
   obtain ⟨R,b1,b2,b3⟩:=Zqi c' hS hk (Zq4 c' hxs.l hk) (j':Int) r' (S:=Rh g x'++[32]) (by simp;omega)
   refine .inr ⟨t,j,e,Rh g x'++[32]++R,r1,r2,r3,by simp;omega,by simp,?_,?_⟩
   ·unfold Qg
    rw [g1]
    have b0:((0:Int) != 0)=false:=rfl
    simp only [bS,b0,Zh,cond_false,Zw,hx]
    rw [ZlY hN hS,bS,show str [32]=Zu [32] from rfl,ZS (by simp;omega),bS,b2,bS,ZS (by simp;omega),bS]
   ·unfold z45
    rw [g2]
    simp only [bS,Zh,cond_false,Zw,hx]
    rw [ZrP hN hS,bS,show str [32]=Zu [32] from rfl,ZS (by simp;omega),bS]
    exact b3
def Qy (u:List ByteArray):List UInt8:=match u with
 | []=>[110,111,116,104,105,110,103]
 | s::r=>Xr [59,32] ((s::r).map bs)
def PERM:List UInt8:=[59,32,112,101,114,109,105,116,116,101,100,58,32]
theorem Zkt (u:List ByteArray):(u.map bs).map Zu=u:=by
 rw [List.map_map]
 conv=>rhs;rw [← List.map_id u]
 exact List.map_congr_left fun s _=>Ln s
theorem Zjy (u:List ByteArray):∀ (r:List ByteArray) (n k:Nat) (acc:List UInt8),0 < k→u.drop k=r→r.length < n→k+r.length≤1000→(∀ s∈r,(bs s).length≤8100000000)→acc.length+r.length * 8100000002≤4611686018427387904 →
  Uw u n (Zu acc) (k:Int)=some (Zu (acc++WS [59,32] (r.map bs)),0)
 | [],n,k,acc,h0,h,hn,hk,hs,ha=>by
  obtain ⟨n,rfl⟩:=pS n (by simp at hn;omega)
  rw [Uw,ZK (Y2 h)]
  simp [GC,WS]
 | s::r,n,k,acc,h0,h,hn,hk,hs,ha=>by
  obtain ⟨n,rfl⟩:=pS n (by simp at hn;omega)
  obtain ⟨hi,hx,hr⟩:=YU h
  simp only [Zg] at hn hk ha
  have hsl:=hs s List.mem_cons_self
  rw [Uw,ZI hi,dT (show (k:Int) > 0 by omega),Zw,hx,show str [59,32]=Zu [59,32] from rfl,ZH (by omega)]
  simp only [cT]
  rw [ZS (by simp;omega),bS,bS,YE (by simp;omega),bS]
  rw [Zjy u r n (k+1) _ (by omega) hr (by omega) (by omega) (fun y hy=>hs y (List.mem_cons_of_mem _ hy)) (by simp;omega),List.map_cons,Zaf]
  simp
theorem ZqS (hN:4194304 < N) (u:List ByteArray) (hu:u≠[]) (hl:u.length≤500) (hs:∀ s∈u,(bs s).length≤8100000000) {acc:List UInt8} (ha:acc.length≤35185900000000):Uw u N (Zu acc) 0=some (Zu (acc++Qy u),0):=by
 obtain ⟨M,rfl⟩:∃ z,N=z+1:=⟨N-1,by omega⟩
 cases u with
 | nil=>exact absurd rfl hu
 | cons s r =>
  simp only [Zg] at hl
  have hsl:=hs s List.mem_cons_self
  rw [show (0:Int)=((0:Nat):Int) from rfl,Uw,ZI (by simp),dF (show ¬ ((0:Nat):Int) > 0 by omega),Zw,ZH (by omega)]
  simp only [cT,cond_false,List.getElem?_cons_zero,bS]
  rw [YE (by omega),bS,Zjy (s::r) r M (0+1) _ (by omega) rfl (by omega) (by omega) (fun y hy=>hs y (List.mem_cons_of_mem _ hy)) (by simp;omega)]
  show some (Zu (acc++bs s++WS [59,32] (r.map bs)),(0:Int))=some (Zu (acc++(bs s++WS [59,32] (r.map bs))),0)
  rw [aA]
theorem ZlU (u:List ByteArray) (hl:u.length≤500) (hs:∀ s∈u,(bs s).length≤8100000000):(Qy u).length≤4050000001000:=by
 unfold Qy
 cases u with
 | nil=>simp
 | cons s r =>
  have h1:=MD (sep:=[59,32]) (c:=8100000000) (l:=(s::r).map bs) fun x hx=>by
   obtain ⟨y,hy,rfl⟩:=List.mem_map.1 hx
   exact hs y hy
  have h2:((s::r).map bs).length * (8100000000+2)≤500 * 8100000002:=Nat.mul_le_mul (by rw [List.length_map];exact hl) (by decide)
  exact Nat.le_trans h1 (Nat.le_trans h2 (by decide))
theorem Zlr (hN:4194304 < N) (hg:XI g) (hs:XV g) (hn:Xi g) (ht:m.Timeouts.length≤4194304) (h:List T3) (x:T3) (hl:(h++[x]).length≤4194304) (he:∀ y∈h++[x],XO y) (hso:∀ y∈h++[x],ShowOk g y) :
  (∃ e q,(e=1∨e=7)∧X6 N g m (h++[x])=some q∧q.2.2≠0∧(∃ q',X6 N g m h=some q')∧UA N g m h x=some (str [],e)∧Tj N g m h x=some (str [],e)) ∨
  (∃ q q',X6 N g m (h++[x])=some q∧q.2.2=0∧X6 N g m h=some q'∧q'.2.2=0∧UA N g m h x=some (str [],0)∧Tj N g m h x=some (str [],0)) ∨
  (∃ q t j z u,X6 N g m (h++[x])=some q∧q.2.2≠0∧X6 N g m h=some (t,j,0)∧Qg N g m (h++[x])=some (Zu z,0)∧z.length≤35184900000000∧z≠[]∧UL N g m t.At=some (u,0)∧u.length≤500∧(∀ s∈u,(bs s).length≤8100000000) ∧
   UA N g m h x=some (Zu (z++PERM++Qy u),0)∧Tj N g m h x=some (Zu (z++PERM++Qy u),0)):=by
 have hl':h.length+1≤4194304:=by simpa using hl
 have he':∀ y∈h,XO y:=fun y hy=>he y (List.mem_append_left _ hy)
 obtain ⟨b,eb,hb⟩:=LA hN g hg hs m ht
 cases b with
 | false =>
  obtain ⟨_,_,r1,r2⟩:=Bn hN hg hs hn ht h eb
  obtain ⟨_,_,r3,_⟩:=Bn hN hg hs hn ht (h++[x]) eb
  refine .inl ⟨1,_,.inl rfl,r3,by decide,⟨_,r1⟩,?_,?_⟩
  ·unfold UA
   rw [r1];rfl
  ·unfold Tj
   rw [r2];rfl
 | true =>
  have c:Y7 N g m:=⟨hN,hg,hs,ht,hb rfl,eb⟩
  have cx:=Zix c hn
  have r1:=ZbX c h (by omega) he'
  have r2:=Zhf c hn h (by omega) he'
  have r3:=ZbX c (h++[x]) hl he
  obtain ⟨q1,q2⟩:=Gb c h (Wn g m) 0 he' (TX c)
  have q4:=(Gb c (h++[x]) (Wn g m) 0 he (TX c)).2
  have herr:=Zhe (f:=YA N g m) [x] h (Wn g m) 0
  generalize hr:XF (YA N g m) h (Wn g m) 0=r at r1 r2 q1 q2 herr
  obtain ⟨t,j,e⟩:=r
  simp only [] at q1 q2 herr
  have c1:(e==1)=false:=by simpa using q2
  by_cases c2:e=0
  ·subst c2
   have b0:((0:Int) != 0)=false:=rfl
   have b1:((0:Int)==1)=false:=rfl
   have cl:Mg N h=some h:=by
    unfold Mg
    rw [YC (by simp;omega)];rfl
   have e1:∀ {A:Type} (f:List T3→Option A),((Mg N h).bind fun x2=>(Z7 x2 [x]).bind f)=f (h++[x]):=fun f=>by
    rw [cl,bS,YC (by simp;omega),bS]
   have e2:∀ {A:Type} (f:List T3→Option A),((Z7 ([]:List T3) h).bind fun x2=>(Z7 x2 [x]).bind f)=f (h++[x]):=fun f=>by
    rw [YC (by simp;omega),bS,List.nil_append,YC (by simp;omega),bS]
   rcases Zkn hN hg hs hn ht (h++[x]) hl he hso with ⟨t',j',e',a1,a2,a3,a4⟩ | ⟨t',j',e',z,a1,a2,a3,a4,a5,a6,a7⟩
   ·have a2:e'=0:=by
     rcases a2 with a2 | a2
     ·exact a2
     ·rw [r3] at a1
      have:=Option.some.inj a1
      rw [this] at q4
      exact absurd a2 q4
    subst a2
    refine .inr (.inl ⟨_,_,a1,rfl,r1,rfl,?_,?_⟩)
    ·unfold UA
     rw [r1]
     simp only [bS,b0,b1,cond_false]
     rw [e1,a3]
     simp only [bS,b0,cond_false,beq_self_eq_true,cT]
    ·unfold Tj
     rw [r2]
     simp only [bS,b0,b1,cond_false]
     rw [e2,a4]
     simp only [bS,beq_self_eq_true,cT]
   ·rcases ZpH hN hg hs hn ht t.At with ⟨p1,_⟩ | ⟨L,v,w,_,s0,s1,hL,_,v1,v2,w1,w2,p0,p1,p2⟩
    ·exfalso
     obtain ⟨L,v,w,_,_,_,_,_,_,p6,_⟩:=ZiC cx q1.a0 q1.a1
     unfold UL at p1
     rw [(ZfA c hn).1,dF (show ¬ t.At < 0 by have:=q1.a0;omega),dF (show ¬ t.At≥m.States by have:=q1.a1;omega),p6] at p1
     simp at p1
    ·have hLl:=hL.len
     have hml:=cx.x.mv.n.n
     have h2:w.length≤2:=by
      rw [w1]
      cases (LB m.Timeouts t.At).isSome<;>cases (LF m t.At)<;>simp [TH]
     have hul:(v++w).length≤500:=by simp;omega
     have hus:∀ s∈v++w,(bs s).length≤8100000000:=fun s hs=>by
      rcases List.mem_append.1 hs with hs | hs
      ·exact (v2 s hs).len
      ·exact (w2 s hs).1
     have hun:∀ s∈v++w,bs s≠[]:=fun s hs=>by
      rcases List.mem_append.1 hs with hs | hs
      ·intro e;have:=(v2 s hs).ge;rw [e] at this;simp at this
      ·exact (w2 s hs).2
     have hpl:=ZlU (v++w) hul hus
     have hz:((Zu z).toList==(str []).toList)=false:=by
      rw [X1,X1,YQ]
      have:bs (str [])=[]:=rfl
      rw [this]
      simpa using a5
     generalize hu:v++w=u at p0 p1 p2 hul hus hun hpl
     refine .inr (.inr ⟨_,t,j,z,u,a1,a2,r1,a6,a4,a5,p1,hul,hus,?_,?_⟩)
     ·unfold UA
      rw [r1]
      simp only [bS,b0,b1,cond_false]
      rw [e1,a6]
      simp only [bS,b0,cond_false,hz]
      rw [p0,bS]
      have hj:=Zdo (N:=N) (l:=u.map bs) (sep:=[59,32]) (by rw [List.length_map];omega) (by
       have h1:=MD (sep:=[59,32]) (c:=8100000000) (l:=u.map bs) fun x hx=>by
        obtain ⟨y,hy,rfl⟩:=List.mem_map.1 hx
        exact hus y hy
       have h2:(u.map bs).length * (8100000000+2)≤500 * 8100000002:=Nat.mul_le_mul (by rw [List.length_map];exact hul) (by decide)
       exact Nat.le_trans h1 (Nat.le_trans h2 (by decide)))
      rw [Zkt] at hj
      rw [show str [59,32]=Zu [59,32] from rfl,hj,bS,show str [59,32,112,101,114,109,105,116,116,101,100,58,32]=Zu PERM from rfl,show str [110,111,116,104,105,110,103]=Zu [110,111,116,104,105,110,103] from rfl]
      have hP:PERM.length=13:=rfl
      rw [X1 (Zu (Xr [59,32] (u.map bs))),X1 (str []),YQ,ZS (by omega)]
      have e0:bs (str [])=[]:=rfl
      rw [e0]
      cases u with
      | nil =>
       show (bif (([]:List UInt8)==[]) then _ else _)=_
       simp only [beq_self_eq_true,cT,bS]
       rw [ZS (by simp;omega)];rfl
      | cons s r =>
       have hne:(Xr [59,32] ((s::r).map bs)==[])=false:=by
        have:=hun s List.mem_cons_self
        show ((bs s++_)==[])=false
        cases hb:bs s with
        | nil=>exact absurd hb this
        | cons a q=>rfl
       have hpl2:(Xr [59,32] ((s::r).map bs)).length≤4050000001000:=hpl
       rw [hne,cond_false,bS,ZS (by rw [lA,hP];omega)]
       rfl
     ·unfold Tj
      rw [r2]
      simp only [bS,b0,b1,cond_false]
      rw [e2,a7]
      simp only [bS,hz,cond_false]
      rw [p2,bS]
      have hP:PERM.length=13:=rfl
      have k3:∀ u:List ByteArray,u≠[]→u.length≤500→(∀ s∈u,(bs s).length≤8100000000)→QR N (Zu z,0) u=some (Zu (z++PERM++Qy u),0):=fun u h1 h2 h3=>by
       unfold QR
       rw [show str [59,32,112,101,114,109,105,116,116,101,100,58,32]=Zu PERM from rfl]
       show ((Zv (Zu z) (Zu PERM)).bind _)=_
       rw [ZS (by omega),bS,ZqS hN u h1 h2 h3 (by rw [lA,hP];omega)]
      cases u with
      | nil =>
       show (bif (((([]:List ByteArray).length:Nat):Int)==0) then _ else _)=_
       have:((((([]:List ByteArray).length:Nat):Int)==0))=true:=rfl
       rw [this,cT,k3 _ (by simp) (by simp) (fun s hs=>by
        rw [List.mem_singleton.1 hs]
        have:bs (str [110,111,116,104,105,110,103])=[110,111,116,104,105,110,103]:=rfl
        rw [this];simp)]
       rfl
      | cons s r =>
       have:((((s::r).length:Nat):Int)==0)=false:=by simp;omega
       show (bif ((((s::r).length:Nat):Int)==0) then _ else _)=_
       rw [this,cond_false]
       exact k3 _ (by simp) hul hus
  ·have c3:(e != 0)=true:=by simpa using c2
   have:=herr c2
   rw [this] at r3
   refine .inl ⟨7,_,.inr rfl,r3,c2,⟨_,r1⟩,?_,?_⟩
   ·unfold UA
    rw [r1]
    simp only [bS,c1,c3,cond_false,cT]
   ·unfold Tj
    rw [r2]
    simp only [bS,c1,c3,cond_false,cT]
theorem Zrn {l:List T3} (hne:l≠[]) (hl:l.length≤4194304):∃ h x,l=h++[x]∧lsl l none (some (Zi ((l.length:Int)-1)))=some h∧idx l (Zi ((l.length:Int)-1))=some x:=by
 refine ⟨l.dropLast,l.getLast hne,(List.dropLast_concat_getLast hne).symm,?_,?_⟩
 ·have h0:0 < l.length:=List.length_pos_iff.2 hne
  rw [YD (by omega) (by omega)]
  exact Qp (List.dropLast_concat_getLast hne).symm (by rw [List.length_dropLast];omega)
 ·have h0:0 < l.length:=List.length_pos_iff.2 hne
  rw [YD (by omega) (by omega),show (l.length:Int)-1=((l.length-1:Nat):Int) by omega,Zw,List.getLast_eq_getElem,Za]
theorem ZoI (hN:4194304 < N) (ha:z8 N=some true) (hg:XI g) (hs:XV g) (hn:Xi g) (ht:m.Timeouts.length≤4194304) (l:List T3) (hl:l.length≤4194304) (he:∀ x∈l,XO x) (hso:∀ x∈l,ShowOk g x) (hb:∃ b,z9 N g m l=some b):TJ N g m l=some true:=by
 obtain ⟨b,eb⟩:=hb
 unfold TJ
 rw [ha,eb]
 simp only [bS,Zh,cond_false]
 cases b with
 | false=>rfl
 | true =>
 simp only [Zh,cond_false]
 by_cases h0:l=[]
 ·subst h0;rfl
 rw [show ((l.length:Int)==0)=false by
  have:=List.length_pos_iff.2 h0
  simp;omega,cond_false]
 obtain ⟨h,x,rfl,e1,e2⟩:=Zrn h0 hl
 simp only [e1,e2,bS]
 rcases Zlr hN hg hs hn ht h x hl he hso with ⟨e,q,a1,a2,a3,_,a4,a5⟩ | ⟨q,q',a2,a3,_,_,a4,a5⟩ | ⟨q,t,j,z,u,a2,a3,_,_,_,a6,_,_,_,a4,a5⟩
 ·rw [a4,a5,a2]
  have c:(q.2.2==0)=false:=by simpa using a3
  simp only [bS,beq_self_eq_true,cT,c]
  rcases a1 with rfl | rfl<;>rfl
 ·rw [a4,a5,a2]
  simp only [bS,beq_self_eq_true,cT,a3]
 ·rw [a4,a5,a2]
  have c:(q.2.2==0)=false:=by simpa using a3
  have hz:((Zu (z++PERM++Qy u)).toList==(str []).toList)=false:=by
   rw [X1,X1,YQ]
   have:bs (str [])=[]:=rfl
   rw [this]
   simp [a6]
  simp only [bS,beq_self_eq_true,cT,c,hz]
end Gp
end
section
namespace Gx
open Go Go.Kx
def ZiW (x:Yb):Prop:=((Lit.int .i64 x.Kind).wf=true)∧((Lit.int .i64 x.Lo).wf=true)∧((Lit.int .i64 x.Hi).wf=true)
def Zdp (x:T4):Prop:=(x.Name.size≤bd)∧(ZiW x.Sort')
def Zd9 (x:T1):Prop:=((Lit.int .i64 x.X).wf=true)∧((Lit.int .i64 x.Y).wf=true)∧((Lit.int .i64 x.C).wf=true)
def Zfp (x:T6):Prop:=(x.Diffs.length≤bd∧∀ y∈x.Diffs,Zd9 y)∧(x.Equals.length≤bd∧∀ y∈x.Equals,((Lit.int .i64 y.1).wf=true)∧((Lit.int .i64 y.2).wf=true))
def Hx (x:T0):Prop:=(x.Name.size≤bd)∧(x.Fields.length≤bd∧∀ y∈x.Fields,Zdp y)∧((Lit.int .i64 x.First).wf=true)∧(Zfp x.Guard)
def Zi8 (x:T7):Prop:=((Lit.int .i64 x.From).wf=true)∧((Lit.int .i64 x.To).wf=true)∧((Lit.int .i64 x.Label).wf=true)
def ZeO (x:T2):Prop:=((Lit.int .i64 x.From).wf=true)∧(Zi8 x.Act)∧((Lit.int .i64 x.To).wf=true)∧(True)
def ZbI (x:Yj):Prop:=((Lit.int .i64 x.State).wf=true)∧((Lit.int .i64 x.Ticks).wf=true)∧((Lit.int .i64 x.Else).wf=true)
def Tg (x:T5):Prop:=(x.Name.size≤bd)∧(x.Roles.length≤bd∧∀ y∈x.Roles,y.size≤bd)∧(x.Decls.length≤bd∧∀ y∈x.Decls,Hx y)∧((Lit.int .i64 x.States).wf=true)∧((Lit.int .i64 x.Start).wf=true)∧((Lit.int .i64 x.End).wf=true)∧(x.Edges.length≤bd∧∀ y∈x.Edges,ZeO y)∧(x.Timeouts.length≤bd∧∀ y∈x.Timeouts,ZbI y)
def ZeC (x:T9):Prop:=((Lit.int .i64 x.From).wf=true)∧(True)∧((Lit.int .i64 x.Peer).wf=true)∧((Lit.int .i64 x.Label).wf=true)∧((Lit.int .i64 x.To).wf=true)∧(True)
def Pb (x:T8):Prop:=((Lit.int .i64 x.Role).wf=true)∧((Lit.int .i64 x.States).wf=true)∧((Lit.int .i64 x.Start).wf=true)∧(x.Finals.length≤bd∧∀ y∈x.Finals,True)∧(x.Moves.length≤bd∧∀ y∈x.Moves,ZeC y)∧(x.Timeouts.length≤bd∧∀ y∈x.Timeouts,ZbI y)
def Zd0 (x:Zm):Prop:=((Lit.int .i64 x.Kind).wf=true)∧((Lit.int .i64 x.N).wf=true)∧(x.S.size≤bd)
def Sc (x:T3):Prop:=((Lit.int .i64 x.Role).wf=true)∧(True)∧((Lit.int .i64 x.Peer).wf=true)∧((Lit.int .i64 x.Label).wf=true)∧(x.Values.length≤bd∧∀ y∈x.Values,Zd0 y)
end Gx
end
section
namespace Gp
open Go Go.Kx Gx
set_option maxRecDepth 100000
theorem ZpZ (k:Nat):z8 (k+300)=some true:=by kernel_rfl
theorem Znz {x:T0} (h:Hx x):Xt x:=by
 obtain ⟨_,h1,_,h2⟩:=h
 exact ⟨by have:=h1.1;unfold bd at this;omega,by have:=h2.1.1;unfold bd at this;omega,by have:=h2.2.1;unfold bd at this;omega⟩
theorem Zp9 {x:T0} (h:Hx x):W6 x:=by
 obtain ⟨h0,h1,_,h2⟩:=h
 exact ⟨by unfold bd at h0;omega,fun f hf=>by have:=(h1.2 f hf).1;unfold bd at this;omega⟩
theorem Zd4 {n:Int} (h:(Lit.int .i64 n).wf=true):XT n:=by
 simp [Lit.wf,IntKind.min,IntKind.max,IntKind.signed,IntKind.bits] at h
 constructor<;>omega
theorem Zny {x:T5} (h:Tg x):Xi x:=by
 obtain ⟨_,h1,h2,_,_,_,h3,h4⟩:=h
 intro e he
 have:=(h3.2 e he).2.1
 exact ⟨Zd4 this.2.1,Zd4 this.2.2⟩
theorem Zgf {g:T5} (h:Tg g):XI g:=by
 obtain ⟨g1,g2,g3,_,_,_,g4,g5⟩:=h
 refine ⟨?_,?_,fun x hx=>Znz (g3.2 x hx),?_,?_⟩
 ·have:=g2.1;unfold bd at this;omega
 ·have:=g3.1;unfold bd at this;omega
 ·have:=g4.1;unfold bd at this;omega
 ·have:=g5.1;unfold bd at this;omega
theorem ZmU {g:T5} (h:Tg g):XV g:=by
 obtain ⟨g1,g2,g3,_,_,_,g4,g5⟩:=h
 refine ⟨?_,fun s hs=>?_,fun x hx=>Zp9 (g3.2 x hx)⟩
 ·unfold bd at g1;omega
 ·have:=g2.2 s hs;unfold bd at this;omega
theorem ZmL {m:T8} (h:Pb m):m.Timeouts.length≤4194304:=by
 obtain ⟨_,_,_,_,_,m1⟩:=h
 have:=m1.1;unfold bd at this;omega
theorem Zic {x:T3} (h:Sc x):XO x:=by
 obtain ⟨_,_,_,_,h1,h2⟩:=h
 exact ⟨by unfold bd at h1;omega,fun v hv=>by have:=(h2 v hv).2.2;unfold bd at this;omega⟩
theorem Zmb {g:T5} {x:T3} (hg:Tg g) (hx:Sc x):ShowOk g x:=by
 obtain ⟨_,g2,g3,_⟩:=hg
 obtain ⟨_,_,_,_,h1,h2⟩:=hx
 refine ⟨fun s hs=>?_,?_,fun y hy=>?_,?_,fun v hv=>⟨Zd4 (h2 v hv).2.1,?_⟩⟩
 ·have:=g2.2 s hs;unfold bd at this;omega
 ·have:=g3.1;unfold bd at this;omega
 ·have:=(g3.2 y hy).1;unfold bd at this;omega
 ·unfold bd at h1;omega
 ·have:=(h2 v hv).2.2;unfold bd at this;omega
theorem plain:∀ (x0:T5) (x1:T8) (x2:(List T3)),Tg x0→Pb x1→(x2.length≤bd∧∀ y∈x2,Sc y)→∃ N,TJ N x0 x1 x2=some true:=by
 intro g m l hg hm hl
 exact ⟨33554432+300,ZoI (by omega) (ZpZ _) (Zgf hg) (ZmU hg) (Zny hg) (ZmL hm) l (by have:=hl.1;unfold bd at this;omega) (fun x hx=>Zic (hl.2 x hx)) (fun x hx=>Zmb hg (hl.2 x hx)) (ZmA (by omega) g (Zgf hg) m l (by have:=hl.1;unfold bd at this;omega) (fun x hx=>Zic (hl.2 x hx)))⟩
end Gp
end
