/- The plain law, part 3: what the functions compute answers as the statement says. -/
import Derived.Test.YtdomlpmomldmhaaGreatDoorBlameFindPlain2
set_option linter.all false
section
namespace Gp
open Go Go.Kx Gx
variable {N:Nat}
theorem flat_find:∀ (r:List T0) (x:Nat),x < (flat r).length→∃ (i:Nat) (d:T0) (j:Nat) (f:T4),r[i]? = some d∧d.Fields[j]? = some f∧x=(flat (r.take i)).length+j
 | [],x,h=>by simp [flat] at h
 | d::r,x,h=>by
  rw [flat_cons,lA] at h
  by_cases c:x < d.Fields.length
  ·exact ⟨0,d,x,d.Fields[x],rfl,List.getElem?_eq_getElem c,by simp [flat]⟩
  ·obtain ⟨i,e,j,f,h1,h2,h3⟩:=flat_find r (x-d.Fields.length) (by omega)
   refine ⟨i+1,e,j,f,by simpa using h1,h2,?_⟩
   rw [List.take_succ_cons,flat_cons,lA]
   omega
theorem var_loop (l:List T0) (hl:l.length≤4194304) (hfl:(flat l).length≤4194304) {i j:Nat} {d:T0} {f:T4} (hi:l[i]? = some d) (hj:d.Fields[j]? = some f):∀ (q n k:Nat),i=k+q→q < n →
  z170_l2 l n (((flat (l.take i)).length+j-(flat (l.take k)).length:Nat):Int) (k:Int)=some (d,f,true)
 | 0,n,k,hq,hn=>by
  obtain ⟨n,rfl⟩:∃ m,n=m+1:=⟨n-1,by omega⟩
  obtain rfl:i=k:=by omega
  have hk:=(List.getElem?_eq_some_iff.1 hi).1
  have hjl:=(List.getElem?_eq_some_iff.1 hj).1
  rw [show (flat (l.take i)).length+j-(flat (l.take i)).length=j by omega,z170_l2,lt_t hk,idx_nat,hi]
  simp only [cT,bS]
  rw [dT (show (j:Int)≥0 by omega),lt_t hjl,idx_nat,hj];rfl
 | q+1,n,k,hq,hn=>by
  obtain ⟨n,rfl⟩:∃ m,n=m+1:=⟨n-1,by omega⟩
  have hi':=(List.getElem?_eq_some_iff.1 hi).1
  have hk:k < l.length:=by omega
  have hg:=List.getElem?_eq_getElem hk
  have hnx:=flat_next hg
  have hmono:(flat (l.take (k+1))).length≤(flat (l.take i)).length:=by
   have:=flat_take_le (l.take i) (k+1)
   rw [List.take_take,show min (k+1) i=k+1 by omega] at this
   exact this
  have htot:=flat_take_le l (i+1)
  have hn2:=flat_next hi
  have hjl:=(List.getElem?_eq_some_iff.1 hj).1
  rw [z170_l2,lt_t hk,idx_nat,hg]
  simp only [cT,bS]
  rw [dT (show (((flat (l.take i)).length+j-(flat (l.take k)).length:Nat):Int)≥0 by omega),lt_f (by omega)]
  simp only [cT,cond_false]
  rw [w64_succ (by omega),w64_id (by omega) (by omega)]
  have:=var_loop l hl hfl hi hj q n (k+1) (by omega) (by omega)
  rw [← this]
  congr 1
  omega
theorem name_loop (l:List T0) (hl:l.length≤4194304) (hfl:(flat l).length≤4194304) (hv:validD l=true) (hnm:∀ x∈l,NameD x) {i j:Nat} {d:T0} {f:T4} (hi:l[i]? = some d) (hj:d.Fields[j]? = some f) {x:Int} (hx:x=(((flat (l.take i)).length+j:Nat):Int)):∀ (q n k:Nat),i=k+q→q < n →
  z102_l2 l x n (k:Int)=some (mkB (bs d.Name++[46]++bs f.Name),f.Sort'.Kind==2)
 | 0,n,k,hq,hn=>by
  obtain ⟨n,rfl⟩:∃ m,n=m+1:=⟨n-1,by omega⟩
  obtain rfl:i=k:=by omega
  have hk:=(List.getElem?_eq_some_iff.1 hi).1
  have hjl:=(List.getElem?_eq_some_iff.1 hj).1
  have htot:=flat_take_le l (i+1)
  have hn2:=flat_next hi
  obtain ⟨first,h1,_,_,_,h2⟩:=valid_at hv hi
  unfold declV at h2
  simp only [Bool.and_eq_true,decide_eq_true_eq] at h2
  have hF:=h2.2.2.1
  obtain ⟨n1,n2⟩:=hnm d (List.mem_of_getElem? hi)
  have n2:=n2 f (List.mem_of_getElem? hj)
  rw [size_bs] at n1 n2
  rw [z102_l2,lt_t hk,idx_nat,hi]
  simp only [cT,bS]
  rw [hF,hx,dT (by omega),w64_id (by omega) (by omega),dT (by omega)]
  simp only [cT]
  rw [w64_id (by omega) (by omega),idx_int (k:=j) (by omega),hj]
  simp only [bS]
  rw [show str [46]=mkB [46] from rfl,cat_bs (by simp;omega),bS,cat_sb (by simp;omega)];rfl
 | q+1,n,k,hq,hn=>by
  obtain ⟨n,rfl⟩:∃ m,n=m+1:=⟨n-1,by omega⟩
  have hi':=(List.getElem?_eq_some_iff.1 hi).1
  have hk:k < l.length:=by omega
  have hg:=List.getElem?_eq_getElem hk
  have hnx:=flat_next hg
  have hmono:(flat (l.take (k+1))).length≤(flat (l.take i)).length:=by
   have:=flat_take_le (l.take i) (k+1)
   rw [List.take_take,show min (k+1) i=k+1 by omega] at this
   exact this
  have htot:=flat_take_le l (i+1)
  have hn2:=flat_next hi
  have hjl:=(List.getElem?_eq_some_iff.1 hj).1
  obtain ⟨first,h1,_,_,_,h2⟩:=valid_at hv hg
  unfold declV at h2
  simp only [Bool.and_eq_true,decide_eq_true_eq] at h2
  have hF:=h2.2.2.1
  rw [z102_l2,lt_t hk,idx_nat,hg]
  simp only [cT,bS]
  rw [hF,dT (show x≥_ by omega),w64_id (by omega) (by omega),dF (by omega)]
  simp only [cT,cond_false]
  rw [w64_succ (by omega)]
  exact name_loop l hl hfl hv hnm hi hj hx q n (k+1) (by omega) (by omega)
theorem path_both (hN:4194304 < N) {l:List T0} (hl:l.length≤1000) (hd:∀ x∈l,SizeD x) (hv:validD l=true) (hnm:∀ x∈l,NameD x) {x:Int} (h0:0≤x) (h1:x < ((flat l).length:Int)) :
  ∃ s u t,s.length≤16777216∧u.length≤16777216∧z100 N l x=some (mkB s)∧z102 N l x=some (mkB s,t)∧z169 N l x=some (mkB u)∧z103 N l x=some (mkB u):=by
 have hfl:(flat l).length≤4194304:=by
  unfold validD at hv
  simp only [Bool.and_eq_true,decide_eq_true_eq] at hv
  omega
 obtain ⟨k,rfl⟩:=Int.eq_ofNat_of_zero_le h0
 obtain ⟨i,d,j,f,hi,hj,hx⟩:=flat_find l k (by omega)
 have hil:=(List.getElem?_eq_some_iff.1 hi).1
 have e1:=var_loop l (by omega) hfl hi hj i N 0 (by omega) (by omega)
 rw [show (flat (l.take i)).length+j-(flat (l.take 0)).length=k by simp [flat] at *;omega] at e1
 have e2:=name_loop l (by omega) hfl hv hnm hi hj (x:=(k:Int)) (by omega) i N 0 (by omega) (by omega)
 obtain ⟨n1,n2⟩:=hnm d (List.mem_of_getElem? hi)
 have n2:=n2 f (List.mem_of_getElem? hj)
 rw [size_bs] at n1 n2
 have e1:z170 N l (k:Int)=some (d,f,true):=e1
 have e2:z102 N l (k:Int)=some (mkB (bs d.Name++[46]++bs f.Name),f.Sort'.Kind==2):=e2
 have e3:z100 N l (k:Int)=some (mkB (bs d.Name++[46]++bs f.Name)):=by
  unfold z100
  rw [e1]
  simp only [bS]
  rw [show str [46]=mkB [46] from rfl,cat_bs (by simp;omega),bS,cat_sb (by simp;omega)];rfl
 cases hk:(f.Sort'.Kind==2) with
 | true =>
  refine ⟨_,[108,101,110,40]++(bs d.Name++[46]++bs f.Name)++[41],true,by simp;omega,by simp;omega,e3,by rw [e2,hk],?_,?_⟩
  ·unfold z169
   rw [e1]
   simp only [bS,hk,cT]
   rw [e3,bS,show str [108,101,110,40]=mkB [108,101,110,40] from rfl,show str [41]=mkB [41] from rfl,cat_mk (by simp;omega),bS,cat_mk (by simp;omega)];rfl
  ·unfold z103
   rw [e2]
   simp only [bS,hk,cT]
   rw [show str [108,101,110,40]=mkB [108,101,110,40] from rfl,show str [41]=mkB [41] from rfl,cat_mk (by simp;omega),bS,cat_mk (by simp;omega)];rfl
 | false =>
  refine ⟨bs d.Name++[46]++bs f.Name,bs d.Name++[46]++bs f.Name,false,by simp only [lA,List.length_cons,List.length_nil];omega,by simp only [lA,List.length_cons,List.length_nil];omega,e3,by rw [e2,hk],?_,?_⟩
  ·unfold z169
   rw [e1]
   simp only [bS,hk,cond_false]
   exact by rw [e3];rfl
  ·unfold z103
   rw [e2,hk];rfl
theorem itoa_bs (n:Int):(bs (itoaS n)).length≤26:=by rw [← size_bs];exact itoa_len n
theorem diffOk_of {fl:List T4} {g:T6} (h:guardV fl g=true) {d:T1} (hd:d∈g.Diffs):diffOk (fl.length:Int) d:=by
 unfold guardV at h
 simp only [Bool.and_eq_true,decide_eq_true_eq] at h
 have h3:=h.2.1
 rw [allV_iff] at h3
 obtain ⟨i,hi⟩:=List.mem_iff_getElem?.1 hd
 exact of_decide_eq_true (h3 i d hi)
theorem bounds_some (hN:4194304 < N) (d:T0) (hd:SizeD d):∃ r,z168 N d=some r :=
 bounds_l4 hN d hd d.Fields 0 N [] rfl (by have:=hd.f;omega) (by have:=hd.f;simp;omega)
def rdiff (N:Nat) (l:List T0) (d:T1):Option ByteArray :=
 bif decide (d.X < (0:Int)) then (bif decide (d.Y < (0:Int)) then ((z90 N d.C).bind fun x13=>(catS (str [48,32,60,61,32]) x13).bind fun x14=>some x14)
  else (z103 N l d.Y).bind fun x19=>(catS x19 (str [32,62,61,32])).bind fun x20=>(z90 N (w64 (0-d.C))).bind fun x21=>(catS x20 x21).bind fun x22=>some x22)
 else bif decide (d.Y < (0:Int)) then ((z103 N l d.X).bind fun x33=>(catS x33 (str [32,60,61,32])).bind fun x34=>(z90 N d.C).bind fun x35=>(catS x34 x35).bind fun x36=>some x36)
 else (z103 N l d.X).bind fun x41=>(catS x41 (str [32,60,61,32])).bind fun x42=>(z103 N l d.Y).bind fun x43=>(catS x42 x43).bind fun x44 =>
  bif decide (d.C > (0:Int)) then ((catS x44 (str [32,43,32])).bind fun x45=>(z90 N d.C).bind fun x46=>(catS x45 x46).bind fun x47=>some x47)
  else bif decide (d.C < (0:Int)) then ((catS x44 (str [32,45,32])).bind fun x48=>(z90 N (w64 (0-d.C))).bind fun x49=>(catS x48 x49).bind fun x50=>some x50)
  else some x44
theorem diff_both (hN:4194304 < N) {l:List T0} (hl:l.length≤1000) (hd:∀ x∈l,SizeD x) (hv:validD l=true) (hnm:∀ x∈l,NameD x) {d:T1} (h:diffOk ((flat l).length:Int) d) :
  ∃ s:List UInt8,s.length≤67108864∧z99 N l d=some (mkB s)∧rdiff N l d=some (mkB s):=by
 obtain ⟨a1,a2,a3,a4,a5,a6⟩:=h
 have hc:I64 d.C:=⟨by omega,by omega⟩
 have hw:w64 (0-d.C)=-d.C:=by rw [w64_id (by omega) (by omega)];omega
 have hm:I64 (-d.C):=⟨by omega,by omega⟩
 have l1:=itoa_bs d.C
 have l2:=itoa_bs (-d.C)
 unfold z99 rdiff
 by_cases cX:d.X < 0
 ·rw [dT cX]
  by_cases cY:d.Y < 0
  ·rw [dT cY]
   simp only [cT]
   unfold z99_k1
   rw [itoa_eq hc,digits09_eq hN hc]
   simp only [cT,bS]
   rw [show str [48,32,60,61,32]=mkB [48,32,60,61,32] from rfl,cat_sb (by simp;omega)]
   exact ⟨_,by simp;omega,rfl,rfl⟩
  ·obtain ⟨s,u,t,_,b2,_,_,e3,e4⟩:=path_both hN hl hd hv hnm (x:=d.Y) (by omega) a4
   rw [dF cY]
   simp only [cT,cond_false]
   unfold z99_k1
   rw [dT cX,dF cY,hw,itoa_eq hm,digits09_eq hN hm,e3,e4]
   simp only [cT,cond_false,bS]
   rw [show str [32,62,61,32]=mkB [32,62,61,32] from rfl,cat_mk (by simp;omega)]
   simp only [bS]
   rw [cat_sb (by simp;omega)]
   exact ⟨_,by simp;omega,rfl,rfl⟩
 ·rw [dF cX]
  simp only [cond_false]
  unfold z99_k1
  obtain ⟨s,u,t,_,b2,_,_,e3,e4⟩:=path_both hN hl hd hv hnm (x:=d.X) (by omega) a2
  by_cases cY:d.Y < 0
  ·rw [dT cY,itoa_eq hc,digits09_eq hN hc,e3,e4]
   simp only [cT,cond_false,bS]
   rw [show str [32,60,61,32]=mkB [32,60,61,32] from rfl,cat_mk (by simp;omega)]
   simp only [bS]
   rw [cat_sb (by simp;omega)]
   exact ⟨_,by simp;omega,rfl,rfl⟩
  ·obtain ⟨s',u',t',_,b2',_,_,e3',e4'⟩:=path_both hN hl hd hv hnm (x:=d.Y) (by omega) a4
   rw [dF cX,dF cY,e3,e4,e3',e4']
   simp only [cT,cond_false,bS]
   rw [show str [32,60,61,32]=mkB [32,60,61,32] from rfl,cat_mk (by simp;omega)]
   simp only [bS]
   rw [cat_mk (by simp;omega)]
   simp only [bS]
   by_cases p1:d.C > 0
   ·rw [dT p1,itoa_eq hc,digits09_eq hN hc]
    simp only [cT,bS]
    rw [show str [32,43,32]=mkB [32,43,32] from rfl,cat_mk (by simp;omega)]
    simp only [bS]
    rw [cat_sb (by simp;omega)]
    exact ⟨_,by simp;omega,rfl,rfl⟩
   ·rw [dF p1]
    by_cases p2:d.C < 0
    ·rw [dT p2,hw,itoa_eq hm,digits09_eq hN hm]
     simp only [cT,cond_false,bS]
     rw [show str [32,45,32]=mkB [32,45,32] from rfl,cat_mk (by simp;omega)]
     simp only [bS]
     rw [cat_sb (by simp;omega)]
     exact ⟨_,by simp;omega,rfl,rfl⟩
    ·rw [dF p2]
     exact ⟨_,by simp;omega,rfl,rfl⟩
theorem atom_both (hN:4194304 < N) (l:List T0) (hl:l.length≤1000) (hd:∀ x∈l,SizeD x) (hnm:∀ x∈l,NameD x) {at' part:Int} (hp:I64 part) :
  ∃ s:List UInt8,s.length≤67108864∧z46 N l at' part=some (mkB s)∧z47 N l at' part=some (mkB s):=by
 have none':∃ s:List UInt8,s.length≤67108864∧some (str [])=some (mkB s)∧some (str [])=some (mkB s):=⟨[],by simp,rfl,rfl⟩
 unfold z46 z47 z98
 rw [refValid_eq hN l (by omega) hd hnm,valid_eq hN l (by omega) hd hnm]
 simp only [bS]
 by_cases c1:at' < 0
 ·rw [dT c1]
  cases validD l<;>exact none'
 rw [dF c1]
 by_cases c2:at'≥(l.length:Int)
 ·rw [dT c2]
  cases validD l<;>exact none'
 rw [dF c2]
 simp only [cond_false]
 cases hv:validD l with
 | false=>exact none'
 | true =>
 obtain ⟨k,rfl⟩:=Int.eq_ofNat_of_zero_le (show 0≤at' by omega)
 have hk:k < l.length:=by omega
 have hg:=List.getElem?_eq_getElem hk
 generalize hy:l[k]=y at hg
 have hmem:=List.mem_of_getElem? hg
 obtain ⟨r,er⟩:=bounds_some hN y (hd y hmem)
 have e0:((0:Int) != 0)=false:=rfl
 simp only [Bool.not_true,cond_false,idx_nat,hg,bS,er,e0]
 by_cases c3:part < 0
 ·rw [dT c3];exact none'
 rw [dF c3]
 simp only [cond_false]
 obtain ⟨p,rfl⟩:=Int.eq_ofNat_of_zero_le (show 0≤part by omega)
 have hgv:guardV (flat l) y.Guard=true:=by
  obtain ⟨_,_,_,_,_,h2⟩:=valid_at hv hg
  exact guard_of h2
 have hin:=inG_of hgv
 have h1:=hin.dl
 have h2:=hin.el
 have hpp:z51 N y=some (((y.Guard.Diffs.length+y.Guard.Equals.length:Nat)):Int):=by
  unfold z51
  rw [w64_id (by omega) (by omega)]
  congr 1
 rw [hpp]
 simp only [bS]
 by_cases c4:p < y.Guard.Diffs.length
 ·have hx:=List.getElem?_eq_getElem c4
  rw [lt_t c4,dF (show ¬ (p:Int)≥((y.Guard.Diffs.length+y.Guard.Equals.length:Nat):Int) by omega),dF (show ¬ (p:Int)≥(y.Guard.Diffs.length:Int) by omega),idx_nat,hx]
  obtain ⟨s,q1,q2,q3⟩:=diff_both hN hl hd hv hnm (diffOk_of hgv (List.mem_of_getElem? hx))
  simp only [cT,cond_false,bS]
  refine ⟨s,q1,by rw [q2];rfl,?_⟩
  rw [← q3]
  unfold rdiff
  cases decide ((y.Guard.Diffs[p]).X < 0)<;>cases decide ((y.Guard.Diffs[p]).Y < 0)<;>rfl
 ·rw [lt_f (by omega)]
  simp only [cond_false]
  have hi:=hp.2
  have hw:w64 ((p:Int)-(y.Guard.Diffs.length:Int))=((p-y.Guard.Diffs.length:Nat):Int):=by rw [w64_id (by omega) (by omega)];omega
  rw [hw]
  by_cases c5:p-y.Guard.Diffs.length < y.Guard.Equals.length
  ·have hx:=List.getElem?_eq_getElem c5
   rw [lt_t c5,dF (show ¬ (p:Int)≥((y.Guard.Diffs.length+y.Guard.Equals.length:Nat):Int) by omega),dT (show (p:Int)≥(y.Guard.Diffs.length:Int) by omega),idx_nat,hx]
   obtain ⟨⟨a1,a2⟩,a3,a4⟩:=hin.e _ (List.mem_of_getElem? hx)
   obtain ⟨s,u,t,b1,_,q1,q2,_,_⟩:=path_both hN hl hd hv hnm a1 a2
   obtain ⟨s',u',t',b1',_,q1',q2',_,_⟩:=path_both hN hl hd hv hnm a3 a4
   simp only [cT,cond_false,bS,q1,q2,q1',q2']
   rw [show str [32,61,61,32]=mkB [32,61,61,32] from rfl,cat_mk (by simp;omega)]
   simp only [bS]
   rw [cat_mk (by simp;omega)]
   exact ⟨_,by simp;omega,rfl,rfl⟩
  ·rw [lt_f (by omega),dT (show (p:Int)≥((y.Guard.Diffs.length+y.Guard.Equals.length:Nat):Int) by omega)]
   exact none'
end Gp
end
section
namespace Gp
open Go Go.Kx Gx
variable {N:Nat} {g:T5} {m:T8}
theorem loop_to {β:Type} {F:Nat→Int→Option β} {j:Nat} {r:Option β} (h1:∀ i n,i < j→F (n+1) (i:Int)=F n ((i+1:Nat):Int)) (h2:∀ n,F (n+1) (j:Int)=r):∀ (q n k:Nat),j=k+q→q < n→F n (k:Int)=r
 | 0,n,k,h,hn=>by
  obtain ⟨n,rfl⟩:∃ z,n=z+1:=⟨n-1,by omega⟩
  obtain rfl:j=k:=by omega
  exact h2 n
 | q+1,n,k,h,hn=>by
  obtain ⟨n,rfl⟩:∃ z,n=z+1:=⟨n-1,by omega⟩
  rw [h1 k n (by omega)]
  exact loop_to h1 h2 q n (k+1) (by omega) (by omega)
theorem sort_good (hN:4194304 < N) {d:T0} {l:List T12} (hl:l.length≤4194304) (hs:∀ v∈l,v.S.size≤4194304) (hlen:l.length=d.Fields.length) {i:Nat} (hi:i < l.length) (h:∀ f v,d.Fields[i]? = some f→l[i]? = some v→vfitV f.Sort' v=true) (n:Nat) :
  z85_l2 N d l (n+1) (i:Int)=z85_l2 N d l n ((i+1:Nat):Int):=by
 have c1:=List.getElem?_eq_getElem hi
 have c2:=List.getElem?_eq_getElem (show i < d.Fields.length by omega)
 rw [z85_l2,lt_t hi,idx_nat,idx_nat,c1,c2]
 simp only [cT,bS]
 rw [fits15_eq hN _ _ (hs _ (List.mem_of_getElem? c1)),h _ _ c2 c1,w64_succ (by omega)];rfl
theorem sort_none (hN:4194304 < N) {d:T0} {l:List T12} (hl:l.length≤4194304) (hs:∀ v∈l,v.S.size≤4194304) (h:FitsL d.Fields l):z85 N d l=some (-1) :=
 loop_to (F:=z85_l2 N d l) (j:=l.length) (fun i n hi=>sort_good hN hl hs h.1.symm hi (fun f v a b=>h.2 i f v a b) n)
  (fun n=>by rw [z85_l2,lt_f (Nat.le_refl _)];rfl) l.length N 0 (by omega) (by omega)
theorem sort_some (hN:4194304 < N) {d:T0} {l:List T12} (hl:l.length≤4194304) (hs:∀ v∈l,v.S.size≤4194304) (hlen:l.length=d.Fields.length) {j:Nat} {f v} (hf:d.Fields[j]? = some f) (hv:l[j]? = some v) (hb:vfitV f.Sort' v=false)
  (h:∀ (i:Nat) f v,i < j→d.Fields[i]? = some f→l[i]? = some v→vfitV f.Sort' v=true):z85 N d l=some (j:Int):=by
 have hj:=(List.getElem?_eq_some_iff.1 hv).1
 refine loop_to (F:=z85_l2 N d l) (j:=j) (fun i n hi=>sort_good hN hl hs hlen (by omega) (fun f v a b=>h i f v hi a b) n) (fun n=>?_) j N 0 (by omega) (by omega)
 rw [z85_l2,lt_t hj,idx_nat,idx_nat,hv,hf]
 simp only [cT,bS]
 rw [fits15_eq hN _ _ (hs _ (List.mem_of_getElem? hv)),hb];rfl
theorem parts_eq (d:T0) (h:d.Guard.Diffs.length≤20∧d.Guard.Equals.length≤20):z51 N d=some (((d.Guard.Diffs.length+d.Guard.Equals.length:Nat)):Int):=by
 unfold z51
 rw [w64_id (by omega) (by omega)]
 congr 1
theorem guard_next {d:T0} {vs ks:List T12} (hg:d.Guard.Diffs.length≤20∧d.Guard.Equals.length≤20) {i:Nat} (hi:i < d.Guard.Diffs.length+d.Guard.Equals.length) {b:Bool} (h:z50 N d vs ks (i:Int)=some b) (n:Nat) :
  z86_l2 N d vs ks (n+1) (i:Int)=bif b then z86_l2 N d vs ks n ((i+1:Nat):Int) else some (i:Int):=by
 rw [z86_l2,parts_eq d hg,bS,lt_t hi,h,w64_succ (by omega)]
 cases b<;>rfl
theorem guard_end {d:T0} {vs ks:List T12} (hg:d.Guard.Diffs.length≤20∧d.Guard.Equals.length≤20) (n:Nat) :
  z86_l2 N d vs ks (n+1) ((d.Guard.Diffs.length+d.Guard.Equals.length:Nat):Int)=some (-1):=by
 rw [z86_l2,parts_eq d hg,bS,lt_f (Nat.le_refl _)];rfl
theorem differ_at {a b:List T12} (hl:a.length≤4194304) {j:Nat} {x y:T12} (hx:a[j]? = some x) (hy:b[j]? = some y) (hne:x≠y) (h:∀ i,i < j→∃ v,a[i]? = some v∧b[i]? = some v) (hN:4194304 < N):z87 N a b=some (j:Int):=by
 have hj:=(List.getElem?_eq_some_iff.1 hx).1
 have hj2:=(List.getElem?_eq_some_iff.1 hy).1
 refine loop_to (F:=z87_l2 a b) (j:=j) (fun i n hi=>?_) (fun n=>?_) j N 0 (by omega) (by omega)
 ·obtain ⟨v,v1,v2⟩:=h i hi
  rw [z87_l2,lt_t (show i < a.length by omega),lt_t (show i < b.length by omega),idx_nat,idx_nat,v1,v2]
  simp only [cT,bS]
  show (bif !(eqB v v) then _ else _)=_
  rw [(eqB_iff v v).2 rfl,w64_succ (by omega)];rfl
 ·rw [z87_l2,lt_t hj,lt_t hj2,idx_nat,idx_nat,hx,hy]
  simp only [cT,bS]
  show (bif !(eqB x y) then _ else _)=_
  rw [eqB_f hne];rfl
theorem hit_of {s:T16} {x:T3} {q:T16 × Int} (hR:StepR (N:=N) g m s x q) (he:q.2=11∨q.2=17):∃ (i:Nat) (y:T9),m.Moves[i]? = some y∧hitM y s.At x=true:=by
 cases hR with
 | role _=>rcases he with h | h<;>cases h
 | move _ _=>rcases he with h | h<;>cases h
 | type _ h1 h2 _ _=>exact ⟨_,_,h1,h2⟩
 | guard _ h1 h2 _ _ _=>exact ⟨_,_,h1,h2⟩
 | ok h1 h2 h3 h4 h5 _ _ _ _ _=>exact ⟨_,_,h2,h3⟩
theorem refMove_hit (hN:4194304 < N) (hm:m.Moves.length≤4194304) {s:T16} {x:T3} {i:Nat} {y:T9} (h1:m.Moves[i]? = some y) (h2:hitM y s.At x=true):∃ k:Nat,z34 N m s.At x=some (k:Int):=by
 obtain ⟨z,_,e,h⟩:=move_both hN m hm s x
 rcases h with ⟨_,h⟩ | ⟨k,_,rfl,_,_⟩
 ·rw [h i y h1] at h2;cases h2
 ·exact ⟨k,e⟩
theorem pend_len (c:Ctx0 N g m) (hX:AgrX g m) {l:List T3} {j:Nat} {t:T16} {x:T3} (hI:InvF g m l j t) (hj:j < l.length) {i:Nat} {y:T9} {d:T0} (hy:m.Moves[i]? = some y) (hh:hitM y t.At x=true) (hd:idx g.Decls x.Label=some d) (hfl:FitsL d.Fields x.Values) (hag:y.Again=true):t.Pending.length=x.Values.length:=by
 have hap:=apM_iff.1 hX.mv.ap
 obtain ⟨g1,g2⟩:=hap i y hy
 obtain ⟨a1,a2,_⟩:=(agM_iff y).1 g1 hag
 rw [hit_iff'] at hh
 by_cases hj0:j=0
 ·exact absurd (hh.1.trans (hI.z hj0)) a2
 ·obtain ⟨j',rfl⟩:∃ z,j=z+1:=⟨j-1,by omega⟩
  have hx':=List.getElem?_eq_getElem (show j' < l.length by omega)
  obtain ⟨k',u,hu,hu1,hu2,hu3⟩:=hI.b j' _ rfl hx'
  obtain ⟨s1,s2⟩:=((prM_iff y i u k').1 (g2 k' u hu)).2 hag (by rw [hu1,hh.1])
  obtain ⟨d',hd',hf'⟩:=hI.f j' _ rfl hx'
  have hp:=hI.p j' _ rfl hx'
  rw [hu2] at s1
  rw [s1] at hp
  have hp:t.Pending=(l[j']).Values:=hp
  rw [← hu3,s2,hh.2.2.2,hd] at hd'
  cases hd'
  rw [hp,← hf'.1,hfl.1]
theorem ne_at {x p:List T12} {q:Nat} (hlen:p.length=x.length) (hne:x≠p) (hle:q≤x.length) (hpre:∀ i,i < q→∃ v,x[i]? = some v∧p[i]? = some v) (hdif:q < x.length→x[q]? ≠ p[q]?):∃ a b,x[q]? = some a∧p[q]? = some b∧a≠b:=by
 have hq:q < x.length:=by
  refine Nat.lt_of_le_of_ne hle fun e=>hne ?_
  subst e
  refine List.ext_getElem? fun z=>?_
  by_cases hz:z < x.length
  ·obtain ⟨v,w1,w2⟩:=hpre z hz
   rw [w1,w2]
  ·rw [List.getElem?_eq_none (by omega),List.getElem?_eq_none (by omega)]
 have c1:=List.getElem?_eq_getElem hq
 have c2:=List.getElem?_eq_getElem (show q < p.length by omega)
 have:=hdif hq
 rw [c1,c2] at this
 exact ⟨_,_,c1,c2,fun e=>this (by rw [e])⟩
theorem hold_at (c:Ctx0 N g m) {t:T16} (hS:StM g m t) {d:T0} {x:T3} {first:Nat} (hfl:FitsL d.Fields x.Values) (hf:d.First=(first:Int)) (hle:first+x.Values.length≤t.Known.length) (hin:InG t.Known.length d.Guard) (hkn:KnownL (flat g.Decls) (behindV first x.Values t.Known)) {j:Nat} (hj:j < d.Guard.Diffs.length+d.Guard.Equals.length) :
  z50 N d x.Values t.Known (j:Int)=some (partB d.Guard (behindV first x.Values t.Known) j) :=
 holds_eq d hf hfl hle (stM_known c hS) (num_all hkn) hin hj
theorem refKind_eq (c:Ctx0 N g m) (hX:AgrX g m) {l:List T3} {j:Nat} {t:T16} {x:T3} (hS:StM g m t) (hI:InvF g m l j t) (hj:j < l.length) (hx:SizeE x) {q:T16 × Int} (hR:StepR (N:=N) g m t x q) {e k p:Int} (he:q.2=e) (hk:KindP g m t x e k p) (vb:Int) :
  z40_k1 N g m (t,(j:Int),e) x vb=some (⟨(j:Int),k,p,bif k==1 then x.Role else vb⟩,true,0):=by
 have hN:=c.hN
 have hm:m.Moves.length≤4194304:=by have:=c.a.n.n;omega
 have role:x.Role=m.Role→(x.Role != m.Role)=false:=fun h=>by simp [h]
 have mv:e=11∨e=17→∃ k:Nat,z34 N m t.At x=some (k:Int):=fun h=>by
  obtain ⟨i,y,h1,h2⟩:=hit_of hR (by rw [he];exact h)
  exact refMove_hit hN hm h1 h2
 have nn:∀ k:Nat,decide ((k:Int) < 0)=false:=fun k=>by simp
 have nn':∀ k:Nat,decide ((k:Int)≥0)=true:=fun k=>by simp
 have m1:decide ((-1:Int)≥0)=false:=rfl
 unfold z40_k1
 cases hk with
 | stranger h =>
  rw [show (x.Role != m.Role)=true by simp [h]];rfl
 | move h hno =>
  rw [role h]
  obtain ⟨z,_,ez,hz⟩:=move_both hN m hm t x
  rcases hz with ⟨rfl,_⟩ | ⟨i,y,rfl,h1,h2⟩
  ·simp only [cond_false,ez,bS];rfl
  ·rw [hno i y h1] at h2;cases h2
 | count h hd hne =>
  obtain ⟨z,ez⟩:=mv (.inl rfl)
  rw [role h]
  simp only [cond_false,ez,bS,nn,hd]
  rw [lenI_ne,dF hne];rfl
 | sort h hd hlen hf hv hbad hgood =>
  obtain ⟨z,ez⟩:=mv (.inl rfl)
  rw [role h]
  simp only [cond_false,ez,bS,nn,hd]
  rw [lenI_ne,dT hlen,sort_some hN hx.l hx.s hlen hf hv hbad hgood]
  simp only [Bool.not_true,cond_false,bS,nn',cT];rfl
 | guard h hd hfl hf hle hin hkn hj' hbad hgood =>
  obtain ⟨z,ez⟩:=mv (.inr rfl)
  rename_i d i first
  have hg:z86 N d x.Values t.Known=some (i:Int):=by
   have hl:=hin.dl
   have hl2:=hin.el
   refine loop_to (F:=z86_l2 N d x.Values t.Known) (j:=i) (fun z n hz=>?_) (fun n=>?_) i N 0 (by omega) (by omega)
   ·rw [guard_next ⟨hin.dl,hin.el⟩ (by omega) (hold_at c hS hfl hf hle hin hkn (by omega)),hgood z hz];rfl
   ·rw [guard_next ⟨hin.dl,hin.el⟩ hj' (hold_at c hS hfl hf hle hin hkn hj'),hbad];rfl
  rw [role h]
  simp only [cond_false,ez,bS,nn,hd]
  rw [lenI_ne,dT hfl.1.symm,sort_none hN hx.l hx.s hfl]
  simp only [Bool.not_true,cond_false,bS,m1,hg,nn',cT];rfl
 | same h hy hh hd hfl hag hne hle' hpre hdif hf hle hin hkn hgood =>
  obtain ⟨z,ez⟩:=mv (.inr rfl)
  rename_i i y d q' first
  have hg:z86 N d x.Values t.Known=some (-1):=by
   have hl:=hin.dl
   have hl2:=hin.el
   refine loop_to (F:=z86_l2 N d x.Values t.Known) (j:=d.Guard.Diffs.length+d.Guard.Equals.length) (fun z n hz=>?_) (fun n=>guard_end ⟨hin.dl,hin.el⟩ n) (d.Guard.Diffs.length+d.Guard.Equals.length) N 0 (by omega) (by omega)
   rw [guard_next ⟨hin.dl,hin.el⟩ hz (hold_at c hS hfl hf hle hin hkn hz),hgood z hz];rfl
  obtain ⟨a,b,c1,c2,c3⟩:=ne_at (pend_len c hX hI hj hy hh hd hfl hag) hne hle' hpre hdif
  rw [role h]
  simp only [cond_false,ez,bS,nn,hd]
  rw [lenI_ne,dT hfl.1.symm,sort_none hN hx.l hx.s hfl]
  simp only [Bool.not_true,cond_false,bS,m1,hg]
  rw [differ_at hx.l c1 c2 c3 hpre hN];rfl
theorem refFind_eq (hN:4194304 < N) (hg:SizeG g) (hs:SizeN g) (hn:NumE g) (ht:m.Timeouts.length≤4194304) (l:List T3) (hl:l.length≤4194304) (he:∀ x∈l,SizeE x) :
  (∃ e,z39 N g m l=some (zeroB,false,e)∧z40 N g m l=some (zeroB,false,e)) ∨
  (∃ (t:T16) (j:Nat) (x:T3) (e k p r:Int),Ctx0 N g m∧l[j]? = some x∧KindP g m t x e k p∧z39 N g m l=some (⟨(j:Int),k,p,r⟩,true,0)∧z40 N g m l=some (⟨(j:Int),k,p,r⟩,true,0)):=by
 obtain ⟨q,r1,r2,_,_⟩:=Run_both hN hg hs hn ht l hl he
 rcases Find_eq hN hg hs hn ht l hl he with ⟨t,j,e,hr,h,hf⟩ | ⟨t,j,x,e,k,p,c,hX,hr,he0,he1,hrv,hx,hse,hS,hI,hk,hf⟩
 ·refine .inl ⟨e,hf,?_⟩
  rw [r1] at hr
  cases hr
  unfold z40
  rw [r2]
  rcases h with rfl | rfl<;>rfl
 ·have hxs:=he x (List.mem_of_getElem? hx)
  have hj:=(List.getElem?_eq_some_iff.1 hx).1
  obtain ⟨_,hR⟩:=refStep_eq c hn hS hxs
  rw [r1] at hr
  cases hr
  refine .inr ⟨t,j,x,e,k,p,_,c,hx,hk,hf,?_⟩
  unfold z40
  rw [r2]
  have b1:(e==1)=false:=by simp [he1]
  have b0:(e==0)=false:=by simp [he0]
  simp only [bS,b1,b0,cond_false,idx_nat,hx]
  have key:=fun vb=>refKind_eq c hX hS hI hj hxs hR hse hk vb
  cases x.Send with
  | true=>exact key _
  | false=>exact key _
end Gp
end
section
namespace Gp
open Go Go.Kx Gx
variable {N:Nat} {g:T5} {m:T8}
def rtail (N:Nat) (g_:T5) (m_:T8) (b_:T13) (x2:T3) (x4:ByteArray):Option (ByteArray × Int) :=
 bif (b_.Kind==(1:Int)) then ((catS x4 (str [105,115,32,110,111,116,32,97,110,32,101,118,101,110,116,32,111,102,32])).bind fun x5 =>
 (z89 N g_ m_.Role).bind fun x6 =>
 (catS x5 x6).bind fun x7 =>
 some (x7,(0:Int)))
 else bif (b_.Kind==(2:Int)) then ((catS x4 (str [105,115,32,110,111,116,32,112,101,114,109,105,116,116,101,100,32,104,101,114,101])).bind fun x8 =>
 some (x8,(0:Int)))
 else bif (b_.Kind==(3:Int)) then ((catS x4 (str [104,97,115,32])).bind fun x9 =>
 (z90 N (x2.Values.length:Int)).bind fun x10 =>
 (catS x9 x10).bind fun x11 =>
 (catS x11 (str [32,118,97,108,117,101,115,32,105,110,115,116,101,97,100,32,111,102,32])).bind fun x12 =>
 (idx g_.Decls x2.Label).bind fun x13 =>
 (z90 N (x13.Fields.length:Int)).bind fun x14 =>
 (catS x12 x14).bind fun x15 =>
 some (x15,(0:Int)))
 else bif (b_.Kind==(4:Int)) then ((idx g_.Decls x2.Label).bind fun x16 =>
 (idx x16.Fields b_.Part).bind fun x17 =>
 (catS x4 (str [104,97,115,32,116,104,101,32,118,97,108,117,101,32])).bind fun x18 =>
 (idx x2.Values b_.Part).bind fun x19 =>
 (z91 N x19).bind fun x20 =>
 (catS x18 x20).bind fun x21 =>
 (catS x21 (str [32,102,111,114,32])).bind fun x22 =>
 (catS x22 x17.Name).bind fun x23 =>
 (catS x23 (str [44,32,119,104,105,99,104,32,105,115,32,110,111,116,32,102,114,111,109,32])).bind fun x24 =>
 (z90 N x17.Sort'.Lo).bind fun x25 =>
 (catS x24 x25).bind fun x26 =>
 (catS x26 (str [32,116,111,32])).bind fun x27 =>
 (z90 N x17.Sort'.Hi).bind fun x28 =>
 (catS x27 x28).bind fun x29 =>
 some (x29,(0:Int)))
 else bif (b_.Kind==(5:Int)) then ((catS x4 (str [100,111,101,115,32,110,111,116,32,107,101,101,112,32,116,104,101,32,103,117,97,114,100,32])).bind fun x30 =>
 (z47 N g_.Decls x2.Label b_.Part).bind fun x31 =>
 (catS x30 x31).bind fun x32 =>
 some (x32,(0:Int)))
 else (catS x4 (str [100,111,101,115,32,110,111,116,32,104,97,118,101,32,116,104,101,32,115,97,109,101,32,118,97,108,117,101,115,32,97,115,32,116,104,101,32,109,101,115,115,97,103,101,32,97,104,101,97,100])).bind fun x33 =>
 some (x33,(0:Int))
theorem reason_both (c:Ctx0 N g m) {t:T16} {x:T3} (hS:ShowOk g x) {e k p:Int} (hk:KindP g m t x e k p) (hp:I64 p) (j r:Int) {S:List UInt8} (hSl:S.length≤35184600000000) :
  ∃ R:List UInt8,R.length≤134217728∧z88 N g m ⟨j,k,p,r⟩ x=some (mkB R)∧rtail N g m ⟨j,k,p,r⟩ x (mkB S)=some (mkB (S++R),0):=by
 have hN:=c.hN
 obtain ⟨v1,v2⟩:=valid_len c.a.v
 have last:(∀ s:List UInt8,s=[100,111,101,115,32,110,111,116,32,104,97,118,101,32,116,104,101,32,115,97,109,101,32,118,97,108,117,101,115,32,97,115,32,116,104,101,32,109,101,115,115,97,103,101,32,97,104,101,97,100]→s.length=50):=fun s h=>by rw [h];rfl
 cases hk with
 | stranger h =>
  have a1:=(hS.sizes).1 m.Role
  refine ⟨[105,115,32,110,111,116,32,97,110,32,101,118,101,110,116,32,111,102,32]++bs (nameV g.Roles m.Role),by simp;omega,?_,?_⟩
  ·show (Option.bind (z93 N g.Roles m.Role) _)=_
   rw [bname_eq,bS]
   show (Option.bind (catS (mkB [105,115,32,110,111,116,32,97,110,32,101,118,101,110,116,32,111,102,32]) _) _)=_
   rw [cat_sb (by simp;omega)];rfl
  ·show (Option.bind (catS (mkB S) (mkB [105,115,32,110,111,116,32,97,110,32,101,118,101,110,116,32,111,102,32])) _)=_
   rw [cat_mk (by simp;omega),bS,role_eq,bS,cat_sb (by simp;omega),bS,aA]
 | move h hno =>
  refine ⟨[105,115,32,110,111,116,32,112,101,114,109,105,116,116,101,100,32,104,101,114,101],by simp,rfl,?_⟩
  show (Option.bind (catS (mkB S) (mkB [105,115,32,110,111,116,32,112,101,114,109,105,116,116,101,100,32,104,101,114,101])) _)=_
  rw [cat_mk (by simp;omega),bS]
 | count h hd hne =>
  rename_i d
  obtain ⟨i,_,hi⟩:=idx_mem hd
  have hfl:d.Fields.length≤4:=by
   obtain ⟨_,_,_,_,_,h2⟩:=valid_at c.a.v hi
   unfold declV at h2
   simp only [Bool.and_eq_true,decide_eq_true_eq] at h2
   exact h2.2.1
  have hl:=hS.l
  have i1:I64 (x.Values.length:Int):=⟨by omega,by omega⟩
  have i2:I64 (d.Fields.length:Int):=⟨by omega,by omega⟩
  have l1:=itoa_bs (x.Values.length:Int)
  have l2:=itoa_bs (d.Fields.length:Int)
  refine ⟨[104,97,115,32]++bs (itoaS (x.Values.length:Int))++[32,118,97,108,117,101,115,32,105,110,115,116,101,97,100,32,111,102,32]++bs (itoaS (d.Fields.length:Int)),by simp;omega,?_,?_⟩
  ·show (Option.bind (z164 N (x.Values.length:Int)) _)=_
   rw [itoa_eq i1,bS,show str [104,97,115,32]=mkB [104,97,115,32] from rfl,cat_sb (by simp;omega),bS,show str [32,118,97,108,117,101,115,32,105,110,115,116,101,97,100,32,111,102,32]=mkB [32,118,97,108,117,101,115,32,105,110,115,116,101,97,100,32,111,102,32] from rfl,cat_mk (by simp;omega),bS]
   simp only [hd,bS]
   rw [itoa_eq i2,bS,cat_sb (by simp;omega)];rfl
  ·show (Option.bind (catS (mkB S) (mkB [104,97,115,32])) _)=_
   rw [cat_mk (by simp;omega),bS,digits09_eq hN i1,bS,cat_sb (by simp;omega),bS,show str [32,118,97,108,117,101,115,32,105,110,115,116,101,97,100,32,111,102,32]=mkB [32,118,97,108,117,101,115,32,105,110,115,116,101,97,100,32,111,102,32] from rfl,cat_mk (by simp;omega),bS]
   simp only [hd,bS]
   rw [digits09_eq hN i2,bS,cat_sb (by simp;omega),bS]
   simp only [aA]
 | sort h hd hlen hf hv hbad hgood =>
  rename_i d q f v
  obtain ⟨i,_,hi⟩:=idx_mem hd
  have hso:=sortOk_of c.a.v (List.mem_of_getElem? hi) (List.mem_of_getElem? hf)
  have i1:I64 f.Sort'.Lo:=by unfold sortOk at hso;constructor<;>omega
  have i2:I64 f.Sort'.Hi:=by unfold sortOk at hso;constructor<;>omega
  have l1:=itoa_bs f.Sort'.Lo
  have l2:=itoa_bs f.Sort'.Hi
  have nv:=hS.v v (List.mem_of_getElem? hv)
  have l3:=showV_len nv.s
  have l4:=(c.ss.d d (List.mem_of_getElem? hi)).f f (List.mem_of_getElem? hf)
  rw [size_bs] at l4
  refine ⟨[104,97,115,32,116,104,101,32,118,97,108,117,101,32]++showV v++[32,102,111,114,32]++bs f.Name++[44,32,119,104,105,99,104,32,105,115,32,110,111,116,32,102,114,111,109,32]++bs (itoaS f.Sort'.Lo)++[32,116,111,32]++bs (itoaS f.Sort'.Hi),by simp;omega,?_,?_⟩
  ·show (Option.bind (idx g.Decls x.Label) _)=_
   rw [hd,bS]
   show (Option.bind (idx d.Fields (q:Int)) _)=_
   rw [idx_nat,hf,bS]
   show (Option.bind (idx x.Values (q:Int)) _)=_
   rw [idx_nat,hv,bS,show_eq hN nv,bS,show str [104,97,115,32,116,104,101,32,118,97,108,117,101,32]=mkB [104,97,115,32,116,104,101,32,118,97,108,117,101,32] from rfl,cat_mk (by simp;omega),bS,
    show str [32,102,111,114,32]=mkB [32,102,111,114,32] from rfl,cat_mk (by simp;omega),bS,cat_sb (by simp;omega),bS,
    show str [44,32,119,104,105,99,104,32,105,115,32,110,111,116,32,102,114,111,109,32]=mkB [44,32,119,104,105,99,104,32,105,115,32,110,111,116,32,102,114,111,109,32] from rfl,cat_mk (by simp;omega),bS,itoa_eq i1,bS,cat_sb (by simp;omega),bS,
    show str [32,116,111,32]=mkB [32,116,111,32] from rfl,cat_mk (by simp;omega),bS,itoa_eq i2,bS,cat_sb (by simp;omega)];rfl
  ·show (Option.bind (idx g.Decls x.Label) _)=_
   rw [hd,bS]
   show (Option.bind (idx d.Fields (q:Int)) _)=_
   rw [idx_nat,hf,bS,show str [104,97,115,32,116,104,101,32,118,97,108,117,101,32]=mkB [104,97,115,32,116,104,101,32,118,97,108,117,101,32] from rfl,cat_mk (by simp;omega),bS]
   show (Option.bind (idx x.Values (q:Int)) _)=_
   rw [idx_nat,hv,bS,show15_eq hN nv,bS,cat_mk (by simp;omega),bS,
    show str [32,102,111,114,32]=mkB [32,102,111,114,32] from rfl,cat_mk (by simp;omega),bS,cat_sb (by simp;omega),bS,
    show str [44,32,119,104,105,99,104,32,105,115,32,110,111,116,32,102,114,111,109,32]=mkB [44,32,119,104,105,99,104,32,105,115,32,110,111,116,32,102,114,111,109,32] from rfl,cat_mk (by simp;omega),bS,digits09_eq hN i1,bS,cat_sb (by simp;omega),bS,
    show str [32,116,111,32]=mkB [32,116,111,32] from rfl,cat_mk (by simp;omega),bS,digits09_eq hN i2,bS,cat_sb (by simp;omega),bS]
   simp only [aA]
 | guard h hd hfl hf hle hin hkn hj' hbad hgood =>
  rename_i d q first
  obtain ⟨s,b1,b2,b3⟩:=atom_both hN g.Decls (by omega) c.gg.dd c.ss.d (at':=x.Label) hp
  refine ⟨[100,111,101,115,32,110,111,116,32,107,101,101,112,32,116,104,101,32,103,117,97,114,100,32]++s,by simp;omega,?_,?_⟩
  ·show (Option.bind (z46 N g.Decls x.Label (q:Int)) _)=_
   rw [b2,bS,show str [100,111,101,115,32,110,111,116,32,107,101,101,112,32,116,104,101,32,103,117,97,114,100,32]=mkB [100,111,101,115,32,110,111,116,32,107,101,101,112,32,116,104,101,32,103,117,97,114,100,32] from rfl,cat_mk (by simp;omega)];rfl
  ·show (Option.bind (catS (mkB S) (mkB [100,111,101,115,32,110,111,116,32,107,101,101,112,32,116,104,101,32,103,117,97,114,100,32])) _)=_
   rw [cat_mk (by simp;omega),bS]
   show (Option.bind (z47 N g.Decls x.Label (q:Int)) _)=_
   rw [b3,bS,cat_mk (by simp;omega),bS,aA]
 | same h hy hh hd hfl hag hne hle' hpre hdif hf hle hin hkn hgood =>
  refine ⟨[100,111,101,115,32,110,111,116,32,104,97,118,101,32,116,104,101,32,115,97,109,101,32,118,97,108,117,101,115,32,97,115,32,116,104,101,32,109,101,115,115,97,103,101,32,97,104,101,97,100],by simp,rfl,?_⟩
  show (Option.bind (catS (mkB S) (mkB [100,111,101,115,32,110,111,116,32,104,97,118,101,32,116,104,101,32,115,97,109,101,32,118,97,108,117,101,115,32,97,115,32,116,104,101,32,109,101,115,115,97,103,101,32,97,104,101,97,100])) _)=_
  rw [cat_mk (by simp;omega),bS]
theorem part_i64 (c:Ctx0 N g m) {t:T16} {x:T3} (hl:x.Values.length≤4194304) {e k p:Int} (hk:KindP g m t x e k p):I64 p:=by
 cases hk with
 | stranger h=>exact ⟨by omega,by omega⟩
 | move h hno=>exact ⟨by omega,by omega⟩
 | count h hd hne=>exact ⟨by omega,by omega⟩
 | sort h hd hlen hf hv hbad hgood =>
  have:=(List.getElem?_eq_some_iff.1 hv).1
  exact ⟨by omega,by omega⟩
 | guard h hd hfl hf hle hin hkn hj' hbad hgood =>
  have:=hin.dl
  have:=hin.el
  exact ⟨by omega,by omega⟩
 | same h hy hh hd hfl hag hne hle' hpre hdif hf hle hin hkn hgood=>exact ⟨by omega,by omega⟩
theorem find_law (hN:4194304 < N) (ha:z37 N=some true) (hg:SizeG g) (hs:SizeN g) (hn:NumE g) (ht:m.Timeouts.length≤4194304) (l:List T3) (hl:l.length≤4194304) (he:∀ x∈l,SizeE x) (hso:∀ x∈l,ShowOk g x):law41_BlameFind N g m l=some true:=by
 unfold law41_BlameFind
 obtain ⟨b,eb⟩:=few_tot hN g hg m l hl he
 rw [ha,eb]
 simp only [bS,Bool.not_true,cond_false]
 cases b with
 | false=>rfl
 | true =>
 simp only [Bool.not_true,cond_false]
 have eqs:∀ (j k p r:Int),((j==j) && ((k==k) && ((p==p) && ((r==r) && true))))=true:=fun j k p r=>by simp
 rcases refFind_eq hN hg hs hn ht l hl he with ⟨e,h1,h2⟩ | ⟨t,j,x,e,k,p,r,c,hx,hk,h1,h2⟩
 ·have e1:∃ q,z41 N g m l=some (str [],q)∧z42 N g m l=some (str [],q):=by
   refine ⟨e,?_,?_⟩
   ·unfold z41
    rw [h1]
    simp only [bS]
    cases (e != 0)<;>rfl
   ·unfold z42
    rw [h2];rfl
  obtain ⟨q,e1,e2⟩:=e1
  rw [h1,h2,e1,e2]
  simp only [bS,beq_self_eq_true,Bool.and_self,cT]
 ·have hxs:=he x (List.mem_of_getElem? hx)
  have hS:=hso x (List.mem_of_getElem? hx)
  have hsl:=showE_len hS
  obtain ⟨R,b1,b2,b3⟩:=reason_both c hS hk (part_i64 c hxs.l hk) (j:Int) r (S:=showE g x++[32]) (by simp;omega)
  have e1:z41 N g m l=some (mkB (showE g x++[32]++R),0):=by
   unfold z41
   rw [h1]
   have b0:((0:Int) != 0)=false:=rfl
   simp only [bS,b0,Bool.not_true,cond_false,idx_nat,hx]
   rw [bShow_eq hN hS,bS,show str [32]=mkB [32] from rfl,cat_mk (by simp;omega),bS,b2,bS,cat_mk (by simp;omega),bS]
  have e2:z42 N g m l=some (mkB (showE g x++[32]++R),0):=by
   unfold z42
   rw [h2]
   simp only [bS,Bool.not_true,cond_false,idx_nat,hx]
   rw [rShow_eq hN hS,bS,show str [32]=mkB [32] from rfl,cat_mk (by simp;omega),bS]
   exact b3
  rw [h1,h2,e1,e2]
  simp only [bS,beq_self_eq_true,Bool.and_self,cT]
end Gp
end
section
namespace Gx
open Go Go.Kx
def k_api_Sort (x:T10):Prop:=((Lit.int .i64 x.Kind).wf=true)∧((Lit.int .i64 x.Lo).wf=true)∧((Lit.int .i64 x.Hi).wf=true)
def k_api_Field (x:T4):Prop:=(x.Name.size≤bd)∧(k_api_Sort x.Sort')
def k_api_Diff (x:T1):Prop:=((Lit.int .i64 x.X).wf=true)∧((Lit.int .i64 x.Y).wf=true)∧((Lit.int .i64 x.C).wf=true)
def k_api_Guard (x:T6):Prop:=(x.Diffs.length≤bd∧∀ y∈x.Diffs,k_api_Diff y)∧(x.Equals.length≤bd∧∀ y∈x.Equals,((Lit.int .i64 y.1).wf=true)∧((Lit.int .i64 y.2).wf=true))
def k_api_Decl (x:T0):Prop:=(x.Name.size≤bd)∧(x.Fields.length≤bd∧∀ y∈x.Fields,k_api_Field y)∧((Lit.int .i64 x.First).wf=true)∧(k_api_Guard x.Guard)
def k_api_Interaction (x:T7):Prop:=((Lit.int .i64 x.From).wf=true)∧((Lit.int .i64 x.To).wf=true)∧((Lit.int .i64 x.Label).wf=true)
def k_api_Edge (x:T2):Prop:=((Lit.int .i64 x.From).wf=true)∧(k_api_Interaction x.Act)∧((Lit.int .i64 x.To).wf=true)∧(True)
def k_api_Timeout (x:T11):Prop:=((Lit.int .i64 x.State).wf=true)∧((Lit.int .i64 x.Ticks).wf=true)∧((Lit.int .i64 x.Else).wf=true)
def k_api_Global (x:T5):Prop:=(x.Name.size≤bd)∧(x.Roles.length≤bd∧∀ y∈x.Roles,y.size≤bd)∧(x.Decls.length≤bd∧∀ y∈x.Decls,k_api_Decl y)∧((Lit.int .i64 x.States).wf=true)∧((Lit.int .i64 x.Start).wf=true)∧((Lit.int .i64 x.End).wf=true)∧(x.Edges.length≤bd∧∀ y∈x.Edges,k_api_Edge y)∧(x.Timeouts.length≤bd∧∀ y∈x.Timeouts,k_api_Timeout y)
def k_api_Move (x:T9):Prop:=((Lit.int .i64 x.From).wf=true)∧(True)∧((Lit.int .i64 x.Peer).wf=true)∧((Lit.int .i64 x.Label).wf=true)∧((Lit.int .i64 x.To).wf=true)∧(True)
def k_api_Machine (x:T8):Prop:=((Lit.int .i64 x.Role).wf=true)∧((Lit.int .i64 x.States).wf=true)∧((Lit.int .i64 x.Start).wf=true)∧(x.Finals.length≤bd∧∀ y∈x.Finals,True)∧(x.Moves.length≤bd∧∀ y∈x.Moves,k_api_Move y)∧(x.Timeouts.length≤bd∧∀ y∈x.Timeouts,k_api_Timeout y)
def k_api_Value (x:T12):Prop:=((Lit.int .i64 x.Kind).wf=true)∧((Lit.int .i64 x.N).wf=true)∧(x.S.size≤bd)
def k_api_Event (x:T3):Prop:=((Lit.int .i64 x.Role).wf=true)∧(True)∧((Lit.int .i64 x.Peer).wf=true)∧((Lit.int .i64 x.Label).wf=true)∧(x.Values.length≤bd∧∀ y∈x.Values,k_api_Value y)
end Gx
end
section
namespace Gp
open Go Go.Kx Gx
set_option maxRecDepth 100000
theorem awake_some (k:Nat):z37 (k+300)=some true:=by kernel_rfl
theorem sizeD_of {x:T0} (h:k_api_Decl x):SizeD x:=by
 obtain ⟨_,h1,_,h2⟩:=h
 exact ⟨by have:=h1.1;unfold bd at this;omega,by have:=h2.1.1;unfold bd at this;omega,by have:=h2.2.1;unfold bd at this;omega⟩
theorem nameD_of {x:T0} (h:k_api_Decl x):NameD x:=by
 obtain ⟨h0,h1,_,h2⟩:=h
 exact ⟨by unfold bd at h0;omega,fun f hf=>by have:=(h1.2 f hf).1;unfold bd at this;omega⟩
theorem sizeE_of {x:T3} (h:k_api_Event x):SizeE x:=by
 obtain ⟨_,_,_,_,h1,h2⟩:=h
 exact ⟨by unfold bd at h1;omega,fun v hv=>by have:=(h2 v hv).2.2;unfold bd at this;omega⟩
theorem i64_of {n:Int} (h:(Lit.int .i64 n).wf=true):I64 n:=by
 simp [Lit.wf,IntKind.min,IntKind.max,IntKind.signed,IntKind.bits] at h
 constructor<;>omega
theorem numE_of {x:T5} (h:k_api_Global x):NumE x:=by
 obtain ⟨_,h1,h2,_,_,_,h3,h4⟩:=h
 intro e he
 have:=(h3.2 e he).2.1
 exact ⟨i64_of this.2.1,i64_of this.2.2⟩
theorem showOk_of {g:T5} {x:T3} (hg:k_api_Global g) (hx:k_api_Event x):ShowOk g x:=by
 obtain ⟨_,g2,g3,_⟩:=hg
 obtain ⟨_,_,_,_,h1,h2⟩:=hx
 refine ⟨fun s hs=>?_,?_,fun y hy=>?_,?_,fun v hv=>⟨i64_of (h2 v hv).2.1,?_⟩⟩
 ·have:=g2.2 s hs;unfold bd at this;omega
 ·have:=g3.1;unfold bd at this;omega
 ·have:=(g3.2 y hy).1;unfold bd at this;omega
 ·unfold bd at h1;omega
 ·have:=(h2 v hv).2.2;unfold bd at this;omega
theorem plain:∀ (x0:T5) (x1:T8) (x2:(List T3)),k_api_Global x0→k_api_Machine x1→(x2.length≤bd∧∀ y∈x2,k_api_Event y)→∃ N,law41_BlameFind N x0 x1 x2=some true:=by
 intro g m l hg hm hl
 have hn:=numE_of hg
 have hg0:=hg
 obtain ⟨g1,g2,g3,_,_,_,g4,g5⟩:=hg
 obtain ⟨_,_,_,_,_,m1⟩:=hm
 refine ⟨33554432+300,find_law (by omega) (awake_some _) ⟨?_,?_,fun x hx=>sizeD_of (g3.2 x hx),?_,?_⟩ ⟨?_,fun s hs=>?_,fun x hx=>nameD_of (g3.2 x hx)⟩ hn ?_ l ?_ (fun x hx=>sizeE_of (hl.2 x hx)) fun x hx=>showOk_of hg0 (hl.2 x hx)⟩
 ·have:=g2.1;unfold bd at this;omega
 ·have:=g3.1;unfold bd at this;omega
 ·have:=g4.1;unfold bd at this;omega
 ·have:=g5.1;unfold bd at this;omega
 ·unfold bd at g1;omega
 ·have:=g2.2 s hs;unfold bd at this;omega
 ·have:=m1.1;unfold bd at this;omega
 ·have:=hl.1;unfold bd at this;omega
end Gp
end
