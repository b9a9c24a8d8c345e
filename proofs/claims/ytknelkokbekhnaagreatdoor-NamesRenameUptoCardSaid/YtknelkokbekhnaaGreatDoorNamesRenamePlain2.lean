/- The plain law, part 2: what the functions compute answers as the statement says. -/
import Derived.Test.YtknelkokbekhnaaGreatDoorNamesRenamePlain1
set_option linter.all false
section
namespace Gp
open Go Go.Kx Gx
def hereC (x:T13):List ByteArray:=if x.Kind=6 then [x.Name] else []
mutual
def cnI:T13→List ByteArray
 | ⟨k,f,t,n,a,x,b⟩=>hereC ⟨k,f,t,n,a,x,b⟩++cnLL b
def cnL:List T13→List ByteArray
 | []=>[]
 | x::l=>cnI x++cnL l
def cnLL:List (List T13)→List ByteArray
 | []=>[]
 | b::r=>cnL b++cnLL r
end
theorem cnI_eq (x:T13):cnI x=hereC x++cnLL x.Blocks:=by cases x;simp only [cnI]
theorem cnL_fold:∀ (l:List T13) (s:List ByteArray),l.foldl (fun s x=>s++cnI x) s=s++cnL l
 | [],s=>by simp [cnL]
 | x::l,s=>by rw [List.foldl_cons,cnL_fold l];simp only [cnL,aA]
theorem cnLL_fold:∀ (l:List (List T13)) (s:List ByteArray),l.foldl (fun s x=>s++cnL x) s=s++cnLL l
 | [],s=>by simp [cnLL]
 | x::l,s=>by rw [List.foldl_cons,cnLL_fold l];simp only [cnLL,aA]
mutual
theorem cn_I:∀ x,(cnI x).length≤cI x
 | ⟨k,f,t,n,a,x,b⟩=>by
  have:=cn_LL b
  have h:(hereC ⟨k,f,t,n,a,x,b⟩).length≤1:=by unfold hereC;split<;>simp
  simp only [cnI,cI,lA]
  omega
theorem cn_L:∀ l,(cnL l).length≤cL l
 | []=>by simp [cnL,cL]
 | x::l=>by
  have:=cn_I x
  have:=cn_L l
  simp only [cnL,cL,lA]
  omega
theorem cn_LL:∀ l,(cnLL l).length≤cLL l
 | []=>by simp [cnLL,cLL]
 | x::l=>by
  have:=cn_L x
  have:=cn_LL l
  simp only [cnLL,cLL,lA]
  omega
end
theorem called_eq:∀ (N:Nat) (xs:List T13),4194306+dL xs≤N→xs.length≤4194304→bL xs→cL xs≤4194304→z61 N xs=some (cnL xs)
 | 0,_,h,_,_,_=>by omega
 | N+1,xs,h,hs,hb,hc=>by
  show z61_b N (z61 N) xs=_
  unfold z61_b
  have hN:4194304 < N:=by omega
  have inner:∀ (k:Nat) (x:T13) (s:List ByteArray) (ag:List ByteArray→Int→Option (List ByteArray)),xs[k]? = some x→s.length+cLL x.Blocks≤4194304 →
    z61_k5 N (z61 N) (k:Int) ag x s=ag (s++cnLL x.Blocks) ((k+1:Nat):Int):=by
   intro k x s ag hx hle
   have hm:=List.mem_of_getElem? hx
   have hbx:=(bI_eq _).1 (bL_mem hb hm)
   have hdx:=dL_mem hm
   rw [dI_eq] at hdx
   have hk:=get_lt hx
   unfold z61_k5
   have:=(fold_loop x.Blocks (z61_l4 (z61 N) (k:Int) ag x) (fun s b=>s++cnL b) (fun s=>ag s ((k+1:Nat):Int))
    (fun j s=>s.length+cLL (x.Blocks.drop j)≤4194304) (fun n j s b hi hj=>?_) (fun n j s hi hj=>?_) (N:=N) (s:=s) (by omega) (by rw [List.drop_zero];exact hle)).1
   ·rw [this,cnLL_fold]
   ·rw [drop_get hj] at hi
    simp only [cLL] at hi
    have hmb:=List.mem_of_getElem? hj
    have hbb:=bLL_mem hbx.2.2 hmb
    have hdb:=dLL_mem hmb
    have hcn:=cn_L b
    have e:=called_eq N b (by omega) hbb.1 hbb.2 (by omega)
    refine ⟨?_,by rw [lA];omega⟩
    simp only [z61_l4,lt_t (get_lt hj),cT,idx_nat,hj,bS,e]
    rw [appL_some (by omega),bS,w64_succ (by have:=get_lt hj;omega)]
   ·simp only [z61_l4,lt_f hj,cF,z61_k3]
    rw [w64_succ (by omega)]
  have:=(fold_loop xs (z61_l2 N (z61 N) xs) (fun s x=>s++cnI x) (fun s=>some s)
   (fun j s=>s.length+cL (xs.drop j)≤4194304) (fun n k s x hi hx=>?_) (fun n k s hi hk=>?_) (N:=N) (s:=[]) (by omega) (by rw [List.drop_zero];simpa using hc)).1
  ·rw [this,cnL_fold];simp
  ·rw [drop_get hx] at hi
   simp only [cL] at hi
   have hcx:=cI_eq x
   have hcn:=cn_I x
   refine ⟨?_,by rw [lA];omega⟩
   simp only [z61_l2,lt_t (get_lt hx),cT,idx_nat,hx,bS]
   rw [cnI_eq]
   unfold hereC
   by_cases h6:x.Kind=6
   ·rw [show (x.Kind==(6:Int))=true by simpa using h6,cT,appL_some (by simp;omega),bS,inner k x _ _ hx (by simp;omega),if_pos h6,aA]
   ·rw [show (x.Kind==(6:Int))=false by simpa using h6,cF,inner k x _ _ hx (by omega),if_neg h6,List.nil_append]
  ·simp only [z61_l2,lt_f hk,cF,z61_k1]
theorem lsl_dr {α:Type} {xs:List α} {k:Nat} (h:k≤xs.length):lsl xs (some (k:Int)) none=some (xs.drop k):=by
 unfold lsl bnd
 have h1:decide ((0:Int)≤(k:Int))=true:=by simp
 have h2:decide ((k:Int)≤(xs.length:Int))=true:=by simp;exact h
 simp [h1,h2,h]
theorem clL_dr {α:Type} (z:α) {xs:List α} {k:Nat} (h:k≤xs.length):∃ ys,clL z xs (some (k:Int)) none=some ys∧ys.take k=xs.take k∧ys.length=xs.length:=by
 unfold clL bnd
 have h1:decide ((0:Int)≤(k:Int))=true:=by simp
 have h2:decide ((k:Int)≤(xs.length:Int))=true:=by simp;exact h
 refine ⟨xs.take k++List.replicate (xs.length-k) z,?_,?_,?_⟩
 ·simp [h1,h2,h]
 ·rw [List.take_append_of_le_length (by rw [List.length_take];omega),List.take_take];simp
 ·rw [lA,List.length_take,List.length_replicate];omega
theorem atI_first {α:Type} (p:α→Bool) (xs:List α) {i:Nat} (h:atI p xs=(i:Int)):∃ x,xs[i]? = some x∧p x=true∧∀ (j:Nat) y,j < i→xs[j]? = some y→p y=false:=by
 unfold atI at h
 cases e:xs.findIdx? p with
 | none=>rw [e] at h;simp at h
 | some k =>
  rw [e] at h
  have hk:k=i:=by simp at h;omega
  subst hk
  rw [List.findIdx?_eq_some_iff_getElem] at e
  obtain ⟨h1,h2,h3⟩:=e
  refine ⟨xs[k],List.getElem?_eq_getElem h1,h2,fun j y hj hy=>?_⟩
  have:=h3 j hj
  obtain ⟨_,rfl⟩:=List.getElem?_eq_some_iff.1 hy
  simpa using this
theorem take_suc {α:Type} {xs:List α} {k:Nat} {x:α} (h:xs[k]? = some x):xs.take (k+1)=xs.take k++[x]:=by
 obtain ⟨hk,rfl⟩:=List.getElem?_eq_some_iff.1 h
 rw [List.take_succ_eq_append_getElem hk]
theorem del_eq {N:Nat} (c:T5) (s:List ByteArray) (hs:s.length < N) (hb:s.length < 4611686018427387904) (ha:c.all'.length < N) (hab:c.all'.length < 4611686018427387904) :
  z64_47 N s c=some (s.filter fun x=>c.all'.any fun q=>q.Name.toList==x.toList):=by
 unfold z64_47
 rw [ix_chains_2 s c hs hb ha hab,bS]
 generalize hK:(fun x:ByteArray=>c.all'.any fun q=>q.Name.toList==x.toList)=K
 have hK2:(fun x:ByteArray => !(c.all'.any fun q=>q.Name.toList==x.toList))=fun x => !(K x):=by rw [← hK]
 rw [hK2]
 rcases atI_find (fun x:ByteArray => !(K x)) s with ⟨q1,q2⟩ | ⟨i0,x0,q1,q2,q3⟩
 ·rw [q1,show ((-1:Int)==-1)=true from rfl,cT]
  congr 1
  rw [List.find?_eq_none] at q2
  refine (List.filter_eq_self.2 fun x hx=>?_).symm
  have:=q2 x hx
  simpa using this
 ·have q4:=atI_first _ _ q1
  rw [q1,show ((i0:Int)==-1)=false by simp,cF]
  have hi0:=get_lt q2
  rw [w64_suc (by omega)]
  have al:∀ x,z65_45 N x c=some (!(K x)):=fun x=>by
   unfold z65_45
   rw [cf_chains_2_1 c.all' x ha hab,← hK];rfl
  have key:∀ (l:List ByteArray) (j i n:Nat) (v:List ByteArray),s.drop j=l→l.length < n→i < j→v.length=s.length→v.take i=(s.take j).filter K→v.drop j=s.drop j→i≤s.length →
    z64_47_l2 N c n v (i:Int) (j:Int)=some (s.filter K):=by
   intro l
   induction l with
   | nil =>
    intro j i n v h hn hij hv h1 h2 his
    obtain ⟨n,rfl⟩:∃ m,n=m+1:=⟨n-1,by simp at hn;omega⟩
    have hj:=drop_nil h
    have hil:i≤v.length:=by omega
    simp only [z64_47_l2]
    rw [show decide ((j:Int) < (v.length:Int))=false by simp;omega,cF]
    unfold z64_47_k1
    obtain ⟨ys,e1,e2,e3⟩:=clL_dr (str []) hil
    rw [lsl_dr hil,bS,e1,bS,lsl_tk (by omega),bS,e2,h1,List.take_of_length_le hj]
   | cons x l ih =>
    intro j i n v h hn hij hv h1 h2 his
    obtain ⟨n,rfl⟩:∃ m,n=m+1:=⟨n-1,by simp at hn;omega⟩
    obtain ⟨a,e,d⟩:=drop_cons h
    obtain ⟨a',e',d'⟩:=drop_cons (h2.trans h)
    simp only [z64_47_l2]
    rw [lt_t a',cT,idx_nat,e',bS,al,bS,Bool.not_not]
    have hvi:v[i]? = some v[i]:=List.getElem?_eq_getElem (by omega)
    cases hx:K x with
    | true =>
     rw [cT,idx_nat,hvi,bS,setL'_nat,w64_suc (by omega),w64_suc (by omega)]
     refine ih (j+1) (i+1) n (v.set i x) d (by simp at hn;omega) (by omega) (by rw [List.length_set];exact hv) ?_ ?_ (by omega)
     ·rw [take_suc e,List.filter_append,← h1,List.filter_cons,hx,take_suc (x:=x) (by rw [List.getElem?_set_self (by omega)]),List.take_set_of_le (Nat.le_refl _),if_pos rfl,List.filter_nil]
     ·rw [List.drop_set_of_lt (by omega),d',d]
    | false =>
     rw [cF,w64_suc (by omega)]
     refine ih (j+1) i n v d (by simp at hn;omega) (by omega) hv ?_ (by rw [d',d]) his
     rw [take_suc e,List.filter_append,← h1,List.filter_cons,hx]
     simp
  refine key _ (i0+1) i0 N s rfl (by rw [List.length_drop];omega) (by omega) rfl ?_ rfl (by omega)
  obtain ⟨y,hy,h1,h2⟩:=q4
  rw [take_suc hy,List.filter_append,List.filter_cons,if_neg (by simpa using h1),List.filter_nil,List.append_nil]
  refine (List.filter_eq_self.2 fun x hx=>?_).symm
  obtain ⟨j,hj⟩:=List.mem_iff_getElem?.1 hx
  have hjl:=get_lt hj
  rw [List.length_take] at hjl
  rw [List.getElem?_take,if_pos (by omega)] at hj
  have:=h2 j x (by omega) hj
  simpa using this
def CallsTo (all:List T15) (a b:ByteArray):Prop:=(∃ q,all.find? (fun q=>q.Name.toList==a.toList)=some q∧b∈cnL q.Body)∧∃ q∈all,q.Name=b
def PathTo (all:List T15):Nat→ByteArray→ByteArray→Prop
 | 0,a,b=>a=b
 | n+1,a,c=>∃ b,PathTo all n a b∧CallsTo all b c
def ChainOk (all:List T15) (p:T15):Prop:=∀ b,¬ PathTo all 5 p.Name b
def cAll (l:List T15):Nat:=(l.map fun q=>cL q.Body).sum
theorem first_iff (all:List T15) (k:Nat) (q:T15) (hq:all[k]? = some q):atI (fun x:T15=>x.Name.toList==q.Name.toList) all=(k:Int)→all.find? (fun x=>x.Name.toList==q.Name.toList)=some q:=by
 intro h
 rcases atI_find (fun x:T15=>x.Name.toList==q.Name.toList) all with ⟨q1,_⟩ | ⟨i,x,q1,q2,q3⟩
 ·rw [q1] at h;omega
 ·have:i=k:=by rw [q1] at h;omega
  subst this
  rw [hq] at q2;cases q2
  exact q3
theorem find_first (all:List T15) (a:ByteArray) (q:T15) (h:all.find? (fun x=>x.Name.toList==a.toList)=some q):q.Name=a∧∃ k:Nat,all[k]? = some q∧atI (fun x:T15=>x.Name.toList==q.Name.toList) all=(k:Int):=by
 have hn:q.Name=a:=by
  have:=List.find?_some h
  exact seq'.1 this
 subst hn
 refine ⟨rfl,?_⟩
 rcases atI_find (fun x:T15=>x.Name.toList==q.Name.toList) all with ⟨_,q1⟩ | ⟨i,x,q1,q2,q3⟩
 ·rw [q1] at h;cases h
 ·rw [h] at q3;cases q3
  exact ⟨i,q2,q1⟩
theorem chains_ck {N:Nat} (c:T5) (hs:Sz N c) (hb:∀ q∈c.all',8388611+dL q.Body≤N∧q.Body.length≤4194304∧bL q.Body) (hc:cAll c.all'≤4194304):Ck (z30 N c) c (ChainOk c.all' c.p') [] 0:=by
 have hN:=hs.n
 have ha:=hs.a
 unfold z30
 have dsum:∀ k,cAll (c.all'.drop k)≤cAll c.all':=by
  intro k
  have:=congrArg (fun l=>cAll l) (List.take_append_drop k c.all')
  simp only [cAll,List.map_append,List.sum_append] at this ⊢
  omega
 -- one round
 have round:∀ (now:List ByteArray) (i:Int) (ag:List ByteArray→Int→Option T5),now.length≤4194304→∃ nx:List ByteArray,nx.length≤4194304∧(∀ b,b∈nx↔∃ a∈now,CallsTo c.all' a b) ∧
   z30_l4 N c now i ag N [] (0:Int)=ag nx (w64 (i+1)):=by
  intro now i ag hnow
  have key:∀ (l:List T15) (k n:Nat) (s:List ByteArray),c.all'.drop k=l→l.length < n→s.length+cAll l≤4194304 →
    ∃ nx,z30_l4 N c now i ag n s (k:Int)=z30_k3 N c i ag (s++nx)∧(s++nx).length≤4194304 ∧
     ∀ b,b∈nx↔∃ (j:Nat) (q:T15),l[j]? = some q∧atI (fun x:T15=>x.Name.toList==q.Name.toList) c.all'=((k+j:Nat):Int)∧q.Name∈now∧b∈cnL q.Body:=by
   intro l
   induction l with
   | nil =>
    intro k n s h hn hsl
    obtain ⟨n,rfl⟩:∃ m,n=m+1:=⟨n-1,by simp at hn;omega⟩
    refine ⟨[],?_,by simp [cAll] at hsl ⊢;omega,by simp⟩
    simp only [z30_l4,lt_f (drop_nil h),cF,List.append_nil]
   | cons p l ih =>
    intro k n s h hn hsl
    obtain ⟨n,rfl⟩:∃ m,n=m+1:=⟨n-1,by simp at hn;omega⟩
    obtain ⟨a,e,d⟩:=drop_cons h
    obtain ⟨hb1,hb2,hb3⟩:=hb p (List.mem_of_getElem? e)
    have hcn:=cn_L p.Body
    have e0:cAll (p::l)=cL p.Body+cAll l:=by simp [cAll]
    rw [e0] at hsl
    have hdk:=dsum k
    rw [h,e0] at hdk
    have tail:∀ (s':List ByteArray) (cond:Prop),s'.length+cAll l≤4194304→(∃ t,s'=s++t∧∀ b,b∈t↔(atI (fun x:T15=>x.Name.toList==p.Name.toList) c.all'=(k:Int)∧p.Name∈now∧b∈cnL p.Body)) →
      ∃ nx,z30_l4 N c now i ag n s' ((k+1:Nat):Int)=z30_k3 N c i ag (s++nx)∧(s++nx).length≤4194304 ∧
       ∀ b,b∈nx↔∃ (j:Nat) (q:T15),(p::l)[j]? = some q∧atI (fun x:T15=>x.Name.toList==q.Name.toList) c.all'=((k+j:Nat):Int)∧q.Name∈now∧b∈cnL q.Body:=by
     rintro s' _ hs' ⟨t,rfl,ht⟩
     obtain ⟨nx,r1,r2,r3⟩:=ih (k+1) n (s++t) d (by simp at hn;omega) hs'
     refine ⟨t++nx,by rw [r1,aA],by rw [← aA];exact r2,fun b=>?_⟩
     rw [List.mem_append,ht,r3]
     constructor
     ·rintro (g | ⟨j,q,g1,g2,g3⟩)
      ·exact ⟨0,p,rfl,g.1,g.2⟩
      ·exact ⟨j+1,q,by rw [List.getElem?_cons_succ];exact g1,by rw [g2];congr 1;omega,g3⟩
     ·rintro ⟨j,q,g1,g2,g3⟩
      cases j with
      | zero=>simp only [List.getElem?_cons_zero,Option.some.injEq] at g1;subst g1;exact .inl ⟨g2,g3⟩
      | succ j=>rw [List.getElem?_cons_succ] at g1;exact .inr ⟨j,q,g1,by rw [g2];congr 1;omega,g3⟩
    simp only [z30_l4,lt_t a,cT,idx_nat,e,bS]
    rw [ix_chains_1 c.all' p (by omega) (by omega),bS,w64_suc (by omega)]
    by_cases h1:atI (fun x:T15=>x.Name.toList==p.Name.toList) c.all'=(k:Int)
    ·rw [h1,beq_self_eq_true,cT,cont_eq now (by omega) (by omega),bS]
     cases h2:inL p.Name now with
     | true =>
      have h2:=(inL_iff _ _).1 h2
      rw [cT,called_eq N p.Body (by omega) hb2 hb3 (by omega),bS,appL_some (by omega),bS]
      refine tail (s++cnL p.Body) True (by rw [lA];omega) ⟨_,rfl,fun b=>?_⟩
      exact ⟨fun g=>⟨h1,h2,g⟩,fun g=>g.2.2⟩
     | false =>
      have h2:¬ p.Name∈now:=fun h=>by rw [(inL_iff _ _).2 h] at h2;cases h2
      rw [cF]
      exact tail s True (by omega) ⟨[],by simp,fun b=>by simp [h2]⟩
    ·rw [show (atI (fun x:T15=>x.Name.toList==p.Name.toList) c.all'==(k:Int))=false by simpa using h1,cF]
     exact tail s True (by omega) ⟨[],by simp,fun b=>by simp [h1]⟩
  obtain ⟨nx,r1,r2,r3⟩:=key _ 0 N [] rfl (by simp;omega) (by simpa using hc)
  rw [List.nil_append] at r1 r2
  refine ⟨(compS (sortS nx)).filter fun x=>c.all'.any fun q=>q.Name.toList==x.toList,?_,fun b=>?_,?_⟩
  ·have h1:=List.length_filter_le (fun x=>c.all'.any fun q=>q.Name.toList==x.toList) (compS (sortS nx))
   have h2:=compS_len (sortS nx)
   have h3:=sortS_len nx
   omega
  ·rw [List.mem_filter,mem_compS,(sortS_perm nx).mem_iff,r3,List.any_eq_true]
   constructor
   ·rintro ⟨⟨j,q,g1,g2,g3,g4⟩,q',g5,g6⟩
    rw [List.drop_zero] at g1
    rw [Nat.zero_add] at g2
    exact ⟨q.Name,g3,⟨q,first_iff _ _ _ g1 g2,g4⟩,q',g5,seq'.1 g6⟩
   ·rintro ⟨a,g1,⟨q,g2,g3⟩,q',g4,g5⟩
    obtain ⟨rfl,k,g6,g7⟩:=find_first _ _ _ g2
    exact ⟨⟨k,q,by rw [List.drop_zero];exact g6,by rw [Nat.zero_add];exact g7,g1,g3⟩,q',g4,seq'.2 g5⟩
  ·rw [show (0:Int)=((0:Nat):Int) from rfl,r1]
   unfold z30_k3 z62 z63
   have h2:=compS_len (sortS nx)
   have h3:=sortS_len nx
   rw [dT (by omega),cT,bS,dT (by omega),cT,bS,del_eq c _ (by omega) (by omega) (by omega) (by omega),bS]
 have steps:∀ (m i:Nat) (now:List ByteArray),now.length≤4194304→(∀ b,b∈now↔PathTo c.all' i c.p'.Name b)→i+m=5→∀ n,m < n →
   Ck (z30_l2 N c n now (i:Int)) c (ChainOk c.all' c.p') [] 0:=by
  intro m
  induction m with
  | zero =>
   intro i now hnow hmem hi n hn
   obtain ⟨n,rfl⟩:∃ k,n=k+1:=⟨n-1,by omega⟩
   have hi:i=5:=by omega
   subst hi
   rw [z30_l2,show decide (((5:Nat):Int) < 5)=false from rfl,cF]
   unfold z30_k1
   simp only [bind_id]
   refine (Ck.test (by decide)).iff ?_
   unfold ChainOk
   rw [decide_eq_false_iff_not]
   constructor
   ·intro h b hb
    have:=(hmem b).2 hb
    cases now with
    | nil=>cases this
    | cons x l=>exact h (by simp)
   ·intro h h2
    cases now with
    | nil=>simp at h2
    | cons x l=>exact h x ((hmem x).1 (by simp))
  | succ m ih =>
   intro i now hnow hmem hi n hn
   obtain ⟨n,rfl⟩:∃ k,n=k+1:=⟨n-1,by omega⟩
   rw [z30_l2,show decide ((i:Int) < 5)=true by simp;omega,cT]
   obtain ⟨nx,r1,r2,r3⟩:=round now (i:Int) (z30_l2 N c n) hnow
   rw [r3,w64_suc (by omega)]
   refine ih (i+1) nx r1 (fun b=>?_) (by omega) n (by omega)
   rw [r2]
   constructor
   ·rintro ⟨a,g1,g2⟩;exact ⟨a,(hmem a).1 g1,g2⟩
   ·rintro ⟨a,g1,g2⟩;exact ⟨a,(hmem a).2 g1,g2⟩
 exact steps 5 0 [c.p'.Name] (by simp) (fun b=>by simp [PathTo,eq_comm]) rfl N (by omega)
end Gp
end
section
namespace Gp
open Go Go.Kx Gx
structure ProtOk (l:List T15) (i:Nat) (p:T15):Prop where
 name:∀ q∈l.take i,q.Name≠p.Name
 roles:∀ (k:Nat) x,p.Roles[k]? = some x→x ∉ p.Roles.take k
 sorts:SortsOk p
 atoms:AtomsOk p
 items:okL l p [] p.Body
 calls:ndp [] (asL p.Body)
 chain:ChainOk l p
structure Zs (N:Nat) (l:List T15):Prop where
 len:l.length≤4194304
 p:∀ p∈l,bP p∧8388611+dL p.Body≤N∧dL p.Body≤4194304
 all:cAll l≤4194304
 n:8388611 < N
theorem cAll_mem {l:List T15} {p} (h:p∈l):cL p.Body≤cAll l:=by
 unfold cAll
 induction l with
 | nil=>cases h
 | cons q l ih =>
  rw [List.map_cons,List.sum_cons]
  rcases List.mem_cons.1 h with rfl | h
  ·omega
  ·have:=ih h;omega
theorem prot_run {N:Nat} (l:List T15) (hz:Zs N l) (i:Nat) (p:T15) (hp:l[i]? = some p) (ag:Int→Option T4) :
  ∃ c':T5,(z23_19 N (l.take i) p).bind (fun x271 =>
    bif x271 then ((z25 N (⟨l,p,([]:List ByteArray),(⟨(str []),(str []),(0:Int)⟩:T4)⟩:T5) p.Name (9:Int)).bind fun x304 =>
     z9_k5 N (i:Int) ag p x304.all' x304.p'.Name x304.p'.Roles x304.p'.Messages x304.p'.Body x304.calls' x304.out'.Protocol x304.out'.Name x304.out'.Err)
    else z9_k5 N (i:Int) ag p l p.Name p.Roles p.Messages p.Body ([]:List ByteArray) (str []) (str []) (0:Int)) =
   (bif (c'.out'.Err != (0:Int)) then some c'.out' else ag ((i+1:Nat):Int))∧(c'.out'.Err=0↔ProtOk l i p)∧((∃ q∈l.take i,q.Name=p.Name)→c'.out'=⟨p.Name,p.Name,9⟩):=by
 have hN:=hz.n
 have hl:=hz.len
 have hil:=get_lt hp
 obtain ⟨hb,hd1,hd2⟩:=hz.p p (List.mem_of_getElem? hp)
 have hcp:=cAll_mem (List.mem_of_getElem? hp)
 have hall:=hz.all
 have c0:T5:=⟨l,p,[],⟨str [],str [],0⟩⟩
 -- the name
 obtain ⟨c1,e1,g1⟩:=Ck.test (N:=N) (b:=(l.take i).any fun x=>x.Name.toList==p.Name.toList) (c:=⟨l,p,[],⟨str [],str [],0⟩⟩) (nm:=p.Name) (e:=9) (by decide)
 have a1:c1.all'=l:=g1.all
 have p1:c1.p'=p:=g1.p
 -- the roles
 obtain ⟨o2,e2,c2,e2',g2⟩:=ck_loop p.Roles (fun n c i'=>z9_l4 N (i:Int) ag p n c.all' c.p'.Name c.p'.Roles c.p'.Messages c.p'.Body c.calls' c.out'.Protocol c.out'.Name c.out'.Err i')
  (fun c=>z9_k3 N (i:Int) ag p c.all' c.p'.Name c.p'.Roles c.p'.Messages c.p'.Body c.calls' c.out'.Protocol c.out'.Name c.out'.Err) Option.bind (fun _ _=>rfl)
  (fun k x=>x ∉ p.Roles.take k) (fun _=>[]) (fun _=>0) c1.all' c1.p' c1.calls'.length
  (fun n k x c hx ha hp' _=>by
   have hk:=get_lt hx
   have hr:=hb.r
   refine ⟨bif inL x (p.Roles.take k) then z25 N c x 9 else some c,?_,(Ck.test (by decide)).iff ?_⟩
   ·simp only [z9_l4,lt_t hk,cT,z26,idx_nat,hx,bS,lsl_tk (Nat.le_of_lt hk),bind_id]
    rw [cont_eq _ (by rw [List.length_take];omega) (by rw [List.length_take];omega),bS,w64_suc (by omega)]
    cases inL x (p.Roles.take k)<;>rfl
   ·rw [← Bool.not_eq_true,inL_iff])
  (fun n k c hk=>by simp only [z9_l4,lt_f hk,cF]) (N:=N) (by have:=hb.r;omega) c1 rfl rfl (by rw [sum_zero];omega)
 subst e2'
 rw [sum_zero,flat_nil] at g2
 have a2:c2.all'=l:=by rw [g2.all,a1]
 have p2:c2.p'=p:=by rw [g2.p,p1]
 have sz:∀ c:T5,c.all'=l→c.p'=p→Sz N c:=fun c ha hp=>⟨by rw [hp];exact hb.r,by rw [hp];exact hb.m,by rw [ha];exact hl,by omega⟩
 obtain ⟨c3,e3,g3⟩:=sorts_ck (N:=N) c2 (sz c2 a2 p2) (by rw [p2];exact fun m hm=>(hb.ms m hm).1)
 have a3:c3.all'=l:=by rw [g3.all,a2]
 have p3:c3.p'=p:=by rw [g3.p,p2]
 obtain ⟨c4,e4,g4⟩:=atoms_ck (N:=N) c3 (sz c3 a3 p3) (by rw [p3];exact fun m hm=>hb.ms m hm)
 have a4:c4.all'=l:=by rw [g4.all,a3]
 have p4:c4.p'=p:=by rw [g4.p,p3]
 have l4:c4.calls'.length≤0:=by
  have h1:=g1.len;have h2:=g2.len;have h3:=g3.len;have h4:=g4.len
  have h0:([]:List ByteArray).length=0:=rfl
  simp only at h1
  omega
 obtain ⟨c5,e5,g5⟩:=items_ck N c4 p.Body [] ⟨by rw [p4];exact hb.r,by rw [p4];exact hb.m,by rw [a4];exact hl,by omega⟩ hd1 hb.l hb.b (by simpa using hd2) (by omega)
 have a5:c5.all'=l:=by rw [g5.all,a4]
 have p5:c5.p'=p:=by rw [g5.p,p4]
 obtain ⟨c6,e6,g6⟩:=chains_ck (N:=N) c5 (sz c5 a5 p5) (by rw [a5];exact fun q hq=>⟨(hz.p q hq).2.1,(hz.p q hq).1.l,(hz.p q hq).1.b⟩) (by rw [a5];exact hall)
 refine ⟨c6,?_,?_,?_⟩
 ·rw [cf_Check_1 _ p (by rw [List.length_take];omega) (by rw [List.length_take];omega),bS]
  have h5:z9_k5 N (i:Int) ag p c1.all' c1.p'.Name c1.p'.Roles c1.p'.Messages c1.p'.Body c1.calls' c1.out'.Protocol c1.out'.Name c1.out'.Err=(bif (c6.out'.Err != (0:Int)) then some c6.out' else ag ((i+1:Nat):Int)):=by
   unfold z9_k5
   refine e2.trans ?_
   show z9_k3 N (i:Int) ag p c2.all' c2.p'.Name c2.p'.Roles c2.p'.Messages c2.p'.Body c2.calls' c2.out'.Protocol c2.out'.Name c2.out'.Err=_
   unfold z9_k3
   rw [show (⟨c2.all',⟨c2.p'.Name,c2.p'.Roles,c2.p'.Messages,c2.p'.Body⟩,c2.calls',⟨c2.out'.Protocol,c2.out'.Name,c2.out'.Err⟩⟩:T5)=c2 from rfl,e3,bS,e4,bS,e5,bS,e6,bS,w64_suc (by omega)]
  cases hbb:(l.take i).any fun x=>x.Name.toList==p.Name.toList with
  | true=>rw [hbb,cT] at e1;rw [cT,e1];exact h5
  | false =>
   rw [hbb,cF] at e1;cases e1
   exact h5
 ·have h6:=((((((g1.seq g2).seq g3).seq g4).seq g5).seq g6)).err
  rw [h6,a4,p4,a5,p5,p2,p3]
  simp only [List.append_nil,List.nil_append,true_and]
  rw [any_name]
  constructor
  ·rintro ⟨⟨⟨⟨⟨⟨q1,q2⟩,q3⟩,q4⟩,q5⟩,q6⟩,q7⟩
   exact ⟨q1,q2,q3,q4,q5,q7,q6⟩
  ·exact fun q=>⟨⟨⟨⟨⟨⟨q.name,q.roles⟩,q.sorts⟩,q.atoms⟩,q.items⟩,q.chain⟩,q.calls⟩
 ·rintro ⟨q,hq,hn⟩
  have hbb:((l.take i).any fun x=>x.Name.toList==p.Name.toList)=true:=List.any_eq_true.2 ⟨q,hq,seq'.2 hn⟩
  rw [hbb,cT] at e1
  unfold z25 at e1
  rw [show ((0:Int)==0)=true from rfl,cT] at e1
  cases e1
  have s2:=g2.st (by show (9:Int)≠0;decide)
  have s3:=g3.st (by rw [s2];show (9:Int)≠0;decide)
  have s4:=g4.st (by rw [s3,s2];show (9:Int)≠0;decide)
  have s5:=g5.st (by rw [s4,s3,s2];show (9:Int)≠0;decide)
  have s6:=g6.st (by rw [s5,s4,s3,s2];show (9:Int)≠0;decide)
  rw [s6,s5,s4,s3,s2]
theorem check_eq {N:Nat} (l:List T15) (hz:Zs N l) (v:Bool) (hv:z11 N l=some v) :
  ∃ r,z9 N l=some r∧(r.Err=0↔v=true∧∀ (i:Nat) p,l[i]? = some p→ProtOk l i p) ∧
   (v=true→∀ (i:Nat) p,l[i]? = some p→(∀ (j:Nat) q,j < i→l[j]? = some q→ProtOk l j q)→(∃ q∈l.take i,q.Name=p.Name)→r=⟨p.Name,p.Name,9⟩):=by
 have hN:=hz.n
 have hl:=hz.len
 unfold z9
 rw [hv,bS]
 cases v with
 | false=>exact ⟨_,rfl,by simp,by simp⟩
 | true =>
  rw [Bool.not_true,cF]
  have key:∀ (m:List T15) (k n:Nat),l.drop k=m→m.length < n→∃ r,z9_l2 N l n (k:Int)=some r∧(r.Err=0↔∀ (i:Nat) p,m[i]? = some p→ProtOk l (k+i) p) ∧
    (∀ (i:Nat) p,m[i]? = some p→(∀ (j:Nat) q,j < i→m[j]? = some q→ProtOk l (k+j) q)→(∃ q∈l.take (k+i),q.Name=p.Name)→r=⟨p.Name,p.Name,9⟩):=by
   intro m
   induction m with
   | nil =>
    intro k n h hn
    obtain ⟨n,rfl⟩:∃ m,n=m+1:=⟨n-1,by simp at hn;omega⟩
    exact ⟨_,by simp only [z9_l2,lt_f (drop_nil h),cF];rfl,by simp,by simp⟩
   | cons p m ih =>
    intro k n h hn
    obtain ⟨n,rfl⟩:∃ m,n=m+1:=⟨n-1,by simp at hn;omega⟩
    obtain ⟨a,e,d⟩:=drop_cons h
    obtain ⟨c',q1,q2,q3⟩:=prot_run l hz k p e (z9_l2 N l n)
    have hstep:z9_l2 N l (n+1) (k:Int)=(bif (c'.out'.Err != (0:Int)) then some c'.out' else z9_l2 N l n ((k+1:Nat):Int)):=by
     rw [← q1]
     simp only [z9_l2,lt_t a,cT,idx_nat,e,bS,lsl_tk (Nat.le_of_lt a)]
    by_cases h0:c'.out'.Err=0
    ·obtain ⟨r,r1,r2,r3⟩:=ih (k+1) n d (by simp at hn;omega)
     rw [show (c'.out'.Err != (0:Int))=false by simpa using h0,cF] at hstep
     have hok:=q2.1 h0
     refine ⟨r,hstep.trans r1,?_,?_⟩
     ·rw [r2]
      constructor
      ·intro g i q hq
       cases i with
       | zero=>simp only [List.getElem?_cons_zero,Option.some.injEq] at hq;subst hq;exact hok
       | succ i=>rw [List.getElem?_cons_succ] at hq;have:=g i q hq;rwa [show k+(i+1)=k+1+i by omega]
      ·intro g i q hq
       have:=g (i+1) q (by rw [List.getElem?_cons_succ];exact hq)
       rwa [show k+(i+1)=k+1+i by omega] at this
     ·intro i q hq hb hn'
      cases i with
      | zero =>
       simp only [List.getElem?_cons_zero,Option.some.injEq] at hq;subst hq
       have:=q3 hn'
       rw [this] at h0;exact absurd (show (9:Int)=0 from h0) (by decide)
      | succ i =>
       rw [List.getElem?_cons_succ] at hq
       refine r3 i q hq (fun j q' hj hq'=>?_) (by rwa [show k+(i+1)=k+1+i by omega] at hn')
       have:=hb (j+1) q' (by omega) (by rw [List.getElem?_cons_succ];exact hq')
       rwa [show k+(j+1)=k+1+j by omega] at this
    ·rw [show (c'.out'.Err != (0:Int))=true by simpa using h0,cT] at hstep
     refine ⟨_,hstep,?_,?_⟩
     ·constructor
      ·exact fun g=>absurd g h0
      ·exact fun g=>absurd (q2.2 (g 0 p rfl)) h0
     ·intro i q hq hb hn'
      cases i with
      | zero=>simp only [List.getElem?_cons_zero,Option.some.injEq] at hq;subst hq;exact q3 hn'
      | succ i=>exact absurd (q2.2 (hb 0 p (by omega) rfl)) h0
  obtain ⟨r,r1,r2,r3⟩:=key l 0 N rfl (by omega)
  simp only [Nat.zero_add] at r2 r3
  exact ⟨r,r1,by rw [r2];simp,fun _=>r3⟩
end Gp
end
section
namespace Gp
open Go Go.Kx Gx
theorem cn_fold:∀ (l:List T8) (s:Int),l.foldl (fun s x=>s+((cnI (oI x)).length:Int)) s=s+((cnL (oL l)).length:Int)
 | [],s=>by simp [oL,cnL]
 | x::l,s=>by rw [List.foldl_cons,cn_fold l];simp only [oL,cnL,lA];push_cast;omega
theorem cnLL_fold':∀ (l:List (List T8)) (s:Int),l.foldl (fun s x=>s+((cnL (oL x)).length:Int)) s=s+((cnLL (oLL l)).length:Int)
 | [],s=>by simp [oLL,cnLL]
 | x::l,s=>by rw [List.foldl_cons,cnLL_fold' l];simp only [oLL,cnLL,lA];push_cast;omega
theorem cn_head (x:T13):(cnI x).length=(if x.Kind=6 then 1 else 0)+(cnLL x.Blocks).length:=by
 rw [cnI_eq,lA];unfold hereC;split<;>rfl
theorem cL_mem':∀ {l:List T13} {x},x∈l→cI x≤cL l
 | y::l,x,h=>by
  simp only [cL]
  rcases List.mem_cons.1 h with rfl | h
  ·omega
  ·have:=cL_mem' h;omega
theorem cLL_drop:∀ (l:List (List T8)) (j:Nat),cLL (oLL (l.drop j))≤cLL (oLL l)
 | [],j=>by simp [oLL]
 | x::l,0=>by simp
 | x::l,j+1=>by
  have:=cLL_drop l j
  simp only [List.drop_succ_cons,oLL,cLL];omega
theorem calls_eq':∀ (N:Nat) (xs:List T8),4194306+dL (oL xs)≤N→xs.length≤4194304→bL (oL xs)→cL (oL xs)≤1099511627776→z12 N xs=some (((cnL (oL xs)).length:Nat):Int)
 | 0,_,h,_,_,_=>by omega
 | N+1,xs,h,hs,hb,hc=>by
  show z12_b N (z12 N) xs=_
  unfold z12_b
  have hN:4194304 < N:=by omega
  have inner:∀ (k:Nat) (x:T8) (s:Int) (ag:Int→Int→Option Int),xs[k]? = some x→0≤s→s+(cLL (oLL x.Blocks):Int)≤1099511627777 →
    z12_k5 N (z12 N) (k:Int) ag x s=ag (s+((cnLL (oLL x.Blocks)).length:Int)) ((k+1:Nat):Int):=by
   intro k x s ag hx h0 hle
   have hm:=List.mem_of_getElem? hx
   have hbx:=(bI_eq _).1 (bL_mem hb (oL_in hm))
   rw [oI_blocks,oLL_len] at hbx
   have hdx:=dL_mem (oL_in hm)
   rw [dI_eq,oI_blocks] at hdx
   have hk:=get_lt hx
   have hcx:=cL_mem' (oL_in hm)
   unfold z12_k5
   have:=(fold_loop x.Blocks (z12_l4 (z12 N) (k:Int) ag x) (fun s b=>s+((cnL (oL b)).length:Int)) (fun s=>ag s ((k+1:Nat):Int))
    (fun j s=>0≤s∧s+(cLL (oLL (x.Blocks.drop j)):Int)≤1099511627777) (fun n j s b hi hj=>?_) (fun n j s hi hj=>?_) (N:=N) (s:=s) (by omega) ⟨h0,by rw [List.drop_zero];exact hle⟩).1
   ·rw [this,cnLL_fold']
   ·obtain ⟨h1,h2⟩:=hi
    have hcl:=cLL_drop x.Blocks j
    rw [drop_get hj] at h2 hcl
    simp only [oLL,cLL] at h2 hcl
    have hmb:=List.mem_of_getElem? hj
    have hbb:=bLL_mem hbx.2.2 (oLL_in hmb)
    have hdb:=dLL_mem (oLL_in hmb)
    rw [oL_len] at hbb
    have hci:=cI_eq (oI x)
    rw [oI_blocks] at hci
    have e:=calls_eq' N b (by omega) hbb.1 hbb.2 (by omega)
    have hcn:=cn_L (oL b)
    refine ⟨?_,by omega,by push_cast at h2;omega⟩
    simp only [z12_l4,lt_t (get_lt hj),cT,idx_nat,hj,bS,e]
    rw [w64_id (by omega) (by push_cast at h2;omega),w64_succ (by have:=get_lt hj;omega)]
   ·simp only [z12_l4,lt_f hj,cF,z12_k3]
    rw [w64_succ (by omega)]
  have:=(fold_loop xs (z12_l2 N (z12 N) xs) (fun s x=>s+((cnI (oI x)).length:Int)) (fun s=>some s)
   (fun j s=>0≤s∧s+(cL (oL (xs.drop j)):Int)≤1099511627776) (fun n k s x hi hx=>?_) (fun n k s hi hk=>?_) (N:=N) (s:=0) (by omega) ⟨by omega,by rw [List.drop_zero];omega⟩).1
  ·rw [this,cn_fold];simp
  ·obtain ⟨h1,h2⟩:=hi
   rw [drop_get hx] at h2
   simp only [oL,cL] at h2
   have hcx:=cI_eq (oI x)
   rw [oI_blocks] at hcx
   have hcn:=cn_I (oI x)
   have hch:=cn_head (oI x)
   rw [oI_blocks] at hch
   have hkd:(oI x).Kind=x.Kind:=by rw [oI_eq]
   rw [hkd] at hch
   refine ⟨?_,by omega,by push_cast at h2;omega⟩
   simp only [z12_l2,lt_t (get_lt hx),cT,idx_nat,hx,bS]
   by_cases h6:x.Kind=6
   ·rw [if_pos h6] at hch
    rw [show (x.Kind==(6:Int))=true by simpa using h6,cT,w64_id (by omega) (by push_cast at h2;omega),inner k x _ _ hx (by omega) (by push_cast at h2;omega),hch]
    congr 1
    push_cast;omega
   ·rw [if_neg h6] at hch
    rw [show (x.Kind==(6:Int))=false by simpa using h6,cF,inner k x _ _ hx (by omega) (by push_cast at h2;omega),hch]
    congr 1
    push_cast;omega
  ·simp only [z12_l2,lt_f hk,cF,z12_k1]
def FewC (l:List T10):Prop:=(∀ p∈l,(cnL (oL p.Body)).length≤4)∧FewP l
theorem few11_dq {N:Nat} (hN:4194304 < N) (l:List T10) (hs:l.length≤4194304) (hb:∀ p∈l,RP p∧4194306+dL (oL p.Body)≤N) (hc:cPs l≤1099511627776):Dq (z8 N l) (FewC l):=by
 unfold z8 FewC
 have hcm:∀ p∈l,cL (oL p.Body)≤cPs l:=by
  intro p hp
  unfold cPs
  induction l with
  | nil=>cases hp
  | cons q l ih =>
   rw [List.map_cons,List.sum_cons]
   rcases List.mem_cons.1 hp with rfl | hp
   ·omega
   ·have:=ih (by simp at hs;omega) (fun p hp=>hb p (List.mem_cons_of_mem _ hp)) (by unfold cPs at hc ⊢;rw [List.map_cons,List.sum_cons] at hc;omega) hp;omega
 have key:∀ (m:List T10) (k n:Nat),l.drop k=m→m.length < n→Dq (z8_l2 N l n (k:Int)) ((∀ p∈m,(cnL (oL p.Body)).length≤4)∧FewP l):=by
  intro m
  induction m with
  | nil =>
   intro j n h hn
   obtain ⟨n,rfl⟩:∃ m,n=m+1:=⟨n-1,by simp at hn;omega⟩
   simp only [z8_l2,lt_f (drop_nil h),cF,z8_k1]
   rw [bind_id]
   exact (few_dq hN l hs hb hc).iff (by simp)
  | cons p m ih =>
   intro k n h hn
   obtain ⟨n,rfl⟩:∃ m,n=m+1:=⟨n-1,by simp at hn;omega⟩
   obtain ⟨a,c,d⟩:=drop_cons h
   have hm:=List.mem_of_getElem? c
   obtain ⟨h1,h2⟩:=hb p hm
   have:=hcm p hm
   simp only [z8_l2,lt_t a,cT,idx_nat,c,bS]
   rw [calls_eq' N p.Body h2 (RP_l h1) h1.b (by omega),bS,w64_succ (by omega)]
   refine (Dq.cN (C:=(cnL (oL p.Body)).length≤4) (gt_lem (b:=4)) fun _=>ih (k+1) n d (by simp at hn;omega)).iff ?_
   simp only [List.mem_cons,forall_eq_or_imp,and_assoc]
 exact key _ 0 N rfl (by omega)
structure OwnOk (p:T15):Prop where
 roles:∀ (k:Nat) x,p.Roles[k]? = some x→x ∉ p.Roles.take k
 sorts:SortsOk p
 atoms:AtomsOk p
 calls:ndp [] (asL p.Body)
def NmD (l:List T15):Prop:=l.Pairwise fun a b=>a.Name≠b.Name
def NoProb (l:List T15):Prop:=ValidP l∧NmD l∧∀ p∈l,OwnOk p∧okL l p [] p.Body∧ChainOk l p
theorem np_iff (l:List T15):(∀ (i:Nat) p,l[i]? = some p→ProtOk l i p)↔NmD l∧∀ p∈l,OwnOk p∧okL l p [] p.Body∧ChainOk l p:=by
 constructor
 ·intro h
  refine ⟨?_,fun p hp=>?_⟩
  ·unfold NmD
   rw [List.pairwise_iff_getElem]
   intro i j hi hj hij
   refine (h j l[j] (List.getElem?_eq_getElem hj)).name l[i] ?_
   rw [List.mem_take_iff_getElem]
   exact ⟨i,by omega,rfl⟩
  ·obtain ⟨i,hi⟩:=List.mem_iff_getElem?.1 hp
   have:=h i p hi
   exact ⟨⟨this.roles,this.sorts,this.atoms,this.calls⟩,this.items,this.chain⟩
 ·rintro ⟨h1,h2⟩ i p hp
  obtain ⟨a,b,c⟩:=h2 p (List.mem_of_getElem? hp)
  refine ⟨fun q hq=>?_,a.roles,a.sorts,a.atoms,b,a.calls,c⟩
  unfold NmD at h1
  rw [List.pairwise_iff_getElem] at h1
  rw [List.mem_take_iff_getElem] at hq
  obtain ⟨j,hj,rfl⟩:=hq
  obtain ⟨hi,rfl⟩:=List.getElem?_eq_some_iff.1 hp
  exact h1 j i (by omega) hi (by omega)
theorem check_np {N:Nat} (l:List T15) (hz:Zs N l):∃ r,z9 N l=some r∧(r.Err=0↔NoProb l) ∧
  (ValidP l→∀ (i:Nat) p,l[i]? = some p→(∀ (j:Nat) q,j < i→l[j]? = some q→ProtOk l j q)→(∃ q∈l.take i,q.Name=p.Name)→r=⟨p.Name,p.Name,9⟩):=by
 obtain ⟨v,e,g⟩:=valid_dq (N:=N) (by have:=hz.n;omega) l hz.len fun p hp=>(hz.p p hp).1
 obtain ⟨r,h1,h2,h3⟩:=check_eq l hz v e
 exact ⟨r,h1,by rw [h2,g,np_iff];rfl,fun hv=>h3 (g.2 hv)⟩
end Gp
end
section
namespace Gp
open Go Go.Kx Gx
theorem rem_ok {a:Int} {n:Nat} (h0:0≤a) (h1:a≤255) (hn:0 < n):∃ q:Nat,q < n∧binO .rem .i64 (w64 a) (n:Int)=some (q:Int):=by
 obtain ⟨b,rfl⟩:=Int.eq_ofNat_of_zero_le h0
 refine ⟨b % n,Nat.mod_lt _ hn,?_⟩
 rw [w64_id (by omega) (by omega)]
 have:((n:Int)==0)=false:=by simp;omega
 simp only [binO,this,cF]
 congr 1
theorem cPs_own (l:List T10):cAll (l.map oP)=cPs l:=by
 unfold cAll cPs
 rw [List.map_map];rfl
theorem zs_own {N:Nat} {l:List T10} (hl:l.length≤4194304) (hb:∀ p∈l,RP p∧8388611+dL (oL p.Body)≤N∧dL (oL p.Body)≤4194304) (hc:cPs l≤4194304) (hN:8388611 < N):Zs N (l.map oP):=by
 refine ⟨by simpa using hl,fun p hp=>?_,by rw [cPs_own];exact hc,hN⟩
 obtain ⟨q,hq,rfl⟩:=List.mem_map.1 hp
 exact hb q hq
end Gp
end
section
namespace Gp
open Go Go.Kx Gx
theorem has_of {s t:List UInt8} (h:t <:+: s):Lib.contains s t=true:=by
 obtain ⟨a,b,rfl⟩:=h
 unfold Lib.contains
 rw [decide_eq_true_eq]
 rcases Lib.index_spec (a++t++b) t with ⟨_,h⟩ | ⟨i,h,_⟩
 ·have:=h a.length (by simp)
  unfold Lib.occAt at this
  rw [aA,List.drop_left] at this
  have h2:t.isPrefixOf (t++b)=true:=by rw [List.isPrefixOf_iff_prefix];exact List.prefix_append _ _
  rw [this] at h2;cases h2
 ·omega
theorem in_l {a b c:List UInt8} (h:a <:+: b):a <:+: b++c:=h.trans (List.prefix_append b c).isInfix
theorem in_r {a b c:List UInt8} (h:a <:+: c):a <:+: b++c:=h.trans (List.suffix_append b c).isInfix
theorem in_line {a b:List UInt8} (k:Nat) (h:a <:+: b):a <:+: lineT k b:=in_r (in_l h)
theorem in_flat {a b:List UInt8} {L:List (List UInt8)} (hb:b∈L) (h:a <:+: b):a <:+: L.flatten:=h.trans (List.infix_of_mem_flatten hb)
theorem in_comma {x:ByteArray}:∀ {l:List ByteArray},x∈l→bs x <:+: commaT l
  | y::l,h=>by
    show bs x <:+: bs y++((l.map bs).map ([44,32]++·)).flatten
    rcases List.mem_cons.1 h with rfl | h
    · exact in_l (List.infix_refl _)
    · exact in_r (in_flat (List.mem_map.2 ⟨_,List.mem_map.2 ⟨x,h,rfl⟩,rfl⟩) (in_r (List.infix_refl _)))
mutual
def lnI:T13→List ByteArray
 | ⟨k,f,t,n,a,x,b⟩=>(if k=3∨k=4 then [n] else [])++lnLL b
def lnL:List T13→List ByteArray
 | []=>[]
 | x::l=>lnI x++lnL l
def lnLL:List (List T13)→List ByteArray
 | []=>[]
 | b::r=>lnL b++lnLL r
end
theorem lnI_eq (x:T13):lnI x=(if x.Kind=3∨x.Kind=4 then [x.Name] else [])++lnLL x.Blocks:=by cases x;simp only [lnI]
mutual
theorem ln_xI:∀ (x:T13) (k:Nat),shI x→∀ n∈lnI x,bs n <:+: xI k x
 | ⟨k,f,t,n,a,x,b⟩,d,h,m,hm=>by
  simp only [shI] at h
  simp only [lnI,List.mem_append] at hm
  obtain ⟨h1,h2⟩:=h
  unfold ShP at h1
  simp only at h1
  rcases h1 with ⟨rfl,h1⟩ | ⟨rfl,h1⟩ | ⟨rfl,h1⟩ | ⟨rfl,h1⟩ | ⟨rfl,h1⟩ | ⟨rfl,h1⟩
  ·have e:=h1.2.2.2.2.2
   have e:b=[]:=List.eq_nil_of_length_eq_zero e
   subst e
   simp [lnLL] at hm
  ·have hm:m∈lnLL b:=by simpa using hm
   rw [xI_eq]
   show _ <:+: (bif decide (x > 0) then xR d true (withinT f x) orT elseT b else xR d true (choiceT f) orT [] b)
   cases decide (x > 0)
   ·exact ln_xR b d true _ _ _ h2 m hm
   ·exact ln_xR b d true _ _ _ h2 m hm
  ·rw [xI_eq]
   show _ <:+: xR d true (loopT n) [] [] b
   rcases hm with hm | hm
   ·have hm:m=n:=by simpa using hm
    subst hm
    have e:=h1.2.2.2.2.2
    cases b with
    | nil=>simp at e
    | cons b r =>
     simp only [xR]
     exact in_l (in_line _ (in_l (in_r (List.infix_refl _))))
   ·exact ln_xR b d true _ _ _ h2 m hm
  ·rw [xI_eq]
   show _ <:+: lineT d (againT n)
   have e:=h1.2.2.2.2.2
   have e:b=[]:=List.eq_nil_of_length_eq_zero e
   subst e
   have hm:m=n:=by simpa [lnLL] using hm
   subst hm
   exact in_line _ (in_l (in_r (List.infix_refl _)))
  ·have hm:m∈lnLL b:=by simpa using hm
   rw [xI_eq]
   show _ <:+: xR d true parT andT [] b
   exact ln_xR b d true _ _ _ h2 m hm
  ·have e:=h1.2.2.2.2.2
   have e:b=[]:=List.eq_nil_of_length_eq_zero e
   subst e
   simp [lnLL] at hm
theorem ln_xL:∀ (l:List T13) (k:Nat),shL l→∀ n∈lnL l,bs n <:+: xL k l
 | [],d,h,m,hm=>by simp [lnL] at hm
 | x::l,d,h,m,hm=>by
  simp only [shL] at h
  simp only [lnL,List.mem_append] at hm
  simp only [xL]
  rcases hm with hm | hm
  ·exact in_l (ln_xI x d h.1 m hm)
  ·exact in_r (ln_xL l d h.2 m hm)
theorem ln_xR:∀ (l:List (List T13)) (k:Nat) (first:Bool) (hd w last:List UInt8),shLL l→∀ n∈lnLL l,bs n <:+: xR k first hd w last l
 | [],d,_,_,_,_,h,m,hm=>by simp [lnLL] at hm
 | b::l,d,first,hd,w,last,h,m,hm=>by
  simp only [shLL] at h
  simp only [lnLL,List.mem_append] at hm
  simp only [xR]
  rcases hm with hm | hm
  ·exact in_r (in_l (ln_xL b _ h.1 m hm))
  ·exact in_r (in_r (ln_xR l d false hd w last h.2 m hm))
end
theorem fresh_of {l:List T15} (hv:ValidP l) {z:ByteArray} (h:Lib.contains (srcT l) (bs z)=false) {p} (hp:p∈l) :
  z ∉ p.Roles∧z ∉ lnL p.Body∧∀ m∈p.Messages,m.Name≠z:=by
 have no:∀ {F:List UInt8},bs z <:+: F→F <:+: protT p→False:=fun h1 h2=>by
  have:=has_of (h1.trans (h2.trans (List.infix_of_mem_flatten (List.mem_map.2 ⟨p,hp,rfl⟩))))
  unfold srcT at h
  rw [h] at this;cases this
 obtain ⟨_,_,_,h4,_⟩:=hv.2.1 p hp
 refine ⟨fun hr=>no (in_comma hr) ?_,fun hl=>no (ln_xL p.Body 1 h4 z hl) ?_,fun m hm e=>no (F:=msgLine m) ?_ ?_⟩
 ·unfold protT protHead
  exact in_l (in_l (in_l (in_line _ (in_l (in_r (List.infix_refl _))))))
 ·unfold protT
  exact in_l (in_r (List.infix_refl _))
 ·subst e
  unfold msgLine msgT
  exact in_line _ (in_l (in_l (in_l (in_l (in_l (in_r (List.infix_refl _)))))))
 ·unfold protT
  exact in_l (in_l (in_r (List.infix_of_mem_flatten (List.mem_map.2 ⟨m,hm,rfl⟩))))
end Gp
end
section
namespace Gp
open Go Go.Kx Gx
mutual
def rnI (fr fl fm:ByteArray→ByteArray):T13→T13
 | ⟨k,f,t,n,a,x,b⟩=>⟨k,fr f,t.map fr,if k=1 then fm n else if k=3∨k=4 then fl n else n,a,x,rnLL fr fl fm b⟩
def rnL (fr fl fm:ByteArray→ByteArray):List T13→List T13
 | []=>[]
 | x::l=>rnI fr fl fm x::rnL fr fl fm l
def rnLL (fr fl fm:ByteArray→ByteArray):List (List T13)→List (List T13)
 | []=>[]
 | b::r=>rnL fr fl fm b::rnLL fr fl fm r
end
def rnN (fl fm:ByteArray→ByteArray) (x:T13):ByteArray:=if x.Kind=1 then fm x.Name else if x.Kind=3∨x.Kind=4 then fl x.Name else x.Name
theorem rnI_eq (fr fl fm) (x:T13):rnI fr fl fm x=⟨x.Kind,fr x.From,x.To.map fr,rnN fl fm x,x.As,x.Ticks,rnLL fr fl fm x.Blocks⟩:=by cases x;simp only [rnI,rnN]
theorem rnL_map (fr fl fm):∀ l,rnL fr fl fm l=l.map (rnI fr fl fm)
 | []=>rfl
 | x::l=>by simp only [rnL,List.map_cons,rnL_map fr fl fm l]
theorem rnLL_map (fr fl fm):∀ l,rnLL fr fl fm l=l.map (rnL fr fl fm)
 | []=>rfl
 | x::l=>by simp only [rnLL,List.map_cons,rnLL_map fr fl fm l]
def rnT (fm:ByteArray→ByteArray) (t:T11):T11:=⟨t.Kind,fm t.Message,t.Field,t.N⟩
def rnA (fm:ByteArray→ByteArray) (a:T12):T12:=⟨rnT fm a.Left,a.Op,rnT fm a.Right⟩
def rnM (fm:ByteArray→ByteArray) (m:T14):T14:=⟨fm m.Name,m.Fields,m.Where.map (rnA fm)⟩
def rnP (fr fl fm:ByteArray→ByteArray) (p:T15):T15:=⟨p.Name,p.Roles.map fr,p.Messages.map (rnM fm),rnL fr fl fm p.Body⟩
def rnO (fl:ByteArray→ByteArray) (o:T6):T6:=⟨fl o.name',o.tail',o.hidden'⟩
mutual
theorem rnI_id:∀ x,rnI id id id x=x
 | ⟨k,f,t,n,a,x,b⟩=>by simp only [rnI,rnLL_id b,List.map_id,id,ite_self]
theorem rnL_id:∀ l,rnL id id id l=l
 | []=>rfl
 | x::l=>by simp only [rnL,rnI_id x,rnL_id l]
theorem rnLL_id:∀ l,rnLL id id id l=l
 | []=>rfl
 | x::l=>by simp only [rnLL,rnL_id x,rnLL_id l]
end
theorem rnMs_id (l:List T14):l.map (rnM id)=l:=by
 have:rnM id=id:=by
  funext m
  have h:rnA id=id:=rfl
  unfold rnM
  rw [h,List.map_id];rfl
 rw [this,List.map_id]
theorem rnP_id (p:T15):rnP id id id p=p:=by
 unfold rnP
 rw [rnL_id,List.map_id,rnMs_id]
mutual
theorem cn_rnI (fr fl fm):∀ x,cnI (rnI fr fl fm x)=cnI x
 | ⟨k,f,t,n,a,x,b⟩=>by
  simp only [rnI,cnI,cn_rnLL fr fl fm b,hereC]
  by_cases h:k=6
  ·subst h;rfl
  ·rw [if_neg h,if_neg h]
theorem cn_rnL (fr fl fm):∀ l,cnL (rnL fr fl fm l)=cnL l
 | []=>rfl
 | x::l=>by simp only [rnL,cnL,cn_rnI fr fl fm x,cn_rnL fr fl fm l]
theorem cn_rnLL (fr fl fm):∀ l,cnLL (rnLL fr fl fm l)=cnLL l
 | []=>rfl
 | x::l=>by simp only [rnLL,cnLL,cn_rnL fr fl fm x,cn_rnLL fr fl fm l]
end
mutual
theorem as_rnI (fr fl fm):∀ x,asI (rnI fr fl fm x)=asI x
 | ⟨k,f,t,n,a,x,b⟩=>by simp only [rnI,asI,as_rnLL fr fl fm b,hereA]
theorem as_rnL (fr fl fm):∀ l,asL (rnL fr fl fm l)=asL l
 | []=>rfl
 | x::l=>by simp only [rnL,asL,as_rnI fr fl fm x,as_rnL fr fl fm l]
theorem as_rnLL (fr fl fm):∀ l,asLL (rnLL fr fl fm l)=asLL l
 | []=>rfl
 | x::l=>by simp only [rnLL,asLL,as_rnL fr fl fm x,as_rnLL fr fl fm l]
end
theorem tl_rn (fl) (b:Bool) (ls):(tlL b ls).map (rnO fl)=tlL b (ls.map (rnO fl)):=by simp [tlL,rnO]
theorem hd_rn (fl) (b:Bool) (ls):(hdL b ls).map (rnO fl)=hdL b (ls.map (rnO fl)):=by simp [hdL,rnO]
theorem inn_rn (fr fl fm) (ls) (x:T13):(innL ls x).map (rnO fl)=innL (ls.map (rnO fl)) (rnI fr fl fm x):=by
 rw [rnI_eq]
 unfold innL rnN
 simp only
 rw [hd_rn]
 by_cases h:x.Kind=3
 ·rw [if_pos h,if_pos h,if_neg (by omega),if_pos (Or.inl h),List.map_append];rfl
 ·rw [if_neg h,if_neg h]
theorem name_hd {z:ByteArray} {b:Bool} {ls:List T6} (h:∀ o∈ls,o.name'≠z):∀ o∈hdL b ls,o.name'≠z:=by
 intro o ho
 obtain ⟨q,hq,rfl⟩:=List.mem_map.1 ho
 exact h q hq
theorem name_tl {z:ByteArray} {b:Bool} {ls:List T6} (h:∀ o∈ls,o.name'≠z):∀ o∈tlL b ls,o.name'≠z:=by
 intro o ho
 obtain ⟨q,hq,rfl⟩:=List.mem_map.1 ho
 exact h q hq
theorem name_inn {z:ByteArray} {ls:List T6} {x:T13} (h:∀ o∈ls,o.name'≠z) (hx:x.Kind=3→x.Name≠z):∀ o∈innL ls x,o.name'≠z:=by
 unfold innL
 refine name_hd ?_
 by_cases h3:x.Kind=3
 ·rw [if_pos h3]
  intro o ho
  rcases List.mem_append.1 ho with h1 | h1
  ·exact h o h1
  ·rw [List.mem_singleton.1 h1];exact hx h3
 ·rw [if_neg h3];exact h
def Inj (z:ByteArray) (f:ByteArray→ByteArray):Prop:=∀ s t,s≠z→t≠z→f s=f t→s=t
theorem Inj.id (z):Inj z id:=fun _ _ _ _ h=>h
theorem Inj.beq {z f} (h:Inj z f) {s t:ByteArray} (hs:s≠z) (ht:t≠z):((f s).toList==(f t).toList)=(s.toList==t.toList):=by
 cases hb:(s.toList==t.toList) with
 | true=>rw [seq'.1 hb];exact seq'.2 rfl
 | false =>
  cases hc:((f s).toList==(f t).toList) with
  | false=>rfl
  | true=>rw [h s t hs ht (seq'.1 hc)] at hb;rw [seq'.2 rfl] at hb;cases hb
section
variable {all all':List T15} {p:T15} {fr fl fm:ByteArray→ByteArray} {z:ByteArray}
theorem roles_rn (hr:Inj z fr) (hz:z ∉ p.Roles) {l:List ByteArray} (h:RolesOk p l):RolesOk (rnP fr fl fm p) (l.map fr):=by
 intro k y hy
 rw [List.getElem?_map] at hy
 cases hx:l[k]? with
 | none=>rw [hx] at hy;cases hy
 | some x =>
  rw [hx] at hy;cases hy
  obtain ⟨h1,h2⟩:=h k x hx
  refine ⟨List.mem_map.2 ⟨x,h1,rfl⟩,fun hm=>?_⟩
  rw [← List.map_take] at hm
  obtain ⟨w,hw,e⟩:=List.mem_map.1 hm
  obtain ⟨j,hj⟩:=List.mem_iff_getElem?.1 (List.mem_of_mem_take hw)
  have hwr:=(h j w hj).1
  have:=hr w x (fun e=>hz (e ▸ hwr)) (fun e=>hz (e ▸ h1)) e
  subst this
  exact h2 hw
theorem here_rn (hr:Inj z fr) (hl:Inj z fl) (hz:z ∉ p.Roles)
  (hc:∀ (a:ByteArray) n,(∃ q,all.find? (fun q=>q.Name.toList==a.toList)=some q∧q.Roles.length=n)→∃ q,all'.find? (fun q=>q.Name.toList==a.toList)=some q∧q.Roles.length=n)
  {ls:List T6} {x:T13} (hx:z ∉ lnI x) (hls:∀ o∈ls,o.name'≠z) (h:HereOk all p ls x):HereOk all' (rnP fr fl fm p) (ls.map (rnO fl)) (rnI fr fl fm x):=by
 rw [rnI_eq]
 have hn:x.Kind=3∨x.Kind=4→x.Name≠z:=fun h3 e=>hx (by rw [lnI_eq,if_pos h3,e];simp)
 unfold HereOk at h ⊢
 simp only [rnN]
 obtain ⟨h1,h2,h3,h4,h6⟩:=h
 refine ⟨fun k=>?_,fun k=>List.mem_map.2 ⟨_,h2 k,rfl⟩,fun k=>?_,fun k=>?_,fun k=>?_⟩
 ·obtain ⟨a,m,b,c⟩:=h1 k
  rw [if_pos k]
  refine ⟨?_,rnM fm m,List.mem_map.2 ⟨m,b,rfl⟩,by show fm m.Name=fm x.Name;rw [c]⟩
  have:=roles_rn (fl:=fl) (fm:=fm) hr hz a
  exact this
 ·rw [if_neg (by omega),if_pos (Or.inl k)]
  intro o ho e
  obtain ⟨q,hq,rfl⟩:=List.mem_map.1 ho
  exact h3 k q hq (hl _ _ (hls q hq) (hn (.inl k)) e)
 ·rw [if_neg (by omega),if_pos (Or.inr k)]
  obtain ⟨o,g1,g2⟩:=h4 k
  refine ⟨rnO fl o,?_,g2⟩
  rw [List.find?_map]
  have:ls.find? ((fun o:T6=>bif o.name'.toList==(fl x.Name).toList then !o.hidden' else false) ∘ rnO fl)=ls.find? (fun o=>bif o.name'.toList==x.Name.toList then !o.hidden' else false):=by
   have aux:∀ m:List T6,(∀ o∈m,o.name'≠z)→m.find? ((fun o:T6=>bif o.name'.toList==(fl x.Name).toList then !o.hidden' else false) ∘ rnO fl)=m.find? (fun o=>bif o.name'.toList==x.Name.toList then !o.hidden' else false):=by
    intro m
    induction m with
    | nil=>intro _;rfl
    | cons o m ih =>
     intro hm
     rw [List.find?_cons,List.find?_cons,ih fun o ho=>hm o (List.mem_cons_of_mem _ ho)]
     have:((fun o:T6=>bif o.name'.toList==(fl x.Name).toList then !o.hidden' else false) ∘ rnO fl) o=bif o.name'.toList==x.Name.toList then !o.hidden' else false:=by
      show (bif (fl o.name').toList==(fl x.Name).toList then !o.hidden' else false)=_
      rw [hl.beq (hm o (List.mem_cons_self ..)) (hn (.inr k))]
     rw [this]
   exact aux ls hls
  rw [this,g1];rfl
 ·rw [if_neg (by omega),if_neg (by omega)]
  obtain ⟨q,g1,g2,g3⟩:=h6 k
  obtain ⟨q',g4,g5⟩:=hc x.Name x.To.length ⟨q,g1,g2⟩
  exact ⟨q',g4,by simpa using g5,roles_rn hr hz g3⟩
theorem ln_mem {x:T13} {l} (h:z ∉ lnL (x::l)):z ∉ lnI x∧z ∉ lnL l:=by
 simp only [lnL,List.mem_append,not_or] at h;exact h
mutual
theorem okI_rn (hr:Inj z fr) (hl:Inj z fl) (hz:z ∉ p.Roles)
  (hc:∀ (a:ByteArray) n,(∃ q,all.find? (fun q=>q.Name.toList==a.toList)=some q∧q.Roles.length=n)→∃ q,all'.find? (fun q=>q.Name.toList==a.toList)=some q∧q.Roles.length=n) :
  ∀ (x:T13) ls,z ∉ lnI x→(∀ o∈ls,o.name'≠z)→okI all p ls x→okI all' (rnP fr fl fm p) (ls.map (rnO fl)) (rnI fr fl fm x)
 | ⟨k,f,t,n,a,w,b⟩,ls,hx,hls,h=>by
  rw [okI_eq] at h ⊢
  refine ⟨here_rn hr hl hz hc hx hls h.1,?_⟩
  rw [← inn_rn]
  have hb:z ∉ lnLL b:=fun h=>hx (by simp only [lnI];exact List.mem_append_right _ h)
  have:=okLL_rn hr hl hz hc b (innL ls ⟨k,f,t,n,a,w,b⟩) hb (name_inn hls fun h3 e=>hx (by rw [lnI_eq,if_pos (Or.inl h3),e];simp)) h.2
  rw [rnI_eq]
  exact this
theorem okL_rn (hr:Inj z fr) (hl:Inj z fl) (hz:z ∉ p.Roles)
  (hc:∀ (a:ByteArray) n,(∃ q,all.find? (fun q=>q.Name.toList==a.toList)=some q∧q.Roles.length=n)→∃ q,all'.find? (fun q=>q.Name.toList==a.toList)=some q∧q.Roles.length=n) :
  ∀ (xs:List T13) ls,z ∉ lnL xs→(∀ o∈ls,o.name'≠z)→okL all p ls xs→okL all' (rnP fr fl fm p) (ls.map (rnO fl)) (rnL fr fl fm xs)
 | [],ls,hx,hls,h=>by simp only [rnL,okL]
 | x::xs,ls,hx,hls,h=>by
  simp only [okL] at h
  simp only [rnL,okL]
  obtain ⟨h1,h2⟩:=ln_mem hx
  refine ⟨?_,okL_rn hr hl hz hc xs ls h2 hls h.2⟩
  have e:(rnL fr fl fm xs).isEmpty=xs.isEmpty:=by rw [rnL_map];cases xs<;>rfl
  rw [e,← tl_rn]
  exact okI_rn hr hl hz hc x _ h1 (name_tl hls) h.1
theorem okLL_rn (hr:Inj z fr) (hl:Inj z fl) (hz:z ∉ p.Roles)
  (hc:∀ (a:ByteArray) n,(∃ q,all.find? (fun q=>q.Name.toList==a.toList)=some q∧q.Roles.length=n)→∃ q,all'.find? (fun q=>q.Name.toList==a.toList)=some q∧q.Roles.length=n) :
  ∀ (bs:List (List T13)) ls,z ∉ lnLL bs→(∀ o∈ls,o.name'≠z)→okLL all p ls bs→okLL all' (rnP fr fl fm p) (ls.map (rnO fl)) (rnLL fr fl fm bs)
 | [],ls,hx,hls,h=>by simp only [rnLL,okLL]
 | x::xs,ls,hx,hls,h=>by
  simp only [okLL] at h
  simp only [rnLL,okLL]
  simp only [lnLL,List.mem_append,not_or] at hx
  exact ⟨okL_rn hr hl hz hc x ls hx.1 hls h.1,okLL_rn hr hl hz hc xs ls hx.2 hls h.2⟩
end
theorem own_roles_rn (hr:Inj z fr) (hz:z ∉ p.Roles) (h:∀ (k:Nat) x,p.Roles[k]? = some x→x ∉ p.Roles.take k):∀ (k:Nat) x,(p.Roles.map fr)[k]? = some x→x ∉ (p.Roles.map fr).take k:=by
 intro k y hy hm
 exact ((roles_rn (fl:=id) (fm:=id) hr hz fun k x hx=>⟨List.mem_of_getElem? hx,h k x hx⟩) k y hy).2 hm
theorem sorts_rn (hm:Inj z fm) (hz:∀ m∈p.Messages,m.Name≠z) (h:SortsOk p):SortsOk (rnP fr fl fm p):=by
 intro k y hy
 have hy:(p.Messages.map (rnM fm))[k]? = some y:=hy
 rw [List.getElem?_map] at hy
 cases hx:p.Messages[k]? with
 | none=>rw [hx] at hy;cases hy
 | some x =>
  rw [hx] at hy;cases hy
  obtain ⟨h1,h2⟩:=h k x hx
  refine ⟨fun q hq e=>?_,h2⟩
  have hq:q∈(p.Messages.map (rnM fm)).take k:=hq
  rw [← List.map_take] at hq
  obtain ⟨w,hw,rfl⟩:=List.mem_map.1 hq
  exact h1 w hw (hm _ _ (hz w (List.mem_of_mem_take hw)) (hz x (List.mem_of_getElem? hx)) e)
theorem kd_rn (hm:Inj z fm) (hz:∀ m∈p.Messages,m.Name≠z) (he:∀ s,fm s=str []↔s=str []) {m:T14} {t:T11} (h:kd p m t≠0):kd (rnP fr fl fm p) (rnM fm m) (rnT fm t)=kd p m t:=by
 unfold kd at h ⊢
 have e1:((rnT fm t).Message.toList==(str []).toList)=(t.Message.toList==(str []).toList):=by
  cases hb:(t.Message.toList==(str []).toList) with
  | true=>exact seq'.2 ((he _).2 (seq'.1 hb))
  | false =>
   cases hc:((rnT fm t).Message.toList==(str []).toList) with
   | false=>rfl
   | true=>rw [seq'.2 ((he _).1 (seq'.1 hc))] at hb;cases hb
 rw [e1]
 cases hb:(!(t.Message.toList==(str []).toList)) with
 | false=>rfl
 | true =>
  rw [hb,cT] at h
  rw [cT,cT]
  have hfind:(p.Messages.map (rnM fm)).find? (fun q=>q.Name.toList==(rnT fm t).Message.toList)=(p.Messages.find? (fun q=>q.Name.toList==t.Message.toList)).map (rnM fm):=by
   have ht:t.Message≠z:=by
    cases hq:p.Messages.find? (fun q=>q.Name.toList==t.Message.toList) with
    | none=>rw [hq] at h;exact absurd rfl h
    | some q =>
     have h1:=List.mem_of_find?_eq_some hq
     have h2:(q.Name.toList==t.Message.toList)=true:=by have:=List.find?_some hq;exact this
     rw [← seq'.1 h2];exact hz q h1
   rw [List.find?_map]
   have aux:∀ l:List T14,(∀ m∈l,m.Name≠z)→l.find? ((fun q:T14=>q.Name.toList==(rnT fm t).Message.toList) ∘ rnM fm)=l.find? (fun q=>q.Name.toList==t.Message.toList):=by
    intro l
    induction l with
    | nil=>intro _;rfl
    | cons q l ih =>
     intro hl
     rw [List.find?_cons,List.find?_cons,ih fun o ho=>hl o (List.mem_cons_of_mem _ ho)]
     have:((fun q:T14=>q.Name.toList==(rnT fm t).Message.toList) ∘ rnM fm) q=(q.Name.toList==t.Message.toList):=hm.beq (hl q (List.mem_cons_self ..)) ht
     rw [this]
   rw [aux _ hz]
  show (match (p.Messages.map (rnM fm)).find? (fun q=>q.Name.toList==(rnT fm t).Message.toList) with | some q=>kdIn q.Fields (rnT fm t) | none=>0)=_
  rw [hfind]
  cases p.Messages.find? (fun q=>q.Name.toList==t.Message.toList)<;>rfl
theorem kdC_rn (hm:Inj z fm) (hz:∀ m∈p.Messages,m.Name≠z) (he:∀ s,fm s=str []↔s=str []) {m:T14} {t:T11} (h:t.Kind=1∨kd p m t≠0) :
  ((rnT fm t).Kind=1∨kd (rnP fr fl fm p) (rnM fm m) (rnT fm t)≠0)∧kdC (rnP fr fl fm p) (rnM fm m) (rnT fm t)=kdC p m t∧txC (rnP fr fl fm p) (rnM fm m) (rnT fm t)=txC p m t:=by
 have e:kdC (rnP fr fl fm p) (rnM fm m) (rnT fm t)=kdC p m t:=by
  unfold kdC
  show (bif t.Kind==1 then 0 else kd (rnP fr fl fm p) (rnM fm m) (rnT fm t))=_
  rcases h with h | h
  ·rw [show (t.Kind==(1:Int))=true by simpa using h];rfl
  ·rw [kd_rn hm hz he h]
 refine ⟨?_,e,?_⟩
 ·rcases h with h | h
  ·exact .inl h
  ·exact .inr (by rw [kd_rn hm hz he h];exact h)
 ·unfold txC;rw [e];rfl
theorem atoms_rn (hm:Inj z fm) (hz:∀ m∈p.Messages,m.Name≠z) (he:∀ s,fm s=str []↔s=str []) (h:AtomsOk p):AtomsOk (rnP fr fl fm p):=by
 intro m' hm' a' ha'
 obtain ⟨m,hmm,rfl⟩:=List.mem_map.1 (show m'∈p.Messages.map (rnM fm) from hm')
 obtain ⟨a,ha,rfl⟩:=List.mem_map.1 (show a'∈m.Where.map (rnA fm) from ha')
 obtain ⟨h1,h2,h3,h4,h5,h6⟩:=h m hmm a ha
 obtain ⟨l1,l2,l3⟩:=kdC_rn (fr:=fr) (fl:=fl) hm hz he h1
 obtain ⟨r1,r2,r3⟩:=kdC_rn (fr:=fr) (fl:=fl) hm hz he h2
 refine ⟨l1,r1,fun k=>?_,fun k=>?_,?_,?_⟩
 ·show kdC _ _ (rnT fm a.Left)=2
  rw [l2];exact h3 k
 ·show kdC _ _ (rnT fm a.Right)=2
  rw [r2];exact h4 k
 ·show txC _ _ (rnT fm a.Left)+txC _ _ (rnT fm a.Right)≠1
  rw [l3,r3];exact h5
 ·show txC _ _ (rnT fm a.Left)+txC _ _ (rnT fm a.Right)=2→_
  rw [l3,r3];exact h6
end
theorem np_rn {p:T15} {rest:List T15} {fr fl fm:ByteArray→ByteArray} {z:ByteArray} (hn:NoProb (p::rest))
  (hf:∀ q∈p::rest,z ∉ q.Roles∧z ∉ lnL q.Body∧∀ m∈q.Messages,m.Name≠z) (hr:Inj z fr) (hl:Inj z fl) (hm:Inj z fm) (he:∀ s,fm s=str []↔s=str [])
  (hv:ValidP (rnP fr fl fm p::rest)):NoProb (rnP fr fl fm p::rest):=by
 obtain ⟨_,h2,h3⟩:=hn
 have hc:∀ (a:ByteArray) n,(∃ q,(p::rest).find? (fun q=>q.Name.toList==a.toList)=some q∧q.Roles.length=n)→∃ q,(rnP fr fl fm p::rest).find? (fun q=>q.Name.toList==a.toList)=some q∧q.Roles.length=n:=by
  rintro a n ⟨q,g1,g2⟩
  rw [List.find?_cons] at g1 ⊢
  rw [show (rnP fr fl fm p).Name=p.Name from rfl]
  cases hb:(p.Name.toList==a.toList) with
  | true=>rw [hb] at g1;cases g1;exact ⟨_,rfl,by rw [← g2];simp [rnP]⟩
  | false=>rw [hb] at g1;exact ⟨q,g1,g2⟩
 have ct:∀ a b,CallsTo (rnP fr fl fm p::rest) a b→CallsTo (p::rest) a b:=by
  rintro a b ⟨⟨q,g1,g2⟩,q',g3,g4⟩
  constructor
  ·rw [List.find?_cons] at g1
   have g1:(match p.Name.toList==a.toList with | true=>some (rnP fr fl fm p) | false=>rest.find? (fun q=>q.Name.toList==a.toList))=some q:=g1
   rw [List.find?_cons]
   cases hb:(p.Name.toList==a.toList) with
   | true =>
    rw [hb] at g1;cases g1
    exact ⟨p,rfl,by have:b∈cnL (rnL fr fl fm p.Body):=g2;rwa [cn_rnL] at this⟩
   | false=>rw [hb] at g1;exact ⟨q,g1,g2⟩
  ·rcases List.mem_cons.1 g3 with rfl | g3
   ·exact ⟨p,List.mem_cons_self ..,g4⟩
   ·exact ⟨q',List.mem_cons_of_mem _ g3,g4⟩
 have pt:∀ n a b,PathTo (rnP fr fl fm p::rest) n a b→PathTo (p::rest) n a b:=by
  intro n
  induction n with
  | zero=>exact fun a b h=>h
  | succ n ih=>rintro a b ⟨c,g1,g2⟩;exact ⟨c,ih a c g1,ct c b g2⟩
 refine ⟨hv,?_,fun q hq=>?_⟩
 ·unfold NmD at h2 ⊢
  rw [List.pairwise_cons] at h2 ⊢
  exact h2
 ·rcases List.mem_cons.1 hq with rfl | hq
  ·obtain ⟨a,b,c⟩:=h3 p (List.mem_cons_self ..)
   obtain ⟨f1,f2,f3⟩:=hf p (List.mem_cons_self ..)
   refine ⟨⟨own_roles_rn hr f1 a.roles,sorts_rn hm f3 a.sorts,atoms_rn hm f3 he a.atoms,?_⟩,?_,fun b hb=>c b (pt 5 _ _ hb)⟩
   ·show ndp [] (asL (rnL fr fl fm p.Body))
    rw [as_rnL];exact a.calls
   ·exact okL_rn hr hl f1 hc p.Body [] f2 (fun _ h=>by cases h) b
  ·obtain ⟨a,b,c⟩:=h3 q (List.mem_cons_of_mem _ hq)
   obtain ⟨f1,f2,f3⟩:=hf q (List.mem_cons_of_mem _ hq)
   refine ⟨a,?_,fun b hb=>c b (pt 5 _ _ hb)⟩
   have:=okL_rn (fm:=id) (Inj.id z) (Inj.id z) f1 hc q.Body [] f2 (fun _ h=>by cases h) b
   rw [rnP_id,rnL_id] at this
   exact this
end Gp
end
section
namespace Gp
open Go Go.Kx Gx
def rho (a b s:ByteArray):ByteArray:=if s=a then b else s
theorem renamed_eq (N:Nat) (s a b:ByteArray):z38 N s a b=some (rho a b s):=by
 unfold z38 rho
 by_cases h:s=a
 ·rw [if_pos h,seq'.2 h];rfl
 ·rw [if_neg h,show (s.toList==a.toList)=false from by
   cases hb:(s.toList==a.toList) with
   | false=>rfl
   | true=>exact absurd (seq'.1 hb) h]
  rfl
theorem rho_inj (a z:ByteArray):Inj z (rho a z):=by
 intro s t hs ht h
 unfold rho at h
 by_cases h1:s=a
 ·by_cases h2:t=a
  ·rw [h1,h2]
  ·rw [if_pos h1,if_neg h2] at h;exact absurd h.symm ht
 ·by_cases h2:t=a
  ·rw [if_neg h1,if_pos h2] at h;exact absurd h hs
  ·rw [if_neg h1,if_neg h2] at h;exact h
theorem rho_emp {a z:ByteArray} (ha:a≠str []) (hz:z≠str []) (s):rho a z s=str []↔s=str []:=by
 unfold rho
 by_cases h1:s=a
 ·rw [if_pos h1,h1];exact ⟨fun h=>absurd h hz,fun h=>absurd h ha⟩
 ·rw [if_neg h1]
theorem all_eq {N:Nat} (hN:4194304 < N) (l:List ByteArray) (a b:ByteArray) (hl:l.length≤4194304):z16 N l a b=some (l.map (rho a b)):=by
 unfold z16
 have:=(fold_loop l (z16_l2 N l a b) (fun s x=>s++[rho a b x]) (fun s=>some s)
  (fun j s=>s.length=j) (fun n k s x hi hx=>?_) (fun n k s hi hk=>?_) (N:=N) (s:=[]) (by omega) rfl).1
 ·rw [this,snoc_fold,List.nil_append]
 ·have hk:=get_lt hx
  refine ⟨?_,by simp [hi]⟩
  simp only [z16_l2,lt_t hk,cT,idx_nat,hx,bS,renamed_eq]
  rw [appL_some (by simp;omega),bS,w64_succ (by omega)]
 ·simp only [z16_l2,lt_f hk,cF,z16_k1]
def fR (k:Int) (a b:ByteArray):ByteArray→ByteArray:=if k=0 then rho a b else id
def fL (k:Int) (a b:ByteArray):ByteArray→ByteArray:=if k=1 then rho a b else id
def fM (k:Int) (a b:ByteArray):ByteArray→ByteArray:=if k=2 then rho a b else id
theorem items_rn:∀ (N:Nat) (xs:List T13) (kd:Int) (a b:ByteArray),kd=0∨kd=1∨kd=2→4194306+dL xs≤N→xs.length≤4194304→bL xs→z17 N xs kd a b=some (rnL (fR kd a b) (fL kd a b) (fM kd a b) xs)
 | 0,_,_,_,_,_,h,_,_=>by omega
 | N+1,xs,kd,a,b,hkd,h,hs,hb=>by
  show z17_b N (z17 N) xs kd a b=_
  unfold z17_b
  have hN:4194304 < N:=by omega
  have inner:∀ (k:Nat) (x:T13) (acc:List T13) (ag:List T13→Int→Option (List T13)) (f:ByteArray) (t:List ByteArray) (n:ByteArray),xs[k]? = some x→acc.length≤4194304 →
    z17_k5 N (z17 N) kd a b acc (k:Int) ag x f t n=ag (acc++[⟨x.Kind,f,t,n,x.As,x.Ticks,rnLL (fR kd a b) (fL kd a b) (fM kd a b) x.Blocks⟩]) ((k+1:Nat):Int):=by
   intro k x acc ag f t nn hx hacc
   have hm:=List.mem_of_getElem? hx
   have hbx:=(bI_eq _).1 (bL_mem hb hm)
   have hdx:=dL_mem hm
   rw [dI_eq] at hdx
   have hk:=get_lt hx
   unfold z17_k5
   have:=(fold_loop x.Blocks (z17_l4 (z17 N) kd a b acc (k:Int) ag x f t nn) (fun s y=>s++[rnL (fR kd a b) (fL kd a b) (fM kd a b) y]) (fun s=>z17_k3 acc (k:Int) ag x f t nn s)
    (fun j s=>s.length=j) (fun n j s y hi hj=>?_) (fun n j s hi hj=>?_) (N:=N) (s:=[]) (by omega) rfl).1
   ·rw [this,snoc_fold,List.nil_append,← rnLL_map]
    unfold z17_k3
    rw [appL_some (by simp;omega),bS,w64_succ (by omega)]
   ·have hmb:=List.mem_of_getElem? hj
    have hbb:=bLL_mem hbx.2.2 hmb
    have hdb:=dLL_mem hmb
    have e:=items_rn N y kd a b hkd (by omega) hbb.1 hbb.2
    have hjl:=get_lt hj
    refine ⟨?_,by simp [hi]⟩
    simp only [z17_l4,lt_t hjl,cT,idx_nat,hj,bS,e]
    rw [appL_some (by simp;omega),bS,w64_succ (by omega)]
   ·simp only [z17_l4,lt_f hj,cF]
  have six:∀ (k:Nat) (x:T13) (acc:List T13) (ag:List T13→Int→Option (List T13)) (v:Bool),xs[k]? = some x→acc.length≤4194304→(v=true↔x.Kind=3∨x.Kind=4) →
    z17_k6 N (z17 N) kd a b acc (k:Int) ag x v=ag (acc++[rnI (fR kd a b) (fL kd a b) (fM kd a b) x]) ((k+1:Nat):Int):=by
   intro k x acc ag v hx hacc hv
   have hm:=List.mem_of_getElem? hx
   have hbx:=(bI_eq _).1 (bL_mem hb hm)
   rw [rnI_eq]
   unfold z17_k6 rnN
   rcases hkd with rfl | rfl | rfl
   ·rw [show ((0:Int)==0)=true from rfl,cT,renamed_eq,bS,all_eq hN _ _ _ hbx.1,bS,inner k x acc ag _ _ _ hx hacc]
    have e1:fR 0 a b=rho a b:=rfl
    have e2:fL 0 a b=id:=rfl
    have e3:fM 0 a b=id:=rfl
    rw [e1,e2,e3]
    simp only [id,ite_self]
   ·have e1:fR 1 a b=id:=rfl
    have e2:fL 1 a b=rho a b:=rfl
    have e3:fM 1 a b=id:=rfl
    rw [show ((1:Int)==0)=false from rfl,cF,show ((1:Int)==1)=true from rfl,cT]
    cases v with
    | true =>
     have h3:=hv.1 rfl
     rw [cT,renamed_eq,bS,inner k x acc ag _ _ _ hx hacc,e1,e2,e3,if_neg (by omega),if_pos h3,List.map_id];rfl
    | false =>
     have h3:¬ (x.Kind=3∨x.Kind=4):=fun h=>by have:=hv.2 h;cases this
     rw [cF,show ((1:Int)==2)=false from rfl,cF,inner k x acc ag _ _ _ hx hacc,e1,e2,e3,if_neg h3,List.map_id]
     simp only [id,ite_self]
   ·have e1:fR 2 a b=id:=rfl
    have e2:fL 2 a b=id:=rfl
    have e3:fM 2 a b=rho a b:=rfl
    rw [show ((2:Int)==0)=false from rfl,cF,show ((2:Int)==1)=false from rfl,cF,show ((2:Int)==2)=true from rfl,cT]
    by_cases h1:x.Kind=1
    ·rw [show (x.Kind==(1:Int))=true by simpa using h1,cT,renamed_eq,bS,inner k x acc ag _ _ _ hx hacc,e1,e2,e3,if_pos h1,List.map_id];rfl
    ·rw [show (x.Kind==(1:Int))=false by simpa using h1,cF,inner k x acc ag _ _ _ hx hacc,e1,e2,e3,if_neg h1,List.map_id]
     simp only [id,ite_self]
  have:=(fold_loop xs (z17_l2 N (z17 N) xs kd a b) (fun s x=>s++[rnI (fR kd a b) (fL kd a b) (fM kd a b) x]) (fun s=>some s)
   (fun j s=>s.length=j) (fun n k s x hi hx=>?_) (fun n k s hi hk=>?_) (N:=N) (s:=[]) (by omega) rfl).1
  ·rw [this,snoc_fold,List.nil_append,← rnL_map]
  ·have hk:=get_lt hx
   refine ⟨?_,by simp [hi]⟩
   simp only [z17_l2,lt_t hk,cT,idx_nat,hx,bS]
   by_cases h3:x.Kind=3
   ·rw [show (x.Kind==(3:Int))=true by simpa using h3,cT,six k x s _ true hx (by omega) ⟨fun _=>.inl h3,fun _=>rfl⟩]
   ·rw [show (x.Kind==(3:Int))=false by simpa using h3,cF,six k x s _ _ hx (by omega) (by simp [h3])]
  ·simp only [z17_l2,lt_f hk,cF,z17_k1]
theorem messages_rn {N:Nat} (hN:4194304 < N) (l:List T14) (a b:ByteArray) (hl:l.length≤4194304) (hm:∀ m∈l,bM m):z18 N l a b=some (l.map (rnM (rho a b))):=by
 unfold z18
 have:=(fold_loop l (z18_l2 N l a b) (fun s x=>s++[rnM (rho a b) x]) (fun s=>some s)
  (fun j s=>s.length=j) (fun n k s x hi hx=>?_) (fun n k s hi hk=>?_) (N:=N) (s:=[]) (by omega) rfl).1
 ·rw [this,snoc_fold,List.nil_append]
 ·have hk:=get_lt hx
  have hbx:=hm x (List.mem_of_getElem? hx)
  refine ⟨?_,by simp [hi]⟩
  simp only [z18_l2,lt_t hk,cT,idx_nat,hx,bS,renamed_eq]
  have:=(fold_loop x.Where (z18_l4 N a b s (k:Int) (z18_l2 N l a b n) x (rho a b x.Name)) (fun s y=>s++[rnA (rho a b) y]) (fun w=>z18_k3 s (k:Int) (z18_l2 N l a b n) x (rho a b x.Name) w)
   (fun j s=>s.length=j) (fun n j s y hi hj=>?_) (fun n j s hi hj=>?_) (N:=N) (s:=[]) (by have:=hbx.2;omega) rfl).1
  ·rw [this,snoc_fold,List.nil_append]
   unfold z18_k3
   rw [appL_some (by simp;omega),bS,w64_succ (by omega)]
   rfl
  ·have hj2:=get_lt hj
   have:=hbx.2
   refine ⟨?_,by simp [hi]⟩
   simp only [z18_l4,lt_t hj2,cT,idx_nat,hj,bS,renamed_eq]
   rw [appL_some (by simp;omega),bS,w64_succ (by omega)]
   rfl
  ·simp only [z18_l4,lt_f hj,cF]
 ·simp only [z18_l2,lt_f hk,cF,z18_k1]
theorem rnL_len (fr fl fm l):(rnL fr fl fm l).length=l.length:=by rw [rnL_map,List.length_map]
theorem rnLL_len (fr fl fm l):(rnLL fr fl fm l).length=l.length:=by rw [rnLL_map,List.length_map]
mutual
theorem b_rnI (fr fl fm):∀ x,bI x→bI (rnI fr fl fm x)
 | ⟨k,f,t,n,a,x,b⟩,h=>by
  simp only [bI] at h
  simp only [rnI,bI]
  rw [rnLL_len,List.length_map]
  exact ⟨h.1,h.2.1,b_rnLL fr fl fm b h.2.2⟩
theorem b_rnL (fr fl fm):∀ l,bL l→bL (rnL fr fl fm l)
 | [],h=>by simp only [rnL,bL]
 | x::l,h=>by
  simp only [bL] at h
  simp only [rnL,bL]
  exact ⟨b_rnI fr fl fm x h.1,b_rnL fr fl fm l h.2⟩
theorem b_rnLL (fr fl fm):∀ l,bLL l→bLL (rnLL fr fl fm l)
 | [],h=>by simp only [rnLL,bLL]
 | x::l,h=>by
  simp only [bLL] at h
  simp only [rnLL,bLL]
  exact ⟨by rw [rnL_len];exact h.1,b_rnL fr fl fm x h.2.1,b_rnLL fr fl fm l h.2.2⟩
end
mutual
theorem d_rnI (fr fl fm):∀ x,dI (rnI fr fl fm x)=dI x
 | ⟨k,f,t,n,a,x,b⟩=>by simp only [rnI,dI,d_rnLL fr fl fm b]
theorem d_rnL (fr fl fm):∀ l,dL (rnL fr fl fm l)=dL l
 | []=>rfl
 | x::l=>by simp only [rnL,dL,d_rnI fr fl fm x,d_rnL fr fl fm l]
theorem d_rnLL (fr fl fm):∀ l,dLL (rnLL fr fl fm l)=dLL l
 | []=>rfl
 | x::l=>by simp only [rnLL,dLL,d_rnL fr fl fm x,d_rnLL fr fl fm l]
end
mutual
theorem c_rnI (fr fl fm):∀ x,cI (rnI fr fl fm x)=cI x
 | ⟨k,f,t,n,a,x,b⟩=>by simp only [rnI,cI,c_rnLL fr fl fm b]
theorem c_rnL (fr fl fm):∀ l,cL (rnL fr fl fm l)=cL l
 | []=>rfl
 | x::l=>by simp only [rnL,cL,c_rnI fr fl fm x,c_rnL fr fl fm l]
theorem c_rnLL (fr fl fm):∀ l,cLL (rnLL fr fl fm l)=cLL l
 | []=>rfl
 | x::l=>by simp only [rnLL,cLL,c_rnL fr fl fm x,c_rnLL fr fl fm l]
end
theorem bP_rn {fr fl fm} {p:T15} (h:bP p):bP (rnP fr fl fm p):=by
 refine ⟨by show (p.Roles.map fr).length≤_;rw [List.length_map];exact h.r,by show (p.Messages.map (rnM fm)).length≤_;rw [List.length_map];exact h.m,fun x hx=>?_,by show (rnL fr fl fm p.Body).length≤_;rw [rnL_len];exact h.l,b_rnL fr fl fm _ h.b⟩
 obtain ⟨m,hm,rfl⟩:=List.mem_map.1 (show x∈p.Messages.map (rnM fm) from hx)
 obtain ⟨q1,q2⟩:=h.ms m hm
 exact ⟨q1,by show (m.Where.map (rnA fm)).length≤_;rw [List.length_map];exact q2⟩
theorem zs_rn {N:Nat} {p:T15} {rest} {fr fl fm} (h:Zs N (p::rest)):Zs N (rnP fr fl fm p::rest):=by
 refine ⟨h.len,fun q hq=>?_,?_,h.n⟩
 ·rcases List.mem_cons.1 hq with rfl | hq
  ·obtain ⟨a,b,c⟩:=h.p p (List.mem_cons_self ..)
   exact ⟨bP_rn a,by show _+dL (rnL fr fl fm p.Body)≤_;rw [d_rnL];exact b,by show dL (rnL fr fl fm p.Body)≤_;rw [d_rnL];exact c⟩
  ·exact h.p q (List.mem_cons_of_mem _ hq)
 ·have:=h.all
  unfold cAll at this ⊢
  rw [List.map_cons,List.sum_cons] at this ⊢
  show cL (rnL fr fl fm p.Body)+_≤_
  rw [c_rnL];exact this
theorem rename_k1 {N:Nat} {p:T15} {rest:List T15} {fr fl fm:ByteArray→ByteArray} {z:ByteArray} (hz:Zs N (p::rest)) (hn:NoProb (p::rest))
  (hf:∀ q∈p::rest,z ∉ q.Roles∧z ∉ lnL q.Body∧∀ m∈q.Messages,m.Name≠z) (hr:Inj z fr) (hl:Inj z fl) (hm:Inj z fm) (he:∀ s,fm s=str []↔s=str [])
  {ro ms bo} (e:(⟨p.Name,ro,ms,bo⟩:T15)=rnP fr fl fm p):law11_NamesRename_k1 N (p::rest) p ro ms bo=some true:=by
 have hN:=hz.n
 unfold law11_NamesRename_k1
 rw [e]
 have e1:lsl (p::rest) (some (1:Int)) none=some rest:=lsl_dr (xs:=p::rest) (k:=1) (by simp)
 have hlen:=hz.len
 rw [e1,bS,appL_some (by simp at hlen ⊢;omega),bS,List.singleton_append]
 have hzr:=zs_rn (fr:=fr) (fl:=fl) (fm:=fm) hz
 obtain ⟨v,v1,v2⟩:=valid_dq (N:=N) (by omega) _ hzr.len fun q hq=>(hzr.p q hq).1
 rw [v1,bS]
 cases v with
 | false=>rfl
 | true =>
  rw [Bool.not_true,cF]
  have hnp:=np_rn hn hf hr hl hm he (v2.1 rfl)
  obtain ⟨s,s1,s2,_⟩:=check_np _ hzr
  rw [s1,bS,s2.2 hnp]
  rfl
theorem rename_law {N:Nat} (l:List T10) (kd a:Int) (h0:0≤a) (h1:a≤255) (hw:z7 N=some true) (hl:l.length≤4194304)
  (hb:∀ p∈l,RP p∧8388611+dL (oL p.Body)≤N∧dL (oL p.Body)≤4194304) (hc:cPs l≤4194304) (hN:8388611 < N):law11_NamesRename N l kd a=some true:=by
 have hN':4194304 < N:=by omega
 have hb':∀ p∈l,RP p∧4194306+dL (oL p.Body)≤N:=fun p hp=>⟨(hb p hp).1,by have:=(hb p hp).2.1;omega⟩
 obtain ⟨f,e,hf⟩:=few11_dq hN' l hl hb' (by omega)
 unfold law11_NamesRename
 simp only [hw,bS,Bool.not_true,cF,e]
 cases f
 ·rfl
 simp only [Bool.not_true,cF]
 by_cases hl0:l.length=0
 ·rw [show ((l.length:Int)==0)=true by simp;exact List.length_eq_zero_iff.1 hl0,cT]
 rw [show ((l.length:Int)==0)=false by simp;intro e;exact hl0 (by rw [e];rfl),cF]
 rw [own_eq hN' l hl hb',bS]
 have hz:=zs_own (N:=N) hl hb hc hN
 obtain ⟨r,r1,r2,_⟩:=check_np _ hz
 rw [r1,bS]
 by_cases hr:r.Err=0
 ·rw [show (r.Err != (0:Int))=false by simpa using hr,cF]
  have hn:=r2.1 hr
  cases l with
  | nil=>exact absurd rfl hl0
  | cons p0 l0 =>
   rw [List.map_cons] at hn hz ⊢
   generalize hP:oP p0=P at hn hz ⊢
   generalize hR:l0.map oP=R at hn hz ⊢
   have hi0:idx (P::R) (0:Int)=some P:=idx_nat (P::R) 0
   rw [hi0,bS]
   have hv:=hn.1
   unfold z14
   obtain ⟨v,v1,v2⟩:=valid_dq (N:=N) (by omega) _ hz.len fun q hq=>(hz.p q hq).1
   rw [v1,v2.2 hv,bS,Bool.not_true,cF,source_eq (by omega) _ hv.1 fun q hq=>⟨hv.2.1 q hq,(hz.p q hq).1.l,(hz.p q hq).1.b⟩,bS,bS]
   have hsz:(mkB (srcT (P::R))).size≤8000:=by rw [size_bs,bs_mkB];exact hv.2.2
   unfold hasS
   rw [dT (by omega:((mkB (srcT (P::R))).size:Int) < 4294967281),cT,bS]
   cases hcn:Lib.contains (mkB (srcT (P::R))).data.toList (str [122,122,95,110,101,119]).data.toList with
   | true=>rfl
   | false =>
    rw [cF]
    have hfr:∀ q∈P::R,str [122,122,95,110,101,119] ∉ q.Roles∧str [122,122,95,110,101,119] ∉ lnL q.Body∧∀ m∈q.Messages,m.Name≠str [122,122,95,110,101,119]:=by
     intro q hq
     refine fresh_of hv ?_ hq
     have:(mkB (srcT (P::R))).data.toList=srcT (P::R):=bs_mkB _
     rw [this] at hcn
     exact hcn
    have hPm:P∈P::R:=List.mem_cons_self ..
    obtain ⟨bp,bd1,bd2⟩:=hz.p P hPm
    obtain ⟨_,wr,_,_,_,_,wm⟩:=hv.2.1 P hPm
    have hsame:law11_NamesRename_k1 N (P::R) P P.Roles P.Messages P.Body=some true :=
     rename_k1 (fr:=id) (fl:=id) (fm:=id) hz hn hfr (Inj.id _) (Inj.id _) (Inj.id _) (fun _=>Iff.rfl) (rnP_id P).symm
    by_cases k0:kd.tmod 3=0
    ·rw [show (kd.tmod (3:Int)==(0:Int))=true by simpa using k0,cT]
     obtain ⟨k,hk,e2⟩:=rem_ok h0 h1 (show 0 < P.Roles.length from wr.1)
     rw [e2,bS,idx_nat,List.getElem?_eq_getElem hk,bS,all_eq hN' _ _ _ bp.r,bS,items_rn N _ 0 _ _ (.inl rfl) (by omega) bp.l bp.b,bS]
     refine rename_k1 (fr:=rho P.Roles[k] (str [122,122,95,110,101,119])) (fl:=id) (fm:=id) hz hn hfr (rho_inj _ _) (Inj.id _) (Inj.id _) (fun _=>Iff.rfl) ?_
     unfold rnP
     rw [rnMs_id];rfl
    ·rw [show (kd.tmod (3:Int)==(0:Int))=false by simpa using k0,cF]
     by_cases k1:kd.tmod 3=1
     ·rw [show (kd.tmod (3:Int)==(1:Int))=true by simpa using k1,cT]
      have key:∀ (m:List T13) (j n:Nat),P.Body.drop j=m→m.length < n→law11_NamesRename_l3 N (P::R) P n (j:Int)=some true:=by
       intro m
       induction m with
       | nil =>
        intro j n h hn'
        obtain ⟨n,rfl⟩:∃ m,n=m+1:=⟨n-1,by simp at hn';omega⟩
        simp only [law11_NamesRename_l3,lt_f (drop_nil h),cF,law11_NamesRename_k2]
        exact hsame
       | cons x m ih =>
        intro j n h hn'
        obtain ⟨n,rfl⟩:∃ m,n=m+1:=⟨n-1,by simp at hn';omega⟩
        obtain ⟨x1,x2,x3⟩:=drop_cons h
        simp only [law11_NamesRename_l3,lt_t x1,cT,idx_nat,x2,bS]
        by_cases h3:x.Kind=3
        ·rw [show (x.Kind==(3:Int))=true by simpa using h3,cT,items_rn N _ 1 _ _ (.inr (.inl rfl)) (by omega) bp.l bp.b,bS]
         unfold law11_NamesRename_k2
         refine rename_k1 (fr:=id) (fl:=rho x.Name (str [122,122,95,110,101,119])) (fm:=id) hz hn hfr (Inj.id _) (rho_inj _ _) (Inj.id _) (fun _=>Iff.rfl) ?_
         unfold rnP
         rw [rnMs_id,List.map_id];rfl
        ·rw [show (x.Kind==(3:Int))=false by simpa using h3,cF,w64_suc (by have:=bp.l;omega)]
         exact ih (j+1) n x3 (by simp at hn';omega)
      exact key _ 0 N rfl (by rw [List.drop_zero];have:=bp.l;omega)
     ·rw [show (kd.tmod (3:Int)==(1:Int))=false by simpa using k1,cF]
      by_cases hm0:P.Messages.length=0
      ·rw [dF (by omega:¬ (P.Messages.length:Int) > 0),cF]
       exact hsame
      ·rw [dT (by omega:(P.Messages.length:Int) > 0),cT]
       obtain ⟨k,hk,e2⟩:=rem_ok h0 h1 (Nat.pos_of_ne_zero hm0)
       rw [e2,bS,idx_nat,List.getElem?_eq_getElem hk,bS,messages_rn hN' _ _ _ bp.m bp.ms,bS,items_rn N _ 2 _ _ (.inr (.inr rfl)) (by omega) bp.l bp.b,bS]
       have hne:P.Messages[k].Name≠str []:=by
        intro e
        have:=(wm _ (List.getElem_mem hk)).1
        rw [e] at this
        revert this;decide
       refine rename_k1 (fr:=id) (fl:=id) (fm:=rho P.Messages[k].Name (str [122,122,95,110,101,119])) hz hn hfr (Inj.id _) (Inj.id _) (rho_inj _ _) (rho_emp hne (by decide)) ?_
       unfold rnP
       rw [List.map_id];rfl
 ·rw [show (r.Err != (0:Int))=true by simpa using hr,cT]
end Gp
end
section
namespace Gx
open Go Go.Kx
def k_api_Sort (x:T1):Prop:=((Lit.int .i64 x.Kind).wf=true)∧((Lit.int .i64 x.Lo).wf=true)∧((Lit.int .i64 x.Hi).wf=true)
def k_api_Field (x:T0):Prop:=(x.Name.size≤bd)∧(k_api_Sort x.Sort')
def k_ref10_Term (x:T11):Prop:=((Lit.int .i64 x.Kind).wf=true)∧(x.Message.size≤bd)∧(x.Field.size≤bd)∧((Lit.int .i64 x.N).wf=true)
def k_ref10_Atom (x:T7):Prop:=(k_ref10_Term x.Left)∧(x.Op.size≤bd)∧(k_ref10_Term x.Right)
def k_ref10_Message (x:T9):Prop:=(x.Name.size≤bd)∧(x.Fields.length≤bd∧∀ y∈x.Fields,k_api_Field y)∧(x.Where.length≤bd∧∀ y∈x.Where,k_ref10_Atom y)
mutual
def k_ref10_Item:T8→Prop
 | ⟨a0,a1,a2,a3,a4,a5,a6⟩=>((Lit.int .i64 a0).wf=true)∧(a1.size≤bd)∧(a2.length≤bd∧∀ y∈a2,y.size≤bd)∧(a3.size≤bd)∧(a4.size≤bd)∧((Lit.int .i64 a5).wf=true)∧(a6.length≤bd∧kLL_ref10_Item a6)
def kL_ref10_Item:List T8→Prop
 | []=>True
 | x::l=>k_ref10_Item x∧kL_ref10_Item l
def kLL_ref10_Item:List (List T8)→Prop
 | []=>True
 | x::l=>(x.length≤bd∧kL_ref10_Item x)∧kLL_ref10_Item l
end
mutual
def w_ref10_Item:T8→Nat
 | ⟨_,_,_,_,_,_,a6⟩=>wLL_ref10_Item a6+1
def wL_ref10_Item:List T8→Nat
 | []=>0
 | x::l=>w_ref10_Item x+wL_ref10_Item l
def wLL_ref10_Item:List (List T8)→Nat
 | []=>0
 | x::l=>wL_ref10_Item x+wLL_ref10_Item l
end
theorem wL_ref10_Item_eq:∀ l,wL_ref10_Item l=wsum w_ref10_Item l
 | []=>by simp only [wL_ref10_Item,wsum]
 | x::l=>by simp only [wL_ref10_Item,wsum];rw [wL_ref10_Item_eq l]
theorem kL_ref10_Item_of:∀ l,(∀ x∈l,k_ref10_Item x)→kL_ref10_Item l
 | [],_=>by simp only [kL_ref10_Item]
 | x::l,h=>by simp only [kL_ref10_Item];exact ⟨h x (List.mem_cons_self ..),kL_ref10_Item_of l fun y hy=>h y (List.mem_cons_of_mem _ hy)⟩
theorem wLL_ref10_Item_eq:∀ l,wLL_ref10_Item l=wsum (wsum w_ref10_Item) l
 | []=>by simp only [wLL_ref10_Item,wsum]
 | x::l=>by simp only [wLL_ref10_Item,wsum];rw [wLL_ref10_Item_eq l,wL_ref10_Item_eq]
theorem kLL_ref10_Item_of:∀ l,(∀ x∈l,x.length≤bd∧∀ y∈x,k_ref10_Item y)→kLL_ref10_Item l
 | [],_=>by simp only [kLL_ref10_Item]
 | x::l,h=>by simp only [kLL_ref10_Item];exact ⟨⟨(h x (List.mem_cons_self ..)).1,kL_ref10_Item_of x (h x (List.mem_cons_self ..)).2⟩,kLL_ref10_Item_of l fun y hy=>h y (List.mem_cons_of_mem _ hy)⟩
def k_ref10_Protocol (x:T10):Prop:=(x.Name.size≤bd)∧(x.Roles.length≤bd∧∀ y∈x.Roles,y.size≤bd)∧(x.Messages.length≤bd∧∀ y∈x.Messages,k_ref10_Message y)∧(x.Body.length≤bd∧∀ y∈x.Body,k_ref10_Item y)
def w_ref10_Protocol (x:T10):Nat:=wsum w_ref10_Item x.Body
end Gx
end
section
namespace Gp
open Go Go.Kx Gx
set_option maxRecDepth 100000
theorem awake_some (k:Nat):z7 (k+300)=some true:=by kernel_rfl
mutual
theorem cw_I:∀ x,cI (oI x)=w_ref10_Item x
 | ⟨k,f,t,n,a,x,b⟩=>by simp only [oI,cI,w_ref10_Item,cw_LL b]
theorem cw_L:∀ l,cL (oL l)=wL_ref10_Item l
 | []=>by simp only [oL,cL,wL_ref10_Item]
 | x::l=>by simp only [oL,cL,wL_ref10_Item,cw_I x,cw_L l]
theorem cw_LL:∀ l,cLL (oLL l)=wLL_ref10_Item l
 | []=>by simp only [oLL,cLL,wLL_ref10_Item]
 | x::l=>by simp only [oLL,cLL,wLL_ref10_Item,cw_L x,cw_LL l]
end
mutual
theorem bk_I:∀ x,k_ref10_Item x→bI (oI x)
 | ⟨k,f,t,n,a,x,b⟩,h=>by
  simp only [k_ref10_Item] at h
  simp only [oI,bI]
  rw [oLL_len]
  have h1:=h.2.2.1.1;have h2:=h.2.2.2.2.2.2.1
  unfold bd at h1 h2
  exact ⟨by omega,by omega,bk_LL b h.2.2.2.2.2.2.2⟩
theorem bk_L:∀ l,kL_ref10_Item l→bL (oL l)
 | [],_=>by simp only [oL,bL]
 | x::l,h=>by
  simp only [kL_ref10_Item] at h
  simp only [oL,bL]
  exact ⟨bk_I x h.1,bk_L l h.2⟩
theorem bk_LL:∀ l,kLL_ref10_Item l→bLL (oLL l)
 | [],_=>by simp only [oLL,bLL]
 | x::l,h=>by
  simp only [kLL_ref10_Item] at h
  simp only [oLL,bLL]
  have h1:=h.1.1
  unfold bd at h1
  exact ⟨by rw [oL_len];omega,bk_L x h.1.2,bk_LL l h.2⟩
end
theorem RP_of {p:T10} (h:k_ref10_Protocol p):RP p:=by
 obtain ⟨_,h1,h2,h3⟩:=h
 refine ⟨?_,?_,fun x hx=>?_,?_,?_⟩
 ·have:=h1.1;unfold bd at this;show p.Roles.length≤_;omega
 ·have:=h2.1;unfold bd at this;show (p.Messages.map oM).length≤_;rw [List.length_map];omega
 ·obtain ⟨m,hm,rfl⟩:=List.mem_map.1 hx
  obtain ⟨_,q1,q2⟩:=h2.2 m hm
  have q1:=q1.1;have q2:=q2.1
  unfold bd at q1 q2
  exact ⟨by show m.Fields.length≤_;omega,by show (m.Where.map oA).length≤_;rw [List.length_map];omega⟩
 ·have:=h3.1;unfold bd at this;show (oL p.Body).length≤_;rw [oL_len];omega
 ·exact bk_L _ (kL_ref10_Item_of _ h3.2)
theorem cw_P (p:T10):cL (oL p.Body)=w_ref10_Protocol p:=by
 rw [cw_L,wL_ref10_Item_eq];rfl
theorem cPs_w:∀ l,cPs l=wsum w_ref10_Protocol l
 | []=>rfl
 | p::l=>by
  have:=cPs_w l
  unfold cPs at this ⊢
  simp only [List.map_cons,List.sum_cons,wsum]
  rw [this,cw_P]
theorem le_wsum {α:Type} {f:α→Nat}:∀ {l:List α} {x},x∈l→f x≤wsum f l
 | y::l,x,h=>by
  rcases List.mem_cons.1 h with rfl | h
  ·show _≤f x+_;omega
  ·have:=le_wsum (f:=f) h
   show _≤f y+_;omega
theorem sizes_of {l:List T10} (h:(l.length≤bd∧∀ y∈l,k_ref10_Protocol y)∧wsum w_ref10_Protocol l≤bd) :
  l.length≤4194304∧(∀ p∈l,RP p∧8388611+dL (oL p.Body)≤20000000+300∧dL (oL p.Body)≤4194304)∧cPs l≤4194304:=by
 obtain ⟨⟨h1,h2⟩,h3⟩:=h
 unfold bd at h1 h3
 refine ⟨by omega,fun p hp=>?_,by rw [cPs_w];omega⟩
 have:=dc_L (oL p.Body)
 have:=le_wsum (f:=w_ref10_Protocol) hp
 rw [← cw_P] at this
 exact ⟨RP_of (h2 p hp),by omega,by omega⟩
theorem u8_of {x:Int} (h:(Lit.int .u8 x).wf=true):0≤x∧x≤255:=by
 simp only [Lit.wf,Bool.and_eq_true,decide_eq_true_eq] at h
 have e1:IntKind.u8.min=0:=by decide
 have e2:IntKind.u8.max=255:=by decide
 rw [e1,e2] at h
 exact h
theorem plain:∀ (x0:(List T10)) (x1:Int) (x2:Int),((x0.length≤bd∧∀ y∈x0,k_ref10_Protocol y)∧wsum w_ref10_Protocol x0≤bd)→((Lit.int .u8 x1).wf=true)→((Lit.int .u8 x2).wf=true)→∃ N,law11_NamesRename N x0 x1 x2=some true:=by
 intro l k a hl hk ha
 obtain ⟨a1,a2,a3⟩:=sizes_of hl
 obtain ⟨h0,h1⟩:=u8_of ha
 exact ⟨20000000+300,rename_law l k a h0 h1 (awake_some _) a1 a2 a3 (by omega)⟩
end Gp
end
