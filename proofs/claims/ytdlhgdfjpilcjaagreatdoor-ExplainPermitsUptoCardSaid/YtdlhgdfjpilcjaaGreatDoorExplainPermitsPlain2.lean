/- The plain law, part 2: what the functions compute answers as the statement says. -/
import Derived.Test.YtdlhgdfjpilcjaaGreatDoorExplainPermitsPlain1
set_option linter.all false
section
namespace Gp
open Go Go.Kx Gx
variable {N:Nat}
def fromB (m:T8) (s k:Nat):Bool:=match m.Moves[k]? with
 | some x=>x.From==(s:Int)
 | none=>false
def ixM (m:T8) (n s:Nat):List Int:=((List.range n).filter (fromB m s)).map fun (k:Nat)=>(k:Int)
theorem ixM_succ (m:T8) (n s:Nat):ixM m (n+1) s=ixM m n s++(if fromB m s n=true then [(n:Int)] else []):=by
 unfold ixM
 rw [List.range_succ,List.filter_append,List.map_append]
 congr 1
 by_cases h:fromB m s n=true
 ·simp [h]
 ·simp [h]
theorem ixM_mem {m:T8} {n s:Nat} {i:Int} (h:i∈ixM m n s):∃ k x,i=((k:Nat):Int)∧k < n∧m.Moves[k]? = some x∧x.From=(s:Int):=by
 unfold ixM at h
 obtain ⟨k,hk,rfl⟩:=List.mem_map.1 h
 obtain ⟨h1,h2⟩:=List.mem_filter.1 hk
 unfold fromB at h2
 split at h2
 ·rename_i x hx;exact ⟨k,x,rfl,List.mem_range.1 h1,hx,eq_of_beq h2⟩
 ·cases h2
theorem ixM_of {m:T8} {n s k:Nat} {x:T9} (hk:k < n) (hx:m.Moves[k]? = some x) (hf:x.From=(s:Int)):(k:Int)∈ixM m n s:=by
 unfold ixM
 refine List.mem_map.2 ⟨k,List.mem_filter.2 ⟨List.mem_range.2 hk,?_⟩,rfl⟩
 unfold fromB
 rw [hx]
 show (x.From==(s:Int))=true
 rw [hf];simp
theorem ixM_len (m:T8) (n s:Nat):(ixM m n s).length≤n:=by
 unfold ixM
 rw [List.length_map]
 have:=List.length_filter_le (fromB m s) (List.range n)
 rw [List.length_range] at this
 exact this
def cfM (N:Nat) (m:T8):Int→Int→Int:=machine_sorted_cf N m
theorem cf_eq (hN:4194304 < N) (m:T8) {i k:Nat} {x y:T9} (hi:m.Moves[i]? = some x) (hk:m.Moves[k]? = some y):cfM N m (i:Int) (k:Int)=cmpM x y:=by
 unfold cfM machine_sorted_cf
 rw [cmp1_eq hN m hi hk];rfl
theorem ltM_irr (x:T9):¬ ltM x x:=by
 unfold ltM
 cases x.Send<;>simp
theorem ltM_tr {x y z:T9} (h1:ltM x y) (h2:ltM y z):ltM x z:=by
 unfold ltM at *
 revert h1 h2
 cases x.Send<;>cases y.Send<;>cases z.Send<;>simp<;>omega
theorem ltM_ntr {x y z:T9} (h1:¬ ltM x y) (h2:¬ ltM y z):¬ ltM x z:=by
 unfold ltM at *
 revert h1 h2
 cases x.Send<;>cases y.Send<;>cases z.Send<;>simp<;>omega
theorem ok_eq (hN:4194304 < N) (m:T8) (n s:Nat) (hn:n≤m.Moves.length) (hb:n≤4194304):machine_sorted_ok N m (ixM m n s)=true:=by
 unfold machine_sorted_ok
 have hc:∀ a b,a∈ixM m n s→b∈ixM m n s→∃ x y,z243_8 N a b m=some (cmpM x y)∧m.Moves[a.toNat]? = some x∧m.Moves[b.toNat]? = some y:=fun a b ha hb=>by
  obtain ⟨k,x,rfl,_,hx,_⟩:=ixM_mem ha
  obtain ⟨l,y,rfl,_,hy,_⟩:=ixM_mem hb
  exact ⟨x,y,cmp1_eq hN m hx hy,by simpa using hx,by simpa using hy⟩
 have hl:∀ a b x y,a∈ixM m n s→b∈ixM m n s→m.Moves[a.toNat]? = some x→m.Moves[b.toNat]? = some y→(decide (machine_sorted_cf N m a b < 0)=true↔ltM x y):=fun a b x y ha hb hx hy=>by
  obtain ⟨x',y',h,hx',hy'⟩:=hc a b ha hb
  rw [hx] at hx';rw [hy] at hy'
  cases hx';cases hy'
  unfold machine_sorted_cf
  rw [h,decide_eq_true_eq]
  exact cmpM_lt x y
 have hm:∀ a,a∈ixM m n s→∃ x,m.Moves[a.toNat]? = some x:=fun a ha=>by obtain ⟨x,_,_,h,_⟩:=hc a a ha ha;exact ⟨x,h⟩
 rw [Bool.and_eq_true,Bool.and_eq_true]
 refine ⟨List.all_eq_true.2 fun a ha=>List.all_eq_true.2 fun b hb=>?_,?_,?_⟩
 ·obtain ⟨x,y,h,_⟩:=hc a b ha hb
  rw [h];rfl
 ·unfold swoB
  refine List.all_eq_true.2 fun a ha=>?_
  obtain ⟨x,hx⟩:=hm a ha
  rw [Bool.and_eq_true]
  refine ⟨?_,List.all_eq_true.2 fun b hb=>List.all_eq_true.2 fun c hc'=>?_⟩
  ·have:=hl a a x x ha ha hx hx
   show (!decide (machine_sorted_cf N m a a < 0))=true
   cases hd:decide (machine_sorted_cf N m a a < 0)
   ·rfl
   ·exact absurd (this.1 hd) (ltM_irr x)
  ·obtain ⟨y,hy⟩:=hm b hb
   obtain ⟨z,hz⟩:=hm c hc'
   have l1:=hl a b x y ha hb hx hy
   have l2:=hl b c y z hb hc' hy hz
   have l3:=hl a c x z ha hc' hx hz
   show ((!(decide (machine_sorted_cf N m a b < 0) && decide (machine_sorted_cf N m b c < 0)) || decide (machine_sorted_cf N m a c < 0)) && (decide (machine_sorted_cf N m a b < 0) || decide (machine_sorted_cf N m b c < 0) || !decide (machine_sorted_cf N m a c < 0)))=true
   cases d1:decide (machine_sorted_cf N m a b < 0)<;>cases d2:decide (machine_sorted_cf N m b c < 0)<;>cases d3:decide (machine_sorted_cf N m a c < 0)<;>try rfl
   ·exfalso
    rw [d1] at l1;rw [d2] at l2;rw [d3] at l3
    exact ltM_ntr (fun h=>by have:=l1.2 h;cases this) (fun h=>by have:=l2.2 h;cases this) (l3.1 rfl)
   ·exfalso
    rw [d1] at l1;rw [d2] at l2;rw [d3] at l3
    have:=l3.2 (ltM_tr (l1.1 rfl) (l2.1 rfl))
    cases this
 ·rw [decide_eq_true_eq]
  have:=ixM_len m n s
  omega
def outK (m:T8) (n:Nat):List (List Int):=(List.range m.States.toNat).map (ixM m n)
theorem outK_get (m:T8) (n s:Nat) (hs:s < m.States.toNat):(outK m n)[s]? = some (ixM m n s):=by
 unfold outK
 rw [List.getElem?_map,List.getElem?_range hs];rfl
theorem fill_eq (hN:4194304 < N) (m:T8) (hm:NumM m):∀ (r:List T9) (n k:Nat),m.Moves.drop k=r→r.length < n→z189_l1 N m n (outK m k) (k:Int)=z189_l2 N m N (outK m m.Moves.length) 0:=by
  intro r
  induction r with
  | nil =>
    intro n k hr hn
    have hk:m.Moves.length≤k:=List.drop_eq_nil_iff.1 hr
    obtain ⟨n,rfl⟩:∃ q,n=q+1:=⟨n-1,by simp at hn;omega⟩
    rw [z189_l1,lt_f hk]
    show z189_l2 N m N (outK m k) 0=_
    congr 1
    unfold outK
    refine List.map_congr_left fun s _=>?_
    obtain ⟨d,rfl⟩:=Nat.le.dest hk
    clear hr hk hn
    induction d with
    | zero=>rfl
    | succ d ih =>
      rw [show m.Moves.length+(d+1)=m.Moves.length+d+1 by omega,ixM_succ,ih]
      have:fromB m s (m.Moves.length+d)=false:=by
        unfold fromB
        rw [List.getElem?_eq_none (by omega)]
      rw [this];simp
  | cons x r ih =>
    intro n k hr hn
    obtain ⟨n,rfl⟩:∃ q,n=q+1:=⟨n-1,by simp at hn;omega⟩
    have hk:k < m.Moves.length:=by
      refine Nat.not_le.1 fun h=>?_
      rw [List.drop_eq_nil_iff.2 h] at hr;cases hr
    have hx:m.Moves[k]? = some x:=by
      have:=congrArg (·[0]?) hr
      simpa using this
    have hnm:=hm.n
    obtain ⟨⟨f0,f1⟩,_⟩:=hm.mv x (List.mem_of_getElem? hx)
    obtain ⟨j,hj⟩:=Int.eq_ofNat_of_zero_le f0
    have hjs:j < m.States.toNat:=by omega
    rw [z189_l1,lt_t hk,idx_nat,hx,w64_succ (by omega)]
    simp only [cT,bS]
    rw [hj,idx_nat,outK_get m k j hjs]
    simp only [bS]
    rw [appL_some (by have:=ixM_len m k j;simp;omega)]
    simp only [bS,Int.toNat_natCast]
    have e:(outK m k).set j (ixM m k j++[(k:Int)])=outK m (k+1):=by
      apply List.ext_getElem?
      intro s
      rw [List.getElem?_set]
      by_cases hs:s < m.States.toNat
      · rw [outK_get m (k+1) s hs,ixM_succ]
        have hb:fromB m s k=decide (j=s):=by
          unfold fromB
          rw [hx]
          show (x.From==(s:Int))=_
          rw [hj]
          by_cases e:j=s
          · subst e;simp
          · simp [e];omega
        rw [hb]
        by_cases e:j=s
        · subst e
          have:j < (outK m k).length:=by unfold outK;simpa using hjs
          simp [this]
        · simp only [e,if_false,decide_false,Bool.false_eq_true,List.append_nil]
          exact outK_get m k s hs
      · have l1:(outK m (k+1))[s]? = none:=by unfold outK;rw [List.getElem?_eq_none];simp;omega
        rw [l1]
        have:¬ j=s:=by omega
        simp only [this,if_false]
        unfold outK;rw [List.getElem?_eq_none];simp;omega
    rw [e]
    refine ih n (k+1) ?_ (by simp at hn;omega)
    have:=congrArg (List.drop 1) hr
    simpa [List.drop_drop,Nat.add_comm] using this
def outS (N:Nat) (m:T8) (j:Nat):List (List Int):=(List.range m.States.toNat).map fun s=>bif decide (s < j) then sortP (cfM N m) (ixM m m.Moves.length s) else ixM m m.Moves.length s
def outM (N:Nat) (m:T8):List (List Int):=(List.range m.States.toNat).map fun s=>sortP (cfM N m) (ixM m m.Moves.length s)
theorem sort_loop (hN:4194304 < N) (m:T8) (hm:NumM m):∀ (d n j:Nat),m.States.toNat-j=d→d < n→z189_l2 N m n (outS N m j) (j:Int)=some ⟨m,outM N m⟩:=by
 intro d
 have hlen:∀ j,(outS N m j).length=m.States.toNat:=fun j=>by unfold outS;simp
 have hs1:=hm.s1
 have hnm:=hm.n
 induction d with
 | zero =>
  intro n j hd hn
  obtain ⟨n,rfl⟩:∃ q,n=q+1:=⟨n-1,by omega⟩
  rw [z189_l2,lt_f (by rw [hlen];omega)]
  show some (⟨m,outS N m j⟩:T15)=_
  congr 2
  unfold outS outM
  refine List.map_congr_left fun s hs=>?_
  have:=List.mem_range.1 hs
  rw [dT (by omega:s < j)];rfl
 | succ d ih =>
  intro n j hd hn
  obtain ⟨n,rfl⟩:∃ q,n=q+1:=⟨n-1,by omega⟩
  have hj:j < m.States.toNat:=by omega
  have hg:(outS N m j)[j]? = some (ixM m m.Moves.length j):=by
   unfold outS
   rw [List.getElem?_map,List.getElem?_range hj]
   simp
  rw [z189_l2,lt_t (by rw [hlen];exact hj),idx_nat,hg,w64_succ (by omega)]
  simp only [cT,bS,ok_eq hN m m.Moves.length j (Nat.le_refl _) (by omega),Int.toNat_natCast]
  have e:(outS N m j).set j (sortP (machine_sorted_cf N m) (ixM m m.Moves.length j))=outS N m (j+1):=by
   apply List.ext_getElem?
   intro s
   rw [List.getElem?_set]
   by_cases hs:s < m.States.toNat
   ·have g:∀ q,(outS N m q)[s]? = some (bif decide (s < q) then sortP (cfM N m) (ixM m m.Moves.length s) else ixM m m.Moves.length s):=fun q=>by
     unfold outS;rw [List.getElem?_map,List.getElem?_range hs];rfl
    rw [g,g]
    by_cases e:j=s
    ·subst e
     rw [dT (Nat.lt_succ_self _)]
     simp [hlen,hj,cfM]
    ·simp only [e,if_false]
     by_cases h:s < j
     ·rw [dT h,dT (by omega:s < j+1)]
     ·rw [dF h,dF (by omega:¬ s < j+1)]
   ·have l1:∀ q,(outS N m q)[s]? = none:=fun q=>by rw [List.getElem?_eq_none];rw [hlen];omega
    rw [l1,l1]
    have:¬ j=s:=by omega
    simp only [this,if_false]
  rw [e]
  exact ih n (j+1) (by omega) (by omega)
theorem msorted_eq (hN:4194304 < N) (m:T8) (hm:NumM m):z189 N m=some ⟨m,outM N m⟩:=by
 unfold z189
 have h0:=hm.s0
 have h1:=hm.s1
 have e:mkL () m.States m.States=some (List.replicate m.States.toNat ()):=by
  unfold mkL
  rw [dT (by omega:0≤m.States),dT (by omega:m.States≤m.States),dT (by omega:m.States≤4294967296)];rfl
 rw [e]
 simp only [bS,List.length_replicate]
 have e2:(List.replicate m.States.toNat ()).isEmpty=false:=by
  rw [List.isEmpty_eq_false_iff]
  intro h
  have:=congrArg List.length h
  simp at this;omega
 rw [e2]
 simp only [cond_false]
 have e3:List.replicate m.States.toNat ([]:List Int)=outK m 0:=by
  unfold outK ixM
  apply List.ext_getElem?
  intro s
  rw [List.getElem?_replicate,List.getElem?_map]
  by_cases hs:s < m.States.toNat
  ·rw [if_pos hs,List.getElem?_range hs];rfl
  ·rw [if_neg hs,List.getElem?_eq_none (by simpa using hs)];rfl
 have:=fill_eq hN m hm m.Moves N 0 rfl (by have:=hm.n;omega)
 rw [e3]
 rw [show ((0:Nat):Int)=0 from rfl] at this
 rw [this]
 have e4:outK m m.Moves.length=outS N m 0:=by
  unfold outK outS
  refine List.map_congr_left fun s _=>?_
  simp
 rw [e4]
 exact sort_loop hN m hm m.States.toNat N 0 rfl (by omega)
theorem outM_get (N:Nat) (m:T8) (s:Nat) (hs:s < m.States.toNat):(outM N m)[s]? = some (sortP (cfM N m) (ixM m m.Moves.length s)):=by
 unfold outM
 rw [List.getElem?_map,List.getElem?_range hs];rfl
theorem outM_len (N:Nat) (m:T8):(outM N m).length=m.States.toNat:=by unfold outM;simp
theorem outM_perm (hN:4194304 < N) (m:T8) (hm:NumM m) (s:Nat):(sortP (cfM N m) (ixM m m.Moves.length s)).Perm (ixM m m.Moves.length s) ∧
  ∀ (i j:Nat) (a b:Int),i < j→(sortP (cfM N m) (ixM m m.Moves.length s))[i]? = some a→(sortP (cfM N m) (ixM m m.Moves.length s))[j]? = some b→¬ cfM N m b a < 0:=by
 have h:=ok_eq hN m m.Moves.length s (Nat.le_refl _) (by have:=hm.n;omega)
 unfold machine_sorted_ok at h
 rw [Bool.and_eq_true,Bool.and_eq_true] at h
 exact sort_is _ _ (swo_of h.2.1)
end Gp
end
section
namespace Gp
open Go Go.Kx Gx
variable {N:Nat}
theorem tot_from {β:Type} {F:Nat→Int→Option β} {len:Nat} (h1:∀ n k,k < len→(∃ b,F n ((k+1:Nat):Int)=some b)→∃ b,F (n+1) (k:Int)=some b)
  (h2:∀ n k,len≤k→∃ b,F (n+1) (k:Int)=some b):∀ (d n k:Nat),len-k=d→d < n→∃ b,F n (k:Int)=some b:=by
 intro d
 induction d with
 | zero =>
  intro n k hd hn
  obtain ⟨n,rfl⟩:∃ q,n=q+1:=⟨n-1,by omega⟩
  exact h2 n k (by omega)
 | succ d ih =>
  intro n k hd hn
  obtain ⟨n,rfl⟩:∃ q,n=q+1:=⟨n-1,by omega⟩
  exact h1 n k (by omega) (ih n (k+1) (by omega) (by omega))
theorem tot_lo {β:Type} {F:Nat→Int→Option β} {len lo:Nat} (h1:∀ n k,lo≤k→k < len→(∃ b,F n ((k+1:Nat):Int)=some b)→∃ b,F (n+1) (k:Int)=some b)
  (h2:∀ n k,len≤k→∃ b,F (n+1) (k:Int)=some b):∀ (d n k:Nat),len-k=d→d < n→lo≤k→∃ b,F n (k:Int)=some b:=by
 intro d
 induction d with
 | zero =>
  intro n k hd hn _
  obtain ⟨n,rfl⟩:∃ q,n=q+1:=⟨n-1,by omega⟩
  exact h2 n k (by omega)
 | succ d ih =>
  intro n k hd hn hl
  obtain ⟨n,rfl⟩:∃ q,n=q+1:=⟨n-1,by omega⟩
  exact h1 n k hl (by omega) (ih n (k+1) (by omega) (by omega) (by omega))
theorem tot_bif {β:Type} {b:Bool} {x y:Option β} (h1:b=true→∃ r,x=some r) (h2:b=false→∃ r,y=some r):∃ r,(bif b then x else y)=some r:=by
 cases b with
 | true=>exact h1 rfl
 | false=>exact h2 rfl
theorem tot_some {β:Type} (b:β):∃ r,some b=some r:=⟨b,rfl⟩
structure TabM (t:T15) (m:T8):Prop where
 num:NumM m
 mm:t.Machine=m
 len:t.out'.length=m.States.toNat
 out:∀ (s:Nat) (l:List Int),t.out'[s]? = some l→l.length≤400∧∀ a∈l,∃ k x,a=((k:Nat):Int)∧m.Moves[k]? = some x∧x.From=(s:Int)
theorem tabM_of (hN:4194304 < N) (m:T8) (hm:NumM m):TabM ⟨m,outM N m⟩ m:=by
 refine ⟨hm,rfl,outM_len N m,fun s l h=>?_⟩
 have hs:s < m.States.toNat:=by
  have:=(List.getElem?_eq_some_iff.1 h).1
  rwa [outM_len] at this
 have h:(outM N m)[s]? = some l:=h
 rw [outM_get N m s hs] at h
 cases h
 obtain ⟨p,_⟩:=outM_perm hN m hm s
 refine ⟨by rw [p.length_eq];have:=ixM_len m m.Moves.length s;have:=hm.n;omega,fun a ha=>?_⟩
 obtain ⟨k,x,h1,_,h2,h3⟩:=ixM_mem (p.mem_iff.1 ha)
 exact ⟨k,x,h1,h2,h3⟩
variable {t:T15} {m:T8}
theorem det_some (hN:4194304 < N) (h:TabM t m):∃ b,z190 N t=some b:=by
 have hS:=h.num.s1
 have:=h.len
 refine tot_from (F:=z190_l2 N t) (len:=t.out'.length) (fun n k hk hi=>?_) (fun n k hk=>?_) _ N 0 rfl (by omega)
 ·rw [z190_l2,lt_t hk,idx_nat,List.getElem?_eq_getElem hk]
  simp only [cT,bS]
  obtain ⟨hl,ho⟩:=h.out k _ (List.getElem?_eq_getElem hk)
  generalize t.out'[k]=l at hl ho
  have hag:∃ b,z190_k3 (k:Int) (z190_l2 N t n)=some b:=by
   unfold z190_k3
   rw [w64_succ (by omega)];exact hi
  generalize z190_l2 N t n=ag at hag
  refine tot_lo (F:=z190_l4 N t (k:Int) ag l) (len:=l.length) (lo:=1) (fun n j hj1 hj hi=>?_) (fun n j hj=>?_) _ N 1 rfl (by omega) (Nat.le_refl _)
  ·rw [z190_l4,lt_t hj,w64_succ (by omega)]
   have g:∀ i:Nat,i < l.length→∃ x,((idx l (i:Int)).bind fun q=>idx t.Machine.Moves q)=some x:=fun i hi=>by
    obtain ⟨q,x,e1,e2,_⟩:=ho l[i] (List.getElem_mem hi)
    refine ⟨x,?_⟩
    rw [idx_nat,List.getElem?_eq_getElem hi]
    simp only [bS]
    rw [e1,idx_nat,h.mm];exact e2
   have w:w64 ((j:Int)-1)=((j-1:Nat):Int):=by rw [w64_id (by omega) (by omega)];omega
   simp only [cT]
   rw [w]
   obtain ⟨x,hx⟩:=g (j-1) (by omega)
   obtain ⟨y,hy⟩:=g j hj
   obtain ⟨a,ha,hx⟩:=Option.bind_eq_some_iff.1 hx
   obtain ⟨b,hb,hy⟩:=Option.bind_eq_some_iff.1 hy
   simp only [ha,hx,hb,hy,bS,z244]
   exact tot_bif (fun _=>tot_some _) fun _=>tot_bif (fun _=>tot_some _) fun _=>hi
  ·rw [z190_l4,lt_f hj]
   exact hag
 ·rw [z190_l2,lt_f hk]
  exact tot_some _
theorem again_some (hN:4194304 < N) (h:TabM t m):∃ b,z192 N t=some b:=by
 have hS:=h.num.s1
 have hn:=h.num.n
 have hlen:=h.len
 have hm:=h.mm
 subst hm
 refine tot_from (F:=z192_l2 N t) (len:=t.Machine.Moves.length) (fun n k hk hi=>?_) (fun n k hk=>?_) _ N 0 rfl (by omega)
 ·have hx:=List.getElem?_eq_getElem hk
  obtain ⟨⟨f0,f1⟩,_⟩:=h.num.mv _ (List.getElem_mem hk)
  rw [z192_l2,lt_t hk,idx_nat,hx,w64_succ (by omega)]
  generalize t.Machine.Moves[k]=x at *
  simp only [cT,bS]
  refine tot_bif (fun _=>hi) fun _=>tot_bif (fun _=>tot_some _) fun _=>?_
  obtain ⟨l,hl⟩:=idx_lt (L:=t.out') f0 (by omega)
  obtain ⟨b,hb⟩:=idx_lt (L:=t.Machine.Finals) f0 (by have:=h.num.f;omega)
  simp only [hl,hb,bS]
  refine tot_bif (fun _=>tot_some _) fun _=>tot_bif (fun _=>tot_some _) fun _=>tot_bif (fun _=>tot_some _) fun _=>?_
  have hag:∃ b,z192_k3 (k:Int) (z192_l2 N t n)=some b:=by
   unfold z192_k3
   rw [w64_succ (by omega)];exact hi
  generalize z192_l2 N t n=ag at hag
  refine tot_from (F:=z192_l4 t (k:Int) ag x) (len:=t.Machine.Moves.length) (fun n j hj hi=>?_) (fun n j hj=>?_) _ N 0 rfl (by omega)
  ·rw [z192_l4,lt_t hj,idx_nat,List.getElem?_eq_getElem hj,w64_succ (by omega)]
   simp only [cT,bS]
   exact tot_bif (fun _=>tot_bif (fun _=>tot_some _) fun _=>tot_bif (fun _=>tot_some _) fun _=>hi) fun _=>hi
  ·rw [z192_l4,lt_f hj]
   exact hag
 ·rw [z192_l2,lt_f hk]
  exact tot_some _
theorem timed_some (hN:4194304 < N) (h:TabM t m) (ht:m.Timeouts.length≤4194304):∃ b,z193 N t=some b:=by
 have hn:=h.num.n
 have hm:=h.mm
 subst hm
 refine tot_from (F:=z193_l2 t) (len:=t.Machine.Timeouts.length) (fun n k hk hi=>?_) (fun n k hk=>?_) _ N 0 rfl (by omega)
 ·have hx:=List.getElem?_eq_getElem hk
  rw [z193_l2,lt_t hk,idx_nat,hx]
  simp only [cT,bS]
  generalize t.Machine.Timeouts[k]=x at *
  have h3:∀ b:Bool,(b=false→0≤x.Else∧x.Else < (t.Machine.Moves.length:Int))→∃ r,z193_k3 t (k:Int) (z193_l2 t n) x b=some r:=fun b hb=>by
   unfold z193_k3
   refine tot_bif (fun _=>tot_some _) fun e=>?_
   obtain ⟨a1,a2⟩:=hb e
   obtain ⟨y,hy⟩:=idx_lt (L:=t.Machine.Moves) a1 a2
   simp only [hy,bS]
   refine tot_bif (fun _=>tot_some _) fun _=>tot_bif (fun _=>tot_some _) fun _=>tot_bif (fun _=>tot_some _) fun _=>?_
   rw [w64_succ (by omega)];exact hi
  have ht':∃ r,z193_k3 t (k:Int) (z193_l2 t n) x true=some r:=h3 true (fun e=>by cases e)
  have tail:∃ r,(bif decide (x.Ticks < 1) then z193_k3 t (k:Int) (z193_l2 t n) x true else bif decide (x.Ticks > 1000) then z193_k3 t (k:Int) (z193_l2 t n) x true
    else bif decide (x.Else < 0) then z193_k3 t (k:Int) (z193_l2 t n) x true else z193_k3 t (k:Int) (z193_l2 t n) x (decide (x.Else≥(t.Machine.Moves.length:Int))))=some r :=
   tot_bif (fun _=>ht') fun _=>tot_bif (fun _=>ht') fun _=>tot_bif (fun _=>ht') fun e=>h3 _ fun e2=>by
    simp only [decide_eq_false_iff_not] at e e2
    exact ⟨by omega,by omega⟩
  refine tot_bif (fun e=>?_) fun _=>tail
  have hk0:0 < k:=by simpa using e
  have w:w64 ((k:Int)-1)=((k-1:Nat):Int):=by rw [w64_id (by omega) (by omega)];omega
  rw [w,idx_nat,List.getElem?_eq_getElem (by omega:k-1 < t.Machine.Timeouts.length)]
  simp only [bS]
  exact tot_bif (fun _=>ht') fun _=>tail
 ·rw [z193_l2,lt_f hk]
  exact tot_some _
end Gp
end
section
namespace Gp
open Go Go.Kx Gx
variable {N:Nat}
structure InvR (S:Nat) (a:List Bool) (q:List Int):Prop where
 len:a.length=S
 qq:∀ i∈q,0≤i∧i < (S:Int)
 c:q.length+a.count false≤S
theorem InvR.add {S:Nat} {a:List Bool} {q:List Int} (h:InvR S a q) {j:Nat} (hj:a[j]? = some false):InvR S (a.set j true) (q++[(j:Int)]):=by
 obtain ⟨hl,he⟩:=List.getElem?_eq_some_iff.1 hj
 refine ⟨by simpa using h.len,fun i hi=>?_,?_⟩
 ·rcases List.mem_append.1 hi with hi | hi
  ·exact h.qq i hi
  ·rw [List.mem_singleton.1 hi];have:=h.len;omega
 ·have h1:0 < a.count false:=List.count_pos_iff.2 (List.mem_of_getElem? hj)
  have h2:=List.count_set (a:=true) (b:=false) (l:=a) hl
  rw [he] at h2
  have:=h.c
  simp at h2
  simp
  omega
variable {t:T15} {m:T8}
theorem reached_in (hN:4194304 < N) (h:TabM t m) (S:Nat) (hS:m.States=(S:Int)) (k:Nat) (ag:List Bool→List Int→Int→Option Bool) (hag:∀ a q,InvR S a q→∃ b,ag a q (w64 ((k:Int)+1))=some b)
  (l:List Int) (s:Nat) (hl:t.out'[s]? = some l):∀ (d n j:Nat) (a:List Bool) (q:List Int),InvR S a q→l.length-j=d→d < n→∃ b,z191_l4 t (k:Int) ag l n a q (j:Int)=some b:=by
 intro d
 obtain ⟨l1,l2⟩:=h.out s l hl
 have hs1:=h.num.s1
 induction d with
 | zero =>
  intro n j a q hi hd hn
  obtain ⟨n,rfl⟩:∃ q,n=q+1:=⟨n-1,by omega⟩
  rw [z191_l4,lt_f (by omega)]
  exact hag a q hi
 | succ d ih =>
  intro n j a q hi hd hn
  obtain ⟨n,rfl⟩:∃ q,n=q+1:=⟨n-1,by omega⟩
  have hj:j < l.length:=by omega
  obtain ⟨p,x,e1,e2,_⟩:=l2 l[j] (List.getElem_mem hj)
  obtain ⟨_,⟨t0,t1⟩,_⟩:=h.num.mv x (List.mem_of_getElem? e2)
  obtain ⟨c,hc⟩:=Int.eq_ofNat_of_zero_le t0
  have hcl:c < a.length:=by rw [hi.len];omega
  rw [z191_l4,lt_t hj,idx_nat,List.getElem?_eq_getElem hj,w64_succ (by omega)]
  simp only [cT,bS]
  rw [e1,idx_nat,h.mm,e2]
  simp only [bS]
  rw [hc,idx_nat,List.getElem?_eq_getElem hcl]
  simp only [bS]
  cases hb:a[c] with
  | true=>exact ih n (j+1) a q hi (by omega) (by omega)
  | false =>
   have hcc:=hi.c
   simp only [Bool.not_false,cT]
   rw [appL_some (by simp;omega),setL'_nat]
   simp only [bS]
   exact ih n (j+1) _ _ (hi.add (by rw [List.getElem?_eq_getElem hcl,hb])) (by omega) (by omega)
theorem reached_out (hN:4194304 < N) (h:TabM t m) (S:Nat) (hS:m.States=(S:Int)):∀ (d n k:Nat) (a:List Bool) (q:List Int),InvR S a q→S-k=d→d < n→∃ b,z191_l2 N t n a q (k:Int)=some b:=by
 intro d
 have hs1:=h.num.s1
 have step:∀ (n k:Nat) (a:List Bool) (q:List Int),InvR S a q→(k < q.length→∀ a q,InvR S a q→∃ b,z191_l2 N t n a q (w64 ((k:Int)+1))=some b)→∃ b,z191_l2 N t (n+1) a q (k:Int)=some b:=fun n k a q hi hnx=>by
  rw [z191_l2]
  by_cases hk:k < q.length
  ·rw [lt_t hk,idx_nat,List.getElem?_eq_getElem hk]
   simp only [cT,bS]
   obtain ⟨q0,q1⟩:=hi.qq _ (List.getElem_mem hk)
   obtain ⟨c,hc⟩:=Int.eq_ofNat_of_zero_le q0
   have hcl:c < t.out'.length:=by rw [h.len];omega
   rw [hc,idx_nat,List.getElem?_eq_getElem hcl]
   simp only [bS]
   have hle:=(h.out c _ (List.getElem?_eq_getElem hcl)).1
   exact reached_in hN h S hS k _ (hnx hk) _ c (List.getElem?_eq_getElem hcl) _ N 0 a q hi rfl (by omega)
  ·rw [lt_f (Nat.not_lt.1 hk)]
   exact tot_some _
 induction d with
 | zero =>
  intro n k a q hi hd hn
  obtain ⟨n,rfl⟩:∃ q,n=q+1:=⟨n-1,by omega⟩
  exact step n k a q hi fun hk=>by have:=hi.c;omega
 | succ d ih =>
  intro n k a q hi hd hn
  obtain ⟨n,rfl⟩:∃ q,n=q+1:=⟨n-1,by omega⟩
  refine step n k a q hi fun hk a q hi=>?_
  rw [w64_succ (by omega)]
  exact ih n (k+1) a q hi (by omega) (by omega)
theorem reached_some (hN:4194304 < N) (h:TabM t m):∃ b,z191 N t=some b:=by
 have h0:=h.num.s0
 have h1:=h.num.s1
 have b0:=h.num.b0
 have b1:=h.num.b1
 obtain ⟨S,hS⟩:=Int.eq_ofNat_of_zero_le (show 0≤m.States by omega)
 obtain ⟨c,hc⟩:=Int.eq_ofNat_of_zero_le b0
 unfold z191
 rw [h.mm]
 have e:mkL false m.States m.States=some (List.replicate S false):=by
  unfold mkL
  rw [dT (by omega:0≤m.States),dT (by omega:m.States≤m.States),dT (by omega:m.States≤4294967296),hS];rfl
 rw [e,hc]
 simp only [bS,idx_nat,setL'_nat]
 have hcl:c < S:=by omega
 have hg:(List.replicate S false)[c]? = some false:=by rw [List.getElem?_replicate,if_pos hcl]
 rw [hg]
 simp only [bS]
 refine reached_out hN h S hS _ N 0 _ _ ⟨by simp,fun i hi=>by rw [List.mem_singleton.1 hi];omega,?_⟩ rfl (by omega)
 have h2:=List.count_set (a:=true) (b:=false) (l:=List.replicate S false) (i:=c) (by simpa using hcl)
 simp at h2
 simp
 omega
theorem mValid_some (hN:4194304 < N) (m:T8) (ht:m.Timeouts.length≤4194304):∃ b,z134 N m=some b∧(b=true→NumM m):=by
 unfold z134 z107
 rw [mnum_eq hN]
 simp only [bS]
 cases hm:numM m with
 | false=>exact ⟨false,rfl,fun h=>by cases h⟩
 | true =>
  have hm:=(numM_iff m).1 hm
  rw [msorted_eq hN m hm]
  have h:=tabM_of hN m hm
  obtain ⟨b1,e1⟩:=det_some hN h
  obtain ⟨b2,e2⟩:=reached_some hN h
  obtain ⟨b3,e3⟩:=again_some hN h
  obtain ⟨b4,e4⟩:=timed_some hN h ht
  simp only [Bool.not_true,cond_false,bS,e1,e2,e3,e4]
  cases b1<;>cases b2<;>cases b3<;>exact ⟨_,rfl,fun _=>hm⟩
end Gp
end
section
namespace Gp
open Go Go.Kx Gx
variable {N:Nat}
theorem vrunes_loop (s:ByteArray):∀ (r:List UInt8) (n i:Nat),(bs s).drop i=r→r.length < n→∃ z,z294_12_l2 N s true n i=some z∧decide (z≥0)=r.any badB:=by
 intro r
 induction r with
 | nil =>
  intro n i h hn
  obtain ⟨n,rfl⟩:∃ m,n=m+1:=⟨n-1,by simp at hn;omega⟩
  have hi:=drop_nil h
  unfold z294_12_l2
  have:decide (i < s.size)=false:=by rw [size_bs];simp;omega
  rw [this]
  exact ⟨-1,rfl,rfl⟩
 | cons b r ih =>
  intro n i h hn
  obtain ⟨n,rfl⟩:∃ m,n=m+1:=⟨n-1,by simp at hn;omega⟩
  obtain ⟨h1,h2,h3⟩:=drop_cons h
  simp only [List.length_cons] at hn
  unfold z294_12_l2
  have:decide (i < s.size)=true:=by rw [size_bs];simp;omega
  rw [this,List.any_cons]
  simp only [cT,z269]
  by_cases hb:b.toNat < 128
  ·rw [decode_lo s i b h2 hb]
   by_cases c1:b.toNat < 32
   ·have e1:decide (((b.toNat:Nat):Int) < 32)=true:=by simp;omega
    have e2:badB b=true:=by simp [badB,c1]
    rw [e1,e2]
    exact ⟨(i:Int),rfl,by simp⟩
   ·have e1:decide (((b.toNat:Nat):Int) < 32)=false:=by simp;omega
    rw [e1]
    simp only [cond_false,bS]
    by_cases c2:126 < b.toNat
    ·have e3:decide (((b.toNat:Nat):Int) > 126)=true:=by simp;omega
     have e2:badB b=true:=by simp [badB,c2]
     rw [e3,e2]
     exact ⟨(i:Int),rfl,by simp⟩
    ·have e3:decide (((b.toNat:Nat):Int) > 126)=false:=by simp;omega
     have e2:badB b=false:=by simp [badB];omega
     rw [e3,e2]
     exact ih n (i+1) h3 (by omega)
  ·have hd:=decode_hi s i b h2 hb
   have e2:badB b=true:=by simp [badB];omega
   generalize (Utf8.decode s i).1=c at hd ⊢
   have e1:decide ((c:Int) < 32)=false:=by simp;omega
   have e3:decide ((c:Int) > 126)=true:=by simp;omega
   rw [e1,e2]
   simp only [cond_false,bS]
   rw [e3]
   exact ⟨(i:Int),rfl,by simp⟩
theorem vrunes_eq (hN:4194304 < N) (s:ByteArray) (hs:s.size≤4194304):z246_14 N s=some ((bs s).any badB):=by
 obtain ⟨z,h1,h2⟩:=vrunes_loop (N:=N) s (bs s) N 0 rfl (by rw [size_bs] at hs;omega)
 unfold z246_14 z275_13 z294_12
 rw [h1]
 simp only [bS]
 rw [h2]
def vnumV (v:T12):Int:=bif v.Kind==1 then v.N else bif v.Kind==2 then (v.S.size:Int) else 0
def vsortV (s:T10):Bool:=bif s.Kind==1 then (decide (-1000≤s.Lo) && (decide (s.Lo≤s.Hi) && decide (s.Hi≤1000))) else bif s.Kind==2 then (decide (0≤s.Lo) && (decide (s.Lo≤s.Hi) && decide (s.Hi≤40))) else false
def vvalidV (v:T12):Bool:=bif v.Kind==1 then (decide (v.N≥-1000) && (decide (v.N≤1000) && (v.S.toList==(str []).toList))) else bif v.Kind==2 then (v.N==0 && (decide ((v.S.size:Int)≤40) && !(bs v.S).any badB)) else false
def vfitV (s:T10) (v:T12):Bool:=vsortV s && (vvalidV v && (s.Kind==v.Kind && (decide (vnumV v≥s.Lo) && decide (vnumV v≤s.Hi))))
theorem vnum_eq (v:T12):z167 N v=some (vnumV v):=by
 unfold z167 vnumV
 cases (v.Kind==1)<;>cases (v.Kind==2)<;>rfl
theorem vsort_eq (s:T10):z168 N s=some (vsortV s):=by
 unfold z168 vsortV z168_k1
 cases (s.Kind==1)
 ·cases (s.Kind==2)
  ·rfl
  ·simp only [cT,cond_false]
   cases decide (0≤s.Lo)<;>cases decide (s.Lo≤s.Hi)<;>rfl
 ·simp only [cT]
  cases decide (-1000≤s.Lo)<;>cases decide (s.Lo≤s.Hi)<;>rfl
theorem vvalid_eq (hN:4194304 < N) (v:T12) (hv:v.S.size≤4194304):z169 N v=some (vvalidV v):=by
 unfold z169 vvalidV z230
 rw [vrunes_eq hN _ hv]
 simp only [bS]
 cases (v.Kind==1)
 ·cases (v.Kind==2)
  ·rfl
  ·cases (v.N==0)<;>cases decide ((v.S.size:Int)≤40)<;>rfl
 ·cases decide (v.N≥-1000)<;>cases decide (v.N≤1000)<;>rfl
theorem vfits_eq (hN:4194304 < N) (s:T10) (v:T12) (hv:v.S.size≤4194304):z90 N s v=some (vfitV s v):=by
 unfold z90 vfitV
 rw [vnum_eq,vsort_eq,vvalid_eq hN v hv]
 simp only [bS]
 cases vsortV s<;>cases vvalidV v<;>cases (s.Kind==v.Kind)<;>cases decide (vnumV v≥s.Lo)<;>rfl
theorem vfit_size {s:T10} {v:T12} (h:vfitV s v=true):v.S.size≤40:=by
 unfold vfitV at h
 simp only [Bool.and_eq_true] at h
 have h:=h.2.1
 unfold vvalidV at h
 cases h1:(v.Kind==1)
 ·rw [h1] at h
  cases h2:(v.Kind==2)
  ·rw [h2] at h;cases h
  ·rw [h2] at h
   simp only [cT,cond_false,Bool.and_eq_true,decide_eq_true_eq] at h
   omega
 ·rw [h1] at h
  simp only [cT,Bool.and_eq_true] at h
  have h:=beq_iff_eq.1 h.2.2
  rw [toList_bs,toList_bs,bs_nil] at h
  rw [size_bs,h];decide
theorem eqf {A B:Type} (p:A→B→Bool) {xs:List A} {ys:List B} {F:Nat→Int→Option Bool} {n:Nat} (hl:xs.length=ys.length) (hn:xs.length < n)
  (h1:∀ n k x y,k < xs.length→xs[k]? = some x→ys[k]? = some y→F (n+1) (k:Int)=bif p x y then F n ((k+1:Nat):Int) else some false)
  (h2:∀ n k,xs.length≤k→F (n+1) (k:Int)=some true):∃ b,F n (0:Int)=some b∧(b=true↔∀ (i:Nat) x y,xs[i]? = some x→ys[i]? = some y→p x y=true):=by
 let q:A→Nat→Bool:=fun x k=>match ys[k]? with
  | some y=>p x y
  | none=>false
 have h:=allV_from q (xs:=xs) (F:=F) (e:=some true) (n:=n) hn (fun n k x hk hx=>by
  have hy:=List.getElem?_eq_getElem (show k < ys.length by omega)
  rw [h1 n k x _ hk hx hy]
  show _=bif (match ys[k]? with | some y=>p x y | none=>false) then _ else _
  rw [hy]) h2
 refine ⟨allV q xs 0,by rw [h];cases allV q xs 0<;>rfl,?_⟩
 rw [allV_iff]
 constructor
 ·intro h i x y hx hy
  have:=h i x hx
  rw [Nat.zero_add] at this
  have e:q x i=p x y:=by show (match ys[i]? with | some y=>p x y | none=>false)=_;rw [hy]
  rwa [e] at this
 ·intro h i x hx
  have hi:=(List.getElem?_eq_some_iff.1 hx).1
  have hy:=List.getElem?_eq_getElem (show i < ys.length by omega)
  rw [Nat.zero_add]
  have e:q x i=p x ys[i]:=by show (match ys[i]? with | some y=>p x y | none=>false)=_;rw [hy]
  rw [e]
  exact h i x _ hx hy
theorem lenI_ne (a b:Nat):((a:Int) != (b:Int)) = !decide (a=b):=len_ne a b
def FitsL (fs:List T4) (vs:List T12):Prop:=fs.length=vs.length∧∀ (i:Nat) (f:T4) (v:T12),fs[i]? = some f→vs[i]? = some v→vfitV f.Sort' v=true
def KnownL (fs:List T4) (ks:List T12):Prop:=fs.length=ks.length∧∀ (i:Nat) (f:T4) (v:T12),fs[i]? = some f→ks[i]? = some v→(zeroV v || vfitV f.Sort' v)=true
theorem fitsAll_eq (hN:4194304 < N) (fs:List T4) (vs:List T12) (hl:vs.length≤4194304) (hv:∀ v∈vs,v.S.size≤4194304):∃ b,z94 N fs vs=some b∧(b=true↔FitsL fs vs):=by
 unfold z94 z91_20
 rw [lenI_ne]
 by_cases h:fs.length=vs.length
 ·rw [dT h]
  obtain ⟨b,e,hb⟩:=eqf (fun (f:T4) (v:T12)=>vfitV f.Sort' v) (xs:=fs) (ys:=vs) (F:=z91_20_l2 N fs vs) (n:=N) h (by omega) (fun n k f v hk hf hv'=>by
   rw [z91_20_l2,lt_t hk,idx_nat,hf,idx_nat,hv',w64_succ (by omega)]
   simp only [cT,bS,z170,vfits_eq hN _ _ (hv v (List.mem_of_getElem? hv'))]
   cases vfitV f.Sort' v<;>rfl) (fun n k hk=>by
   rw [z91_20_l2,lt_f hk];rfl)
  simp only [Bool.not_true,cond_false,e,bS]
  exact ⟨b,rfl,hb.trans ⟨fun g=>⟨h,g⟩,fun g=>g.2⟩⟩
 ·rw [dF h]
  exact ⟨false,rfl,by simp;intro g;exact h g.1⟩
theorem known_eq (hN:4194304 < N) (fs:List T4) (vs:List T12) (hl:vs.length≤4194304) (hv:∀ v∈vs,v.S.size≤4194304):∃ b,z91_15 N fs vs=some b∧(b=true↔KnownL fs vs):=by
 unfold z91_15
 rw [lenI_ne]
 by_cases h:fs.length=vs.length
 ·rw [dT h]
  obtain ⟨b,e,hb⟩:=eqf (fun (f:T4) (v:T12)=>zeroV v || vfitV f.Sort' v) (xs:=fs) (ys:=vs) (F:=z91_15_l2 N fs vs) (n:=N) h (by omega) (fun n k f v hk hf hv'=>by
   rw [z91_15_l2,lt_t hk,idx_nat,hf,idx_nat,hv',w64_succ (by omega)]
   simp only [cT,bS,z89,vfits_eq hN _ _ (hv v (List.mem_of_getElem? hv'))]
   show ((bif zeroV v then some true else some (vfitV f.Sort' v)).bind fun x27=>_)=_
   cases zeroV v<;>cases vfitV f.Sort' v<;>rfl) (fun n k hk=>by
   rw [z91_15_l2,lt_f hk];rfl)
  simp only [Bool.not_true,cond_false,e]
  exact ⟨b,rfl,hb.trans ⟨fun g=>⟨h,g⟩,fun g=>g.2⟩⟩
 ·rw [dF h]
  exact ⟨false,rfl,by simp;intro g;exact h g.1⟩
end Gp
end
section
namespace Gp
open Go Go.Kx Gx
variable {N:Nat}
theorem find_some {A:Type} (p:A→Bool) {xs:List A} {F:Nat→Int→Option Int} (h1:∀ n k x,k < xs.length→xs[k]? = some x→F (n+1) (k:Int)=bif p x then some (k:Int) else F n ((k+1:Nat):Int))
  (h2:∀ n k,xs.length≤k→F (n+1) (k:Int)=some (-1)):∀ (d n k:Nat),xs.length-k=d→d < n→∃ z,F n (k:Int)=some z∧((z=-1∧∀ (i:Nat) x,k≤i→xs[i]? = some x→p x=false)∨∃ (i:Nat) (x:A),z=(i:Int)∧xs[i]? = some x∧p x=true):=by
 intro d
 induction d with
 | zero =>
  intro n k hd hn
  obtain ⟨n,rfl⟩:∃ q,n=q+1:=⟨n-1,by omega⟩
  exact ⟨-1,h2 n k (by omega),.inl ⟨rfl,fun i x hi hx=>by have:=(List.getElem?_eq_some_iff.1 hx).1;omega⟩⟩
 | succ d ih =>
  intro n k hd hn
  obtain ⟨n,rfl⟩:∃ q,n=q+1:=⟨n-1,by omega⟩
  have hk:k < xs.length:=by omega
  have hx:=List.getElem?_eq_getElem hk
  rw [h1 n k _ hk hx]
  cases hp:p xs[k] with
  | true=>exact ⟨_,rfl,.inr ⟨k,_,rfl,hx,hp⟩⟩
  | false =>
   obtain ⟨z,e,h⟩:=ih n (k+1) (by omega) (by omega)
   refine ⟨z,e,h.imp (fun ⟨a,b⟩=>⟨a,fun i x hi hx'=>?_⟩) id⟩
   by_cases e:i=k
   ·subst e;rw [hx] at hx';cases hx';exact hp
   ·exact b i x (by omega) hx'
theorem mfields_eq (hN:4194304 < N) (g:T5) (hv:validD g.Decls=true):z61 N g=some (flat g.Decls):=by
  unfold validD at hv
  simp only [Bool.and_eq_true,decide_eq_true_eq] at hv
  obtain ⟨v1,v2,_⟩:=hv
  have key:∀ (r:List T0) (n k:Nat) (acc:List T4),g.Decls.drop k=r→r.length < n→acc.length+(flat r).length≤24→z61_l2 g n acc (k:Int)=some (acc++flat r):=by
    intro r
    induction r with
    | nil =>
      intro n k acc hr hn _
      obtain ⟨n,rfl⟩:∃ q,n=q+1:=⟨n-1,by simp at hn;omega⟩
      rw [z61_l2,lt_f (List.drop_eq_nil_iff.1 hr)]
      simp [z61_k1,flat]
    | cons x r ih =>
      intro n k acc hr hn hl
      obtain ⟨n,rfl⟩:∃ q,n=q+1:=⟨n-1,by simp at hn;omega⟩
      have hk:k < g.Decls.length:=by
        refine Nat.not_le.1 fun h=>?_
        rw [List.drop_eq_nil_iff.2 h] at hr;cases hr
      have hx:g.Decls[k]? = some x:=by
        have:=congrArg (·[0]?) hr
        simpa using this
      rw [flat_cons,lA] at hl
      rw [z61_l2,lt_t hk,idx_nat,hx,w64_succ (by omega)]
      simp only [cT,bS]
      rw [appL_some (by omega)]
      simp only [bS]
      rw [ih n (k+1) (acc++x.Fields) (by have:=congrArg (List.drop 1) hr;simpa [List.drop_drop,Nat.add_comm] using this) (by simp at hn;omega) (by rw [lA];omega),flat_cons,aA]
  exact key g.Decls N 0 [] rfl (by omega) (by simpa using v2)
structure AgrM (g:T5) (m:T8):Prop where
 v:validD g.Decls=true
 n:NumM m
 l:∀ x∈m.Moves,x.Label < (g.Decls.length:Int)
theorem agree_some (hN:4194304 < N) (g:T5) (hg:SizeG g) (hs:SizeN g) (m:T8) (ht:m.Timeouts.length≤4194304):∃ b,z60 N g m=some b∧(b=true→AgrM g m):=by
 unfold z60
 obtain ⟨b1,e1,h1⟩:=gValid_some hN g hg hs
 obtain ⟨b2,e2,h2⟩:=mValid_some hN m ht
 rw [e1,e2]
 simp only [bS]
 cases b1 with
 | false=>exact ⟨false,rfl,fun h=>by cases h⟩
 | true =>
 cases b2 with
 | false=>exact ⟨false,rfl,fun h=>by cases h⟩
 | true =>
 have hm:=h2 rfl
 have hn:=hm.n
 simp only [cT]
 cases decide (m.Role < (g.Roles.length:Int)) with
 | false=>exact ⟨false,rfl,fun h=>by cases h⟩
 | true =>
 simp only [cT]
 unfold z135_11 z92_10
 have ep:∀ y,z132_9 N y g=some (decide (y.Peer≥(g.Roles.length:Int)) || decide (y.Label≥(g.Decls.length:Int))):=fun y=>by
  unfold z132_9
  cases decide (y.Peer≥(g.Roles.length:Int))<;>rfl
 obtain ⟨z,ez,hz⟩:=find_some (fun (y:T9)=>decide (y.Peer≥(g.Roles.length:Int)) || decide (y.Label≥(g.Decls.length:Int))) (xs:=m.Moves) (F:=z92_10_l2 N m.Moves g) (fun n k x hk hx=>by
  rw [z92_10_l2,lt_t hk,idx_nat,hx,w64_succ (by omega)]
  simp only [cT,bS,ep]) (fun n k hk=>by
  rw [z92_10_l2,lt_f hk];rfl) _ N 0 rfl (by omega)
 rw [show ((0:Nat):Int)=0 from rfl] at ez
 rw [ez]
 simp only [bS]
 refine ⟨_,rfl,fun h=>⟨h1 rfl,hm,fun x hx=>?_⟩⟩
 rcases hz with ⟨_,hz⟩ | ⟨i,y,rfl,_,_⟩
 ·obtain ⟨i,hi⟩:=List.getElem?_of_mem hx
  have:=hz i x (Nat.zero_le _) hi
  simp only [Bool.or_eq_false_iff,decide_eq_false_iff_not] at this
  omega
 ·simp at h
structure StM (g:T5) (m:T8) (s:T16):Prop where
 a0:0≤s.At
 a1:s.At < m.States
 k:KnownL (flat g.Decls) s.Known
 p:s.Pending.length≤4194304
theorem zero_size {v:T12} (h:zeroV v=true):v.S.size=0:=by
 unfold zeroV at h
 simp only [Bool.and_eq_true] at h
 have h:=beq_iff_eq.1 h.2.2.1
 rw [toList_bs,toList_bs,bs_nil] at h
 rw [size_bs,h];rfl
theorem known_size {fs:List T4} {ks:List T12} (h:KnownL fs ks):∀ v∈ks,v.S.size≤4194304:=fun v hv=>by
 obtain ⟨i,hi⟩:=List.getElem?_of_mem hv
 have hl:=(List.getElem?_eq_some_iff.1 hi).1
 have:=h.2 i _ v (List.getElem?_eq_getElem (by rw [h.1];exact hl)) hi
 rw [Bool.or_eq_true] at this
 rcases this with h | h
 ·have:=zero_size h;omega
 ·have:=vfit_size h;omega
theorem valid_len {l:List T0} (h:validD l=true):l.length≤40∧(flat l).length≤24:=by
 unfold validD at h
 simp only [Bool.and_eq_true,decide_eq_true_eq] at h
 exact ⟨h.1,h.2.1⟩
theorem fits_some (hN:4194304 < N) (g:T5) (hg:SizeG g) (hs:SizeN g) (m:T8) (ht:m.Timeouts.length≤4194304) (s:T16) (hk:s.Known.length≤4194304) (hv:∀ v∈s.Known,v.S.size≤4194304) :
  ∃ b,z46 N g m s=some b∧(b=true→AgrM g m)∧(∀ _:z60 N g m=some true,StM g m s→b=true):=by
 unfold z46
 obtain ⟨b,e,h⟩:=agree_some hN g hg hs m ht
 rw [e]
 simp only [bS]
 cases b with
 | false=>exact ⟨false,rfl,(fun h=>by cases h),(fun h=>by cases h)⟩
 | true =>
 have hA:=h rfl
 rw [mfields_eq hN g hA.v]
 obtain ⟨b,eb,hb⟩:=known_eq hN (flat g.Decls) s.Known hk hv
 simp only [cT,bS,eb]
 cases c1:decide (s.At≥0) with
 | false=>exact ⟨false,rfl,(fun h=>by cases h),fun _ h=>by have:=h.a0;simp at c1;omega⟩
 | true =>
 cases c2:decide (s.At < m.States) with
 | false=>exact ⟨false,rfl,(fun h=>by cases h),fun _ h=>by have:=h.a1;simp at c2;omega⟩
 | true=>exact ⟨b,rfl,fun _=>hA,fun _ h=>hb.2 h.k⟩
theorem less_irr (a:ByteArray):Op.bytesLess a.toList a.toList=false:=by
 generalize a.toList=l
 induction l with
 | nil=>rfl
 | cons x l ih=>unfold Op.bytesLess;simp [ih]
theorem strcmp_some (a b:ByteArray):∃ z,z233 N a b=some z∧(a=b→z=0):=by
 unfold z233 z271
 have e:∀ x:ByteArray,(!(x.toList==x.toList))=false:=fun x=>by simp
 simp only [bS,e,cond_false]
 cases h1:Op.bytesLess a.toList b.toList with
 | true=>exact ⟨_,rfl,fun h=>by subst h;rw [show Op.bytesLess a.toList a.toList=false from less_irr a] at h1;cases h1⟩
 | false =>
  cases h2:(a.toList==b.toList) with
  | true=>exact ⟨_,rfl,fun _=>rfl⟩
  | false=>exact ⟨_,rfl,fun h=>by subst h;simp at h2⟩
end Gp
end
section
namespace Gp
open Go Go.Kx Gx
variable {N:Nat}
theorem or4 (hN:4194304 < N) (a b c d:Int):∃ z,z231 N [a,b,c,d]=some z∧(a=0→b=0→c=0→d=0→z=0):=by
 obtain ⟨n,rfl⟩:∃ n,N=n+5:=⟨N-5,by omega⟩
 unfold z231
 rw [z231_l2,z231_l2,z231_l2,z231_l2,z231_l2]
 have w0:w64 ((0:Int)+1)=1:=by decide
 have w1:w64 ((1:Int)+1)=2:=by decide
 have w2:w64 ((2:Int)+1)=3:=by decide
 have w3:w64 ((3:Int)+1)=4:=by decide
 rw [w0,w1,w2,w3]
 have i0:idx [a,b,c,d] 0=some a:=rfl
 have i1:idx [a,b,c,d] 1=some b:=rfl
 have i2:idx [a,b,c,d] 2=some c:=rfl
 have i3:idx [a,b,c,d] 3=some d:=rfl
 rw [i0,i1,i2,i3]
 have l0:decide ((0:Int) < (([a,b,c,d]:List Int).length:Int))=true:=rfl
 have l1:decide ((1:Int) < (([a,b,c,d]:List Int).length:Int))=true:=rfl
 have l2:decide ((2:Int) < (([a,b,c,d]:List Int).length:Int))=true:=rfl
 have l3:decide ((3:Int) < (([a,b,c,d]:List Int).length:Int))=true:=rfl
 have l4:decide ((4:Int) < (([a,b,c,d]:List Int).length:Int))=false:=rfl
 rw [l0,l1,l2,l3,l4]
 simp only [cT,cond_false,bS]
 cases h0:(a != 0)
 ·cases h1:(b != 0)
  ·cases h2:(c != 0)
   ·cases h3:(d != 0)
    ·exact ⟨0,rfl,fun _ _ _ _=>rfl⟩
    ·exact ⟨d,rfl,fun _ _ _ h=>h⟩
   ·exact ⟨c,rfl,fun _ _ h _=>h⟩
  ·exact ⟨b,rfl,fun _ h _ _=>h⟩
 ·exact ⟨a,rfl,fun h _ _ _=>h⟩
theorem cI_self (x:Int):cI x x=0:=by
 rcases cI_cases x x with ⟨h,_⟩ | ⟨h,_⟩ | ⟨_,h⟩
 ·omega
 ·omega
 ·exact h
theorem same1 (hN:4194304 < N) (a b:T12):∃ z,z172 N a b=some z∧(a=b→z=true):=by
 unfold z172 z173
 obtain ⟨s,es,hs⟩:=strcmp_some (N:=N) a.S b.S
 rw [cI_eq,cI_eq,cI_eq,es]
 simp only [bS]
 obtain ⟨z,ez,hz⟩:=or4 hN (cI a.Kind b.Kind) (cI a.N b.N) (cI (a.S.size:Int) (b.S.size:Int)) s
 rw [ez]
 refine ⟨_,rfl,fun h=>?_⟩
 subst h
 rw [hz (cI_self _) (cI_self _) (cI_self _) (hs rfl)];rfl
theorem same_some (hN:4194304 < N) (a b:List T12) (hl:a.length≤4194304):∃ z,z95 N a b=some z∧(a=b→z=true):=by
 unfold z95 z171_24
 rw [lenI_ne]
 by_cases h:a.length=b.length
 ·rw [dT h]
  let p:T12→T12→Bool:=fun x y=>(z172 N x y).getD false
  obtain ⟨z,ez,hz⟩:=eqf p (xs:=a) (ys:=b) (F:=z171_24_l2 N a b) (n:=N) h (by omega) (fun n k x y hk hx hy=>by
   rw [z171_24_l2,lt_t hk,idx_nat,hx,idx_nat,hy,w64_succ (by omega)]
   obtain ⟨q,eq,_⟩:=same1 hN x y
   have e:p x y=q:=by show (z172 N x y).getD false=q;rw [eq];rfl
   simp only [cT,bS,eq,e]
   cases q<;>rfl) (fun n k hk=>by
   rw [z171_24_l2,lt_f hk];rfl)
  simp only [Bool.not_true,cond_false,ez,bS]
  refine ⟨z,rfl,fun e=>hz.2 fun i x y hx hy=>?_⟩
  subst e
  rw [hx] at hy;cases hy
  obtain ⟨q,eq,hq⟩:=same1 hN x x
  show (z172 N x x).getD false=true
  rw [eq,hq rfl];rfl
 ·rw [dF h]
  exact ⟨false,rfl,fun e=>absurd (congrArg List.length e) h⟩
structure SizeE (x:T3):Prop where
 l:x.Values.length≤4194304
 s:∀ v∈x.Values,v.S.size≤4194304
theorem flat_at {d:List T0} {i:Nat} {x:T0} (hx:d[i]? = some x) {j:Nat} (hj:j < x.Fields.length):(flat d)[(flat (d.take i)).length+j]? = x.Fields[j]? := by
 have hi:=(List.getElem?_eq_some_iff.1 hx).1
 have e:d=d.take i++x::d.drop (i+1):=by
  have h1:d[i]=x:=(List.getElem?_eq_some_iff.1 hx).2
  rw [← h1]
  exact (List.take_append_drop i d).symm.trans (by rw [List.drop_eq_getElem_cons hi])
 have e2:flat d=flat (d.take i)++(x.Fields++flat (d.drop (i+1))):=by
  rw [← flat_cons,← flat_app,← e]
 rw [e2,List.getElem?_append_right (Nat.le_add_right _ _),Nat.add_sub_cancel_left,List.getElem?_append_left hj]
theorem known_next {d:List T0} {i first:Nat} {x:T0} {vs ks:List T12} (hx:d[i]? = some x) (hf:x.First=(first:Int)) (hd:declV (flat d) d x i=true) (hle:first+vs.length≤ks.length)
  (hk:KnownL (flat d) ks) (hv:FitsL x.Fields vs):KnownL (flat d) (behindV first vs ks):=by
 unfold declV at hd
 simp only [Bool.and_eq_true,decide_eq_true_eq] at hd
 have hF:first=(flat (d.take i)).length:=by have:=hd.2.2.1;omega
 refine ⟨by rw [behind_len first vs ks hle];exact hk.1,fun j f v h1 h2=>?_⟩
 rw [behind_get first vs ks hle] at h2
 split at h2
 ·rename_i hj
  have hj':j-first < x.Fields.length:=by rw [hv.1];omega
  have:=flat_at hx hj'
  rw [← hF,show first+(j-first)=j by omega,h1] at this
  rw [hv.2 (j-first) f v this.symm h2,Bool.or_true]
 ·exact hk.2 j f v h1 h2
theorem step_some (hN:4194304 < N) (g:T5) (hg:SizeG g) (hs:SizeN g) (m:T8) (hA:AgrM g m) (s:T16) (hS:StM g m s) (x:T3) (hx:SizeE x) :
  ∃ r,z47 N g m s x=some r∧(r.2=0→StM g m r.1)∧r.2≠1:=by
 obtain ⟨v1,v2⟩:=valid_len hA.v
 have hn:=hA.n.n
 have hkl:s.Known.length≤4194304:=by rw [← hS.k.1];omega
 have hks:=known_size hS.k
 unfold z47 z92_19
 have ep:∀ y,z93_18 N y s x=some (y.From==s.At && (y.Send==x.Send && (y.Peer==x.Peer && y.Label==x.Label))):=fun y=>by
  unfold z93_18
  cases (y.From==s.At)<;>cases (y.Send==x.Send)<;>cases (y.Peer==x.Peer)<;>rfl
 obtain ⟨z,ez,hz⟩:=find_some (fun (y:T9)=>(y.From==s.At && (y.Send==x.Send && (y.Peer==x.Peer && y.Label==x.Label)))) (xs:=m.Moves) (F:=z92_19_l2 N m.Moves s x) (fun n k y hk hy=>by
  rw [z92_19_l2,lt_t hk,idx_nat,hy,w64_succ (by omega)]
  simp only [cT,bS,ep]) (fun n k hk=>by
  rw [z92_19_l2,lt_f hk];rfl) _ N 0 rfl (by omega)
 rw [show ((0:Nat):Int)=0 from rfl] at ez
 rw [ez]
 simp only [bS]
 cases (x.Role != m.Role) with
 | true=>exact ⟨_,rfl,(fun h=>by cases h),by decide⟩
 | false =>
 rcases hz with ⟨rfl,_⟩ | ⟨k,y,rfl,hy,hp⟩
 ·exact ⟨_,rfl,(fun h=>by cases h),by decide⟩
 have h0:decide ((k:Int) < 0)=false:=by simp
 rw [h0]
 simp only [Bool.and_eq_true,beq_iff_eq] at hp
 obtain ⟨_,_,_,hlab⟩:=hp
 have hym:=List.mem_of_getElem? hy
 obtain ⟨_,⟨t0,t1⟩,_,_,la,_⟩:=hA.n.mv y hym
 have lb:=hA.l y hym
 rw [hlab] at la lb
 obtain ⟨d,hd⟩:=idx_lt la lb
 rw [hd]
 simp only [cond_false,bS]
 obtain ⟨bf,ef,hf⟩:=fitsAll_eq hN d.Fields x.Values hx.l hx.s
 rw [ef]
 simp only [bS]
 cases bf with
 | false=>exact ⟨_,rfl,(fun h=>by cases h),by decide⟩
 | true =>
 have hfl:=hf.1 rfl
 have hc:=check_eq hN g.Decls (by omega) hg.dd hs.d x.Label x.Values s.Known hx.l hkl ⟨hx.s,hks⟩
 rw [hc]
 simp only [Bool.not_true,cond_false,bS]
 have fin:∀ b:Bool,(b=false→checkV g.Decls x.Label x.Values s.Known=true)→∃ r,z47_k1 N g m s x (k:Int) b=some r∧(r.2=0→StM g m r.1)∧r.2≠1:=fun b hb=>by
  unfold z47_k1
  cases b with
  | true=>exact ⟨_,rfl,(fun h=>by cases h),by decide⟩
  | false =>
  have hck:=hb rfl
  unfold checkV at hck
  rw [Bool.and_eq_true] at hck
  obtain ⟨hp,hck⟩:=hck
  rw [idx_nat,hy]
  simp only [cond_false,bS]
  rcases learn_eq hN g.Decls (by omega) hg.dd hs.d x.Label x.Values s.Known hx.l hkl ⟨hx.s,hks⟩ with ⟨h,_⟩ | ⟨_,i,d',first,q1,q2,q3,q4,q5⟩
  ·rw [h] at hp;cases hp
  have hd':d'=d:=by
   rw [q1,idx_nat,q2] at hd
   exact Option.some.inj hd
  subst hd'
  rcases q5 with ⟨h,_⟩ | ⟨_,hle,hl⟩
  ·rw [hd] at hck
   simp only [h,Bool.false_and] at hck
   cases hck
  rw [hl]
  simp only [bS]
  have hkn:=known_next q2 q3 q4 hle hS.k hfl
  cases x.Send with
  | true =>
   unfold z55
   rw [appL_some (by have:=hx.l;simp;omega)]
   exact ⟨_,rfl,fun _=>⟨t0,t1,hkn,by simpa using hx.l⟩,show (0:Int)≠1 by decide⟩
  | false=>exact ⟨_,rfl,fun _=>⟨t0,t1,hkn,by simp⟩,show (0:Int)≠1 by decide⟩
 cases hcv:checkV g.Decls x.Label x.Values s.Known with
 | false=>exact fin true (fun h=>by cases h)
 | true =>
 simp only [Bool.not_true,cond_false]
 rw [idx_nat,hy]
 simp only [bS]
 obtain ⟨q,eq,_⟩:=same_some hN x.Values s.Pending hx.l
 rw [eq]
 simp only [bS]
 cases y.Again with
 | true=>exact fin (!q) (fun _=>hcv)
 | false=>exact fin false (fun _=>hcv)
end Gp
end
section
namespace Gp
open Go Go.Kx Gx
variable {N:Nat}
section
variable (f:T16→T3→T16 × Int)
def runV:List T3→T16→Nat→T16 × Int × Int
 | [],s,k=>(s,(k:Int),0)
 | x::l,s,k=>bif (f s x).2 != 0 then (s,(k:Int),(f s x).2) else runV l (f s x).1 (k+1)
end
def stepF (N:Nat) (g:T5) (m:T8) (s:T16) (x:T3):T16 × Int:=(z47 N g m s x).getD (⟨0,[],[]⟩,0)
structure Ctx0 (N:Nat) (g:T5) (m:T8):Prop where
 hN:4194304 < N
 gg:SizeG g
 ss:SizeN g
 t:m.Timeouts.length≤4194304
 a:AgrM g m
 e:z60 N g m=some true
variable {g:T5} {m:T8}
theorem stepF_eq (c:Ctx0 N g m) {s:T16} (hS:StM g m s) {x:T3} (hx:SizeE x):z47 N g m s x=some (stepF N g m s x)∧((stepF N g m s x).2=0→StM g m (stepF N g m s x).1)∧(stepF N g m s x).2≠1:=by
 obtain ⟨r,h1,h2,h3⟩:=step_some c.hN g c.gg c.ss m c.a s hS x hx
 have e:stepF N g m s x=r:=by unfold stepF;rw [h1];rfl
 rw [e];exact ⟨h1,h2,h3⟩
theorem stM_known (c:Ctx0 N g m) {s:T16} (hS:StM g m s):s.Known.length≤4194304:=by
 have:=valid_len c.a.v
 rw [← hS.k.1];omega
theorem fits_true (c:Ctx0 N g m) {s:T16} (hS:StM g m s):z46 N g m s=some true:=by
 obtain ⟨b,e,_,h⟩:=fits_some c.hN g c.gg c.ss m c.t s (stM_known c hS) (known_size hS.k)
 have:=h c.e hS
 rw [e,this]
def newV (g:T5) (m:T8):T16:=⟨m.Start,List.replicate (flat g.Decls).length ⟨0,0,str []⟩,[]⟩
theorem New_eq (c:Ctx0 N g m):z24 N g m=some (newV g m):=by
 unfold z24
 rw [c.e,mfields_eq c.hN g c.a.v]
 have hl:=(valid_len c.a.v).2
 have e:mkL (⟨0,0,str []⟩:T12) ((flat g.Decls).length:Int) ((flat g.Decls).length:Int)=some (List.replicate (flat g.Decls).length ⟨0,0,str []⟩):=by
  unfold mkL
  rw [dT (by omega:(0:Int)≤((flat g.Decls).length:Int)),dT (Int.le_refl _),dT (by omega:((flat g.Decls).length:Int)≤4294967296)];rfl
 simp only [bS,Bool.not_true,cond_false,e]
 rfl
theorem new_st (c:Ctx0 N g m):StM g m (newV g m):=by
 refine ⟨c.a.n.b0,c.a.n.b1,⟨by simp [newV],fun i f v _ h=>?_⟩,by simp [newV]⟩
 have h:(List.replicate (flat g.Decls).length (⟨0,0,str []⟩:T12))[i]? = some v:=h
 rw [List.eq_of_mem_replicate (List.mem_of_getElem? h)]
 have e:zeroV ⟨0,0,str []⟩=true:=by kernel_rfl
 rw [e];rfl
theorem run_loop (c:Ctx0 N g m) (l:List T3) (hl:l.length≤4194304) (he:∀ x∈l,SizeE x):∀ (r:List T3) (n k:Nat) (s:T16),StM g m s→k≤l.length→l.drop k=r→r.length < n →
    z17_l2 N g m l n s.At s.Known s.Pending (k:Int)=some (runV (stepF N g m) r s k):=by
  intro r
  induction r with
  | nil =>
    intro n k s hS hk hr hn
    obtain ⟨n,rfl⟩:∃ q,n=q+1:=⟨n-1,by simp at hn;omega⟩
    have:=List.drop_eq_nil_iff.1 hr
    rw [z17_l2,lt_f this]
    have e:k=l.length:=by omega
    subst e;rfl
  | cons x r ih =>
    intro n k s hS hk hr hn
    obtain ⟨n,rfl⟩:∃ q,n=q+1:=⟨n-1,by simp at hn;omega⟩
    have hk:k < l.length:=by
      refine Nat.not_le.1 fun h=>?_
      rw [List.drop_eq_nil_iff.2 h] at hr;cases hr
    have hx:l[k]? = some x:=by
      have:=congrArg (·[0]?) hr
      simpa using this
    obtain ⟨e1,e2,_⟩:=stepF_eq c hS (he x (List.mem_of_getElem? hx))
    rw [z17_l2,lt_t hk,idx_nat,hx,w64_succ (by omega)]
    simp only [cT,bS]
    have e1:z47 N g m ⟨s.At,s.Known,s.Pending⟩ x=some (stepF N g m s x):=e1
    rw [e1,runV]
    simp only [bS]
    cases h:((stepF N g m s x).2 != 0) with
    | true=>rfl
    | false =>
      have h0:(stepF N g m s x).2=0:=by simpa using h
      exact ih n (k+1) _ (e2 h0) hk (by have:=congrArg (List.drop 1) hr;simpa [List.drop_drop,Nat.add_comm] using this) (by simp at hn;omega)
theorem Run_eq (c:Ctx0 N g m) (l:List T3) (hl:l.length≤4194304) (he:∀ x∈l,SizeE x):z17 N g m l=some (runV (stepF N g m) l (newV g m) 0):=by
 have hN:=c.hN
 unfold z17
 rw [New_eq c]
 simp only [bS]
 rw [fits_true c (new_st c)]
 exact run_loop c l hl he l N 0 _ (new_st c) (Nat.zero_le _) rfl (by omega)
theorem runV_st (c:Ctx0 N g m):∀ (l:List T3) (s:T16) (k:Nat),(∀ x∈l,SizeE x)→StM g m s→StM g m (runV (stepF N g m) l s k).1∧(runV (stepF N g m) l s k).2.2≠1
 | [],s,k,_,hS=>⟨hS,show (0:Int)≠1 by decide⟩
 | x::l,s,k,he,hS=>by
  obtain ⟨_,e2,e3⟩:=stepF_eq c hS (he x (List.mem_cons_self ..))
  rw [runV]
  cases h:((stepF N g m s x).2 != 0) with
  | true=>exact ⟨hS,e3⟩
  | false =>
   have h0:(stepF N g m s x).2=0:=by simpa using h
   exact runV_st c l _ (k+1) (fun y hy=>he y (List.mem_cons_of_mem _ hy)) (e2 h0)
theorem few15 (hN:4194304 < N) (l:List T12) (hl:l.length≤4194304):∃ b,z63 N l=some b:=by
 refine tot_from (F:=z63_l2 l) (len:=l.length) (fun n k hk hi=>?_) (fun n k hk=>?_) _ N 0 rfl (by omega)
 ·rw [z63_l2,lt_t hk,idx_nat,List.getElem?_eq_getElem hk,w64_succ (by omega)]
  simp only [cT,bS]
  exact tot_bif (fun _=>tot_some _) fun _=>hi
 ·rw [z63_l2,lt_f hk]
  exact tot_some _
theorem few40 (hN:4194304 < N) (l:List T3) (hl:l.length≤4194304) (he:∀ x∈l,SizeE x):∃ b,z29 N l=some b:=by
 refine tot_from (F:=z29_l2 N l) (len:=l.length) (fun n k hk hi=>?_) (fun n k hk=>?_) _ N 0 rfl (by omega)
 ·rw [z29_l2,lt_t hk,idx_nat,List.getElem?_eq_getElem hk,w64_succ (by omega)]
  obtain ⟨b,eb⟩:=few15 hN _ (he _ (List.getElem_mem hk)).l
  simp only [cT,bS,eb]
  exact tot_bif (fun _=>tot_some _) fun _=>hi
 ·rw [z29_l2,lt_f hk]
  exact tot_some _
theorem few_tot (hN:4194304 < N) (g:T5) (hg:SizeG g) (m:T8) (l:List T3) (hl:l.length≤4194304) (he:∀ x∈l,SizeE x):∃ b,z9 N g m l=some b:=by
 unfold z9 z27 z28 z62
 obtain ⟨b1,e1,_⟩:=few_loop g.Decls hg.d g.Decls N 0 0 rfl (by have:=hg.d;omega)
 rw [show ((0:Nat):Int)=0 from rfl] at e1
 obtain ⟨b2,e2⟩:=few40 hN l hl he
 rw [e1,e2]
 simp only [bS]
 cases decide (g.States≤40)<;>cases decide ((g.Edges.length:Int)≤80)<;>cases decide ((g.Timeouts.length:Int)≤40)<;>cases decide ((g.Roles.length:Int)≤10)<;>cases b1 <;>
  cases decide (m.States≤40)<;>cases decide ((m.Finals.length:Int)≤45)<;>cases decide ((m.Moves.length:Int)≤80)<;>cases decide ((m.Timeouts.length:Int)≤45)<;>exact ⟨_,rfl⟩
end Gp
end
section
namespace Gp
open Go Go.Kx Gx
variable {N:Nat}
theorem refNum_eq (hN:4194304 < N) (m:T8):ref26_numbers N m=some (numM m):=by
 unfold ref26_numbers numM stM
 have ge:∀ a:Int,decide (a≥0) = !decide (a < 0):=fun a=>by by_cases h:a < 0<;>simp [h]<;>omega
 have lt:∀ a b:Int,decide (a < b) = !decide (a≥b):=fun a b=>by by_cases h:a < b<;>simp [h]<;>omega
 rw [ge m.Start,lt m.Start m.States]
 cases decide (m.Role < 0)
 case true=>rfl
 cases decide (m.Role≥6)
 case true=>rfl
 cases decide (m.States < 1)
 case true=>rfl
 cases decide (m.States > 200)
 case true=>rfl
 cases decide (m.Start < 0)
 case true=>rfl
 cases decide (m.Start≥m.States)
 case true=>rfl
 cases ((m.Finals.length:Int) != m.States)
 case true=>rfl
 cases h:decide ((m.Moves.length:Int) > 400)
 case true=>rfl
 simp only [decide_eq_false_iff_not] at h
 have:=allV_from (fun (x:T9) _=>moveM m x) (xs:=m.Moves) (F:=ref26_numbers_l2 m) (e:=some true) (n:=N) (by omega) (by
  intro n k x hk hx
  rw [ref26_numbers_l2,lt_t hk,w64_succ (by omega)]
  simp only [cT,idx_nat,hx,bS]
  unfold moveM stM
  rw [ge x.From,ge x.To,lt x.From m.States,lt x.To m.States]
  cases decide (x.From < 0)
  case true=>rfl
  cases decide (x.From≥m.States)
  case true=>rfl
  cases decide (x.To < 0)
  case true=>rfl
  cases decide (x.To≥m.States)
  case true=>rfl
  cases decide (x.Peer < 0)
  case true=>rfl
  cases decide (x.Peer≥6)
  case true=>rfl
  cases (x.Peer==m.Role)
  case true=>rfl
  cases decide (x.Label < 0)
  case true=>rfl
  cases decide (x.Label≥40)<;>rfl) (by
  intro n k hk
  rw [ref26_numbers_l2,lt_f hk]
  rfl)
 show ref26_numbers_l2 m N 0=_
 rw [this]
 cases allV (fun (x:T9) _=>moveM m x) m.Moves 0<;>rfl
def timeM (m:T8) (x:T11) (k:Nat):Bool:=(decide (1≤x.Ticks) && (decide (x.Ticks≤1000) && (decide (0≤x.Else) && decide (x.Else < (m.Moves.length:Int))))) && (decide (k=0) || (match m.Timeouts[k-1]? with | some y=>decide (y.State < x.State) | none=>false)) &&
 (match idx m.Moves x.Else with | some y=>(y.From==x.State) && (y.Send && !y.Again) | none=>false)
theorem refTimed26_eq (hN:4194304 < N) (m:T8) (ht:m.Timeouts.length≤4194304):ref26_timed N m=some (allV (timeM m) m.Timeouts 0):=by
 unfold ref26_timed
 have:=allV_from (timeM m) (xs:=m.Timeouts) (F:=ref26_timed_l2 m) (e:=some true) (n:=N) (by omega) (by
  intro n k x hk hx
  rw [ref26_timed_l2,lt_t hk,idx_nat,hx]
  simp only [cT,bS]
  have k3:∀ b:Bool,(0≤x.Else∧x.Else < (m.Moves.length:Int))→ref26_timed_k3 m (k:Int) (ref26_timed_l2 m n) x b=bif (!b && (match idx m.Moves x.Else with | some y=>(y.From==x.State) && (y.Send && !y.Again) | none=>false)) then ref26_timed_l2 m n ((k+1:Nat):Int) else some false:=fun b ⟨h1,h2⟩=>by
   unfold ref26_timed_k3
   obtain ⟨y,hy⟩:=idx_lt (L:=m.Moves) h1 h2
   rw [hy,w64_succ (by omega)]
   simp only [bS]
   have e:(y.From != x.State) = !(y.From==x.State):=rfl
   rw [e]
   cases b<;>cases (y.From==x.State)<;>cases y.Send<;>cases y.Again<;>rfl
  have kt:ref26_timed_k3 m (k:Int) (ref26_timed_l2 m n) x true=some false:=rfl
  unfold timeM
  by_cases a1:x.Ticks < 1
  ·rw [dT a1,dF (by omega:¬ 1≤x.Ticks),kt];rfl
  by_cases a2:x.Ticks > 1000
  ·rw [dF a1,dT a2,dF (by omega:¬ x.Ticks≤1000),kt];simp
  by_cases a3:x.Else < 0
  ·rw [dF a1,dF a2,dT a3,dF (by omega:¬ 0≤x.Else),kt];simp
  by_cases a4:x.Else≥(m.Moves.length:Int)
  ·rw [dF a1,dF a2,dF a3,dT a4,dF (by omega:¬ x.Else < (m.Moves.length:Int)),kt];simp
  rw [dF a1,dF a2,dF a3,dF a4,dT (by omega:1≤x.Ticks),dT (by omega:x.Ticks≤1000),dT (by omega:0≤x.Else),dT (by omega:x.Else < (m.Moves.length:Int))]
  simp only [cond_false,Bool.true_and]
  by_cases hk0:k=0
  ·subst hk0
   rw [show decide (((0:Nat):Int) > 0)=false from rfl,cond_false,k3 false ⟨by omega,by omega⟩]
   simp
  ·rw [dT (by omega:(k:Int) > 0)]
   have w:w64 ((k:Int)-1)=((k-1:Nat):Int):=by rw [w64_id (by omega) (by omega)];omega
   have hy:=List.getElem?_eq_getElem (by omega:k-1 < m.Timeouts.length)
   rw [w,idx_nat,hy]
   simp only [cT,bS]
   rw [k3 _ ⟨by omega,by omega⟩,dF hk0]
   have e:(!decide (x.State≤(m.Timeouts[k-1]).State))=decide ((m.Timeouts[k-1]).State < x.State):=by
    by_cases h:x.State≤(m.Timeouts[k-1]).State<;>simp [h]<;>omega
   rw [e,Bool.false_or]) (by
  intro n k hk
  rw [ref26_timed_l2,lt_f hk];rfl)
 rw [this]
 cases allV (timeM m) m.Timeouts 0<;>rfl
end Gp
end
section
namespace Gp
open Go Go.Kx Gx
variable {N:Nat} {t:T15} {m:T8}
theorem timed_eq26 (hN:4194304 < N) (hm:t.Machine=m) (ht:m.Timeouts.length≤4194304):z193 N t=some (allV (timeM m) m.Timeouts 0):=by
 unfold z193
 subst hm
 have:=allV_from (timeM t.Machine) (xs:=t.Machine.Timeouts) (F:=z193_l2 t) (e:=some true) (n:=N) (by omega) (by
  intro n k x hk hx
  rw [z193_l2,lt_t hk,idx_nat,hx]
  simp only [cT,bS]
  have k3:(0≤x.Else∧x.Else < (t.Machine.Moves.length:Int))→z193_k3 t (k:Int) (z193_l2 t n) x false=bif (match idx t.Machine.Moves x.Else with | some y=>(y.From==x.State) && (y.Send && !y.Again) | none=>false) then z193_l2 t n ((k+1:Nat):Int) else some false:=fun ⟨h1,h2⟩=>by
   unfold z193_k3
   obtain ⟨y,hy⟩:=idx_lt (L:=t.Machine.Moves) h1 h2
   rw [hy,w64_succ (by omega)]
   simp only [bS]
   have e:(y.From != x.State) = !(y.From==x.State):=rfl
   rw [e]
   cases (y.From==x.State)<;>cases y.Send<;>cases y.Again<;>rfl
  have kt:z193_k3 t (k:Int) (z193_l2 t n) x true=some false:=rfl
  have tail:(bif decide (x.Ticks < 1) then z193_k3 t (k:Int) (z193_l2 t n) x true else bif decide (x.Ticks > 1000) then z193_k3 t (k:Int) (z193_l2 t n) x true
    else bif decide (x.Else < 0) then z193_k3 t (k:Int) (z193_l2 t n) x true else z193_k3 t (k:Int) (z193_l2 t n) x (decide (x.Else≥(t.Machine.Moves.length:Int)))) =
    bif ((decide (1≤x.Ticks) && (decide (x.Ticks≤1000) && (decide (0≤x.Else) && decide (x.Else < (t.Machine.Moves.length:Int))))) && (match idx t.Machine.Moves x.Else with | some y=>(y.From==x.State) && (y.Send && !y.Again) | none=>false)) then z193_l2 t n ((k+1:Nat):Int) else some false:=by
   by_cases a1:x.Ticks < 1
   ·rw [dT a1,dF (by omega:¬ 1≤x.Ticks),kt];rfl
   by_cases a2:x.Ticks > 1000
   ·rw [dF a1,dT a2,dF (by omega:¬ x.Ticks≤1000),kt];simp
   by_cases a3:x.Else < 0
   ·rw [dF a1,dF a2,dT a3,dF (by omega:¬ 0≤x.Else),kt];simp
   by_cases a4:x.Else≥(t.Machine.Moves.length:Int)
   ·rw [dF a1,dF a2,dF a3,dT a4,dF (by omega:¬ x.Else < (t.Machine.Moves.length:Int)),kt];simp
   rw [dF a1,dF a2,dF a3,dF a4,dT (by omega:1≤x.Ticks),dT (by omega:x.Ticks≤1000),dT (by omega:0≤x.Else),dT (by omega:x.Else < (t.Machine.Moves.length:Int))]
   simp only [cond_false,Bool.true_and]
   exact k3 ⟨by omega,by omega⟩
  unfold timeM
  by_cases hk0:k=0
  ·subst hk0
   rw [show decide (((0:Nat):Int) > 0)=false from rfl,cond_false,tail,dT rfl,Bool.true_or,Bool.and_true]<;>rfl
  ·rw [dT (by omega:(k:Int) > 0)]
   have w:w64 ((k:Int)-1)=((k-1:Nat):Int):=by rw [w64_id (by omega) (by omega)];omega
   have hy:=List.getElem?_eq_getElem (by omega:k-1 < t.Machine.Timeouts.length)
   rw [w,idx_nat,hy,dF hk0]
   simp only [cT,bS,Bool.false_or]
   rw [tail,kt]
   by_cases h:(t.Machine.Timeouts[k-1]).State≥x.State
   ·rw [dT h,dF (by omega:¬ (t.Machine.Timeouts[k-1]).State < x.State),Bool.and_false,Bool.false_and];rfl
   ·rw [dF h,dT (by omega:(t.Machine.Timeouts[k-1]).State < x.State),Bool.and_true];rfl) (by
  intro n k hk
  rw [z193_l2,lt_f hk];rfl)
 rw [this]
 cases allV (timeM t.Machine) t.Machine.Timeouts 0<;>rfl
def agM (m:T8) (x:T9):Bool := !x.Again || (x.Send && (!(x.From==m.Start) && (match idx m.Finals x.From with | some b => !b | none=>false)))
def prM (x:T9) (i:Nat) (y:T9) (k:Nat):Bool := !(!decide (k=i) && (x.From==y.From && (!(x.Send==y.Send) || (x.Peer==y.Peer && x.Label==y.Label) || x.Again))) && !(x.Again && (y.To==x.From && (!y.Send || !(y.Label==x.Label))))
def apM (m:T8):Bool:=allV (fun x i=>agM m x && allV (fun y k=>prM x i y k) m.Moves 0) m.Moves 0
theorem refApart_eq (hN:4194304 < N) (hm:NumM m):ref26_apart N m=some (apM m):=by
 have hn:=hm.n
 unfold ref26_apart apM
 have:=allV_from (fun x i=>agM m x && allV (fun y k=>prM x i y k) m.Moves 0) (xs:=m.Moves) (F:=ref26_apart_l2 N m) (e:=some true) (n:=N) (by omega) (by
  intro n i x hi hx
  obtain ⟨⟨f0,f1⟩,_⟩:=hm.mv x (List.mem_of_getElem? hx)
  rw [ref26_apart_l2,lt_t hi,idx_nat,hx]
  simp only [cT,bS]
  have inner:ref26_apart_l4 m (i:Int) (ref26_apart_l2 N m n) x N 0=bif allV (fun y k=>prM x i y k) m.Moves 0 then ref26_apart_l2 N m n ((i+1:Nat):Int) else some false:=by
   have:=allV_from (fun y k=>prM x i y k) (xs:=m.Moves) (F:=ref26_apart_l4 m (i:Int) (ref26_apart_l2 N m n) x) (e:=ref26_apart_l2 N m n ((i+1:Nat):Int)) (n:=N) (by omega) (by
    intro q k y hk hy
    rw [ref26_apart_l4,lt_t hk,idx_nat,hy]
    simp only [cT,bS]
    unfold ref26_apart_k5 prM
    rw [w64_succ (by omega)]
    have e1:((k:Int) != (i:Int)) = !decide (k=i):=by by_cases h:k=i<;>simp [h]<;>omega
    have e2:(y.Label != x.Label) = !(y.Label==x.Label):=rfl
    rw [e1,e2]
    generalize ref26_apart_l4 m (i:Int) (ref26_apart_l2 N m n) x q ((k+1:Nat):Int)=Z
    generalize (y.Label==x.Label)=b1
    generalize (y.To==x.From)=b2
    generalize (x.Label==y.Label)=b3
    generalize (x.Peer==y.Peer)=b4
    generalize (x.From==y.From)=b5
    generalize decide (k=i)=b6
    generalize x.Send=b7
    generalize y.Send=b8
    generalize x.Again=b9
    cases b6<;>cases b5<;>cases b9<;>cases b2<;>cases b8<;>cases b7<;>try rfl
    all_goals (cases b1<;>cases b4<;>cases b3<;>rfl)) (by
    intro q k hk
    rw [ref26_apart_l4,lt_f hk]
    unfold ref26_apart_k3
    rw [cond_false,w64_succ (by omega)])
   exact this
  obtain ⟨b,hb⟩:=idx_lt (L:=m.Finals) f0 (by have:=hm.f;omega)
  unfold ref26_apart_k6 agM
  rw [hb,inner]
  simp only [bS]
  generalize allV (fun y k=>prM x i y k) m.Moves 0=Y
  generalize ref26_apart_l2 N m n ((i+1:Nat):Int)=Z
  cases x.Again<;>cases x.Send<;>cases (x.From==m.Start)<;>cases b<;>cases Y<;>rfl) (by
  intro n k hk
  rw [ref26_apart_l2,lt_f hk];rfl)
 rw [this]
 cases allV (fun x i=>agM m x && allV (fun y k=>prM x i y k) m.Moves 0) m.Moves 0<;>rfl
end Gp
end
section
namespace Gp
open Go Go.Kx Gx
variable {N:Nat} {t:T15} {m:T8}
theorem all_from {F:Nat→Int→Option Bool} {len lo:Nat} {e:Option Bool} (P:Nat→Prop) (h1:∀ n k,lo≤k→k < len→(F (n+1) (k:Int)=some false∧¬ P k)∨(F (n+1) (k:Int)=F n ((k+1:Nat):Int)∧P k))
  (h2:∀ n k,len≤k→F (n+1) (k:Int)=e):∀ (d n k:Nat),lo≤k→len-k=d→d < n→(F n (k:Int)=some false∧∃ j,k≤j∧j < len∧¬ P j)∨(F n (k:Int)=e∧∀ j,k≤j→j < len→P j):=by
 intro d
 induction d with
 | zero =>
  intro n k hl hd hn
  obtain ⟨n,rfl⟩:∃ q,n=q+1:=⟨n-1,by omega⟩
  exact .inr ⟨h2 n k (by omega),fun j h1 h2=>by omega⟩
 | succ d ih =>
  intro n k hl hd hn
  obtain ⟨n,rfl⟩:∃ q,n=q+1:=⟨n-1,by omega⟩
  rcases h1 n k hl (by omega) with ⟨e1,e2⟩ | ⟨e1,e2⟩
  ·exact .inl ⟨e1,k,Nat.le_refl _,by omega,e2⟩
  ·rw [e1]
   rcases ih n (k+1) (by omega) (by omega) (by omega) with ⟨a,j,b1,b2,b3⟩ | ⟨a,b⟩
   ·exact .inl ⟨a,j,by omega,b2,b3⟩
   ·refine .inr ⟨a,fun j c1 c2=>?_⟩
    by_cases h:j=k
    ·subst h;exact e2
    ·exact b j (by omega) c2
def adjM (x y:T9):Prop:=¬ (x.Send=y.Send∧x.Peer=y.Peer∧x.Label=y.Label)∧x.Send=y.Send
def adjL (m:T8) (l:List Int) (j:Nat):Prop:=∀ (a b:Int) x y,l[j-1]? = some a→l[j]? = some b→idx m.Moves a=some x→idx m.Moves b=some y→adjM x y
theorem det_iff (hN:4194304 < N) (h:TabM t m):∃ b,z190 N t=some b∧(b=true↔∀ (s:Nat) l,t.out'[s]? = some l→∀ j,1≤j→j < l.length→adjL m l j):=by
 have hS:=h.num.s1
 have hlen:=h.len
 have key:=all_from (F:=z190_l2 N t) (len:=t.out'.length) (lo:=0) (e:=some true) (fun s=>∀ l,t.out'[s]? = some l→∀ j,1≤j→j < l.length→adjL m l j) (fun n k _ hk=>?_) (fun n k hk=>?_) _ N 0 (Nat.le_refl _) rfl (by omega)
 ·rcases key with ⟨e,j,_,j2,j3⟩ | ⟨e,hh⟩
  ·exact ⟨false,e,by simp only [Bool.false_eq_true,false_iff];intro hh;exact j3 fun l hl=>hh j l hl⟩
  ·refine ⟨true,e,by simp only [true_iff];intro s l hl;exact hh s (Nat.zero_le _) (List.getElem?_eq_some_iff.1 hl).1 l hl⟩
 ·rw [z190_l2,lt_t hk,idx_nat,List.getElem?_eq_getElem hk]
  simp only [cT,bS]
  obtain ⟨hl,ho⟩:=h.out k _ (List.getElem?_eq_getElem hk)
  have hgk:=List.getElem?_eq_getElem hk
  generalize t.out'[k]=l at hl ho hgk
  have hag:z190_k3 (k:Int) (z190_l2 N t n)=z190_l2 N t n ((k+1:Nat):Int):=by
   unfold z190_k3
   rw [w64_succ (by omega)]
  have g:∀ i:Nat,i < l.length→∃ q x,l[i]? = some q∧idx m.Moves q=some x:=fun i hi=>by
   obtain ⟨q,x,e1,e2,_⟩:=ho l[i] (List.getElem_mem hi)
   exact ⟨l[i],x,List.getElem?_eq_getElem hi,by rw [e1,idx_nat];exact e2⟩
  have inner:=all_from (F:=z190_l4 N t (k:Int) (z190_l2 N t n) l) (len:=l.length) (lo:=1) (e:=z190_l2 N t n ((k+1:Nat):Int)) (fun j=>adjL m l j) (fun n' j j1 hj=>by
   rw [z190_l4,lt_t hj,w64_succ (by omega)]
   have w:w64 ((j:Int)-1)=((j-1:Nat):Int):=by rw [w64_id (by omega) (by omega)];omega
   obtain ⟨a,x,ha,hx⟩:=g (j-1) (by omega)
   obtain ⟨b,y,hb,hy⟩:=g j hj
   rw [w,idx_nat,ha,h.mm]
   simp only [cT,bS,hx,idx_nat,hb,hy,z244,Bool.and_true]
   have hadj:adjL m l j↔adjM x y:=by
    constructor
    ·intro hh;exact hh a b x y ha hb hx hy
    ·intro hh a' b' x' y' ha' hb' hx' hy'
     rw [ha] at ha';rw [hb] at hb'
     cases ha';cases hb'
     rw [hx] at hx';rw [hy] at hy'
     cases hx';cases hy'
     exact hh
   rw [hadj]
   unfold adjM
   cases c1:(x.Send==y.Send && (x.Peer==y.Peer && x.Label==y.Label)) with
   | true =>
    simp only [Bool.and_eq_true,beq_iff_eq] at c1
    exact .inl ⟨rfl,fun hh=>hh.1 ⟨c1.1,c1.2.1,c1.2.2⟩⟩
   | false =>
    cases c2:(x.Send==y.Send) with
    | false=>exact .inl ⟨rfl,fun hh=>by rw [hh.2] at c2;simp at c2⟩
    | true =>
     refine .inr ⟨rfl,fun hh=>?_,by simpa using c2⟩
     rw [hh.1,hh.2.1,hh.2.2] at c1
     simp at c1) (fun n' j hj=>by
   rw [z190_l4,lt_f hj]
   exact hag) _ N 1 (Nat.le_refl _) rfl (by omega)
  rcases inner with ⟨e,j,j1,j2,j3⟩ | ⟨e,hh⟩
  ·exact .inl ⟨e,fun hc=>j3 (hc l rfl j j1 j2)⟩
  ·refine .inr ⟨e,fun l' hl' j j1 j2=>?_⟩
   cases hl'
   exact hh j j1 j2
 ·rw [z190_l2,lt_f hk];rfl
def againP (m:T8) (out:List (List Int)) (k:Nat):Prop:=∀ x,m.Moves[k]? = some x→x.Again=true→x.Send=true∧(∀ l,idx out x.From=some l→l.length=1)∧x.From≠m.Start∧idx m.Finals x.From=some false ∧
 ∀ (j:Nat) y,m.Moves[j]? = some y→y.To=x.From→y.Send=true∧y.Label=x.Label
theorem again_iff (hN:4194304 < N) (h:TabM t m):∃ b,z192 N t=some b∧(b=true↔∀ k,k < m.Moves.length→againP m t.out' k):=by
 have hS:=h.num.s1
 have hn:=h.num.n
 have hlen:=h.len
 have hm:=h.mm
 subst hm
 have key:=all_from (F:=z192_l2 N t) (len:=t.Machine.Moves.length) (lo:=0) (e:=some true) (fun k=>againP t.Machine t.out' k) (fun n k _ hk=>?_) (fun n k hk=>?_) _ N 0 (Nat.le_refl _) rfl (by omega)
 ·rcases key with ⟨e,j,_,j2,j3⟩ | ⟨e,hh⟩
  ·exact ⟨false,e,by simp only [Bool.false_eq_true,false_iff];intro hh;exact j3 (hh j j2)⟩
  ·exact ⟨true,e,by simp only [true_iff];intro k hk;exact hh k (Nat.zero_le _) hk⟩
 ·have hx:=List.getElem?_eq_getElem hk
  obtain ⟨⟨f0,f1⟩,_⟩:=h.num.mv _ (List.getElem_mem hk)
  rw [z192_l2,lt_t hk,idx_nat,hx,w64_succ (by omega)]
  generalize t.Machine.Moves[k]=x at hx f0 f1
  simp only [cT,bS]
  obtain ⟨l,hl⟩:=idx_lt (L:=t.out') f0 (by omega)
  obtain ⟨b,hb⟩:=idx_lt (L:=t.Machine.Finals) f0 (by have:=h.num.f;omega)
  have hP:againP t.Machine t.out' k↔(x.Again=true→x.Send=true∧l.length=1∧x.From≠t.Machine.Start∧b=false∧∀ (j:Nat) y,t.Machine.Moves[j]? = some y→y.To=x.From→y.Send=true∧y.Label=x.Label):=by
   unfold againP
   rw [hx]
   constructor
   ·intro hh ha
    obtain ⟨a1,a2,a3,a4,a5⟩:=hh x rfl ha
    rw [hb] at a4
    exact ⟨a1,a2 l hl,a3,Option.some.inj a4,a5⟩
   ·intro hh x' hx' ha
    cases hx'
    obtain ⟨a1,a2,a3,a4,a5⟩:=hh ha
    exact ⟨a1,fun l' hl'=>by rw [hl] at hl';cases hl';exact a2,a3,by rw [hb,a4],a5⟩
  rw [hP]
  cases ha:x.Again with
  | false=>exact .inr ⟨rfl,fun e=>by cases e⟩
  | true =>
  cases hs:x.Send with
  | false=>exact .inl ⟨rfl,fun e=>by have:=(e (by trivial)).1;cases this⟩
  | true =>
  simp only [Bool.not_true,cond_false,hl,hb,bS]
  by_cases c1:l.length=1
  ·have e1:((l.length:Int) != 1)=false:=by simp [c1]
   rw [e1,cond_false]
   by_cases c2:x.From=t.Machine.Start
   ·have e2:(x.From==t.Machine.Start)=true:=by simp [c2]
    rw [e2]
    exact .inl ⟨rfl,fun e=>(e (by trivial)).2.2.1 c2⟩
   ·have e2:(x.From==t.Machine.Start)=false:=by simp [c2]
    rw [e2,cond_false]
    cases b with
    | true=>exact .inl ⟨rfl,fun e=>by have:=(e (by trivial)).2.2.2.1;cases this⟩
    | false =>
    simp only [cond_false]
    have inner:=all_from (F:=z192_l4 t (k:Int) (z192_l2 N t n) x) (len:=t.Machine.Moves.length) (lo:=0) (e:=z192_l2 N t n ((k+1:Nat):Int))
     (fun j=>∀ y,t.Machine.Moves[j]? = some y→y.To=x.From→y.Send=true∧y.Label=x.Label) (fun n' j _ hj=>by
     have hy:=List.getElem?_eq_getElem hj
     rw [z192_l4,lt_t hj,idx_nat,hy,w64_succ (by omega)]
     generalize t.Machine.Moves[j]=y at hy
     simp only [cT,bS]
     have hQ:(∀ y',some y=some y'→y'.To=x.From→y'.Send=true∧y'.Label=x.Label)↔(y.To=x.From→y.Send=true∧y.Label=x.Label) :=
      ⟨fun hh=>hh y rfl,fun hh y' e=>by cases e;exact hh⟩
     rw [hQ]
     by_cases d1:y.To=x.From
     ·have e1:(y.To==x.From)=true:=by simp [d1]
      rw [e1,cT]
      cases d2:y.Send with
      | false=>exact .inl ⟨rfl,fun hh=>by have:=(hh d1).1;cases this⟩
      | true =>
       by_cases d3:y.Label=x.Label
       ·have e3:(y.Label != x.Label)=false:=by simp [d3]
        rw [e3]
        exact .inr ⟨rfl,fun _=>⟨rfl,d3⟩⟩
       ·have e3:(y.Label != x.Label)=true:=by simp [d3]
        rw [e3]
        exact .inl ⟨rfl,fun hh=>d3 (hh d1).2⟩
     ·have e1:(y.To==x.From)=false:=by simp [d1]
      rw [e1]
      exact .inr ⟨rfl,fun hh=>absurd hh d1⟩) (fun n' j hj=>by
     rw [z192_l4,lt_f hj]
     unfold z192_k3
     rw [cond_false,w64_succ (by omega)]) _ N 0 (Nat.le_refl _) rfl (by omega)
    rcases inner with ⟨e,j,_,j2,j3⟩ | ⟨e,hh⟩
    ·exact .inl ⟨e,fun hc=>j3 ((hc (by trivial)).2.2.2.2 j)⟩
    ·refine .inr ⟨e,fun _=>⟨by trivial,c1,c2,by trivial,fun j y hy=>?_⟩⟩
     exact hh j (Nat.zero_le _) (List.getElem?_eq_some_iff.1 hy).1 y hy
  ·have e1:((l.length:Int) != 1)=true:=by simp;omega
   rw [e1]
   exact .inl ⟨rfl,fun e=>c1 (e (by trivial)).2.1⟩
 ·rw [z192_l2,lt_f hk];rfl
end Gp
end
section
namespace Gp
open Go Go.Kx Gx
variable {N:Nat} {m:T8}
theorem ixM_nodup (m:T8) (n s:Nat):(ixM m n s).Nodup:=by
  unfold ixM
  exact List.Pairwise.map (S:=(·≠·)) (fun k:Nat=>(k:Int)) (fun (a b:Nat) (h:a≠b)=>show (a:Int)≠(b:Int) by omega) (List.Pairwise.filter _ List.nodup_range)
theorem prM_iff (x:T9) (i:Nat) (y:T9) (k:Nat):prM x i y k=true↔((k≠i→x.From=y.From→x.Send=y.Send∧¬ (x.Peer=y.Peer∧x.Label=y.Label)∧x.Again=false)∧(x.Again=true→y.To=x.From→y.Send=true∧y.Label=x.Label)):=by
 unfold prM
 by_cases h1:k=i<;>by_cases h2:x.From=y.From<;>by_cases h4:x.Peer=y.Peer<;>by_cases h5:x.Label=y.Label<;>by_cases h6:y.To=x.From <;>
  cases x.Send<;>cases y.Send<;>cases x.Again<;>simp [h1,h2,h4,h5,h6]<;>(try omega)
theorem agM_iff (x:T9):agM m x=true↔(x.Again=true→x.Send=true∧x.From≠m.Start∧idx m.Finals x.From=some false):=by
 unfold agM
 cases x.Again<;>cases x.Send<;>by_cases h:x.From=m.Start<;>cases idx m.Finals x.From with
 | none=>simp [h]
 | some b=>cases b<;>simp [h]
theorem apM_iff:apM m=true↔∀ (i:Nat) x,m.Moves[i]? = some x→agM m x=true∧∀ (k:Nat) y,m.Moves[k]? = some y→prM x i y k=true:=by
 unfold apM
 rw [allV_iff]
 constructor
 ·intro h i x hx
  have:=h i x hx
  rw [Nat.zero_add,Bool.and_eq_true,allV_iff] at this
  exact ⟨this.1,fun k y hy=>by have:=this.2 k y hy;rwa [Nat.zero_add] at this⟩
 ·intro h i x hx
  obtain ⟨h1,h2⟩:=h i x hx
  rw [Nat.zero_add,Bool.and_eq_true,allV_iff]
  exact ⟨h1,fun k y hy=>by rw [Nat.zero_add];exact h2 k y hy⟩
theorem ltM_total {x y:T9} (h:adjM x y) (hn:¬ ltM y x):ltM x y:=by
 obtain ⟨h1,h2⟩:=h
 unfold ltM at *
 revert h1 hn
 rw [h2]
 cases y.Send<;>simp<;>omega
theorem row_facts (hN:4194304 < N) (hm:NumM m) (s:Nat) (hs:s < m.States.toNat):∃ l,(outM N m)[s]? = some l∧l.Nodup∧(∀ a,a∈l↔∃ (k:Nat) (x:T9),a=(k:Int)∧m.Moves[k]? = some x∧x.From=(s:Int)) ∧
  ∀ (i j:Nat) (a b:Nat) x y,i < j→l[i]? = some (a:Int)→l[j]? = some (b:Int)→m.Moves[a]? = some x→m.Moves[b]? = some y→¬ ltM y x:=by
 obtain ⟨p1,p2⟩:=outM_perm hN m hm s
 refine ⟨_,outM_get N m s hs,p1.nodup_iff.2 (ixM_nodup m _ s),fun a=>?_,fun i j a b x y hij ha hb hx hy=>?_⟩
 ·rw [p1.mem_iff]
  constructor
  ·intro h
   obtain ⟨k,x,h1,_,h2,h3⟩:=ixM_mem h
   exact ⟨k,x,h1,h2,h3⟩
  ·rintro ⟨k,x,rfl,h2,h3⟩
   exact ixM_of (List.getElem?_eq_some_iff.1 h2).1 h2 h3
 ·have:=p2 i j a b hij ha hb
  rw [cf_eq hN m hy hx] at this
  exact fun h=>this ((cmpM_lt y x).2 h)
def pairP (m:T8):Prop:=∀ (i k:Nat) x y,i≠k→m.Moves[i]? = some x→m.Moves[k]? = some y→x.From=y.From→x.Send=y.Send∧¬ (x.Peer=y.Peer∧x.Label=y.Label)
theorem det_pair (hN:4194304 < N) (hm:NumM m):(∀ (s:Nat) l,(outM N m)[s]? = some l→∀ j,1≤j→j < l.length→adjL m l j)↔pairP m:=by
 constructor
 ·intro hD i k x y hne hx hy hxy
  obtain ⟨⟨f0,f1⟩,_⟩:=hm.mv x (List.mem_of_getElem? hx)
  obtain ⟨s,hs⟩:=Int.eq_ofNat_of_zero_le f0
  obtain ⟨l,hl,hnd,hmem,hord⟩:=row_facts hN hm s (by omega)
  have hadj:=hD s l hl
  have hgo:∀ (d p:Nat) (a b:Nat) x y,l[p]? = some (a:Int)→l[p+d+1]? = some (b:Int)→m.Moves[a]? = some x→m.Moves[b]? = some y→x.Send=y.Send∧ltM x y:=by
   intro d
   induction d with
   | zero =>
    intro p a b x y ha hb hx hy
    have hlt:=(List.getElem?_eq_some_iff.1 hb).1
    have:=hadj (p+1) (by omega) (by omega) a b x y (by simpa using ha) (by simpa using hb) (by rw [idx_nat];exact hx) (by rw [idx_nat];exact hy)
    exact ⟨this.2,ltM_total this (hord p (p+1) a b x y (by omega) ha (by simpa using hb) hx hy)⟩
   | succ d ih =>
    intro p a b x y ha hb hx hy
    have hlt:=(List.getElem?_eq_some_iff.1 hb).1
    have hc:=List.getElem?_eq_getElem (show p+d+1 < l.length by omega)
    obtain ⟨c,z,hcz,hz,_⟩:=(hmem _).1 (List.getElem_mem (show p+d+1 < l.length by omega))
    rw [hcz] at hc
    obtain ⟨s1,o1⟩:=ih p a c x z ha hc hx hz
    have hb':l[p+d+1+1]? = some (b:Int):=by rw [show p+d+1+1=p+(d+1)+1 by omega];exact hb
    have:=hadj (p+d+1+1) (by omega) (by omega) c b z y (by simpa using hc) hb' (by rw [idx_nat];exact hz) (by rw [idx_nat];exact hy)
    have o2:=ltM_total this (hord (p+d+1) (p+d+1+1) c b z y (by omega) hc hb' hz hy)
    exact ⟨s1.trans this.2,ltM_tr o1 o2⟩
  obtain ⟨p,hp⟩:=List.getElem?_of_mem ((hmem (i:Int)).2 ⟨i,x,rfl,hx,hs⟩)
  obtain ⟨q,hq⟩:=List.getElem?_of_mem ((hmem (k:Int)).2 ⟨k,y,rfl,hy,by rw [← hxy];exact hs⟩)
  have fin:∀ {x y:T9},x.Send=y.Send→ltM x y→x.Send=y.Send∧¬ (x.Peer=y.Peer∧x.Label=y.Label):=fun {x y} h1 h2=>by
   refine ⟨h1,fun h3=>?_⟩
   unfold ltM at h2
   rw [h1,h3.1,h3.2] at h2
   revert h2
   cases y.Send<;>simp
  rcases Nat.lt_trichotomy p q with h | h | h
  ·obtain ⟨a1,a2⟩:=hgo (q-p-1) p i k x y hp (by rw [show p+(q-p-1)+1=q by omega];exact hq) hx hy
   exact fin a1 a2
  ·subst h
   rw [hp] at hq
   have:=Option.some.inj hq
   omega
  ·obtain ⟨a1,a2⟩:=hgo (p-q-1) q k i y x hq (by rw [show q+(p-q-1)+1=p by omega];exact hp) hy hx
   obtain ⟨b1,b2⟩:=fin a1 a2
   exact ⟨b1.symm,fun h=>b2 ⟨h.1.symm,h.2.symm⟩⟩
 ·intro hP s l hl j j1 j2 a b x y ha hb hx hy
  have hs:s < m.States.toNat:=by
   have:=(List.getElem?_eq_some_iff.1 hl).1
   rwa [outM_len] at this
  obtain ⟨l',hl',hnd,hmem,_⟩:=row_facts hN hm s hs
  rw [hl] at hl'
  cases hl'
  obtain ⟨i,x',rfl,hx',fx⟩:=(hmem a).1 (List.mem_of_getElem? ha)
  obtain ⟨k,y',rfl,hy',fy⟩:=(hmem b).1 (List.mem_of_getElem? hb)
  rw [idx_nat,hx'] at hx
  rw [idx_nat,hy'] at hy
  cases hx;cases hy
  have hne:i≠k:=fun e=>by
   subst e
   have h1:j-1 < l.length:=by omega
   have:=(List.getElem_inj hnd (h₀:=h1) (h₁:=j2)).1 (by
    have e1:=(List.getElem?_eq_some_iff.1 ha).2
    have e2:=(List.getElem?_eq_some_iff.1 hb).2
    rw [e1,e2])
   omega
  obtain ⟨h1,h2⟩:=hP i k x y hne hx' hy' (by rw [fx,fy])
  exact ⟨fun h=>h2 h.2,h1⟩
end Gp
end
section
namespace Gp
open Go Go.Kx Gx
variable {N:Nat} {m:T8}
theorem apart_iff (hN:4194304 < N) (hm:NumM m):(pairP m∧∀ k,k < m.Moves.length→againP m (outM N m) k)↔apM m=true:=by
 rw [apM_iff]
 have row:∀ (i:Nat) x,m.Moves[i]? = some x→∃ (s:Nat) (l:List Int),x.From=(s:Int)∧idx (outM N m) x.From=some l∧l.Nodup∧(∀ a,a∈l↔∃ (k:Nat) (y:T9),a=(k:Int)∧m.Moves[k]? = some y∧y.From=(s:Int)):=fun i x hx=>by
  obtain ⟨⟨f0,f1⟩,_⟩:=hm.mv x (List.mem_of_getElem? hx)
  obtain ⟨s,hs⟩:=Int.eq_ofNat_of_zero_le f0
  obtain ⟨l,hl,hnd,hmem,_⟩:=row_facts hN hm s (by omega)
  exact ⟨s,l,hs,by rw [hs,idx_nat];exact hl,hnd,hmem⟩
 constructor
 ·rintro ⟨hP,hA⟩ i x hx
  have hi:=(List.getElem?_eq_some_iff.1 hx).1
  refine ⟨agM_iff x |>.2 fun ha=>?_,fun k y hy=>(prM_iff x i y k).2 ⟨fun hne hxy=>?_,fun ha ht=>?_⟩⟩
  ·obtain ⟨a1,_,a3,a4,_⟩:=hA i hi x hx ha
   exact ⟨a1,a3,a4⟩
  ·obtain ⟨b1,b2⟩:=hP i k x y (Ne.symm hne) hx hy hxy
   refine ⟨b1,b2,?_⟩
   cases ha:x.Again with
   | false=>rfl
   | true =>
    obtain ⟨s,l,hs,hl,hnd,hmem⟩:=row i x hx
    have h1:=(hA i hi x hx ha).2.1 l hl
    have m1:=(hmem (i:Int)).2 ⟨i,x,rfl,hx,hs⟩
    have m2:=(hmem (k:Int)).2 ⟨k,y,rfl,hy,by rw [← hxy];exact hs⟩
    obtain ⟨c,rfl⟩:=List.length_eq_one_iff.1 h1
    rw [List.mem_singleton] at m1 m2
    have:(i:Int)=(k:Int):=m1.trans m2.symm
    omega
  ·exact (hA i hi x hx ha).2.2.2.2 k y hy ht
 ·intro h
  refine ⟨fun i k x y hne hx hy hxy=>?_,fun i hi x hx ha=>?_⟩
  ·obtain ⟨b1,b2,_⟩:=((prM_iff x i y k).1 ((h i x hx).2 k y hy)).1 (Ne.symm hne) hxy
   exact ⟨b1,b2⟩
  ·obtain ⟨g1,g2⟩:=h i x hx
   obtain ⟨a1,a3,a4⟩:=(agM_iff x).1 g1 ha
   refine ⟨a1,fun l' hl'=>?_,a3,a4,fun j y hy ht=>((prM_iff x i y j).1 (g2 j y hy)).2 ha ht⟩
   obtain ⟨s,l,hs,hl,hnd,hmem⟩:=row i x hx
   rw [hl] at hl'
   cases hl'
   have m1:=(hmem (i:Int)).2 ⟨i,x,rfl,hx,hs⟩
   have only:∀ a∈l',a=(i:Int):=fun a haa=>by
    obtain ⟨k,y,rfl,hy,hf⟩:=(hmem a).1 haa
    by_cases e:k=i
    ·rw [e]
    ·have:=(((prM_iff x i y k).1 (g2 k y hy)).1 e (by rw [hs,hf])).2.2
     rw [ha] at this;cases this
   match l',hnd,m1,only with
   | [a],_,_,_=>rfl
   | a::b::r,hnd,_,only =>
    have e1:=only a (List.mem_cons_self ..)
    have e2:=only b (List.mem_cons_of_mem _ (List.mem_cons_self ..))
    subst e1
    rw [e2] at hnd
    simp at hnd
theorem apart_both (hN:4194304 < N) (hm:NumM m):∃ b1 b2,z190 N ⟨m,outM N m⟩=some b1∧z192 N ⟨m,outM N m⟩=some b2∧(b1 && b2)=apM m:=by
 have h:=tabM_of hN m hm
 obtain ⟨b1,e1,h1⟩:=det_iff hN h
 obtain ⟨b2,e2,h2⟩:=again_iff hN h
 refine ⟨b1,b2,e1,e2,?_⟩
 rw [Bool.eq_iff_iff,Bool.and_eq_true,h1,h2]
 have:=det_pair hN hm
 rw [this]
 exact apart_iff hN hm
end Gp
end
section
namespace Gp
open Go Go.Kx Gx
variable {N:Nat} {t:T15} {m:T8}
inductive Rch (m:T8):Int→Prop
 | start:Rch m m.Start
 | step {k:Nat} {x:T9}:m.Moves[k]? = some x→Rch m x.From→Rch m x.To
structure InvB (m:T8) (S:Nat) (a:List Bool) (q:List Int) (h:Nat):Prop where
 r:InvR S a q
 nd:q.Nodup
 mark:∀ c:Nat,c < S→(a[c]? = some true↔(c:Int)∈q)
 rch:∀ i∈q,Rch m i
 st:m.Start∈q
 cl:∀ (i:Nat) v,i < h→q[i]? = some v→∀ (k:Nat) x,m.Moves[k]? = some x→x.From=v→x.To∈q
theorem InvB.add {S:Nat} {a:List Bool} {q:List Int} {h:Nat} (hi:InvB m S a q h) (hh:h≤q.length) {j:Nat} (hj:a[j]? = some false) (hr:Rch m (j:Int)):InvB m S (a.set j true) (q++[(j:Int)]) h:=by
 have hjl:=(List.getElem?_eq_some_iff.1 hj).1
 have hjS:j < S:=by rw [← hi.r.len];exact hjl
 have hnm:(j:Int) ∉ q:=fun hm=>by
  have:=(hi.mark j hjS).2 hm
  rw [hj] at this;cases this
 refine ⟨hi.r.add hj,?_,fun c hc=>?_,fun i hi'=>?_,List.mem_append_left _ hi.st,fun i v h1 h2 k x hx hf=>?_⟩
 ·rw [List.nodup_append]
  refine ⟨hi.nd,by simp,fun a ha b hb=>?_⟩
  rw [List.mem_singleton.1 hb]
  exact fun e=>hnm (e ▸ ha)
 ·rw [List.getElem?_set]
  by_cases e:j=c
  ·subst e
   simp [hjl]
  ·rw [if_neg e,hi.mark c hc,List.mem_append,List.mem_singleton]
   constructor
   ·exact .inl
   ·rintro (h | h)
    ·exact h
    ·omega
 ·rcases List.mem_append.1 hi' with h | h
  ·exact hi.rch i h
  ·rw [List.mem_singleton.1 h];exact hr
 ·rw [List.getElem?_append_left (by omega)] at h2
  exact List.mem_append_left _ (hi.cl i v h1 h2 k x hx hf)
theorem InvB.all {S:Nat} {a:List Bool} {q:List Int} (hi:InvB m S a q q.length):∀ i,Rch m i→i∈q:=by
 intro i h
 induction h with
 | start=>exact hi.st
 | step hx _ ih =>
  obtain ⟨p,hp⟩:=List.getElem?_of_mem ih
  exact hi.cl p _ (List.getElem?_eq_some_iff.1 hp).1 hp _ _ hx rfl
end Gp
end
section
namespace Gp
open Go Go.Kx Gx
variable {N:Nat} {t:T15} {m:T8}
theorem rb_in (hN:4194304 < N) (h:TabM t m) (S:Nat) (hS:m.States=(S:Int)) (Q:Bool→Prop) (k:Nat) (ag:List Bool→List Int→Int→Option Bool) (s:Nat) (hag:∀ a q,InvB m S a q (k+1)→k < q.length→∃ b,ag a q (w64 ((k:Int)+1))=some b∧Q b)
  (l:List Int) (hl:t.out'[s]? = some l) (hcomp:∀ (p:Nat) x,m.Moves[p]? = some x→x.From=(s:Int)→(p:Int)∈l):∀ (d n j:Nat) (a:List Bool) (q:List Int),InvB m S a q k→q[k]? = some (s:Int)→(∀ i,i < j→∀ (p:Nat) x,l[i]? = some (p:Int)→m.Moves[p]? = some x→x.To∈q)→l.length-j=d→d < n →
   ∃ b,z191_l4 t (k:Int) ag l n a q (j:Int)=some b∧Q b:=by
 intro d
 obtain ⟨l1,l2⟩:=h.out s l hl
 have hs1:=h.num.s1
 induction d with
 | zero =>
  intro n j a q hi hq hd0 hd hn
  obtain ⟨n,rfl⟩:∃ q,n=q+1:=⟨n-1,by omega⟩
  rw [z191_l4,lt_f (by omega)]
  refine hag a q ⟨hi.r,hi.nd,hi.mark,hi.rch,hi.st,fun i v h1 h2 p x hx hf=>?_⟩ (List.getElem?_eq_some_iff.1 hq).1
  by_cases e:i=k
  ·subst e
   rw [hq] at h2
   cases h2
   obtain ⟨i',hi'⟩:=List.getElem?_of_mem (hcomp p x hx hf)
   have:=(List.getElem?_eq_some_iff.1 hi').1
   exact hd0 i' (by omega) p x hi' hx
  ·exact hi.cl i v (by omega) h2 p x hx hf
 | succ d ih =>
  intro n j a q hi hq hd0 hd hn
  obtain ⟨n,rfl⟩:∃ q,n=q+1:=⟨n-1,by omega⟩
  have hj:j < l.length:=by omega
  have hlj:=List.getElem?_eq_getElem hj
  obtain ⟨p,x,e1,e2,e3⟩:=l2 l[j] (List.getElem_mem hj)
  obtain ⟨_,⟨t0,t1⟩,_⟩:=h.num.mv x (List.mem_of_getElem? e2)
  obtain ⟨c,hc⟩:=Int.eq_ofNat_of_zero_le t0
  have hcS:c < S:=by omega
  have hcl:c < a.length:=by rw [hi.r.len];omega
  have hkq:=(List.getElem?_eq_some_iff.1 hq).1
  rw [z191_l4,lt_t hj,idx_nat,hlj,w64_succ (by omega)]
  simp only [cT,bS]
  rw [e1,idx_nat,h.mm,e2]
  simp only [bS]
  rw [hc,idx_nat,List.getElem?_eq_getElem hcl]
  simp only [bS]
  have next:∀ q':List Int,(∀ v∈q,v∈q')→(c:Int)∈q'→∀ i,i < j+1→∀ (p:Nat) x,l[i]? = some (p:Int)→m.Moves[p]? = some x→x.To∈q':=fun q' hsub hcm i hi' p' x' hp' hx'=>by
   by_cases e:i=j
   ·subst e
    rw [hlj,e1] at hp'
    have:(p:Int)=(p':Int):=Option.some.inj hp'
    have:p=p':=by omega
    subst this
    rw [e2] at hx'
    cases hx'
    rw [hc];exact hcm
   ·exact hsub _ (hd0 i (by omega) p' x' hp' hx')
  cases hb:a[c] with
  | true =>
   have hcm:(c:Int)∈q:=(hi.mark c hcS).1 (by rw [List.getElem?_eq_getElem hcl,hb])
   exact ih n (j+1) a q hi hq (next q (fun _ h=>h) hcm) (by omega) (by omega)
  | false =>
   have hcc:=hi.r.c
   simp only [Bool.not_false,cT]
   rw [appL_some (by simp;omega),setL'_nat]
   simp only [bS]
   have hr:Rch m (c:Int):=by
    rw [← hc]
    exact .step e2 (by rw [e3];exact hi.rch _ (List.mem_of_getElem? hq))
   exact ih n (j+1) _ _ (hi.add (Nat.le_of_lt hkq) (by rw [List.getElem?_eq_getElem hcl,hb]) hr) (by rw [List.getElem?_append_left hkq];exact hq)
    (next _ (fun _ h=>List.mem_append_left _ h) (List.mem_append_right _ (List.mem_singleton.2 rfl))) (by omega) (by omega)
end Gp
end
section
namespace Gp
open Go Go.Kx Gx
variable {N:Nat} {t:T15} {m:T8}
theorem len_le_of:∀ (l q:List Int),l.Nodup→(∀ a∈l,a∈q)→l.length≤q.length
 | [],_,_,_=>Nat.zero_le _
 | a::l,q,hn,hs=>by
  have h1:=List.nodup_cons.1 hn
  have ha:=hs a (List.mem_cons_self ..)
  have:=len_le_of l (q.erase a) h1.2 fun b hb=>by
   have hne:b≠a:=fun e=>h1.1 (e ▸ hb)
   exact (List.mem_erase_of_ne hne).2 (hs b (List.mem_cons_of_mem _ hb))
  rw [List.length_erase_of_mem ha] at this
  have:0 < q.length:=List.length_pos_of_mem ha
  simp;omega
theorem rb_end {S:Nat} {a:List Bool} {q:List Int} (hi:InvB m S a q q.length) (hS:m.States=(S:Int)):(((q.length:Int)==m.States)=true↔∀ c:Nat,c < S→Rch m (c:Int)):=by
  rw [beq_iff_eq,hS]
  constructor
  · intro h c hc
    have h0:=hi.r.c
    have hz:a.count false=0:=by omega
    have hcl:c < a.length:=by rw [hi.r.len];exact hc
    have:a[c]? = some true:=by
      rw [List.getElem?_eq_getElem hcl]
      cases hb:a[c] with
      | true=>rfl
      | false =>
        have:=List.count_eq_zero.1 hz
        exact absurd (hb ▸ List.getElem_mem hcl) this
    exact hi.rch _ ((hi.mark c hc).1 this)
  · intro h
    have h1:=len_le_of ((List.range S).map fun k:Nat=>(k:Int)) q (List.Pairwise.map (S:=(·≠·)) (fun k:Nat=>(k:Int)) (fun (a b:Nat) (h:a≠b)=>show (a:Int)≠(b:Int) by omega) List.nodup_range) (fun b hb=>by
      obtain ⟨c,hc,rfl⟩:=List.mem_map.1 hb
      exact hi.all _ (h c (List.mem_range.1 hc)))
    have h2:=hi.r.c
    simp at h1
    omega
theorem rb_out (hN:4194304 < N) (hm:NumM m) (S:Nat) (hS:m.States=(S:Int)):∀ (d n k:Nat) (a:List Bool) (q:List Int),InvB m S a q k→k≤q.length→S-k=d→d < n →
  ∃ b,z191_l2 N ⟨m,outM N m⟩ n a q (k:Int)=some b∧(b=true↔∀ c:Nat,c < S→Rch m (c:Int)):=by
 intro d
 have h:=tabM_of hN m hm
 have hs1:=hm.s1
 have step:∀ (n k:Nat) (a:List Bool) (q:List Int),InvB m S a q k→k≤q.length→(k < q.length→∀ a q,InvB m S a q (k+1)→k < q.length→∃ b,z191_l2 N ⟨m,outM N m⟩ n a q (w64 ((k:Int)+1))=some b∧(b=true↔∀ c:Nat,c < S→Rch m (c:Int))) →
   ∃ b,z191_l2 N ⟨m,outM N m⟩ (n+1) a q (k:Int)=some b∧(b=true↔∀ c:Nat,c < S→Rch m (c:Int)):=fun n k a q hi hkq hnx=>by
  rw [z191_l2]
  by_cases hk:k < q.length
  ·have hqk:=List.getElem?_eq_getElem hk
   rw [lt_t hk,idx_nat,hqk]
   simp only [cT,bS]
   obtain ⟨q0,q1⟩:=hi.r.qq _ (List.getElem_mem hk)
   obtain ⟨c,hc⟩:=Int.eq_ofNat_of_zero_le q0
   obtain ⟨l,hl,_,hmem,_⟩:=row_facts hN hm c (by omega)
   rw [hc,idx_nat,hl]
   simp only [bS]
   have hle:=(h.out c l hl).1
   exact rb_in hN h S hS _ k _ c (hnx hk) l hl (fun p x hx hf=>(hmem _).2 ⟨p,x,rfl,hx,hf⟩) _ N 0 a q hi (by rw [hqk,hc]) (fun i hi=>by omega) rfl (by omega)
  ·rw [lt_f (Nat.not_lt.1 hk)]
   have e:k=q.length:=by omega
   subst e
   exact ⟨_,rfl,rb_end hi hS⟩
 induction d with
 | zero =>
  intro n k a q hi hkq hd hn
  obtain ⟨n,rfl⟩:∃ q,n=q+1:=⟨n-1,by omega⟩
  exact step n k a q hi hkq fun hk=>by have:=hi.r.c;omega
 | succ d ih =>
  intro n k a q hi hkq hd hn
  obtain ⟨n,rfl⟩:∃ q,n=q+1:=⟨n-1,by omega⟩
  refine step n k a q hi hkq fun hk a q hi hk'=>?_
  rw [w64_succ (by omega)]
  exact ih n (k+1) a q hi hk' (by omega) (by omega)
theorem reached_iff (hN:4194304 < N) (hm:NumM m):∃ b,z191 N ⟨m,outM N m⟩=some b∧(b=true↔∀ c:Int,0≤c→c < m.States→Rch m c):=by
 have h0:=hm.s0
 have h1:=hm.s1
 have b0:=hm.b0
 have b1:=hm.b1
 obtain ⟨S,hS⟩:=Int.eq_ofNat_of_zero_le (show 0≤m.States by omega)
 obtain ⟨c,hc⟩:=Int.eq_ofNat_of_zero_le b0
 unfold z191
 have e:mkL false m.States m.States=some (List.replicate S false):=by
  unfold mkL
  rw [dT (by omega:0≤m.States),dT (by omega:m.States≤m.States),dT (by omega:m.States≤4294967296),hS];rfl
 have hcl:c < S:=by omega
 have hg:(List.replicate S false)[c]? = some false:=by rw [List.getElem?_replicate,if_pos hcl]
 show ∃ b,((mkL false m.States m.States).bind fun x1=>(idx x1 m.Start).bind fun x2=>z191_l2 N ⟨m,outM N m⟩ N (setL' x1 m.Start true) [m.Start] 0)=some b∧_
 rw [e]
 simp only [bS]
 rw [hc,idx_nat,hg,setL'_nat]
 simp only [bS]
 have h2:=List.count_set (a:=true) (b:=false) (l:=List.replicate S false) (i:=c) (by simpa using hcl)
 have hI:InvB m S ((List.replicate S false).set c true) [(c:Int)] 0:=by
  refine ⟨⟨by simp,fun i hi=>by rw [List.mem_singleton.1 hi];omega,?_⟩,by simp,fun k hk=>?_,fun i hi=>by rw [List.mem_singleton.1 hi,← hc];exact .start,by rw [hc];exact List.mem_singleton.2 rfl,fun i v h=>by omega⟩
  ·simp at h2
   simp
   omega
  ·rw [List.getElem?_set,List.mem_singleton]
   by_cases e:c=k
   ·subst e;simp [hcl]
   ·rw [if_neg e,List.getElem?_replicate,if_pos hk]
    constructor
    ·intro h;cases h
    ·intro h;omega
 obtain ⟨b,eb,hb⟩:=rb_out hN hm S hS S N 0 _ _ hI (Nat.zero_le _) rfl (by omega)
 refine ⟨b,eb,hb.trans ⟨fun h k k0 k1=>?_,fun h k hk=>h k (by omega) (by omega)⟩⟩
 obtain ⟨j,rfl⟩:=Int.eq_ofNat_of_zero_le k0
 exact h j (by omega)
end Gp
end
section
namespace Gp
open Go Go.Kx Gx
variable {N:Nat}
theorem has_iff (hN:4194304 < N) (l:List Int) (hl:l.length≤4194304) (v:Int):∃ b,ref03_Has N l v=some b∧(b=true↔v∈l):=by
  have key:=all_from (F:=fun n k=>(ref03_Has_l2 l v n k).map (!·)) (len:=l.length) (lo:=0) (e:=some true) (fun k=>l[k]? ≠ some v) (fun n k _ hk=>?_) (fun n k hk=>?_) _ N 0 (Nat.le_refl _) rfl (by omega)
  · unfold ref03_Has
    rcases key with ⟨e,j,_,j2,j3⟩ | ⟨e,hh⟩
    · obtain ⟨b,eb,hb⟩:=Option.map_eq_some_iff.1 e
      refine ⟨b,eb,?_⟩
      have:b=true:=by cases b<;>simp at hb ⊢
      rw [this]
      simp only [true_iff]
      exact List.mem_of_getElem? (Classical.not_not.1 j3)
    · obtain ⟨b,eb,hb⟩:=Option.map_eq_some_iff.1 e
      refine ⟨b,eb,?_⟩
      have:b=false:=by cases b<;>simp at hb ⊢
      rw [this]
      simp only [Bool.false_eq_true,false_iff]
      intro hm
      obtain ⟨i,hi⟩:=List.getElem?_of_mem hm
      exact hh i (Nat.zero_le _) (List.getElem?_eq_some_iff.1 hi).1 hi
  · have hx:=List.getElem?_eq_getElem hk
    show ((ref03_Has_l2 l v (n+1) (k:Int)).map (!·)=_∧_)∨((ref03_Has_l2 l v (n+1) (k:Int)).map (!·)=(ref03_Has_l2 l v n ((k+1:Nat):Int)).map (!·)∧_)
    rw [ref03_Has_l2,lt_t hk,idx_nat,hx,w64_succ (by omega)]
    simp only [cT,bS]
    by_cases h:l[k]=v
    · have e:(l[k]==v)=true:=by simp [h]
      rw [e]
      exact .inl ⟨rfl,fun hc=>hc (by rw [h])⟩
    · have e:(l[k]==v)=false:=by simp [h]
      rw [e]
      exact .inr ⟨rfl,fun hc=>h (Option.some.inj hc)⟩
  · show (ref03_Has_l2 l v (n+1) (k:Int)).map (!·)=_
    rw [ref03_Has_l2,lt_f hk];rfl
end Gp
end
section
namespace Gp
open Go Go.Kx Gx
variable {N:Nat}
def withV (v:Int):Bool→List Int→List Int
 | true,l=>l
 | false,[]=>[v]
 | false,x::r=>bif decide (x≥v) then (bif decide (x > v) then v::x::r else x::r) else x::withV v false r
theorem withV_true (v:Int) (l:List Int):withV v true l=l:=by cases l<;>rfl
theorem with_loop (l:List Int) (hl:l.length≤4194304) (v:Int):∀ (r:List Int) (n k:Nat) (acc:List Int) (p:Bool),l.drop k=r→r.length < n→acc.length+r.length+(bif p then 0 else 1)≤4194306 →
    ref03_With_l2 l v n acc p (k:Int)=some (acc++withV v p r):=by
  intro r
  induction r with
  | nil =>
    intro n k acc p hr hn hb
    obtain ⟨n,rfl⟩:∃ q,n=q+1:=⟨n-1,by simp at hn;omega⟩
    rw [ref03_With_l2,lt_f (List.drop_eq_nil_iff.1 hr)]
    unfold ref03_With_k1
    cases p with
    | true=>simp [withV]
    | false =>
      simp only [cond_false,Bool.not_false,cT]
      rw [appL_some (xs:=acc) (ys:=[v]) (by simp at hb ⊢;omega)]
      rfl
  | cons x r ih =>
    intro n k acc p hr hn hb
    obtain ⟨n,rfl⟩:∃ q,n=q+1:=⟨n-1,by simp at hn;omega⟩
    have hk:k < l.length:=by
      refine Nat.not_le.1 fun h=>?_
      rw [List.drop_eq_nil_iff.2 h] at hr;cases hr
    have hx:l[k]? = some x:=by
      have:=congrArg (·[0]?) hr
      simpa using this
    have hr':l.drop (k+1)=r:=by have:=congrArg (List.drop 1) hr;simpa [List.drop_drop,Nat.add_comm] using this
    simp only [List.length_cons] at hn hb
    have hb0:acc.length+r.length≤4194306:=by omega
    rw [ref03_With_l2,lt_t hk,idx_nat,hx,w64_succ (by omega)]
    simp only [cT,bS]
    cases p with
    | true =>
      rw [appL_some (xs:=acc) (ys:=[x]) (by simp;omega)]
      simp only [Bool.not_true,cond_false,bS]
      rw [ih n (k+1) (acc++[x]) true hr' (by omega) (by simp at hb ⊢;omega),withV_true,withV_true]
      simp
    | false =>
      simp only [Bool.not_false,cT]
      cases h1:decide (x≥v) with
      | false =>
        rw [appL_some (xs:=acc) (ys:=[x]) (by simp;omega)]
        simp only [cond_false,bS]
        rw [ih n (k+1) (acc++[x]) false hr' (by omega) (by simp at hb ⊢;omega)]
        show _=some (acc++(bif decide (x≥v) then _ else x::withV v false r))
        rw [h1];simp
      | true =>
        cases h2:decide (x > v) with
        | true =>
          simp only [cT]
          rw [appL_some (xs:=acc) (ys:=[v]) (by simp;omega)]
          simp only [bS]
          rw [appL_some (xs:=acc++[v]) (ys:=[x]) (by simp;omega)]
          simp only [bS]
          rw [ih n (k+1) (acc++[v]++[x]) true hr' (by omega) (by simp at hb ⊢;omega),withV_true]
          show _=some (acc++(bif decide (x≥v) then (bif decide (x > v) then v::x::r else x::r) else _))
          rw [h1,h2];simp
        | false =>
          simp only [cT,cond_false]
          rw [appL_some (xs:=acc) (ys:=[x]) (by simp;omega)]
          simp only [bS]
          rw [ih n (k+1) (acc++[x]) true hr' (by omega) (by simp at hb ⊢;omega),withV_true]
          show _=some (acc++(bif decide (x≥v) then (bif decide (x > v) then v::x::r else x::r) else _))
          rw [h1,h2];simp
theorem with_eq (hN:4194304 < N) (l:List Int) (hl:l.length≤4194000) (v:Int):ref03_With N l v=some (withV v false l):=by
 have:=with_loop l (by omega) v l N 0 [] false rfl (by omega) (by simp;omega)
 unfold ref03_With
 rw [show ((0:Nat):Int)=0 from rfl] at this
 rw [this];rfl
theorem mem_with (v a:Int):∀ l:List Int,a∈withV v false l↔a=v∨a∈l
 | []=>by simp [withV]
 | x::r=>by
  show a∈(bif decide (x≥v) then (bif decide (x > v) then v::x::r else x::r) else x::withV v false r)↔_
  by_cases h1:x≥v
  ·rw [dT h1]
   by_cases h2:x > v
   ·rw [dT h2];simp
   ·rw [dF h2]
    have:x=v:=by omega
    subst this;simp
  ·rw [dF h1]
   show a∈x::withV v false r↔_
   rw [List.mem_cons,mem_with v a r,List.mem_cons]
   constructor
   ·rintro (h | h | h)
    ·exact .inr (.inl h)
    ·exact .inl h
    ·exact .inr (.inr h)
   ·rintro (h | h | h)
    ·exact .inr (.inl h)
    ·exact .inl h
    ·exact .inr (.inr h)
theorem sorted_with (v:Int):∀ l:List Int,l.Pairwise (· < ·)→(withV v false l).Pairwise (· < ·)
  | [],_=>by simp [withV]
  | x::r,h=>by
    obtain ⟨h1,h2⟩:=List.pairwise_cons.1 h
    show ((bif decide (x≥v) then (bif decide (x > v) then v::x::r else x::r) else x::withV v false r)).Pairwise (· < ·)
    by_cases c1:x≥v
    · rw [dT c1]
      by_cases c2:x > v
      · rw [dT c2]
        refine List.pairwise_cons.2 ⟨fun a ha=>?_,h⟩
        rcases List.mem_cons.1 ha with e | e
        · omega
        · have:=h1 a e;omega
      · rw [dF c2];exact h
    · rw [dF c1]
      refine List.pairwise_cons.2 ⟨fun a ha=>?_,sorted_with v r h2⟩
      rcases (mem_with v a r).1 ha with e | e
      · omega
      · exact h1 a e
end Gp
end
section
namespace Gp
open Go Go.Kx Gx
variable {N:Nat} {m:T8}
theorem Rch.lim (hm:NumM m) {i:Int} (h:Rch m i):0≤i∧i < m.States:=by
 cases h with
 | start=>exact ⟨hm.b0,hm.b1⟩
 | step hx _=>exact (hm.mv _ (List.mem_of_getElem? hx)).2.1
theorem nodup_of_up {l:List Int} (h:l.Pairwise (· < ·)):l.Nodup:=List.Pairwise.imp (fun {a b} (h:a < b)=>show a≠b by omega) h
def addR (q:List Int) (x:T9):List Int:=if x.From∈q then withV x.To false q else q
def rndR (l:List T9) (q:List Int):List Int:=l.foldl addR q
structure UpR (m:T8) (q:List Int):Prop where
  up:q.Pairwise (· < ·)
  rch:∀ i∈q,Rch m i
  st:m.Start∈q
theorem UpR.len (hm:NumM m) {S:Nat} (hS:m.States=(S:Int)) {q:List Int} (h:UpR m q):q.length≤S:=by
 have:=len_le_of q ((List.range S).map fun k:Nat=>(k:Int)) (nodup_of_up h.up) (fun a ha=>by
  obtain ⟨a0,a1⟩:=(h.rch a ha).lim hm
  obtain ⟨c,rfl⟩:=Int.eq_ofNat_of_zero_le a0
  exact List.mem_map.2 ⟨c,List.mem_range.2 (by omega),rfl⟩)
 simpa using this
theorem UpR.add {q:List Int} (h:UpR m q) {x:T9} (hx:x∈m.Moves):UpR m (addR q x):=by
 unfold addR
 by_cases hf:x.From∈q
 ·rw [if_pos hf]
  refine ⟨sorted_with _ _ h.up,fun i hi=>?_,(mem_with _ _ _).2 (.inr h.st)⟩
  rcases (mem_with _ _ _).1 hi with e | e
  ·obtain ⟨k,hk⟩:=List.getElem?_of_mem hx
   rw [e];exact .step hk (h.rch _ hf)
  ·exact h.rch i e
 ·rw [if_neg hf];exact h
theorem add_sub {q:List Int} {x:T9} {a:Int} (h:a∈q):a∈addR q x:=by
 unfold addR
 split
 ·exact (mem_with _ _ _).2 (.inr h)
 ·exact h
theorem rnd_sub:∀ (l:List T9) {q:List Int} {a:Int},a∈q→a∈rndR l q
 | [],_,_,h=>h
 | x::l,_,_,h=>rnd_sub l (add_sub h)
theorem UpR.rnd:∀ (l:List T9),(∀ x∈l,x∈m.Moves)→∀ {q:List Int},UpR m q→UpR m (rndR l q)
 | [],_,_,h=>h
 | x::l,hl,_,h=>UpR.rnd l (fun y hy=>hl y (List.mem_cons_of_mem _ hy)) (h.add (hl x (List.mem_cons_self ..)))
theorem rnd_has:∀ (l:List T9) {q:List Int} {x:T9},x∈l→x.From∈q→x.To∈rndR l q
 | y::l,q,x,hx,hf=>by
  rcases List.mem_cons.1 hx with e | e
  ·subst e
   refine rnd_sub l ?_
   unfold addR
   rw [if_pos hf]
   exact (mem_with _ _ _).2 (.inl rfl)
  ·exact rnd_has l e (add_sub hf)
def ClR (m:T8) (q:List Int):Prop:=∀ x∈m.Moves,x.From∈q→x.To∈q
theorem rnd_cl (hm:NumM m) {q:List Int} (h:UpR m q):ClR m q∨q.length+1≤(rndR m.Moves q).length:=by
 by_cases hl:(rndR m.Moves q).length≤q.length
 ·refine .inl fun x hx hf=>?_
  have h1:=rnd_has m.Moves hx hf
  refine Classical.byContradiction fun hn=>?_
  have:=len_le_of (x.To::q) (rndR m.Moves q) (List.nodup_cons.2 ⟨hn,nodup_of_up h.up⟩) (fun a ha=>by
   rcases List.mem_cons.1 ha with e | e
   ·rw [e];exact h1
   ·exact rnd_sub _ e)
  simp at this;omega
 ·exact .inr (by omega)
theorem add_cl {q:List Int} (hc:ClR m q) {x:T9} (hx:x∈m.Moves):∀ a,a∈addR q x→a∈q:=fun a ha=>by
 unfold addR at ha
 by_cases hf:x.From∈q
 ·rw [if_pos hf] at ha
  rcases (mem_with _ _ _).1 ha with e | e
  ·rw [e];exact hc x hx hf
  ·exact e
 ·rw [if_neg hf] at ha;exact ha
theorem ClR.same {q r:List Int} (hc:ClR m q) (h1:∀ a,a∈q→a∈r) (h2:∀ a,a∈r→a∈q):ClR m r:=fun x hx hf=>h1 _ (hc x hx (h2 _ hf))
theorem ClR.rnd:∀ (l:List T9),(∀ x∈l,x∈m.Moves)→∀ {q:List Int},ClR m q→ClR m (rndR l q)
 | [],_,_,h=>h
 | x::l,hl,q,h=>ClR.rnd l (fun y hy=>hl y (List.mem_cons_of_mem _ hy)) (h.same (fun _ ha=>add_sub ha) (add_cl h (hl x (List.mem_cons_self ..))))
def rndsR (m:T8):Nat→List Int→List Int
 | 0,q=>q
 | n+1,q=>rndsR m n (rndR m.Moves q)
theorem rnds_cl (hm:NumM m):∀ (n:Nat) (q:List Int),UpR m q→UpR m (rndsR m n q)∧(ClR m (rndsR m n q)∨q.length+n≤(rndsR m n q).length)∧(ClR m q→ClR m (rndsR m n q))
 | 0,q,h=>⟨h,.inr (Nat.le_refl _),id⟩
 | n+1,q,h=>by
  have hr:=UpR.rnd m.Moves (fun _ h=>h) h
  obtain ⟨a,b,c⟩:=rnds_cl hm n (rndR m.Moves q) hr
  refine ⟨a,?_,fun hc=>c (hc.rnd m.Moves (fun _ h=>h))⟩
  rcases rnd_cl hm h with e | e
  ·exact .inl (c (e.rnd m.Moves (fun _ h=>h)))
  ·rcases b with b | b
   ·exact .inl b
   ·refine .inr ?_
    show q.length+(n+1)≤(rndsR m n (rndR m.Moves q)).length
    omega
theorem rnds_all (hm:NumM m) {S:Nat} (hS:m.States=(S:Int)):(((rndsR m S [m.Start]).length:Int)==m.States)=true↔∀ c:Int,0≤c→c < m.States→Rch m c:=by
  have h0:UpR m [m.Start]:=⟨by simp,fun i hi=>by rw [List.mem_singleton.1 hi];exact .start,by simp⟩
  obtain ⟨a,b,_⟩:=rnds_cl hm S [m.Start] h0
  have hl:=a.len hm hS
  have hc:ClR m (rndsR m S [m.Start]):=by
    rcases b with b | b
    · exact b
    · simp at b;omega
  have all:∀ i,Rch m i→i∈rndsR m S [m.Start]:=fun i h=>by
    induction h with
    | start=>exact a.st
    | step hx _ ih=>exact hc _ (List.mem_of_getElem? hx) ih
  rw [beq_iff_eq,hS]
  constructor
  · intro h c c0 c1
    refine Classical.byContradiction fun hn=>?_
    have hnm:c ∉ rndsR m S [m.Start]:=fun hm'=>hn (a.rch c hm')
    have:=len_le_of (c::rndsR m S [m.Start]) ((List.range S).map fun k:Nat=>(k:Int)) (List.nodup_cons.2 ⟨hnm,nodup_of_up a.up⟩) (fun b hb=>by
      have:0≤b∧b < (S:Int):=by
        rcases List.mem_cons.1 hb with e | e
        · omega
        · have:=(a.rch b e).lim hm;omega
      obtain ⟨k,rfl⟩:=Int.eq_ofNat_of_zero_le this.1
      exact List.mem_map.2 ⟨k,List.mem_range.2 (by omega),rfl⟩)
    simp at this;omega
  · intro h
    have h1:=len_le_of ((List.range S).map fun k:Nat=>(k:Int)) (rndsR m S [m.Start]) (List.Pairwise.map (S:=(·≠·)) (fun k:Nat=>(k:Int)) (fun (a b:Nat) (h:a≠b)=>show (a:Int)≠(b:Int) by omega) List.nodup_range) (fun b hb=>by
      obtain ⟨c,hc',rfl⟩:=List.mem_map.1 hb
      exact all _ (h c (by omega) (by have:=List.mem_range.1 hc';omega)))
    simp at h1
    omega
theorem rr_in (hN:4194304 < N) (hm:NumM m) {S:Nat} (hS:m.States=(S:Int)) (i:Int) (ag:List Int→Int→Option (List Int)):∀ (r:List T9) (n k:Nat) (q:List Int),m.Moves.drop k=r→r.length < n→UpR m q →
  ref26_Reached_l4 N m i ag n q (k:Int)=ag (rndR r q) (w64 (i+1)):=by
 intro r
 induction r with
 | nil =>
  intro n k q hr hn hq
  obtain ⟨n,rfl⟩:∃ p,n=p+1:=⟨n-1,by simp at hn;omega⟩
  rw [ref26_Reached_l4,lt_f (List.drop_eq_nil_iff.1 hr)];rfl
 | cons x r ih =>
  intro n k q hr hn hq
  obtain ⟨n,rfl⟩:∃ p,n=p+1:=⟨n-1,by simp at hn;omega⟩
  obtain ⟨hk,hx,hr'⟩:=drop_cons hr
  have hnm:=hm.n
  have hs1:=hm.s1
  have hl:=hq.len hm hS
  obtain ⟨b,eb,hb⟩:=has_iff hN q (by omega) x.From
  have hxm:=List.mem_of_getElem? hx
  rw [ref26_Reached_l4,lt_t hk,idx_nat,hx,w64_succ (by omega)]
  simp only [cT,bS]
  rw [eb]
  simp only [List.length_cons] at hn
  show _=ag (rndR r (addR q x)) _
  cases b with
  | true =>
   have e:addR q x=withV x.To false q:=by unfold addR;rw [if_pos (hb.1 rfl)]
   simp only [bS,cT]
   rw [with_eq hN q (by omega) x.To,e]
   exact ih n (k+1) (withV x.To false q) hr' (by omega) (e ▸ hq.add hxm)
  | false =>
   have e:addR q x=q:=by unfold addR;rw [if_neg (fun h=>by have:=hb.2 h;cases this)]
   rw [e]
   exact ih n (k+1) q hr' (by omega) hq
theorem rr_out (hN:4194304 < N) (hm:NumM m) {S:Nat} (hS:m.States=(S:Int)):∀ (d n j:Nat) (q:List Int),S-j=d→d < n→UpR m q→ref26_Reached_l2 N m n q (j:Int)=some (rndsR m (S-j) q):=by
 intro d
 have hs1:=hm.s1
 have hnm:=hm.n
 induction d with
 | zero =>
  intro n j q hd hn hq
  obtain ⟨n,rfl⟩:∃ p,n=p+1:=⟨n-1,by omega⟩
  have e:decide ((j:Int) < m.States)=false:=by simp;omega
  rw [ref26_Reached_l2,e,hd];rfl
 | succ d ih =>
  intro n j q hd hn hq
  obtain ⟨n,rfl⟩:∃ p,n=p+1:=⟨n-1,by omega⟩
  have e:decide ((j:Int) < m.States)=true:=by simp;omega
  rw [ref26_Reached_l2,e,cT,hd]
  have:=rr_in hN hm hS (j:Int) (ref26_Reached_l2 N m n) m.Moves N 0 q rfl (by omega) hq
  rw [show ((0:Nat):Int)=0 from rfl] at this
  rw [this,w64_succ (by omega),ih n (j+1) (rndR m.Moves q) (by omega) (by omega) (UpR.rnd m.Moves (fun _ h=>h) hq)]
  rw [show S-(j+1)=d by omega];rfl
theorem refReached_eq (hN:4194304 < N) (hm:NumM m):∃ q,ref26_Reached N m=some q∧(((q.length:Int)==m.States)=true↔∀ c:Int,0≤c→c < m.States→Rch m c):=by
 have h0:=hm.s0
 have h1:=hm.s1
 obtain ⟨S,hS⟩:=Int.eq_ofNat_of_zero_le (show 0≤m.States by omega)
 have hu:UpR m [m.Start]:=⟨by simp,fun i hi=>by rw [List.mem_singleton.1 hi];exact .start,by simp⟩
 have:=rr_out hN hm hS S N 0 [m.Start] rfl (by omega) hu
 exact ⟨_,this,rnds_all hm hS⟩
end Gp
end
section
namespace Gp
open Go Go.Kx Gx
variable {N:Nat} {m:T8}
structure ValidM (m:T8):Prop where
 n:NumM m
 ap:apM m=true
 tm:allV (timeM m) m.Timeouts 0=true
 rc:∀ c:Int,0≤c→c < m.States→Rch m c
theorem mValid_both (hN:4194304 < N) (m:T8) (ht:m.Timeouts.length≤4194304):∃ b,z134 N m=some b∧ref26_Valid N m=some b∧(b=true→ValidM m):=by
 unfold z134 z107 ref26_Valid
 rw [mnum_eq hN,refNum_eq hN]
 simp only [bS]
 cases hm:numM m with
 | false=>exact ⟨false,rfl,rfl,fun h=>by cases h⟩
 | true =>
  have hm:=(numM_iff m).1 hm
  rw [msorted_eq hN m hm]
  obtain ⟨b1,b2,e1,e2,e3⟩:=apart_both hN hm
  obtain ⟨b3,e4,h4⟩:=reached_iff hN hm
  obtain ⟨q,e5,h5⟩:=refReached_eq hN hm
  have e6:=timed_eq26 (t:=⟨m,outM N m⟩) hN rfl ht
  rw [refApart_eq hN hm,refTimed26_eq hN m ht,e5]
  have hq:((q.length:Int)==m.States)=b3:=by
   rw [Bool.eq_iff_iff];exact h5.trans h4.symm
  simp only [Bool.not_true,cond_false,bS,e1,e2,e4,e6]
  rw [hq,← e3]
  have fin:(b1 && b2)=true→b3=true→allV (timeM m) m.Timeouts 0=true→ValidM m:=fun x y z=>⟨hm,by rw [← e3];exact x,z,h4.1 y⟩
  revert fin
  generalize allV (timeM m) m.Timeouts 0=b4
  intro fin
  cases b1<;>cases b2<;>cases b3<;>cases b4<;>first | exact ⟨_,rfl,rfl,fun _=>fin rfl rfl rfl⟩ | exact ⟨_,rfl,rfl,fun h=>by cases h⟩
end Gp
end
section
namespace Gp
open Go Go.Kx Gx
variable {N:Nat}
theorem ba_ext {a b:ByteArray} (h:a.toList=b.toList):a=b:=by
 rw [toList_bs,toList_bs] at h
 unfold bs at h
 cases a;cases b
 rename_i x y
 have:x=y:=Array.ext' h
 rw [this]
theorem strcmp_iff (a b:ByteArray):∃ z,z233 N a b=some z∧(z=0↔a=b):=by
 unfold z233 z271
 have e:∀ x:ByteArray,(!(x.toList==x.toList))=false:=fun x=>by simp
 simp only [bS,e,cond_false]
 cases h1:Op.bytesLess a.toList b.toList with
 | true=>exact ⟨_,rfl,(fun h=>absurd h (by decide)),fun h=>by subst h;rw [show Op.bytesLess a.toList a.toList=false from less_irr a] at h1;cases h1⟩
 | false =>
  cases h2:(a.toList==b.toList) with
  | true=>exact ⟨_,rfl,fun _=>ba_ext (eq_of_beq h2),fun _=>rfl⟩
  | false=>exact ⟨_,rfl,(fun h=>absurd h (by decide)),fun h=>by subst h;simp at h2⟩
theorem or4_iff (hN:4194304 < N) (a b c d:Int):∃ z,z231 N [a,b,c,d]=some z∧(z=0↔a=0∧b=0∧c=0∧d=0):=by
 obtain ⟨n,rfl⟩:∃ n,N=n+5:=⟨N-5,by omega⟩
 unfold z231
 rw [z231_l2,z231_l2,z231_l2,z231_l2,z231_l2]
 have w0:w64 ((0:Int)+1)=1:=by decide
 have w1:w64 ((1:Int)+1)=2:=by decide
 have w2:w64 ((2:Int)+1)=3:=by decide
 have w3:w64 ((3:Int)+1)=4:=by decide
 rw [w0,w1,w2,w3]
 have i0:idx [a,b,c,d] 0=some a:=rfl
 have i1:idx [a,b,c,d] 1=some b:=rfl
 have i2:idx [a,b,c,d] 2=some c:=rfl
 have i3:idx [a,b,c,d] 3=some d:=rfl
 rw [i0,i1,i2,i3]
 have l0:decide ((0:Int) < (([a,b,c,d]:List Int).length:Int))=true:=rfl
 have l1:decide ((1:Int) < (([a,b,c,d]:List Int).length:Int))=true:=rfl
 have l2:decide ((2:Int) < (([a,b,c,d]:List Int).length:Int))=true:=rfl
 have l3:decide ((3:Int) < (([a,b,c,d]:List Int).length:Int))=true:=rfl
 have l4:decide ((4:Int) < (([a,b,c,d]:List Int).length:Int))=false:=rfl
 rw [l0,l1,l2,l3,l4]
 simp only [cT,cond_false,bS]
 have nz:∀ x:Int,(x != 0)=true→x≠0:=fun x h=>by simpa using h
 have zz:∀ x:Int,(x != 0)=false→x=0:=fun x h=>by simpa using h
 cases h0:(a != 0)
 ·cases h1:(b != 0)
  ·cases h2:(c != 0)
   ·cases h3:(d != 0)
    ·exact ⟨0,rfl,fun _=>⟨zz _ h0,zz _ h1,zz _ h2,zz _ h3⟩,fun _=>rfl⟩
    ·exact ⟨d,rfl,fun h=>absurd h (nz _ h3),fun h=>h.2.2.2⟩
   ·exact ⟨c,rfl,fun h=>absurd h (nz _ h2),fun h=>h.2.2.1⟩
  ·exact ⟨b,rfl,fun h=>absurd h (nz _ h1),fun h=>h.2.1⟩
 ·exact ⟨a,rfl,fun h=>absurd h (nz _ h0),fun h=>h.1⟩
theorem cI_iff (x y:Int):cI x y=0↔x=y:=by
 rcases cI_cases x y with ⟨h,e⟩ | ⟨h,e⟩ | ⟨h,e⟩<;>rw [e]<;>omega
theorem val_ext {a b:T12} (h1:a.Kind=b.Kind) (h2:a.N=b.N) (h3:a.S=b.S):a=b:=by
 cases a;cases b;simp_all
theorem same1_iff (hN:4194304 < N) (a b:T12):∃ z,z172 N a b=some z∧(z=true↔a=b):=by
 unfold z172 z173
 obtain ⟨s,es,hs⟩:=strcmp_iff (N:=N) a.S b.S
 rw [cI_eq,cI_eq,cI_eq,es]
 simp only [bS]
 obtain ⟨z,ez,hz⟩:=or4_iff hN (cI a.Kind b.Kind) (cI a.N b.N) (cI (a.S.size:Int) (b.S.size:Int)) s
 rw [ez]
 refine ⟨_,rfl,?_⟩
 rw [beq_iff_eq,hz,cI_iff,cI_iff,cI_iff,hs]
 exact ⟨fun h=>val_ext h.1 h.2.1 h.2.2.2,fun h=>by subst h;exact ⟨rfl,rfl,rfl,rfl⟩⟩
theorem lists_iff {A:Type} {a b:List A} (h:a.length=b.length):(∀ (i:Nat) x y,a[i]? = some x→b[i]? = some y→x=y)↔a=b:=by
 constructor
 ·intro hh
  refine List.ext_getElem? fun i=>?_
  by_cases hi:i < a.length
  ·have e1:=List.getElem?_eq_getElem hi
   have e2:=List.getElem?_eq_getElem (show i < b.length by omega)
   rw [e1,e2,hh i _ _ e1 e2]
  ·rw [List.getElem?_eq_none (by omega),List.getElem?_eq_none (by omega)]
 ·intro e i x y hx hy
  subst e
  rw [hx] at hy;cases hy;rfl
theorem same_iff (hN:4194304 < N) (a b:List T12) (hl:a.length≤4194304):∃ z,z95 N a b=some z∧(z=true↔a=b):=by
 unfold z95 z171_24
 rw [lenI_ne]
 by_cases h:a.length=b.length
 ·rw [dT h]
  let p:T12→T12→Bool:=fun x y=>(z172 N x y).getD false
  obtain ⟨z,ez,hz⟩:=eqf p (xs:=a) (ys:=b) (F:=z171_24_l2 N a b) (n:=N) h (by omega) (fun n k x y hk hx hy=>by
   rw [z171_24_l2,lt_t hk,idx_nat,hx,idx_nat,hy,w64_succ (by omega)]
   obtain ⟨q,eq,_⟩:=same1_iff hN x y
   have e:p x y=q:=by show (z172 N x y).getD false=q;rw [eq];rfl
   simp only [cT,bS,eq,e]
   cases q<;>rfl) (fun n k hk=>by
   rw [z171_24_l2,lt_f hk];rfl)
  simp only [Bool.not_true,cond_false,ez,bS]
  refine ⟨z,rfl,hz.trans (Iff.trans ⟨fun hh i x y hx hy=>?_,fun hh i x y hx hy=>?_⟩ (lists_iff h))⟩
  ·obtain ⟨q,eq,hq⟩:=same1_iff hN x y
   have:=hh i x y hx hy
   have e:p x y=q:=by show (z172 N x y).getD false=q;rw [eq];rfl
   rw [e] at this
   exact hq.1 this
  ·obtain ⟨q,eq,hq⟩:=same1_iff hN x y
   show (z172 N x y).getD false=true
   rw [eq,hq.2 (hh i x y hx hy)];rfl
 ·rw [dF h]
  exact ⟨false,rfl,by simp;exact fun e=>h (congrArg List.length e)⟩
theorem refSame_iff (hN:4194304 < N) (a b:List T12) (hl:a.length≤4194304):∃ z,z25 N a b=some z∧(z=true↔a=b):=by
 unfold z25
 rw [lenI_ne]
 by_cases h:a.length=b.length
 ·rw [dT h]
  let p:T12→T12→Bool:=fun x y=>(x.Kind==y.Kind) && ((x.N==y.N) && ((x.S.toList==y.S.toList) && true))
  have hp:∀ x y,p x y=true↔x=y:=fun x y=>by
   show ((x.Kind==y.Kind) && ((x.N==y.N) && ((x.S.toList==y.S.toList) && true)))=true↔_
   simp only [Bool.and_eq_true,beq_iff_eq,and_true]
   exact ⟨fun h=>val_ext h.1 h.2.1 (ba_ext h.2.2),fun h=>by subst h;exact ⟨rfl,rfl,rfl⟩⟩
  obtain ⟨z,ez,hz⟩:=eqf p (xs:=a) (ys:=b) (F:=z25_l2 a b) (n:=N) h (by omega) (fun n k x y hk hx hy=>by
   rw [z25_l2,lt_t hk,idx_nat,hx,idx_nat,hy,w64_succ (by omega)]
   simp only [cT,bS]
   show (bif !(p x y) then _ else _)=_
   cases p x y<;>rfl) (fun n k hk=>by
   rw [z25_l2,lt_f hk];rfl)
  simp only [Bool.not_true,cond_false,ez]
  exact ⟨z,rfl,hz.trans (Iff.trans ⟨fun hh i x y hx hy=>(hp x y).1 (hh i x y hx hy),fun hh i x y hx hy=>(hp x y).2 (hh i x y hx hy)⟩ (lists_iff h))⟩
 ·rw [dF h]
  exact ⟨false,rfl,by simp;exact fun e=>h (congrArg List.length e)⟩
theorem same_both (hN:4194304 < N) (a b:List T12) (hl:a.length≤4194304):∃ z,z95 N a b=some z∧z25 N a b=some z∧(z=true↔a=b):=by
 obtain ⟨z,e1,h1⟩:=same_iff hN a b hl
 obtain ⟨y,e2,h2⟩:=refSame_iff hN a b hl
 have:z=y:=by rw [Bool.eq_iff_iff];exact h1.trans h2.symm
 subst this
 exact ⟨z,e1,e2,h1⟩
end Gp
end
section
namespace Gp
open Go Go.Kx Gx
variable {N:Nat}
theorem plain15_eq (hN:4194304 < N) (s:ByteArray) (hs:s.size≤4194304):ref15_plain N s=some (!(bs s).any badB):=by
 have key:=allV_from (fun (b:UInt8) _ => !badB b) (xs:=bs s) (F:=ref15_plain_l2 s) (e:=some true) (n:=N) (by rw [size_bs] at hs;omega) (by
  intro n k b hk hb
  rw [ref15_plain_l2,size_bs,lt_t hk,sidx_bs,hb,w64_succ (by rw [size_bs] at hs;omega)]
  simp only [cT,Option.map_some,bS]
  have e1:decide (((b.toNat:Nat):Int) < 32)=decide (b.toNat < 32):=by by_cases h:b.toNat < 32<;>simp [h]<;>omega
  have e2:decide (((b.toNat:Nat):Int) > 126)=decide (126 < b.toNat):=by by_cases h:126 < b.toNat<;>simp [h]<;>omega
  rw [e1,e2]
  unfold badB
  cases decide (b.toNat < 32)<;>cases decide (126 < b.toNat)<;>rfl) (by
  intro n k hk
  rw [ref15_plain_l2,size_bs,lt_f hk];rfl)
 unfold ref15_plain
 have e0:ref15_plain_l2 s N 0=_:=key
 rw [e0]
 have:allV (fun (b:UInt8) _ => !badB b) (bs s) 0 = !(bs s).any badB:=allV_not_any badB (bs s) 0
 rw [this]
 cases (bs s).any badB<;>rfl
theorem tri (a b c:Bool):(bif a then (bif b then some c else some false) else some false)=some (a && (b && c)):=by cases a<;>cases b<;>rfl
theorem sort15_eq (s:T10):ref15_ValidSort N s=some (vsortV s):=by
 unfold ref15_ValidSort vsortV
 rw [tri,tri]
 cases (s.Kind==1)<;>cases (s.Kind==2)<;>rfl
theorem valid15_eq (hN:4194304 < N) (v:T12) (hv:v.S.size≤4194304):ref15_Valid N v=some (vvalidV v):=by
 unfold ref15_Valid vvalidV
 rw [plain15_eq hN _ hv]
 simp only [bS]
 rw [tri,tri]
 cases (v.Kind==1)<;>cases (v.Kind==2)<;>rfl
theorem num15_eq (v:T12):ref15_Number N v=some (vnumV v):=by
 unfold ref15_Number vnumV
 cases (v.Kind==1)<;>cases (v.Kind==2)<;>rfl
theorem fits15_eq (hN:4194304 < N) (s:T10) (v:T12) (hv:v.S.size≤4194304):ref15_Fits N s v=some (vfitV s v):=by
 unfold ref15_Fits vfitV
 rw [sort15_eq,valid15_eq hN v hv,num15_eq]
 simp only [bS]
 cases vsortV s<;>cases vvalidV v<;>cases (s.Kind==v.Kind)<;>cases decide (vnumV v≥s.Lo)<;>rfl
theorem fitsAll_both (hN:4194304 < N) (fs:List T4) (vs:List T12) (hl:vs.length≤4194304) (hv:∀ v∈vs,v.S.size≤4194304):∃ b,z94 N fs vs=some b∧ref15_FitsAll N fs vs=some b∧(b=true↔FitsL fs vs):=by
 obtain ⟨b,e,hb⟩:=fitsAll_eq hN fs vs hl hv
 refine ⟨b,e,?_,hb⟩
 unfold ref15_FitsAll
 rw [lenI_ne]
 by_cases h:fs.length=vs.length
 ·rw [dT h]
  obtain ⟨q,eq,hq⟩:=eqf (fun (f:T4) (v:T12)=>vfitV f.Sort' v) (xs:=fs) (ys:=vs) (F:=ref15_FitsAll_l2 N fs vs) (n:=N) h (by omega) (fun n k f v hk hf hv'=>by
   rw [ref15_FitsAll_l2,lt_t hk,idx_nat,hf,idx_nat,hv',w64_succ (by omega)]
   simp only [cT,bS,fits15_eq hN _ _ (hv v (List.mem_of_getElem? hv'))]
   cases vfitV f.Sort' v<;>rfl) (fun n k hk=>by
   rw [ref15_FitsAll_l2,lt_f hk];rfl)
  simp only [Bool.not_true,cond_false]
  rw [eq]
  have:q=b:=by
   rw [Bool.eq_iff_iff,hb,hq]
   exact ⟨fun g=>⟨h,g⟩,fun g=>g.2⟩
  rw [this]
 ·rw [dF h]
  have:b=false:=by
   cases b with
   | false=>rfl
   | true=>exact absurd (hb.1 rfl).1 h
  rw [this];rfl
theorem vfit_fits {s:T10} (hs:sortOk s) (v:T12):vfitV s v=fitsV s v:=by
 unfold vfitV vsortV vvalidV vnumV fitsV vnum
 rcases hs with ⟨k,h1,h2,h3⟩ | ⟨k,h1,h2,h3⟩
 ·rw [k]
  rw [dT h1,dT h2,dT h3]
  by_cases c:v.Kind=1
  ·have e1:(v.Kind==1)=true:=by simp [c]
   have e2:(v.Kind==2)=false:=by simp [c]
   have e3:((1:Int)==v.Kind)=true:=by simp [c]
   rw [e1,e2,e3]
   simp only [cT,cond_false,Bool.true_and,beq_self_eq_true]
   by_cases q1:s.Lo≤v.N
   ·by_cases q2:v.N≤s.Hi
    ·rw [dT (show v.N≥-1000 by omega),dT (show v.N≤1000 by omega),dT (show v.N≥s.Lo from q1),dT q2]
     cases (v.S.toList==(str []).toList)<;>rfl
    ·rw [dF q2];simp
   ·rw [dF q1];simp
  ·have e1:(v.Kind==1)=false:=by simp [c]
   have e3:((1:Int)==v.Kind)=false:=by rw [beq_eq_false_iff_ne];exact fun e=>c e.symm
   rw [e1,e3];simp
 ·rw [k]
  have k1:((2:Int)==1)=false:=rfl
  rw [k1,dT h1,dT h2,dT h3]
  by_cases c:v.Kind=2
  ·have e1:(v.Kind==1)=false:=by simp [c]
   have e2:(v.Kind==2)=true:=by simp [c]
   have e3:((2:Int)==v.Kind)=true:=by simp [c]
   rw [e1,e2,e3]
   simp only [cT,cond_false,Bool.true_and,beq_self_eq_true]
   by_cases q2:(v.S.size:Int)≤s.Hi
   ·rw [dT (show (v.S.size:Int)≤40 by omega),dT q2]
    have:decide ((v.S.size:Int)≥s.Lo)=decide (s.Lo≤(v.S.size:Int)):=rfl
    rw [this]
    cases (v.N==0)<;>cases (bs v.S).any badB<;>cases decide (s.Lo≤(v.S.size:Int))<;>rfl
   ·rw [dF q2];simp
  ·have e1:(v.Kind==2)=false:=by simp [c]
   have e3:((2:Int)==v.Kind)=false:=by rw [beq_eq_false_iff_ne];exact fun e=>c e.symm
   rw [e1,e3];simp
theorem sortOk_of {d:List T0} (hv:validD d=true) {x:T0} (hx:x∈d) {f:T4} (hf:f∈x.Fields):sortOk f.Sort':=by
 obtain ⟨i,hi⟩:=List.mem_iff_getElem?.1 hx
 obtain ⟨first,_,_,_,_,h⟩:=valid_at hv hi
 unfold declV at h
 simp only [Bool.and_eq_true] at h
 have h:=h.2.2.2.2.1
 rw [allV_iff] at h
 obtain ⟨k,hk⟩:=List.mem_iff_getElem?.1 hf
 have:=h k f hk
 unfold fieldV at this
 simp only [Bool.and_eq_true,decide_eq_true_eq] at this
 exact this.2.1
theorem sortOk_flat {d:List T0} (hv:validD d=true) {f:T4} (hf:f∈flat d):sortOk f.Sort':=by
 unfold flat at hf
 obtain ⟨l,hl,hfl⟩:=List.mem_flatten.1 hf
 obtain ⟨x,hx,rfl⟩:=List.mem_map.1 hl
 exact sortOk_of hv hx hfl
theorem knownL_iff {d:List T0} (hv:validD d=true) (ks:List T12):knownV (flat d) ks=true↔KnownL (flat d) ks:=by
 unfold knownV KnownL
 rw [Bool.and_eq_true,decide_eq_true_eq,allV_iff]
 constructor
 ·rintro ⟨h1,h2⟩
  refine ⟨h1,fun i f v hf hv'=>?_⟩
  have:=h2 i v hv'
  rw [Nat.zero_add] at this
  unfold fitAt at this
  rw [hf] at this
  rw [vfit_fits (sortOk_flat hv (List.mem_of_getElem? hf))];exact this
 ·rintro ⟨h1,h2⟩
  refine ⟨h1,fun i v hv'=>?_⟩
  have hi:=(List.getElem?_eq_some_iff.1 hv').1
  have hf:=List.getElem?_eq_getElem (show i < (flat d).length by omega)
  rw [Nat.zero_add]
  unfold fitAt
  rw [hf]
  have:=h2 i _ v hf hv'
  rw [vfit_fits (sortOk_flat hv (List.mem_of_getElem? hf))] at this
  exact this
theorem fitL_iff {d:List T0} (hv:validD d=true) {x:T0} (hx:x∈d) (vs:List T12):fitV x.Fields vs=true↔FitsL x.Fields vs:=by
 unfold fitV FitsL
 rw [Bool.and_eq_true,decide_eq_true_eq,allV_iff]
 constructor
 ·rintro ⟨h1,h2⟩
  refine ⟨h1,fun i f v hf hv'=>?_⟩
  have:=h2 i v hv'
  rw [Nat.zero_add] at this
  unfold fitAt at this
  rw [hf] at this
  rw [vfit_fits (sortOk_of hv hx (List.mem_of_getElem? hf))];exact this
 ·rintro ⟨h1,h2⟩
  refine ⟨h1,fun i v hv'=>?_⟩
  have hi:=(List.getElem?_eq_some_iff.1 hv').1
  have hf:=List.getElem?_eq_getElem (show i < x.Fields.length by omega)
  rw [Nat.zero_add]
  unfold fitAt
  rw [hf]
  have:=h2 i _ v hf hv'
  rw [vfit_fits (sortOk_of hv hx (List.mem_of_getElem? hf))] at this
  exact this
end Gp
end
section
namespace Gp
open Go Go.Kx Gx
variable {N:Nat}
theorem exists_eq (hN:4194304 < N) (d:List T0) (hl:d.length≤1000) (hd:∀ x∈d,SizeD x) (hn:∀ x∈d,NameD x) (label:Int):ref14_exists N d label=some (validD d && decide (0≤label∧label < (d.length:Int))):=by
 unfold ref14_exists
 rw [refValid_eq hN d (by omega) hd hn]
 simp only [bS]
 cases validD d with
 | false=>rfl
 | true =>
  by_cases c1:label≥0
  ·rw [dT c1]
   by_cases c2:label < (d.length:Int)
   ·rw [dT c2,dT (show 0≤label∧label < (d.length:Int) from ⟨c1,c2⟩)];rfl
   ·rw [dF c2,dF (show ¬ (0≤label∧label < (d.length:Int)) from fun h=>c2 h.2)];rfl
  ·rw [dF c1,dF (show ¬ (0≤label∧label < (d.length:Int)) from fun h=>c1 h.1)];rfl
theorem guard_both (hN:4194304 < N) (d:List T0) (hl:d.length≤1000) (hd:∀ x∈d,SizeD x) (hn:∀ x∈d,NameD x) (label:Int) (vs ks:List T12) (hv:vs.length≤4194304) (hk:ks.length≤4194304) (hs:SizeC vs ks) :
  ref14_Check N d label vs ks=some (checkV d label vs ks)∧z96 N d label vs ks=ref14_Learn N d label vs ks:=by
 have hpp:properV d label ks=((validD d && decide (0≤label∧label < (d.length:Int))) && knownV (flat d) ks):=by
  unfold properV
  cases validD d<;>cases decide (0≤label∧label < (d.length:Int))<;>rfl
 unfold ref14_Learn ref14_Check
 rw [exists_eq hN d hl hd hn]
 rcases learn_eq hN d hl hd hn label vs ks hv hk hs with ⟨hp,h⟩ | ⟨hp,i,x,first,hlab,hi,hf,hdv,hrest⟩
 ·rw [h]
  have hcv:checkV d label vs ks=false:=by unfold checkV;rw [hp];rfl
  rw [hcv]
  rw [hp] at hpp
  cases he:(validD d && decide (0≤label∧label < (d.length:Int))) with
  | false=>exact ⟨rfl,rfl⟩
  | true =>
   rw [he] at hpp
   have hval:validD d=true:=by rw [Bool.and_eq_true] at he;exact he.1
   simp only [bS,Bool.not_true,cond_false]
   rw [refKnown_eq hN d hl hd hval ks hk hs.k]
   have:knownV (flat d) ks=false:=by simpa using hpp.symm
   rw [this]
   exact ⟨rfl,rfl⟩
 ·rw [hp] at hpp
  have hpp:=hpp.symm
  rw [Bool.and_eq_true] at hpp
  obtain ⟨he,hkn⟩:=hpp
  have hval:validD d=true:=by rw [Bool.and_eq_true] at he;exact he.1
  have hidx:idx d label=some x:=by rw [hlab,idx_nat];exact hi
  have hxm:x∈d:=List.mem_of_getElem? hi
  rw [he]
  simp only [bS,Bool.not_true,cond_false]
  rw [refKnown_eq hN d hl hd hval ks hk hs.k,hkn,hidx]
  simp only [bS,Bool.not_true,cond_false]
  rw [refFit_eq hN x (hd x hxm) (fun f hf=>sort_of hval hxm hf) vs hv hs.v]
  have hef:x.First.toNat=first:=by omega
  rcases hrest with ⟨hfit,h⟩ | ⟨hfit,hle,h⟩
  ·rw [h,hfit]
   have hcv:checkV d label vs ks=false:=by unfold checkV;rw [hp,hidx];simp only [hfit];rfl
   rw [hcv]
   exact ⟨rfl,rfl⟩
  ·rw [h,hfit]
   have hcv:checkV d label vs ks=keepsV x.Guard (behindV first vs ks):=by unfold checkV;rw [hp,hidx];simp only [hfit,hef];rfl
   rw [hcv]
   simp only [bS,Bool.not_true,cond_false]
   rw [learned_eq hN x vs ks first hf hle hk]
   simp only [bS]
   have hbl:=behind_len first vs ks hle
   have hkl:=known_len hkn
   rw [keeps_eq hN x.Guard _ (by rw [hbl,← hkl];exact inG_of (guard_of hdv))]
   exact ⟨rfl,trivial⟩
structure AgrX (g:T5) (m:T8):Prop where
 a:AgrM g m
 mv:ValidM m
 gv:ValidG g
 r:m.Role < (g.Roles.length:Int)
 p:∀ x∈m.Moves,x.Peer < (g.Roles.length:Int)
theorem agree_both (hN:4194304 < N) (g:T5) (hg:SizeG g) (hs:SizeN g) (hn:NumE g) (m:T8) (ht:m.Timeouts.length≤4194304):∃ b,z60 N g m=some b∧ref40_together N g m=some b∧(b=true→AgrX g m):=by
 obtain ⟨b0,e0,h0⟩:=agree_some hN g hg hs m ht
 have e0':=e0
 unfold z60 at e0
 unfold ref40_together
 obtain ⟨b1,e1,f1,h1⟩:=Valid_both hN g hg hs hn
 obtain ⟨b2,e2,f2,h2⟩:=mValid_both hN m ht
 rw [e1,e2] at e0
 rw [f1,f2]
 simp only [bS] at e0 ⊢
 refine ⟨b0,e0',?_⟩
 cases b1 with
 | false=>cases e0;exact ⟨rfl,fun h=>by cases h⟩
 | true =>
 cases b2 with
 | false=>cases e0;exact ⟨rfl,fun h=>by cases h⟩
 | true =>
 have hm:=h2 rfl
 have hnm:=hm.n.n
 simp only [cT,Bool.not_true,cond_false] at e0 ⊢
 by_cases c:m.Role < (g.Roles.length:Int)
 ·rw [dT c] at e0
  rw [dF (show ¬ m.Role≥(g.Roles.length:Int) by omega)]
  simp only [cT,cond_false] at e0 ⊢
  unfold z135_11 z92_10 at e0
  have ep:∀ y,z132_9 N y g=some (decide (y.Peer≥(g.Roles.length:Int)) || decide (y.Label≥(g.Decls.length:Int))):=fun y=>by
   unfold z132_9
   cases decide (y.Peer≥(g.Roles.length:Int))<;>rfl
  obtain ⟨z,ez,hz⟩:=find_some (fun (y:T9)=>decide (y.Peer≥(g.Roles.length:Int)) || decide (y.Label≥(g.Decls.length:Int))) (xs:=m.Moves) (F:=z92_10_l2 N m.Moves g) (fun n k x hk hx=>by
   rw [z92_10_l2,lt_t hk,idx_nat,hx,w64_succ (by omega)]
   simp only [cT,bS,ep]) (fun n k hk=>by
   rw [z92_10_l2,lt_f hk];rfl) _ N 0 rfl (by omega)
  rw [show ((0:Nat):Int)=0 from rfl] at ez
  rw [ez] at e0
  simp only [bS] at e0
  have key:=allV_from (fun (y:T9) _ => !(decide (y.Peer≥(g.Roles.length:Int)) || decide (y.Label≥(g.Decls.length:Int)))) (xs:=m.Moves) (F:=ref40_together_l2 g m) (e:=some true) (n:=N) (by omega) (fun n k x hk hx=>by
   rw [ref40_together_l2,lt_t hk,idx_nat,hx,w64_succ (by omega)]
   simp only [cT,bS]
   cases decide (x.Peer≥(g.Roles.length:Int))<;>cases decide (x.Label≥(g.Decls.length:Int))<;>rfl) (fun n k hk=>by
   rw [ref40_together_l2,lt_f hk];rfl)
  have k0:ref40_together_l2 g m N 0=_:=key
  rw [k0]
  rcases hz with ⟨rfl,hz⟩ | ⟨i,y,rfl,hy,hp⟩
  ·cases e0
   have ha:allV (fun (y:T9) _ => !(decide (y.Peer≥(g.Roles.length:Int)) || decide (y.Label≥(g.Decls.length:Int)))) m.Moves 0=true:=by
    rw [allV_iff]
    intro i x hx
    rw [hz i x (Nat.zero_le _) hx];rfl
   rw [ha]
   refine ⟨rfl,fun _=>⟨h0 rfl,hm,h1.1 rfl,c,fun x hx=>?_⟩⟩
   obtain ⟨i,hi⟩:=List.getElem?_of_mem hx
   have:=hz i x (Nat.zero_le _) hi
   simp only [Bool.or_eq_false_iff,decide_eq_false_iff_not] at this
   omega
  ·have eb:b0=false:=by
    have:=Option.some.inj e0
    rw [← this];simp
   subst eb
   have ha:allV (fun (y:T9) _ => !(decide (y.Peer≥(g.Roles.length:Int)) || decide (y.Label≥(g.Decls.length:Int)))) m.Moves 0=false:=by
    cases hb:allV (fun (y:T9) _ => !(decide (y.Peer≥(g.Roles.length:Int)) || decide (y.Label≥(g.Decls.length:Int)))) m.Moves 0 with
    | false=>rfl
    | true =>
     rw [allV_iff] at hb
     have:=hb i y hy
     rw [hp] at this;cases this
   rw [ha]
   exact ⟨rfl,fun h=>by cases h⟩
 ·rw [dF c] at e0
  rw [dT (show m.Role≥(g.Roles.length:Int) by omega)]
  cases e0
  exact ⟨rfl,fun h=>by cases h⟩
structure StK (g:T5) (m:T8) (s:T16):Prop where
 a0:0≤s.At
 a1:s.At < m.States
 k:KnownL (flat g.Decls) s.Known
theorem fits_both (hN:4194304 < N) (g:T5) (hg:SizeG g) (hs:SizeN g) (hn:NumE g) (m:T8) (ht:m.Timeouts.length≤4194304) (s:T16) (hk:s.Known.length≤4194304) (hv:∀ v∈s.Known,v.S.size≤4194304) :
  ∃ b,z46 N g m s=some b∧ref40_Fits N g m s=some b∧(b=true↔z60 N g m=some true∧StK g m s):=by
 unfold z46 ref40_Fits
 obtain ⟨b,e,f,h⟩:=agree_both hN g hg hs hn m ht
 rw [e,f]
 simp only [bS]
 cases b with
 | false=>exact ⟨false,rfl,rfl,(fun h=>by cases h),(fun h=>by cases h.1)⟩
 | true =>
 have hA:=h rfl
 have hval:=hA.a.v
 obtain ⟨l1,l2⟩:=valid_len hval
 rw [mfields_eq hN g hval,refKnown_eq hN g.Decls (by omega) hg.dd hval s.Known hk hv]
 obtain ⟨q,eq,hq⟩:=known_eq hN (flat g.Decls) s.Known hk hv
 have hqk:knownV (flat g.Decls) s.Known=q:=by rw [Bool.eq_iff_iff,hq,knownL_iff hval]
 simp only [cT,bS,eq,hqk]
 by_cases c1:s.At≥0
 ·rw [dT c1]
  by_cases c2:s.At < m.States
  ·rw [dT c2]
   exact ⟨q,rfl,rfl,fun h=>⟨trivial,c1,c2,hq.1 h⟩,fun h=>hq.2 h.2.k⟩
  ·rw [dF c2]
   exact ⟨false,rfl,rfl,(fun h=>by cases h),fun h=>absurd h.2.a1 c2⟩
 ·rw [dF c1]
  exact ⟨false,rfl,rfl,(fun h=>by cases h),fun h=>absurd h.2.a0 c1⟩
theorem nothing_eq (hN:4194304 < N) (g:T5) (hg:SizeG g) (hv:validD g.Decls=true):ref14_Nothing N g.Decls=some (List.replicate (flat g.Decls).length ⟨0,0,str []⟩):=by
 obtain ⟨l1,l2⟩:=valid_len hv
 unfold ref14_Nothing
 rw [vars_eq hN g.Decls (by omega) hg.dd]
 simp only [bS]
 have e:mkL (⟨0,0,str []⟩:T12) ((flat g.Decls).length:Int) ((flat g.Decls).length:Int)=some (List.replicate (flat g.Decls).length ⟨0,0,str []⟩):=by
  unfold mkL
  rw [dT (by omega:(0:Int)≤((flat g.Decls).length:Int)),dT (Int.le_refl _),dT (by omega:((flat g.Decls).length:Int)≤4294967296)];rfl
 rw [e];rfl
end Gp
end
section
namespace Gp
open Go Go.Kx Gx
variable {N:Nat}
def hitM (y:T9) (at':Int) (x:T3):Bool:=y.From==at' && (y.Send==x.Send && (y.Peer==x.Peer && y.Label==x.Label))
def zeroS:T16:=⟨0,[],[]⟩
inductive StepR (g:T5) (m:T8) (s:T16) (x:T3):T16 × Int→Prop
 | role:x.Role≠m.Role→StepR g m s x (zeroS,12)
 | move:x.Role=m.Role→(∀ (i:Nat) y,m.Moves[i]? = some y→hitM y s.At x=false)→StepR g m s x (zeroS,23)
 | type {i:Nat} {y d}:x.Role=m.Role→m.Moves[i]? = some y→hitM y s.At x=true→idx g.Decls x.Label=some d→¬ FitsL d.Fields x.Values→StepR g m s x (zeroS,11)
 | guard {i:Nat} {y d}:x.Role=m.Role→m.Moves[i]? = some y→hitM y s.At x=true→idx g.Decls x.Label=some d→FitsL d.Fields x.Values→(checkV g.Decls x.Label x.Values s.Known=false∨(checkV g.Decls x.Label x.Values s.Known=true∧y.Again=true∧x.Values≠s.Pending))→StepR g m s x (zeroS,17)
 | ok {i:Nat} {y d} {first:Nat}:x.Role=m.Role→m.Moves[i]? = some y→hitM y s.At x=true→idx g.Decls x.Label=some d→FitsL d.Fields x.Values→checkV g.Decls x.Label x.Values s.Known=true→(y.Again=true→x.Values=s.Pending) →
   d.First=(first:Int)→first+x.Values.length≤s.Known.length→z96 N g.Decls x.Label x.Values s.Known=some (behindV first x.Values s.Known,0)→StepR g m s x (⟨y.To,behindV first x.Values s.Known,bif x.Send then x.Values else []⟩,0)
def stepTail (N:Nat) (g_:T5) (m_:T8) (s_:T16) (x_:T3):Option (T16 × Int) :=
 (ref40_Move N m_ s_.At x_).bind fun x2 =>
 bif (x_.Role != m_.Role) then (some (zeroS,(12:Int)))
 else bif (decide (x2 < (0:Int))) then (some (zeroS,(23:Int)))
 else (idx g_.Decls x_.Label).bind fun x3 =>
 (ref40_fitting N x3 x_.Values).bind fun x4 =>
 bif (!x4) then (some (zeroS,(11:Int)))
 else (ref14_Check N g_.Decls x_.Label x_.Values s_.Known).bind fun x5 =>
 bif (!x5) then (ref40_Step_k1 N g_ m_ s_ x_ x2 true)
 else (idx m_.Moves x2).bind fun x11 =>
 bif x11.Again then ((z25 N x_.Values s_.Pending).bind fun x12 =>
 ref40_Step_k1 N g_ m_ s_ x_ x2 (!x12))
 else ref40_Step_k1 N g_ m_ s_ x_ x2 false
theorem find_both {A:Type} (p:A→Bool) {xs:List A} {F G:Nat→Int→Option Int} (h1:∀ n k x,k < xs.length→xs[k]? = some x→F (n+1) (k:Int)=bif p x then some (k:Int) else F n ((k+1:Nat):Int))
  (h2:∀ n k,xs.length≤k→F (n+1) (k:Int)=some (-1)) (g1:∀ n k x,k < xs.length→xs[k]? = some x→G (n+1) (k:Int)=bif p x then some (k:Int) else G n ((k+1:Nat):Int))
  (g2:∀ n k,xs.length≤k→G (n+1) (k:Int)=some (-1)):∀ (d n k:Nat),xs.length-k=d→d < n→∃ z,F n (k:Int)=some z∧G n (k:Int)=some z∧((z=-1∧∀ (i:Nat) x,k≤i→xs[i]? = some x→p x=false)∨∃ (i:Nat) (x:A),z=(i:Int)∧xs[i]? = some x∧p x=true):=by
 intro d
 induction d with
 | zero =>
  intro n k hd hn
  obtain ⟨n,rfl⟩:∃ q,n=q+1:=⟨n-1,by omega⟩
  exact ⟨-1,h2 n k (by omega),g2 n k (by omega),.inl ⟨rfl,fun i x hi hx=>by have:=(List.getElem?_eq_some_iff.1 hx).1;omega⟩⟩
 | succ d ih =>
  intro n k hd hn
  obtain ⟨n,rfl⟩:∃ q,n=q+1:=⟨n-1,by omega⟩
  have hk:k < xs.length:=by omega
  have hx:=List.getElem?_eq_getElem hk
  rw [h1 n k _ hk hx,g1 n k _ hk hx]
  cases hp:p xs[k] with
  | true=>exact ⟨_,rfl,rfl,.inr ⟨k,_,rfl,hx,hp⟩⟩
  | false =>
   obtain ⟨z,e,f,h⟩:=ih n (k+1) (by omega) (by omega)
   refine ⟨z,e,f,h.imp (fun ⟨a,b⟩=>⟨a,fun i x hi hx'=>?_⟩) id⟩
   by_cases e:i=k
   ·subst e;rw [hx] at hx';cases hx';exact hp
   ·exact b i x (by omega) hx'
theorem move_both (hN:4194304 < N) (m:T8) (hn:m.Moves.length≤4194304) (s:T16) (x:T3):∃ z,z92_19 N m.Moves s x=some z∧ref40_Move N m s.At x=some z ∧
  ((z=-1∧∀ (i:Nat) y,m.Moves[i]? = some y→hitM y s.At x=false)∨∃ (i:Nat) (y:T9),z=(i:Int)∧m.Moves[i]? = some y∧hitM y s.At x=true):=by
 unfold z92_19 ref40_Move
 have ep:∀ y,z93_18 N y s x=some (hitM y s.At x):=fun y=>by
  unfold z93_18 hitM
  cases (y.From==s.At)<;>cases (y.Send==x.Send)<;>cases (y.Peer==x.Peer)<;>rfl
 obtain ⟨z,ez,fz,hz⟩:=find_both (fun (y:T9)=>hitM y s.At x) (xs:=m.Moves) (F:=z92_19_l2 N m.Moves s x) (G:=ref40_Move_l2 m s.At x) (fun n k y hk hy=>by
  rw [z92_19_l2,lt_t hk,idx_nat,hy,w64_succ (by omega)]
  simp only [cT,bS,ep]) (fun n k hk=>by
  rw [z92_19_l2,lt_f hk];rfl) (fun n k y hk hy=>by
  rw [ref40_Move_l2,lt_t hk,idx_nat,hy,w64_succ (by omega)]
  simp only [cT,bS]
  unfold hitM
  cases (y.From==s.At)<;>cases (y.Send==x.Send)<;>cases (y.Peer==x.Peer)<;>cases (y.Label==x.Label)<;>rfl) (fun n k hk=>by
  rw [ref40_Move_l2,lt_f hk];rfl) _ N 0 rfl (by omega)
 rw [show ((0:Nat):Int)=0 from rfl] at ez fz
 exact ⟨z,ez,fz,hz.imp (fun ⟨a,b⟩=>⟨a,fun i y hy=>b i y (Nat.zero_le _) hy⟩) id⟩
theorem step_both (hN:4194304 < N) (g:T5) (hg:SizeG g) (hs:SizeN g) (m:T8) (hA:AgrM g m) (s:T16) (hS:StK g m s) (x:T3) (hx:SizeE x) :
  ∃ r,z47 N g m s x=some r∧stepTail N g m s x=some r∧StepR (N:=N) g m s x r:=by
 obtain ⟨v1,v2⟩:=valid_len hA.v
 have hn:=hA.n.n
 have hkl:s.Known.length≤4194304:=by rw [← hS.k.1];omega
 have hks:=known_size hS.k
 unfold z47 stepTail
 obtain ⟨z,ez,fz,hz⟩:=move_both hN m (by omega) s x
 rw [ez,fz]
 simp only [bS]
 by_cases hr:x.Role=m.Role
 ·have er:(x.Role != m.Role)=false:=by simp [hr]
  rw [er]
  rcases hz with ⟨rfl,hz⟩ | ⟨k,y,rfl,hy,hp⟩
  ·exact ⟨_,rfl,rfl,.move hr hz⟩
  have h0:decide ((k:Int) < 0)=false:=by simp
  rw [h0]
  have hp0:=hp
  unfold hitM at hp0
  simp only [Bool.and_eq_true,beq_iff_eq] at hp0
  obtain ⟨_,_,_,hlab⟩:=hp0
  have hym:=List.mem_of_getElem? hy
  obtain ⟨_,⟨t0,t1⟩,_,_,la,_⟩:=hA.n.mv y hym
  have lb:=hA.l y hym
  rw [hlab] at la lb
  obtain ⟨d,hd⟩:=idx_lt la lb
  rw [hd]
  unfold ref40_fitting
  simp only [cond_false,bS]
  obtain ⟨bf,ef,ff,hf⟩:=fitsAll_both hN d.Fields x.Values hx.l hx.s
  rw [ef,ff]
  simp only [bS]
  cases bf with
  | false=>exact ⟨_,rfl,rfl,.type hr hy hp hd (fun h=>by have:=hf.2 h;cases this)⟩
  | true =>
  have hfl:=hf.1 rfl
  obtain ⟨gc,gl⟩:=guard_both hN g.Decls (by omega) hg.dd hs.d x.Label x.Values s.Known hx.l hkl ⟨hx.s,hks⟩
  rw [check_eq hN g.Decls (by omega) hg.dd hs.d x.Label x.Values s.Known hx.l hkl ⟨hx.s,hks⟩,gc]
  simp only [Bool.not_true,cond_false,bS]
  cases hcv:checkV g.Decls x.Label x.Values s.Known with
  | false=>exact ⟨_,rfl,rfl,.guard hr hy hp hd hfl (.inl hcv)⟩
  | true =>
  simp only [Bool.not_true,cond_false]
  rw [idx_nat,hy]
  simp only [bS]
  obtain ⟨q,eq,fq,hq⟩:=same_both hN x.Values s.Pending hx.l
  rw [eq,fq]
  simp only [bS]
  have fin:(y.Again=true→x.Values=s.Pending)→∃ r,z47_k1 N g m s x (k:Int) false=some r∧ref40_Step_k1 N g m s x (k:Int) false=some r∧StepR (N:=N) g m s x r:=fun hag=>by
   unfold z47_k1 ref40_Step_k1
   have hck:=hcv
   unfold checkV at hck
   rw [Bool.and_eq_true] at hck
   obtain ⟨hp',hck⟩:=hck
   rw [idx_nat,hy]
   simp only [cond_false,bS]
   rw [← gl]
   rcases learn_eq hN g.Decls (by omega) hg.dd hs.d x.Label x.Values s.Known hx.l hkl ⟨hx.s,hks⟩ with ⟨h,_⟩ | ⟨_,i,d',first,q1,q2,q3,q4,q5⟩
   ·rw [h] at hp';cases hp'
   have hd':d'=d:=by
    rw [q1,idx_nat,q2] at hd
    exact Option.some.inj hd
   subst hd'
   rcases q5 with ⟨h,_⟩ | ⟨_,hle,hl⟩
   ·rw [hd] at hck
    simp only [h,Bool.false_and] at hck
    cases hck
   have hR:=StepR.ok (N:=N) hr hy hp hd hfl hcv hag q3 hle hl
   rw [hl]
   simp only [bS]
   unfold z55
   rw [appL_some (by have:=hx.l;simp;omega)]
   cases hsd:x.Send with
   | true=>rw [hsd] at hR;exact ⟨_,rfl,rfl,by simpa using hR⟩
   | false=>rw [hsd] at hR;exact ⟨_,rfl,rfl,hR⟩
  cases hya:y.Again with
  | false=>exact fin (fun h=>by rw [hya] at h;cases h)
  | true =>
   cases q with
   | true=>exact fin (fun _=>hq.1 rfl)
   | false=>exact ⟨_,rfl,rfl,.guard hr hy hp hd hfl (.inr ⟨hcv,hya,fun h=>by have:=hq.2 h;cases this⟩)⟩
 ·have er:(x.Role != m.Role)=true:=by simp [hr]
  rw [er]
  exact ⟨_,rfl,rfl,.role hr⟩
end Gp
end
section
namespace Gp
open Go Go.Kx Gx
variable {N:Nat} {g:T5} {m:T8}
theorem StM.K {s:T16} (h:StM g m s):StK g m s:=⟨h.a0,h.a1,h.k⟩
theorem refFits_true (c:Ctx0 N g m) (hn:NumE g) {s:T16} (hS:StM g m s):ref40_Fits N g m s=some true:=by
 obtain ⟨b,_,f,hb⟩:=fits_both c.hN g c.gg c.ss hn m c.t s (stM_known c hS) (known_size hS.k)
 rw [f,hb.2 ⟨c.e,hS.K⟩]
theorem refStep_eq (c:Ctx0 N g m) (hn:NumE g) {s:T16} (hS:StM g m s) {x:T3} (hx:SizeE x):ref40_Step N g m s x=some (stepF N g m s x)∧StepR (N:=N) g m s x (stepF N g m s x):=by
 obtain ⟨r,e1,e2,hR⟩:=step_both c.hN g c.gg c.ss m c.a s hS.K x hx
 have e:stepF N g m s x=r:=by unfold stepF;rw [e1];rfl
 rw [e]
 refine ⟨?_,hR⟩
 unfold ref40_Step
 rw [refFits_true c hn hS]
 simp only [bS,Bool.not_true,cond_false]
 exact e2
theorem refNew_eq (c:Ctx0 N g m) (hn:NumE g):ref40_New N g m=some (newV g m):=by
 obtain ⟨b,e,f,_⟩:=agree_both c.hN g c.gg c.ss hn m c.t
 rw [c.e] at e
 cases e
 unfold ref40_New
 rw [f,nothing_eq c.hN g c.gg c.a.v];rfl
theorem refRun_loop (c:Ctx0 N g m) (hn:NumE g) (l:List T3) (hl:l.length≤4194304) (he:∀ x∈l,SizeE x):∀ (r:List T3) (n k:Nat) (s:T16),StM g m s→k≤l.length→l.drop k=r→r.length < n →
  ref40_Run_l2 N g m l n s.At s.Known s.Pending (k:Int)=some (runV (stepF N g m) r s k):=by
 intro r
 induction r with
 | nil =>
  intro n k s hS hk hr hn
  obtain ⟨n,rfl⟩:∃ q,n=q+1:=⟨n-1,by simp at hn;omega⟩
  have:=List.drop_eq_nil_iff.1 hr
  rw [ref40_Run_l2,lt_f this]
  have e:k=l.length:=by omega
  subst e;rfl
 | cons x r ih =>
  intro n k s hS hk hr hn'
  obtain ⟨n,rfl⟩:∃ q,n=q+1:=⟨n-1,by simp at hn';omega⟩
  obtain ⟨hk,hx,hr'⟩:=drop_cons hr
  have hxs:=he x (List.mem_of_getElem? hx)
  obtain ⟨_,e2,_⟩:=stepF_eq c hS hxs
  rw [ref40_Run_l2,lt_t hk,idx_nat,hx,w64_succ (by omega)]
  simp only [cT,bS]
  have e1:ref40_Step N g m ⟨s.At,s.Known,s.Pending⟩ x=some (stepF N g m s x):=(refStep_eq c hn hS hxs).1
  rw [e1,runV]
  simp only [bS]
  cases h:((stepF N g m s x).2 != 0) with
  | true=>rfl
  | false =>
   have h0:(stepF N g m s x).2=0:=by simpa using h
   exact ih n (k+1) _ (e2 h0) hk hr' (by simp at hn';omega)
theorem refRun_eq (c:Ctx0 N g m) (hn:NumE g) (l:List T3) (hl:l.length≤4194304) (he:∀ x∈l,SizeE x):ref40_Run N g m l=some (runV (stepF N g m) l (newV g m) 0):=by
 have hN:=c.hN
 obtain ⟨b,e,f,_⟩:=agree_both c.hN g c.gg c.ss hn m c.t
 rw [c.e] at e
 cases e
 unfold ref40_Run
 rw [refNew_eq c hn,f]
 simp only [bS,Bool.not_true,cond_false]
 exact refRun_loop c hn l hl he l N 0 _ (new_st c) (Nat.zero_le _) rfl (by omega)
theorem run_not (hN:4194304 < N) (hg:SizeG g) (hs:SizeN g) (hn:NumE g) (ht:m.Timeouts.length≤4194304) (l:List T3) (h:z60 N g m=some false) :
  z24 N g m=some zeroS∧ref40_New N g m=some zeroS∧z17 N g m l=some (zeroS,0,1)∧ref40_Run N g m l=some (zeroS,0,1):=by
 obtain ⟨b,e,f,_⟩:=agree_both hN g hg hs hn m ht
 rw [h] at e
 cases e
 have e1:z24 N g m=some zeroS:=by unfold z24;rw [h];rfl
 have e2:ref40_New N g m=some zeroS:=by unfold ref40_New;rw [f];rfl
 refine ⟨e1,e2,?_,?_⟩
 ·unfold z17
  rw [e1]
  simp only [bS]
  have:z46 N g m zeroS=some false:=by unfold z46;rw [h];rfl
  rw [this];rfl
 ·unfold ref40_Run
  rw [e2,f];rfl
theorem Run_both (hN:4194304 < N) (hg:SizeG g) (hs:SizeN g) (hn:NumE g) (ht:m.Timeouts.length≤4194304) (l:List T3) (hl:l.length≤4194304) (he:∀ x∈l,SizeE x) :
  ∃ r,z17 N g m l=some r∧ref40_Run N g m l=some r∧r.1.Known.length≤4194304∧r.1.Pending.length≤4194304:=by
 obtain ⟨b,e,f,_⟩:=agree_both hN g hg hs hn m ht
 cases b with
 | false =>
  obtain ⟨_,_,e1,e2⟩:=run_not hN hg hs hn ht l e
  exact ⟨_,e1,e2,Nat.zero_le _,Nat.zero_le _⟩
 | true =>
  obtain ⟨b0,e0,h0⟩:=agree_some hN g hg hs m ht
  rw [e] at e0
  cases e0
  have c:Ctx0 N g m:=⟨hN,hg,hs,ht,h0 rfl,e⟩
  have hst:=(runV_st c l (newV g m) 0 he (new_st c)).1
  exact ⟨_,Run_eq c l hl he,refRun_eq c hn l hl he,stM_known c hst,hst.p⟩
end Gp
end
section
namespace Gp
open Go Go.Kx Gx
variable {N:Nat} {g:T5} {m:T8}
theorem first_from {A β:Type} (p:A→Nat→Bool) {xs:List A} {F:Nat→Int→Option β} {r:Nat→β} {e:Option β} (h1:∀ n k x,k < xs.length→xs[k]? = some x→F (n+1) (k:Int)=bif p x k then F n ((k+1:Nat):Int) else some (r k))
  (h2:∀ n k,xs.length≤k→F (n+1) (k:Int)=e):∀ (d n k:Nat),xs.length-k=d→d < n →
  (∃ (i:Nat) (x:A),k≤i∧xs[i]? = some x∧F n (k:Int)=some (r i)∧p x i=false∧∀ (j:Nat) y,k≤j→j < i→xs[j]? = some y→p y j=true)∨(F n (k:Int)=e∧∀ (j:Nat) y,k≤j→xs[j]? = some y→p y j=true):=by
 intro d
 induction d with
 | zero =>
  intro n k hd hn
  obtain ⟨n,rfl⟩:∃ q,n=q+1:=⟨n-1,by omega⟩
  exact .inr ⟨h2 n k (by omega),fun j y hj hy=>by have:=(List.getElem?_eq_some_iff.1 hy).1;omega⟩
 | succ d ih =>
  intro n k hd hn
  obtain ⟨n,rfl⟩:∃ q,n=q+1:=⟨n-1,by omega⟩
  have hk:k < xs.length:=by omega
  have hx:=List.getElem?_eq_getElem hk
  rw [h1 n k _ hk hx]
  cases hp:p xs[k] k with
  | false=>exact .inl ⟨k,_,Nat.le_refl _,hx,rfl,hp,fun j y h1 h2=>by omega⟩
  | true =>
   have ext:∀ (j:Nat) y,j=k→xs[j]? = some y→p y j=true:=fun j y e hy=>by
    subst e;rw [hx] at hy;cases hy;exact hp
   rcases ih n (k+1) (by omega) (by omega) with ⟨i,x,a1,a2,a3,a4,a5⟩ | ⟨a1,a2⟩
   ·refine .inl ⟨i,x,by omega,a2,a3,a4,fun j y h1 h2 hy=>?_⟩
    by_cases e:j=k
    ·exact ext j y e hy
    ·exact a5 j y (by omega) h2 hy
   ·refine .inr ⟨a1,fun j y h1 hy=>?_⟩
    by_cases e:j=k
    ·exact ext j y e hy
    ·exact a2 j y (by omega) hy
theorem num_known {f:T10} {v:T12} (h:(zeroV v || vfitV f v)=true):vnumV v=vnum v:=by
 rw [Bool.or_eq_true] at h
 rcases h with h | h
 ·unfold zeroV at h
  simp only [Bool.and_eq_true,beq_iff_eq] at h
  unfold vnumV vnum
  rw [h.1,h.2.1];rfl
 ·unfold vfitV at h
  simp only [Bool.and_eq_true] at h
  have h:=h.2.1
  unfold vvalidV at h
  unfold vnumV vnum
  by_cases c1:v.Kind=1
  ·rw [c1];rfl
  ·have e1:(v.Kind==1)=false:=by simp [c1]
   rw [e1] at h ⊢
   by_cases c2:v.Kind=2
   ·rw [c2];rfl
   ·have e2:(v.Kind==2)=false:=by simp [c2]
    rw [e2] at h;cases h
theorem num_all {fs:List T4} {ks:List T12} (h:KnownL fs ks):∀ v∈ks,vnumV v=vnum v:=fun v hv=>by
 obtain ⟨i,hi⟩:=List.getElem?_of_mem hv
 have hl:=(List.getElem?_eq_some_iff.1 hi).1
 exact num_known (h.2 i _ v (List.getElem?_eq_getElem (by rw [h.1];exact hl)) hi)
theorem bnum_eq {all:List T12} (hk:∀ v∈all,vnumV v=vnum v) {x:Int} (hx:x < (all.length:Int)):z234 N all x=some (nvV all x,!unkV all x):=by
 unfold z234
 rcases side all hx with ⟨h1,_,h3,h4⟩ | ⟨h1,_,v,hv,h3,h4⟩
 ·rw [h1,h3,h4];rfl
 ·rw [h1,h3,h4,hv]
  simp only [cond_false,bS,vnum_eq]
  obtain ⟨i,_,hi⟩:=idx_mem hv
  rw [hk v (List.mem_of_getElem? hi)];rfl
def partB (x:T6) (all:List T12) (j:Nat):Bool:=match x.Diffs[j]? with
 | some d=>diffV all d
 | none=>match x.Equals[j-x.Diffs.length]? with
  | some e=>eqV all e
  | none=>true
theorem partB_d {x:T6} {all:List T12} {j:Nat} {d} (h:x.Diffs[j]? = some d):partB x all j=diffV all d:=by unfold partB;rw [h]
theorem partB_e {x:T6} {all:List T12} {j:Nat} {e} (h:x.Equals[j]? = some e):partB x all (x.Diffs.length+j)=eqV all e:=by
 unfold partB
 rw [List.getElem?_eq_none (by omega),Nat.add_sub_cancel_left,h]
theorem broken_eq (hN:4194304 < N) (x:T6) (all:List T12) (hk:∀ v∈all,vnumV v=vnum v) (hg:InG all.length x) :
  (∃ i:Nat,z174 N x all=some ((i:Int),true)∧i < x.Diffs.length+x.Equals.length∧partB x all i=false∧∀ j,j < i→partB x all j=true)∨(z174 N x all=some (0,false)∧∀ j,j < x.Diffs.length+x.Equals.length→partB x all j=true):=by
 have hdl:=hg.dl
 have hel:=hg.el
 have he:=first_from (fun (e:Int × Int) _=>eqV all e) (xs:=x.Equals) (F:=z174_l2 x all) (r:=fun i=>(((x.Diffs.length+i:Nat):Int),true)) (e:=some (0,false)) (fun n k e hk' hx=>by
  obtain ⟨⟨a1,a2⟩,a3,a4⟩:=hg.e e (List.mem_of_getElem? hx)
  obtain ⟨a,ha⟩:=idx_lt (L:=all) a1 a2
  obtain ⟨b,hb⟩:=idx_lt (L:=all) a3 a4
  have hw:w64 ((x.Diffs.length:Int)+(k:Int))=((x.Diffs.length+k:Nat):Int):=by rw [w64_id (by omega) (by omega)];omega
  rw [z174_l2,lt_t hk',w64_succ (by omega),hw]
  simp only [cT,idx_nat,hx,bS,ha,hb,eqV]
  cases (a.Kind==0)<;>cases (b.Kind==0)<;>cases (a.S.toList==b.S.toList)<;>rfl) (fun n k hk'=>by
  rw [z174_l2,lt_f hk'];rfl) _ N 0 rfl (by omega)
 have hd:=first_from (fun (d:T1) _=>diffV all d) (xs:=x.Diffs) (F:=z174_l4 N x all) (r:=fun i=>((i:Int),true)) (e:=z174_l2 x all N 0) (fun n k d hk' hx=>by
  obtain ⟨a1,a2⟩:=hg.d d (List.mem_of_getElem? hx)
  rw [z174_l4,lt_t hk',w64_succ (by omega)]
  simp only [cT,idx_nat,hx,bS,bnum_eq hk a1,bnum_eq hk a2,diffV]
  cases unkV all d.X<;>cases unkV all d.Y<;>cases decide (w64 (nvV all d.X-nvV all d.Y) > d.C)<;>rfl) (fun n k hk'=>by
  rw [z174_l4,lt_f hk'];rfl) _ N 0 rfl (by omega)
 rw [show ((0:Nat):Int)=0 from rfl] at he hd
 unfold z174
 rcases hd with ⟨i,d,_,b1,b2,b3,b4⟩ | ⟨b1,b2⟩
 ·have hi:=(List.getElem?_eq_some_iff.1 b1).1
  refine .inl ⟨i,b2,by omega,by rw [partB_d b1];exact b3,fun j hj=>?_⟩
  have hj':=List.getElem?_eq_getElem (show j < x.Diffs.length by omega)
  rw [partB_d hj'];exact b4 j _ (Nat.zero_le _) hj hj'
 ·have hdd:∀ j,j < x.Diffs.length→partB x all j=true:=fun j hj=>by
   have hj':=List.getElem?_eq_getElem hj
   rw [partB_d hj'];exact b2 j _ (Nat.zero_le _) hj'
  rcases he with ⟨i,e,_,c1,c2,c3,c4⟩ | ⟨c1,c2⟩
  ·have hi:=(List.getElem?_eq_some_iff.1 c1).1
   refine .inl ⟨x.Diffs.length+i,by rw [b1];exact c2,by omega,by rw [partB_e c1];exact c3,fun j hj=>?_⟩
   by_cases hjd:j < x.Diffs.length
   ·exact hdd j hjd
   ·obtain ⟨q,rfl⟩:=Nat.le.dest (Nat.le_of_not_lt hjd)
    have hj':=List.getElem?_eq_getElem (show q < x.Equals.length by omega)
    rw [partB_e hj'];exact c4 q _ (Nat.zero_le _) (by omega) hj'
  ·refine .inr ⟨by rw [b1];exact c1,fun j hj=>?_⟩
   by_cases hjd:j < x.Diffs.length
   ·exact hdd j hjd
   ·obtain ⟨q,rfl⟩:=Nat.le.dest (Nat.le_of_not_lt hjd)
    have hj':=List.getElem?_eq_getElem (show q < x.Equals.length by omega)
    rw [partB_e hj'];exact c2 q _ (Nat.zero_le _) hj'
theorem keeps_of {x:T6} {all:List T12} (h:∀ j,j < x.Diffs.length+x.Equals.length→partB x all j=true):keepsV x all=true:=by
 unfold keepsV
 rw [Bool.and_eq_true,allV_iff,allV_iff]
 refine ⟨fun i d hd=>?_,fun i e he=>?_⟩
 ·have:=h i (by have:=(List.getElem?_eq_some_iff.1 hd).1;omega)
  rwa [partB_d hd] at this
 ·have:=h (x.Diffs.length+i) (by have:=(List.getElem?_eq_some_iff.1 he).1;omega)
  rwa [partB_e he] at this
def eqB (x y:T12):Bool:=(x.Kind==y.Kind) && ((x.N==y.N) && ((x.S.toList==y.S.toList) && true))
theorem eqB_iff (x y:T12):eqB x y=true↔x=y:=by
 unfold eqB
 simp only [Bool.and_eq_true,beq_iff_eq,and_true]
 exact ⟨fun h=>val_ext h.1 h.2.1 (ba_ext h.2.2),fun h=>by subst h;exact ⟨rfl,rfl,rfl⟩⟩
theorem eqB_f {x y:T12} (h:¬ x=y):eqB x y=false:=by
 cases hb:eqB x y with
 | false=>rfl
 | true=>exact absurd ((eqB_iff x y).1 hb) h
theorem differs_eq (hN:4194304 < N) (a b:List T12) (hl:a.length≤4194304):∃ j:Nat,z176 N a b=some (j:Int)∧j≤a.length∧(∀ i,i < j→∃ v,a[i]? = some v∧b[i]? = some v)∧(j < a.length→a[j]? ≠ b[j]?):=by
 have cmp:∀ x y,∃ z,z173 N x y=some z∧(z=0↔x=y):=fun x y=>by
  obtain ⟨z,ez,hz⟩:=same1_iff hN x y
  unfold z172 at ez
  cases hc:z173 N x y with
  | none=>rw [hc] at ez;cases ez
  | some w =>
   rw [hc] at ez
   refine ⟨w,rfl,?_⟩
   have:(w==0)=z:=Option.some.inj ez
   rw [← hz,← this,beq_iff_eq]
 have h:=first_from (fun (x:T12) k=>match b[k]? with | some y=>eqB x y | none=>false) (xs:=a) (F:=z176_l2 N a b) (r:=fun i=>(i:Int)) (e:=some (a.length:Int)) (fun n k x hk hx=>by
  rw [z176_l2,lt_t hk,w64_succ (by omega)]
  simp only [cT]
  by_cases hb:k < b.length
  ·have hy:=List.getElem?_eq_getElem hb
   rw [dF (show ¬ (k:Int)≥(b.length:Int) by omega)]
   obtain ⟨z,ez,hz⟩:=cmp x b[k]
   simp only [cond_false,idx_nat,hx,hy,bS,ez]
   by_cases h0:z=0
   ·rw [(eqB_iff _ _).2 (hz.1 h0),h0];rfl
   ·rw [eqB_f (fun h=>h0 (hz.2 h))]
    have:(z != 0)=true:=by simp [h0]
    rw [this];rfl
  ·rw [dT (show (k:Int)≥(b.length:Int) by omega),List.getElem?_eq_none (by omega)];rfl) (fun n k hk=>by
  rw [z176_l2,lt_f hk];rfl) _ N 0 rfl (by omega)
 rw [show ((0:Nat):Int)=0 from rfl] at h
 have eqs:∀ (i:Nat) x,a[i]? = some x→(match b[i]? with | some y=>eqB x y | none=>false)=true→∃ v,a[i]? = some v∧b[i]? = some v:=fun i x hx hp=>by
  cases hb:b[i]? with
  | none=>rw [hb] at hp;cases hp
  | some y =>
   rw [hb] at hp
   have:x=y:=(eqB_iff x y).1 hp
   subst this
   exact ⟨x,hx,rfl⟩
 unfold z176
 rcases h with ⟨i,x,_,b1,b2,b3,b4⟩ | ⟨b1,b2⟩
 ·have hi:=(List.getElem?_eq_some_iff.1 b1).1
  refine ⟨i,b2,by omega,fun j hj=>?_,fun _=>?_⟩
  ·have hj':=List.getElem?_eq_getElem (show j < a.length by omega)
   exact eqs j _ hj' (b4 j _ (Nat.zero_le _) hj hj')
  ·rw [b1]
   intro e
   rw [← e] at b3
   have b3:eqB x x=false:=b3
   rw [(eqB_iff x x).2 rfl] at b3
   cases b3
 ·refine ⟨a.length,b1,Nat.le_refl _,fun j hj=>?_,fun h=>absurd h (Nat.lt_irrefl _)⟩
  have hj':=List.getElem?_eq_getElem hj
  exact eqs j _ hj' (b2 j _ (Nat.zero_le _) hj')
inductive KindP (g:T5) (m:T8) (s:T16) (x:T3):Int→Int→Int→Prop
 | stranger:x.Role≠m.Role→KindP g m s x 12 1 0
 | move:x.Role=m.Role→(∀ (i:Nat) y,m.Moves[i]? = some y→hitM y s.At x=false)→KindP g m s x 23 2 0
 | count {d}:x.Role=m.Role→idx g.Decls x.Label=some d→x.Values.length≠d.Fields.length→KindP g m s x 11 3 0
 | sort {d} {j:Nat} {f v}:x.Role=m.Role→idx g.Decls x.Label=some d→x.Values.length=d.Fields.length→d.Fields[j]? = some f→x.Values[j]? = some v→vfitV f.Sort' v=false →
   (∀ (i:Nat) f v,i < j→d.Fields[i]? = some f→x.Values[i]? = some v→vfitV f.Sort' v=true)→KindP g m s x 11 4 (j:Int)
 | guard {d} {j first:Nat}:x.Role=m.Role→idx g.Decls x.Label=some d→FitsL d.Fields x.Values→d.First=(first:Int)→first+x.Values.length≤s.Known.length→InG s.Known.length d.Guard→KnownL (flat g.Decls) (behindV first x.Values s.Known) →
   j < d.Guard.Diffs.length+d.Guard.Equals.length→partB d.Guard (behindV first x.Values s.Known) j=false→(∀ i,i < j→partB d.Guard (behindV first x.Values s.Known) i=true)→KindP g m s x 17 5 (j:Int)
 | same {i:Nat} {y d} {j first:Nat}:x.Role=m.Role→m.Moves[i]? = some y→hitM y s.At x=true→idx g.Decls x.Label=some d→FitsL d.Fields x.Values→y.Again=true→x.Values≠s.Pending→j≤x.Values.length →
   (∀ i,i < j→∃ v,x.Values[i]? = some v∧s.Pending[i]? = some v)→(j < x.Values.length→x.Values[j]? ≠ s.Pending[j]?) →
   d.First=(first:Int)→first+x.Values.length≤s.Known.length→InG s.Known.length d.Guard→KnownL (flat g.Decls) (behindV first x.Values s.Known)→(∀ i,i < d.Guard.Diffs.length+d.Guard.Equals.length→partB d.Guard (behindV first x.Values s.Known) i=true)→KindP g m s x 17 6 (j:Int)
theorem kind_eq (c:Ctx0 N g m) {s:T16} (hS:StM g m s) {x:T3} (hx:SizeE x) {q:T16 × Int} (hR:StepR (N:=N) g m s x q) (he:q.2≠0):∃ k p,z97 N g s x q.2=some (k,p)∧KindP g m s x q.2 k p:=by
 have hN:=c.hN
 obtain ⟨v1,v2⟩:=valid_len c.a.v
 have hkl:=stM_known c hS
 have hks:=known_size hS.k
 have b12:((12:Int)==12)=true:=rfl
 have b23:((23:Int)==12)=false:=rfl
 have b23':((23:Int)==23)=true:=rfl
 cases hR with
 | role h=>exact ⟨1,0,rfl,.stranger h⟩
 | move h1 h2=>exact ⟨2,0,rfl,.move h1 h2⟩
 | type h1 h2 h3 h4 h5 =>
  rename_i i y d
  unfold z97
  rw [h4]
  simp only [bS]
  have e1:((11:Int)==12)=false:=rfl
  have e2:((11:Int)==23)=false:=rfl
  rw [e1,e2,lenI_ne]
  simp only [cond_false]
  by_cases hl:x.Values.length=d.Fields.length
  ·rw [dT hl]
   have h:=first_from (fun (f:T4) k=>match x.Values[k]? with | some v=>vfitV f.Sort' v | none=>true) (xs:=d.Fields) (F:=z97_l2 N g s x d) (r:=fun i=>((4:Int),(i:Int))) (e:=z97_k1 N g s x d) (fun n k f hk hf=>by
    have hv:=List.getElem?_eq_getElem (show k < x.Values.length by omega)
    rw [z97_l2,lt_t hk,w64_succ (by have:=hx.l;omega)]
    simp only [cT,idx_nat,hf,hv,bS,vfits_eq hN _ _ (hx.s _ (List.mem_of_getElem? hv))]
    cases vfitV f.Sort' x.Values[k]<;>rfl) (fun n k hk=>by
    rw [z97_l2,lt_f hk];rfl) _ N 0 rfl (by have:=hx.l;omega)
   rw [show ((0:Nat):Int)=0 from rfl] at h
   rcases h with ⟨j,f,_,a1,a2,a3,a4⟩ | ⟨a1,a2⟩
   ·have hj:=(List.getElem?_eq_some_iff.1 a1).1
    have hv:=List.getElem?_eq_getElem (show j < x.Values.length by omega)
    rw [hv] at a3
    refine ⟨4,(j:Int),a2,.sort h1 h4 hl a1 hv a3 fun i f v hi hf hv'=>?_⟩
    have:=a4 i f (Nat.zero_le _) hi hf
    rw [hv'] at this;exact this
   ·refine absurd ⟨hl.symm,fun i f v hf hv'=>?_⟩ h5
    have:=a2 i f (Nat.zero_le _) hf
    rw [hv'] at this;exact this
  ·rw [dF hl]
   exact ⟨3,0,rfl,.count h1 h4 hl⟩
 | guard h1 h2 h3 h4 h5 h6 =>
  rename_i i y d
  unfold z97
  rw [h4]
  simp only [bS]
  have e1:((17:Int)==12)=false:=rfl
  have e2:((17:Int)==23)=false:=rfl
  have hl:x.Values.length=d.Fields.length:=h5.1.symm
  rw [e1,e2,lenI_ne,dT hl]
  simp only [cond_false,Bool.not_true]
  have h:=first_from (fun (f:T4) k=>match x.Values[k]? with | some v=>vfitV f.Sort' v | none=>true) (xs:=d.Fields) (F:=z97_l2 N g s x d) (r:=fun i=>((4:Int),(i:Int))) (e:=z97_k1 N g s x d) (fun n k f hk hf=>by
   have hv:=List.getElem?_eq_getElem (show k < x.Values.length by omega)
   rw [z97_l2,lt_t hk,w64_succ (by have:=hx.l;omega)]
   simp only [cT,idx_nat,hf,hv,bS,vfits_eq hN _ _ (hx.s _ (List.mem_of_getElem? hv))]
   cases vfitV f.Sort' x.Values[k]<;>rfl) (fun n k hk=>by
   rw [z97_l2,lt_f hk];rfl) _ N 0 rfl (by have:=hx.l;omega)
  rw [show ((0:Nat):Int)=0 from rfl] at h
  rcases h with ⟨j,f,_,a1,a2,a3,a4⟩ | ⟨a1,a2⟩
  ·have hj:=(List.getElem?_eq_some_iff.1 a1).1
   have hv:=List.getElem?_eq_getElem (show j < x.Values.length by omega)
   rw [hv] at a3
   have a3:vfitV f.Sort' x.Values[j]=false:=a3
   have:=h5.2 j f _ a1 hv
   rw [this] at a3;cases a3
  rw [a1]
  unfold z97_k1
  obtain ⟨i',q1,q2⟩:=idx_mem h4
  obtain ⟨first,f1,f2,f3,f4,f5⟩:=valid_at c.a.v q2
  have hkl2:(flat g.Decls).length=s.Known.length:=hS.k.1
  have hle:first+x.Values.length≤s.Known.length:=by omega
  have hval:z175 N g.Decls x.Label x.Values s.Known=some (behindV first x.Values s.Known):=by
   have hb:=behind_eq (N:=N) d x.Values s.Known first f1 hle hkl
   unfold z114 z55 at hb
   unfold z175
   rw [appL_some (by simp;omega)] at hb ⊢
   rw [h4]
   exact hb
  have hbl:=behind_len first x.Values s.Known hle
  have hkn:=known_next q2 f1 f5 hle hS.k h5
  have hin:InG s.Known.length d.Guard:=by rw [← hkl2];exact inG_of (guard_of f5)
  rw [hval]
  simp only [bS]
  rcases broken_eq hN d.Guard (behindV first x.Values s.Known) (num_all hkn) (by rw [hbl];exact hin) with ⟨j,b1,b2,b3,b4⟩ | ⟨b1,b2⟩
  ·rw [b1]
   exact ⟨5,(j:Int),rfl,.guard h1 h4 h5 f1 hle hin hkn b2 b3 b4⟩
  ·rw [b1]
   obtain ⟨j,d1,d2,d3,d4⟩:=differs_eq hN x.Values s.Pending hx.l
   simp only [bS,cond_false]
   rw [d1]
   have hkeep:=keeps_of b2
   rcases h6 with h6 | ⟨_,h7,h8⟩
   ·exfalso
    unfold checkV at h6
    have hp:properV g.Decls x.Label s.Known=true:=by
     unfold properV
     rw [dT (show 0≤x.Label∧x.Label < (g.Decls.length:Int) from idx_some h4),c.a.v,(knownL_iff c.a.v s.Known).2 hS.k];rfl
    have hfi:=(fitL_iff c.a.v (List.mem_of_getElem? q2) x.Values).2 h5
    have hfn:d.First.toNat=first:=by omega
    rw [hp,h4] at h6
    simp only [hfi,hfn,hkeep,Bool.and_self] at h6
    cases h6
   ·exact ⟨6,(j:Int),rfl,.same h1 h2 h3 h4 h5 h7 h8 d2 d3 d4 f1 hle hin hkn b2⟩
 | ok _ _ _ _ _ _ _ _ _ _=>exact absurd rfl he
end Gp
end
section
namespace Gp
open Go Go.Kx Gx
variable {N:Nat} {g:T5} {m:T8}
theorem hit_iff' {y:T9} {s:Int} {x:T3}:hitM y s x=true↔y.From=s∧y.Send=x.Send∧y.Peer=x.Peer∧y.Label=x.Label:=by
 unfold hitM
 simp only [Bool.and_eq_true,beq_iff_eq]
structure InvF (g:T5) (m:T8) (l:List T3) (i:Nat) (s:T16):Prop where
 z:i=0→s.At=m.Start
 p:∀ j x,i=j+1→l[j]? = some x→s.Pending=bif x.Send then x.Values else []
 b:∀ j x,i=j+1→l[j]? = some x→∃ (k:Nat) (y:T9),m.Moves[k]? = some y∧y.To=s.At∧y.Send=x.Send∧y.Label=x.Label
 f:∀ j x,i=j+1→l[j]? = some x→∃ d,idx g.Decls x.Label=some d∧FitsL d.Fields x.Values
theorem runV_at (c:Ctx0 N g m) (hn:NumE g) (l:List T3) (he:∀ x∈l,SizeE x):∀ (r:List T3) (k:Nat) (s:T16),StM g m s→InvF g m l k s→l.drop k=r→k≤l.length →
  (runV (stepF N g m) r s k).2.2≠0→∃ (t:T16) (j:Nat) (x:T3) (e:Int),runV (stepF N g m) r s k=(t,(j:Int),e)∧l[j]? = some x∧(stepF N g m t x).2=e∧StM g m t∧InvF g m l j t
 | [],k,s,hS,hI,hr,hk,h=>absurd rfl h
 | x::r,k,s,hS,hI,hr,hk,h=>by
  obtain ⟨hk',hx,hr'⟩:=drop_cons hr
  have hxs:=he x (List.mem_of_getElem? hx)
  obtain ⟨_,e2,_⟩:=stepF_eq c hS hxs
  obtain ⟨_,hR⟩:=refStep_eq c hn hS hxs
  rw [runV] at h ⊢
  cases hb:((stepF N g m s x).2 != 0) with
  | true=>exact ⟨s,k,x,_,rfl,hx,rfl,hS,hI⟩
  | false =>
   rw [hb] at h
   have h0:(stepF N g m s x).2=0:=by simpa using hb
   refine runV_at c hn l he r (k+1) (stepF N g m s x).1 (e2 h0) ?_ hr' hk' h
   revert hR h0
   generalize stepF N g m s x=q
   intro hR h0
   cases hR with
   | role _=>cases h0
   | move _ _=>cases h0
   | type _ _ _ _ _=>cases h0
   | guard _ _ _ _ _ _=>cases h0
   | ok h1 h2 h3 h4 h5 _ _ _ _ _ =>
    refine ⟨fun h=>by omega,fun j x' hj hx'=>?_,fun j x' hj hx'=>?_,fun j x' hj hx'=>?_⟩<;>(have e:k=j:=by omega)<;>subst e<;>rw [hx] at hx'<;>cases hx'
    ·rfl
    ·rw [hit_iff'] at h3
     exact ⟨_,_,h2,rfl,h3.2.1,h3.2.2.2⟩
    ·exact ⟨_,h4,h5⟩
theorem inv0 (l:List T3):InvF g m l 0 (newV g m):=⟨fun _=>rfl,fun j x h=>by omega,fun j x h=>by omega,fun j x h=>by omega⟩
def zeroB:T13:=⟨0,0,0,0⟩
theorem Find_eq (hN:4194304 < N) (hg:SizeG g) (hs:SizeN g) (hn:NumE g) (ht:m.Timeouts.length≤4194304) (l:List T3) (hl:l.length≤4194304) (he:∀ x∈l,SizeE x) :
  (∃ (t:T16) (j e:Int),z17 N g m l=some (t,j,e)∧(e=0∨e=1)∧z48 N g m l=some (zeroB,false,e)) ∨
  (∃ (t:T16) (j:Nat) (x:T3) (e k p:Int),Ctx0 N g m∧AgrX g m∧z17 N g m l=some (t,(j:Int),e)∧e≠0∧e≠1∧runV (stepF N g m) l (newV g m) 0=(t,(j:Int),e)∧l[j]? = some x∧(stepF N g m t x).2=e∧StM g m t∧InvF g m l j t∧KindP g m t x e k p ∧
   z48 N g m l=some (⟨(j:Int),k,p,bif k==1 then x.Role else bif x.Send then m.Role else x.Peer⟩,true,0)):=by
 obtain ⟨b,e,f,hX⟩:=agree_both hN g hg hs hn m ht
 unfold z48
 cases b with
 | false =>
  obtain ⟨_,_,e1,_⟩:=run_not hN hg hs hn ht l e
  refine .inl ⟨zeroS,0,1,e1,.inr rfl,?_⟩
  rw [e1];rfl
 | true =>
  obtain ⟨b0,e0,h0⟩:=agree_some hN g hg hs m ht
  rw [e] at e0
  cases e0
  have c:Ctx0 N g m:=⟨hN,hg,hs,ht,h0 rfl,e⟩
  have hrun:=Run_eq c l hl he
  have hst:=runV_st c l (newV g m) 0 he (new_st c)
  rw [hrun]
  by_cases hz:(runV (stepF N g m) l (newV g m) 0).2.2=0
  ·refine .inl ⟨_,_,_,rfl,.inl hz,?_⟩
   have e1:((runV (stepF N g m) l (newV g m) 0).2.2==0)=true:=by simp [hz]
   simp only [bS,e1];rfl
  ·obtain ⟨t,j,x,ee,r1,r2,r3,r4,r5⟩:=runV_at c hn l he l 0 (newV g m) (new_st c) (inv0 l) rfl (Nat.zero_le _) hz
   rw [r1] at hz hst ⊢
   have hz:ee≠0:=hz
   have h1:ee≠1:=hst.2
   have hxs:=he x (List.mem_of_getElem? r2)
   obtain ⟨_,hR⟩:=refStep_eq c hn r4 hxs
   obtain ⟨k,p,k1,k2⟩:=kind_eq c r4 hxs hR (by rw [r3];exact hz)
   rw [r3] at k1 k2
   refine .inr ⟨t,j,x,ee,k,p,c,hX rfl,rfl,hz,h1,rfl,r2,r3,r4,r5,k2,?_⟩
   have b1:(ee==0)=false:=by simp [hz]
   have b2:(ee==1)=false:=by simp [h1]
   simp only [bS,b1,b2,cond_false]
   unfold z48_k1
   rw [idx_nat,r2]
   simp only [cond_false,bS,k1]
   cases (k==1) with
   | true=>rfl
   | false=>cases x.Send<;>rfl
end Gp
end
section
namespace Gp
open Go Go.Kx Gx
variable {N:Nat} {g:T5} {m:T8}
theorem fit_kind {s:T10} {v:T12} (h:vfitV s v=true):(v.Kind==0)=false:=by
 unfold vfitV at h
 simp only [Bool.and_eq_true] at h
 have h:=h.2.1
 unfold vvalidV at h
 by_cases c1:v.Kind=0
 ·rw [c1] at h;cases h
 ·simp [c1]
theorem value_is (d:T0) {first:Nat} (hf:d.First=(first:Int)) {vs ks:List T12} (hfl:FitsL d.Fields vs) (hle:first+vs.length≤ks.length) (hk:ks.length≤4194304) {x:Int} (hx:x < (ks.length:Int)) :
  (decide (x < 0)=true∧ref41_value N d vs ks x=some (⟨1,0,str []⟩,true))∨(decide (x < 0)=false∧∃ v,idx (behindV first vs ks) x=some v∧ref41_value N d vs ks x=some (v,!(v.Kind==0))):=by
 unfold ref41_value
 by_cases h0:x < 0
 ·left
  rw [dT h0]
  exact ⟨rfl,rfl⟩
 ·right
  obtain ⟨i,rfl⟩:=Int.eq_ofNat_of_zero_le (show 0≤x by omega)
  have hi:i < ks.length:=by omega
  rw [dF h0]
  refine ⟨rfl,?_⟩
  have hg:=behind_get first vs ks hle i
  rw [idx_nat,hg]
  simp only [cond_false]
  have hw:w64 (d.First+(vs.length:Int))=((first+vs.length:Nat):Int):=by rw [hf,w64_id (by omega) (by omega)];omega
  have known:∃ v,ks[i]? = some v∧((idx ks (i:Int)).bind fun x3=>(idx ks (i:Int)).bind fun x4=>some (x3,(x4.Kind != 0)))=some (v,!(v.Kind==0)):=by
   have hv:=List.getElem?_eq_getElem hi
   exact ⟨_,hv,by rw [idx_nat,hv];rfl⟩
  by_cases c1:first≤i
  ·rw [dT (show (i:Int)≥d.First by omega),hw]
   by_cases c2:i < first+vs.length
   ·rw [dT (show (i:Int) < ((first+vs.length:Nat):Int) by omega),if_pos ⟨c1,c2⟩]
    have hw2:w64 ((i:Int)-d.First)=((i-first:Nat):Int):=by rw [hf,w64_id (by omega) (by omega)];omega
    have hv:=List.getElem?_eq_getElem (show i-first < vs.length by omega)
    have hff:=List.getElem?_eq_getElem (show i-first < d.Fields.length by rw [hfl.1];omega)
    have:=fit_kind (hfl.2 _ _ _ hff hv)
    refine ⟨_,hv,?_⟩
    simp only [cT]
    rw [hw2,idx_nat,hv,this];rfl
   ·rw [dF (show ¬ (i:Int) < ((first+vs.length:Nat):Int) by omega),if_neg (fun h=>c2 h.2)]
    exact known
  ·rw [dF (show ¬ (i:Int)≥d.First by omega),if_neg (fun h=>c1 h.1)]
   exact known
theorem value_num (d:T0) {first:Nat} (hf:d.First=(first:Int)) {vs ks:List T12} (hfl:FitsL d.Fields vs) (hle:first+vs.length≤ks.length) (hk:ks.length≤4194304) (hall:∀ v∈behindV first vs ks,vnumV v=vnum v) {x:Int} (hx:x < (ks.length:Int)) :
  ∃ v,ref41_value N d vs ks x=some (v,!unkV (behindV first vs ks) x)∧vnumV v=nvV (behindV first vs ks) x:=by
 rcases value_is (N:=N) d hf hfl hle hk hx with ⟨h1,h2⟩ | ⟨h1,v,h2,h3⟩
 ·refine ⟨_,by rw [h2];unfold unkV;rw [h1];rfl,?_⟩
  unfold nvV;rw [h1];rfl
 ·obtain ⟨i,_,hi⟩:=idx_mem h2
  refine ⟨v,by rw [h3];unfold unkV;rw [h1,h2];rfl,?_⟩
  unfold nvV;rw [h1,h2]
  exact hall v (List.mem_of_getElem? hi)
theorem holds_eq (d:T0) {first:Nat} (hf:d.First=(first:Int)) {vs ks:List T12} (hfl:FitsL d.Fields vs) (hle:first+vs.length≤ks.length) (hk:ks.length≤4194304) (hall:∀ v∈behindV first vs ks,vnumV v=vnum v) (hg:InG ks.length d.Guard) {j:Nat} (hj:j < d.Guard.Diffs.length+d.Guard.Equals.length) :
  ref41_Holds N d vs ks (j:Int)=some (partB d.Guard (behindV first vs ks) j):=by
 have hdl:=hg.dl
 have hel:=hg.el
 unfold ref41_Holds
 by_cases c:j < d.Guard.Diffs.length
 ·have hx:=List.getElem?_eq_getElem c
  rw [dF (show ¬ (j:Int)≥(d.Guard.Diffs.length:Int) by omega),idx_nat,hx,partB_d hx]
  obtain ⟨a1,a2⟩:=hg.d _ (List.mem_of_getElem? hx)
  obtain ⟨u,u1,u2⟩:=value_num (N:=N) d hf hfl hle hk hall a1
  obtain ⟨v,v1,v2⟩:=value_num (N:=N) d hf hfl hle hk hall a2
  simp only [cond_false,bS]
  rw [u1,v1]
  simp only [bS,num15_eq,u2,v2]
  unfold diffV
  generalize (d.Guard.Diffs[j])=q
  have e:decide (w64 (nvV (behindV first vs ks) q.X-nvV (behindV first vs ks) q.Y)≤q.C) = !decide (w64 (nvV (behindV first vs ks) q.X-nvV (behindV first vs ks) q.Y) > q.C):=by
   by_cases h:w64 (nvV (behindV first vs ks) q.X-nvV (behindV first vs ks) q.Y)≤q.C
   ·rw [dT h,dF (by omega)];rfl
   ·rw [dF h,dT (by omega)];rfl
  rw [e]
  cases unkV (behindV first vs ks) q.X<;>cases unkV (behindV first vs ks) q.Y<;>cases decide (w64 (nvV (behindV first vs ks) q.X-nvV (behindV first vs ks) q.Y) > q.C)<;>rfl
 ·obtain ⟨p,rfl⟩:=Nat.le.dest (Nat.le_of_not_lt c)
  have hx:=List.getElem?_eq_getElem (show p < d.Guard.Equals.length by omega)
  have hw:w64 (((d.Guard.Diffs.length+p:Nat):Int)-(d.Guard.Diffs.length:Int))=(p:Int):=by rw [w64_id (by omega) (by omega)];omega
  rw [dT (show ((d.Guard.Diffs.length+p:Nat):Int)≥(d.Guard.Diffs.length:Int) by omega),hw,idx_nat,hx,partB_e hx]
  obtain ⟨⟨a0,a1⟩,a2,a3⟩:=hg.e _ (List.mem_of_getElem? hx)
  simp only [cT,bS]
  generalize (d.Guard.Equals[p])=q at a0 a1 a2 a3
  rcases value_is (N:=N) d hf hfl hle hk a1 with ⟨h1,_⟩ | ⟨_,u,u1,u2⟩
  ·have:=of_decide_eq_true h1;omega
  rcases value_is (N:=N) d hf hfl hle hk a3 with ⟨h1,_⟩ | ⟨_,v,v1,v2⟩
  ·have:=of_decide_eq_true h1;omega
  rw [u2,v2]
  unfold eqV
  rw [u1,v1]
  simp only [bS]
  cases (u.Kind==0)<;>cases (v.Kind==0)<;>cases (u.S.toList==v.S.toList)<;>rfl
end Gp
end
section
namespace Gp
open Go Go.Kx Gx
variable {N:Nat}
theorem bs_app (a b:ByteArray):bs (a++b)=bs a++bs b:=by
 unfold bs
 rw [ByteArray.data_append,Array.toList_append]
theorem cat_mk {a b:List UInt8} (h:a.length+b.length≤9223372036854775807):catS (mkB a) (mkB b)=some (mkB (a++b)):=by
 unfold catS
 have e:(mkB a).size=a.length∧(mkB b).size=b.length:=⟨by rw [size_bs,bs_mkB],by rw [size_bs,bs_mkB]⟩
 rw [e.1,e.2,dF (by simp only [IntKind.max];simp [IntKind.bits,IntKind.signed];omega)]
 simp only [cond_false]
 refine congrArg some (bs_inj ?_)
 rw [bs_app,bs_mkB,bs_mkB,bs_mkB]
theorem enc_digit:∀ d:Fin 10,Utf8.encode (wk .i32 (w64 ((48:Int)+(d.val:Int))))=mkB [UInt8.ofNat (48+d.val)]:=by decide
theorem enc_digit' {n:Int} {d:Nat} (hd:d < 10) (h:n=(48:Int)+(d:Int)):Utf8.encode (wk .i32 (w64 n))=mkB [UInt8.ofNat (48+d)]:=by
 rw [h];exact enc_digit ⟨d,hd⟩
theorem digN_len:∀ f u,(digN f u).length≤f
 | 0,_=>Nat.le_refl _
 | f+1,u=>by
  rw [digN]
  cases hb:Nat.blt u 10 with
  | true=>simp
  | false =>
   have:=digN_len f (u / 10)
   simp only [cond_false,lA,List.length_singleton]
   omega
theorem digits_pos:∀ (f m u:Nat),f≤24→u < 10 ^ (f+1)→u < 9223372036854775808→ref15_digits_r (f+1+m) (u:Int)=some (mkB (digN (f+1) u))
 | f,m,u,hf,h,hu=>by
  rw [show f+1+m=(f+m)+1 by omega,ref15_digits_r,ref15_digits_b,digN]
  rw [dF (show ¬ (u:Int) < -9 by omega),dF (show ¬ (u:Int) < 0 by omega)]
  simp only [cond_false]
  by_cases c:u < 10
  ·have hb:Nat.blt u 10=true:=by simpa [Nat.blt_eq] using c
   rw [dT (show (u:Int) < 10 by omega),hb,enc_digit' c rfl];rfl
  ·have hb:Nat.blt u 10=false:=by
    cases h0:Nat.blt u 10 with
    | false=>rfl
    | true=>exact absurd (by simpa [Nat.blt_eq] using h0) c
   rw [dF (show ¬ (u:Int) < 10 by omega),hb]
   have ht:w64 ((u:Int).tdiv 10)=((u / 10:Nat):Int):=by
    rw [show ((u:Int).tdiv 10)=((u / 10:Nat):Int) from by rw [Int.tdiv_eq_ediv_of_nonneg (by omega)];omega,w64_id (by omega) (by omega)]
   have hm:((48:Int)+(u:Int).tmod 10)=(48:Int)+((u % 10:Nat):Int):=by
    rw [Int.tmod_eq_emod_of_nonneg (by omega)];omega
   rw [ht,hm,enc_digit (⟨u % 10,Nat.mod_lt _ (by omega)⟩)]
   match f,h,hf with
   | 0,h,_=>omega
   | f+1,h,hf =>
    rw [show f+1+m=f+1+m by rfl,digits_pos f m (u / 10) (by omega) (by rw [Nat.pow_succ] at h;omega) (by omega)]
    simp only [bS,cond_false]
    have:=digN_len (f+1) (u / 10)
    rw [cat_mk (by simp only [List.length_singleton];omega)]
    rfl
theorem digits_neg:∀ (f m u:Nat),f≤24→0 < u→u < 10 ^ (f+1)→u≤9223372036854775808→ref15_digits_r (f+1+m) (-(u:Int))=some (mkB (45::digN (f+1) u))
 | f,m,u,hf,h0,h,hu=>by
  rw [show f+1+m=(f+m)+1 by omega,ref15_digits_r,ref15_digits_b,digN]
  by_cases c:u < 10
  ·have hb:Nat.blt u 10=true:=by simpa [Nat.blt_eq] using c
   rw [dF (show ¬ -(u:Int) < -9 by omega),dT (show -(u:Int) < 0 by omega),hb]
   simp only [cT,cond_false]
   rw [enc_digit' (n:=48 - -(u:Int)) c (by omega)]
   rw [show str [45]=mkB [45] from rfl,cat_mk (by simp)];rfl
  ·have hb:Nat.blt u 10=false:=by
    cases h0:Nat.blt u 10 with
    | false=>rfl
    | true=>exact absurd (by simpa [Nat.blt_eq] using h0) c
   rw [dT (show -(u:Int) < -9 by omega),hb]
   have ht:w64 ((-(u:Int)).tdiv 10)=-((u / 10:Nat):Int):=by
    rw [show ((-(u:Int)).tdiv 10)=-((u / 10:Nat):Int) from by rw [Int.neg_tdiv,Int.tdiv_eq_ediv_of_nonneg (by omega)];omega,w64_id (by omega) (by omega)]
   have hm:((48:Int)-(-(u:Int)).tmod 10)=(48:Int)+((u % 10:Nat):Int):=by
    rw [Int.neg_tmod,Int.tmod_eq_emod_of_nonneg (by omega)];omega
   rw [ht,hm,enc_digit (⟨u % 10,Nat.mod_lt _ (by omega)⟩)]
   match f,h,hf with
   | 0,h,_=>omega
   | f+1,h,hf =>
    rw [digits_neg f m (u / 10) (by omega) (by omega) (by rw [Nat.pow_succ] at h;omega) (by omega)]
    simp only [bS,cT]
    have:=digN_len (f+1) (u / 10)
    rw [cat_mk (by simp only [List.length_cons,List.length_nil];omega)]
    rfl
theorem digits15_eq (hN:4194304 < N) {n:Int} (h:I64 n):ref15_digits N n=some (itoaS n):=by
 obtain ⟨h1,h2⟩:=h
 unfold ref15_digits itoaS
 by_cases c:n < 0
 ·rw [dT c]
  have:=digits_neg 24 (N-25) n.natAbs (by omega) (by omega) (by omega) (by omega)
  rw [show 24+1+(N-25)=N by omega,show -((n.natAbs:Nat):Int)=n by omega] at this
  exact this
 ·rw [dF c]
  have:=digits_pos 24 (N-25) n.toNat (by omega) (by omega) (by omega)
  rw [show 24+1+(N-25)=N by omega,show ((n.toNat:Nat):Int)=n by omega] at this
  exact this
theorem digits_same:∀ (N:Nat) (n:Int),ref09_Digits_r N n=ref15_digits_r N n
 | 0,_=>rfl
 | N+1,n=>by
  rw [ref09_Digits_r,ref15_digits_r,show ref09_Digits_r N=ref15_digits_r N from funext fun n=>digits_same N n]
  rfl
theorem digits09_eq (hN:4194304 < N) {n:Int} (h:I64 n):ref09_Digits N n=some (itoaS n):=by
 rw [← digits15_eq hN h]
 exact digits_same N n
theorem itoa_eq {n:Int} (h:I64 n):z65 N n=some (itoaS n):=by
 unfold z65
 rw [dT h.1,dT h.2];rfl
theorem itoa_len (n:Int):(itoaS n).size≤26:=by
 unfold itoaS
 have h1:=digN_len 25 n.natAbs
 have h2:=digN_len 25 n.toNat
 show (bif decide (n < 0) then 45::digN 25 n.natAbs else digN 25 n.toNat).toArray.size≤26
 cases decide (n < 0)<;>simp<;>omega
end Gp
end
