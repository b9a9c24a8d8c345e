/- The plain law, part 3: what the functions compute answers as the statement says. -/
import Derived.Test.YtdlhgdfjpilcjaaGreatDoorExplainPermitsPlain2
set_option linter.all false
section
namespace Gp
open Go Go.Kx Gx
variable {N:Nat}
def showV (v:T12):List UInt8:=bif vvalidV v then (if v.Kind=1 then bs (itoaS v.N) else [34]++quoL (bs v.S)++[34]) else [63]
theorem quoB_len (b:UInt8):(quoB b).length≤2:=by unfold quoB;split<;>simp
theorem quoL_cons (b:UInt8) (r:List UInt8):quoL (b::r)=quoB b++quoL r:=rfl
theorem quoL_len:∀ l:List UInt8,(quoL l).length≤2 * l.length
 | []=>Nat.le_refl _
 | b::r=>by
  have:=quoL_len r
  have:=quoB_len b
  rw [quoL_cons,lA,List.length_cons];omega
theorem showV_len {v:T12} (hv:v.S.size≤4194304):(showV v).length≤8388610:=by
 unfold showV
 have:=itoa_len v.N
 rw [size_bs] at this hv
 have:=quoL_len (bs v.S)
 cases vvalidV v
 ·simp
 ·simp only [cT]
  split
  ·omega
  ·simp only [lA,List.length_singleton];omega
theorem show_loop (v:T12) (hv:v.S.size≤4194304):∀ (r:List UInt8) (n k:Nat) (acc:List UInt8),(bs v.S).drop k=r→r.length < n→acc.length+2 * r.length≤16777216 →
  ref15_Show_l2 v n (mkB acc) (k:Int)=some (mkB (acc++quoL r++[34]))
 | [],n,k,acc,h,hn,ha=>by
  obtain ⟨n,rfl⟩:∃ m,n=m+1:=⟨n-1,by simp at hn;omega⟩
  have hk:=drop_nil h
  rw [ref15_Show_l2,slt_f hk]
  simp only [cond_false]
  unfold ref15_Show_k1
  rw [show str [34]=mkB [34] from rfl,cat_mk (by simp at *;omega)]
  simp [quoL]
 | b::r,n,k,acc,h,hn,ha=>by
  obtain ⟨n,rfl⟩:∃ m,n=m+1:=⟨n-1,by simp at hn;omega⟩
  obtain ⟨hk,hb,hr⟩:=drop_cons h
  simp only [List.length_cons] at hn ha
  rw [ref15_Show_l2,slt_t hk,sidx_bs,hb]
  rw [size_bs] at hv
  simp only [cT,Option.map_some,bS]
  have hsl:ssl v.S (some (k:Int)) (some (w64 ((k:Int)+1)))=some (mkB [b]):=by
   have e:bs v.S=(bs v.S).take k++([b]++r):=by rw [List.singleton_append,← h,List.take_append_drop]
   have hl:((bs v.S).take k).length=k:=by rw [List.length_take];omega
   refine ssl_mid e (by rw [hl]) ?_
   rw [w64_succ (by omega),hl];rfl
  have e34:(((b.toNat:Nat):Int)==34)=decide (b=34):=by
   by_cases c:b=34
   ·subst c;rfl
   ·rw [dF c]
    have:b.toNat≠34:=fun h=>c (UInt8.toNat_inj.1 h)
    simp;omega
  have e92:(((b.toNat:Nat):Int)==92)=decide (b=92):=by
   by_cases c:b=92
   ·subst c;rfl
   ·rw [dF c]
    have:b.toNat≠92:=fun h=>c (UInt8.toNat_inj.1 h)
    simp;omega
  have step:∀ (z:Bool),(z=decide (b=34∨b=92))→ref15_Show_k3 v (mkB acc) (k:Int) (ref15_Show_l2 v n) z=some (mkB (acc++quoL (b::r)++[34])):=by
   intro z hz
   have hq:quoB b=if z then [92,b] else [b]:=by
    subst hz;unfold quoB
    by_cases c:b=34∨b=92
    ·rw [if_pos c,dT c];rfl
    ·rw [if_neg c,dF c];rfl
   unfold ref15_Show_k3
   cases z with
   | true =>
    rw [hsl]
    simp only [cT,bS]
    rw [show str [92]=mkB [92] from rfl,cat_mk (by simp;omega)]
    simp only [bS]
    rw [cat_mk (by simp;omega)]
    simp only [bS]
    rw [w64_succ (by omega),show_loop v (by rw [size_bs];exact hv) r n (k+1) _ hr (by omega) (by simp;omega),quoL_cons,hq]
    simp
   | false =>
    rw [hsl]
    simp only [cond_false,bS]
    rw [cat_mk (by simp;omega)]
    simp only [bS]
    rw [w64_succ (by omega),show_loop v (by rw [size_bs];exact hv) r n (k+1) _ hr (by omega) (by simp;omega),quoL_cons,hq]
    simp
  rw [e34,e92]
  by_cases c:b=34
  ·rw [dT c];exact step true (by rw [dT (Or.inl c)])
  ·rw [dF c]
   simp only [cond_false]
   refine step _ ?_
   by_cases c2:b=92
   ·rw [dT c2,dT (Or.inr c2)]
   ·rw [dF c2,dF (fun h=>h.elim c c2)]
structure NumV (v:T12):Prop where
 n:I64 v.N
 s:v.S.size≤4194304
theorem show15_eq (hN:4194304 < N) {v:T12} (h:NumV v):ref15_Show N v=some (mkB (showV v)):=by
 unfold ref15_Show
 rw [valid15_eq hN v h.s]
 unfold showV
 simp only [bS]
 cases hv:vvalidV v with
 | false=>rfl
 | true =>
  simp only [Bool.not_true,cond_false,cT]
  by_cases c:v.Kind=1
  ·rw [show (v.Kind==1)=true by simp [c],digits15_eq hN h.n,if_pos c,mkB_bs];rfl
  ·rw [show (v.Kind==1)=false by simp [c],if_neg c]
   simp only [cond_false]
   have:=h.s
   rw [size_bs] at this
   exact show_loop v h.s (bs v.S) N 0 [34] rfl (by omega) (by simp;omega)
theorem apI_mk {a:List UInt8} {b:UInt8} (h:a.length+1≤4294967296):apI (mkB a) [(b.toNat:Int)]=some (mkB (a++[b])):=by
 have hb:b.toNat < 256:=b.toNat_lt
 have e:(mkB a).size=a.length:=by rw [size_bs,bs_mkB]
 have e1:mkBytes [(b.toNat:Int)]=mkB [b]:=by
  unfold mkBytes mkB
  simp
 have e2:(mkB [b]).size=1:=by rw [size_bs,bs_mkB];rfl
 unfold apI apB lim
 rw [e1,e,e2]
 simp only [List.all_cons,List.all_nil,Bool.and_true]
 rw [dT (show (0:Int)≤(b.toNat:Int) by omega),dT (show (b.toNat:Int) < 256 by omega)]
 simp only [Bool.and_self,cT]
 rw [Nat.ble_eq_true_of_le h,cT]
 congr 1
theorem wb_eq {a:List UInt8} {b:UInt8} (h:a.length+1≤4294967296):z177_28 N (b.toNat:Int) (mkB a)=some ((),mkB (a++[b])):=by
 unfold z177_28 z153_27
 rw [bS,apI_mk h];rfl
theorem gd_mk {a:List UInt8} (h:a≠[]) (hl:a.length≤4294967296):gdB (mkB a)=some ():=by
 have e:(mkB a).size=a.length:=by rw [size_bs,bs_mkB]
 unfold gdB lim
 rw [e]
 cases a with
 | nil=>exact absurd rfl h
 | cons x r =>
  have:Nat.beq (x::r).length 0=false:=rfl
  rw [this,Nat.ble_eq_true_of_le hl];rfl
theorem pshow_loop (v:T12) (hv:v.S.size≤4194304):∀ (r:List UInt8) (n k:Nat) (acc:List UInt8),(bs v.S).drop k=r→r.length < n→acc.length+2 * r.length≤16777216 →
  z101_l2 N v n (mkB acc) (k:Int)=some (mkB (acc++quoL r++[34]))
 | [],n,k,acc,h,hn,ha=>by
  obtain ⟨n,rfl⟩:∃ m,n=m+1:=⟨n-1,by simp at hn;omega⟩
  have hk:=drop_nil h
  simp only [List.length_nil] at ha
  rw [z101_l2,slt_f hk]
  simp only [cond_false]
  unfold z101_k1
  rw [show (34:Int)=(((34:UInt8).toNat:Nat):Int) from rfl,wb_eq (by omega)]
  unfold z77_29
  simp only [bS]
  rw [gd_mk (by simp) (by simp;omega)]
  simp [quoL]
 | b::r,n,k,acc,h,hn,ha=>by
  obtain ⟨n,rfl⟩:∃ m,n=m+1:=⟨n-1,by simp at hn;omega⟩
  obtain ⟨hk,hb,hr⟩:=drop_cons h
  simp only [List.length_cons] at hn ha
  rw [z101_l2,slt_t hk,sidx_bs,hb]
  rw [size_bs] at hv
  simp only [cT,Option.map_some,bS]
  have e34:(((b.toNat:Nat):Int)==34)=decide (b=34):=by
   by_cases c:b=34
   ·subst c;rfl
   ·rw [dF c]
    have:b.toNat≠34:=fun h=>c (UInt8.toNat_inj.1 h)
    simp;omega
  have e92:(((b.toNat:Nat):Int)==92)=decide (b=92):=by
   by_cases c:b=92
   ·subst c;rfl
   ·rw [dF c]
    have:b.toNat≠92:=fun h=>c (UInt8.toNat_inj.1 h)
    simp;omega
  rw [e34,e92,quoL_cons,w64_succ (by omega)]
  rw [show (92:Int)=(((92:UInt8).toNat:Nat):Int) from rfl,wb_eq (by omega),wb_eq (a:=acc) (by omega)]
  simp only [bS]
  rw [wb_eq (by simp;omega)]
  simp only [bS]
  have q2:quoB b=if b=34∨b=92 then [92,b] else [b]:=rfl
  by_cases c1:b=34
  ·rw [dT c1,cT,pshow_loop v (by rw [size_bs];exact hv) r n (k+1) _ hr (by omega) (by simp;omega),q2,if_pos (.inl c1)]
   simp
  ·rw [dF c1]
   by_cases c2:b=92
   ·rw [dT c2,cond_false,cT,pshow_loop v (by rw [size_bs];exact hv) r n (k+1) _ hr (by omega) (by simp;omega),q2,if_pos (.inr c2)]
    simp
   ·rw [dF c2,cond_false,cond_false,pshow_loop v (by rw [size_bs];exact hv) r n (k+1) _ hr (by omega) (by simp;omega),q2,if_neg (by simp [c1,c2])]
    simp
theorem show_eq (hN:4194304 < N) {v:T12} (h:NumV v):z101 N v=some (mkB (showV v)):=by
 unfold z101
 have hs:=h.s
 rw [vvalid_eq hN v h.s]
 unfold showV
 simp only [bS]
 cases hv:vvalidV v with
 | false=>rfl
 | true =>
  simp only [Bool.not_true,cond_false,cT]
  by_cases c:v.Kind=1
  ·rw [show (v.Kind==1)=true by simp [c],if_pos c,mkB_bs]
   simp only [cT]
   unfold z65
   rw [dT h.n.1,dT h.n.2];rfl
  ·rw [show (v.Kind==1)=false by simp [c],if_neg c]
   simp only [cond_false]
   rw [size_bs] at hs
   have e0:z177_26 N 34 ByteArray.empty=some ((),mkB [34]):=by
    unfold z177_26 z153_25
    rw [bS]
    have:=apI_mk (a:=[]) (b:=34) (by simp)
    have e1:mkB []=ByteArray.empty:=rfl
    rw [e1] at this
    rw [show (34:Int)=(((34:UInt8).toNat:Nat):Int) from rfl,this];rfl
   rw [e0]
   simp only [bS]
   exact pshow_loop v h.s (bs v.S) N 0 [34] rfl (by omega) (by simp;omega)
def tailV (r:List T12):List UInt8:=(r.map fun v=>[44,32]++showV v).flatten
theorem tailV_cons (v:T12) (r:List T12):tailV (v::r)=[44,32]++showV v++tailV r:=rfl
theorem tailV_len:∀ (r:List T12),(∀ v∈r,v.S.size≤4194304)→(tailV r).length≤r.length * 8388612
 | [],_=>Nat.le_refl _
 | v::r,h=>by
  have h1:=tailV_len r fun x hx=>h x (List.mem_cons_of_mem _ hx)
  have h2:=showV_len (h v List.mem_cons_self)
  rw [tailV_cons,lA,lA,List.length_cons]
  simp only [List.length_cons,List.length_nil]
  omega
def listV:List T12→List UInt8
 | []=>[40,41]
 | v::r=>[40]++showV v++tailV r++[41]
theorem listV_len {l:List T12} (hl:l.length≤4194304) (h:∀ v∈l,v.S.size≤4194304):(listV l).length≤35184397000000:=by
 cases l with
 | nil=>simp [listV]
 | cons v r =>
  have h1:=tailV_len r fun x hx=>h x (List.mem_cons_of_mem _ hx)
  have h2:=showV_len (h v List.mem_cons_self)
  simp only [listV,lA,List.length_cons,List.length_nil] at *
  omega
theorem refList_loop (hN:4194304 < N) (l:List T12) (hl:l.length≤4194304):∀ (r:List T12) (n k:Nat) (acc:List UInt8),0 < k→l.drop k=r→(∀ v∈r,NumV v)→r.length < n→acc.length+r.length * 8388612≤4611686018427387904 →
  ref15_ShowList_l2 N l n (mkB acc) (k:Int)=some (mkB (acc++tailV r++[41]))
 | [],n,k,acc,h0,h,hr,hn,ha=>by
  obtain ⟨n,rfl⟩:∃ m,n=m+1:=⟨n-1,by simp at hn;omega⟩
  rw [ref15_ShowList_l2,lt_f (drop_nil h)]
  simp only [cond_false]
  unfold ref15_ShowList_k1
  rw [show str [41]=mkB [41] from rfl,cat_mk (by simp at *;omega)]
  simp [tailV]
 | v::r,n,k,acc,h0,h,hr,hn,ha=>by
  obtain ⟨n,rfl⟩:∃ m,n=m+1:=⟨n-1,by simp at hn;omega⟩
  obtain ⟨hk,hb,hd⟩:=drop_cons h
  simp only [List.length_cons] at hn ha
  have h1:=hr v List.mem_cons_self
  have h2:=showV_len h1.s
  rw [ref15_ShowList_l2,lt_t hk,dT (show (k:Int) > 0 by omega),idx_nat,hb]
  simp only [cT,bS]
  rw [show15_eq hN h1,show str [44,32]=mkB [44,32] from rfl,cat_mk (by simp;omega)]
  simp only [bS]
  rw [cat_mk (by simp;omega)]
  simp only [bS]
  rw [w64_succ (by omega),refList_loop hN l hl r n (k+1) _ (by omega) hd (fun x hx=>hr x (List.mem_cons_of_mem _ hx)) (by omega) (by simp;omega),tailV_cons]
  simp
theorem refList_eq (hN:4194304 < N) {l:List T12} (hl:l.length≤4194304) (h:∀ v∈l,NumV v):ref15_ShowList N l=some (mkB (listV l)):=by
 unfold ref15_ShowList
 obtain ⟨M,rfl⟩:∃ m,N=m+1:=⟨N-1,by omega⟩
 cases l with
 | nil=>rw [ref15_ShowList_l2];rfl
 | cons v r =>
  have h1:=h v List.mem_cons_self
  have h2:=showV_len h1.s
  rw [ref15_ShowList_l2,show (0:Int)=((0:Nat):Int) from rfl,lt_t (by simp),dF (show ¬ ((0:Nat):Int) > ((0:Nat):Int) by omega),idx_nat]
  simp only [cT,cond_false,bS,List.getElem?_cons_zero]
  rw [show15_eq hN h1,show str [40]=mkB [40] from rfl,bS,cat_mk (by simp;omega)]
  simp only [bS,List.length_cons] at hl ⊢
  rw [w64_succ (by omega),refList_loop hN (v::r) (by simp;omega) r M 1 _ (by omega) rfl (fun x hx=>h x (List.mem_cons_of_mem _ hx)) (by omega) (by simp;omega)]
  rfl
theorem list_loop (hN:4194304 < N) (l:List T12) (hl:l.length≤4194304):∀ (r:List T12) (n k:Nat) (acc:List ByteArray),l.drop k=r→(∀ v∈r,NumV v)→r.length < n→acc.length+r.length≤4194304 →
  z100_l2 N l n acc (k:Int)=z100_k1 N (acc++r.map fun v=>mkB (showV v))
 | [],n,k,acc,h,hr,hn,ha=>by
  obtain ⟨n,rfl⟩:∃ m,n=m+1:=⟨n-1,by simp at hn;omega⟩
  rw [z100_l2,lt_f (drop_nil h)]
  simp
 | v::r,n,k,acc,h,hr,hn,ha=>by
  obtain ⟨n,rfl⟩:∃ m,n=m+1:=⟨n-1,by simp at hn;omega⟩
  obtain ⟨hk,hb,hd⟩:=drop_cons h
  simp only [List.length_cons] at hn ha
  have h1:=hr v List.mem_cons_self
  rw [z100_l2,lt_t hk,idx_nat,hb]
  simp only [cT,bS]
  rw [show_eq hN h1,bS,appL_some (by simp;omega),bS,w64_succ (by omega),list_loop hN l hl r n (k+1) _ hd (fun x hx=>hr x (List.mem_cons_of_mem _ hx)) (by omega) (by simp;omega)]
  simp
theorem join_bs (r:List T12):joinL [44,32] ((r.map fun v=>mkB (showV v)).map (·.data.toList))=match r with | []=>[] | v::r=>showV v++tailV r:=by
  have e:∀ r:List T12,(r.map fun v=>mkB (showV v)).map (·.data.toList)=r.map showV:=fun r=>by
    rw [List.map_map]
    exact List.map_congr_left fun v _=>bs_mkB _
  rw [e]
  cases r with
  | nil=>rfl
  | cons v r =>
    simp only [List.map_cons,joinL]
    unfold tailV
    rw [List.map_map];rfl
theorem list_eq (hN:4194304 < N) {l:List T12} (hl:l.length≤4194304) (h:∀ v∈l,NumV v):z100 N l=some (mkB (listV l)):=by
 unfold z100
 have:=list_loop hN l hl l N 0 [] rfl h (by omega) (by simp;omega)
 rw [show (0:Int)=((0:Nat):Int) from rfl,this]
 have hlen:=listV_len hl fun v hv=>(h v hv).s
 unfold z100_k1 z40
 rw [List.nil_append,show (str [44,32]).data.toList=[44,32] from rfl,join_bs,List.length_map,dT (show l.length≤140737488355328 by omega)]
 cases l with
 | nil=>rfl
 | cons v r =>
  simp only [listV,lA,List.length_cons,List.length_nil] at hlen
  simp only [lA]
  rw [dT (show (showV v).length+(tailV r).length≤140737488355328 by omega)]
  simp only [Bool.and_self,cT,bS]
  rw [show (⟨(showV v++tailV r).toArray⟩:ByteArray)=mkB (showV v++tailV r) from rfl,show str [40]=mkB [40] from rfl,show str [41]=mkB [41] from rfl,cat_mk (by simp;omega),bS,cat_mk (by simp;omega)]
  simp [listV]
end Gp
end
section
namespace Gp
open Go Go.Kx Gx
variable {N:Nat}
def nameV (l:List ByteArray) (i:Int):ByteArray:=if 0≤i then l[i.toNat]?.getD (str [63]) else str [63]
theorem nameV_size {l:List ByteArray} (h:∀ s∈l,s.size≤4194304) (i:Int):(bs (nameV l i)).length≤4194304:=by
 unfold nameV
 split
 ·cases hc:l[i.toNat]? with
  | none=>simp [bs,str]
  | some s =>
   have:=h s (List.mem_of_getElem? hc)
   rw [size_bs] at this
   exact this
 ·simp [bs,str]
theorem bname_eq (l:List ByteArray) (i:Int):z98 N l i=some (nameV l i):=by
 unfold z98 nameV
 by_cases c1:i < 0
 ·rw [dT c1,if_neg (by omega)];rfl
 ·obtain ⟨k,rfl⟩:=Int.eq_ofNat_of_zero_le (show 0≤i by omega)
  rw [dF c1,if_pos (by omega),idx_nat]
  by_cases c2:(k:Int)≥(l.length:Int)
  ·rw [dT c2,show l[(k:Int).toNat]? = none from List.getElem?_eq_none (by omega)];rfl
  ·have hv:=List.getElem?_eq_getElem (show k < l.length by omega)
   rw [dF c2,show l[(k:Int).toNat]? = l[k]? from rfl,hv];rfl
theorem role_eq (g:T5) (i:Int):ref41_role N g i=some (nameV g.Roles i):=by
 rw [← bname_eq (N:=N)];rfl
theorem label_eq (g:T5) (i:Int):ref41_label N g i=some (nameV (g.Decls.map (·.Name)) i):=by
  rw [← bname_eq (N:=N)]
  unfold ref41_label z98
  rw [List.length_map]
  by_cases c1:i < 0
  · rw [dT c1];rfl
  · obtain ⟨k,rfl⟩:=Int.eq_ofNat_of_zero_le (show 0≤i by omega)
    rw [idx_nat,idx_nat,List.getElem?_map]
    cases g.Decls[k]?<;>rfl
theorem labels_loop (l:List T0) (hl:l.length≤4194304):∀ (r:List T0) (n k:Nat) (acc:List ByteArray),l.drop k=r→r.length < n→acc.length+r.length≤4194304 →
    z99_l2 l n acc (k:Int)=some (acc++r.map (·.Name))
  | [],n,k,acc,h,hn,ha=>by
    obtain ⟨n,rfl⟩:∃ m,n=m+1:=⟨n-1,by simp at hn;omega⟩
    rw [z99_l2,lt_f (drop_nil h)]
    simp [z99_k1]
  | v::r,n,k,acc,h,hn,ha=>by
    obtain ⟨n,rfl⟩:∃ m,n=m+1:=⟨n-1,by simp at hn;omega⟩
    obtain ⟨hk,hb,hd⟩:=drop_cons h
    simp only [List.length_cons] at hn ha
    rw [z99_l2,lt_t hk,idx_nat,hb]
    simp only [cT,bS]
    rw [appL_some (by simp;omega),bS,w64_succ (by omega),labels_loop l hl r n (k+1) _ hd (by omega) (by simp;omega)]
    simp
theorem labels_eq (hN:4194304 < N) (l:List T0) (hl:l.length≤4194304):z99 N l=some (l.map (·.Name)) :=
  labels_loop l hl l N 0 [] rfl (by omega) (by simp;omega)
structure ShowOk (g:T5) (x:T3):Prop where
 r:∀ s∈g.Roles,s.size≤4194304
 d:g.Decls.length≤4194304
 n:∀ y∈g.Decls,y.Name.size≤4194304
 l:x.Values.length≤4194304
 v:∀ v∈x.Values,NumV v
def showE (g:T5) (x:T3):List UInt8 :=
  bs (nameV g.Roles x.Role)++(bif x.Send then [32,115,101,110,100,115,32] else [32,103,101,116,115,32])++bs (nameV (g.Decls.map (·.Name)) x.Label)++listV x.Values++(bif x.Send then [32,116,111,32] else [32,102,114,111,109,32])++bs (nameV g.Roles x.Peer)
theorem ShowOk.sizes {g:T5} {x:T3} (h:ShowOk g x):(∀ i,(bs (nameV g.Roles i)).length≤4194304)∧(∀ i,(bs (nameV (g.Decls.map (·.Name)) i)).length≤4194304)∧(listV x.Values).length≤35184397000000 :=
  ⟨nameV_size h.r,nameV_size fun s hs=>by obtain ⟨y,hy,rfl⟩:=List.mem_map.1 hs;exact h.n y hy,listV_len h.l fun v hv=>(h.v v hv).s⟩
theorem showE_len {g:T5} {x:T3} (h:ShowOk g x):(showE g x).length≤35184500000000:=by
 obtain ⟨h1,h2,h3⟩:=h.sizes
 have a1:=h1 x.Role
 have a2:=h1 x.Peer
 have a3:=h2 x.Label
 unfold showE
 cases x.Send<;>simp only [cT,cond_false,lA,List.length_cons,List.length_nil]<;>omega
theorem cat_bs {s:ByteArray} {b:List UInt8} (h:(bs s).length+b.length≤9223372036854775807):catS s (mkB b)=some (mkB (bs s++b)):=by
 have:=cat_mk (a:=bs s) (b:=b) h
 rw [mkB_bs] at this
 exact this
theorem cat_sb {s:ByteArray} {b:List UInt8} (h:b.length+(bs s).length≤9223372036854775807):catS (mkB b) s=some (mkB (b++bs s)):=by
 have:=cat_mk (a:=b) (b:=bs s) h
 rw [mkB_bs] at this
 exact this
theorem bShow_eq (hN:4194304 < N) {g:T5} {x:T3} (h:ShowOk g x):z49 N g x=some (mkB (showE g x)):=by
  obtain ⟨h1,h2,h3⟩:=h.sizes
  have a1:=h1 x.Role
  have a2:=h1 x.Peer
  have a3:=h2 x.Label
  have key:∀ a b:List UInt8,a.length≤100→b.length≤100→z49_k1 N g x (mkB a) (mkB b)=some (mkB (bs (nameV g.Roles x.Role)++a++bs (nameV (g.Decls.map (·.Name)) x.Label)++listV x.Values++b++bs (nameV g.Roles x.Peer))):=by
    intro a b ha hb
    unfold z49_k1
    rw [bname_eq,labels_eq hN _ h.d,list_eq hN h.l h.v]
    simp only [bS,bname_eq]
    rw [cat_bs (by omega),bS,cat_sb (by simp only [lA];omega),bS,cat_mk (by simp only [lA];omega),bS,cat_mk (by simp only [lA];omega),bS,cat_sb (by simp only [lA];omega),bS]
  unfold z49 showE
  cases x.Send
  · exact key _ _ (by decide) (by decide)
  · exact key _ _ (by decide) (by decide)
theorem rShow_eq (hN:4194304 < N) {g:T5} {x:T3} (h:ShowOk g x):ref41_Show N g x=some (mkB (showE g x)):=by
 obtain ⟨h1,h2,h3⟩:=h.sizes
 have a1:=h1 x.Role
 have a2:=h1 x.Peer
 have a3:=h2 x.Label
 unfold ref41_Show showE
 rw [label_eq,refList_eq hN h.l h.v]
 simp only [bS,role_eq]
 rw [cat_bs (by omega),bS]
 cases x.Send
 ·simp only [cond_false]
  rw [show str [32,103,101,116,115,32]=mkB [32,103,101,116,115,32] from rfl,show str [32,102,114,111,109,32]=mkB [32,102,114,111,109,32] from rfl,
   cat_bs (by simp;omega),bS,cat_mk (by simp;omega),bS,cat_mk (by simp;omega),bS,cat_sb (by simp;omega),bS]
  simp
 ·simp only [cT]
  rw [show str [32,115,101,110,100,115,32]=mkB [32,115,101,110,100,115,32] from rfl,show str [32,116,111,32]=mkB [32,116,111,32] from rfl,
   cat_bs (by simp;omega),bS,cat_mk (by simp;omega),bS,cat_mk (by simp;omega),bS,cat_sb (by simp;omega),bS]
  simp
end Gp
end
section
namespace Gp
open Go Go.Kx Gx
variable {N:Nat}
theorem flat_find:∀ (r:List T0) (x:Nat),x < (flat r).length→∃ (i:Nat) (d:T0) (j:Nat) (f:T4),r[i]? = some d∧d.Fields[j]? = some f∧x=(flat (r.take i)).length+j
 | [],x,h=>by simp [flat] at h
 | d::r,x,h=>by
  rw [flat_cons,lA] at h
  by_cases c:x < d.Fields.length
  ·exact ⟨0,d,x,d.Fields[x],rfl,List.getElem?_eq_getElem c,by simp [flat]⟩
  ·obtain ⟨i,e,j,f,h1,h2,h3⟩:=flat_find r (x-d.Fields.length) (by omega)
   refine ⟨i+1,e,j,f,by simpa using h1,h2,?_⟩
   rw [List.take_succ_cons,flat_cons,lA]
   omega
theorem var_loop (l:List T0) (hl:l.length≤4194304) (hfl:(flat l).length≤4194304) {i j:Nat} {d:T0} {f:T4} (hi:l[i]? = some d) (hj:d.Fields[j]? = some f):∀ (q n k:Nat),i=k+q→q < n →
  z152_l2 l n (((flat (l.take i)).length+j-(flat (l.take k)).length:Nat):Int) (k:Int)=some (d,f,true)
 | 0,n,k,hq,hn=>by
  obtain ⟨n,rfl⟩:∃ m,n=m+1:=⟨n-1,by omega⟩
  obtain rfl:i=k:=by omega
  have hk:=(List.getElem?_eq_some_iff.1 hi).1
  have hjl:=(List.getElem?_eq_some_iff.1 hj).1
  rw [show (flat (l.take i)).length+j-(flat (l.take i)).length=j by omega,z152_l2,lt_t hk,idx_nat,hi]
  simp only [cT,bS]
  rw [dT (show (j:Int)≥0 by omega),lt_t hjl,idx_nat,hj];rfl
 | q+1,n,k,hq,hn=>by
  obtain ⟨n,rfl⟩:∃ m,n=m+1:=⟨n-1,by omega⟩
  have hi':=(List.getElem?_eq_some_iff.1 hi).1
  have hk:k < l.length:=by omega
  have hg:=List.getElem?_eq_getElem hk
  have hnx:=flat_next hg
  have hmono:(flat (l.take (k+1))).length≤(flat (l.take i)).length:=by
   have:=flat_take_le (l.take i) (k+1)
   rw [List.take_take,show min (k+1) i=k+1 by omega] at this
   exact this
  have htot:=flat_take_le l (i+1)
  have hn2:=flat_next hi
  have hjl:=(List.getElem?_eq_some_iff.1 hj).1
  rw [z152_l2,lt_t hk,idx_nat,hg]
  simp only [cT,bS]
  rw [dT (show (((flat (l.take i)).length+j-(flat (l.take k)).length:Nat):Int)≥0 by omega),lt_f (by omega)]
  simp only [cT,cond_false]
  rw [w64_succ (by omega),w64_id (by omega) (by omega)]
  have:=var_loop l hl hfl hi hj q n (k+1) (by omega) (by omega)
  rw [← this]
  congr 1
  omega
theorem name_loop (l:List T0) (hl:l.length≤4194304) (hfl:(flat l).length≤4194304) (hv:validD l=true) (hnm:∀ x∈l,NameD x) {i j:Nat} {d:T0} {f:T4} (hi:l[i]? = some d) (hj:d.Fields[j]? = some f) {x:Int} (hx:x=(((flat (l.take i)).length+j:Nat):Int)):∀ (q n k:Nat),i=k+q→q < n →
  ref41_name_l2 l x n (k:Int)=some (mkB (bs d.Name++[46]++bs f.Name),f.Sort'.Kind==2)
 | 0,n,k,hq,hn=>by
  obtain ⟨n,rfl⟩:∃ m,n=m+1:=⟨n-1,by omega⟩
  obtain rfl:i=k:=by omega
  have hk:=(List.getElem?_eq_some_iff.1 hi).1
  have hjl:=(List.getElem?_eq_some_iff.1 hj).1
  have htot:=flat_take_le l (i+1)
  have hn2:=flat_next hi
  obtain ⟨first,h1,_,_,_,h2⟩:=valid_at hv hi
  unfold declV at h2
  simp only [Bool.and_eq_true,decide_eq_true_eq] at h2
  have hF:=h2.2.2.1
  obtain ⟨n1,n2⟩:=hnm d (List.mem_of_getElem? hi)
  have n2:=n2 f (List.mem_of_getElem? hj)
  rw [size_bs] at n1 n2
  rw [ref41_name_l2,lt_t hk,idx_nat,hi]
  simp only [cT,bS]
  rw [hF,hx,dT (by omega),w64_id (by omega) (by omega),dT (by omega)]
  simp only [cT]
  rw [w64_id (by omega) (by omega),idx_int (k:=j) (by omega),hj]
  simp only [bS]
  rw [show str [46]=mkB [46] from rfl,cat_bs (by simp;omega),bS,cat_sb (by simp;omega)];rfl
 | q+1,n,k,hq,hn=>by
  obtain ⟨n,rfl⟩:∃ m,n=m+1:=⟨n-1,by omega⟩
  have hi':=(List.getElem?_eq_some_iff.1 hi).1
  have hk:k < l.length:=by omega
  have hg:=List.getElem?_eq_getElem hk
  have hnx:=flat_next hg
  have hmono:(flat (l.take (k+1))).length≤(flat (l.take i)).length:=by
   have:=flat_take_le (l.take i) (k+1)
   rw [List.take_take,show min (k+1) i=k+1 by omega] at this
   exact this
  have htot:=flat_take_le l (i+1)
  have hn2:=flat_next hi
  have hjl:=(List.getElem?_eq_some_iff.1 hj).1
  obtain ⟨first,h1,_,_,_,h2⟩:=valid_at hv hg
  unfold declV at h2
  simp only [Bool.and_eq_true,decide_eq_true_eq] at h2
  have hF:=h2.2.2.1
  rw [ref41_name_l2,lt_t hk,idx_nat,hg]
  simp only [cT,bS]
  rw [hF,dT (show x≥_ by omega),w64_id (by omega) (by omega),dF (by omega)]
  simp only [cT,cond_false]
  rw [w64_succ (by omega)]
  exact name_loop l hl hfl hv hnm hi hj hx q n (k+1) (by omega) (by omega)
theorem path_both (hN:4194304 < N) {l:List T0} (hl:l.length≤1000) (hd:∀ x∈l,SizeD x) (hv:validD l=true) (hnm:∀ x∈l,NameD x) {x:Int} (h0:0≤x) (h1:x < ((flat l).length:Int)) :
  ∃ s u t,s.length≤16777216∧u.length≤16777216∧z74 N l x=some (mkB s)∧ref41_name N l x=some (mkB s,t)∧z151 N l x=some (mkB u)∧ref41_number N l x=some (mkB u):=by
 have hfl:(flat l).length≤4194304:=by
  unfold validD at hv
  simp only [Bool.and_eq_true,decide_eq_true_eq] at hv
  omega
 obtain ⟨k,rfl⟩:=Int.eq_ofNat_of_zero_le h0
 obtain ⟨i,d,j,f,hi,hj,hx⟩:=flat_find l k (by omega)
 have hil:=(List.getElem?_eq_some_iff.1 hi).1
 have e1:=var_loop l (by omega) hfl hi hj i N 0 (by omega) (by omega)
 rw [show (flat (l.take i)).length+j-(flat (l.take 0)).length=k by simp [flat] at *;omega] at e1
 have e2:=name_loop l (by omega) hfl hv hnm hi hj (x:=(k:Int)) (by omega) i N 0 (by omega) (by omega)
 obtain ⟨n1,n2⟩:=hnm d (List.mem_of_getElem? hi)
 have n2:=n2 f (List.mem_of_getElem? hj)
 rw [size_bs] at n1 n2
 have e1:z152 N l (k:Int)=some (d,f,true):=e1
 have e2:ref41_name N l (k:Int)=some (mkB (bs d.Name++[46]++bs f.Name),f.Sort'.Kind==2):=e2
 have e3:z74 N l (k:Int)=some (mkB (bs d.Name++[46]++bs f.Name)):=by
  unfold z74
  rw [e1]
  simp only [bS]
  rw [show str [46]=mkB [46] from rfl,cat_bs (by simp;omega),bS,cat_sb (by simp;omega)];rfl
 cases hk:(f.Sort'.Kind==2) with
 | true =>
  refine ⟨_,[108,101,110,40]++(bs d.Name++[46]++bs f.Name)++[41],true,by simp;omega,by simp;omega,e3,by rw [e2,hk],?_,?_⟩
  ·unfold z151
   rw [e1]
   simp only [bS,hk,cT]
   rw [e3,bS,show str [108,101,110,40]=mkB [108,101,110,40] from rfl,show str [41]=mkB [41] from rfl,cat_mk (by simp;omega),bS,cat_mk (by simp;omega)];rfl
  ·unfold ref41_number
   rw [e2]
   simp only [bS,hk,cT]
   rw [show str [108,101,110,40]=mkB [108,101,110,40] from rfl,show str [41]=mkB [41] from rfl,cat_mk (by simp;omega),bS,cat_mk (by simp;omega)];rfl
 | false =>
  refine ⟨bs d.Name++[46]++bs f.Name,bs d.Name++[46]++bs f.Name,false,by simp only [lA,List.length_cons,List.length_nil];omega,by simp only [lA,List.length_cons,List.length_nil];omega,e3,by rw [e2,hk],?_,?_⟩
  ·unfold z151
   rw [e1]
   simp only [bS,hk,cond_false]
   exact by rw [e3];rfl
  ·unfold ref41_number
   rw [e2,hk];rfl
theorem itoa_bs (n:Int):(bs (itoaS n)).length≤26:=by rw [← size_bs];exact itoa_len n
theorem diffOk_of {fl:List T4} {g:T6} (h:guardV fl g=true) {d:T1} (hd:d∈g.Diffs):diffOk (fl.length:Int) d:=by
 unfold guardV at h
 simp only [Bool.and_eq_true,decide_eq_true_eq] at h
 have h3:=h.2.1
 rw [allV_iff] at h3
 obtain ⟨i,hi⟩:=List.mem_iff_getElem?.1 hd
 exact of_decide_eq_true (h3 i d hi)
theorem bounds_some (hN:4194304 < N) (d:T0) (hd:SizeD d):∃ r,z72 N d=some r :=
 bounds_l4 hN d hd d.Fields 0 N [] rfl (by have:=hd.f;omega) (by have:=hd.f;simp;omega)
def rdiff (N:Nat) (l:List T0) (d:T1):Option ByteArray :=
 bif decide (d.X < (0:Int)) then (bif decide (d.Y < (0:Int)) then ((ref09_Digits N d.C).bind fun x13=>(catS (str [48,32,60,61,32]) x13).bind fun x14=>some x14)
  else (ref41_number N l d.Y).bind fun x19=>(catS x19 (str [32,62,61,32])).bind fun x20=>(ref09_Digits N (w64 (0-d.C))).bind fun x21=>(catS x20 x21).bind fun x22=>some x22)
 else bif decide (d.Y < (0:Int)) then ((ref41_number N l d.X).bind fun x33=>(catS x33 (str [32,60,61,32])).bind fun x34=>(ref09_Digits N d.C).bind fun x35=>(catS x34 x35).bind fun x36=>some x36)
 else (ref41_number N l d.X).bind fun x41=>(catS x41 (str [32,60,61,32])).bind fun x42=>(ref41_number N l d.Y).bind fun x43=>(catS x42 x43).bind fun x44 =>
  bif decide (d.C > (0:Int)) then ((catS x44 (str [32,43,32])).bind fun x45=>(ref09_Digits N d.C).bind fun x46=>(catS x45 x46).bind fun x47=>some x47)
  else bif decide (d.C < (0:Int)) then ((catS x44 (str [32,45,32])).bind fun x48=>(ref09_Digits N (w64 (0-d.C))).bind fun x49=>(catS x48 x49).bind fun x50=>some x50)
  else some x44
theorem diff_both (hN:4194304 < N) {l:List T0} (hl:l.length≤1000) (hd:∀ x∈l,SizeD x) (hv:validD l=true) (hnm:∀ x∈l,NameD x) {d:T1} (h:diffOk ((flat l).length:Int) d) :
  ∃ s:List UInt8,s.length≤67108864∧z73 N l d=some (mkB s)∧rdiff N l d=some (mkB s):=by
 obtain ⟨a1,a2,a3,a4,a5,a6⟩:=h
 have hc:I64 d.C:=⟨by omega,by omega⟩
 have hw:w64 (0-d.C)=-d.C:=by rw [w64_id (by omega) (by omega)];omega
 have hm:I64 (-d.C):=⟨by omega,by omega⟩
 have l1:=itoa_bs d.C
 have l2:=itoa_bs (-d.C)
 unfold z73 rdiff
 by_cases cX:d.X < 0
 ·rw [dT cX]
  by_cases cY:d.Y < 0
  ·rw [dT cY]
   simp only [cT]
   unfold z73_k1
   rw [itoa_eq hc,digits09_eq hN hc]
   simp only [cT,bS]
   rw [show str [48,32,60,61,32]=mkB [48,32,60,61,32] from rfl,cat_sb (by simp;omega)]
   exact ⟨_,by simp;omega,rfl,rfl⟩
  ·obtain ⟨s,u,t,_,b2,_,_,e3,e4⟩:=path_both hN hl hd hv hnm (x:=d.Y) (by omega) a4
   rw [dF cY]
   simp only [cT,cond_false]
   unfold z73_k1
   rw [dT cX,dF cY,hw,itoa_eq hm,digits09_eq hN hm,e3,e4]
   simp only [cT,cond_false,bS]
   rw [show str [32,62,61,32]=mkB [32,62,61,32] from rfl,cat_mk (by simp;omega)]
   simp only [bS]
   rw [cat_sb (by simp;omega)]
   exact ⟨_,by simp;omega,rfl,rfl⟩
 ·rw [dF cX]
  simp only [cond_false]
  unfold z73_k1
  obtain ⟨s,u,t,_,b2,_,_,e3,e4⟩:=path_both hN hl hd hv hnm (x:=d.X) (by omega) a2
  by_cases cY:d.Y < 0
  ·rw [dT cY,itoa_eq hc,digits09_eq hN hc,e3,e4]
   simp only [cT,cond_false,bS]
   rw [show str [32,60,61,32]=mkB [32,60,61,32] from rfl,cat_mk (by simp;omega)]
   simp only [bS]
   rw [cat_sb (by simp;omega)]
   exact ⟨_,by simp;omega,rfl,rfl⟩
  ·obtain ⟨s',u',t',_,b2',_,_,e3',e4'⟩:=path_both hN hl hd hv hnm (x:=d.Y) (by omega) a4
   rw [dF cX,dF cY,e3,e4,e3',e4']
   simp only [cT,cond_false,bS]
   rw [show str [32,60,61,32]=mkB [32,60,61,32] from rfl,cat_mk (by simp;omega)]
   simp only [bS]
   rw [cat_mk (by simp;omega)]
   simp only [bS]
   by_cases p1:d.C > 0
   ·rw [dT p1,itoa_eq hc,digits09_eq hN hc]
    simp only [cT,bS]
    rw [show str [32,43,32]=mkB [32,43,32] from rfl,cat_mk (by simp;omega)]
    simp only [bS]
    rw [cat_sb (by simp;omega)]
    exact ⟨_,by simp;omega,rfl,rfl⟩
   ·rw [dF p1]
    by_cases p2:d.C < 0
    ·rw [dT p2,hw,itoa_eq hm,digits09_eq hN hm]
     simp only [cT,cond_false,bS]
     rw [show str [32,45,32]=mkB [32,45,32] from rfl,cat_mk (by simp;omega)]
     simp only [bS]
     rw [cat_sb (by simp;omega)]
     exact ⟨_,by simp;omega,rfl,rfl⟩
    ·rw [dF p2]
     exact ⟨_,by simp;omega,rfl,rfl⟩
theorem atom_both (hN:4194304 < N) (l:List T0) (hl:l.length≤1000) (hd:∀ x∈l,SizeD x) (hnm:∀ x∈l,NameD x) {at' part:Int} (hp:I64 part) :
  ∃ s:List UInt8,s.length≤67108864∧z39 N l at' part=some (mkB s)∧ref41_Atom N l at' part=some (mkB s):=by
 have none':∃ s:List UInt8,s.length≤67108864∧some (str [])=some (mkB s)∧some (str [])=some (mkB s):=⟨[],by simp,rfl,rfl⟩
 unfold z39 ref41_Atom z37
 rw [refValid_eq hN l (by omega) hd hnm,valid_eq hN l (by omega) hd hnm]
 simp only [bS]
 by_cases c1:at' < 0
 ·rw [dT c1]
  cases validD l<;>exact none'
 rw [dF c1]
 by_cases c2:at'≥(l.length:Int)
 ·rw [dT c2]
  cases validD l<;>exact none'
 rw [dF c2]
 simp only [cond_false]
 cases hv:validD l with
 | false=>exact none'
 | true =>
 obtain ⟨k,rfl⟩:=Int.eq_ofNat_of_zero_le (show 0≤at' by omega)
 have hk:k < l.length:=by omega
 have hg:=List.getElem?_eq_getElem hk
 generalize hy:l[k]=y at hg
 have hmem:=List.mem_of_getElem? hg
 obtain ⟨r,er⟩:=bounds_some hN y (hd y hmem)
 have e0:((0:Int) != 0)=false:=rfl
 simp only [Bool.not_true,cond_false,idx_nat,hg,bS,er,e0]
 by_cases c3:part < 0
 ·rw [dT c3];exact none'
 rw [dF c3]
 simp only [cond_false]
 obtain ⟨p,rfl⟩:=Int.eq_ofNat_of_zero_le (show 0≤part by omega)
 have hgv:guardV (flat l) y.Guard=true:=by
  obtain ⟨_,_,_,_,_,h2⟩:=valid_at hv hg
  exact guard_of h2
 have hin:=inG_of hgv
 have h1:=hin.dl
 have h2:=hin.el
 have hpp:ref41_Parts N y=some (((y.Guard.Diffs.length+y.Guard.Equals.length:Nat)):Int):=by
  unfold ref41_Parts
  rw [w64_id (by omega) (by omega)]
  congr 1
 rw [hpp]
 simp only [bS]
 by_cases c4:p < y.Guard.Diffs.length
 ·have hx:=List.getElem?_eq_getElem c4
  rw [lt_t c4,dF (show ¬ (p:Int)≥((y.Guard.Diffs.length+y.Guard.Equals.length:Nat):Int) by omega),dF (show ¬ (p:Int)≥(y.Guard.Diffs.length:Int) by omega),idx_nat,hx]
  obtain ⟨s,q1,q2,q3⟩:=diff_both hN hl hd hv hnm (diffOk_of hgv (List.mem_of_getElem? hx))
  simp only [cT,cond_false,bS]
  refine ⟨s,q1,by rw [q2];rfl,?_⟩
  rw [← q3]
  unfold rdiff
  cases decide ((y.Guard.Diffs[p]).X < 0)<;>cases decide ((y.Guard.Diffs[p]).Y < 0)<;>rfl
 ·rw [lt_f (by omega)]
  simp only [cond_false]
  have hi:=hp.2
  have hw:w64 ((p:Int)-(y.Guard.Diffs.length:Int))=((p-y.Guard.Diffs.length:Nat):Int):=by rw [w64_id (by omega) (by omega)];omega
  rw [hw]
  by_cases c5:p-y.Guard.Diffs.length < y.Guard.Equals.length
  ·have hx:=List.getElem?_eq_getElem c5
   rw [lt_t c5,dF (show ¬ (p:Int)≥((y.Guard.Diffs.length+y.Guard.Equals.length:Nat):Int) by omega),dT (show (p:Int)≥(y.Guard.Diffs.length:Int) by omega),idx_nat,hx]
   obtain ⟨⟨a1,a2⟩,a3,a4⟩:=hin.e _ (List.mem_of_getElem? hx)
   obtain ⟨s,u,t,b1,_,q1,q2,_,_⟩:=path_both hN hl hd hv hnm a1 a2
   obtain ⟨s',u',t',b1',_,q1',q2',_,_⟩:=path_both hN hl hd hv hnm a3 a4
   simp only [cT,cond_false,bS,q1,q2,q1',q2']
   rw [show str [32,61,61,32]=mkB [32,61,61,32] from rfl,cat_mk (by simp;omega)]
   simp only [bS]
   rw [cat_mk (by simp;omega)]
   exact ⟨_,by simp;omega,rfl,rfl⟩
  ·rw [lt_f (by omega),dT (show (p:Int)≥((y.Guard.Diffs.length+y.Guard.Equals.length:Nat):Int) by omega)]
   exact none'
end Gp
end
section
namespace Gp
open Go Go.Kx Gx
variable {N:Nat} {g:T5} {m:T8}
theorem loop_to {β:Type} {F:Nat→Int→Option β} {j:Nat} {r:Option β} (h1:∀ i n,i < j→F (n+1) (i:Int)=F n ((i+1:Nat):Int)) (h2:∀ n,F (n+1) (j:Int)=r):∀ (q n k:Nat),j=k+q→q < n→F n (k:Int)=r
 | 0,n,k,h,hn=>by
  obtain ⟨n,rfl⟩:∃ z,n=z+1:=⟨n-1,by omega⟩
  obtain rfl:j=k:=by omega
  exact h2 n
 | q+1,n,k,h,hn=>by
  obtain ⟨n,rfl⟩:∃ z,n=z+1:=⟨n-1,by omega⟩
  rw [h1 k n (by omega)]
  exact loop_to h1 h2 q n (k+1) (by omega) (by omega)
theorem sort_good (hN:4194304 < N) {d:T0} {l:List T12} (hl:l.length≤4194304) (hs:∀ v∈l,v.S.size≤4194304) (hlen:l.length=d.Fields.length) {i:Nat} (hi:i < l.length) (h:∀ f v,d.Fields[i]? = some f→l[i]? = some v→vfitV f.Sort' v=true) (n:Nat) :
  ref41_sort_l2 N d l (n+1) (i:Int)=ref41_sort_l2 N d l n ((i+1:Nat):Int):=by
 have c1:=List.getElem?_eq_getElem hi
 have c2:=List.getElem?_eq_getElem (show i < d.Fields.length by omega)
 rw [ref41_sort_l2,lt_t hi,idx_nat,idx_nat,c1,c2]
 simp only [cT,bS]
 rw [fits15_eq hN _ _ (hs _ (List.mem_of_getElem? c1)),h _ _ c2 c1,w64_succ (by omega)];rfl
theorem sort_none (hN:4194304 < N) {d:T0} {l:List T12} (hl:l.length≤4194304) (hs:∀ v∈l,v.S.size≤4194304) (h:FitsL d.Fields l):ref41_sort N d l=some (-1) :=
 loop_to (F:=ref41_sort_l2 N d l) (j:=l.length) (fun i n hi=>sort_good hN hl hs h.1.symm hi (fun f v a b=>h.2 i f v a b) n)
  (fun n=>by rw [ref41_sort_l2,lt_f (Nat.le_refl _)];rfl) l.length N 0 (by omega) (by omega)
theorem sort_some (hN:4194304 < N) {d:T0} {l:List T12} (hl:l.length≤4194304) (hs:∀ v∈l,v.S.size≤4194304) (hlen:l.length=d.Fields.length) {j:Nat} {f v} (hf:d.Fields[j]? = some f) (hv:l[j]? = some v) (hb:vfitV f.Sort' v=false)
  (h:∀ (i:Nat) f v,i < j→d.Fields[i]? = some f→l[i]? = some v→vfitV f.Sort' v=true):ref41_sort N d l=some (j:Int):=by
 have hj:=(List.getElem?_eq_some_iff.1 hv).1
 refine loop_to (F:=ref41_sort_l2 N d l) (j:=j) (fun i n hi=>sort_good hN hl hs hlen (by omega) (fun f v a b=>h i f v hi a b) n) (fun n=>?_) j N 0 (by omega) (by omega)
 rw [ref41_sort_l2,lt_t hj,idx_nat,idx_nat,hv,hf]
 simp only [cT,bS]
 rw [fits15_eq hN _ _ (hs _ (List.mem_of_getElem? hv)),hb];rfl
theorem parts_eq (d:T0) (h:d.Guard.Diffs.length≤20∧d.Guard.Equals.length≤20):ref41_Parts N d=some (((d.Guard.Diffs.length+d.Guard.Equals.length:Nat)):Int):=by
 unfold ref41_Parts
 rw [w64_id (by omega) (by omega)]
 congr 1
theorem guard_next {d:T0} {vs ks:List T12} (hg:d.Guard.Diffs.length≤20∧d.Guard.Equals.length≤20) {i:Nat} (hi:i < d.Guard.Diffs.length+d.Guard.Equals.length) {b:Bool} (h:ref41_Holds N d vs ks (i:Int)=some b) (n:Nat) :
  ref41_guard_l2 N d vs ks (n+1) (i:Int)=bif b then ref41_guard_l2 N d vs ks n ((i+1:Nat):Int) else some (i:Int):=by
 rw [ref41_guard_l2,parts_eq d hg,bS,lt_t hi,h,w64_succ (by omega)]
 cases b<;>rfl
theorem guard_end {d:T0} {vs ks:List T12} (hg:d.Guard.Diffs.length≤20∧d.Guard.Equals.length≤20) (n:Nat) :
  ref41_guard_l2 N d vs ks (n+1) ((d.Guard.Diffs.length+d.Guard.Equals.length:Nat):Int)=some (-1):=by
 rw [ref41_guard_l2,parts_eq d hg,bS,lt_f (Nat.le_refl _)];rfl
theorem differ_at {a b:List T12} (hl:a.length≤4194304) {j:Nat} {x y:T12} (hx:a[j]? = some x) (hy:b[j]? = some y) (hne:x≠y) (h:∀ i,i < j→∃ v,a[i]? = some v∧b[i]? = some v) (hN:4194304 < N):ref41_differ N a b=some (j:Int):=by
 have hj:=(List.getElem?_eq_some_iff.1 hx).1
 have hj2:=(List.getElem?_eq_some_iff.1 hy).1
 refine loop_to (F:=ref41_differ_l2 a b) (j:=j) (fun i n hi=>?_) (fun n=>?_) j N 0 (by omega) (by omega)
 ·obtain ⟨v,v1,v2⟩:=h i hi
  rw [ref41_differ_l2,lt_t (show i < a.length by omega),lt_t (show i < b.length by omega),idx_nat,idx_nat,v1,v2]
  simp only [cT,bS]
  show (bif !(eqB v v) then _ else _)=_
  rw [(eqB_iff v v).2 rfl,w64_succ (by omega)];rfl
 ·rw [ref41_differ_l2,lt_t hj,lt_t hj2,idx_nat,idx_nat,hx,hy]
  simp only [cT,bS]
  show (bif !(eqB x y) then _ else _)=_
  rw [eqB_f hne];rfl
theorem hit_of {s:T16} {x:T3} {q:T16 × Int} (hR:StepR (N:=N) g m s x q) (he:q.2=11∨q.2=17):∃ (i:Nat) (y:T9),m.Moves[i]? = some y∧hitM y s.At x=true:=by
 cases hR with
 | role _=>rcases he with h | h<;>cases h
 | move _ _=>rcases he with h | h<;>cases h
 | type _ h1 h2 _ _=>exact ⟨_,_,h1,h2⟩
 | guard _ h1 h2 _ _ _=>exact ⟨_,_,h1,h2⟩
 | ok h1 h2 h3 h4 h5 _ _ _ _ _=>exact ⟨_,_,h2,h3⟩
theorem refMove_hit (hN:4194304 < N) (hm:m.Moves.length≤4194304) {s:T16} {x:T3} {i:Nat} {y:T9} (h1:m.Moves[i]? = some y) (h2:hitM y s.At x=true):∃ k:Nat,ref40_Move N m s.At x=some (k:Int):=by
 obtain ⟨z,_,e,h⟩:=move_both hN m hm s x
 rcases h with ⟨_,h⟩ | ⟨k,_,rfl,_,_⟩
 ·rw [h i y h1] at h2;cases h2
 ·exact ⟨k,e⟩
theorem pend_len (c:Ctx0 N g m) (hX:AgrX g m) {l:List T3} {j:Nat} {t:T16} {x:T3} (hI:InvF g m l j t) (hj:j < l.length) {i:Nat} {y:T9} {d:T0} (hy:m.Moves[i]? = some y) (hh:hitM y t.At x=true) (hd:idx g.Decls x.Label=some d) (hfl:FitsL d.Fields x.Values) (hag:y.Again=true):t.Pending.length=x.Values.length:=by
 have hap:=apM_iff.1 hX.mv.ap
 obtain ⟨g1,g2⟩:=hap i y hy
 obtain ⟨a1,a2,_⟩:=(agM_iff y).1 g1 hag
 rw [hit_iff'] at hh
 by_cases hj0:j=0
 ·exact absurd (hh.1.trans (hI.z hj0)) a2
 ·obtain ⟨j',rfl⟩:∃ z,j=z+1:=⟨j-1,by omega⟩
  have hx':=List.getElem?_eq_getElem (show j' < l.length by omega)
  obtain ⟨k',u,hu,hu1,hu2,hu3⟩:=hI.b j' _ rfl hx'
  obtain ⟨s1,s2⟩:=((prM_iff y i u k').1 (g2 k' u hu)).2 hag (by rw [hu1,hh.1])
  obtain ⟨d',hd',hf'⟩:=hI.f j' _ rfl hx'
  have hp:=hI.p j' _ rfl hx'
  rw [hu2] at s1
  rw [s1] at hp
  have hp:t.Pending=(l[j']).Values:=hp
  rw [← hu3,s2,hh.2.2.2,hd] at hd'
  cases hd'
  rw [hp,← hf'.1,hfl.1]
theorem ne_at {x p:List T12} {q:Nat} (hlen:p.length=x.length) (hne:x≠p) (hle:q≤x.length) (hpre:∀ i,i < q→∃ v,x[i]? = some v∧p[i]? = some v) (hdif:q < x.length→x[q]? ≠ p[q]?):∃ a b,x[q]? = some a∧p[q]? = some b∧a≠b:=by
 have hq:q < x.length:=by
  refine Nat.lt_of_le_of_ne hle fun e=>hne ?_
  subst e
  refine List.ext_getElem? fun z=>?_
  by_cases hz:z < x.length
  ·obtain ⟨v,w1,w2⟩:=hpre z hz
   rw [w1,w2]
  ·rw [List.getElem?_eq_none (by omega),List.getElem?_eq_none (by omega)]
 have c1:=List.getElem?_eq_getElem hq
 have c2:=List.getElem?_eq_getElem (show q < p.length by omega)
 have:=hdif hq
 rw [c1,c2] at this
 exact ⟨_,_,c1,c2,fun e=>this (by rw [e])⟩
theorem hold_at (c:Ctx0 N g m) {t:T16} (hS:StM g m t) {d:T0} {x:T3} {first:Nat} (hfl:FitsL d.Fields x.Values) (hf:d.First=(first:Int)) (hle:first+x.Values.length≤t.Known.length) (hin:InG t.Known.length d.Guard) (hkn:KnownL (flat g.Decls) (behindV first x.Values t.Known)) {j:Nat} (hj:j < d.Guard.Diffs.length+d.Guard.Equals.length) :
  ref41_Holds N d x.Values t.Known (j:Int)=some (partB d.Guard (behindV first x.Values t.Known) j) :=
 holds_eq d hf hfl hle (stM_known c hS) (num_all hkn) hin hj
theorem refKind_eq (c:Ctx0 N g m) (hX:AgrX g m) {l:List T3} {j:Nat} {t:T16} {x:T3} (hS:StM g m t) (hI:InvF g m l j t) (hj:j < l.length) (hx:SizeE x) {q:T16 × Int} (hR:StepR (N:=N) g m t x q) {e k p:Int} (he:q.2=e) (hk:KindP g m t x e k p) (vb:Int) :
  ref41_Find_k1 N g m (t,(j:Int),e) x vb=some (⟨(j:Int),k,p,bif k==1 then x.Role else vb⟩,true,0):=by
 have hN:=c.hN
 have hm:m.Moves.length≤4194304:=by have:=c.a.n.n;omega
 have role:x.Role=m.Role→(x.Role != m.Role)=false:=fun h=>by simp [h]
 have mv:e=11∨e=17→∃ k:Nat,ref40_Move N m t.At x=some (k:Int):=fun h=>by
  obtain ⟨i,y,h1,h2⟩:=hit_of hR (by rw [he];exact h)
  exact refMove_hit hN hm h1 h2
 have nn:∀ k:Nat,decide ((k:Int) < 0)=false:=fun k=>by simp
 have nn':∀ k:Nat,decide ((k:Int)≥0)=true:=fun k=>by simp
 have m1:decide ((-1:Int)≥0)=false:=rfl
 unfold ref41_Find_k1
 cases hk with
 | stranger h =>
  rw [show (x.Role != m.Role)=true by simp [h]];rfl
 | move h hno =>
  rw [role h]
  obtain ⟨z,_,ez,hz⟩:=move_both hN m hm t x
  rcases hz with ⟨rfl,_⟩ | ⟨i,y,rfl,h1,h2⟩
  ·simp only [cond_false,ez,bS];rfl
  ·rw [hno i y h1] at h2;cases h2
 | count h hd hne =>
  obtain ⟨z,ez⟩:=mv (.inl rfl)
  rw [role h]
  simp only [cond_false,ez,bS,nn,hd]
  rw [lenI_ne,dF hne];rfl
 | sort h hd hlen hf hv hbad hgood =>
  obtain ⟨z,ez⟩:=mv (.inl rfl)
  rw [role h]
  simp only [cond_false,ez,bS,nn,hd]
  rw [lenI_ne,dT hlen,sort_some hN hx.l hx.s hlen hf hv hbad hgood]
  simp only [Bool.not_true,cond_false,bS,nn',cT];rfl
 | guard h hd hfl hf hle hin hkn hj' hbad hgood =>
  obtain ⟨z,ez⟩:=mv (.inr rfl)
  rename_i d i first
  have hg:ref41_guard N d x.Values t.Known=some (i:Int):=by
   have hl:=hin.dl
   have hl2:=hin.el
   refine loop_to (F:=ref41_guard_l2 N d x.Values t.Known) (j:=i) (fun z n hz=>?_) (fun n=>?_) i N 0 (by omega) (by omega)
   ·rw [guard_next ⟨hin.dl,hin.el⟩ (by omega) (hold_at c hS hfl hf hle hin hkn (by omega)),hgood z hz];rfl
   ·rw [guard_next ⟨hin.dl,hin.el⟩ hj' (hold_at c hS hfl hf hle hin hkn hj'),hbad];rfl
  rw [role h]
  simp only [cond_false,ez,bS,nn,hd]
  rw [lenI_ne,dT hfl.1.symm,sort_none hN hx.l hx.s hfl]
  simp only [Bool.not_true,cond_false,bS,m1,hg,nn',cT];rfl
 | same h hy hh hd hfl hag hne hle' hpre hdif hf hle hin hkn hgood =>
  obtain ⟨z,ez⟩:=mv (.inr rfl)
  rename_i i y d q' first
  have hg:ref41_guard N d x.Values t.Known=some (-1):=by
   have hl:=hin.dl
   have hl2:=hin.el
   refine loop_to (F:=ref41_guard_l2 N d x.Values t.Known) (j:=d.Guard.Diffs.length+d.Guard.Equals.length) (fun z n hz=>?_) (fun n=>guard_end ⟨hin.dl,hin.el⟩ n) (d.Guard.Diffs.length+d.Guard.Equals.length) N 0 (by omega) (by omega)
   rw [guard_next ⟨hin.dl,hin.el⟩ hz (hold_at c hS hfl hf hle hin hkn hz),hgood z hz];rfl
  obtain ⟨a,b,c1,c2,c3⟩:=ne_at (pend_len c hX hI hj hy hh hd hfl hag) hne hle' hpre hdif
  rw [role h]
  simp only [cond_false,ez,bS,nn,hd]
  rw [lenI_ne,dT hfl.1.symm,sort_none hN hx.l hx.s hfl]
  simp only [Bool.not_true,cond_false,bS,m1,hg]
  rw [differ_at hx.l c1 c2 c3 hpre hN];rfl
theorem refFind_eq (hN:4194304 < N) (hg:SizeG g) (hs:SizeN g) (hn:NumE g) (ht:m.Timeouts.length≤4194304) (l:List T3) (hl:l.length≤4194304) (he:∀ x∈l,SizeE x) :
  (∃ e,z48 N g m l=some (zeroB,false,e)∧ref41_Find N g m l=some (zeroB,false,e)) ∨
  (∃ (t:T16) (j:Nat) (x:T3) (e k p r:Int),Ctx0 N g m∧l[j]? = some x∧KindP g m t x e k p∧z48 N g m l=some (⟨(j:Int),k,p,r⟩,true,0)∧ref41_Find N g m l=some (⟨(j:Int),k,p,r⟩,true,0)):=by
 obtain ⟨q,r1,r2,_,_⟩:=Run_both hN hg hs hn ht l hl he
 rcases Find_eq hN hg hs hn ht l hl he with ⟨t,j,e,hr,h,hf⟩ | ⟨t,j,x,e,k,p,c,hX,hr,he0,he1,hrv,hx,hse,hS,hI,hk,hf⟩
 ·refine .inl ⟨e,hf,?_⟩
  rw [r1] at hr
  cases hr
  unfold ref41_Find
  rw [r2]
  rcases h with rfl | rfl<;>rfl
 ·have hxs:=he x (List.mem_of_getElem? hx)
  have hj:=(List.getElem?_eq_some_iff.1 hx).1
  obtain ⟨_,hR⟩:=refStep_eq c hn hS hxs
  rw [r1] at hr
  cases hr
  refine .inr ⟨t,j,x,e,k,p,_,c,hx,hk,hf,?_⟩
  unfold ref41_Find
  rw [r2]
  have b1:(e==1)=false:=by simp [he1]
  have b0:(e==0)=false:=by simp [he0]
  simp only [bS,b1,b0,cond_false,idx_nat,hx]
  have key:=fun vb=>refKind_eq c hX hS hI hj hxs hR hse hk vb
  cases x.Send with
  | true=>exact key _
  | false=>exact key _
end Gp
end
section
namespace Gp
open Go Go.Kx Gx
variable {N:Nat} {g:T5} {m:T8}
def rtail (N:Nat) (g_:T5) (m_:T8) (b_:T13) (x2:T3) (x4:ByteArray):Option (ByteArray × Int) :=
 bif (b_.Kind==(1:Int)) then ((catS x4 (str [105,115,32,110,111,116,32,97,110,32,101,118,101,110,116,32,111,102,32])).bind fun x5 =>
 (ref41_role N g_ m_.Role).bind fun x6 =>
 (catS x5 x6).bind fun x7 =>
 some (x7,(0:Int)))
 else bif (b_.Kind==(2:Int)) then ((catS x4 (str [105,115,32,110,111,116,32,112,101,114,109,105,116,116,101,100,32,104,101,114,101])).bind fun x8 =>
 some (x8,(0:Int)))
 else bif (b_.Kind==(3:Int)) then ((catS x4 (str [104,97,115,32])).bind fun x9 =>
 (ref09_Digits N (x2.Values.length:Int)).bind fun x10 =>
 (catS x9 x10).bind fun x11 =>
 (catS x11 (str [32,118,97,108,117,101,115,32,105,110,115,116,101,97,100,32,111,102,32])).bind fun x12 =>
 (idx g_.Decls x2.Label).bind fun x13 =>
 (ref09_Digits N (x13.Fields.length:Int)).bind fun x14 =>
 (catS x12 x14).bind fun x15 =>
 some (x15,(0:Int)))
 else bif (b_.Kind==(4:Int)) then ((idx g_.Decls x2.Label).bind fun x16 =>
 (idx x16.Fields b_.Part).bind fun x17 =>
 (catS x4 (str [104,97,115,32,116,104,101,32,118,97,108,117,101,32])).bind fun x18 =>
 (idx x2.Values b_.Part).bind fun x19 =>
 (ref15_Show N x19).bind fun x20 =>
 (catS x18 x20).bind fun x21 =>
 (catS x21 (str [32,102,111,114,32])).bind fun x22 =>
 (catS x22 x17.Name).bind fun x23 =>
 (catS x23 (str [44,32,119,104,105,99,104,32,105,115,32,110,111,116,32,102,114,111,109,32])).bind fun x24 =>
 (ref09_Digits N x17.Sort'.Lo).bind fun x25 =>
 (catS x24 x25).bind fun x26 =>
 (catS x26 (str [32,116,111,32])).bind fun x27 =>
 (ref09_Digits N x17.Sort'.Hi).bind fun x28 =>
 (catS x27 x28).bind fun x29 =>
 some (x29,(0:Int)))
 else bif (b_.Kind==(5:Int)) then ((catS x4 (str [100,111,101,115,32,110,111,116,32,107,101,101,112,32,116,104,101,32,103,117,97,114,100,32])).bind fun x30 =>
 (ref41_Atom N g_.Decls x2.Label b_.Part).bind fun x31 =>
 (catS x30 x31).bind fun x32 =>
 some (x32,(0:Int)))
 else (catS x4 (str [100,111,101,115,32,110,111,116,32,104,97,118,101,32,116,104,101,32,115,97,109,101,32,118,97,108,117,101,115,32,97,115,32,116,104,101,32,109,101,115,115,97,103,101,32,97,104,101,97,100])).bind fun x33 =>
 some (x33,(0:Int))
theorem reason_both (c:Ctx0 N g m) {t:T16} {x:T3} (hS:ShowOk g x) {e k p:Int} (hk:KindP g m t x e k p) (hp:I64 p) (j r:Int) {S:List UInt8} (hSl:S.length≤35184600000000) :
  ∃ R:List UInt8,R.length≤134217728∧z50 N g m ⟨j,k,p,r⟩ x=some (mkB R)∧rtail N g m ⟨j,k,p,r⟩ x (mkB S)=some (mkB (S++R),0):=by
 have hN:=c.hN
 obtain ⟨v1,v2⟩:=valid_len c.a.v
 have last:(∀ s:List UInt8,s=[100,111,101,115,32,110,111,116,32,104,97,118,101,32,116,104,101,32,115,97,109,101,32,118,97,108,117,101,115,32,97,115,32,116,104,101,32,109,101,115,115,97,103,101,32,97,104,101,97,100]→s.length=50):=fun s h=>by rw [h];rfl
 cases hk with
 | stranger h =>
  have a1:=(hS.sizes).1 m.Role
  refine ⟨[105,115,32,110,111,116,32,97,110,32,101,118,101,110,116,32,111,102,32]++bs (nameV g.Roles m.Role),by simp;omega,?_,?_⟩
  ·show (Option.bind (z98 N g.Roles m.Role) _)=_
   rw [bname_eq,bS]
   show (Option.bind (catS (mkB [105,115,32,110,111,116,32,97,110,32,101,118,101,110,116,32,111,102,32]) _) _)=_
   rw [cat_sb (by simp;omega)];rfl
  ·show (Option.bind (catS (mkB S) (mkB [105,115,32,110,111,116,32,97,110,32,101,118,101,110,116,32,111,102,32])) _)=_
   rw [cat_mk (by simp;omega),bS,role_eq,bS,cat_sb (by simp;omega),bS,aA]
 | move h hno =>
  refine ⟨[105,115,32,110,111,116,32,112,101,114,109,105,116,116,101,100,32,104,101,114,101],by simp,rfl,?_⟩
  show (Option.bind (catS (mkB S) (mkB [105,115,32,110,111,116,32,112,101,114,109,105,116,116,101,100,32,104,101,114,101])) _)=_
  rw [cat_mk (by simp;omega),bS]
 | count h hd hne =>
  rename_i d
  obtain ⟨i,_,hi⟩:=idx_mem hd
  have hfl:d.Fields.length≤4:=by
   obtain ⟨_,_,_,_,_,h2⟩:=valid_at c.a.v hi
   unfold declV at h2
   simp only [Bool.and_eq_true,decide_eq_true_eq] at h2
   exact h2.2.1
  have hl:=hS.l
  have i1:I64 (x.Values.length:Int):=⟨by omega,by omega⟩
  have i2:I64 (d.Fields.length:Int):=⟨by omega,by omega⟩
  have l1:=itoa_bs (x.Values.length:Int)
  have l2:=itoa_bs (d.Fields.length:Int)
  refine ⟨[104,97,115,32]++bs (itoaS (x.Values.length:Int))++[32,118,97,108,117,101,115,32,105,110,115,116,101,97,100,32,111,102,32]++bs (itoaS (d.Fields.length:Int)),by simp;omega,?_,?_⟩
  ·show (Option.bind (z65 N (x.Values.length:Int)) _)=_
   rw [itoa_eq i1,bS,show str [104,97,115,32]=mkB [104,97,115,32] from rfl,cat_sb (by simp;omega),bS,show str [32,118,97,108,117,101,115,32,105,110,115,116,101,97,100,32,111,102,32]=mkB [32,118,97,108,117,101,115,32,105,110,115,116,101,97,100,32,111,102,32] from rfl,cat_mk (by simp;omega),bS]
   simp only [hd,bS]
   rw [itoa_eq i2,bS,cat_sb (by simp;omega)];rfl
  ·show (Option.bind (catS (mkB S) (mkB [104,97,115,32])) _)=_
   rw [cat_mk (by simp;omega),bS,digits09_eq hN i1,bS,cat_sb (by simp;omega),bS,show str [32,118,97,108,117,101,115,32,105,110,115,116,101,97,100,32,111,102,32]=mkB [32,118,97,108,117,101,115,32,105,110,115,116,101,97,100,32,111,102,32] from rfl,cat_mk (by simp;omega),bS]
   simp only [hd,bS]
   rw [digits09_eq hN i2,bS,cat_sb (by simp;omega),bS]
   simp only [aA]
 | sort h hd hlen hf hv hbad hgood =>
  rename_i d q f v
  obtain ⟨i,_,hi⟩:=idx_mem hd
  have hso:=sortOk_of c.a.v (List.mem_of_getElem? hi) (List.mem_of_getElem? hf)
  have i1:I64 f.Sort'.Lo:=by unfold sortOk at hso;constructor<;>omega
  have i2:I64 f.Sort'.Hi:=by unfold sortOk at hso;constructor<;>omega
  have l1:=itoa_bs f.Sort'.Lo
  have l2:=itoa_bs f.Sort'.Hi
  have nv:=hS.v v (List.mem_of_getElem? hv)
  have l3:=showV_len nv.s
  have l4:=(c.ss.d d (List.mem_of_getElem? hi)).f f (List.mem_of_getElem? hf)
  rw [size_bs] at l4
  refine ⟨[104,97,115,32,116,104,101,32,118,97,108,117,101,32]++showV v++[32,102,111,114,32]++bs f.Name++[44,32,119,104,105,99,104,32,105,115,32,110,111,116,32,102,114,111,109,32]++bs (itoaS f.Sort'.Lo)++[32,116,111,32]++bs (itoaS f.Sort'.Hi),by simp;omega,?_,?_⟩
  ·show (Option.bind (idx g.Decls x.Label) _)=_
   rw [hd,bS]
   show (Option.bind (idx d.Fields (q:Int)) _)=_
   rw [idx_nat,hf,bS]
   show (Option.bind (idx x.Values (q:Int)) _)=_
   rw [idx_nat,hv,bS,show_eq hN nv,bS,show str [104,97,115,32,116,104,101,32,118,97,108,117,101,32]=mkB [104,97,115,32,116,104,101,32,118,97,108,117,101,32] from rfl,cat_mk (by simp;omega),bS,
    show str [32,102,111,114,32]=mkB [32,102,111,114,32] from rfl,cat_mk (by simp;omega),bS,cat_sb (by simp;omega),bS,
    show str [44,32,119,104,105,99,104,32,105,115,32,110,111,116,32,102,114,111,109,32]=mkB [44,32,119,104,105,99,104,32,105,115,32,110,111,116,32,102,114,111,109,32] from rfl,cat_mk (by simp;omega),bS,itoa_eq i1,bS,cat_sb (by simp;omega),bS,
    show str [32,116,111,32]=mkB [32,116,111,32] from rfl,cat_mk (by simp;omega),bS,itoa_eq i2,bS,cat_sb (by simp;omega)];rfl
  ·show (Option.bind (idx g.Decls x.Label) _)=_
   rw [hd,bS]
   show (Option.bind (idx d.Fields (q:Int)) _)=_
   rw [idx_nat,hf,bS,show str [104,97,115,32,116,104,101,32,118,97,108,117,101,32]=mkB [104,97,115,32,116,104,101,32,118,97,108,117,101,32] from rfl,cat_mk (by simp;omega),bS]
   show (Option.bind (idx x.Values (q:Int)) _)=_
   rw [idx_nat,hv,bS,show15_eq hN nv,bS,cat_mk (by simp;omega),bS,
    show str [32,102,111,114,32]=mkB [32,102,111,114,32] from rfl,cat_mk (by simp;omega),bS,cat_sb (by simp;omega),bS,
    show str [44,32,119,104,105,99,104,32,105,115,32,110,111,116,32,102,114,111,109,32]=mkB [44,32,119,104,105,99,104,32,105,115,32,110,111,116,32,102,114,111,109,32] from rfl,cat_mk (by simp;omega),bS,digits09_eq hN i1,bS,cat_sb (by simp;omega),bS,
    show str [32,116,111,32]=mkB [32,116,111,32] from rfl,cat_mk (by simp;omega),bS,digits09_eq hN i2,bS,cat_sb (by simp;omega),bS]
   simp only [aA]
 | guard h hd hfl hf hle hin hkn hj' hbad hgood =>
  rename_i d q first
  obtain ⟨s,b1,b2,b3⟩:=atom_both hN g.Decls (by omega) c.gg.dd c.ss.d (at':=x.Label) hp
  refine ⟨[100,111,101,115,32,110,111,116,32,107,101,101,112,32,116,104,101,32,103,117,97,114,100,32]++s,by simp;omega,?_,?_⟩
  ·show (Option.bind (z39 N g.Decls x.Label (q:Int)) _)=_
   rw [b2,bS,show str [100,111,101,115,32,110,111,116,32,107,101,101,112,32,116,104,101,32,103,117,97,114,100,32]=mkB [100,111,101,115,32,110,111,116,32,107,101,101,112,32,116,104,101,32,103,117,97,114,100,32] from rfl,cat_mk (by simp;omega)];rfl
  ·show (Option.bind (catS (mkB S) (mkB [100,111,101,115,32,110,111,116,32,107,101,101,112,32,116,104,101,32,103,117,97,114,100,32])) _)=_
   rw [cat_mk (by simp;omega),bS]
   show (Option.bind (ref41_Atom N g.Decls x.Label (q:Int)) _)=_
   rw [b3,bS,cat_mk (by simp;omega),bS,aA]
 | same h hy hh hd hfl hag hne hle' hpre hdif hf hle hin hkn hgood =>
  refine ⟨[100,111,101,115,32,110,111,116,32,104,97,118,101,32,116,104,101,32,115,97,109,101,32,118,97,108,117,101,115,32,97,115,32,116,104,101,32,109,101,115,115,97,103,101,32,97,104,101,97,100],by simp,rfl,?_⟩
  show (Option.bind (catS (mkB S) (mkB [100,111,101,115,32,110,111,116,32,104,97,118,101,32,116,104,101,32,115,97,109,101,32,118,97,108,117,101,115,32,97,115,32,116,104,101,32,109,101,115,115,97,103,101,32,97,104,101,97,100])) _)=_
  rw [cat_mk (by simp;omega),bS]
theorem part_i64 (c:Ctx0 N g m) {t:T16} {x:T3} (hl:x.Values.length≤4194304) {e k p:Int} (hk:KindP g m t x e k p):I64 p:=by
 cases hk with
 | stranger h=>exact ⟨by omega,by omega⟩
 | move h hno=>exact ⟨by omega,by omega⟩
 | count h hd hne=>exact ⟨by omega,by omega⟩
 | sort h hd hlen hf hv hbad hgood =>
  have:=(List.getElem?_eq_some_iff.1 hv).1
  exact ⟨by omega,by omega⟩
 | guard h hd hfl hf hle hin hkn hj' hbad hgood =>
  have:=hin.dl
  have:=hin.el
  exact ⟨by omega,by omega⟩
 | same h hy hh hd hfl hag hne hle' hpre hdif hf hle hin hkn hgood=>exact ⟨by omega,by omega⟩
end Gp
end
section
namespace Gp
open Go Go.Kx Gx
variable {N:Nat} {g:T5} {m:T8}
theorem open_eq (hN:4194304 < N) (ht:m.Timeouts.length≤4194304) (hv:ValidM m):z107 N m=some (some ⟨m,outM N m⟩,true):=by
 have hm:=hv.n
 unfold z107
 rw [mnum_eq hN,(numM_iff m).2 hm]
 simp only [bS,Bool.not_true,cond_false]
 rw [msorted_eq hN m hm]
 obtain ⟨b1,b2,e1,e2,e3⟩:=apart_both hN hm
 obtain ⟨b3,e4,h4⟩:=reached_iff hN hm
 have e6:=timed_eq26 (t:=⟨m,outM N m⟩) hN rfl ht
 rw [hv.ap,Bool.and_eq_true] at e3
 obtain ⟨rfl,rfl⟩:=e3
 have:b3=true:=h4.2 hv.rc
 subst this
 rw [hv.tm] at e6
 simp only [bS,e1,e2,e4,e6,cT]
theorem pairP_of (hN:4194304 < N) (hv:ValidM m):pairP m:=((apart_iff hN hv.n).2 hv.ap).1
theorem ltM_tri {x y:T9} (h1:¬ ltM x y) (h2:cmpM x y≠0):ltM y x:=by
 rw [Ne,cmpM_eq] at h2
 unfold ltM at *
 revert h1 h2
 cases x.Send<;>cases y.Send<;>simp<;>omega
def ltI (m:T8) (a b:Int):Prop:=∃ x y,m.Moves[a.toNat]? = some x∧m.Moves[b.toNat]? = some y∧ltM x y
theorem ltI_as (a b:Int) (h:ltI m a b):¬ ltI m b a:=by
 obtain ⟨x,y,h1,h2,h3⟩:=h
 rintro ⟨y',x',g1,g2,g3⟩
 rw [h1] at g2;rw [h2] at g1
 cases g1;cases g2
 exact ltM_irr _ (ltM_tr h3 g3)
theorem ltI_tr {a b c:Int} (h:ltI m a b) (k:ltI m b c):ltI m a c:=by
 obtain ⟨x,y,h1,h2,h3⟩:=h
 obtain ⟨y',z,g1,g2,g3⟩:=k
 rw [h2] at g1;cases g1
 exact ⟨x,z,h1,g2,ltM_tr h3 g3⟩
theorem pw_uniq {r:Int→Int→Prop} (has:∀ a b,r a b→¬ r b a):∀ (A B:List Int),(∀ a,a∈A↔a∈B)→A.Pairwise r→B.Pairwise r→A=B
 | [],[],_,_,_=>rfl
 | [],y::B,h,_,_=>absurd ((h y).2 (by simp)) (by simp)
 | x::A,[],h,_,_=>absurd ((h x).1 (by simp)) (by simp)
 | x::A,y::B,h,ha,hb=>by
  rw [List.pairwise_cons] at ha hb
  have hxy:x=y:=Classical.byContradiction fun hne=>by
   have h1:x∈B:=by
    rcases List.mem_cons.1 ((h x).1 (by simp)) with e | e
    ·exact absurd e hne
    ·exact e
   have h2:y∈A:=by
    rcases List.mem_cons.1 ((h y).2 (by simp)) with e | e
    ·exact absurd e.symm hne
    ·exact e
   exact has _ _ (ha.1 y h2) (hb.1 x h1)
  subst hxy
  rw [pw_uniq has A B (fun a=>⟨fun h1=>by
   rcases List.mem_cons.1 ((h a).1 (List.mem_cons_of_mem _ h1)) with e | e
   ·subst e;exact absurd (ha.1 a h1) (has _ _ (ha.1 a h1))
   ·exact e,fun h1=>by
   rcases List.mem_cons.1 ((h a).2 (List.mem_cons_of_mem _ h1)) with e | e
   ·subst e;exact absurd (hb.1 a h1) (has _ _ (hb.1 a h1))
   ·exact e⟩) ha.2 hb.2]
structure MovesAre (m:T8) (s:Int) (i:Nat) (L:List Int):Prop where
 srt:L.Pairwise (ltI m)
 mem:∀ a,a∈L↔∃ (k:Nat) (x:T9),a=(k:Int)∧k < i∧m.Moves[k]? = some x∧x.From=s
 len:L.length≤i
theorem MovesAre.uniq {s:Int} {i:Nat} {A B:List Int} (h:MovesAre m s i A) (k:MovesAre m s i B):A=B :=
 pw_uniq ltI_as A B (fun a=>(h.mem a).trans (k.mem a).symm) h.srt k.srt
theorem row_are (hN:4194304 < N) (hv:ValidM m) (s:Nat) (hs:s < m.States.toNat):∃ L,(outM N m)[s]? = some L∧MovesAre m (s:Int) m.Moves.length L∧L.length=(ixM m m.Moves.length s).length:=by
 obtain ⟨l,h1,h2,h3,h4⟩:=row_facts hN hv.n s hs
 have hp:=pairP_of hN hv
 refine ⟨l,h1,⟨?_,fun a=>⟨fun h=>?_,fun h=>?_⟩,?_⟩,?_⟩
 ·rw [List.pairwise_iff_getElem]
  intro i j hi hj hij
  obtain ⟨a,x,e1,e2,e3⟩:=(h3 _).1 (List.getElem_mem hi)
  obtain ⟨b,y,f1,f2,f3⟩:=(h3 _).1 (List.getElem_mem hj)
  have hne:a≠b:=fun e=>by
   have:l[i]=l[j]:=by rw [e1,f1,e]
   have:=(List.getElem_inj h2).1 this
   omega
  have hd:=hp b a y x (Ne.symm hne) f2 e2 (f3.trans e3.symm)
  rw [e1,f1]
  refine ⟨x,y,by rw [Int.toNat_natCast];exact e2,by rw [Int.toNat_natCast];exact f2,?_⟩
  exact ltM_tri (h4 i j a b x y hij (by rw [List.getElem?_eq_getElem hi,e1]) (by rw [List.getElem?_eq_getElem hj,f1]) e2 f2) (fun c=>by
   rw [cmpM_eq] at c
   exact hd.2 ⟨c.2.1,c.2.2⟩)
 ·obtain ⟨k,x,e1,e2,e3⟩:=(h3 a).1 h
  exact ⟨k,x,e1,(List.getElem?_eq_some_iff.1 e2).1,e2,e3⟩
 ·obtain ⟨k,x,e1,_,e2,e3⟩:=h
  exact (h3 a).2 ⟨k,x,e1,e2,e3⟩
 ·have h1':=h1
  rw [outM_get N m s hs] at h1'
  rw [← Option.some.inj h1',(outM_perm hN m hv.n s).1.length_eq]
  exact ixM_len m m.Moves.length s
 ·rw [outM_get N m s hs] at h1
  rw [← Option.some.inj h1]
  exact (outM_perm hN m hv.n s).1.length_eq
theorem before25_eq (x y:T9):∃ b,ref25_Before N x y=some b∧(b=true↔ltM x y):=by
 unfold ref25_Before ltM
 cases hx:x.Send<;>cases hy:y.Send
 case true.false=>exact ⟨true,rfl,by simp⟩
 case false.true=>exact ⟨false,rfl,by simp⟩
 all_goals
  by_cases c:x.Peer=y.Peer
  ·exact ⟨decide (x.Label < y.Label),by simp [c],by simp [c]⟩
  ·have e:(x.Peer != y.Peer)=true:=by simpa using c
   exact ⟨decide (x.Peer < y.Peer),by rw [e];rfl,by simp [c]⟩
theorem refOut_in (hN:4194304 < N) (hp:pairP m) (hn:m.Moves.length≤400) {s:Int} {i:Nat} {acc:List Int} (h:MovesAre m s i acc) {v:T9} (hv:m.Moves[i]? = some v) (hs:v.From=s) (ag:List Int→Int→Option (List Int)) :
  ∀ (n:Nat) (A B:List Int) (j:Int),B.length < n→acc=A++B→j=(A.length:Int)→(∀ y∈A,ltI m y (i:Int)) →
  ∃ A B,acc=A++B∧(∀ y∈A,ltI m y (i:Int))∧(∀ y∈B,ltI m (i:Int) y)∧ref25_Out_l4 N m acc (i:Int) ag n j=ref25_Out_k3 acc (i:Int) ag (A.length:Int):=by
 intro n
 have hi:=(List.getElem?_eq_some_iff.1 hv).1
 induction n with
 | zero=>intro A B j h;omega
 | succ n ih =>
  intro A B j hn' he hj hA
  cases B with
  | nil =>
   have hd:decide (j < (acc.length:Int))=false:=by rw [he];simp;omega
   refine ⟨A,[],he,hA,by simp,?_⟩
   simp only [ref25_Out_l4,hd,cond_false]
   rw [hj]
  | cons y B =>
   have hal:=h.len
   have hl:acc.length=A.length+(B.length+1):=by rw [he];simp
   have hd:decide (j < (acc.length:Int))=true:=by rw [he];simp;omega
   have e1:idx acc j=some y:=idx_mid he hj
   obtain ⟨k,x,rfl,hki,hx,hxs⟩:=(h.mem y).1 (by rw [he];simp)
   obtain ⟨b,b1,b2⟩:=before25_eq (N:=N) v x
   cases b with
   | true =>
    refine ⟨A,(k:Int)::B,he,hA,fun z hz=>?_,?_⟩
    ·have h0:ltI m (i:Int) (k:Int):=⟨v,x,by rw [Int.toNat_natCast];exact hv,by rw [Int.toNat_natCast];exact hx,b2.1 rfl⟩
     rcases List.mem_cons.1 hz with rfl | hz
     ·exact h0
     ·have:=h.srt
      rw [he] at this
      exact ltI_tr h0 ((List.pairwise_cons.1 (List.pairwise_append.1 this).2.1).1 z hz)
    ·simp only [ref25_Out_l4,hd,cT,idx_nat,hv,e1,hx,bS,b1,Bool.not_true,cond_false]
     rw [hj]
   | false =>
    have hlt:ltI m (k:Int) (i:Int):=by
     refine ⟨x,v,by rw [Int.toNat_natCast];exact hx,by rw [Int.toNat_natCast];exact hv,?_⟩
     refine ltM_tri (fun c=>by have:=b2.2 c;cases this) (fun c=>?_)
     rw [cmpM_eq] at c
     exact (hp i k v x (by omega) hv hx (hs.trans hxs.symm)).2 ⟨c.2.1,c.2.2⟩
    obtain ⟨A',B',p1,p2,p3,p4⟩:=ih (A++[(k:Int)]) B (w64 (j+1)) (by simp at hn';omega) (by rw [he];simp) (by rw [hj,w64_succ (by omega)];simp)
     (by
      intro z hz
      rcases List.mem_append.mp hz with hz | hz
      ·exact hA z hz
      ·simp at hz;subst hz;exact hlt)
    refine ⟨A',B',p1,p2,p3,?_⟩
    simp only [ref25_Out_l4,hd,cT,idx_nat,hv,e1,hx,bS,b1,Bool.not_false]
    exact p4
theorem refOut_loop (hN:4194304 < N) (hp:pairP m) (hn:m.Moves.length≤400) (s:Int):∀ (r:List T9) (n i:Nat) (acc:List Int),m.Moves.drop i=r→r.length < n→i≤m.Moves.length→MovesAre m s i acc →
  ∃ L,ref25_Out_l2 N m s n acc (i:Int)=some L∧MovesAre m s m.Moves.length L
 | [],n,i,acc,h,hn',hil,hM=>by
  obtain ⟨n,rfl⟩:∃ z,n=z+1:=⟨n-1,by simp at hn';omega⟩
  have hle:=drop_nil h
  refine ⟨acc,by rw [ref25_Out_l2,lt_f hle];rfl,hM.srt,fun a=>⟨fun ha=>?_,fun ha=>?_⟩,?_⟩
  ·obtain ⟨k,x,e1,_,e2,e3⟩:=(hM.mem a).1 ha
   exact ⟨k,x,e1,(List.getElem?_eq_some_iff.1 e2).1,e2,e3⟩
  ·obtain ⟨k,x,e1,e0,e2,e3⟩:=ha
   exact (hM.mem a).2 ⟨k,x,e1,by omega,e2,e3⟩
  ·have:=hM.len;omega
 | x::r,n,i,acc,h,hn',hil,hM=>by
  obtain ⟨n,rfl⟩:∃ z,n=z+1:=⟨n-1,by simp at hn';omega⟩
  obtain ⟨hi,hx,hr⟩:=drop_cons h
  simp only [List.length_cons] at hn'
  rw [ref25_Out_l2,lt_t hi,idx_nat,hx,w64_succ (by omega)]
  simp only [cT,bS]
  by_cases c:x.From=s
  ·rw [show (x.From != s)=false by simp [c],cond_false]
   obtain ⟨A,B,p1,p2,p3,p4⟩:=refOut_in (N:=N) hN hp hn hM hx c (ref25_Out_l2 N m s n) N [] acc (0:Int) (by have:=hM.len;omega) rfl (by simp) (by simp)
   rw [p4]
   unfold ref25_Out_k3
   have hal:=hM.len
   have hl:acc.length=A.length+B.length:=by rw [p1];simp
   rw [lsl_to p1 rfl,lsl_from p1 rfl]
   simp only [bS]
   rw [appL_some (by simp;omega),bS,appL_some (by simp;omega),bS,appL_some (by simp;omega),bS,w64_succ (by omega)]
   refine refOut_loop hN hp hn s r n (i+1) _ hr (by omega) (by omega) ⟨?_,fun a=>⟨fun ha=>?_,fun ha=>?_⟩,by simp;omega⟩
   ·have hs:=hM.srt
    rw [p1,List.pairwise_append] at hs
    simp only [List.nil_append,aA,List.singleton_append]
    rw [List.pairwise_append,List.pairwise_cons]
    refine ⟨hs.1,⟨p3,hs.2.1⟩,fun y hy z hz=>?_⟩
    rcases List.mem_cons.1 hz with rfl | hz
    ·exact p2 y hy
    ·exact hs.2.2 y hy z hz
   ·have:a=(i:Int)∨a∈acc:=by
     rw [p1]
     simp only [List.nil_append,List.mem_append,List.mem_singleton] at ha ⊢
     rcases ha with (h | h) | h
     ·exact .inr (.inl h)
     ·exact .inl h
     ·exact .inr (.inr h)
    rcases this with rfl | ha
    ·exact ⟨i,x,rfl,by omega,hx,c⟩
    ·obtain ⟨k,y,e1,e2,e3⟩:=(hM.mem a).1 ha
     exact ⟨k,y,e1,by omega,e3⟩
   ·obtain ⟨k,y,rfl,e2,e3,e4⟩:=ha
    have:(k:Int)=(i:Int)∨(k:Int)∈acc:=by
     by_cases e:k=i
     ·exact .inl (by rw [e])
     ·exact .inr ((hM.mem _).2 ⟨k,y,rfl,by omega,e3,e4⟩)
    rw [p1] at this
    simp only [List.nil_append,List.mem_append,List.mem_singleton] at this ⊢
    rcases this with h | h | h
    ·exact .inl (.inr h)
    ·exact .inl (.inl h)
    ·exact .inr h
  ·rw [show (x.From != s)=true by simp [c],cT]
   refine refOut_loop hN hp hn s r n (i+1) acc hr (by omega) (by omega) ⟨hM.srt,fun a=>⟨fun ha=>?_,fun ha=>?_⟩,by have:=hM.len;omega⟩
   ·obtain ⟨k,y,e1,e2,e3⟩:=(hM.mem a).1 ha
    exact ⟨k,y,e1,by omega,e3⟩
   ·obtain ⟨k,y,e1,e2,e3,e4⟩:=ha
    refine (hM.mem a).2 ⟨k,y,e1,?_,e3,e4⟩
    by_cases e:k=i
    ·subst e;rw [hx] at e3;cases e3;exact absurd e4 c
    ·omega
theorem moves_both (hN:4194304 < N) (ht:m.Timeouts.length≤4194304) (hv:ValidM m) (hr:ref26_Valid N m=some true) {s:Int} (s0:0≤s) (s1:s < m.States) :
  ∃ L,z53 N m s=some L∧ref26_Moves N m s=some L∧MovesAre m s m.Moves.length L∧L.length=(ixM m m.Moves.length s.toNat).length:=by
 obtain ⟨c,rfl⟩:=Int.eq_ofNat_of_zero_le s0
 have hm:=hv.n
 obtain ⟨L,h1,h2,h5⟩:=row_are hN hv c (by omega)
 obtain ⟨R,h3,h4⟩:=refOut_loop hN (pairP_of hN hv) hm.n (c:Int) m.Moves N 0 [] rfl (by have:=hm.n;omega) (Nat.zero_le _) ⟨.nil,fun a=>⟨fun h=>(by cases h),fun ⟨k,x,_,h,_⟩=>(by omega)⟩,Nat.le_refl _⟩
 obtain rfl:=h2.uniq h4
 refine ⟨L,?_,?_,h2,h5⟩
 ·unfold z53
  rw [open_eq hN ht hv]
  simp only [bS,optC,Bool.not_true,cond_false]
  rw [dF (show ¬ (c:Int) < 0 by omega),dF (show ¬ (c:Int)≥m.States by omega)]
  simp only [cond_false,idx_nat,h1,bS]
 ·unfold ref26_Moves ref26_Good
  rw [hr]
  simp only [bS,cT]
  rw [dT (show (c:Int)≥0 by omega),cT,dT s1]
  simp only [bS,Bool.not_true,cond_false]
  unfold ref25_Out
  rw [show (0:Int)=((0:Nat):Int) from rfl,h3]
  rfl
def limV (l:List T11) (s:Int):Option T11:=l.find? fun t=>t.State==s
theorem timeout_both (hN:4194304 < N) (ht:m.Timeouts.length≤4194304) (hb:z134 N m=some true) (hr:ref26_Valid N m=some true) {s:Int} (s0:0≤s) (s1:s < m.States) :
  ∃ t b,z64 N m s=some (t,b)∧ref26_Timeout N m s=some (t,b)∧(limV m.Timeouts s=bif b then some t else none)∧(b=true→t∈m.Timeouts∧t.State=s):=by
 have key:∀ (r:List T11) (n k:Nat),m.Timeouts.drop k=r→r.length < n →
   ∃ z,z136_17_l2 N m.Timeouts s n (k:Int)=some z∧ref25_Limit_l2 m s n (k:Int)=some z∧((z=-1∧r.find? (fun t=>t.State==s)=none)∨∃ (i:Nat) (t:T11),z=(i:Int)∧m.Timeouts[i]? = some t∧t.State=s∧r.find? (fun t=>t.State==s)=some t):=by
  intro r
  induction r with
  | nil =>
   intro n k h hn
   obtain ⟨n,rfl⟩:∃ z,n=z+1:=⟨n-1,by simp at hn;omega⟩
   refine ⟨-1,?_,?_,.inl ⟨rfl,rfl⟩⟩
   ·rw [z136_17_l2,lt_f (drop_nil h)];rfl
   ·rw [ref25_Limit_l2,lt_f (drop_nil h)];rfl
  | cons x r ih =>
   intro n k h hn
   obtain ⟨n,rfl⟩:∃ z,n=z+1:=⟨n-1,by simp at hn;omega⟩
   obtain ⟨hk,hx,hr⟩:=drop_cons h
   simp only [List.length_cons] at hn
   rw [z136_17_l2,ref25_Limit_l2,lt_t hk,idx_nat,hx,w64_succ (by omega)]
   simp only [cT,bS,z137_16,List.find?_cons]
   cases c:(x.State==s) with
   | true=>exact ⟨(k:Int),rfl,rfl,.inr ⟨k,x,rfl,hx,by simpa using c,rfl⟩⟩
   | false =>
    simp only [cond_false]
    exact ih n (k+1) hr (by omega)
 obtain ⟨z,e1,e2,hz⟩:=key m.Timeouts N 0 rfl (by omega)
 unfold z64 ref26_Timeout ref26_Good limV
 rw [hb,hr]
 simp only [bS,Bool.not_true,cond_false,cT]
 rw [dT (show s≥0 from s0),cT,dT s1]
 simp only [bS,Bool.not_true,cond_false]
 unfold z136_17 ref25_Limit
 rw [show (0:Int)=((0:Nat):Int) from rfl,e1,e2]
 simp only [bS]
 rcases hz with ⟨rfl,h⟩ | ⟨i,t,rfl,h1,h2,h3⟩
 ·exact ⟨_,_,rfl,rfl,h,fun h=>by cases h⟩
 ·rw [dF (show ¬ (i:Int) < ((0:Nat):Int) by omega),dT (show (i:Int)≥((0:Nat):Int) by omega),idx_nat,h1]
  exact ⟨t,true,rfl,rfl,h3,fun _=>⟨List.mem_of_getElem? h1,h2⟩⟩
end Gp
end
section
namespace Gp
open Go Go.Kx Gx
variable {N:Nat}
def fieldL (f:T4):List UInt8:=bs f.Name++[58,32]++(bif f.Sort'.Kind==2 then [116,101,120,116] else [105,110,116])++[32]++bs (itoaS f.Sort'.Lo)++[32,46,46,32]++bs (itoaS f.Sort'.Hi)
structure FieldOk (f:T4):Prop where
 n:(bs f.Name).length≤4000000
 lo:I64 f.Sort'.Lo
 hi:I64 f.Sort'.Hi
theorem fieldL_len {f:T4} (h:FieldOk f):(fieldL f).length≤4000100:=by
 have h1:=h.n
 have h2:=itoa_bs f.Sort'.Lo
 have h3:=itoa_bs f.Sort'.Hi
 unfold fieldL
 cases (f.Sort'.Kind==2)<;>simp<;>omega
theorem field_eq {f:T4} (h:FieldOk f):z38 N f=some (mkB (fieldL f)):=by
 have h1:=h.n
 have h2:=itoa_bs f.Sort'.Lo
 have h3:=itoa_bs f.Sort'.Hi
 have key:∀ k:List UInt8,k.length≤4→z38_k1 N f (mkB k)=some (mkB (bs f.Name++[58,32]++k++[32]++bs (itoaS f.Sort'.Lo)++[32,46,46,32]++bs (itoaS f.Sort'.Hi))):=fun k hk=>by
  unfold z38_k1
  rw [itoa_eq h.lo,itoa_eq h.hi,show str [58,32]=mkB [58,32] from rfl,show str [32]=mkB [32] from rfl,show str [32,46,46,32]=mkB [32,46,46,32] from rfl]
  rw [cat_bs (by simp;omega),bS,cat_mk (by simp;omega),bS,cat_mk (by simp;omega),bS,bS,cat_sb (by simp;omega),bS,cat_mk (by simp;omega),bS,bS,cat_sb (by simp;omega),bS]
 unfold z38 fieldL
 cases (f.Sort'.Kind==2)
 ·exact key [105,110,116] (by simp)
 ·exact key [116,101,120,116] (by simp)
def tailL (sep:List UInt8) (l:List (List UInt8)):List UInt8:=(l.map (sep++·)).flatten
theorem tailL_cons (sep x:List UInt8) (l:List (List UInt8)):tailL sep (x::l)=sep++x++tailL sep l:=by unfold tailL;simp
theorem tailL_len {sep:List UInt8} {c:Nat}:∀ {l:List (List UInt8)},(∀ x∈l,x.length≤c)→(tailL sep l).length≤l.length * (c+sep.length)
 | [],_=>by simp [tailL]
 | x::l,h=>by
  have h1:=tailL_len (sep:=sep) (l:=l) fun y hy=>h y (List.mem_cons_of_mem _ hy)
  have h2:=h x List.mem_cons_self
  rw [tailL_cons,List.length_cons,Nat.add_mul]
  simp only [lA]
  omega
theorem joinL_len {sep:List UInt8} {c:Nat} {l:List (List UInt8)} (h:∀ x∈l,x.length≤c):(joinL sep l).length≤l.length * (c+sep.length):=by
 cases l with
 | nil=>simp [joinL]
 | cons x l =>
  have h1:=tailL_len (sep:=sep) (l:=l) fun y hy=>h y (List.mem_cons_of_mem _ hy)
  have h2:=h x List.mem_cons_self
  show (x++tailL sep l).length≤_
  rw [List.length_cons,Nat.add_mul,lA]
  omega
theorem join_eq {l:List (List UInt8)} {sep:List UInt8} (hl:l.length≤1000) (h:(joinL sep l).length≤140737488355328):z40 N (l.map mkB) (mkB sep)=some (mkB (joinL sep l)):=by
  have e1:(mkB sep).data.toList=sep:=bs_mkB _
  have e2:(l.map mkB).map (·.data.toList)=l:=by
    rw [List.map_map]
    conv=>rhs;rw [← List.map_id l]
    exact List.map_congr_left fun x _=>bs_mkB x
  unfold z40
  rw [e1,e2,List.length_map,dT (show l.length≤140737488355328 by omega),dT h]
  rfl
theorem dfields_loop (l:List T0) (label:Int) (x:T0):∀ (r:List T4) (n k:Nat) (acc:List ByteArray),x.Fields.drop k=r→r.length < n→k+r.length≤1000→acc.length+r.length≤1000→(∀ f∈r,FieldOk f) →
  z13_l4 N l label x n acc (k:Int)=z13_k3 N l label x (acc++r.map fun f=>mkB (fieldL f))
 | [],n,k,acc,h,hn,hk,ha,hf=>by
  obtain ⟨n,rfl⟩:∃ z,n=z+1:=⟨n-1,by simp at hn;omega⟩
  rw [z13_l4,lt_f (drop_nil h)]
  simp
 | f::r,n,k,acc,h,hn,hk,ha,hf=>by
  obtain ⟨n,rfl⟩:∃ z,n=z+1:=⟨n-1,by simp at hn;omega⟩
  obtain ⟨hi,hx,hr⟩:=drop_cons h
  simp only [List.length_cons] at hn hk ha
  rw [z13_l4,lt_t hi,idx_nat,hx,w64_succ (by omega)]
  simp only [cT,bS]
  rw [field_eq (hf f List.mem_cons_self),bS,appL_some (by simp;omega),bS]
  rw [dfields_loop l label x r n (k+1) _ hr (by omega) (by omega) (by simp;omega) fun y hy=>hf y (List.mem_cons_of_mem _ hy)]
  simp
theorem datoms_loop (l:List T0) (label:Int) (x:T0) (v8:List ByteArray) (A:Nat→List UInt8) (T:Nat) (hT:T≤40) (hw:w64 ((x.Guard.Diffs.length:Int)+(x.Guard.Equals.length:Int))=(T:Int)) (hA:∀ i,i < T→z39 N l label (i:Int)=some (mkB (A i))) :
  ∀ (q n k:Nat) (acc:List ByteArray),T-k=q→q < n→acc.length+q≤1000→k≤T →
  z13_l2 N l label x v8 n acc (k:Int)=z13_k1 N x v8 (acc++(List.range' k q).map fun i=>mkB (A i))
 | 0,n,k,acc,h,hn,ha,hk=>by
  obtain ⟨n,rfl⟩:∃ z,n=z+1:=⟨n-1,by omega⟩
  rw [z13_l2,hw,lt_f (show T≤k by omega)]
  simp
 | q+1,n,k,acc,h,hn,ha,hk=>by
  obtain ⟨n,rfl⟩:∃ z,n=z+1:=⟨n-1,by omega⟩
  rw [z13_l2,hw,lt_t (show k < T by omega),hA k (by omega),w64_succ (by omega)]
  simp only [cT,bS]
  rw [appL_some (by simp;omega),bS,datoms_loop l label x v8 A T hT hw hA q n (k+1) _ (by omega) (by omega) (by simp;omega) (by omega)]
  congr 1
  simp [List.range'_succ]
def declL (nm:List UInt8) (F As:List (List UInt8)):List UInt8:=nm++[40]++joinL [44,32] F++[41]++match As with
 | []=>[]
 | a::r=>[32,119,104,101,114,101,32]++joinL [32,97,110,100,32] (a::r)
theorem dk1_eq (x:T0) (F As:List (List UInt8)) (hn:(bs x.Name).length≤4000000) (hF:F.length≤100) (hF2:∀ y∈F,y.length≤4000100) (hA:As.length≤100) (hA2:∀ y∈As,y.length≤67108864) :
  z13_k1 N x (F.map mkB) (As.map mkB)=some (mkB (declL (bs x.Name) F As)):=by
 have h1:=joinL_len (sep:=[44,32]) hF2
 have h2:=joinL_len (sep:=[32,97,110,100,32]) hA2
 have g1:F.length * (4000100+2)≤100 * 4000102:=Nat.mul_le_mul hF (by decide)
 have g2:As.length * (67108864+5)≤100 * 67108869:=Nat.mul_le_mul hA (by decide)
 have h1:(joinL [44,32] F).length≤400010200:=Nat.le_trans h1 g1
 have h2:(joinL [32,97,110,100,32] As).length≤6710886900:=Nat.le_trans h2 g2
 unfold z13_k1 declL
 rw [show str [40]=mkB [40] from rfl,show str [41]=mkB [41] from rfl,show str [44,32]=mkB [44,32] from rfl,show str [32,97,110,100,32]=mkB [32,97,110,100,32] from rfl,show str [32,119,104,101,114,101,32]=mkB [32,119,104,101,114,101,32] from rfl]
 rw [cat_bs (by simp;omega),bS,join_eq (by omega) (by omega),bS,cat_mk (by simp;omega),bS,cat_mk (by simp;omega),bS]
 cases As with
 | nil=>simp
 | cons a r =>
  rw [dT (show (((a::r).map mkB).length:Int) > 0 by simp),cT,join_eq (by omega) (by omega),bS,cat_mk (by simp;omega),bS,cat_mk (by simp;omega),bS]
theorem rfield_eq (hN:4194304 < N) {f:T4} (h:FieldOk f) {acc:List UInt8} (ha:acc.length≤4611686018427387904) (k:Int) (ag:ByteArray→Int→Option ByteArray) :
  ref43_Decl_k6 N k ag f (mkB acc)=ag (mkB (acc++fieldL f)) (w64 (k+1)):=by
 have h1:=h.n
 have h2:=itoa_bs f.Sort'.Lo
 have h3:=itoa_bs f.Sort'.Hi
 unfold ref43_Decl_k6
 rw [show str [58,32]=mkB [58,32] from rfl,show str [116,101,120,116,32]=mkB [116,101,120,116,32] from rfl,show str [105,110,116,32]=mkB [105,110,116,32] from rfl]
 rw [cat_bs (by simp;omega),bS,cat_mk (by simp;omega),bS]
 have key:∀ z:List UInt8,z.length≤4611686018435387920→ref43_Decl_k5 N k ag f (mkB z)=ag (mkB (z++(bs (itoaS f.Sort'.Lo)++[32,46,46,32]++bs (itoaS f.Sort'.Hi)))) (w64 (k+1)):=fun z hz=>by
  unfold ref43_Decl_k5
  rw [digits09_eq hN h.lo,digits09_eq hN h.hi,show str [32,46,46,32]=mkB [32,46,46,32] from rfl,bS,cat_bs (by simp;omega),bS,bS,cat_sb (by simp;omega),bS,cat_mk (by simp;omega),bS]
 unfold fieldL
 cases (f.Sort'.Kind==2)
 ·rw [cond_false,cat_mk (by simp;omega),bS,key _ (by simp;omega)]
  simp
 ·rw [cT,cat_mk (by simp;omega),bS,key _ (by simp;omega)]
  simp
theorem rfields_loop (hN:4194304 < N) (l:List T0) (label:Int) (x:T0):∀ (r:List T4) (n k:Nat) (acc:List UInt8),0 < k→x.Fields.drop k=r→r.length < n→k+r.length≤1000→acc.length+r.length * 4000102≤4611686018427387904→(∀ f∈r,FieldOk f) →
  ref43_Decl_l4 N l label x n (mkB acc) (k:Int)=ref43_Decl_k3 N l label x (mkB (acc++tailL [44,32] (r.map fieldL)))
 | [],n,k,acc,h0,h,hn,hk,ha,hf=>by
  obtain ⟨n,rfl⟩:∃ z,n=z+1:=⟨n-1,by simp at hn;omega⟩
  rw [ref43_Decl_l4,lt_f (drop_nil h)]
  simp [tailL]
 | f::r,n,k,acc,h0,h,hn,hk,ha,hf=>by
  obtain ⟨n,rfl⟩:∃ z,n=z+1:=⟨n-1,by simp at hn;omega⟩
  obtain ⟨hi,hx,hr⟩:=drop_cons h
  simp only [List.length_cons] at hn hk ha
  have hl:=fieldL_len (hf f List.mem_cons_self)
  rw [ref43_Decl_l4,lt_t hi,idx_nat,hx,dT (show (k:Int) > 0 by omega)]
  simp only [cT,bS]
  rw [show str [44,32]=mkB [44,32] from rfl,cat_mk (by simp;omega),bS,rfield_eq hN (hf f List.mem_cons_self) (by simp;omega),w64_succ (by omega)]
  rw [rfields_loop hN l label x r n (k+1) _ (by omega) hr (by omega) (by omega) (by simp;omega) fun y hy=>hf y (List.mem_cons_of_mem _ hy)]
  rw [List.map_cons,tailL_cons]
  simp
theorem rfields_eq (hN:4194304 < N) (l:List T0) (label:Int) (x:T0) (hl:x.Fields.length≤100) (hf:∀ f∈x.Fields,FieldOk f) {acc:List UInt8} (ha:acc.length≤4000010) :
  ref43_Decl_l4 N l label x N (mkB acc) 0=ref43_Decl_k3 N l label x (mkB (acc++joinL [44,32] (x.Fields.map fieldL))):=by
 obtain ⟨M,rfl⟩:∃ z,N=z+1:=⟨N-1,by omega⟩
 rw [show (0:Int)=((0:Nat):Int) from rfl]
 cases hx:x.Fields with
 | nil =>
  rw [ref43_Decl_l4,hx,lt_f (by simp)]
  simp [joinL]
 | cons f r =>
  rw [hx] at hf hl
  simp only [List.length_cons] at hl
  have hfl:=fieldL_len (hf f List.mem_cons_self)
  rw [ref43_Decl_l4,hx,lt_t (by simp),idx_nat]
  simp only [List.getElem?_cons_zero,cT,bS]
  rw [dF (show ¬ ((0:Nat):Int) > 0 by omega),cond_false,rfield_eq hN (hf f List.mem_cons_self) (by omega),w64_succ (by omega)]
  rw [rfields_loop hN l label x r M 1 _ (by omega) (by rw [hx];rfl) (by omega) (by omega) (by simp;omega) fun y hy=>hf y (List.mem_cons_of_mem _ hy)]
  show _=ref43_Decl_k3 (M+1) l label x (mkB (acc++(fieldL f++tailL [44,32] (r.map fieldL))))
  simp
theorem ratoms_loop (l:List T0) (label:Int) (x:T0) (A:Nat→List UInt8) (T:Nat) (hT:T≤40) (hp:ref41_Parts N x=some (T:Int)) (hA:∀ i,i < T→ref41_Atom N l label (i:Int)=some (mkB (A i))∧(A i).length≤67108864) :
  ∀ (q n k:Nat) (acc:List UInt8),0 < k→T-k=q→q < n→acc.length+q * 67108869≤4611686018427387904→k≤T →
  ref43_Decl_l2 N l label x n (mkB acc) (k:Int)=some (mkB (acc++tailL [32,97,110,100,32] ((List.range' k q).map A)))
 | 0,n,k,acc,h0,h,hn,ha,hk=>by
  obtain ⟨n,rfl⟩:∃ z,n=z+1:=⟨n-1,by omega⟩
  rw [ref43_Decl_l2,hp,bS,lt_f (show T≤k by omega)]
  simp [tailL,ref43_Decl_k1]
 | q+1,n,k,acc,h0,h,hn,ha,hk=>by
  obtain ⟨n,rfl⟩:∃ z,n=z+1:=⟨n-1,by omega⟩
  obtain ⟨a1,a2⟩:=hA k (by omega)
  rw [ref43_Decl_l2,hp,bS,lt_t (show k < T by omega),a1,w64_succ (by omega),show ((k:Int)==0)=false by simp;omega,show str [32,97,110,100,32]=mkB [32,97,110,100,32] from rfl]
  simp only [cT,cond_false]
  rw [cat_mk (by simp;omega),bS,bS,cat_mk (by simp;omega),bS]
  rw [ratoms_loop l label x A T hT hp hA q n (k+1) _ (by omega) (by omega) (by omega) (by simp;omega) (by omega)]
  rw [List.range'_succ,List.map_cons,tailL_cons]
  simp
theorem rk3_eq (hN:4194304 < N) (l:List T0) (label:Int) (x:T0) (A:Nat→List UInt8) (T:Nat) (hT:T≤40) (hp:ref41_Parts N x=some (T:Int)) (hA:∀ i,i < T→ref41_Atom N l label (i:Int)=some (mkB (A i))∧(A i).length≤67108864) {nm:List UInt8} {F:List (List UInt8)} (hl:(nm++[40]++joinL [44,32] F).length≤1000000000) :
  ref43_Decl_k3 N l label x (mkB (nm++[40]++joinL [44,32] F))=some (mkB (declL nm F ((List.range T).map A))):=by
 obtain ⟨M,rfl⟩:∃ z,N=z+1:=⟨N-1,by omega⟩
 unfold ref43_Decl_k3 declL
 rw [show str [41]=mkB [41] from rfl,cat_mk (by simp only [List.length_singleton];omega),bS,show (0:Int)=((0:Nat):Int) from rfl,ref43_Decl_l2,hp,bS]
 cases T with
 | zero =>
  rw [lt_f (Nat.le_refl _)]
  simp [ref43_Decl_k1]
 | succ T =>
  obtain ⟨a1,a2⟩:=hA 0 (by omega)
  rw [lt_t (by omega),a1,w64_succ (by omega),show (((0:Nat):Int)==0)=true from rfl,show str [32,119,104,101,114,101,32]=mkB [32,119,104,101,114,101,32] from rfl]
  simp only [cT]
  rw [cat_mk (by simp only [lA,List.length_cons,List.length_nil] at hl ⊢;omega),bS,bS,cat_mk (by simp only [lA,List.length_cons,List.length_nil] at hl ⊢;omega),bS]
  rw [ratoms_loop l label x A (T+1) hT hp hA T M (0+1) _ (by omega) (by omega) (by omega) (by simp only [lA,List.length_cons,List.length_nil] at hl ⊢;omega) (by omega)]
  have e:(List.range (T+1)).map A=A 0::(List.range' 1 T).map A:=by
   rw [List.range_eq_range',List.range'_succ,List.map_cons]
  rw [e]
  show some (mkB _)=some (mkB (_++([32,119,104,101,114,101,32]++(A 0++tailL [32,97,110,100,32] ((List.range' 1 T).map A)))))
  simp
theorem fields_le:∀ {l:List T0} {x:T0},x∈l→x.Fields.length≤(flat l).length
 | [],x,h=>by cases h
 | y::l,x,h=>by
  rw [flat_cons,lA]
  rcases List.mem_cons.1 h with rfl | h
  ·omega
  ·have:=fields_le h;omega
theorem sort_i64 {s:T10} (h:sortOk s):I64 s.Lo∧I64 s.Hi:=by
 rcases h with ⟨_,h1,h2,h3⟩ | ⟨_,h1,h2,h3⟩<;>exact ⟨⟨by omega,by omega⟩,by omega,by omega⟩
theorem decl_both (hN:4194304 < N) (l:List T0) (hl:l.length≤1000) (hd:∀ x∈l,SizeD x) (hnm:∀ x∈l,NameD x) (label:Int) :
  ∃ s:List UInt8,s.length≤8000000000∧z13 N l label=some (mkB s)∧ref43_Decl N l label=some (mkB s):=by
 have none':∃ s:List UInt8,s.length≤8000000000∧some (str [])=some (mkB s)∧some (str [])=some (mkB s):=⟨[],by simp,rfl,rfl⟩
 have hat:=fun part hp=>atom_both (N:=N) hN l hl hd hnm (at':=label) (part:=part) hp
 unfold z13 ref43_Decl z37
 rw [refValid_eq hN l (by omega) hd hnm,valid_eq hN l (by omega) hd hnm]
 simp only [bS]
 by_cases c1:label < 0
 ·rw [dT c1]
  cases validD l<;>exact none'
 rw [dF c1]
 by_cases c2:label≥(l.length:Int)
 ·rw [dT c2]
  cases validD l<;>exact none'
 rw [dF c2]
 simp only [cond_false]
 cases hv:validD l with
 | false=>exact none'
 | true =>
 obtain ⟨k,rfl⟩:=Int.eq_ofNat_of_zero_le (show 0≤label by omega)
 have hk:k < l.length:=by omega
 have hg:=List.getElem?_eq_getElem hk
 generalize hy:l[k]=y at hg
 have hmem:=List.mem_of_getElem? hg
 obtain ⟨r,er⟩:=bounds_some hN y (hd y hmem)
 have e0:((0:Int) != 0)=false:=rfl
 simp only [Bool.not_true,cond_false,idx_nat,hg,bS,er,e0]
 have hgv:guardV (flat l) y.Guard=true:=by
  obtain ⟨_,_,_,_,_,h2⟩:=valid_at hv hg
  exact guard_of h2
 have hin:=inG_of hgv
 have h1:=hin.dl
 have h2:=hin.el
 have hfl:=(valid_len hv).2
 have hfy:=fields_le hmem
 have hny:=(hnm y hmem).n
 have hfo:∀ f∈y.Fields,FieldOk f:=fun f hf=>by
  have hs:=sort_i64 (sortOk_of hv hmem hf)
  exact ⟨by rw [← size_bs];exact (hnm y hmem).f f hf,hs.1,hs.2⟩
 let T:=y.Guard.Diffs.length+y.Guard.Equals.length
 have hT:T≤40:=by show _+_≤_;omega
 have hpp:ref41_Parts N y=some (T:Int):=by
  unfold ref41_Parts
  rw [w64_id (by omega) (by omega)]
  congr 1
 have hw:w64 ((y.Guard.Diffs.length:Int)+(y.Guard.Equals.length:Int))=(T:Int):=by
  rw [w64_id (by omega) (by omega)];show _=((_+_:Nat):Int);omega
 have hA0:∀ i:Nat,∃ s:List UInt8,i < T→s.length≤67108864∧z39 N l (k:Int) (i:Int)=some (mkB s)∧ref41_Atom N l (k:Int) (i:Int)=some (mkB s):=fun i=>by
  by_cases hi:i < T
  ·obtain ⟨s,h⟩:=hat (i:Int) ⟨by omega,by omega⟩
   exact ⟨s,fun _=>h⟩
  ·exact ⟨[],fun h=>absurd h hi⟩
 let A:Nat→List UInt8:=fun i=>(hA0 i).choose
 have hA:∀ i,i < T→(A i).length≤67108864∧z39 N l (k:Int) (i:Int)=some (mkB (A i))∧ref41_Atom N l (k:Int) (i:Int)=some (mkB (A i)):=fun i hi=>(hA0 i).choose_spec hi
 have hAl:∀ z∈(List.range T).map A,z.length≤67108864:=fun z hz=>by
  obtain ⟨i,hi,rfl⟩:=List.mem_map.1 hz
  exact (hA i (List.mem_range.1 hi)).1
 have hFl:∀ z∈y.Fields.map fieldL,z.length≤4000100:=fun z hz=>by
  obtain ⟨f,hf,rfl⟩:=List.mem_map.1 hz
  exact fieldL_len (hfo f hf)
 have hnb:(bs y.Name).length≤4000000:=by rw [← size_bs];exact hny
 have j1:=joinL_len (sep:=[44,32]) hFl
 have j2:=joinL_len (sep:=[32,97,110,100,32]) hAl
 simp only [List.length_map,List.length_range,List.length_cons,List.length_nil] at j1 j2
 have g1:y.Fields.length * (4000100+(0+1+1))≤24 * 4000102:=Nat.mul_le_mul (by omega) (by decide)
 have g2:T * (67108864+(0+1+1+1+1+1))≤40 * 67108869:=Nat.mul_le_mul hT (by decide)
 refine ⟨declL (bs y.Name) (y.Fields.map fieldL) ((List.range T).map A),?_,?_,?_⟩
 ·unfold declL
  simp only [lA,List.length_cons,List.length_nil]
  cases hc:(List.range T).map A with
  | nil=>simp only [List.length_nil];omega
  | cons a q =>
   rw [hc] at j2
   simp only [lA,List.length_cons,List.length_nil]
   omega
 ·have:=dfields_loop (N:=N) l (k:Int) y y.Fields N 0 [] rfl (by omega) (by omega) (by simp;omega) hfo
  rw [show (0:Int)=((0:Nat):Int) from rfl,this]
  unfold z13_k3
  have:=datoms_loop (N:=N) l (k:Int) y ([]++y.Fields.map fun f=>mkB (fieldL f)) A T hT hw (fun i hi=>(hA i hi).2.1) T N 0 [] (by omega) (by omega) (by simp;omega) (by omega)
  rw [show (0:Int)=((0:Nat):Int) from rfl,this]
  have e1:([]++y.Fields.map fun f=>mkB (fieldL f))=(y.Fields.map fieldL).map mkB:=by simp
  have e2:([]++(List.range' 0 T).map fun i=>mkB (A i))=((List.range T).map A).map mkB:=by simp [List.range_eq_range']
  rw [e1,e2]
  exact dk1_eq y _ _ hnb (by simp;omega) hFl (by simp;omega) hAl
 ·rw [show str [40]=mkB [40] from rfl,cat_bs (by simp;omega),bS,rfields_eq hN l (k:Int) y (by omega) hfo (by simp;omega)]
  exact rk3_eq hN l (k:Int) y A T hT hpp (fun i hi=>⟨(hA i hi).2.2,(hA i hi).1⟩) (by simp only [lA,List.length_cons,List.length_nil];omega)
end Gp
end
section
namespace Gp
open Go Go.Kx Gx
variable {N:Nat} {g:T5} {m:T8}
structure CtxE (N:Nat) (g:T5) (m:T8):Prop where
 c:Ctx0 N g m
 x:AgrX g m
 mb:z134 N m=some true
 rb:ref26_Valid N m=some true
theorem ctxE_of (c:Ctx0 N g m) (hn:NumE g):CtxE N g m:=by
 obtain ⟨b,e,f,h⟩:=agree_both c.hN g c.gg c.ss hn m c.t
 rw [c.e] at e
 cases e
 obtain ⟨b2,e2,f2,h2⟩:=mValid_both c.hN m c.t
 have hx:=h rfl
 refine ⟨c,hx,?_,?_⟩
 ·cases b2 with
  | true=>exact e2
  | false =>
   exfalso
   have:=c.e
   unfold z60 at this
   obtain ⟨b1,e1,_,_⟩:=Valid_both c.hN g c.gg c.ss hn
   rw [e1,e2] at this
   cases b1<;>simp at this
 ·cases b2 with
  | true=>exact f2
  | false =>
   exfalso
   unfold ref40_together at f
   obtain ⟨b1,_,f1,_⟩:=Valid_both c.hN g c.gg c.ss hn
   rw [f1,f2] at f
   cases b1<;>simp at f
def startsL (s:ByteArray):Prop:=(∃ t,bs s=[115,101,110,100,32]++t)∨∃ t,bs s=[114,101,99,101,105,118,101,32]++t
structure LineOk (s:ByteArray):Prop where
 ge:8≤(bs s).length
 len:(bs s).length≤8100000000
 st:startsL s
theorem lines_loop (c:CtxE N g m) (st:Int) (L:List Int) (hL:∀ a∈L,∃ (k:Nat) (x:T9),a=(k:Int)∧m.Moves[k]? = some x):∀ (r:List Int) (n k:Nat) (acc:List ByteArray),L.drop k=r→r.length < n→k+r.length≤1000→acc.length+r.length≤1000 →
  ∃ v:List ByteArray,v.length=r.length∧(∀ s∈v,LineOk s)∧z31_l2 N g m st L n acc (k:Int)=z31_k1 N g m st (acc++v)∧ref43_Permitted_l2 N g m st L n acc (k:Int)=ref43_Permitted_k1 N g m st (acc++v)
 | [],n,k,acc,h,hn,hk,ha=>by
  obtain ⟨n,rfl⟩:∃ z,n=z+1:=⟨n-1,by simp at hn;omega⟩
  refine ⟨[],rfl,by simp,?_,?_⟩
  ·rw [z31_l2,lt_f (drop_nil h)];simp
  ·rw [ref43_Permitted_l2,lt_f (drop_nil h)];simp
 | a::r,n,k,acc,h,hn,hk,ha=>by
  obtain ⟨n,rfl⟩:∃ z,n=z+1:=⟨n-1,by simp at hn;omega⟩
  obtain ⟨hi,hx,hr⟩:=drop_cons h
  simp only [List.length_cons] at hn hk ha
  have hN:=c.c.hN
  obtain ⟨q,y,rfl,hy⟩:=hL a (List.mem_of_getElem? hx)
  have hmem:=List.mem_of_getElem? hy
  obtain ⟨_,_,⟨p0,_⟩,_,l0,_⟩:=c.x.mv.n.mv y hmem
  have p1:=c.x.p y hmem
  have l1:=c.x.a.l y hmem
  obtain ⟨pn,hpn⟩:=Int.eq_ofNat_of_zero_le p0
  obtain ⟨ln,hln⟩:=Int.eq_ofNat_of_zero_le l0
  have hp:=List.getElem?_eq_getElem (show pn < g.Roles.length by omega)
  have hl:=List.getElem?_eq_getElem (show ln < g.Decls.length by omega)
  generalize hR:g.Roles[pn]=role at hp
  generalize hD:g.Decls[ln]=d at hl
  have hrs:(bs role).length≤4000000:=by rw [← size_bs];exact c.c.ss.r role (List.mem_of_getElem? hp)
  have hds:(bs d.Name).length≤4000000:=by rw [← size_bs];exact (c.c.ss.d d (List.mem_of_getElem? hl)).n
  obtain ⟨s,s1,s2,s3⟩:=decl_both hN g.Decls (by have:=(valid_len c.c.a.v).1;omega) c.c.gg.dd c.c.ss.d y.Label
  rw [z31_l2,ref43_Permitted_l2,lt_t hi,idx_nat,hx,w64_succ (by omega)]
  simp only [cT,bS,idx_nat,hy]
  rw [s2,s3]
  simp only [hpn,hln,idx_nat,hp,hl,bS]
  rw [show str [115,101,110,100,32]=mkB [115,101,110,100,32] from rfl,show str [114,101,99,101,105,118,101,32]=mkB [114,101,99,101,105,118,101,32] from rfl,show str [32,116,111,32]=mkB [32,116,111,32] from rfl,show str [32,102,114,111,109,32]=mkB [32,102,114,111,109,32] from rfl,show str [32,97,103,97,105,110,32,116,111,32]=mkB [32,97,103,97,105,110,32,116,111,32] from rfl]
  have go:∀ z:List UInt8,LineOk (mkB z)→∃ v:List ByteArray,v.length=r.length+1∧(∀ s∈v,LineOk s)∧((appL acc [mkB z]).bind fun x=>z31_l2 N g m st L n x ((k+1:Nat):Int))=z31_k1 N g m st (acc++v)∧((appL acc [mkB z]).bind fun x=>ref43_Permitted_l2 N g m st L n x ((k+1:Nat):Int))=ref43_Permitted_k1 N g m st (acc++v):=fun z hz=>by
   obtain ⟨v,v1,v2,v3,v4⟩:=lines_loop c st L hL r n (k+1) (acc++[mkB z]) hr (by omega) (by omega) (by simp;omega)
   rw [appL_some (by simp;omega)]
   refine ⟨mkB z::v,by simp [v1],fun s hs=>?_,?_,?_⟩
   ·rcases List.mem_cons.1 hs with rfl | hs
    ·exact hz
    ·exact v2 s hs
   ·rw [bS,v3];simp
   ·rw [bS,v4];simp
  cases y.Again with
  | true =>
   simp only [cT]
   rw [cat_sb (by simp;omega)]
   simp only [bS]
   rw [cat_mk (by simp;omega)]
   simp only [bS]
   rw [cat_sb (by simp;omega)]
   simp only [bS]
   exact go ([115,101,110,100,32]++bs d.Name++[32,97,103,97,105,110,32,116,111,32]++bs role) ⟨by rw [bs_mkB];simp<;>omega,by rw [bs_mkB];simp<;>omega,.inl ⟨bs d.Name++[32,97,103,97,105,110,32,116,111,32]++bs role,by rw [bs_mkB];simp⟩⟩
  | false =>
   simp only [cond_false]
   cases y.Send with
   | true =>
    simp only [cT]
    rw [cat_mk (by simp;omega)]
    simp only [bS]
    rw [cat_mk (by simp;omega)]
    simp only [bS]
    rw [cat_sb (by simp;omega)]
    simp only [bS]
    exact go ([115,101,110,100,32]++s++[32,116,111,32]++bs role) ⟨by rw [bs_mkB];simp<;>omega,by rw [bs_mkB];simp<;>omega,.inl ⟨s++[32,116,111,32]++bs role,by rw [bs_mkB];simp⟩⟩
   | false =>
    simp only [cond_false]
    rw [cat_mk (by simp;omega)]
    simp only [bS]
    rw [cat_mk (by simp;omega)]
    simp only [bS]
    rw [cat_sb (by simp;omega)]
    simp only [bS]
    exact go ([114,101,99,101,105,118,101,32]++s++[32,102,114,111,109,32]++bs role) ⟨by rw [bs_mkB];simp<;>omega,by rw [bs_mkB];simp<;>omega,.inr ⟨s++[32,102,114,111,109,32]++bs role,by rw [bs_mkB];simp⟩⟩
def oneI (b:Bool):Nat:=bif b then 1 else 0
def finV (m:T8) (s:Int):Bool:=(idx m.Finals s).getD false
theorem time_facts (hv:ValidM m) {t:T11} (ht:t∈m.Timeouts):I64 t.Ticks∧∃ (k:Nat) (y:T9),t.Else=(k:Int)∧m.Moves[k]? = some y:=by
 have h:=hv.tm
 rw [allV_iff] at h
 obtain ⟨i,hi⟩:=List.getElem?_of_mem ht
 have:=h i t hi
 unfold timeM at this
 simp only [Bool.and_eq_true,decide_eq_true_eq] at this
 obtain ⟨⟨⟨h1,h2,h3,h4⟩,_⟩,_⟩:=this
 obtain ⟨k,hk⟩:=Int.eq_ofNat_of_zero_le h3
 exact ⟨⟨by omega,by omega⟩,k,_,hk,List.getElem?_eq_getElem (show k < m.Moves.length by omega)⟩
theorem lines_end (c:CtxE N g m) {st:Int} (s0:0≤st) (s1:st < m.States) (v:List ByteArray) (hv:v.length≤1000) :
  ∃ w:List ByteArray,w.length=oneI (limV m.Timeouts st).isSome+oneI (finV m st)∧(∀ s∈w,(bs s).length≤8100000000∧bs s≠[])∧z31_k1 N g m st v=some (v++w)∧ref43_Permitted_k1 N g m st v=some (v++w,0):=by
 have hN:=c.c.hN
 have hmv:=c.x.mv
 obtain ⟨t,b,e1,e2,e3,e4⟩:=timeout_both hN c.c.t c.mb c.rb s0 s1
 obtain ⟨sn,rfl⟩:=Int.eq_ofNat_of_zero_le s0
 have hf:=hmv.n.f
 have hfin:=List.getElem?_eq_getElem (show sn < m.Finals.length by omega)
 generalize hF:m.Finals[sn]=fin at hfin
 have hfv:finV m (sn:Int)=fin:=by unfold finV;rw [idx_nat,hfin];rfl
 rw [hfv]
 have last:∀ u:List ByteArray,u.length≤1010→∃ w:List ByteArray,w.length=oneI fin∧(∀ s∈w,(bs s).length≤8100000000∧bs s≠[])∧(bif fin then ((appL u ([(str [116,104,101,32,101,110,100])]:List ByteArray)).bind fun x=>some x) else some u)=some (u++w)∧(bif fin then ((appL u ([(str [116,104,101,32,101,110,100])]:List ByteArray)).bind fun x=>some (x,(0:Int))) else some (u,(0:Int)))=some (u++w,0):=fun u hu=>by
  cases fin with
  | false=>exact ⟨[],rfl,by simp,by simp,by simp⟩
  | true =>
   rw [appL_some (by simp;omega)]
   refine ⟨[str [116,104,101,32,101,110,100]],rfl,fun s hs=>?_,rfl,rfl⟩
   rw [List.mem_singleton.1 hs]
   have e:bs (str [116,104,101,32,101,110,100])=[116,104,101,32,101,110,100]:=rfl
   rw [e];exact ⟨by simp,by simp⟩
 unfold z31_k1 ref43_Permitted_k1
 rw [e1,e2,e3]
 simp only [bS]
 cases b with
 | false =>
  simp only [cond_false,idx_nat,hfin,bS]
  obtain ⟨w,w1,w2,w3,w4⟩:=last v (by omega)
  exact ⟨w,by rw [w1];simp [oneI],w2,w3,w4⟩
 | true =>
  obtain ⟨ht,_⟩:=e4 rfl
  obtain ⟨hi,k,y,hk,hy⟩:=time_facts hmv ht
  have hmem:=List.mem_of_getElem? hy
  obtain ⟨_,_,⟨p0,_⟩,_,l0,_⟩:=hmv.n.mv y hmem
  have p1:=c.x.p y hmem
  have l1:=c.x.a.l y hmem
  obtain ⟨pn,hpn⟩:=Int.eq_ofNat_of_zero_le p0
  obtain ⟨ln,hln⟩:=Int.eq_ofNat_of_zero_le l0
  have hp:=List.getElem?_eq_getElem (show pn < g.Roles.length by omega)
  have hl:=List.getElem?_eq_getElem (show ln < g.Decls.length by omega)
  generalize hR:g.Roles[pn]=role at hp
  generalize hD:g.Decls[ln]=d at hl
  have hrs:(bs role).length≤4000000:=by rw [← size_bs];exact c.c.ss.r role (List.mem_of_getElem? hp)
  have hds:(bs d.Name).length≤4000000:=by rw [← size_bs];exact (c.c.ss.d d (List.mem_of_getElem? hl)).n
  have hit:=itoa_bs t.Ticks
  simp only [cT,hk,idx_nat,hy,bS]
  rw [itoa_eq hi,digits09_eq hN hi]
  simp only [bS,hpn,hln,idx_nat,hp,hl,hfin]
  rw [show str [119,105,116,104,105,110,32]=mkB [119,105,116,104,105,110,32] from rfl,show str [32,116,105,99,107,115,44,32,111,116,104,101,114,119,105,115,101,32]=mkB [32,116,105,99,107,115,44,32,111,116,104,101,114,119,105,115,101,32] from rfl,show str [32,116,111,32]=mkB [32,116,111,32] from rfl]
  rw [cat_sb (by simp;omega)]
  simp only [bS]
  rw [cat_mk (by simp;omega)]
  simp only [bS]
  rw [cat_sb (by simp;omega)]
  simp only [bS]
  rw [cat_mk (by simp;omega)]
  simp only [bS]
  rw [cat_sb (by simp;omega)]
  simp only [bS]
  rw [appL_some (by simp;omega)]
  simp only [bS]
  generalize hz:([119,105,116,104,105,110,32]++bs (itoaS t.Ticks)++[32,116,105,99,107,115,44,32,111,116,104,101,114,119,105,115,101,32]++bs d.Name++[32,116,111,32]++bs role:List UInt8)=z
  have hzl:z.length≤8100000000∧z≠[]:=by
   rw [← hz]
   refine ⟨by simp;omega,by simp⟩
  obtain ⟨w,w1,w2,w3,w4⟩:=last (v++[mkB z]) (by simp;omega)
  refine ⟨mkB z::w,by simp [w1,oneI];omega,fun s hs=>?_,?_,?_⟩
  ·rcases List.mem_cons.1 hs with rfl | hs
   ·rw [bs_mkB];exact hzl
   ·exact w2 s hs
  ·rw [w3];simp
  ·rw [w4];simp
theorem lines_both (c:CtxE N g m) {st:Int} (s0:0≤st) (s1:st < m.States) :
  ∃ (L:List Int) (v w:List ByteArray),MovesAre m st m.Moves.length L∧L.length=(ixM m m.Moves.length st.toNat).length∧v.length=L.length∧(∀ s∈v,LineOk s)∧w.length=oneI (limV m.Timeouts st).isSome+oneI (finV m st)∧(∀ s∈w,(bs s).length≤8100000000∧bs s≠[]) ∧
   z31 N g m st=some (v++w)∧((ref26_Moves N m st).bind fun x3=>ref43_Permitted_l2 N g m st x3 N ([]:List ByteArray) (0:Int))=some (v++w,0):=by
 have hN:=c.c.hN
 have hmv:=c.x.mv
 obtain ⟨L,e1,e2,hL,hLc⟩:=moves_both hN c.c.t hmv c.rb s0 s1
 have hml:=hmv.n.n
 have hLl:=hL.len
 obtain ⟨v,v1,v2,v3,v4⟩:=lines_loop c st L (fun a ha=>by obtain ⟨k,x,h1,_,h2,_⟩:=(hL.mem a).1 ha;exact ⟨k,x,h1,h2⟩) L N 0 [] rfl (by omega) (by omega) (by simp;omega)
 obtain ⟨w,w1,w2,w3,w4⟩:=lines_end c s0 s1 v (by omega)
 refine ⟨L,v,w,hL,hLc,v1,v2,w1,w2,?_,?_⟩
 ·unfold z31
  rw [e1,bS,show (0:Int)=((0:Nat):Int) from rfl,v3,List.nil_append,w3]
 ·rw [e2,bS,show (0:Int)=((0:Nat):Int) from rfl,v4,List.nil_append,w4];rfl
theorem newFits (c:Ctx0 N g m) (hn:NumE g):z30 N g m=some true∧((ref40_New N g m).bind fun x1=>ref40_Fits N g m x1)=some true:=by
 have hS:=new_st c
 refine ⟨?_,?_⟩
 ·unfold z30
  rw [New_eq c,bS,fits_true c hS];rfl
 ·rw [refNew_eq c hn,bS,refFits_true c hn hS]
theorem newNot (hN:4194304 < N) (hg:SizeG g) (hs:SizeN g) (hn:NumE g) (ht:m.Timeouts.length≤4194304) (h:z60 N g m=some false):z30 N g m=some false∧((ref40_New N g m).bind fun x1=>ref40_Fits N g m x1)=some false:=by
 obtain ⟨b,e,f,_⟩:=agree_both hN g hg hs hn m ht
 rw [h] at e
 cases e
 refine ⟨?_,?_⟩
 ·unfold z30 z24
  rw [h]
  simp only [bS]
  have:∀ s,z46 N g m s=some false:=fun s=>by
   unfold z46
   rw [h];rfl
  show ((some _).bind _).bind _=_
  simp only [bS,Bool.not_false,cT,this]
 ·unfold ref40_New ref40_Fits
  rw [f]
  simp only [bS,Bool.not_false,cT,cond_false]
theorem perm_both (hN:4194304 < N) (hg:SizeG g) (hs:SizeN g) (hn:NumE g) (ht:m.Timeouts.length≤4194304) (st:Int) :
  (z10 N g m st=some ([],1)∧ref43_Permitted N g m st=some ([],1)) ∨
  ∃ (L:List Int) (v w:List ByteArray),CtxE N g m∧0≤st∧st < m.States∧MovesAre m st m.Moves.length L∧L.length=(ixM m m.Moves.length st.toNat).length∧v.length=L.length∧(∀ s∈v,LineOk s)∧w.length=oneI (limV m.Timeouts st).isSome+oneI (finV m st)∧(∀ s∈w,(bs s).length≤8100000000∧bs s≠[]) ∧
   z31 N g m st=some (v++w)∧z10 N g m st=some (v++w,0)∧ref43_Permitted N g m st=some (v++w,0):=by
 obtain ⟨b,e,hb⟩:=agree_some hN g hg hs m ht
 cases b with
 | false =>
  obtain ⟨h1,h2⟩:=newNot hN hg hs hn ht e
  refine .inl ⟨?_,?_⟩
  ·unfold z10
   rw [h1];rfl
  ·unfold ref43_Permitted
   cases hq:ref40_New N g m with
   | none=>rw [hq] at h2;cases h2
   | some q =>
    rw [hq] at h2
    simp only [bS] at h2 ⊢
    rw [h2];rfl
 | true =>
  have c:Ctx0 N g m:=⟨hN,hg,hs,ht,hb rfl,e⟩
  have cx:=ctxE_of c hn
  obtain ⟨h1,h2⟩:=newFits c hn
  have e1:∀ {A:Type} (f:Bool→Option A),((ref40_New N g m).bind fun x1=>(ref40_Fits N g m x1).bind f)=f true:=fun f=>by
   rw [← Option.bind_assoc,h2];rfl
  by_cases c0:st < 0
  ·refine .inl ⟨?_,?_⟩
   ·unfold z10
    rw [h1,dT c0];rfl
   ·unfold ref43_Permitted
    rw [e1,dT c0];rfl
  by_cases c1:st≥m.States
  ·refine .inl ⟨?_,?_⟩
   ·unfold z10
    rw [h1,dF c0,dT c1];rfl
   ·unfold ref43_Permitted
    rw [e1,dF c0,dT c1];rfl
  obtain ⟨L,v,w,a1,a1c,a2,a3,a4,a5,a6,a7⟩:=lines_both cx (show 0≤st by omega) (by omega)
  refine .inr ⟨L,v,w,cx,by omega,by omega,a1,a1c,a2,a3,a4,a5,a6,?_,?_⟩
  ·unfold z10
   rw [h1,dF c0,dF c1,a6];rfl
  ·unfold ref43_Permitted
   rw [e1,dF c0,dF c1]
   simp only [Bool.not_true,cond_false]
   exact a7
end Gp
end
section
namespace Gp
open Go Go.Kx Gx
variable {N:Nat} {g:T5} {m:T8}
end Gp
end
section
namespace Gp
open Go Go.Kx Gx
variable {N:Nat} {g:T5} {m:T8}
theorem runV_err {f:T16→T3→T16 × Int} (r:List T3):∀ (h:List T3) (s:T16) (k:Nat),(runV f h s k).2.2≠0→runV f (h++r) s k=runV f h s k
 | [],s,k,hne=>absurd rfl hne
 | x::h,s,k,hne=>by
  show runV f (x::(h++r)) s k=_
  rw [runV,runV] at *
  cases c:((f s x).2 != 0) with
  | true=>rfl
  | false =>
   rw [c] at hne
   exact runV_err r h _ _ hne
theorem reason_all (hN:4194304 < N) (hg:SizeG g) (hs:SizeN g) (hn:NumE g) (ht:m.Timeouts.length≤4194304) (l:List T3) (hl:l.length≤4194304) (he:∀ x∈l,SizeE x) (hso:∀ x∈l,ShowOk g x) :
  (∃ (t:T16) (j e:Int),z17 N g m l=some (t,j,e)∧(e=0∨e=1)∧z18 N g m l=some (str [],e)∧ref41_Reason N g m l=some (str [],e)) ∨
  (∃ (t:T16) (j e:Int) (z:List UInt8),z17 N g m l=some (t,j,e)∧e≠0∧e≠1∧z.length≤35184900000000∧z≠[]∧z18 N g m l=some (mkB z,0)∧ref41_Reason N g m l=some (mkB z,0)):=by
 rcases Find_eq hN hg hs hn ht l hl he with ⟨t,j,e,r1,r2,h1⟩ | ⟨t,j,x,e,k,p,c,_,r1,r2,r3,_,_,_,_,_,_,h1⟩
 ·rcases refFind_eq hN hg hs hn ht l hl he with ⟨e',g1,g2⟩ | ⟨t',j',x',e',k',p',r',_,_,_,g1,g2⟩
  ·rw [h1] at g1
   cases g1
   refine .inl ⟨t,j,e,r1,r2,?_,?_⟩
   ·unfold z18
    rw [h1]
    simp only [bS]
    cases (e != 0)<;>rfl
   ·unfold ref41_Reason
    rw [g2];rfl
  ·rw [h1] at g1
   simp only [Option.some.injEq,Prod.mk.injEq] at g1
   cases g1.2.1
 ·rcases refFind_eq hN hg hs hn ht l hl he with ⟨e',g1,g2⟩ | ⟨t',j',x',e',k',p',r',c',hx,hk,g1,g2⟩
  ·rw [h1] at g1
   simp only [Option.some.injEq,Prod.mk.injEq] at g1
   cases g1.2.1
  ·have hxs:=he x' (List.mem_of_getElem? hx)
   have hS:=hso x' (List.mem_of_getElem? hx)
   have hsl:=showE_len hS
   obtain ⟨R,b1,b2,b3⟩:=reason_both c' hS hk (part_i64 c' hxs.l hk) (j':Int) r' (S:=showE g x'++[32]) (by simp;omega)
   refine .inr ⟨t,j,e,showE g x'++[32]++R,r1,r2,r3,by simp;omega,by simp,?_,?_⟩
   ·unfold z18
    rw [g1]
    have b0:((0:Int) != 0)=false:=rfl
    simp only [bS,b0,Bool.not_true,cond_false,idx_nat,hx]
    rw [bShow_eq hN hS,bS,show str [32]=mkB [32] from rfl,cat_mk (by simp;omega),bS,b2,bS,cat_mk (by simp;omega),bS]
   ·unfold ref41_Reason
    rw [g2]
    simp only [bS,Bool.not_true,cond_false,idx_nat,hx]
    rw [rShow_eq hN hS,bS,show str [32]=mkB [32] from rfl,cat_mk (by simp;omega),bS]
    exact b3
def permT (u:List ByteArray):List UInt8:=match u with
 | []=>[110,111,116,104,105,110,103]
 | s::r=>joinL [59,32] ((s::r).map bs)
def PERM:List UInt8:=[59,32,112,101,114,109,105,116,116,101,100,58,32]
theorem map_mk (u:List ByteArray):(u.map bs).map mkB=u:=by
 rw [List.map_map]
 conv=>rhs;rw [← List.map_id u]
 exact List.map_congr_left fun s _=>mkB_bs s
theorem rwhy_loop (u:List ByteArray):∀ (r:List ByteArray) (n k:Nat) (acc:List UInt8),0 < k→u.drop k=r→r.length < n→k+r.length≤1000→(∀ s∈r,(bs s).length≤8100000000)→acc.length+r.length * 8100000002≤4611686018427387904 →
  ref43_Why_l2 u n (mkB acc) (k:Int)=some (mkB (acc++tailL [59,32] (r.map bs)),0)
 | [],n,k,acc,h0,h,hn,hk,hs,ha=>by
  obtain ⟨n,rfl⟩:∃ z,n=z+1:=⟨n-1,by simp at hn;omega⟩
  rw [ref43_Why_l2,lt_f (drop_nil h)]
  simp [ref43_Why_k1,tailL]
 | s::r,n,k,acc,h0,h,hn,hk,hs,ha=>by
  obtain ⟨n,rfl⟩:∃ z,n=z+1:=⟨n-1,by simp at hn;omega⟩
  obtain ⟨hi,hx,hr⟩:=drop_cons h
  simp only [List.length_cons] at hn hk ha
  have hsl:=hs s List.mem_cons_self
  rw [ref43_Why_l2,lt_t hi,dT (show (k:Int) > 0 by omega),idx_nat,hx,show str [59,32]=mkB [59,32] from rfl,w64_succ (by omega)]
  simp only [cT]
  rw [cat_mk (by simp;omega),bS,bS,cat_sb (by simp;omega),bS]
  rw [rwhy_loop u r n (k+1) _ (by omega) hr (by omega) (by omega) (fun y hy=>hs y (List.mem_cons_of_mem _ hy)) (by simp;omega),List.map_cons,tailL_cons]
  simp
theorem rwhy_eq (hN:4194304 < N) (u:List ByteArray) (hu:u≠[]) (hl:u.length≤500) (hs:∀ s∈u,(bs s).length≤8100000000) {acc:List UInt8} (ha:acc.length≤35185900000000):ref43_Why_l2 u N (mkB acc) 0=some (mkB (acc++permT u),0):=by
 obtain ⟨M,rfl⟩:∃ z,N=z+1:=⟨N-1,by omega⟩
 cases u with
 | nil=>exact absurd rfl hu
 | cons s r =>
  simp only [List.length_cons] at hl
  have hsl:=hs s List.mem_cons_self
  rw [show (0:Int)=((0:Nat):Int) from rfl,ref43_Why_l2,lt_t (by simp),dF (show ¬ ((0:Nat):Int) > 0 by omega),idx_nat,w64_succ (by omega)]
  simp only [cT,cond_false,List.getElem?_cons_zero,bS]
  rw [cat_sb (by omega),bS,rwhy_loop (s::r) r M (0+1) _ (by omega) rfl (by omega) (by omega) (fun y hy=>hs y (List.mem_cons_of_mem _ hy)) (by simp;omega)]
  show some (mkB (acc++bs s++tailL [59,32] (r.map bs)),(0:Int))=some (mkB (acc++(bs s++tailL [59,32] (r.map bs))),0)
  rw [aA]
theorem permT_len (u:List ByteArray) (hl:u.length≤500) (hs:∀ s∈u,(bs s).length≤8100000000):(permT u).length≤4050000001000:=by
 unfold permT
 cases u with
 | nil=>simp
 | cons s r =>
  have h1:=joinL_len (sep:=[59,32]) (c:=8100000000) (l:=(s::r).map bs) fun x hx=>by
   obtain ⟨y,hy,rfl⟩:=List.mem_map.1 hx
   exact hs y hy
  have h2:((s::r).map bs).length * (8100000000+2)≤500 * 8100000002:=Nat.mul_le_mul (by rw [List.length_map];exact hl) (by decide)
  exact Nat.le_trans h1 (Nat.le_trans h2 (by decide))
theorem why_both (hN:4194304 < N) (hg:SizeG g) (hs:SizeN g) (hn:NumE g) (ht:m.Timeouts.length≤4194304) (h:List T3) (x:T3) (hl:(h++[x]).length≤4194304) (he:∀ y∈h++[x],SizeE y) (hso:∀ y∈h++[x],ShowOk g y) :
  (∃ e q,(e=1∨e=7)∧z17 N g m (h++[x])=some q∧q.2.2≠0∧(∃ q',z17 N g m h=some q')∧z15 N g m h x=some (str [],e)∧ref43_Why N g m h x=some (str [],e)) ∨
  (∃ q q',z17 N g m (h++[x])=some q∧q.2.2=0∧z17 N g m h=some q'∧q'.2.2=0∧z15 N g m h x=some (str [],0)∧ref43_Why N g m h x=some (str [],0)) ∨
  (∃ q t j z u,z17 N g m (h++[x])=some q∧q.2.2≠0∧z17 N g m h=some (t,j,0)∧z18 N g m (h++[x])=some (mkB z,0)∧z.length≤35184900000000∧z≠[]∧z10 N g m t.At=some (u,0)∧u.length≤500∧(∀ s∈u,(bs s).length≤8100000000) ∧
   z15 N g m h x=some (mkB (z++PERM++permT u),0)∧ref43_Why N g m h x=some (mkB (z++PERM++permT u),0)):=by
 have hl':h.length+1≤4194304:=by simpa using hl
 have he':∀ y∈h,SizeE y:=fun y hy=>he y (List.mem_append_left _ hy)
 obtain ⟨b,eb,hb⟩:=agree_some hN g hg hs m ht
 cases b with
 | false =>
  obtain ⟨_,_,r1,r2⟩:=run_not hN hg hs hn ht h eb
  obtain ⟨_,_,r3,_⟩:=run_not hN hg hs hn ht (h++[x]) eb
  refine .inl ⟨1,_,.inl rfl,r3,by decide,⟨_,r1⟩,?_,?_⟩
  ·unfold z15
   rw [r1];rfl
  ·unfold ref43_Why
   rw [r2];rfl
 | true =>
  have c:Ctx0 N g m:=⟨hN,hg,hs,ht,hb rfl,eb⟩
  have cx:=ctxE_of c hn
  have r1:=Run_eq c h (by omega) he'
  have r2:=refRun_eq c hn h (by omega) he'
  have r3:=Run_eq c (h++[x]) hl he
  obtain ⟨q1,q2⟩:=runV_st c h (newV g m) 0 he' (new_st c)
  have q4:=(runV_st c (h++[x]) (newV g m) 0 he (new_st c)).2
  have herr:=runV_err (f:=stepF N g m) [x] h (newV g m) 0
  generalize hr:runV (stepF N g m) h (newV g m) 0=r at r1 r2 q1 q2 herr
  obtain ⟨t,j,e⟩:=r
  simp only [] at q1 q2 herr
  have c1:(e==1)=false:=by simpa using q2
  by_cases c2:e=0
  ·subst c2
   have b0:((0:Int) != 0)=false:=rfl
   have b1:((0:Int)==1)=false:=rfl
   have cl:z44 N h=some h:=by
    unfold z44
    rw [appL_some (by simp;omega)];rfl
   have e1:∀ {A:Type} (f:List T3→Option A),((z44 N h).bind fun x2=>(appL x2 [x]).bind f)=f (h++[x]):=fun f=>by
    rw [cl,bS,appL_some (by simp;omega),bS]
   have e2:∀ {A:Type} (f:List T3→Option A),((appL ([]:List T3) h).bind fun x2=>(appL x2 [x]).bind f)=f (h++[x]):=fun f=>by
    rw [appL_some (by simp;omega),bS,List.nil_append,appL_some (by simp;omega),bS]
   rcases reason_all hN hg hs hn ht (h++[x]) hl he hso with ⟨t',j',e',a1,a2,a3,a4⟩ | ⟨t',j',e',z,a1,a2,a3,a4,a5,a6,a7⟩
   ·have a2:e'=0:=by
     rcases a2 with a2 | a2
     ·exact a2
     ·rw [r3] at a1
      have:=Option.some.inj a1
      rw [this] at q4
      exact absurd a2 q4
    subst a2
    refine .inr (.inl ⟨_,_,a1,rfl,r1,rfl,?_,?_⟩)
    ·unfold z15
     rw [r1]
     simp only [bS,b0,b1,cond_false]
     rw [e1,a3]
     simp only [bS,b0,cond_false,beq_self_eq_true,cT]
    ·unfold ref43_Why
     rw [r2]
     simp only [bS,b0,b1,cond_false]
     rw [e2,a4]
     simp only [bS,beq_self_eq_true,cT]
   ·rcases perm_both hN hg hs hn ht t.At with ⟨p1,_⟩ | ⟨L,v,w,_,s0,s1,hL,_,v1,v2,w1,w2,p0,p1,p2⟩
    ·exfalso
     obtain ⟨L,v,w,_,_,_,_,_,_,p6,_⟩:=lines_both cx q1.a0 q1.a1
     unfold z10 at p1
     rw [(newFits c hn).1,dF (show ¬ t.At < 0 by have:=q1.a0;omega),dF (show ¬ t.At≥m.States by have:=q1.a1;omega),p6] at p1
     simp at p1
    ·have hLl:=hL.len
     have hml:=cx.x.mv.n.n
     have h2:w.length≤2:=by
      rw [w1]
      cases (limV m.Timeouts t.At).isSome<;>cases (finV m t.At)<;>simp [oneI]
     have hul:(v++w).length≤500:=by simp;omega
     have hus:∀ s∈v++w,(bs s).length≤8100000000:=fun s hs=>by
      rcases List.mem_append.1 hs with hs | hs
      ·exact (v2 s hs).len
      ·exact (w2 s hs).1
     have hun:∀ s∈v++w,bs s≠[]:=fun s hs=>by
      rcases List.mem_append.1 hs with hs | hs
      ·intro e;have:=(v2 s hs).ge;rw [e] at this;simp at this
      ·exact (w2 s hs).2
     have hpl:=permT_len (v++w) hul hus
     have hz:((mkB z).toList==(str []).toList)=false:=by
      rw [toList_bs,toList_bs,bs_mkB]
      have:bs (str [])=[]:=rfl
      rw [this]
      simpa using a5
     generalize hu:v++w=u at p0 p1 p2 hul hus hun hpl
     refine .inr (.inr ⟨_,t,j,z,u,a1,a2,r1,a6,a4,a5,p1,hul,hus,?_,?_⟩)
     ·unfold z15
      rw [r1]
      simp only [bS,b0,b1,cond_false]
      rw [e1,a6]
      simp only [bS,b0,cond_false,hz]
      rw [p0,bS]
      have hj:=join_eq (N:=N) (l:=u.map bs) (sep:=[59,32]) (by rw [List.length_map];omega) (by
       have h1:=joinL_len (sep:=[59,32]) (c:=8100000000) (l:=u.map bs) fun x hx=>by
        obtain ⟨y,hy,rfl⟩:=List.mem_map.1 hx
        exact hus y hy
       have h2:(u.map bs).length * (8100000000+2)≤500 * 8100000002:=Nat.mul_le_mul (by rw [List.length_map];exact hul) (by decide)
       exact Nat.le_trans h1 (Nat.le_trans h2 (by decide)))
      rw [map_mk] at hj
      rw [show str [59,32]=mkB [59,32] from rfl,hj,bS,show str [59,32,112,101,114,109,105,116,116,101,100,58,32]=mkB PERM from rfl,show str [110,111,116,104,105,110,103]=mkB [110,111,116,104,105,110,103] from rfl]
      have hP:PERM.length=13:=rfl
      rw [toList_bs (mkB (joinL [59,32] (u.map bs))),toList_bs (str []),bs_mkB,cat_mk (by omega)]
      have e0:bs (str [])=[]:=rfl
      rw [e0]
      cases u with
      | nil =>
       show (bif (([]:List UInt8)==[]) then _ else _)=_
       simp only [beq_self_eq_true,cT,bS]
       rw [cat_mk (by simp;omega)];rfl
      | cons s r =>
       have hne:(joinL [59,32] ((s::r).map bs)==[])=false:=by
        have:=hun s List.mem_cons_self
        show ((bs s++_)==[])=false
        cases hb:bs s with
        | nil=>exact absurd hb this
        | cons a q=>rfl
       have hpl2:(joinL [59,32] ((s::r).map bs)).length≤4050000001000:=hpl
       rw [hne,cond_false,bS,cat_mk (by rw [lA,hP];omega)]
       rfl
     ·unfold ref43_Why
      rw [r2]
      simp only [bS,b0,b1,cond_false]
      rw [e2,a7]
      simp only [bS,hz,cond_false]
      rw [p2,bS]
      have hP:PERM.length=13:=rfl
      have k3:∀ u:List ByteArray,u≠[]→u.length≤500→(∀ s∈u,(bs s).length≤8100000000)→ref43_Why_k3 N (mkB z,0) u=some (mkB (z++PERM++permT u),0):=fun u h1 h2 h3=>by
       unfold ref43_Why_k3
       rw [show str [59,32,112,101,114,109,105,116,116,101,100,58,32]=mkB PERM from rfl]
       show ((catS (mkB z) (mkB PERM)).bind _)=_
       rw [cat_mk (by omega),bS,rwhy_eq hN u h1 h2 h3 (by rw [lA,hP];omega)]
      cases u with
      | nil =>
       show (bif (((([]:List ByteArray).length:Nat):Int)==0) then _ else _)=_
       have:((((([]:List ByteArray).length:Nat):Int)==0))=true:=rfl
       rw [this,cT,k3 _ (by simp) (by simp) (fun s hs=>by
        rw [List.mem_singleton.1 hs]
        have:bs (str [110,111,116,104,105,110,103])=[110,111,116,104,105,110,103]:=rfl
        rw [this];simp)]
       rfl
      | cons s r =>
       have:((((s::r).length:Nat):Int)==0)=false:=by simp;omega
       show (bif ((((s::r).length:Nat):Int)==0) then _ else _)=_
       rw [this,cond_false]
       exact k3 _ (by simp) hul hus
  ·have c3:(e != 0)=true:=by simpa using c2
   have:=herr c2
   rw [this] at r3
   refine .inl ⟨7,_,.inr rfl,r3,c2,⟨_,r1⟩,?_,?_⟩
   ·unfold z15
    rw [r1]
    simp only [bS,c1,c3,cond_false,cT]
   ·unfold ref43_Why
    rw [r2]
    simp only [bS,c1,c3,cond_false,cT]
theorem last_split {l:List T3} (hne:l≠[]) (hl:l.length≤4194304):∃ h x,l=h++[x]∧lsl l none (some (w64 ((l.length:Int)-1)))=some h∧idx l (w64 ((l.length:Int)-1))=some x:=by
 refine ⟨l.dropLast,l.getLast hne,(List.dropLast_concat_getLast hne).symm,?_,?_⟩
 ·have h0:0 < l.length:=List.length_pos_iff.2 hne
  rw [w64_id (by omega) (by omega)]
  exact lsl_to (List.dropLast_concat_getLast hne).symm (by rw [List.length_dropLast];omega)
 ·have h0:0 < l.length:=List.length_pos_iff.2 hne
  rw [w64_id (by omega) (by omega),show (l.length:Int)-1=((l.length-1:Nat):Int) by omega,idx_nat,List.getLast_eq_getElem,List.getElem?_eq_getElem]
theorem permits_loop (hN:4194304 < N) (x5:ByteArray × Int) (x7:T16 × Int × Int) (x8:ByteArray × Int) (u:List ByteArray) (e9:Int):∀ (r:List ByteArray) (n k:Nat) (acc:List UInt8),0 < k→u.drop k=r→r.length < n→k+r.length≤1000→(∀ s∈r,(bs s).length≤8100000000)→acc.length+r.length * 8100000002≤4611686018427387904 →
  law43_ExplainPermits_l3 x5 x7 x8 (u,e9) n (mkB acc) (k:Int)=law43_ExplainPermits_k2 x5 x7 x8 (u,e9) (mkB (acc++tailL [59,32] (r.map bs)))
 | [],n,k,acc,h0,h,hn,hk,hs,ha=>by
  obtain ⟨n,rfl⟩:∃ z,n=z+1:=⟨n-1,by simp at hn;omega⟩
  rw [law43_ExplainPermits_l3]
  show (bif decide ((k:Int) < (u.length:Int)) then _ else _)=_
  rw [lt_f (drop_nil h)]
  simp [tailL]
 | s::r,n,k,acc,h0,h,hn,hk,hs,ha=>by
  obtain ⟨n,rfl⟩:∃ z,n=z+1:=⟨n-1,by simp at hn;omega⟩
  obtain ⟨hi,hx,hr⟩:=drop_cons h
  simp only [List.length_cons] at hn hk ha
  have hsl:=hs s List.mem_cons_self
  rw [law43_ExplainPermits_l3]
  show (bif decide ((k:Int) < (u.length:Int)) then (bif decide ((k:Int) > 0) then ((catS (mkB acc) (str [59,32])).bind fun x53=>(idx u (k:Int)).bind fun x54=>(catS x53 x54).bind fun x55=>law43_ExplainPermits_l3 x5 x7 x8 (u,e9) n x55 (w64 ((k:Int)+1))) else _) else _)=_
  rw [lt_t hi,dT (show (k:Int) > 0 by omega),idx_nat,hx,show str [59,32]=mkB [59,32] from rfl,w64_succ (by omega)]
  simp only [cT]
  rw [cat_mk (by simp;omega),bS,bS,cat_sb (by simp;omega),bS]
  rw [permits_loop hN x5 x7 x8 u e9 r n (k+1) _ (by omega) hr (by omega) (by omega) (fun y hy=>hs y (List.mem_cons_of_mem _ hy)) (by simp;omega),List.map_cons,tailL_cons]
  simp
theorem permits_law (hN:4194304 < N) (ha:z8 N=some true) (hg:SizeG g) (hs:SizeN g) (hn:NumE g) (ht:m.Timeouts.length≤4194304) (l:List T3) (hl:l.length≤4194304) (he:∀ x∈l,SizeE x) (hso:∀ x∈l,ShowOk g x) (hb:∃ b,z9 N g m l=some b):law43_ExplainPermits N g m l=some true:=by
 obtain ⟨b,eb⟩:=hb
 unfold law43_ExplainPermits
 rw [ha,eb]
 simp only [bS,Bool.not_true,cond_false]
 cases b with
 | false=>rfl
 | true =>
 simp only [Bool.not_true,cond_false]
 by_cases h0:l=[]
 ·subst h0;rfl
 rw [show ((l.length:Int)==0)=false by
  have:=List.length_pos_iff.2 h0
  simp;omega,cond_false]
 obtain ⟨h,x,rfl,e1,e2⟩:=last_split h0 hl
 simp only [e1,e2,bS]
 have b0:((0:Int) != 0)=false:=rfl
 rcases why_both hN hg hs hn ht h x hl he hso with ⟨e,q,a1,a2,a3,⟨q',a6⟩,a4,a5⟩ | ⟨q,q',a2,a3,a6,a7,a4,a5⟩ | ⟨q,t,j,z,u,a2,a3,a6,a7,a8,a9,a10,a11,a12,a4,a5⟩
 ·rw [a4,a6]
  simp only [bS]
  rcases a1 with rfl | rfl<;>rfl
 ·rw [a4,a6]
  simp only [bS,b0,cond_false,beq_self_eq_true,cT,a7]
 ·rw [a4,a6,a7]
  have hz:((mkB (z++PERM++permT u)).toList==(str []).toList)=false:=by
   rw [toList_bs,toList_bs,bs_mkB]
   have:bs (str [])=[]:=rfl
   rw [this]
   simp [a9]
  simp only [bS,b0,cond_false,hz]
  rw [a10,bS,show str [59,32,112,101,114,109,105,116,116,101,100,58,32]=mkB PERM from rfl]
  have hP:PERM.length=13:=rfl
  have hpl:=permT_len u a11 a12
  rw [cat_mk (by omega),bS]
  have hend:∀ v:ByteArray,v=mkB (z++PERM++permT u)→law43_ExplainPermits_k1 (mkB (z++PERM++permT u),0) (t,j,0) (mkB z,0) (u,0) v=some true:=fun v hv=>by
   subst hv
   unfold law43_ExplainPermits_k1
   simp only [beq_self_eq_true,cT]
  obtain ⟨M,rfl⟩:∃ w,N=w+1:=⟨N-1,by omega⟩
  cases u with
  | nil =>
   rw [law43_ExplainPermits_l3]
   show law43_ExplainPermits_k2 _ _ _ ([],0) _=_
   unfold law43_ExplainPermits_k2
   show ((catS (mkB (z++PERM)) (str [110,111,116,104,105,110,103])).bind _)=_
   rw [show str [110,111,116,104,105,110,103]=mkB [110,111,116,104,105,110,103] from rfl,cat_mk (by simp;omega),bS]
   exact hend _ rfl
  | cons s r =>
   simp only [List.length_cons] at a11
   have hsl:=a12 s List.mem_cons_self
   rw [show (0:Int)=((0:Nat):Int) from rfl,law43_ExplainPermits_l3]
   show (bif decide (((0:Nat):Int) < ((s::r).length:Int)) then (bif decide (((0:Nat):Int) > 0) then _ else (idx (s::r) ((0:Nat):Int)).bind fun x56=>(catS (mkB (z++PERM)) x56).bind fun x57=>law43_ExplainPermits_l3 _ _ _ (s::r,0) M x57 (w64 (((0:Nat):Int)+1))) else _)=_
   rw [lt_t (by simp),dF (show ¬ ((0:Nat):Int) > 0 by omega),idx_nat,w64_succ (by omega)]
   simp only [cT,cond_false,List.getElem?_cons_zero,bS]
   rw [cat_sb (by rw [lA,hP];omega),bS]
   have:=permits_loop hN (mkB (z++PERM++permT (s::r)),((0:Nat):Int)) (t,j,((0:Nat):Int)) (mkB z,((0:Nat):Int)) (s::r) ((0:Nat):Int) r M (0+1) (z++PERM++bs s) (by omega) rfl (by omega) (by omega) (fun y hy=>a12 y (List.mem_cons_of_mem _ hy)) (by simp [hP];omega)
   refine Eq.trans this ?_
   unfold law43_ExplainPermits_k2
   have e3:((((s::r).length:Nat):Int)==0)=false:=by simp;omega
   show (bif ((((s::r).length:Nat):Int)==0) then _ else _)=_
   rw [e3,cond_false]
   refine hend _ ?_
   show mkB (z++PERM++bs s++tailL [59,32] (r.map bs))=mkB (z++PERM++(bs s++tailL [59,32] (r.map bs)))
   rw [aA (z++PERM)]
end Gp
end
section
namespace Gx
open Go Go.Kx
def k_api_Sort (x:T10):Prop:=((Lit.int .i64 x.Kind).wf=true)∧((Lit.int .i64 x.Lo).wf=true)∧((Lit.int .i64 x.Hi).wf=true)
def k_api_Field (x:T4):Prop:=(x.Name.size≤bd)∧(k_api_Sort x.Sort')
def k_api_Diff (x:T1):Prop:=((Lit.int .i64 x.X).wf=true)∧((Lit.int .i64 x.Y).wf=true)∧((Lit.int .i64 x.C).wf=true)
def k_api_Guard (x:T6):Prop:=(x.Diffs.length≤bd∧∀ y∈x.Diffs,k_api_Diff y)∧(x.Equals.length≤bd∧∀ y∈x.Equals,((Lit.int .i64 y.1).wf=true)∧((Lit.int .i64 y.2).wf=true))
def k_api_Decl (x:T0):Prop:=(x.Name.size≤bd)∧(x.Fields.length≤bd∧∀ y∈x.Fields,k_api_Field y)∧((Lit.int .i64 x.First).wf=true)∧(k_api_Guard x.Guard)
def k_api_Interaction (x:T7):Prop:=((Lit.int .i64 x.From).wf=true)∧((Lit.int .i64 x.To).wf=true)∧((Lit.int .i64 x.Label).wf=true)
def k_api_Edge (x:T2):Prop:=((Lit.int .i64 x.From).wf=true)∧(k_api_Interaction x.Act)∧((Lit.int .i64 x.To).wf=true)∧(True)
def k_api_Timeout (x:T11):Prop:=((Lit.int .i64 x.State).wf=true)∧((Lit.int .i64 x.Ticks).wf=true)∧((Lit.int .i64 x.Else).wf=true)
def k_api_Global (x:T5):Prop:=(x.Name.size≤bd)∧(x.Roles.length≤bd∧∀ y∈x.Roles,y.size≤bd)∧(x.Decls.length≤bd∧∀ y∈x.Decls,k_api_Decl y)∧((Lit.int .i64 x.States).wf=true)∧((Lit.int .i64 x.Start).wf=true)∧((Lit.int .i64 x.End).wf=true)∧(x.Edges.length≤bd∧∀ y∈x.Edges,k_api_Edge y)∧(x.Timeouts.length≤bd∧∀ y∈x.Timeouts,k_api_Timeout y)
def k_api_Move (x:T9):Prop:=((Lit.int .i64 x.From).wf=true)∧(True)∧((Lit.int .i64 x.Peer).wf=true)∧((Lit.int .i64 x.Label).wf=true)∧((Lit.int .i64 x.To).wf=true)∧(True)
def k_api_Machine (x:T8):Prop:=((Lit.int .i64 x.Role).wf=true)∧((Lit.int .i64 x.States).wf=true)∧((Lit.int .i64 x.Start).wf=true)∧(x.Finals.length≤bd∧∀ y∈x.Finals,True)∧(x.Moves.length≤bd∧∀ y∈x.Moves,k_api_Move y)∧(x.Timeouts.length≤bd∧∀ y∈x.Timeouts,k_api_Timeout y)
def k_api_Value (x:T12):Prop:=((Lit.int .i64 x.Kind).wf=true)∧((Lit.int .i64 x.N).wf=true)∧(x.S.size≤bd)
def k_api_Event (x:T3):Prop:=((Lit.int .i64 x.Role).wf=true)∧(True)∧((Lit.int .i64 x.Peer).wf=true)∧((Lit.int .i64 x.Label).wf=true)∧(x.Values.length≤bd∧∀ y∈x.Values,k_api_Value y)
end Gx
end
section
namespace Gp
open Go Go.Kx Gx
set_option maxRecDepth 100000
theorem awake_some (k:Nat):z8 (k+300)=some true:=by kernel_rfl
theorem sizeD_of {x:T0} (h:k_api_Decl x):SizeD x:=by
 obtain ⟨_,h1,_,h2⟩:=h
 exact ⟨by have:=h1.1;unfold bd at this;omega,by have:=h2.1.1;unfold bd at this;omega,by have:=h2.2.1;unfold bd at this;omega⟩
theorem nameD_of {x:T0} (h:k_api_Decl x):NameD x:=by
 obtain ⟨h0,h1,_,h2⟩:=h
 exact ⟨by unfold bd at h0;omega,fun f hf=>by have:=(h1.2 f hf).1;unfold bd at this;omega⟩
theorem i64_of {n:Int} (h:(Lit.int .i64 n).wf=true):I64 n:=by
 simp [Lit.wf,IntKind.min,IntKind.max,IntKind.signed,IntKind.bits] at h
 constructor<;>omega
theorem numE_of {x:T5} (h:k_api_Global x):NumE x:=by
 obtain ⟨_,h1,h2,_,_,_,h3,h4⟩:=h
 intro e he
 have:=(h3.2 e he).2.1
 exact ⟨i64_of this.2.1,i64_of this.2.2⟩
theorem sizeG_of {g:T5} (h:k_api_Global g):SizeG g:=by
 obtain ⟨g1,g2,g3,_,_,_,g4,g5⟩:=h
 refine ⟨?_,?_,fun x hx=>sizeD_of (g3.2 x hx),?_,?_⟩
 ·have:=g2.1;unfold bd at this;omega
 ·have:=g3.1;unfold bd at this;omega
 ·have:=g4.1;unfold bd at this;omega
 ·have:=g5.1;unfold bd at this;omega
theorem sizeN_of {g:T5} (h:k_api_Global g):SizeN g:=by
 obtain ⟨g1,g2,g3,_,_,_,g4,g5⟩:=h
 refine ⟨?_,fun s hs=>?_,fun x hx=>nameD_of (g3.2 x hx)⟩
 ·unfold bd at g1;omega
 ·have:=g2.2 s hs;unfold bd at this;omega
theorem timM_of {m:T8} (h:k_api_Machine m):m.Timeouts.length≤4194304:=by
 obtain ⟨_,_,_,_,_,m1⟩:=h
 have:=m1.1;unfold bd at this;omega
theorem sizeE_of {x:T3} (h:k_api_Event x):SizeE x:=by
 obtain ⟨_,_,_,_,h1,h2⟩:=h
 exact ⟨by unfold bd at h1;omega,fun v hv=>by have:=(h2 v hv).2.2;unfold bd at this;omega⟩
theorem showOk_of {g:T5} {x:T3} (hg:k_api_Global g) (hx:k_api_Event x):ShowOk g x:=by
 obtain ⟨_,g2,g3,_⟩:=hg
 obtain ⟨_,_,_,_,h1,h2⟩:=hx
 refine ⟨fun s hs=>?_,?_,fun y hy=>?_,?_,fun v hv=>⟨i64_of (h2 v hv).2.1,?_⟩⟩
 ·have:=g2.2 s hs;unfold bd at this;omega
 ·have:=g3.1;unfold bd at this;omega
 ·have:=(g3.2 y hy).1;unfold bd at this;omega
 ·unfold bd at h1;omega
 ·have:=(h2 v hv).2.2;unfold bd at this;omega
theorem plain:∀ (x0:T5) (x1:T8) (x2:(List T3)),k_api_Global x0→k_api_Machine x1→(x2.length≤bd∧∀ y∈x2,k_api_Event y)→∃ N,law43_ExplainPermits N x0 x1 x2=some true:=by
 intro g m l hg hm hl
 exact ⟨33554432+300,permits_law (by omega) (awake_some _) (sizeG_of hg) (sizeN_of hg) (numE_of hg) (timM_of hm) l (by have:=hl.1;unfold bd at this;omega) (fun x hx=>sizeE_of (hl.2 x hx)) (fun x hx=>showOk_of hg (hl.2 x hx)) (few_tot (by omega) g (sizeG_of hg) m l (by have:=hl.1;unfold bd at this;omega) (fun x hx=>sizeE_of (hl.2 x hx)))⟩
end Gp
end
