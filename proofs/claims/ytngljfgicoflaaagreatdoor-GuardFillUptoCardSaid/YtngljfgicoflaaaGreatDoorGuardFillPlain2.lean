/- The plain law, part 2: what the functions compute answers as the statement says. -/
import Derived.Test.YtngljfgicoflaaaGreatDoorGuardFillPlain1
set_option linter.all false
section
namespace Gp
open Go Go.Kx Gx
variable {N:Nat} {F:List T2} {x:T0} {first:Nat} {ks:List T5}
def uW (W:List T5):Nat→Int
 | 0=>0
 | a+1=>match W[a]? with | some v=>vnum v | none=>0
theorem uW_get {W:List T5} {a:Nat} {v:T5} (h:W[a]? = some v):uW W (a+1)=vnum v:=by show (match W[a]? with | some v=>vnum v | none=>0)=_;rw [h]
theorem uW_none {W:List T5} {a:Nat} (h:W[a]? = none):uW W (a+1)=0:=by show (match W[a]? with | some v=>vnum v | none=>0)=_;rw [h]
theorem nv_u (W:List T5) {z:Int} (h:-1≤z):nvV W z=uW W (z+1).toNat:=by
 unfold nvV
 by_cases c:z < 0
 ·have:z=-1:=by omega
  subst this
  rfl
 ·obtain ⟨k,rfl⟩:=Int.eq_ofNat_of_zero_le (show 0≤z by omega)
  rw [dF c,idx_nat];rfl
theorem u_small {W:List T5} (h:Fts F W) (hso:∀ f∈F,sortOk f.Sort') (a:Nat):-1000≤uW W a∧uW W a≤1000:=by
 cases a with
 | zero=>simp [uW]
 | succ a =>
  cases hv:W[a]? with
  | none=>rw [uW_none hv];simp
  | some v =>
   rw [uW_get hv]
   rcases h a v hv with h1 | ⟨f,h1,h2⟩
   ·have:=(zero_num h1).2.1;omega
   ·have:=fits_num (hso f (List.mem_of_getElem? h1)) h2;omega
structure OkV (x:T0) (first:Nat) (ks V:List T5):Prop where
 fit:fitV x.Fields V=true
 keep:keepsV x.Guard (behindV first V ks)=true
theorem OkV.len {V:List T5} (h:OkV x first ks V):V.length=x.Fields.length:=(fit_len h.fit).symm
theorem OkV.dif {V:List T5} (h:OkV x first ks V) {b:T1} (hb:b∈x.Guard.Diffs):diffV (behindV first V ks) b=true:=by
 have:=h.keep
 unfold keepsV at this
 rw [Bool.and_eq_true,allV_iff] at this
 obtain ⟨i,hi⟩:=List.mem_iff_getElem?.1 hb
 exact this.1 i b hi
theorem OkV.eqs {V:List T5} (h:OkV x first ks V) {e:Int × Int} (he:e∈x.Guard.Equals):eqV (behindV first V ks) e=true:=by
 have:=h.keep
 unfold keepsV at this
 rw [Bool.and_eq_true,allV_iff,allV_iff] at this
 obtain ⟨i,hi⟩:=List.mem_iff_getElem?.1 he
 exact this.2 i e hi
theorem at_own (g:Sg F x first ks) {V:List T5} (hl:V.length=x.Fields.length) {k:Nat} (hk:k < x.Fields.length):(behindV first V ks)[first+k]? = V[k]? := by
 rw [behind_get first V ks (by rw [hl];exact g.hle),if_pos (by rw [hl];omega),show first+k-first=k by omega]
theorem at_other (g:Sg F x first ks) {V:List T5} (hl:V.length=x.Fields.length) {y:Nat} (hy:¬ (first≤y∧y < first+x.Fields.length)):(behindV first V ks)[y]? = ks[y]? := by
 rw [behind_get first V ks (by rw [hl];exact g.hle),if_neg (by rw [hl];exact hy)]
theorem mis_of (g:Sg F x first ks) {V:List T5} (hl:V.length=x.Fields.length) {z:Int} (h:unkV (behindV first V ks) z=false):mis first x.Fields.length ks z=false:=by
 unfold mis
 by_cases c:0≤z
 ·obtain ⟨k,rfl⟩:=Int.eq_ofNat_of_zero_le c
  rw [show ((k:Int)).toNat=k from rfl]
  by_cases co:first≤k∧k < first+x.Fields.length
  ·rw [dT co];simp
  ·unfold unkV at h
   rw [dF (show ¬ (k:Int) < 0 by omega),idx_nat,at_other g hl co] at h
   cases hv:ks[k]? with
   | none=>simp
   | some v =>
    rw [hv] at h
    have h:(v.Kind==0)=false:=h
    simp [h]
 ·rw [dF c];rfl
theorem mis_own (g:Sg F x first ks) {k:Nat} (hk:k < x.Fields.length):mis first x.Fields.length ks ((first+k:Nat):Int)=false:=by
 unfold mis
 rw [show (((first+k:Nat):Int)).toNat=first+k from rfl,dT (show first≤first+k∧first+k < first+x.Fields.length by omega)]
 simp
theorem mis_neg {n:Nat}:mis first n ks (-1)=false:=rfl
theorem ok_mis (g:Sg F x first ks) {V:List T5} (h:OkV x first ks V) {b:T1} (hb:b∈allB first x):mis first x.Fields.length ks b.X=false∧mis first x.Fields.length ks b.Y=false:=by
 unfold allB at hb
 rcases List.mem_append.1 hb with hb | hb
 ·rcases List.mem_append.1 hb with hb | hb
  ·obtain ⟨k,f,hk,rfl | rfl⟩:=fldB_inv first _ _ _ hb
   ·have hk':=(List.getElem?_eq_some_iff.1 hk).1
    rw [show 0+k=k by omega]
    exact ⟨mis_own g hk',mis_neg⟩
   ·have hk':=(List.getElem?_eq_some_iff.1 hk).1
    rw [show 0+k=k by omega]
    exact ⟨mis_neg,mis_own g hk'⟩
  ·have:=h.dif hb
   unfold diffV at this
   simp only [Bool.and_eq_true,Bool.not_eq_true'] at this
   exact ⟨mis_of g h.len this.1,mis_of g h.len this.2.1⟩
 ·obtain ⟨e,he,hb⟩:=eqB_inv hb
  obtain ⟨a,c,v,w,e1,e2,hv,hw,kv,kw,hs⟩:=eq_unk (h.eqs he)
  have m1:mis first x.Fields.length ks e.1=false:=mis_of g h.len (by rw [e1,(unk_nat hv).1];exact kv)
  have m2:mis first x.Fields.length ks e.2=false:=mis_of g h.len (by rw [e2,(unk_nat hw).1];exact kw)
  rcases hb with rfl | rfl
  ·exact ⟨m1,m2⟩
  ·exact ⟨m2,m1⟩
def wT (W:List T5):Nat→Option ByteArray:=fun y=>(W[y]?).map (·.S)
theorem ok_wok (g:Sg F x first ks) {V:List T5} (h:OkV x first ks V):Wok first x.Fields.length ks (pairsV x.Guard.Equals) (wT (behindV first V ks)):=by
  refine ⟨fun y hy=>by unfold wT;rw [at_other g h.len hy],fun p hp=>?_⟩
  obtain ⟨e,he,hp⟩:=pairs_inv hp
  obtain ⟨a,c,v,w,e1,e2,hv,hw,kv,kw,hs⟩:=eq_unk (h.eqs he)
  have t1:e.1.toNat=a:=by omega
  have t2:e.2.toNat=c:=by omega
  unfold wT
  rcases hp with rfl | rfl
  · show ((behindV first V ks)[e.1.toNat]?).map (·.S)=((behindV first V ks)[e.2.toNat]?).map (·.S)
    rw [t1,t2,hv,hw]
    exact congrArg some hs
  · show ((behindV first V ks)[e.2.toNat]?).map (·.S)=((behindV first V ks)[e.1.toNat]?).map (·.S)
    rw [t1,t2,hv,hw]
    exact congrArg some hs.symm
theorem pass_dom {P:Nat→Prop} {n:Nat}:∀ {l:List (Nat × Nat)} {σ σ':Txt},(∀ p∈l,first≤p.1→P (p.1-first))→passV first n ks l σ=some σ'→(∀ i t,σ i=some t→P i)→∀ i t,σ' i=some t→P i
 | [],σ,σ',hl,h,hσ=>by cases h;exact hσ
 | p::r,σ,σ',hl,h,hσ=>by
  rw [passV] at h
  cases ht:turnV first n ks σ p with
  | none=>rw [ht] at h;cases h
  | some σ1 =>
   rw [ht] at h
   refine pass_dom (fun q hq=>hl q (List.mem_cons_of_mem _ hq)) h ?_
   rcases turn_cases ht with rfl | ⟨t,h1,h2,_,rfl⟩
   ·exact hσ
   ·intro i u e
    unfold upd1 at e
    by_cases c:i=p.1-first
    ·rw [c];exact hl p List.mem_cons_self h1.1
    ·rw [if_neg c] at e;exact hσ i u e
theorem round_dom {P:Nat→Prop} {n:Nat} {l:List (Nat × Nat)} (hl:∀ p∈l,first≤p.1→P (p.1-first)):∀ (k:Nat) {σ σ':Txt},roundV first n ks l k σ=some σ'→(∀ i t,σ i=some t→P i)→∀ i t,σ' i=some t→P i
 | 0,σ,σ',h,hσ=>by cases h;exact hσ
 | k+1,σ,σ',h,hσ=>by
  rw [roundV] at h
  cases hp:passV first n ks l σ with
  | none=>rw [hp] at h;cases h
  | some σ1=>rw [hp] at h;exact round_dom hl k h (pass_dom hl hp hσ)
structure Rd (F:List T2) (x:T0) (first:Nat) (ks:List T5) (σ:Txt):Prop where
 e:roundV first x.Fields.length ks (pairsV x.Guard.Equals) (x.Fields.length+1) (fun _=>none)=some σ
 dom:∀ i t,σ i=some t→textV F ((first+i:Nat):Int)=true
 cl:Closed first x.Fields.length ks (pairsV x.Guard.Equals) σ
theorem rd_of (g:Sg F x first ks) {σ:Txt} (e:roundV first x.Fields.length ks (pairsV x.Guard.Equals) (x.Fields.length+1) (fun _=>none)=some σ):Rd F x first ks σ:=by
 refine ⟨e,round_dom (P:=fun i=>textV F ((first+i:Nat):Int)=true) (fun p hp h0=>?_) _ e (fun i t h=>by cases h),round_closed _ e (by have:=cnt_none x.Fields.length (fun _=>none);omega)⟩
 obtain ⟨d,hd,hp⟩:=pairs_inv hp
 obtain ⟨t1,t2⟩:=g.tv d hd
 obtain ⟨⟨a1,_⟩,a2,_⟩:=g.hin.e d hd
 rcases hp with rfl | rfl
 ·rw [show (((first+(d.1.toNat-first):Nat)):Int)=d.1 by omega];exact t1
 ·rw [show (((first+(d.2.toNat-first):Nat)):Int)=d.2 by omega];exact t2
theorem own_text (g:Sg F x first ks) {k:Nat} {f:T2} (hf:x.Fields[k]? = some f) (h:textV F ((first+k:Nat):Int)=true):f.Sort'.Kind=2 :=
 text_kind h ((g.ff k (List.getElem?_eq_some_iff.1 hf).1).trans hf)
theorem ok_get {V:List T5} (h:OkV x first ks V) {k:Nat} (hk:k < x.Fields.length):∃ f v,x.Fields[k]? = some f∧V[k]? = some v∧fitsV f.Sort' v=true:=by
 have h1:=List.getElem?_eq_getElem hk
 have h2:=List.getElem?_eq_getElem (show k < V.length by rw [h.len];exact hk)
 exact ⟨_,_,h1,h2,fit_get h.fit h1 h2⟩
theorem text_num {v:T5} (h:v.Kind=2):vnum v=(v.S.size:Int):=by unfold vnum;rw [h];rfl
theorem ok_zk (g:Sg F x first ks) (hdx:∀ b∈x.Guard.Diffs,-1≤b.X∧-1≤b.Y) {V:List T5} (h:OkV x first ks V):∃ σ,Rd F x first ks σ∧AgT first x.Fields.length σ (wT (behindV first V ks))∧ZK x first ks σ (uW (behindV first V ks)):=by
 obtain ⟨σ,e,hA⟩:=round_ok (ok_wok g h) (x.Fields.length+1) (σ:=fun _=>none) (fun i t _ h=>by cases h)
 have hR:=rd_of g e
 have hfts:=fts_behind g h.fit
 have hsm:=u_small hfts g.so
 refine ⟨σ,hR,hA,fun a b ha hb=>?_,fun b hb=>?_,fun y hy c hc=>?_⟩
 ·have:=hsm a
  have:=hsm b
  unfold fullV
  by_cases e:a=b
  ·subst e;rw [if_pos rfl];omega
  ·rw [if_neg e]
   split
   ·omega
   ·split<;>omega
 ·have hm:=maxI_le b.C (-20001)
  unfold allB at hb
  rcases List.mem_append.1 hb with hb | hb
  ·rcases List.mem_append.1 hb with hb | hb
   ·obtain ⟨k,f,hk,rfl | rfl⟩:=fldB_inv first _ _ _ hb
    ·have hk':=(List.getElem?_eq_some_iff.1 hk).1
     obtain ⟨f',v,q1,q2,q3⟩:=ok_get h hk'
     rw [hk] at q1;cases q1
     have:=fits_num (g.sx hk) q3
     have e1:uW (behindV first V ks) (first+k+1)=vnum v:=uW_get ((at_own g h.len hk').trans q2)
     have hm:f.Sort'.Hi≤maxI f.Sort'.Hi (-20001):=(maxI_le _ _).1
     show uW _ ((((first+(0+k):Nat):Int)+1).toNat)-uW _ (((-1:Int)+1).toNat)≤maxI f.Sort'.Hi (-20001)
     rw [show (((first+(0+k):Nat):Int)+1).toNat=first+k+1 by omega,e1,show ((-1:Int)+1).toNat=0 from rfl]
     have:uW (behindV first V ks) 0=0:=rfl
     omega
    ·have hk':=(List.getElem?_eq_some_iff.1 hk).1
     obtain ⟨f',v,q1,q2,q3⟩:=ok_get h hk'
     rw [hk] at q1;cases q1
     have:=fits_num (g.sx hk) q3
     have e1:uW (behindV first V ks) (first+k+1)=vnum v:=uW_get ((at_own g h.len hk').trans q2)
     have hm:-f.Sort'.Lo≤maxI (-f.Sort'.Lo) (-20001):=(maxI_le _ _).1
     show uW _ (((-1:Int)+1).toNat)-uW _ ((((first+(0+k):Nat):Int)+1).toNat)≤maxI (-f.Sort'.Lo) (-20001)
     rw [show (((first+(0+k):Nat):Int)+1).toNat=first+k+1 by omega,e1,show ((-1:Int)+1).toNat=0 from rfl]
     have:uW (behindV first V ks) 0=0:=rfl
     omega
   ·have hd:=h.dif hb
    unfold diffV at hd
    simp only [Bool.and_eq_true,Bool.not_eq_true',decide_eq_false_iff_not] at hd
    obtain ⟨b1,b2⟩:=hdx b hb
    have d3:=hd.2.2
    rw [nv_u _ b1,nv_u _ b2] at d3
    have:=hsm (b.X+1).toNat
    have:=hsm (b.Y+1).toNat
    rw [w64_id (by omega) (by omega)] at d3
    omega
  ·obtain ⟨e,he,hb⟩:=eqB_inv hb
   obtain ⟨a,c,v,w,e1,e2,hv,hw,kv,kw,hs⟩:=eq_unk (h.eqs he)
   obtain ⟨t1,t2⟩:=g.tv e he
   have kind:∀ (y:Nat) (v:T5),(behindV first V ks)[y]? = some v→(v.Kind==0)=false→textV F (y:Int)=true→v.Kind=2:=fun y v hv kv ht=>by
    rcases hfts y v hv with q | ⟨f,q1,q2⟩
    ·have:=(zero_num q).1;rw [this] at kv;cases kv
    ·exact (fits_num (g.so f (List.mem_of_getElem? q1)) q2).1.trans (text_kind ht q1)
   have k1:=kind a v hv kv (by rw [← e1];exact t1)
   have k2:=kind c w hw kw (by rw [← e2];exact t2)
   have n1:uW (behindV first V ks) (a+1)=(v.S.size:Int):=(uW_get hv).trans (text_num k1)
   have n2:uW (behindV first V ks) (c+1)=(w.S.size:Int):=(uW_get hw).trans (text_num k2)
   rcases hb with rfl | rfl
   ·show uW _ ((e.1+1).toNat)-uW _ ((e.2+1).toNat)≤_
    rw [show (e.1+1).toNat=a+1 by omega,show (e.2+1).toNat=c+1 by omega,n1,n2,hs]
    have hm:(0:Int)≤maxI 0 (-20001):=(maxI_le 0 (-20001)).1
    show (w.S.size:Int)-(w.S.size:Int)≤maxI 0 (-20001)
    omega
   ·show uW _ ((e.2+1).toNat)-uW _ ((e.1+1).toNat)≤_
    rw [show (e.1+1).toNat=a+1 by omega,show (e.2+1).toNat=c+1 by omega,n1,n2,hs]
    have hm:(0:Int)≤maxI 0 (-20001):=(maxI_le 0 (-20001)).1
    show (w.S.size:Int)-(w.S.size:Int)≤maxI 0 (-20001)
    omega
 ·have key:uW (behindV first V ks) (y+1)=c:=by
   unfold fixV at hc
   by_cases co:first≤y∧y < first+x.Fields.length
   ·rw [if_pos co] at hc
    cases hσ:σ (y-first) with
    | none=>rw [hσ] at hc;cases hc
    | some t =>
     rw [hσ] at hc
     cases hc
     have ha:=hA (y-first) t (by omega) hσ
     rw [show first+(y-first)=y by omega] at ha
     unfold wT at ha
     obtain ⟨f,v,q1,q2,q3⟩:=ok_get h (show y-first < x.Fields.length by omega)
     have hv:(behindV first V ks)[y]? = some v:=by
      have:=at_own g h.len (show y-first < x.Fields.length by omega)
      rw [show first+(y-first)=y by omega] at this
      rw [this,q2]
     rw [hv] at ha
     rw [uW_get hv]
     have hS:v.S=t:=Option.some.inj ha
     have hk2:v.Kind=2:=by
      rw [(fits_num (g.sx q1) q3).1]
      exact own_text g q1 (hR.dom _ _ hσ)
     rw [text_num hk2,hS]
   ·rw [if_neg co] at hc
    cases hv:ks[y]? with
    | none=>rw [hv] at hc;cases hc
    | some v =>
     rw [hv] at hc
     rw [uW_get ((at_other g h.len co).trans hv)]
     have hc:(if v.Kind=0 then none else some (vnum v))=some c:=hc
     split at hc
     ·cases hc
     ·cases hc;rfl
  have m1:=maxI_le c (-20001)
  have m2:=maxI_le (-c) (-20001)
  have:uW (behindV first V ks) 0=0:=rfl
  omega
end Gp
end
section
namespace Gp
open Go Go.Kx Gx
variable {N:Nat} {F:List T2} {x:T0} {first:Nat} {ks:List T5}
theorem letters_size {c:Int} (h:0≤c):((lettersV c).size:Int)=c:=by
 unfold lettersV
 rw [size_bs,bs_mkB,List.length_replicate]
 omega
theorem letters_good (c:Int):(bs (lettersV c)).any badB=false:=by
 unfold lettersV
 rw [bs_mkB,List.any_eq_false]
 intro b hb
 rw [List.eq_of_mem_replicate hb]
 decide
theorem known_good (g:Sg F x first ks):∀ v∈ks,(bs v.S).any badB=false∧v.S.size≤1000:=fun v hv=>by
 obtain ⟨i,hi⟩:=List.mem_iff_getElem?.1 hv
 rcases g.fits i v hi with h | ⟨f,h1,h2⟩
 ·unfold zeroV at h
  simp only [Bool.and_eq_true] at h
  have hs:=str_eq h.2.2.1
  rw [hs]
  exact ⟨rfl,by decide⟩
 ·have hn:=fits_num (g.so f (List.mem_of_getElem? h1)) h2
  unfold fitsV at h2
  simp only [Bool.and_eq_true] at h2
  have h3:=h2.2.2.2
  rcases hn.2.2.2.2.2 with k1 | k2
  ·have e:(v.Kind==1)=true:=by simp [k1]
   rw [e] at h3
   have hs:=str_eq h3
   rw [hs]
   exact ⟨rfl,by decide⟩
  ·have e:(v.Kind==1)=false:=by simp [k2]
   rw [e] at h3
   simp only [cF,Bool.and_eq_true,Bool.not_eq_true'] at h3
   refine ⟨h3.2,?_⟩
   have:=text_num k2
   omega
section
variable {σ:Txt} {y:Nat→Int}
theorem zk_fld (g:Sg F x first ks) (hZ:ZK x first ks σ y) (h0:y 0=0) {k:Nat} {f:T2} (hf:x.Fields[k]? = some f):f.Sort'.Lo≤y (first+k+1)∧y (first+k+1)≤f.Sort'.Hi:=by
 obtain ⟨m1,m2⟩:=fldB_mem first x.Fields 0 k f hf
 have hs:=g.sx hf
 have a1:=hZ.b _ (List.mem_append.2 (.inl (List.mem_append.2 (.inl m1))))
 have a2:=hZ.b _ (List.mem_append.2 (.inl (List.mem_append.2 (.inl m2))))
 have a1:y ((((first+(0+k):Nat):Int)+1).toNat)-y (((-1:Int)+1).toNat)≤maxI f.Sort'.Hi (-20001):=a1
 have a2:y (((-1:Int)+1).toNat)-y ((((first+(0+k):Nat):Int)+1).toNat)≤maxI (-f.Sort'.Lo) (-20001):=a2
 rw [show (((first+(0+k):Nat):Int)+1).toNat=first+k+1 by omega,show ((-1:Int)+1).toNat=0 from rfl,h0] at a1 a2
 have b1:=maxI_le f.Sort'.Hi (-20001)
 have b2:=maxI_le (-f.Sort'.Lo) (-20001)
 unfold sortOk at hs
 omega
theorem zk_fix (hZ:ZK x first ks σ y) (h0:y 0=0) {z:Nat} (hz:z < ks.length) {c:Int} (hc:fixV first x.Fields.length ks σ z=some c) (hr:-1000≤c∧c≤1000):y (z+1)=c:=by
 obtain ⟨a1,a2⟩:=hZ.k z hz c hc
 have b1:=maxI_le c (-20001)
 have b2:=maxI_le (-c) (-20001)
 omega
theorem val_num (g:Sg F x first ks) (hR:Rd F x first ks σ) (hZ:ZK x first ks σ y) (h0:y 0=0) {k:Nat} {f:T2} (hf:x.Fields[k]? = some f):vnum (valR first σ y k f)=y (first+k+1)∧(valR first σ y k f).Kind=f.Sort'.Kind∧fitsV f.Sort' (valR first σ y k f)=true:=by
 have hs:=g.sx hf
 have hk:=(List.getElem?_eq_some_iff.1 hf).1
 have hle:=g.hle
 obtain ⟨l1,l2⟩:=zk_fld g hZ h0 hf
 have hgood:=fun i t h=>round_orig (P:=fun t=>(bs t).any badB=false∧t.size≤1000) (known_good g) _ hR.e (fun i t h=>by cases h) i t h
 rcases hs with ⟨k1,hs⟩ | ⟨k2,hs⟩
 ·have e:valR first σ y k f=⟨1,y (first+k+1),str []⟩:=by
   unfold valR
   have:(f.Sort'.Kind==1)=true:=by simp [k1]
   rw [this,k1];rfl
  rw [e]
  refine ⟨rfl,k1.symm,?_⟩
  unfold fitsV
  have n:vnum ⟨1,y (first+k+1),str []⟩=y (first+k+1):=rfl
  rw [n,k1,dT l1,dT l2]
  simp
 ·have e1:(f.Sort'.Kind==1)=false:=by simp [k2]
  cases hσ:σ k with
  | some t =>
   have e:valR first σ y k f=⟨2,0,t⟩:=by unfold valR;rw [e1,hσ,k2];rfl
   obtain ⟨g1,g2⟩:=hgood k t hσ
   have hy:=zk_fix hZ h0 (z:=first+k) (by omega) (c:=(t.size:Int)) (by unfold fixV;rw [if_pos (by omega),show first+k-first=k by omega,hσ];rfl) (by omega)
   have n:vnum ⟨2,0,t⟩=y (first+k+1):=by rw [hy];rfl
   rw [e]
   refine ⟨n,k2.symm,?_⟩
   unfold fitsV
   rw [n,k2,dT l1,dT l2]
   simp [g1]
  | none =>
   have e:valR first σ y k f=⟨2,0,lettersV (y (first+k+1))⟩:=by unfold valR;rw [e1,hσ,k2];rfl
   have n:vnum ⟨2,0,lettersV (y (first+k+1))⟩=y (first+k+1):=letters_size (by omega)
   rw [e]
   refine ⟨n,k2.symm,?_⟩
   unfold fitsV
   rw [n,k2,dT l1,dT l2]
   have:=letters_good (y (first+k+1))
   simp [this]
theorem valsR_at (g:Sg F x first ks) {k:Nat} {f:T2} (hf:x.Fields[k]? = some f):(valsR first σ y 0 x.Fields)[k]? = some (valR first σ y k f):=by
 have:=valsR_get first σ y 0 x.Fields k f hf
 rw [Nat.zero_add] at this;exact this
theorem vals_fit (g:Sg F x first ks) (hR:Rd F x first ks σ) (hZ:ZK x first ks σ y) (h0:y 0=0):fitV x.Fields (valsR first σ y 0 x.Fields)=true:=by
 have hl:=valsR_len first σ y 0 x.Fields
 unfold fitV
 rw [dT hl.symm,Bool.true_and,allV_iff]
 intro i v hv
 have hi:i < x.Fields.length:=by rw [← hl];exact (List.getElem?_eq_some_iff.1 hv).1
 have hf:=List.getElem?_eq_getElem hi
 rw [valsR_at g hf] at hv
 cases hv
 unfold fitAt
 rw [Nat.zero_add,hf]
 exact (val_num g hR hZ h0 hf).2.2
theorem wr_at (g:Sg F x first ks) (hR:Rd F x first ks σ) (hZ:ZK x first ks σ y) (h0:y 0=0) {z:Nat} (hz:z < ks.length) (hm:mis first x.Fields.length ks (z:Int)=false):∃ v,(behindV first (valsR first σ y 0 x.Fields) ks)[z]? = some v∧(v.Kind==0)=false∧vnum v=y (z+1):=by
 have hl:=valsR_len first σ y 0 x.Fields
 by_cases co:first≤z∧z < first+x.Fields.length
 ·have hk:z-first < x.Fields.length:=by omega
  have hf:=List.getElem?_eq_getElem hk
  obtain ⟨n1,n2,_⟩:=val_num g hR hZ h0 hf
  have hat:=at_own g hl hk
  rw [show first+(z-first)=z by omega,valsR_at g hf] at hat
  rw [show first+(z-first)+1=z+1 by omega] at n1
  have hs:=g.sx hf
  refine ⟨_,hat,?_,n1⟩
  rw [n2]
  unfold sortOk at hs
  rcases hs with ⟨k,_⟩ | ⟨k,_⟩<;>rw [k]<;>rfl
 ·have hv:=List.getElem?_eq_getElem hz
  generalize ks[z]=v at hv
  unfold mis at hm
  rw [show ((z:Int)).toNat=z from rfl,dF co,dT (show 0≤(z:Int) by omega),hv] at hm
  have hm:(v.Kind==0)=false:=by simpa using hm
  have hsm:-1000≤vnum v∧vnum v≤1000:=by
   rcases g.fits z v hv with h1 | ⟨f,h1,h2⟩
   ·have:=(zero_num h1).2.1;omega
   ·have:=fits_num (g.so f (List.mem_of_getElem? h1)) h2;omega
  refine ⟨v,(at_other g hl co).trans hv,hm,(zk_fix hZ h0 hz ?_ hsm).symm⟩
  unfold fixV
  rw [if_neg co,hv]
  have:¬ v.Kind=0:=by simpa using hm
  show (if v.Kind=0 then none else some (vnum v))=_
  rw [if_neg this]
theorem wr_num (g:Sg F x first ks) (hR:Rd F x first ks σ) (hZ:ZK x first ks σ y) (h0:y 0=0) {z:Int} (hz0:-1≤z) (hz:z < (ks.length:Int)) (hm:mis first x.Fields.length ks z=false):unkV (behindV first (valsR first σ y 0 x.Fields) ks) z=false∧nvV (behindV first (valsR first σ y 0 x.Fields) ks) z=y (z+1).toNat:=by
 by_cases c:z < 0
 ·have:z=-1:=by omega
  subst this
  exact ⟨rfl,h0.symm⟩
 ·obtain ⟨k,rfl⟩:=Int.eq_ofNat_of_zero_le (show 0≤z by omega)
  obtain ⟨v,h1,h2,h3⟩:=wr_at g hR hZ h0 (show k < ks.length by omega) hm
  obtain ⟨a1,a2⟩:=unk_nat h1
  exact ⟨a1.trans h2,a2.trans h3⟩
theorem wr_text (g:Sg F x first ks) {k:Nat} {f:T2} (hf:x.Fields[k]? = some f) (ht:textV F ((first+k:Nat):Int)=true):(valR first σ y k f).S=match σ k with | some t=>t | none=>lettersV (y (first+k+1)):=by
 have k2:=own_text g hf ht
 have e1:(f.Sort'.Kind==1)=false:=by simp [k2]
 unfold valR
 rw [e1]
 cases σ k<;>rfl
theorem vals_keep (g:Sg F x first ks) (hdx:∀ b∈x.Guard.Diffs,-1≤b.X∧-1≤b.Y) (hR:Rd F x first ks σ) (hZ:ZK x first ks σ y) (h0:y 0=0) {V:List T5} (hV:OkV x first ks V):keepsV x.Guard (behindV first (valsR first σ y 0 x.Fields) ks)=true:=by
 have hl:=valsR_len first σ y 0 x.Fields
 have hbnd:∀ a,a < ks.length+1→-10000≤y a∧y a≤10000:=fun a ha=>by
  have h1:=hZ.f a 0 ha (by omega)
  have h2:=hZ.f 0 a (by omega) ha
  rw [h0] at h1 h2
  by_cases c:a=0
  ·subst c;omega
  ·have f1:fullV a 0=10000:=by unfold fullV;rw [if_neg c,if_neg c,if_pos rfl]
   have f2:fullV 0 a=10000:=by unfold fullV;rw [if_neg (Ne.symm c),if_pos rfl]
   omega
 unfold keepsV
 rw [Bool.and_eq_true,allV_iff,allV_iff]
 refine ⟨fun i b hi=>?_,fun i e hi=>?_⟩
 ·have hb:=List.mem_of_getElem? hi
  obtain ⟨b1,b2⟩:=hdx b hb
  obtain ⟨c1,c2⟩:=g.hin.d b hb
  have hall:b∈allB first x:=List.mem_append.2 (.inl (List.mem_append.2 (.inr hb)))
  obtain ⟨m1,m2⟩:=ok_mis g hV hall
  obtain ⟨u1,n1⟩:=wr_num g hR hZ h0 b1 c1 m1
  obtain ⟨u2,n2⟩:=wr_num g hR hZ h0 b2 c2 m2
  have hz:=hZ.b b hall
  have hm:=maxI_le b.C (-20001)
  have hc:=g.dc b hb
  have q1:=hbnd (b.X+1).toNat (by omega)
  have q2:=hbnd (b.Y+1).toNat (by omega)
  unfold diffV
  rw [u1,u2,n1,n2,w64_id (by omega) (by omega),dF (by omega)];rfl
 ·have he:=List.mem_of_getElem? hi
  obtain ⟨⟨a0,a1⟩,b0,b1⟩:=g.hin.e e he
  obtain ⟨t1,t2⟩:=g.tv e he
  obtain ⟨p1,p2⟩:=pairs_mem he
  obtain ⟨q1,q2⟩:=eqB_mem he
  have r1:(⟨e.1,e.2,0⟩:T1)∈allB first x:=List.mem_append.2 (.inr q1)
  have r2:(⟨e.2,e.1,0⟩:T1)∈allB first x:=List.mem_append.2 (.inr q2)
  obtain ⟨m1,m2⟩:=ok_mis g hV r1
  have m1:mis first x.Fields.length ks e.1=false:=m1
  have m2:mis first x.Fields.length ks e.2=false:=m2
  have z1:y ((e.1+1).toNat)-y ((e.2+1).toNat)≤maxI 0 (-20001):=hZ.b _ r1
  have z2:y ((e.2+1).toNat)-y ((e.1+1).toNat)≤maxI 0 (-20001):=hZ.b _ r2
  obtain ⟨a,ea⟩:=Int.eq_ofNat_of_zero_le a0
  obtain ⟨c,ec⟩:=Int.eq_ofNat_of_zero_le b0
  obtain ⟨v,v1,v2,v3⟩:=wr_at g hR hZ h0 (show a < ks.length by omega) (by rw [← ea];exact m1)
  obtain ⟨w,w1,w2,w3⟩:=wr_at g hR hZ h0 (show c < ks.length by omega) (by rw [← ec];exact m2)
  rw [ea,ec] at z1 z2 p1 p2
  have hm0:maxI 0 (-20001)=0:=rfl
  rw [hm0] at z1 z2
  rw [show (((a:Nat):Int)+1).toNat=a+1 by omega,show (((c:Nat):Int)+1).toNat=c+1 by omega] at z1 z2
  have hS:v.S=w.S:=by
   -- the text of a field, and of another variable
   have own:∀ (z:Nat) (v:T5),first≤z∧z < first+x.Fields.length→(behindV first (valsR first σ y 0 x.Fields) ks)[z]? = some v→textV F (z:Int)=true→v.S=match σ (z-first) with | some t=>t | none=>lettersV (y (z+1)):=fun z v co hv ht=>by
    have hk:z-first < x.Fields.length:=by omega
    have hf:=List.getElem?_eq_getElem hk
    have hat:=at_own g hl hk
    rw [show first+(z-first)=z by omega,valsR_at g hf,hv] at hat
    have hat:=Option.some.inj hat
    have:=wr_text (σ:=σ) (y:=y) g hf (by rw [show first+(z-first)=z by omega];exact ht)
    rw [show first+(z-first)+1=z+1 by omega] at this
    rw [hat];exact this
   have other:∀ (z:Nat) (v:T5),¬ (first≤z∧z < first+x.Fields.length)→(behindV first (valsR first σ y 0 x.Fields) ks)[z]? = some v→ks[z]? = some v∧srcV first x.Fields.length ks σ z=some v.S:=fun z v co hv=>by
    rw [at_other g hl co] at hv
    refine ⟨hv,?_⟩
    unfold srcV;rw [if_neg co,hv];rfl
   have src_own:∀ z:Nat,first≤z∧z < first+x.Fields.length→srcV first x.Fields.length ks σ z=σ (z-first):=fun z co=>by unfold srcV;rw [if_pos co]
   have cl1:=hR.cl _ p1
   have cl2:=hR.cl _ p2
   simp only [show ((a:Nat):Int).toNat=a from rfl,show ((c:Nat):Int).toNat=c from rfl] at cl1 cl2
   by_cases co1:first≤a∧a < first+x.Fields.length
   ·have o1:=own a v co1 v1 (by rw [← ea];exact t1)
    by_cases co2:first≤c∧c < first+x.Fields.length
    ·have o2:=own c w co2 w1 (by rw [← ec];exact t2)
     rw [o1,o2]
     cases h1:σ (a-first) with
     | some t =>
      rw [cl2 co2 t (by rw [src_own a co1,h1])]
     | none =>
      cases h2:σ (c-first) with
      | some t =>
       have:=cl1 co1 t (by rw [src_own c co2,h2])
       rw [h1] at this;cases this
      | none=>rw [show y (a+1)=y (c+1) by omega]
    ·obtain ⟨_,o2⟩:=other c w co2 w1
     rw [o1,cl1 co1 _ o2]
   ·obtain ⟨k1,o1⟩:=other a v co1 v1
    by_cases co2:first≤c∧c < first+x.Fields.length
    ·have o2:=own c w co2 w1 (by rw [← ec];exact t2)
     rw [o2,cl2 co2 _ o1]
    ·obtain ⟨k2,_⟩:=other c w co2 w1
     obtain ⟨a',c',v',w',e1,e2,hv,hw,_,_,hs⟩:=eq_unk (hV.eqs he)
     have:a'=a:=by omega
     subst this
     have:c'=c:=by omega
     subst this
     rw [at_other g hV.len co1,k1] at hv
     rw [at_other g hV.len co2,k2] at hw
     cases hv;cases hw
     exact hs
  unfold eqV
  rw [ea,ec,idx_nat,idx_nat,v1,w1]
  show (!(v.Kind==0) && (!(w.Kind==0) && (v.S.toList==w.S.toList)))=true
  rw [v2,w2,hS]
  simp
end
theorem rfill_sound (hN:4194304 < N) (d:List T0) (label:Int) (g:Sg F x first ks) (hex:z24 N d label=some true) (hkn:z25 N d ks=some true) (hidx:idx d label=some x) (hdx:∀ b∈x.Guard.Diffs,-1≤b.X∧-1≤b.Y) :
  (z7 N d label ks=some ([],false)∧∀ V,¬ OkV x first ks V) ∨
  ∃ R,z7 N d label ks=some (R,true)∧OkV x first ks R∧∀ V,OkV x first ks V→∀ (k:Nat) v r,V[k]? = some v→R[k]? = some r→vnum r≤vnum v∧(vnum v=vnum r→v=r∨(v.Kind=2∧r=⟨2,0,lettersV (vnum r)⟩)):=by
 rcases rfill_flow hN d label g hex hkn hidx hdx (fun v hv=>(known_good g v hv).2) with ⟨e,b,hb,hm⟩ | ⟨hmis,⟨e,hno⟩ | ⟨σ,hσ,⟨e,hno⟩ | ⟨y,h0,hZ,hleast,e⟩⟩⟩
 ·refine .inl ⟨e,fun V hV=>?_⟩
  obtain ⟨m1,m2⟩:=ok_mis g hV hb
  rw [m1,m2] at hm;cases hm
 ·refine .inl ⟨e,fun V hV=>?_⟩
  obtain ⟨σ,hR,_⟩:=ok_zk g hdx hV
  rw [hR.e] at hno;cases hno
 ·refine .inl ⟨e,fun V hV=>?_⟩
  obtain ⟨σ',hR,_,hz⟩:=ok_zk g hdx hV
  rw [hR.e] at hσ
  cases hσ
  exact hno _ hz
 ·have hR:=rd_of g hσ
  have hl:=valsR_len first σ y 0 x.Fields
  by_cases hk:keepsV x.Guard (behindV first (valsR first σ y 0 x.Fields) ks)=true
  ·rw [hk] at e
   refine .inr ⟨_,e,⟨vals_fit g hR hZ h0,hk⟩,fun V hV k v r hv hr=>?_⟩
   obtain ⟨σ',hR',hA,hz⟩:=ok_zk g hdx hV
   have:=hR'.e
   rw [hσ] at this
   cases this
   have hkx:k < x.Fields.length:=by rw [← hV.len];exact (List.getElem?_eq_some_iff.1 hv).1
   have hf:=List.getElem?_eq_getElem hkx
   rw [valsR_at g hf] at hr
   cases hr
   obtain ⟨n1,n2,n3⟩:=val_num g hR hZ h0 hf
   have hle:=g.hle
   have hu:uW (behindV first V ks) (first+k+1)=vnum v:=uW_get ((at_own g hV.len hkx).trans hv)
   refine ⟨?_,fun hn=>?_⟩
   ·rw [n1,← hu]
    exact hleast _ hz rfl (first+k+1) (by omega)
   ·have hfv:=fit_get hV.fit hf hv
    have hs:=g.sx hf
    generalize hff:x.Fields[k]=f at *
    have hkv:=(fits_num hs hfv).1
    unfold fitsV at hfv
    simp only [Bool.and_eq_true] at hfv
    have hfv:=hfv.2.2.2
    rcases hs with ⟨k1,_⟩ | ⟨k2,_⟩
    ·left
     have er:valR first σ y k f=⟨1,y (first+k+1),str []⟩:=by
      unfold valR
      have:(f.Sort'.Kind==1)=true:=by simp [k1]
      rw [this,k1];rfl
     rw [er]
     obtain ⟨kd,nn,ss⟩:=v
     have kd1:kd=1:=hkv.trans k1
     subst kd1
     have hs0:ss=str []:=str_eq hfv
     subst hs0
     rw [n1] at hn
     have hn:nn=y (first+k+1):=hn
     rw [hn]
    ·have e1:(f.Sort'.Kind==1)=false:=by simp [k2]
     obtain ⟨kd,nn,ss⟩:=v
     have kd2:kd=2:=hkv.trans k2
     subst kd2
     have hb:((2:Int)==1)=false:=rfl
     rw [hb] at hfv
     simp only [cF,Bool.and_eq_true,beq_iff_eq] at hfv
     have hn0:nn=0:=hfv.1
     subst hn0
     cases hσk:σ k with
     | some t =>
      left
      have er:valR first σ y k f=⟨2,0,t⟩:=by unfold valR;rw [e1,hσk,k2];rfl
      rw [er]
      have ha:=hA k t hkx hσk
      unfold wT at ha
      rw [at_own g hV.len hkx,hv] at ha
      have:ss=t:=Option.some.inj ha
      rw [this]
     | none =>
      right
      have er:valR first σ y k f=⟨2,0,lettersV (y (first+k+1))⟩:=by unfold valR;rw [e1,hσk,k2];rfl
      refine ⟨rfl,?_⟩
      rw [n1,er]
  ·refine .inl ⟨?_,fun V hV=>?_⟩
   ·rw [e]
    cases hc:keepsV x.Guard (behindV first (valsR first σ y 0 x.Fields) ks) with
    | false=>rfl
    | true=>exact absurd hc hk
   ·obtain ⟨σ',hR',hA,hz⟩:=ok_zk g hdx hV
    exact hk (vals_keep g hdx hR hZ h0 hV)
end Gp
end
section
namespace Gp
open Go Go.Kx Gx
variable {N:Nat}
end Gp
end
section
namespace Gp
open Go Go.Kx Gx
variable {N:Nat}
end Gp
end
section
namespace Gp
open Go Go.Kx Gx
variable {N:Nat}
end Gp
end
section
namespace Gp
open Go Go.Kx Gx
variable {N:Nat}
end Gp
end
section
namespace Gp
open Go Go.Kx Gx
variable {N:Nat}
structure InvR (S:Nat) (a:List Bool) (q:List Int):Prop where
 len:a.length=S
 qq:∀ i∈q,0≤i∧i < (S:Int)
 c:q.length+a.count false≤S
end Gp
end
section
namespace Gp
open Go Go.Kx Gx
variable {N:Nat}
end Gp
end
section
namespace Gp
open Go Go.Kx Gx
end Gp
end
section
namespace Gp
open Go Go.Kx Gx
end Gp
end
section
namespace Gp
open Go Go.Kx Gx
end Gp
end
section
namespace Gp
open Go Go.Kx Gx
end Gp
end
section
namespace Gp
open Go Go.Kx Gx
end Gp
end
section
namespace Gp
open Go Go.Kx Gx
end Gp
end
section
namespace Gp
open Go Go.Kx Gx
end Gp
end
section
namespace Gp
open Go Go.Kx Gx
variable {N:Nat}
end Gp
end
section
namespace Gp
open Go Go.Kx Gx
variable {N:Nat}
end Gp
end
section
namespace Gp
open Go Go.Kx Gx
end Gp
end
section
namespace Gp
open Go Go.Kx Gx
end Gp
end
section
namespace Gp
open Go Go.Kx Gx
variable {N:Nat}
end Gp
end
section
namespace Gp
open Go Go.Kx Gx
variable {N:Nat}
end Gp
end
section
namespace Gp
open Go Go.Kx Gx
variable {N:Nat}
end Gp
end
section
namespace Gp
open Go Go.Kx Gx
variable {N:Nat}
end Gp
end
section
namespace Gp
open Go Go.Kx Gx
variable {N:Nat}
theorem tri (a b c:Bool):(bif a then (bif b then some c else some false) else some false)=some (a && (b && c)):=by cases a<;>cases b<;>rfl
theorem sortOk_of {d:List T0} (hv:validD d=true) {x:T0} (hx:x∈d) {f:T2} (hf:f∈x.Fields):sortOk f.Sort':=by
 obtain ⟨i,hi⟩:=List.mem_iff_getElem?.1 hx
 obtain ⟨first,_,_,_,_,h⟩:=valid_at hv hi
 unfold declV at h
 simp only [Bool.and_eq_true] at h
 have h:=h.2.2.2.2.1
 rw [allV_iff] at h
 obtain ⟨k,hk⟩:=List.mem_iff_getElem?.1 hf
 have:=h k f hk
 unfold fieldV at this
 simp only [Bool.and_eq_true,decide_eq_true_eq] at this
 exact this.2.1
end Gp
end
section
namespace Gp
open Go Go.Kx Gx
variable {N:Nat}
theorem exists_eq (hN:4194304 < N) (d:List T0) (hl:d.length≤1000) (hd:∀ x∈d,SizeD x) (hn:∀ x∈d,NameD x) (label:Int):z24 N d label=some (validD d && decide (0≤label∧label < (d.length:Int))):=by
 unfold z24
 rw [refValid_eq hN d (by omega) hd hn]
 simp only [bS]
 cases validD d with
 | false=>rfl
 | true =>
  by_cases c1:label≥0
  ·rw [dT c1]
   by_cases c2:label < (d.length:Int)
   ·rw [dT c2,dT (show 0≤label∧label < (d.length:Int) from ⟨c1,c2⟩)];rfl
   ·rw [dF c2,dF (show ¬ (0≤label∧label < (d.length:Int)) from fun h=>c2 h.2)];rfl
  ·rw [dF c1,dF (show ¬ (0≤label∧label < (d.length:Int)) from fun h=>c1 h.1)];rfl
end Gp
end
section
section
namespace Gp
open Go Go.Kx
end Gp
end
section
namespace Gp
open Go Go.Kx
variable {α:Type} {K:α→Int} {r:α→α→Prop}
end Gp
end
section
namespace Gp
open Go Go.Kx Gx
variable {N:Nat} (hN:4194304 < N)
end Gp
end
section
namespace Gp
open Go Go.Kx Gx
variable {N:Nat} (hN:4194304 < N)
end Gp
end
section
namespace Gp
open Go Go.Kx Gx
end Gp
end
section
namespace Gp
open Go Go.Kx Gx
variable {N:Nat} (hN:4194304 < N)
end Gp
end
section
namespace Gp
open Go Go.Kx Gx
variable {N:Nat} (hN:4194304 < N)
end Gp
end
section
namespace Gp
open Go Go.Kx Gx
variable {N:Nat}
end Gp
end
section
namespace Gp
open Go Go.Kx Gx
variable {N:Nat}
end Gp
end
section
namespace Gp
open Go Go.Kx Gx
variable {N:Nat}
end Gp
end
section
namespace Gp
open Go Go.Kx Gx
variable {N:Nat}
instance (n:Int) (d:T1):Decidable (diffOk n d):=by unfold diffOk;infer_instance
instance (s:T4):Decidable (sortOk s):=by unfold sortOk;infer_instance
end Gp
end
section
namespace Gp
open Go Go.Kx Gx
variable {N:Nat}
end Gp
end
end
section
namespace Gp
open Go Go.Kx Gx
variable {N:Nat}
end Gp
end
section
namespace Gp
open Go Go.Kx Gx
variable {N:Nat}
end Gp
end
section
namespace Gp
open Go Go.Kx Gx
variable {N:Nat}
end Gp
end
section
namespace Gp
open Go Go.Kx Gx
variable {N:Nat}
end Gp
end
section
namespace Gp
open Go Go.Kx Gx
variable {N:Nat}
theorem full_eq (i j:Nat):∃ v,z108 N (i:Int) (j:Int)=some v∧0≤v∧v≤20000:=by
 unfold z108
 cases ((i:Int)==(j:Int)) with
 | true=>exact ⟨0,rfl,by omega,by omega⟩
 | false =>
  cases ((i:Int)==0) with
  | true=>exact ⟨10000,rfl,by omega,by omega⟩
  | false =>
   cases ((j:Int)==0) with
   | true=>exact ⟨10000,rfl,by omega,by omega⟩
   | false=>exact ⟨20000,rfl,by omega,by omega⟩
def Btw (M:Nat) (A:Nat→Nat→Int) (lo hi:Int):Prop:=∀ a b,a < M→b < M→lo≤A a b∧A a b≤hi
theorem mkL_ok (n:Nat) (h:n≤4294967296) (v:Int):mkL v (n:Int) (n:Int)=some (List.replicate n v):=by
 unfold mkL
 have h1:decide (0≤(n:Int))=true:=by simp
 have h2:decide ((n:Int)≤(n:Int))=true:=by simp
 have h3:decide ((n:Int)≤4294967296)=true:=by simp;omega
 simp
 rw [h3];rfl
theorem zone_ok (hN:4194304 < N) (n:Nat) (hn:n≤24):∃ B A,z51 N (n:Int)=some ⟨(n:Int),B⟩∧Rep (n+1) B A∧Btw (n+1) A 0 20000:=by
 have hM:(n+1) * (n+1)≤25 * 25:=Nat.mul_le_mul (by omega) (by omega)
 have hw:w64 ((n:Int)+1)=((n+1:Nat):Int):=w64_succ (by omega)
 have hw2:w64 ((w64 ((n:Int)+1)) * (w64 ((n:Int)+1)))=(((n+1) * (n+1):Nat):Int):=by
  rw [hw,w64_id]
  ·rw [Int.natCast_mul]
  ·rw [← Int.natCast_mul];omega
  ·rw [← Int.natCast_mul];omega
 unfold z51
 rw [hw2,mkL_ok _ (by omega)]
 simp only [bS]
 have h0:Rep (n+1) (List.replicate ((n+1) * (n+1)) (0:Int)) (fun _ _=>0):=⟨by simp,fun i j hi hj=>by rw [List.getElem?_replicate,if_pos (cell_lt hi hj)]⟩
 let P:Nat→List Int→Prop:=fun _ B=>∃ A,Rep (n+1) B A∧Btw (n+1) A 0 20000
 have outer:=loopP (n+1) (z51_l2 N (n:Int)) (fun B=>some ⟨(n:Int),B⟩) P (by
  intro f B i hi hP
  have inner:=loopP (n+1) (z51_l4 N (n:Int) (i:Int) (z51_l2 N (n:Int) f)) (fun B=>z51_l2 N (n:Int) f B ((i+1:Nat):Int)) P (by
   intro g B j hj ⟨A,hR,hA⟩
   obtain ⟨v,hv,v1,v2⟩:=full_eq (N:=N) i j
   refine ⟨B.set (i * (n+1)+j) v,⟨_,hR.set hi hj v,fun a b ha hb=>?_⟩,?_⟩
   ·unfold upd;split
    ·exact ⟨v1,v2⟩
    ·exact hA a b ha hb
   ·rw [z51_l4,hw,lt_t hj,hv,← hw,row_w hn (by omega) (by omega),w64_succ (by omega)]
    simp only [cT,bS,idx_nat,hR.at' i j hi hj,setL'_nat]) (by
   intro g B
   rw [z51_l4,hw,lt_f (Nat.le_refl _)]
   simp only [cF,z51_k3]
   rw [w64_succ (by omega)])
  obtain ⟨B',hP',e⟩:=inner (n+1) N 0 B (by omega) (by omega) hP
  refine ⟨B',hP',?_⟩
  rw [z51_l2,hw,lt_t hi]
  exact e) (by
  intro f B
  rw [z51_l2,hw,lt_f (Nat.le_refl _)];rfl)
 obtain ⟨B',⟨A,hR,hA⟩,e⟩:=outer (n+1) N 0 _ (by omega) (by omega) ⟨_,h0,fun _ _ _ _=>⟨by omega,by omega⟩⟩
 exact ⟨B',A,e,hR,hA⟩
theorem min_some (l:List Int) (hl:l.length≤4194304):∀ (r:List Int) (n k:Nat) (v:Int),l.drop k=r→r.length < n→∃ z,z109_l2 l n v (k:Int)=some z:=by
 intro r
 induction r with
 | nil =>
  intro n k v h hn
  obtain ⟨n,rfl⟩:∃ m,n=m+1:=⟨n-1,by simp at hn;omega⟩
  rw [z109_l2,lt_f (drop_nil h)]
  exact ⟨v,rfl⟩
 | cons x r ih =>
  intro n k v h hn
  obtain ⟨n,rfl⟩:∃ m,n=m+1:=⟨n-1,by simp at hn;omega⟩
  obtain ⟨q1,q2,q3⟩:=drop_cons h
  simp only [List.length_cons] at hn
  rw [z109_l2,lt_t q1,w64_succ (by omega)]
  simp only [cT,idx_nat,q2,bS]
  exact ih n (k+1) _ q3 (by omega)
theorem max_some (l:List Int) (hl:l.length≤4194304):∀ (r:List Int) (n k:Nat) (v:Int),l.drop k=r→r.length < n→∃ z,z110_l2 l n v (k:Int)=some z:=by
 intro r
 induction r with
 | nil =>
  intro n k v h hn
  obtain ⟨n,rfl⟩:∃ m,n=m+1:=⟨n-1,by simp at hn;omega⟩
  rw [z110_l2,lt_f (drop_nil h)]
  exact ⟨v,rfl⟩
 | cons x r ih =>
  intro n k v h hn
  obtain ⟨n,rfl⟩:∃ m,n=m+1:=⟨n-1,by simp at hn;omega⟩
  obtain ⟨q1,q2,q3⟩:=drop_cons h
  simp only [List.length_cons] at hn
  rw [z110_l2,lt_t q1,w64_succ (by omega)]
  simp only [cT,idx_nat,q2,bS]
  exact ih n (k+1) _ q3 (by omega)
theorem len_drop (l:List Int) (h:0 < l.length):(l.drop 1).length < l.length:=by simp;omega
theorem valid_some (hN:4194304 < N) (n:Nat) (hn:n≤24) (B:List Int) (hl:B.length=(n+1) * (n+1)):∃ b,z52 N ⟨(n:Int),B⟩=some b:=by
 have hM:(n+1) * (n+1)≤25 * 25:=Nat.mul_le_mul (by omega) (by omega)
 have hM0:1≤(n+1) * (n+1):=Nat.mul_le_mul (show 1≤n+1 by omega) (show 1≤n+1 by omega)
 have hw2:w64 ((w64 ((n:Int)+1)) * (w64 ((n:Int)+1)))=(((n+1) * (n+1):Nat):Int):=by
  rw [w64_succ (by omega),w64_id]
  ·rw [Int.natCast_mul]
  ·rw [← Int.natCast_mul];omega
  ·rw [← Int.natCast_mul];omega
 obtain ⟨x,hx⟩:∃ x,B[0]? = some x:=⟨B[0]'(by omega),by simp⟩
 obtain ⟨p,hp⟩:=min_some B (by omega) (B.drop 1) N 1 x rfl (by have:=len_drop B (by omega);omega)
 obtain ⟨q,hq⟩:=max_some B (by omega) (B.drop 1) N 1 x rfl (by have:=len_drop B (by omega);omega)
 have e0:idx B (0:Int)=some x:=by rw [show (0:Int)=((0:Nat):Int) from rfl,idx_nat];exact hx
 have h1:z109 N B=some p:=by
  unfold z109
  rw [dF (show ¬ (B.length:Int) < 1 by omega),e0]
  exact hp
 have h2:z110 N B=some q:=by
  unfold z110
  rw [dF (show ¬ (B.length:Int) < 1 by omega),e0]
  exact hq
 unfold z52
 simp only []
 rw [dT (show (n:Int)≥0 by omega),dT (show (n:Int)≤24 by omega),hw2,hl,h1]
 simp only [beq_self_eq_true,cT,bS]
 cases decide (p≥-20001) with
 | false=>exact ⟨false,rfl⟩
 | true=>simp only [cT,h2,bS];exact ⟨_,rfl⟩
theorem valid_nil:z52 N ⟨0,[]⟩=some false:=rfl
end Gp
end
section
namespace Gp
open Go Go.Kx Gx
variable {N:Nat}
def Zs (n:Nat) (low:List (Nat × Int)) (z:T6):Prop:=z=⟨0,[]⟩∨∃ A,z.N=(n:Int)∧Rep (n+1) z.B A∧Btw (n+1) A (-20001) 20000∧∀ p∈low,A 0 (p.1+1)≤p.2
theorem add_nil (d:T1):z17 N ⟨0,[]⟩ d=some (⟨0,[]⟩,1):=by
 unfold z17
 rw [valid_nil];rfl
theorem add_some (hN:4194304 < N) (n:Nat) (hn:n≤24) (low:List (Nat × Int)) (z:T6) (h:Zs n low z) (d:T1):∃ z' e,z17 N z d=some (z',e)∧Zs n low z' ∧
  (∀ y:Nat,d.X=-1→d.Y=(y:Int)→y < n→Zs n ((y,maxI d.C (-20001))::low) z'):=by
 rcases h with rfl | ⟨A,h1,h2,h3,h4⟩
 ·exact ⟨_,_,add_nil d,.inl rfl,fun _ _ _ _=>.inl rfl⟩
 ·obtain ⟨zn,B⟩:=z
  simp only at h1 h2
  subst h1
  have hM:(n+1) * (n+1)≤25 * 25:=Nat.mul_le_mul (by omega) (by omega)
  obtain ⟨b,hb⟩:=valid_some hN n hn B h2.len
  unfold z17
  rw [hb]
  simp only [bS]
  cases b with
  | false=>exact ⟨_,_,rfl,.inl rfl,fun _ _ _ _=>.inl rfl⟩
  | true =>
   have hin:∀ x:Int,z53 N ⟨(n:Int),B⟩ x=some (decide (-1≤x∧x < (n:Int))):=fun x=>by
    unfold z53
    by_cases c1:x≥-1
    ·rw [dT c1]
     by_cases c2:x < (n:Int)
     ·rw [dT c2,dT (show -1≤x∧x < (n:Int) from ⟨c1,c2⟩)];rfl
     ·rw [dF c2,dF (show ¬ (-1≤x∧x < (n:Int)) from fun h=>c2 h.2)];rfl
    ·rw [dF c1,dF (show ¬ (-1≤x∧x < (n:Int)) from fun h=>c1 h.1)];rfl
   rw [hin,hin]
   simp only [Bool.not_true,cF,bS]
   by_cases cx:-1≤d.X∧d.X < (n:Int)
   ·rw [dT cx]
    by_cases cy:-1≤d.Y∧d.Y < (n:Int)
    ·rw [dT cy]
     obtain ⟨i,hi⟩:∃ i:Nat,d.X=(i:Int)-1:=⟨(d.X+1).toNat,by omega⟩
     obtain ⟨j,hj⟩:∃ j:Nat,d.Y=(j:Int)-1:=⟨(d.Y+1).toNat,by omega⟩
     have hiM:i < n+1:=by omega
     have hjM:j < n+1:=by omega
     have hk:w64 ((w64 ((w64 ((w64 (d.X+(1:Int))) * (w64 ((n:Int)+(1:Int)))))+d.Y))+(1:Int))=((i * (n+1)+j:Nat):Int):=by
      have q1:i * (n+1)≤24 * 25:=Nat.mul_le_mul (by omega) (by omega)
      have e0:w64 (d.X+1)=(i:Int):=by rw [w64_id (by omega) (by omega)];omega
      rw [e0,w64_succ (by omega)]
      have e:(i:Int) * ((n+1:Nat):Int)=((i * (n+1):Nat):Int):=by rw [Int.natCast_mul]
      rw [e,w64_id (n:=((i * (n+1):Nat):Int)) (by omega) (by omega),hj,w64_id (n:=((i * (n+1):Nat):Int)+((j:Int)-1)) (by omega) (by omega),w64_id (by omega) (by omega)]
      omega
     simp only [Bool.not_true,cF]
     rw [hk]
     unfold z54
     rw [appL_some (by simp;rw [h2.len];omega)]
     simp only [bS,List.nil_append,idx_nat,h2.at' i j hiM hjM,setL'_nat]
     have hv:=minI_le (A i j) (maxI d.C (-20001))
     have hx:=maxI_le d.C (-20001)
     have hA:=h3 i j hiM hjM
     have hbt:Btw (n+1) (upd A i j (minI (A i j) (maxI d.C (-20001)))) (-20001) 20000:=fun a b ha hb=>by
      unfold upd;split
      ·omega
      ·exact h3 a b ha hb
     have hlow:∀ p∈low,upd A i j (minI (A i j) (maxI d.C (-20001))) 0 (p.1+1)≤p.2:=fun p hp=>by
      have:=h4 p hp
      unfold upd;split
      ·rename_i e
       have e3:A i j=A 0 (p.1+1):=by rw [← e.1,← e.2]
       have:=hv.1
       omega
      ·exact this
     refine ⟨_,_,rfl,.inr ⟨_,rfl,h2.set hiM hjM _,hbt,hlow⟩,fun y e1 e2 e3=>.inr ⟨_,rfl,h2.set hiM hjM _,hbt,fun p hp=>?_⟩⟩
     rcases List.mem_cons.1 hp with rfl | hp
     ·have q1:i=0:=by omega
      have q2:j=y+1:=by omega
      unfold upd
      rw [if_pos ⟨q1.symm,q2.symm⟩]
      exact hv.2.1
     ·exact hlow p hp
    ·rw [dF cy]
     exact ⟨_,_,rfl,.inl rfl,fun _ _ _ _=>.inl rfl⟩
   ·rw [dF cx]
    exact ⟨_,_,rfl,.inl rfl,fun _ _ _ _=>.inl rfl⟩
theorem Ph.row {M k:Nat} {K:Int} {A0 A:Nat→Nat→Int} {i:Nat} (h:Ph M k K A0 A i M):Ph M k K A0 A (i+1) 0 :=
 ⟨h.hi,h.lo,fun a b ha hb hn=>h.un a b ha hb (by omega),h.rc,h.kk,h.mono⟩
theorem phase (hN:4194304 < N) (n:Nat) (hn:n≤24) (z:T6) (hz:z.N=(n:Int)) (k:Nat) (hk:k < n+1) (K:Int) (hK:20001≤K) (hK2:K≤1000000000) (ag:List Int→Int→Option (T6 × Bool))
  (B:List Int) (A:Nat→Nat→Int) (hR:Rep (n+1) B A) (hA:Btw (n+1) A (-K) 20000) :
  (z55_l6 N z (k:Int) ag N B (0:Int)=some (⟨0,[]⟩,false)) ∨
  ∃ B' A',Rep (n+1) B' A'∧Btw (n+1) A' (-(6 * K)) 20000∧(∀ a b,a < n+1→b < n+1→A' a b≤A a b)∧z55_l6 N z (k:Int) ag N B (0:Int)=ag B' ((k+1:Nat):Int):=by
 have hw:w64 (z.N+1)=((n+1:Nat):Int):=by rw [hz,w64_succ (by omega)]
 have hrow:∀ i j:Nat,i < n+1→j < n+1→w64 ((w64 ((i:Int) * (w64 (z.N+1))))+(j:Int))=((i * (n+1)+j:Nat):Int):=fun i j hi hj=>by rw [hz];exact row_w hn (by omega) (by omega)
 let P:Nat→List Int→Prop:=fun i B=>∃ A',Rep (n+1) B A'∧Ph (n+1) k K A A' i 0
 have outer:=loopP (n+1) (z55_l6 N z (k:Int) ag) (fun B=>z55_k5 N z (k:Int) ag B) P (by
  intro f B i hi ⟨A1,hR1,hP1⟩
  have inner:=loopP (n+1) (z55_l8 z (k:Int) (i:Int) (z55_l6 N z (k:Int) ag f)) (fun B=>z55_l6 N z (k:Int) ag f B ((i+1:Nat):Int)) (fun j B=>∃ A',Rep (n+1) B A'∧Ph (n+1) k K A A' i j) (by
   intro g B j hj ⟨A2,hR2,hP2⟩
   refine ⟨B.set (i * (n+1)+j) (minI (A2 i j) (A2 i k+A2 k j)),⟨_,hR2.set hi hj _,hP2.step (by omega) hk hi hj⟩,?_⟩
   have q1:=hP2.lo i k hi hk
   have q2:=hP2.lo k j hk hj
   have q3:=hP2.hi i k hi hk
   have q4:=hP2.hi k j hk hj
   rw [z55_l8,hw,lt_t hj,← hw,hrow i j hi hj,hrow i k hi hk,hrow k j hk hj,w64_succ (by omega)]
   simp only [cT,idx_nat,hR2.at' i j hi hj,hR2.at' i k hi hk,hR2.at' k j hk hj,bS,setL'_nat]
   rw [w64_id (by omega) (by omega)]) (by
   intro g B
   rw [z55_l8,hw,lt_f (Nat.le_refl _)]
   simp only [cF,z55_k7]
   rw [w64_succ (by omega)])
  obtain ⟨B',⟨A',hR',hP'⟩,e⟩:=inner (n+1) N 0 B (by omega) (by omega) ⟨A1,hR1,hP1⟩
  refine ⟨B',⟨A',hR',hP'.row⟩,?_⟩
  rw [z55_l6,hw,lt_t hi]
  exact e) (by
  intro f B
  rw [z55_l6,hw,lt_f (Nat.le_refl _)];rfl)
 obtain ⟨B',⟨A',hR',hP'⟩,e⟩:=outer (n+1) N 0 B (by omega) (by omega) ⟨A,hR,⟨fun a b ha hb=>(hA a b ha hb).2,fun a b ha hb=>by have:=(hA a b ha hb).1;omega,fun a b ha hb _=>(hA a b ha hb).1,fun a b ha hb _=>by have:=(hA a b ha hb).1;omega,by have:=(hA k k hk hk).1;omega,fun a b _ _=>Int.le_refl _⟩⟩
 have e:z55_l6 N z (k:Int) ag N B (0:Int)=z55_k5 N z (k:Int) ag B':=e
 -- the look at the diagonal
 have diag:∀ (r g i:Nat),i+r=n+1→r < g→z55_l4 z (k:Int) ag B' g (i:Int)=some (⟨0,[]⟩,false)∨z55_l4 z (k:Int) ag B' g (i:Int)=ag B' ((k+1:Nat):Int):=by
  intro r
  induction r with
  | zero =>
   intro g i hi hg
   obtain ⟨g,rfl⟩:∃ m,g=m+1:=⟨g-1,by omega⟩
   have:i=n+1:=by omega
   subst this
   right
   rw [z55_l4,hw,lt_f (Nat.le_refl _)]
   simp only [cF,z55_k3]
   rw [w64_succ (by omega)]
  | succ r ih =>
   intro g i hi hg
   obtain ⟨g,rfl⟩:∃ m,g=m+1:=⟨g-1,by omega⟩
   have hiM:i < n+1:=by omega
   rw [z55_l4,hw,lt_t hiM,← hw,hrow i i hiM hiM,w64_succ (by omega)]
   simp only [cT,idx_nat,hR'.at' i i hiM hiM,bS]
   cases decide (A' i i < 0) with
   | true=>left;rfl
   | false=>exact ih g (i+1) (by omega) (by omega)
 rcases diag (n+1) N 0 (by omega) (by omega) with h | h
 ·left;rw [e];exact h
 ·right
  exact ⟨B',A',hR',fun a b ha hb=>⟨hP'.lo a b ha hb,hP'.hi a b ha hb⟩,hP'.mono,by rw [e];exact h⟩
end Gp
end
section
namespace Gp
open Go Go.Kx Gx
variable {N:Nat}
def pw:Nat→Int
 | 0=>20001
 | k+1=>6 * pw k
theorem pw_le {k:Nat} (h:k≤5):20001≤pw k∧pw k≤155527776:=by
 have:k=0∨k=1∨k=2∨k=3∨k=4∨k=5:=by omega
 rcases this with rfl | rfl | rfl | rfl | rfl | rfl<;>simp [pw]
theorem phases (hN:4194304 < N) (n:Nat) (hn:n≤4) (z:T6) (hz:z.N=(n:Int)):∀ (r f k:Nat) (B:List Int) (A:Nat→Nat→Int),k+r=n+1→r < f→Rep (n+1) B A→Btw (n+1) A (-(pw k)) 20000 →
  z55_l2 N z f B (k:Int)=some (⟨0,[]⟩,false)∨∃ B' A',z55_l2 N z f B (k:Int)=some (⟨(n:Int),B'⟩,true)∧Rep (n+1) B' A'∧Btw (n+1) A' (-155527776) 20000∧∀ a b,a < n+1→b < n+1→A' a b≤A a b:=by
 have hw:w64 (z.N+1)=((n+1:Nat):Int):=by rw [hz,w64_succ (by omega)]
 intro r
 induction r with
 | zero =>
  intro f k B A hk hf hR hA
  obtain ⟨f,rfl⟩:∃ m,f=m+1:=⟨f-1,by omega⟩
  have:k=n+1:=by omega
  subst this
  right
  refine ⟨B,A,?_,hR,fun a b ha hb=>⟨?_,(hA a b ha hb).2⟩,fun _ _ _ _=>Int.le_refl _⟩
  ·rw [z55_l2,hw,lt_f (Nat.le_refl _)]
   simp only [cF,z55_k1,hz]
  ·have:=(hA a b ha hb).1
   have:=(pw_le (k:=n+1) (by omega)).2
   omega
 | succ r ih =>
  intro f k B A hk hf hR hA
  obtain ⟨f,rfl⟩:∃ m,f=m+1:=⟨f-1,by omega⟩
  have hp:=pw_le (k:=k) (by omega)
  rw [z55_l2,hw,lt_t (by omega)]
  simp only [cT]
  rcases phase hN n (by omega) z hz k (by omega) (pw k) hp.1 (by omega) (z55_l2 N z f) B A hR hA with h | ⟨B',A',h1,h2,h3,h4⟩
  ·left;exact h
  ·rw [h4]
   rcases ih f (k+1) B' A' (by omega) (by omega) h1 h2 with h | ⟨B2,A2,e,e1,e2,e3⟩
   ·left;exact h
   ·right
    exact ⟨B2,A2,e,e1,e2,fun a b ha hb=>Int.le_trans (e3 a b ha hb) (h3 a b ha hb)⟩
theorem close_nil:z55 N ⟨0,[]⟩=some (⟨0,[]⟩,false):=by
 unfold z55
 rw [valid_nil];rfl
theorem close_some (hN:4194304 < N) (n:Nat) (hn:n≤4) (low:List (Nat × Int)) (hlow:∀ p∈low,p.1 < n) (z:T6) (h:Zs n low z):(∃ z',z55 N z=some (z',false)) ∨
  ∃ B A,z55 N z=some (⟨(n:Int),B⟩,true)∧z.N=(n:Int)∧Rep (n+1) B A∧Btw (n+1) A (-155527776) 20000∧∀ p∈low,A 0 (p.1+1)≤p.2:=by
 rcases h with rfl | ⟨A,h1,h2,h3,h4⟩
 ·left;exact ⟨_,close_nil⟩
 ·obtain ⟨zn,B⟩:=z
  simp only at h1 h2
  subst h1
  have hM:(n+1) * (n+1)≤25 * 25:=Nat.mul_le_mul (by omega) (by omega)
  obtain ⟨b,hb⟩:=valid_some hN n (by omega) B h2.len
  unfold z55
  rw [hb]
  simp only [bS]
  cases b with
  | false=>left;exact ⟨_,rfl⟩
  | true =>
   simp only [Bool.not_true,cF]
   unfold z54
   rw [appL_some (by simp;rw [h2.len];omega)]
   simp only [bS,List.nil_append]
   have hw:w64 ((n:Int)+1)=((n+1:Nat):Int):=w64_succ (by omega)
   let P:Nat→List Int→Prop:=fun _ B'=>∃ A',Rep (n+1) B' A'∧Btw (n+1) A' (-20001) 20000∧∀ a b,a < n+1→b < n+1→A' a b≤A a b
   have outer:=loopP (n+1) (z55_l10 N ⟨(n:Int),B⟩) (fun B'=>z55_k9 N ⟨(n:Int),B⟩ B') P (by
    intro f B1 i hi hP
    have inner:=loopP (n+1) (z55_l12 N ⟨(n:Int),B⟩ (i:Int) (z55_l10 N ⟨(n:Int),B⟩ f)) (fun B'=>z55_l10 N ⟨(n:Int),B⟩ f B' ((i+1:Nat):Int)) P (by
     intro g B2 j hj ⟨A2,hR2,hA2,hm2⟩
     obtain ⟨v,hv,v1,v2⟩:=full_eq (N:=N) i j
     have q:=minI_le (A2 i j) v
     have q2:=hA2 i j hi hj
     have q3:=hm2 i j hi hj
     refine ⟨B2.set (i * (n+1)+j) (minI (A2 i j) v),⟨_,hR2.set hi hj _,fun a b ha hb=>?_,fun a b ha hb=>?_⟩,?_⟩
     ·unfold upd;split
      ·omega
      ·exact hA2 a b ha hb
     ·unfold upd;split
      ·rename_i e;rw [e.1,e.2];omega
      ·exact hm2 a b ha hb
     ·rw [z55_l12]
      simp only []
      rw [hw,lt_t hj,hv,← hw,row_w (by omega) (by omega) (by omega),w64_succ (by omega)]
      simp only [cT,bS,idx_nat,hR2.at' i j hi hj,setL'_nat]) (by
     intro g B2
     rw [z55_l12]
     simp only []
     rw [hw,lt_f (Nat.le_refl _)]
     simp only [cF,z55_k11]
     rw [w64_succ (by omega)])
    obtain ⟨B',hP',e⟩:=inner (n+1) N 0 B1 (by omega) (by omega) hP
    refine ⟨B',hP',?_⟩
    rw [z55_l10]
    simp only []
    rw [hw,lt_t hi]
    exact e) (by
    intro f B1
    rw [z55_l10]
    simp only []
    rw [hw,lt_f (Nat.le_refl _)];rfl)
   obtain ⟨B',⟨A',hR',hA',hm'⟩,e⟩:=outer (n+1) N 0 B (by omega) (by omega) ⟨A,h2,h3,fun _ _ _ _=>Int.le_refl _⟩
   have e:z55_l10 N ⟨(n:Int),B⟩ N B (0:Int)=z55_l2 N ⟨(n:Int),B⟩ N B' (0:Int):=e
   rw [e]
   rcases phases hN n hn ⟨(n:Int),B⟩ rfl (n+1) N 0 B' A' (by omega) (by omega) hR' hA' with h | ⟨B2,A2,e2,r2,b2,m2⟩
   ·left;exact ⟨_,h⟩
   ·right
    refine ⟨B2,A2,e2,by trivial,r2,b2,fun p hp=>?_⟩
    have:=hlow p hp
    have q1:=m2 0 (p.1+1) (by omega) (by omega)
    have q2:=hm' 0 (p.1+1) (by omega) (by omega)
    have q3:=h4 p hp
    omega
theorem model_some (hN:4194304 < N) (n:Nat) (hn:n≤4) (low:List (Nat × Int)) (hlow:∀ p∈low,p.1 < n) (z:T6) (h:Zs n low z):(∃ m,z18 N z=some (m,false)) ∨
  ∃ m,z18 N z=some (m,true)∧m.length=n∧∀ j x,m[j]? = some x→x≤800000000∧∀ p∈low,p.1=j→-p.2≤x:=by
 unfold z18
 rcases close_some hN n hn low hlow z h with ⟨z',e⟩ | ⟨B,A,e,hz,hR,hA,hl⟩
 ·left
  rw [e];exact ⟨_,rfl⟩
 ·rw [e]
  simp only [bS,Bool.not_true,cF]
  right
  have hat:∀ i j:Nat,i < n+1→j < n+1→z56 N ⟨(n:Int),B⟩ (i:Int) (j:Int)=some (A i j):=fun i j hi hj=>by
   unfold z56
   simp only []
   rw [row_w (by omega) (by omega) (by omega),idx_nat,hR.at' i j hi hj];rfl
  let P:Nat→List Int→Prop:=fun i m=>m.length=i∧∀ j x,m[j]? = some x→-(A 0 (j+1))≤x∧x≤155527776 * ((j:Int)+1)
  have outer:=loopP n (z18_l2 N z (⟨(n:Int),B⟩,true)) (fun m=>some (m,true)) P (by
   intro f m i hi ⟨hml,hm⟩
   have b0:=hA 0 (i+1) (by omega) (by omega)
   have inner:=loopP (γ:=Option (List Int × Bool)) i (z18_l4 N (⟨(n:Int),B⟩,true) m (i:Int) (z18_l2 N z (⟨(n:Int),B⟩,true) f)) (fun v=>z18_k3 m (i:Int) (z18_l2 N z (⟨(n:Int),B⟩,true) f) v) (fun _ v=>-(A 0 (i+1))≤v∧v≤155527776 * ((i:Int)+1)) (by
    intro g v j hj ⟨v1,v2⟩
    obtain ⟨x,hx⟩:∃ x,m[j]? = some x:=⟨m[j]'(by omega),by simp⟩
    obtain ⟨x1,x2⟩:=hm j x hx
    have b1:=hA (j+1) (i+1) (by omega) (by omega)
    have b2:=hA 0 (j+1) (by omega) (by omega)
    have q:=maxI_le v (w64 (x-A (j+1) (i+1)))
    have hw:w64 (x-A (j+1) (i+1))=x-A (j+1) (i+1):=w64_id (by omega) (by omega)
    rw [hw] at q
    refine ⟨maxI v (x-A (j+1) (i+1)),⟨by omega,by omega⟩,?_⟩
    rw [z18_l4,hml,lt_t hj,w64_succ (by omega),w64_succ (n:=i) (by omega)]
    simp only [cT,idx_nat,hx,bS]
    rw [hat (j+1) (i+1) (by omega) (by omega)]
    simp only [bS,hw]) (by
    intro g v
    rw [z18_l4,hml,lt_f (Nat.le_refl _)];rfl)
   have hneg:w64 (0-A 0 (i+1))=0-A 0 (i+1):=w64_id (by omega) (by omega)
   obtain ⟨v,⟨v1,v2⟩,ev⟩:=inner i N 0 (0-A 0 (i+1)) (by omega) (by omega) ⟨by omega,by omega⟩
   refine ⟨m++[v],⟨by simp [hml],fun j x hx=>?_⟩,?_⟩
   ·by_cases c:j < i
    ·rw [List.getElem?_append_left (by omega)] at hx
     exact hm j x hx
    ·have hj:=(List.getElem?_eq_some_iff.1 hx).1
     have:j=i:=by simp [hml] at hj;omega
     subst this
     rw [List.getElem?_append_right (by omega),hml] at hx
     simp at hx
     subst hx
     exact ⟨v1,v2⟩
   ·rw [z18_l2,hz,lt_t hi,w64_succ (by omega)]
    simp only [cT]
    have h0:=hat 0 (i+1) (by omega) (by omega)
    rw [show ((0:Nat):Int)=0 from rfl] at h0
    rw [h0]
    simp only [bS,hneg]
    have ev:z18_l4 N (⟨(n:Int),B⟩,true) m (i:Int) (z18_l2 N z (⟨(n:Int),B⟩,true) f) N (0-A 0 (i+1)) (0:Int)=_:=ev
    rw [ev]
    unfold z18_k3
    rw [appL_some (by simp;omega),w64_succ (by omega)]
    rfl) (by
   intro f m
   rw [z18_l2,hz,lt_f (Nat.le_refl _)];rfl)
  obtain ⟨m,⟨hml,hm⟩,e⟩:=outer n N 0 [] (by omega) (by omega) ⟨rfl,fun j x hx=>by simp at hx⟩
  refine ⟨m,e,hml,fun j x hx=>?_⟩
  obtain ⟨q1,q2⟩:=hm j x hx
  have hj:=(List.getElem?_eq_some_iff.1 hx).1
  refine ⟨by omega,fun p hp hpj=>?_⟩
  have:=hl p hp
  rw [hpj] at this
  omega
end Gp
end
section
namespace Gp
open Go Go.Kx Gx
variable {N:Nat}
theorem full_is (i j:Nat):z108 N (i:Int) (j:Int)=some (fullV i j):=by
 unfold z108 fullV
 by_cases h1:i=j
 ·subst h1;simp
 ·have e1:((i:Int)==(j:Int))=false:=by simp;omega
  rw [e1,if_neg h1]
  by_cases h2:i=0
  ·subst h2;simp
  ·have e2:((i:Int)==0)=false:=by simp;omega
   rw [e2,if_neg h2]
   by_cases h3:j=0
   ·subst h3;simp
   ·have e3:((j:Int)==0)=false:=by simp;omega
    rw [e3,if_neg h3];rfl
structure Zx (n:Nat) (A:Nat→Nat→Int) (z:T6):Prop where
 N:z.N=(n:Int)
 rep:Rep (n+1) z.B A
 lo:∀ a b,a < n+1→b < n+1→-20001≤A a b
 hi:∀ a b,a < n+1→b < n+1→A a b≤fullV a b
theorem min_ge (l:List Int) (hl:l.length≤4194304) (lo:Int) (h:∀ x∈l,lo≤x):∀ (r:List Int) (n k:Nat) (v:Int),lo≤v→l.drop k=r→r.length < n→∃ z,z109_l2 l n v (k:Int)=some z∧lo≤z:=by
 intro r
 induction r with
 | nil =>
  intro n k v hv h hn
  obtain ⟨n,rfl⟩:∃ m,n=m+1:=⟨n-1,by simp at hn;omega⟩
  rw [z109_l2,lt_f (drop_nil h)]
  exact ⟨v,rfl,hv⟩
 | cons x r ih =>
  intro n k v hv hd hn
  obtain ⟨n,rfl⟩:∃ m,n=m+1:=⟨n-1,by simp at hn;omega⟩
  obtain ⟨q1,q2,q3⟩:=drop_cons hd
  simp only [List.length_cons] at hn
  have hx:=h x (List.mem_of_getElem? q2)
  have:=minI_le v x
  rw [z109_l2,lt_t q1,w64_succ (by omega)]
  simp only [cT,idx_nat,q2,bS]
  exact ih n (k+1) _ (by omega) q3 (by omega)
theorem max_le (l:List Int) (hl:l.length≤4194304) (hi:Int) (h:∀ x∈l,x≤hi):∀ (r:List Int) (n k:Nat) (v:Int),v≤hi→l.drop k=r→r.length < n→∃ z,z110_l2 l n v (k:Int)=some z∧z≤hi:=by
 intro r
 induction r with
 | nil =>
  intro n k v hv h hn
  obtain ⟨n,rfl⟩:∃ m,n=m+1:=⟨n-1,by simp at hn;omega⟩
  rw [z110_l2,lt_f (drop_nil h)]
  exact ⟨v,rfl,hv⟩
 | cons x r ih =>
  intro n k v hv hd hn
  obtain ⟨n,rfl⟩:∃ m,n=m+1:=⟨n-1,by simp at hn;omega⟩
  obtain ⟨q1,q2,q3⟩:=drop_cons hd
  simp only [List.length_cons] at hn
  have hx:=h x (List.mem_of_getElem? q2)
  have:=maxI_le v x
  rw [z110_l2,lt_t q1,w64_succ (by omega)]
  simp only [cT,idx_nat,q2,bS]
  exact ih n (k+1) _ (by omega) q3 (by omega)
theorem valid_true (hN:4194304 < N) {n:Nat} (hn:n≤24) {A:Nat→Nat→Int} {z:T6} (h:Zx n A z):z52 N z=some true:=by
 obtain ⟨zn,B⟩:=z
 obtain ⟨h1,h2,h3,h4⟩:=h
 simp only at h1 h2
 subst h1
 have hM:(n+1) * (n+1)≤25 * 25:=Nat.mul_le_mul (by omega) (by omega)
 have hM0:1≤(n+1) * (n+1):=Nat.mul_le_mul (show 1≤n+1 by omega) (show 1≤n+1 by omega)
 have hl:=h2.len
 have hw2:w64 ((w64 ((n:Int)+1)) * (w64 ((n:Int)+1)))=(((n+1) * (n+1):Nat):Int):=by
  rw [w64_succ (by omega),w64_id]
  ·rw [Int.natCast_mul]
  ·rw [← Int.natCast_mul];omega
  ·rw [← Int.natCast_mul];omega
 have hlo:∀ x∈B,-20001≤x:=fun x hx=>by
  obtain ⟨a,b,ha,hb,rfl⟩:=h2.mem hx
  exact h3 a b ha hb
 have hhi:∀ x∈B,x≤20000:=fun x hx=>by
  obtain ⟨a,b,ha,hb,rfl⟩:=h2.mem hx
  have:=h4 a b ha hb
  have:=fullV_le a b
  omega
 obtain ⟨x,hx⟩:∃ x,B[0]? = some x:=⟨B[0]'(by omega),by simp⟩
 have hxm:=List.mem_of_getElem? hx
 obtain ⟨p,hp,hp2⟩:=min_ge B (by omega) (-20001) hlo (B.drop 1) N 1 x (hlo x hxm) rfl (by have:=len_drop B (by omega);omega)
 obtain ⟨q,hq,hq2⟩:=max_le B (by omega) 20000 hhi (B.drop 1) N 1 x (hhi x hxm) rfl (by have:=len_drop B (by omega);omega)
 have e0:idx B (0:Int)=some x:=by rw [show (0:Int)=((0:Nat):Int) from rfl,idx_nat];exact hx
 have e1:z109 N B=some p:=by
  unfold z109
  rw [dF (show ¬ (B.length:Int) < 1 by omega),e0]
  exact hp
 have e2:z110 N B=some q:=by
  unfold z110
  rw [dF (show ¬ (B.length:Int) < 1 by omega),e0]
  exact hq
 unfold z52
 simp only []
 rw [dT (show (n:Int)≥0 by omega),dT (show (n:Int)≤24 by omega),hw2,hl,e1]
 simp only [beq_self_eq_true,cT,bS]
 rw [dT (show p≥-20001 by omega),e2]
 simp only [cT,bS]
 rw [dT hq2]
theorem new_is (hN:4194304 < N) (n:Nat) (hn:n≤24):∃ B,z14 N (n:Int)=some (⟨(n:Int),B⟩,0)∧Zx n fullV ⟨(n:Int),B⟩:=by
 have hM:(n+1) * (n+1)≤25 * 25:=Nat.mul_le_mul (by omega) (by omega)
 have hw:w64 ((n:Int)+1)=((n+1:Nat):Int):=w64_succ (by omega)
 have hw2:w64 ((w64 ((n:Int)+1)) * (w64 ((n:Int)+1)))=(((n+1) * (n+1):Nat):Int):=by
  rw [hw,w64_id]
  ·rw [Int.natCast_mul]
  ·rw [← Int.natCast_mul];omega
  ·rw [← Int.natCast_mul];omega
 -- the cells ahead of a place are filled
 let Q:Nat→Nat→List Int→Prop:=fun i j B=>∃ A,Rep (n+1) B A∧∀ a b,a < n+1→b < n+1→(a < i∨(a=i∧b < j))→A a b=fullV a b
 have h0:Rep (n+1) (List.replicate ((n+1) * (n+1)) (0:Int)) (fun _ _=>0):=⟨by simp,fun i j hi hj=>by rw [List.getElem?_replicate,if_pos (cell_lt hi hj)]⟩
 have outer:=loopP (n+1) (z51_l2 N (n:Int)) (fun B=>some ⟨(n:Int),B⟩) (fun i B=>Q i 0 B) (by
  intro f B i hi hP
  have inner:=loopP (n+1) (z51_l4 N (n:Int) (i:Int) (z51_l2 N (n:Int) f)) (fun B=>z51_l2 N (n:Int) f B ((i+1:Nat):Int)) (fun j B=>Q i j B) (by
   intro g B j hj ⟨A,hR,hA⟩
   refine ⟨B.set (i * (n+1)+j) (fullV i j),⟨_,hR.set hi hj _,fun a b ha hb hab=>?_⟩,?_⟩
   ·unfold upd;split
    ·rename_i e;rw [e.1,e.2]
    ·rename_i e;exact hA a b ha hb (by omega)
   ·rw [z51_l4,hw,lt_t hj,full_is,← hw,row_w hn (by omega) (by omega),w64_succ (by omega)]
    simp only [cT,bS,idx_nat,hR.at' i j hi hj,setL'_nat]) (by
   intro g B
   rw [z51_l4,hw,lt_f (Nat.le_refl _)]
   simp only [cF,z51_k3]
   rw [w64_succ (by omega)])
  obtain ⟨B',⟨A,hR,hA⟩,e⟩:=inner (n+1) N 0 B (by omega) (by omega) hP
  refine ⟨B',⟨A,hR,fun a b ha hb hab=>hA a b ha hb (by omega)⟩,?_⟩
  rw [z51_l2,hw,lt_t hi]
  exact e) (by
  intro f B
  rw [z51_l2,hw,lt_f (Nat.le_refl _)];rfl)
 obtain ⟨B',⟨A,hR,hA⟩,e⟩:=outer (n+1) N 0 _ (by omega) (by omega) ⟨_,h0,fun a b _ _ hab=>by omega⟩
 have hAf:∀ a b,a < n+1→b < n+1→A a b=fullV a b:=fun a b ha hb=>hA a b ha hb (by omega)
 refine ⟨B',?_,rfl,⟨hR.len,fun a b ha hb=>by rw [hR.at' a b ha hb,hAf a b ha hb]⟩,fun a b _ _=>by have:=fullV_le a b;omega,fun a b _ _=>Int.le_refl _⟩
 unfold z14
 rw [dF (show ¬ (n:Int) < 0 by omega),dF (show ¬ (n:Int) > 24 by omega)]
 simp only [cF]
 unfold z51
 rw [hw2,mkL_ok _ (by omega)]
 simp only [bS]
 have e:z51_l2 N (n:Int) N (List.replicate ((n+1) * (n+1)) 0) (0:Int)=some ⟨(n:Int),B'⟩:=e
 rw [e];rfl
theorem add_is (hN:4194304 < N) {n:Nat} (hn:n≤24) {A:Nat→Nat→Int} {z:T6} (h:Zx n A z) (i j:Nat) (hi:i < n+1) (hj:j < n+1) (c:Int) :
  ∃ z',z17 N z ⟨(i:Int)-1,(j:Int)-1,c⟩=some (z',0)∧Zx n (upd A i j (minI (A i j) (maxI c (-20001)))) z':=by
 have hv:=valid_true hN hn h
 obtain ⟨zn,B⟩:=z
 obtain ⟨h1,h2,h3,h4⟩:=h
 simp only at h1 h2
 subst h1
 have hM:(n+1) * (n+1)≤25 * 25:=Nat.mul_le_mul (by omega) (by omega)
 unfold z17
 rw [hv]
 simp only [bS,Bool.not_true,cF]
 have hin:∀ k:Nat,k < n+1→z53 N ⟨(n:Int),B⟩ ((k:Int)-1)=some true:=fun k hk=>by
  unfold z53
  rw [dT (show (k:Int)-1≥-1 by omega)]
  simp only [cT]
  rw [dT (show (k:Int)-1 < (n:Int) by omega)]
 rw [hin i hi,hin j hj]
 simp only [bS,Bool.not_true,cF]
 have hk:w64 ((w64 ((w64 ((w64 ((i:Int)-1+(1:Int))) * (w64 ((n:Int)+(1:Int)))))+((j:Int)-1)))+(1:Int))=((i * (n+1)+j:Nat):Int):=by
  have q1:i * (n+1)≤24 * 25:=Nat.mul_le_mul (by omega) (by omega)
  have e0:w64 ((i:Int)-1+1)=(i:Int):=by rw [w64_id (by omega) (by omega)];omega
  rw [e0,w64_succ (by omega)]
  have e:(i:Int) * ((n+1:Nat):Int)=((i * (n+1):Nat):Int):=by rw [Int.natCast_mul]
  rw [e,w64_id (n:=((i * (n+1):Nat):Int)) (by omega) (by omega),w64_id (n:=((i * (n+1):Nat):Int)+((j:Int)-1)) (by omega) (by omega),w64_id (by omega) (by omega)]
  omega
 rw [hk]
 unfold z54
 rw [appL_some (by simp;rw [h2.len];omega)]
 simp only [bS,List.nil_append,idx_nat,h2.at' i j hi hj,setL'_nat]
 have hv:=minI_le (A i j) (maxI c (-20001))
 have hx:=maxI_le c (-20001)
 have hA:=h3 i j hi hj
 have hA2:=h4 i j hi hj
 refine ⟨_,rfl,rfl,h2.set hi hj _,fun a b ha hb=>?_,fun a b ha hb=>?_⟩
 ·unfold upd;split
  ·omega
  ·exact h3 a b ha hb
 ·unfold upd;split
  ·rename_i e;rw [e.1,e.2];omega
  ·exact h4 a b ha hb
theorem phase_is (hN:4194304 < N) (n:Nat) (hn:n≤24) (z:T6) (hz:z.N=(n:Int)) (k:Nat) (hk:k < n+1) (K:Int) (hK:20001≤K) (hK2:K≤1000000000) (ag:List Int→Int→Option (T6 × Bool))
  (B:List Int) (A:Nat→Nat→Int) (hR:Rep (n+1) B A) (hA:Btw (n+1) A (-K) 20000) (hkk:A k k=0) :
  ∃ B',Rep (n+1) B' (ph A k)∧z55_l6 N z (k:Int) ag N B (0:Int)=z55_k5 N z (k:Int) ag B':=by
 have hw:w64 (z.N+1)=((n+1:Nat):Int):=by rw [hz,w64_succ (by omega)]
 have hrow:∀ i j:Nat,i < n+1→j < n+1→w64 ((w64 ((i:Int) * (w64 (z.N+1))))+(j:Int))=((i * (n+1)+j:Nat):Int):=fun i j hi hj=>by rw [hz];exact row_w hn (by omega) (by omega)
 have pk1:∀ a,ph A k a k=A a k:=fun a=>by unfold ph minI;rw [hkk];split<;>omega
 have pk2:∀ b,ph A k k b=A k b:=fun b=>by unfold ph minI;rw [hkk];split<;>omega
 let S:Nat→Nat→Nat→Nat→Int:=fun i j a b=>if a < i∨(a=i∧b < j) then ph A k a b else A a b
 let P:Nat→Nat→List Int→Prop:=fun i j B=>Rep (n+1) B (S i j)
 have sk1:∀ i j a,S i j a k=A a k:=fun i j a=>by
  show (if _ then _ else _)=_
  split
  ·exact pk1 a
  ·rfl
 have sk2:∀ i j b,S i j k b=A k b:=fun i j b=>by
  show (if _ then _ else _)=_
  split
  ·exact pk2 b
  ·rfl
 have outer:=loopP (n+1) (z55_l6 N z (k:Int) ag) (fun B=>z55_k5 N z (k:Int) ag B) (fun i B=>P i 0 B) (by
  intro f B i hi hP1
  have inner:=loopP (n+1) (z55_l8 z (k:Int) (i:Int) (z55_l6 N z (k:Int) ag f)) (fun B=>z55_l6 N z (k:Int) ag f B ((i+1:Nat):Int)) (fun j B=>P i j B) (by
   intro g B j hj hP2
   have hP2:Rep (n+1) B (S i j):=hP2
   have e0:S i j i j=A i j:=by show (if _ then _ else _)=_;rw [if_neg (by omega)]
   refine ⟨B.set (i * (n+1)+j) (ph A k i j),?_,?_⟩
   ·have:=hP2.set hi hj (ph A k i j)
    refine ⟨this.len,fun a b ha hb=>?_⟩
    rw [this.at' a b ha hb]
    congr 1
    show upd _ _ _ _ a b=if _ then _ else _
    unfold upd
    split
    ·rename_i e;rw [if_pos (by omega),e.1,e.2]
    ·rename_i e
     show (if _ then _ else _)=_
     by_cases c:a < i∨(a=i∧b < j)
     ·rw [if_pos c,if_pos (by omega)]
     ·rw [if_neg c,if_neg (by omega)]
   ·have q1:=hA i k hi hk
    have q2:=hA k j hk hj
    rw [z55_l8,hw,lt_t hj,← hw,hrow i j hi hj,hrow i k hi hk,hrow k j hk hj,w64_succ (by omega)]
    simp only [cT,idx_nat,hP2.at' i j hi hj,hP2.at' i k hi hk,hP2.at' k j hk hj,bS,setL'_nat]
    rw [sk1,sk2,e0,w64_id (by omega) (by omega)]
    rfl) (by
   intro g B
   rw [z55_l8,hw,lt_f (Nat.le_refl _)]
   simp only [cF,z55_k7]
   rw [w64_succ (by omega)])
  obtain ⟨B',hP',e⟩:=inner (n+1) N 0 B (by omega) (by omega) hP1
  have hP':Rep (n+1) B' (S i (n+1)):=hP'
  refine ⟨B',⟨hP'.len,fun a b ha hb=>?_⟩,?_⟩
  ·rw [hP'.at' a b ha hb]
   congr 1
   show (if _ then _ else _)=if _ then _ else _
   by_cases c:a < i∨(a=i∧b < n+1)
   ·rw [if_pos c,if_pos (by omega)]
   ·rw [if_neg c,if_neg (by omega)]
  ·rw [z55_l6,hw,lt_t hi]
   exact e) (by
  intro f B
  rw [z55_l6,hw,lt_f (Nat.le_refl _)];rfl)
 obtain ⟨B',hP',e⟩:=outer (n+1) N 0 B (by omega) (by omega) ⟨hR.len,fun a b ha hb=>by
  rw [hR.at' a b ha hb]
  congr 1
  show _=if _ then _ else _
  rw [if_neg (by omega)]⟩
 have hP':Rep (n+1) B' (S (n+1) 0):=hP'
 refine ⟨B',⟨hP'.len,fun a b ha hb=>?_⟩,e⟩
 rw [hP'.at' a b ha hb]
 congr 1
 show (if _ then _ else _)=_
 rw [if_pos (by omega)]
end Gp
end
section
namespace Gp
open Go Go.Kx Gx
variable {N:Nat}
theorem diag_is (hN:4194304 < N) (n:Nat) (hn:n≤24) (z:T6) (hz:z.N=(n:Int)) (k:Nat) (hk:k < n+1) (ag:List Int→Int→Option (T6 × Bool)) (B:List Int) (A:Nat→Nat→Int) (hR:Rep (n+1) B A) :
  (z55_k5 N z (k:Int) ag B=some (⟨0,[]⟩,false)∧∃ a,a < n+1∧A a a < 0)∨(z55_k5 N z (k:Int) ag B=ag B ((k+1:Nat):Int)∧∀ a,a < n+1→0≤A a a):=by
 have hw:w64 (z.N+1)=((n+1:Nat):Int):=by rw [hz,w64_succ (by omega)]
 have hrow:∀ i j:Nat,i < n+1→j < n+1→w64 ((w64 ((i:Int) * (w64 (z.N+1))))+(j:Int))=((i * (n+1)+j:Nat):Int):=fun i j hi hj=>by rw [hz];exact row_w hn (by omega) (by omega)
 have diag:∀ (r g i:Nat),i+r=n+1→r < g→(∀ a,a < i→0≤A a a)→(z55_l4 z (k:Int) ag B g (i:Int)=some (⟨0,[]⟩,false)∧∃ a,a < n+1∧A a a < 0)∨(z55_l4 z (k:Int) ag B g (i:Int)=ag B ((k+1:Nat):Int)∧∀ a,a < n+1→0≤A a a):=by
  intro r
  induction r with
  | zero =>
   intro g i hi hg hp
   obtain ⟨g,rfl⟩:∃ m,g=m+1:=⟨g-1,by omega⟩
   have:i=n+1:=by omega
   subst this
   right
   refine ⟨?_,hp⟩
   rw [z55_l4,hw,lt_f (Nat.le_refl _)]
   simp only [cF,z55_k3]
   rw [w64_succ (by omega)]
  | succ r ih =>
   intro g i hi hg hp
   obtain ⟨g,rfl⟩:∃ m,g=m+1:=⟨g-1,by omega⟩
   have hiM:i < n+1:=by omega
   rw [z55_l4,hw,lt_t hiM,← hw,hrow i i hiM hiM,w64_succ (by omega)]
   simp only [cT,idx_nat,hR.at' i i hiM hiM,bS]
   by_cases c:A i i < 0
   ·rw [dT c]
    left;exact ⟨rfl,i,hiM,c⟩
   ·rw [dF c]
    exact ih g (i+1) (by omega) (by omega) (fun a ha=>by
     by_cases e:a=i
     ·subst e;omega
     ·exact hp a (by omega))
 exact diag (n+1) N 0 (by omega) (by omega) (fun a ha=>by omega)
theorem phases_is (hN:4194304 < N) (n:Nat) (hn:n≤4) (z:T6) (hz:z.N=(n:Int)) (A0:Nat→Nat→Int):∀ (r f k:Nat) (B:List Int) (A:Nat→Nat→Int),k+r=n+1→r < f→Rep (n+1) B A→(∀ a b,a < n+1→b < n+1→-(pw k)≤A a b)→Cl (n+1) k A0 A →
  (z55_l2 N z f B (k:Int)=some (⟨0,[]⟩,false)∧∀ y,¬ Keep (n+1) A0 y)∨∃ B' A',z55_l2 N z f B (k:Int)=some (⟨(n:Int),B'⟩,true)∧Rep (n+1) B' A'∧(∀ a b,a < n+1→b < n+1→-155527776≤A' a b)∧Cl (n+1) (n+1) A0 A':=by
 have hw:w64 (z.N+1)=((n+1:Nat):Int):=by rw [hz,w64_succ (by omega)]
 intro r
 induction r with
 | zero =>
  intro f k B A hk hf hR hA hC
  obtain ⟨f,rfl⟩:∃ m,f=m+1:=⟨f-1,by omega⟩
  have:k=n+1:=by omega
  subst this
  right
  refine ⟨B,A,?_,hR,fun a b ha hb=>?_,hC⟩
  ·rw [z55_l2,hw,lt_f (Nat.le_refl _)]
   simp only [cF,z55_k1,hz]
  ·have:=hA a b ha hb
   have:=(pw_le (k:=n+1) (by omega)).2
   omega
 | succ r ih =>
  intro f k B A hk hf hR hA hC
  obtain ⟨f,rfl⟩:∃ m,f=m+1:=⟨f-1,by omega⟩
  have hkM:k < n+1:=by omega
  have hp:=pw_le (k:=k) (by omega)
  rw [z55_l2,hw,lt_t hkM]
  simp only [cT]
  obtain ⟨B1,hR1,e1⟩:=phase_is hN n (by omega) z hz k hkM (pw k) hp.1 (by omega) (z55_l2 N z f) B A hR (fun a b ha hb=>⟨hA a b ha hb,by have:=hC.hi a b ha hb;have:=fullV_le a b;omega⟩) (hC.diag k hkM)
  rw [e1]
  rcases diag_is hN n (by omega) z hz k hkM (z55_l2 N z f) B1 (ph A k) hR1 with ⟨e2,a,ha,hneg⟩ | ⟨e2,hd⟩
  ·left
   refine ⟨e2,fun y hy=>?_⟩
   exact no_keep ha hneg y ((keep_ph hkM).1 ((hC.keep y).1 hy))
  ·rw [e2]
   exact ih f (k+1) B1 (ph A k) (by omega) (by omega) hR1 (fun a b ha hb=>by
    have h1:=hA a b ha hb
    have h2:=hA a k ha hkM
    have h3:=hA k b hkM hb
    show -(6 * pw k)≤minI (A a b) (A a k+A k b)
    have:=minI_le (A a b) (A a k+A k b)
    omega) (hC.step (by omega) hkM hd)
theorem phase_k5 (hN:4194304 < N) (n:Nat) (hn:n≤24) (z:T6) (hz:z.N=(n:Int)) (k:Nat) (hk:k < n+1) (K:Int) (hK:20001≤K) (hK2:K≤1000000000) (ag:List Int→Int→Option (T6 × Bool))
  (B:List Int) (A:Nat→Nat→Int) (hR:Rep (n+1) B A) (hA:Btw (n+1) A (-K) 20000) :
  ∃ B' A',Rep (n+1) B' A'∧(∀ a b,a < n+1→b < n+1→A' a b≤A a b)∧z55_l6 N z (k:Int) ag N B (0:Int)=z55_k5 N z (k:Int) ag B':=by
 have hw:w64 (z.N+1)=((n+1:Nat):Int):=by rw [hz,w64_succ (by omega)]
 have hrow:∀ i j:Nat,i < n+1→j < n+1→w64 ((w64 ((i:Int) * (w64 (z.N+1))))+(j:Int))=((i * (n+1)+j:Nat):Int):=fun i j hi hj=>by rw [hz];exact row_w hn (by omega) (by omega)
 let P:Nat→List Int→Prop:=fun i B=>∃ A',Rep (n+1) B A'∧Ph (n+1) k K A A' i 0
 have outer:=loopP (n+1) (z55_l6 N z (k:Int) ag) (fun B=>z55_k5 N z (k:Int) ag B) P (by
  intro f B i hi ⟨A1,hR1,hP1⟩
  have inner:=loopP (n+1) (z55_l8 z (k:Int) (i:Int) (z55_l6 N z (k:Int) ag f)) (fun B=>z55_l6 N z (k:Int) ag f B ((i+1:Nat):Int)) (fun j B=>∃ A',Rep (n+1) B A'∧Ph (n+1) k K A A' i j) (by
   intro g B j hj ⟨A2,hR2,hP2⟩
   refine ⟨B.set (i * (n+1)+j) (minI (A2 i j) (A2 i k+A2 k j)),⟨_,hR2.set hi hj _,hP2.step (by omega) hk hi hj⟩,?_⟩
   have q1:=hP2.lo i k hi hk
   have q2:=hP2.lo k j hk hj
   have q3:=hP2.hi i k hi hk
   have q4:=hP2.hi k j hk hj
   rw [z55_l8,hw,lt_t hj,← hw,hrow i j hi hj,hrow i k hi hk,hrow k j hk hj,w64_succ (by omega)]
   simp only [cT,idx_nat,hR2.at' i j hi hj,hR2.at' i k hi hk,hR2.at' k j hk hj,bS,setL'_nat]
   rw [w64_id (by omega) (by omega)]) (by
   intro g B
   rw [z55_l8,hw,lt_f (Nat.le_refl _)]
   simp only [cF,z55_k7]
   rw [w64_succ (by omega)])
  obtain ⟨B',⟨A',hR',hP'⟩,e⟩:=inner (n+1) N 0 B (by omega) (by omega) ⟨A1,hR1,hP1⟩
  refine ⟨B',⟨A',hR',hP'.row⟩,?_⟩
  rw [z55_l6,hw,lt_t hi]
  exact e) (by
  intro f B
  rw [z55_l6,hw,lt_f (Nat.le_refl _)];rfl)
 obtain ⟨B',⟨A',hR',hP'⟩,e⟩:=outer (n+1) N 0 B (by omega) (by omega) ⟨A,hR,⟨fun a b ha hb=>(hA a b ha hb).2,fun a b ha hb=>by have:=(hA a b ha hb).1;omega,fun a b ha hb _=>(hA a b ha hb).1,fun a b ha hb _=>by have:=(hA a b ha hb).1;omega,by have:=(hA k k hk hk).1;omega,fun a b _ _=>Int.le_refl _⟩⟩
 have e:z55_l6 N z (k:Int) ag N B (0:Int)=z55_k5 N z (k:Int) ag B':=e
 exact ⟨B',A',hR',hP'.mono,e⟩
theorem close_is (hN:4194304 < N) (n:Nat) (hn:n≤4) (A:Nat→Nat→Int) (z:T6) (h:Zx n A z):(∃ z',z55 N z=some (z',false)∧∀ y,¬ Keep (n+1) A y) ∨
  ∃ B A',z55 N z=some (⟨(n:Int),B⟩,true)∧Rep (n+1) B A'∧(∀ a b,a < n+1→b < n+1→-155527776≤A' a b)∧Cl (n+1) (n+1) A A':=by
 have hv:=valid_true hN (by omega) h
 obtain ⟨zn,B⟩:=z
 obtain ⟨h1,h2,h3,h4⟩:=h
 simp only at h1 h2
 subst h1
 have hM:(n+1) * (n+1)≤25 * 25:=Nat.mul_le_mul (by omega) (by omega)
 unfold z55
 rw [hv]
 simp only [bS,Bool.not_true,cF]
 unfold z54
 rw [appL_some (by simp;rw [h2.len];omega)]
 simp only [bS,List.nil_append]
 have hw:w64 ((n:Int)+1)=((n+1:Nat):Int):=w64_succ (by omega)
 -- the first pass changes nothing
 have outer:=loopP (n+1) (z55_l10 N ⟨(n:Int),B⟩) (fun B'=>z55_k9 N ⟨(n:Int),B⟩ B') (fun _ B'=>Rep (n+1) B' A) (by
  intro f B1 i hi hP
  have inner:=loopP (n+1) (z55_l12 N ⟨(n:Int),B⟩ (i:Int) (z55_l10 N ⟨(n:Int),B⟩ f)) (fun B'=>z55_l10 N ⟨(n:Int),B⟩ f B' ((i+1:Nat):Int)) (fun _ B'=>Rep (n+1) B' A) (by
   intro g B2 j hj hR2
   have hij:=h4 i j hi hj
   have hm:minI (A i j) (fullV i j)=A i j:=by unfold minI;rw [if_neg (by omega)]
   refine ⟨B2.set (i * (n+1)+j) (A i j),?_,?_⟩
   ·have:=hR2.set hi hj (A i j)
    refine ⟨this.len,fun a b ha hb=>?_⟩
    rw [this.at' a b ha hb]
    unfold upd;split
    ·rename_i e;rw [e.1,e.2]
    ·rfl
   ·rw [z55_l12]
    simp only []
    rw [hw,lt_t hj,full_is,← hw,row_w (by omega) (by omega) (by omega),w64_succ (by omega)]
    simp only [cT,bS,idx_nat,hR2.at' i j hi hj,setL'_nat,hm]) (by
   intro g B2
   rw [z55_l12]
   simp only []
   rw [hw,lt_f (Nat.le_refl _)]
   simp only [cF,z55_k11]
   rw [w64_succ (by omega)])
  obtain ⟨B',hP',e⟩:=inner (n+1) N 0 B1 (by omega) (by omega) hP
  refine ⟨B',hP',?_⟩
  rw [z55_l10]
  simp only []
  rw [hw,lt_t hi]
  exact e) (by
  intro f B1
  rw [z55_l10]
  simp only []
  rw [hw,lt_f (Nat.le_refl _)];rfl)
 obtain ⟨B',hR',e⟩:=outer (n+1) N 0 B (by omega) (by omega) h2
 have e:z55_l10 N ⟨(n:Int),B⟩ N B (0:Int)=z55_l2 N ⟨(n:Int),B⟩ N B' (0:Int):=e
 rw [e]
 by_cases hd:∀ a,a < n+1→0≤A a a
 ·have hC:Cl (n+1) 0 A A:=⟨fun a ha=>by
   have q1:=hd a ha
   have q2:=h4 a a ha ha
   unfold fullV at q2
   rw [if_pos rfl] at q2
   omega,fun l hl=>by omega,h4,fun y=>Iff.rfl⟩
  rcases phases_is hN n hn ⟨(n:Int),B⟩ rfl A (n+1) N 0 B' A (by omega) (by omega) hR' (fun a b ha hb=>by have:=h3 a b ha hb;show -(20001:Int)≤_;omega) hC with ⟨h,hk⟩ | ⟨B2,A2,e2,r2,b2,c2⟩
  ·left;exact ⟨_,h,hk⟩
  ·right;exact ⟨B2,A2,e2,r2,b2,c2⟩
 ·-- a place is below nothing from the beginning: the first look finds it
  obtain ⟨a,ha⟩:∃ a,¬ (a < n+1→0≤A a a):=by
   apply Classical.byContradiction
   intro hc
   exact hd fun a h=>Classical.byContradiction fun h2=>hc ⟨a,fun h3=>h2 (h3 h)⟩
  have haM:a < n+1:=by
   apply Classical.byContradiction;intro hc;exact ha fun h=>absurd h hc
  have hneg:A a a < 0:=by
   apply Classical.byContradiction;intro hc;exact ha fun _=>by omega
  left
  obtain ⟨f,rfl⟩:∃ m,N=m+1:=⟨N-1,by omega⟩
  have hz:(⟨(n:Int),B⟩:T6).N=(n:Int):=rfl
  rw [z55_l2]
  simp only []
  rw [hw,show (0:Int)=((0:Nat):Int) from rfl,lt_t (by omega)]
  simp only [cT]
  obtain ⟨B2,A2,r1,r3,r4⟩:=phase_k5 hN n (by omega) ⟨(n:Int),B⟩ rfl 0 (by omega) 20001 (by omega) (by omega) (z55_l2 (f+1) ⟨(n:Int),B⟩ f) B' A hR' (fun a b ha hb=>⟨by have:=h3 a b ha hb;omega,by have:=h4 a b ha hb;have:=fullV_le a b;omega⟩)
  rcases diag_is hN n (by omega) ⟨(n:Int),B⟩ rfl 0 (by omega) (z55_l2 (f+1) ⟨(n:Int),B⟩ f) B2 A2 r1 with ⟨e2,_⟩ | ⟨_,hd2⟩
  ·exact ⟨_,r4.trans e2,fun y=>no_keep haM hneg y⟩
  ·have:=hd2 a haM
   have:=r3 a a haM haM
   omega
end Gp
end
section
namespace Gp
open Go Go.Kx Gx
variable {N:Nat}
def yOf (m:List Int):Nat→Int
 | 0=>0
 | i+1=>(m[i]?).getD 0
theorem yOf_app {m:List Int} {v:Int} {a:Nat} (h:a≤m.length):yOf (m++[v]) a=yOf m a:=by
 cases a with
 | zero=>rfl
 | succ a=>show ((m++[v])[a]?).getD 0=(m[a]?).getD 0;rw [List.getElem?_append_left (by omega)]
theorem yOf_new {m:List Int} {v:Int}:yOf (m++[v]) (m.length+1)=v:=by
 show ((m++[v])[m.length]?).getD 0=v
 simp
theorem yOf_get {m:List Int} {j:Nat} {x:Int} (h:m[j]? = some x):yOf m (j+1)=x:=by
 show (m[j]?).getD 0=x
 rw [h];rfl
def Lst (A:Nat→Nat→Int) (y:Nat→Int) (n:Nat):Prop:=∀ a,1≤a→a≤n→(∃ c,c < a∧y a=y c-A c a)∧∀ c,c < a→y c-A c a≤y a
theorem lst_keep {n:Nat} {A0 A:Nat→Nat→Int} {y:Nat→Int} (h:Lst A y n) (hC:Cl (n+1) (n+1) A0 A):Keep (n+1) A y:=by
 have key:∀ a b,a < n+1→b < n+1→y a-y b≤A a b:=by
  intro a
  induction a using Nat.strongRecOn with
  | _ a ih =>
   intro b ha hb
   rcases Nat.lt_trichotomy a b with hab | hab | hab
   ·have:=(h b (by omega) (by omega)).2 a hab
    omega
   ·subst hab
    have:=hC.diag a ha
    omega
   ·obtain ⟨c,hc,e⟩:=(h a (by omega) (by omega)).1
    have h1:=ih c hc b (by omega) hb
    have h2:=hC.tri a (by omega) c b (by omega) hb
    omega
 exact key
theorem lst_least {n:Nat} {A:Nat→Nat→Int} {y u:Nat→Int} (h:Lst A y n) (hu:Keep (n+1) A u) (h0:u 0=y 0) (i:Nat) (hi:i < n) (he:∀ j,j < i→u (j+1)=y (j+1)):y (i+1)≤u (i+1):=by
 obtain ⟨c,hc,e⟩:=(h (i+1) (by omega) (by omega)).1
 have h1:=hu c (i+1) (by omega) (by omega)
 have:u c=y c:=by
  cases c with
  | zero=>exact h0
  | succ c=>exact he c (by omega)
 omega
theorem model_is (hN:4194304 < N) (n:Nat) (hn:n≤4) (A0:Nat→Nat→Int) (z:T6) (h:Zx n A0 z):(∃ m,z18 N z=some (m,false)∧∀ y,¬ Keep (n+1) A0 y) ∨
  ∃ m,z18 N z=some (m,true)∧m.length=n∧Keep (n+1) A0 (yOf m)∧∀ u,Keep (n+1) A0 u→u 0=0→∀ i,i < n→(∀ j,j < i→u (j+1)=yOf m (j+1))→yOf m (i+1)≤u (i+1):=by
 unfold z18
 have hz:=h.N
 rcases close_is hN n hn A0 z h with ⟨z',e,hno⟩ | ⟨B,A,e,hR,hA,hC⟩
 ·left
  rw [e];exact ⟨_,rfl,hno⟩
 ·rw [e]
  simp only [bS,Bool.not_true,cF]
  right
  have hhi:∀ a b,a < n+1→b < n+1→A a b≤20000:=fun a b ha hb=>by have:=hC.hi a b ha hb;have:=fullV_le a b;omega
  have hat:∀ i j:Nat,i < n+1→j < n+1→z56 N ⟨(n:Int),B⟩ (i:Int) (j:Int)=some (A i j):=fun i j hi hj=>by
   unfold z56
   simp only []
   rw [row_w (by omega) (by omega) (by omega),idx_nat,hR.at' i j hi hj];rfl
  let P:Nat→List Int→Prop:=fun i m=>m.length=i∧Lst A (yOf m) i∧∀ a,a≤i→-20000≤yOf m a∧yOf m a≤155527776 * (a:Int)
  have outer:=loopP n (z18_l2 N z (⟨(n:Int),B⟩,true)) (fun m=>some (m,true)) P (by
   intro f m i hi ⟨hml,hm,hbm⟩
   have b0:=hA 0 (i+1) (by omega) (by omega)
   have b00:=hhi 0 (i+1) (by omega) (by omega)
   have inner:=loopP (γ:=Option (List Int × Bool)) i (z18_l4 N (⟨(n:Int),B⟩,true) m (i:Int) (z18_l2 N z (⟨(n:Int),B⟩,true) f)) (fun v=>z18_k3 m (i:Int) (z18_l2 N z (⟨(n:Int),B⟩,true) f) v)
    (fun j v=>(∃ c,c < j+1∧v=yOf m c-A c (i+1))∧(∀ c,c < j+1→yOf m c-A c (i+1)≤v)∧-20000≤v∧v≤155527776 * ((i:Int)+1)) (by
    intro g v j hj ⟨⟨c,hc,v0⟩,v1,v2,v3⟩
    obtain ⟨x,hx⟩:∃ x,m[j]? = some x:=⟨m[j]'(by omega),by simp⟩
    have hy:=yOf_get hx
    obtain ⟨x1,x2⟩:=hbm (j+1) (by omega)
    rw [hy] at x1 x2
    have b1:=hA (j+1) (i+1) (by omega) (by omega)
    have b2:=hhi (j+1) (i+1) (by omega) (by omega)
    have q:=maxI_le v (w64 (x-A (j+1) (i+1)))
    have hw:w64 (x-A (j+1) (i+1))=x-A (j+1) (i+1):=w64_id (by omega) (by omega)
    rw [hw] at q
    refine ⟨maxI v (x-A (j+1) (i+1)),⟨?_,fun c hc=>?_,by omega,by omega⟩,?_⟩
    ·rcases q.2.2 with q | q
     ·exact ⟨c,by omega,by rw [q];exact v0⟩
     ·exact ⟨j+1,by omega,by rw [q,hy]⟩
    ·by_cases e:c=j+1
     ·rw [e,hy];exact q.2.1
     ·have:=v1 c (by omega)
      omega
    ·rw [z18_l4,hml,lt_t hj,w64_succ (by omega),w64_succ (n:=i) (by omega)]
     simp only [cT,idx_nat,hx,bS]
     rw [hat (j+1) (i+1) (by omega) (by omega)]
     simp only [bS,hw]) (by
    intro g v
    rw [z18_l4,hml,lt_f (Nat.le_refl _)];rfl)
   have hneg:w64 (0-A 0 (i+1))=0-A 0 (i+1):=w64_id (by omega) (by omega)
   obtain ⟨v,⟨⟨c,hc,v0⟩,v1,v2,v3⟩,ev⟩:=inner i N 0 (0-A 0 (i+1)) (by omega) (by omega) ⟨⟨0,by omega,rfl⟩,fun c hc=>by
    have:c=0:=by omega
    subst this
    show (0:Int)-_≤_
    omega,by omega,by omega⟩
   have hkeep:∀ a,a≤i→yOf (m++[v]) a=yOf m a:=fun a ha=>yOf_app (by omega)
   have hnew:yOf (m++[v]) (i+1)=v:=by rw [← hml];exact yOf_new
   refine ⟨m++[v],⟨by simp [hml],fun a h1 h2=>?_,fun a ha=>?_⟩,?_⟩
   ·by_cases c2:a≤i
    ·obtain ⟨⟨c,q1,q2⟩,q3⟩:=hm a h1 c2
     refine ⟨⟨c,q1,by rw [hkeep a c2,hkeep c (by omega)];exact q2⟩,fun c hc=>?_⟩
     rw [hkeep a c2,hkeep c (by omega)]
     exact q3 c hc
    ·have:a=i+1:=by omega
     subst this
     refine ⟨⟨c,hc,by rw [hnew,hkeep c (by omega)];exact v0⟩,fun c hc=>?_⟩
     rw [hnew,hkeep c (by omega)]
     exact v1 c hc
   ·by_cases c2:a≤i
    ·rw [hkeep a c2];exact hbm a c2
    ·have:a=i+1:=by omega
     subst this
     rw [hnew]
     exact ⟨v2,by omega⟩
   ·rw [z18_l2,hz,lt_t hi,w64_succ (by omega)]
    simp only [cT]
    have h0:=hat 0 (i+1) (by omega) (by omega)
    rw [show ((0:Nat):Int)=0 from rfl] at h0
    rw [h0]
    simp only [bS,hneg]
    have ev:z18_l4 N (⟨(n:Int),B⟩,true) m (i:Int) (z18_l2 N z (⟨(n:Int),B⟩,true) f) N (0-A 0 (i+1)) (0:Int)=_:=ev
    rw [ev]
    unfold z18_k3
    rw [appL_some (by simp;omega),w64_succ (by omega)]
    rfl) (by
   intro f m
   rw [z18_l2,hz,lt_f (Nat.le_refl _)];rfl)
  obtain ⟨m,⟨hml,hm,hbm⟩,e⟩:=outer n N 0 [] (by omega) (by omega) ⟨rfl,fun a h1 h2=>by omega,fun a ha=>by
   have:a=0:=by omega
   subst this
   show -20000≤(0:Int)∧(0:Int)≤_
   omega⟩
  refine ⟨m,e,hml,(hC.keep _).2 (lst_keep hm hC),fun u hu hu0 i hi he=>?_⟩
  exact lst_least hm ((hC.keep u).1 hu) (by rw [hu0];rfl) i hi he
end Gp
end
section
namespace Gp
open Go Go.Kx Gx
variable {N:Nat}
end Gp
end
section
namespace Gp
open Go Go.Kx Gx
variable {N:Nat}
def fc:List Bool→Nat
 | []=>0
 | true::r=>fc r
 | false::r=>fc r+1
theorem fc_set:∀ {s:List Bool} {i:Nat},s[i]? = some false→fc (s.set i true)+1=fc s
 | [],i,h=>by simp at h
 | b::r,0,h=>by
  have:b=false:=by simpa using h
  subst this;rfl
 | b::r,i+1,h=>by
  have ih:=fc_set (s:=r) (i:=i) (by simpa using h)
  cases b with
  | true=>exact ih
  | false =>
   show fc (r.set i true)+1+1=fc r+1
   omega
theorem fc_le:∀ s:List Bool,fc s≤s.length
 | []=>Nat.le_refl _
 | true::r=>by have:=fc_le r;show fc r≤r.length+1;omega
 | false::r=>by have:=fc_le r;show fc r+1≤r.length+1;omega
structure Tx (l:List T5) (s:List Bool) (c:Bool) (l':List T5) (s':List Bool) (c':Bool):Prop where
 ll:l'.length=l.length
 ls:s'.length=s.length
 le:fc s'≤fc s
 ch:c'=true→c=true∨fc s' < fc s
 sz:(∀ v∈l,v.S.size≤800000000)→∀ v∈l',v.S.size≤800000000
theorem Tx.refl (l:List T5) (s:List Bool) (c:Bool):Tx l s c l s c:=⟨rfl,rfl,Nat.le_refl _,fun h=>.inl h,fun h=>h⟩
theorem Tx.trans {l s c l1 s1 c1 l2 s2 c2} (h:Tx l s c l1 s1 c1) (k:Tx l1 s1 c1 l2 s2 c2):Tx l s c l2 s2 c2 :=
 ⟨k.ll.trans h.ll,k.ls.trans h.ls,Nat.le_trans k.le h.le,fun q=>by
  rcases k.ch q with q | q
  ·rcases h.ch q with q | q
   ·exact .inl q
   ·exact .inr (Nat.lt_of_le_of_lt k.le q)
  ·exact .inr (Nat.lt_of_lt_of_le q h.le),fun q=>k.sz (h.sz q)⟩
theorem k7_run (l:List T5) (s:List Bool) (c:Bool) (i:Int) (ag:List T5→List Bool→Bool→Int→Option (List T5)) (x y:Int) (hx:0≤x∧x < (l.length:Int)) (hy:0≤y∧y < (l.length:Int)) (hs:s.length=l.length) :
  ∃ l' s' c',z21_k7 l s c i ag x y=ag l' s' c' (w64 (i+1))∧Tx l s c l' s' c':=by
 unfold z21_k7
 obtain ⟨sy,h1⟩:=idx_lt (L:=s) (v:=y) hy.1 (by omega)
 obtain ⟨sx,h2⟩:=idx_lt (L:=s) (v:=x) hx.1 (by omega)
 obtain ⟨ly,h3⟩:=idx_lt (L:=l) (v:=y) hy.1 hy.2
 obtain ⟨lx,h4⟩:=idx_lt (L:=l) (v:=x) hx.1 hx.2
 rw [h1,h2,h3,h4]
 simp only [bS]
 cases sy with
 | false=>exact ⟨l,s,c,rfl,Tx.refl _ _ _⟩
 | true =>
  cases sx with
  | true=>exact ⟨l,s,c,rfl,Tx.refl _ _ _⟩
  | false =>
   refine ⟨_,_,true,rfl,?_⟩
   obtain ⟨k,rfl,hk⟩:=idx_mem h2
   obtain ⟨j,rfl,hj⟩:=idx_mem h3
   have hf:=fc_set hk
   refine ⟨by rw [setL'_nat,List.length_set],by rw [setL'_nat,List.length_set],by rw [setL'_nat];omega,fun _=>.inr (by rw [setL'_nat];omega),fun hz v hv=>?_⟩
   rw [setL'_nat] at hv
   rcases List.mem_or_eq_of_mem_set hv with h | h
   ·exact hz v h
   ·rw [h];exact hz ly (List.mem_of_getElem? hj)
theorem l6t_run (l:List T5) (s:List Bool) (c:Bool) (k:Int) (ag:List T5→List Bool→Bool→Int→Option (List T5)) (e:Int × Int) (h1:0≤e.1∧e.1 < (l.length:Int)) (h2:0≤e.2∧e.2 < (l.length:Int)) (hs:s.length=l.length) (n:Nat) :
  ∃ l' s' c',z21_l6 k ag e (n+3) l s c 0=ag l' s' c' (w64 (k+1))∧Tx l s c l' s' c':=by
 have w1:w64 ((0:Int)+1)=1:=rfl
 have w2:w64 ((1:Int)+1)=2:=rfl
 have d0:decide ((0:Int) < 2)=true:=rfl
 have d1:decide ((1:Int) < 2)=true:=rfl
 have d2:decide ((2:Int) < 2)=false:=rfl
 have i0:idx ([e.1,e.2]:List Int) 0=some e.1:=rfl
 have i1:idx ([e.1,e.2]:List Int) 1=some e.2:=rfl
 have a0:(w64 ((1:Int)-0)==0)=false:=rfl
 have a1:(w64 ((1:Int)-0)==1)=true:=rfl
 have a2:(w64 ((1:Int)-1)==0)=true:=rfl
 rw [z21_l6,d0]
 simp only [cT,i0,bS,a0,cF,a1]
 obtain ⟨l1,s1,c1,e1,t1⟩:=k7_run l s c 0 (z21_l6 k ag e (n+2)) e.1 e.2 h1 h2 hs
 rw [e1,w1,z21_l6,d1]
 simp only [cT,i1,bS,a2]
 obtain ⟨l2,s2,c2,e2,t2⟩:=k7_run l1 s1 c1 1 (z21_l6 k ag e (n+1)) e.2 e.1 (by rw [t1.ll];exact h2) (by rw [t1.ll];exact h1) (by rw [t1.ls,t1.ll];exact hs)
 rw [e2,w2,z21_l6,d2]
 simp only [cF,z21_k5]
 exact ⟨l2,s2,c2,rfl,t1.trans t2⟩
theorem l4t_run (hN:4194304 < N) (x:T0) (ag:List T5→List Bool→Bool→Option (List T5)) (L:Nat) (hin:InG L x.Guard):∀ (r:List (Int × Int)) (n k:Nat) (l:List T5) (s:List Bool) (c:Bool),x.Guard.Equals.drop k=r→r.length < n→l.length=L→s.length=L →
  ∃ l' s' c',z21_l4 N x ag n l s c (k:Int)=ag l' s' c'∧Tx l s c l' s' c':=by
 intro r
 induction r with
 | nil =>
  intro n k l s c h hn hl hs
  obtain ⟨n,rfl⟩:∃ m,n=m+1:=⟨n-1,by simp at hn;omega⟩
  rw [z21_l4,lt_f (drop_nil h)]
  exact ⟨l,s,c,rfl,Tx.refl _ _ _⟩
 | cons e r ih =>
  intro n k l s c h hn hl hs
  obtain ⟨n,rfl⟩:∃ m,n=m+1:=⟨n-1,by simp at hn;omega⟩
  obtain ⟨q1,q2,q3⟩:=drop_cons h
  simp only [List.length_cons] at hn
  have he:=hin.e e (List.mem_of_getElem? q2)
  have hel:=hin.el
  rw [z21_l4,lt_t q1]
  simp only [cT,idx_nat,q2,bS]
  obtain ⟨l1,s1,c1,e1,t1⟩:=l6t_run l s c (k:Int) (z21_l4 N x ag n) e (by rw [hl];exact he.1) (by rw [hl];exact he.2) (by rw [hs,hl]) (N-3)
  rw [show N-3+3=N by omega] at e1
  rw [e1,w64_succ (by omega)]
  obtain ⟨l2,s2,c2,e2,t2⟩:=ih n (k+1) l1 s1 c1 q3 (by omega) (by rw [t1.ll,hl]) (by rw [t1.ls,hs])
  exact ⟨l2,s2,c2,e2,t1.trans t2⟩
theorem l2t_run (hN:4194304 < N) (x:T0) (L:Nat) (hin:InG L x.Guard):∀ (m f:Nat) (l:List T5) (s:List Bool),fc s≤m→m+2≤f→l.length=L→s.length=L→(∀ v∈l,v.S.size≤800000000) →
  ∃ l',z21_l2 N x f l s true=some l'∧l'.length=L∧∀ v∈l',v.S.size≤800000000:=by
 intro m
 induction m with
 | zero =>
  intro f l s hm hf hl hs hz
  obtain ⟨f,rfl⟩:∃ q,f=q+2:=⟨f-2,by omega⟩
  rw [z21_l2]
  simp only [cT]
  obtain ⟨l1,s1,c1,e1,t1⟩:=l4t_run hN x (z21_l2 N x (f+1)) L hin x.Guard.Equals N 0 l s false rfl (by have:=hin.el;omega) hl hs
  have e1:z21_l4 N x (z21_l2 N x (f+1)) N l s false (0:Int)=_:=e1
  rw [e1]
  cases c1 with
  | false=>exact ⟨l1,rfl,by rw [t1.ll,hl],t1.sz hz⟩
  | true =>
   rcases t1.ch rfl with h | h
   ·cases h
   ·omega
 | succ m ih =>
  intro f l s hm hf hl hs hz
  obtain ⟨f,rfl⟩:∃ q,f=q+2:=⟨f-2,by omega⟩
  rw [z21_l2]
  simp only [cT]
  obtain ⟨l1,s1,c1,e1,t1⟩:=l4t_run hN x (z21_l2 N x (f+1)) L hin x.Guard.Equals N 0 l s false rfl (by have:=hin.el;omega) hl hs
  have e1:z21_l4 N x (z21_l2 N x (f+1)) N l s false (0:Int)=_:=e1
  rw [e1]
  cases c1 with
  | false=>exact ⟨l1,rfl,by rw [t1.ll,hl],t1.sz hz⟩
  | true =>
   rcases t1.ch rfl with h | h
   ·cases h
   ·exact ih (f+1) l1 s1 (by omega) (by omega) (by rw [t1.ll,hl]) (by rw [t1.ls,hs]) (t1.sz hz)
theorem mkLB_ok (n:Nat) (h:n≤4294967296) {α:Type} (v:α):mkL v (n:Int) (n:Int)=some (List.replicate n v):=by
 unfold mkL
 have h3:decide ((n:Int)≤4294967296)=true:=by simp;omega
 simp
 rw [h3];rfl
theorem texts_some (hN:4194304 < N) (x:T0) (l:List T5) (hl:l.length≤1000) (hin:InG l.length x.Guard) (hz:∀ v∈l,v.S.size≤800000000):∃ l',z21 N x l=some l'∧l'.length=l.length∧∀ v∈l',v.S.size≤800000000:=by
 unfold z21
 rw [mkLB_ok _ (by omega)]
 simp only [bS]
 have outer:=loopP (γ:=Option (List T5)) l.length (z21_l9 N x l) (fun s=>z21_k8 N x l s) (fun _ s=>s.length=l.length) (by
  intro f s i hi hs
  obtain ⟨v,hv⟩:∃ v,l[i]? = some v:=⟨l[i],by simp [hi]⟩
  obtain ⟨b,hb⟩:∃ b,s[i]? = some b:=⟨s[i]'(by omega),by simp⟩
  rw [z21_l9,lt_t hi,w64_succ (by omega)]
  simp only [cT,idx_nat,hv,hb,bS,setL'_nat]
  cases decide ((i:Int) < x.First) with
  | true=>exact ⟨_,by rw [List.length_set];exact hs,rfl⟩
  | false =>
   simp only [cF]
   cases decide ((i:Int)≥w64 (x.First+(x.Fields.length:Int))) with
   | true=>exact ⟨_,by rw [List.length_set];exact hs,rfl⟩
   | false=>exact ⟨_,by rw [List.length_set];exact hs,rfl⟩) (by
  intro f s
  rw [z21_l9,lt_f (Nat.le_refl _)];rfl)
 obtain ⟨s,hs,e⟩:=outer l.length N 0 (List.replicate l.length false) (by omega) (by omega) (by simp)
 have e:z21_l9 N x l N (List.replicate l.length false) (0:Int)=z21_k8 N x l s:=e
 rw [e]
 unfold z21_k8
 exact l2t_run hN x l.length hin (fc s) N l s (Nat.le_refl _) (by have:=fc_le s;omega) rfl hs hz
end Gp
end
section
namespace Gp
open Go Go.Kx Gx
variable {N:Nat}
theorem bd2 (x:T0) (hx:SizeD x) (L:Nat) (hin:InG L x.Guard):∀ (r:List (Int × Int)) (n k:Nat) (a:List T1),x.Guard.Equals.drop k=r→r.length < n→a.length+2 * r.length≤33554432→(∀ b∈a,b.X < (L:Int)∧b.Y < (L:Int)) →
  ∃ z,z15_l2 x n a (k:Int)=some z∧z.length≤33554432∧(∀ b∈z,b.X < (L:Int)∧b.Y < (L:Int))∧∀ b∈a,b∈z:=by
 intro r
 induction r with
 | nil =>
  intro n k a h hn ha hb
  obtain ⟨n,rfl⟩:∃ m,n=m+1:=⟨n-1,by simp at hn;omega⟩
  rw [z15_l2,lt_f (drop_nil h)]
  exact ⟨a,rfl,by simp at ha;exact ha,hb,fun b h=>h⟩
 | cons e r ih =>
  intro n k a h hn ha hb
  obtain ⟨n,rfl⟩:∃ m,n=m+1:=⟨n-1,by simp at hn;omega⟩
  obtain ⟨h1,h2,h3⟩:=drop_cons h
  have:=hx.e
  have he:=hin.e e (List.mem_of_getElem? h2)
  simp only [List.length_cons] at hn ha
  rw [z15_l2,lt_t h1,w64_succ (by omega)]
  simp only [cT,idx_nat,h2,bS]
  rw [appL_some (by simp;omega)]
  obtain ⟨z,q1,q2,q3,q4⟩:=ih n (k+1) (a++[⟨e.1,e.2,0⟩,⟨e.2,e.1,0⟩]) h3 (by omega) (by simp;omega) (fun b hb'=>by
   rcases List.mem_append.1 hb' with h | h
   ·exact hb b h
   ·simp only [List.mem_cons,List.not_mem_nil,or_false] at h
    rcases h with rfl | rfl
    ·exact ⟨he.1.2,he.2.2⟩
    ·exact ⟨he.2.2,he.1.2⟩)
  exact ⟨z,q1,q2,q3,fun b hb'=>q4 b (List.mem_append_left _ hb')⟩
theorem bd4 (hN:4194304 < N) (x:T0) (hx:SizeD x) (L first:Nat) (hf:x.First=(first:Int)) (hL:first+x.Fields.length≤L) (hL2:L≤1000) (hin:InG L x.Guard):∀ (r:List T2) (n k:Nat) (a:List T1),x.Fields.drop k=r→r.length < n→a.length+2 * r.length≤8388608→(∀ b∈a,b.X < (L:Int)∧b.Y < (L:Int)) →
  ∃ z,z15_l4 N x n a (k:Int)=some z∧z.length≤33554432∧(∀ b∈z,b.X < (L:Int)∧b.Y < (L:Int))∧(∀ b∈a,b∈z)∧∀ i f,k≤i→x.Fields[i]? = some f→(⟨-1,w64 (x.First+(i:Int)),w64 (0-f.Sort'.Lo)⟩:T1)∈z:=by
 intro r
 have h1:=hx.f
 have h2:=hx.d
 have h3:=hx.e
 induction r with
 | nil =>
  intro n k a h hn ha hb
  obtain ⟨n,rfl⟩:∃ m,n=m+1:=⟨n-1,by simp at hn;omega⟩
  rw [z15_l4,lt_f (drop_nil h)]
  simp only [cF,z15_k3]
  simp only [List.length_nil] at ha
  rw [appL_some (by omega)]
  obtain ⟨z,q1,q2,q3,q4⟩:=bd2 x hx L hin x.Guard.Equals N 0 (a++x.Guard.Diffs) rfl (by omega) (by simp;omega) (fun b hb'=>by
   rcases List.mem_append.1 hb' with h | h
   ·exact hb b h
   ·exact hin.d b h)
  refine ⟨z,q1,q2,q3,fun b hb'=>q4 b (List.mem_append_left _ hb'),fun i f hi hfi=>?_⟩
  have:=drop_nil h
  have:=(List.getElem?_eq_some_iff.1 hfi).1
  omega
 | cons f r ih =>
  intro n k a h hn ha hb
  obtain ⟨n,rfl⟩:∃ m,n=m+1:=⟨n-1,by simp at hn;omega⟩
  obtain ⟨q1,q2,q3⟩:=drop_cons h
  simp only [List.length_cons] at hn ha
  have hw:w64 (x.First+(k:Int))=((first+k:Nat):Int):=by rw [hf,w64_id (by omega) (by omega)];omega
  rw [z15_l4,lt_t q1,w64_succ (by omega)]
  simp only [cT,idx_nat,q2,bS]
  rw [appL_some (by simp;omega)]
  obtain ⟨z,r1,r2,r3,r4,r5⟩:=ih n (k+1) (a++[⟨w64 (x.First+(k:Int)),-1,f.Sort'.Hi⟩,⟨-1,w64 (x.First+(k:Int)),w64 (0-f.Sort'.Lo)⟩]) q3 (by omega) (by simp;omega) (fun b hb'=>by
   rcases List.mem_append.1 hb' with h | h
   ·exact hb b h
   ·simp only [List.mem_cons,List.not_mem_nil,or_false] at h
    rcases h with rfl | rfl
    ·rw [hw];exact ⟨by show ((first+k:Nat):Int) < _;omega,by show (-1:Int) < _;omega⟩
    ·rw [hw];exact ⟨by show (-1:Int) < _;omega,by show ((first+k:Nat):Int) < _;omega⟩)
  refine ⟨z,r1,r2,r3,fun b hb'=>r4 b (List.mem_append_left _ hb'),fun i g hi hg=>?_⟩
  by_cases c:i=k
  ·subst c
   rw [q2] at hg;cases hg
   exact r4 _ (List.mem_append_right _ (by simp))
  ·exact r5 i g (by omega) hg
theorem bd_some (hN:4194304 < N) (x:T0) (hx:SizeD x) (L first:Nat) (hf:x.First=(first:Int)) (hL:first+x.Fields.length≤L) (hL2:L≤1000) (hin:InG L x.Guard):∃ z,z15 N x=some z∧Bd x L z:=by
 have:=hx.f
 obtain ⟨z,q1,q2,q3,_,q5⟩:=bd4 hN x hx L first hf hL hL2 hin x.Fields N 0 [] rfl (by omega) (by simp;omega) (fun b hb=>by simp at hb)
 exact ⟨z,q1,q2,q3,fun i f h=>q5 i f (by omega) h⟩
theorem f7_run (ks:List T5) (x:T0) (c a0 a1:Int) (i:Int) (hi:i=0∨i=1) (ag:Int→Int→Int→Int→Option (List T5 × Bool)) (y:Int) (hy:0≤y∧y < (ks.length:Int)) (own:Bool) :
  z6_k7 N ks x c a0 a1 i ag y own=some ([],false)∨∃ c' b0 b1,z6_k7 N ks x c a0 a1 i ag y own=ag c' b0 b1 (w64 (i+1))∧(own=true→c'=c)∧(i=0→b1=a1∧(own=true→b0=w64 (y-x.First))∧(own=false→b0=a0))∧(i=1→b0=a0∧(own=true→b1=w64 (y-x.First))∧(own=false→b1=a1)):=by
 unfold z6_k7
 cases own with
 | true =>
  simp only [cT]
  right
  rcases hi with rfl | rfl
  ·exact ⟨c,w64 (y-x.First),a1,rfl,fun _=>rfl,fun _=>⟨rfl,fun _=>rfl,fun h=>(by cases h)⟩,fun h=>(by omega)⟩
  ·exact ⟨c,a0,w64 (y-x.First),rfl,fun _=>rfl,fun h=>(by omega),fun _=>⟨rfl,fun _=>rfl,fun h=>(by cases h)⟩⟩
 | false =>
  simp only [cF]
  obtain ⟨v,hv⟩:=idx_lt (L:=ks) (v:=y) hy.1 hy.2
  rw [hv]
  simp only [bS,number_eq]
  cases v.Kind==0 with
  | true=>left;rfl
  | false =>
   right
   rcases hi with rfl | rfl
   ·exact ⟨_,a0,a1,rfl,fun h=>(by cases h),fun _=>⟨rfl,fun h=>(by cases h),fun _=>rfl⟩,fun h=>by omega⟩
   ·exact ⟨_,a0,a1,rfl,fun h=>(by cases h),fun h=>(by omega),fun _=>⟨rfl,fun h=>(by cases h),fun _=>rfl⟩⟩
def ownV (x:T0) (y:Int):Bool:=decide (y≥x.First) && decide (y < w64 (x.First+(x.Fields.length:Int)))
theorem f6_run (ks:List T5) (x:T0) (hfirst:0≤x.First) (vn:Int) (vb:List Int) (k:Int) (ag:Int→List Int→Int→Option (List T5 × Bool)) (b:T1) (hX:b.X < (ks.length:Int)) (hY:b.Y < (ks.length:Int)) (n:Nat) :
  z6_l6 N ks x vn vb k ag b (n+3) b.C (-1) (-1) 0=some ([],false)∨∃ c a0 a1,z6_l6 N ks x vn vb k ag b (n+3) b.C (-1) (-1) 0=(z17 N ⟨vn,vb⟩ ⟨a0,a1,c⟩).bind (fun q=>ag q.1.N q.1.B (w64 (k+1))) ∧
   (b.X=-1→0≤b.Y→ownV x b.Y=true→a0=-1∧a1=w64 (b.Y-x.First)∧c=b.C):=by
 have w1:w64 ((0:Int)+1)=1:=rfl
 have w2:w64 ((1:Int)+1)=2:=rfl
 have d0:decide ((0:Int) < 2)=true:=rfl
 have d1:decide ((1:Int) < 2)=true:=rfl
 have d2:decide ((2:Int) < 2)=false:=rfl
 have i0:idx ([b.X,b.Y]:List Int) 0=some b.X:=rfl
 have i1:idx ([b.X,b.Y]:List Int) 1=some b.Y:=rfl
 have fin:∀ c a0 a1:Int,z6_l6 N ks x vn vb k ag b (n+1) c a0 a1 2=(z17 N ⟨vn,vb⟩ ⟨a0,a1,c⟩).bind (fun q=>ag q.1.N q.1.B (w64 (k+1))):=fun c a0 a1=>by
  rw [z6_l6,d2];rfl
 have two:∀ (own:Bool) (y c a0 a1 i:Int) (g:Int→Int→Int→Int→Option (List T5 × Bool)),(bif decide (y≥x.First) then z6_k7 N ks x c a0 a1 i g y (decide (y < w64 (x.First+(x.Fields.length:Int)))) else z6_k7 N ks x c a0 a1 i g y false)=z6_k7 N ks x c a0 a1 i g y (ownV x y):=fun own y c a0 a1 i g=>by
  unfold ownV
  cases decide (y≥x.First)<;>rfl
 have sec:∀ c a0 a1:Int,z6_l6 N ks x vn vb k ag b (n+2) c a0 a1 1=some ([],false)∨∃ c' b1,z6_l6 N ks x vn vb k ag b (n+2) c a0 a1 1=(z17 N ⟨vn,vb⟩ ⟨a0,b1,c'⟩).bind (fun q=>ag q.1.N q.1.B (w64 (k+1)))∧(0≤b.Y→ownV x b.Y=true→b1=w64 (b.Y-x.First)∧c'=c):=fun c a0 a1=>by
  rw [z6_l6,d1]
  simp only [cT,i1,bS]
  by_cases hneg:b.Y < 0
  ·rw [dT hneg,cT,w2,fin]
   exact .inr ⟨c,a1,rfl,fun h=>by omega⟩
  ·rw [dF hneg,cF,two true]
   rcases f7_run (N:=N) ks x c a0 a1 1 (.inr rfl) (z6_l6 N ks x vn vb k ag b (n+1)) b.Y ⟨by omega,hY⟩ (ownV x b.Y) with h | ⟨c',b0,b1,e,e1,_,e3⟩
   ·left;exact h
   ·right
    obtain ⟨rfl,e4,e5⟩:=e3 rfl
    rw [e,w2,fin]
    exact ⟨c',b1,rfl,fun _ ho=>⟨e4 ho,e1 ho⟩⟩
 rw [z6_l6,d0]
 simp only [cT,i0,bS]
 by_cases hneg:b.X < 0
 ·rw [dT hneg,cT,w1]
  rcases sec b.C (-1) (-1) with h | ⟨c',b1,e,e1⟩
  ·left;exact h
  ·right
   exact ⟨c',-1,b1,e,fun _ hy ho=>⟨rfl,(e1 hy ho).1,(e1 hy ho).2⟩⟩
 ·rw [dF hneg,cF,two true]
  rcases f7_run (N:=N) ks x b.C (-1) (-1) 0 (.inl rfl) (z6_l6 N ks x vn vb k ag b (n+2)) b.X ⟨by omega,hX⟩ (ownV x b.X) with h | ⟨c',b0,b1,e,_,_,_⟩
  ·left;exact h
  ·rw [e,w1]
   rcases sec c' b0 b1 with h | ⟨c2,b2,e2,_⟩
   ·left;exact h
   ·right
    exact ⟨c2,b0,b2,e2,fun h=>by omega⟩
theorem f4_run (hN:33554432 < N) (ks:List T5) (x:T0) (first:Nat) (hf:x.First=(first:Int)) (hfl:first≤1000) (hfn:x.Fields.length≤4) (z0:List T1) (hz:Bd x ks.length z0) :
  ∀ (r:List T1) (f k:Nat) (z:T6) (low:List (Nat × Int)),z0.drop k=r→r.length < f→Zs x.Fields.length low z→(∀ p∈low,p.1 < x.Fields.length) →
  z6_l4 N ks x z0 f z.N z.B (k:Int)=some ([],false)∨∃ z' low',z6_l4 N ks x z0 f z.N z.B (k:Int)=z6_k3 N ks x z'.N z'.B∧Zs x.Fields.length low' z'∧(∀ p∈low',p.1 < x.Fields.length)∧(∀ p∈low,p∈low') ∧
   ∀ i c,i < x.Fields.length→(⟨-1,w64 (x.First+(i:Int)),c⟩:T1)∈r→(i,maxI c (-20001))∈low':=by
 intro r
 induction r with
 | nil =>
  intro f k z low h hn hZ hp
  obtain ⟨f,rfl⟩:∃ m,f=m+1:=⟨f-1,by simp at hn;omega⟩
  right
  refine ⟨z,low,?_,hZ,hp,fun _ h=>h,fun i c _ h=>by simp at h⟩
  rw [z6_l4,lt_f (drop_nil h)];rfl
 | cons b r ih =>
  intro f k z low h hn hZ hp
  obtain ⟨f,rfl⟩:∃ m,f=m+1:=⟨f-1,by simp at hn;omega⟩
  obtain ⟨q1,q2,q3⟩:=drop_cons h
  simp only [List.length_cons] at hn
  have hlen:=hz.len
  have hb:=hz.inn b (List.mem_of_getElem? q2)
  rw [z6_l4,lt_t q1]
  simp only [cT,idx_nat,q2,bS]
  have h6:=f6_run (N:=N) ks x (by omega) z.N z.B (k:Int) (z6_l4 N ks x z0 f) b hb.1 hb.2 (N-3)
  rw [show N-3+3=N by omega] at h6
  rcases h6 with h6 | ⟨c,a0,a1,e,e1⟩
  ·left;exact h6
  ·rw [e,w64_succ (by omega)]
   obtain ⟨z1,e2,h1,h2,h3⟩:=add_some (N:=N) (by omega) x.Fields.length (by omega) low z hZ ⟨a0,a1,c⟩
   rw [h1]
   simp only [bS]
   by_cases ho:b.X=-1∧∃ y:Nat,y < x.Fields.length∧b.Y=w64 (x.First+(y:Int))
   ·obtain ⟨hX,y,hy,hY⟩:=ho
    have hw:w64 (x.First+(y:Int))=((first+y:Nat):Int):=by rw [hf,w64_id (by omega) (by omega)];omega
    have hw2:w64 (x.First+(x.Fields.length:Int))=((first+x.Fields.length:Nat):Int):=by rw [hf,w64_id (by omega) (by omega)];omega
    have hown:ownV x b.Y=true:=by
     unfold ownV
     rw [hY,hw,hw2,hf,dT (show ((first+y:Nat):Int)≥(first:Int) by omega),dT (show ((first+y:Nat):Int) < ((first+x.Fields.length:Nat):Int) by omega)];rfl
    obtain ⟨r1,r2,r3⟩:=e1 hX (by rw [hY,hw];omega) hown
    have hsub:w64 (b.Y-x.First)=(y:Int):=by rw [hY,hw,hf,w64_id (by omega) (by omega)];omega
    have hZ1:=h3 y r1 (by rw [r2,hsub]) hy
    rcases ih f (k+1) z1 _ q3 (by omega) hZ1 (fun p hp'=>by
     rcases List.mem_cons.1 hp' with rfl | hp'
     ·exact hy
     ·exact hp p hp') with h' | ⟨z2,low2,e3,k1,k2,k3,k4⟩
    ·left;exact h'
    ·right
     refine ⟨z2,low2,e3,k1,k2,fun p hp'=>k3 p (List.mem_cons_of_mem _ hp'),fun i c' hi hm=>?_⟩
     rcases List.mem_cons.1 hm with hm | hm
     ·have e5:w64 (x.First+(i:Int))=b.Y:=by rw [← hm]
      have e6:c'=b.C:=by rw [← hm]
      have hwi:w64 (x.First+(i:Int))=((first+i:Nat):Int):=by rw [hf,w64_id (by omega) (by omega)];omega
      have:i=y:=by rw [hwi,hY,hw] at e5;omega
      subst this
      have:=k3 _ (List.mem_cons_self)
      rw [e6,← r3];exact this
     ·exact k4 i c' hi hm
   ·rcases ih f (k+1) z1 low q3 (by omega) h2 hp with h' | ⟨z2,low2,e3,k1,k2,k3,k4⟩
    ·left;exact h'
    ·right
     refine ⟨z2,low2,e3,k1,k2,k3,fun i c' hi hm=>?_⟩
     rcases List.mem_cons.1 hm with hm | hm
     ·exact absurd ⟨by rw [← hm],i,hi,by rw [← hm]⟩ ho
     ·exact k4 i c' hi hm
end Gp
end
section
namespace Gp
open Go Go.Kx Gx
variable {N:Nat}
def gposV (x:T0) (y:Int):Nat:=bif decide (y < 0) then 0 else bif ownV x y then (y-x.First).toNat+1 else 0
def knV (ks:List T5) (x:T0) (y:Int):Int:=bif decide (y < 0) then 0 else bif ownV x y then 0 else match idx ks y with
 | some v=>vnum v
 | none=>0
def missV (ks:List T5) (x:T0) (y:Int):Bool:=bif decide (y < 0) then false else bif ownV x y then false else match idx ks y with
 | some v=>v.Kind==0
 | none=>true
def cV (ks:List T5) (x:T0) (b:T1):Int:=b.C-knV ks x b.X+knV ks x b.Y
theorem Small.kn {ks:List T5} (h:Small ks) (x:T0) (y:Int):-1000≤knV ks x y∧knV ks x y≤1000:=by
 unfold knV
 cases decide (y < 0) with
 | true=>simp
 | false =>
  cases ownV x y with
  | true=>simp
  | false =>
   simp only [cF]
   split
   ·rename_i v hv
    obtain ⟨i,rfl,hi⟩:=idx_mem hv
    exact h i v hi
   ·omega
theorem own_iff {x:T0} {first:Nat} (hf:x.First=(first:Int)) (hfl:first≤1000) (hfn:x.Fields.length≤4) (y:Int):ownV x y=true↔(first:Int)≤y∧y < (first:Int)+(x.Fields.length:Int):=by
 have hw:w64 (x.First+(x.Fields.length:Int))=(first:Int)+(x.Fields.length:Int):=by rw [hf,w64_id (by omega) (by omega)]
 unfold ownV
 rw [hw,hf,Bool.and_eq_true,decide_eq_true_eq,decide_eq_true_eq]
theorem pos_lt {x:T0} {first:Nat} (hf:x.First=(first:Int)) (hfl:first≤1000) (hfn:x.Fields.length≤4) (y:Int):gposV x y < x.Fields.length+1:=by
 unfold gposV
 cases decide (y < 0) with
 | true=>exact Nat.succ_pos _
 | false =>
  simp only [cF]
  cases h:ownV x y with
  | false=>exact Nat.succ_pos _
  | true =>
   have:=(own_iff hf hfl hfn y).1 h
   rw [hf]
   show (y-(first:Int)).toNat+1 < _
   omega
theorem f7_is (ks:List T5) (hS:Small ks) (x:T0) (c a0 a1:Int) (hc:-30000≤c∧c≤30000) (i:Int) (ag:Int→Int→Int→Int→Option (List T5 × Bool)) (y:Int) (hy:0≤y∧y < (ks.length:Int)) :
  (i=0→z6_k7 N ks x c a0 a1 i ag y (ownV x y)=bif missV ks x y then some ([],false) else ag (c-knV ks x y) (bif ownV x y then w64 (y-x.First) else a0) a1 1) ∧
  (i=1→z6_k7 N ks x c a0 a1 i ag y (ownV x y)=bif missV ks x y then some ([],false) else ag (c+knV ks x y) a0 (bif ownV x y then w64 (y-x.First) else a1) 2):=by
 have hk:=hS.kn x y
 unfold z6_k7
 have hn:decide (y < 0)=false:=by simp;omega
 unfold missV
 rw [hn]
 unfold knV at hk ⊢
 rw [hn] at hk ⊢
 cases ho:ownV x y with
 | true =>
  refine ⟨fun e=>?_,fun e=>?_⟩
  ·subst e
   simp only [cT,cF]
   rw [Int.sub_zero];rfl
  ·subst e
   simp only [cT,cF]
   rw [Int.add_zero];rfl
 | false =>
  obtain ⟨v,hv⟩:=idx_lt (L:=ks) (v:=y) hy.1 hy.2
  rw [ho] at hk
  simp only [cF,hv] at hk
  refine ⟨fun e=>?_,fun e=>?_⟩
  ·subst e
   simp only [cF,hv,bS,number_eq]
   cases v.Kind==0 with
   | true=>rfl
   | false =>
    have:w64 (c-vnum v)=c-vnum v:=w64_id (by omega) (by omega)
    simp only [cF,this];rfl
  ·subst e
   simp only [cF,hv,bS,number_eq]
   cases v.Kind==0 with
   | true=>rfl
   | false =>
    have:w64 (c+vnum v)=c+vnum v:=w64_id (by omega) (by omega)
    simp only [cF,this];rfl
theorem f6_is (ks:List T5) (hS:Small ks) (x:T0) (first:Nat) (hf:x.First=(first:Int)) (hfl:first≤1000) (hfn:x.Fields.length≤4) (vn:Int) (vb:List Int) (k:Int) (ag:Int→List Int→Int→Option (List T5 × Bool)) (b:T1) (hX:b.X < (ks.length:Int)) (hY:b.Y < (ks.length:Int)) (hC:-20000≤b.C∧b.C≤20000) (n:Nat) :
  z6_l6 N ks x vn vb k ag b (n+3) b.C (-1) (-1) 0=bif missV ks x b.X || missV ks x b.Y then some ([],false) else (z17 N ⟨vn,vb⟩ ⟨(gposV x b.X:Int)-1,(gposV x b.Y:Int)-1,cV ks x b⟩).bind (fun q=>ag q.1.N q.1.B (w64 (k+1))):=by
 have w1:w64 ((0:Int)+1)=1:=rfl
 have w2:w64 ((1:Int)+1)=2:=rfl
 have d0:decide ((0:Int) < 2)=true:=rfl
 have d1:decide ((1:Int) < 2)=true:=rfl
 have d2:decide ((2:Int) < 2)=false:=rfl
 have i0:idx ([b.X,b.Y]:List Int) 0=some b.X:=rfl
 have i1:idx ([b.X,b.Y]:List Int) 1=some b.Y:=rfl
 have hpos:∀ y:Int,0≤y→(bif ownV x y then w64 (y-x.First) else -1)=(gposV x y:Int)-1:=fun y hy=>by
  unfold gposV
  rw [dF (show ¬ y < 0 by omega)]
  simp only [cF]
  cases h:ownV x y with
  | false=>rfl
  | true =>
   have h:=(own_iff hf hfl hfn y).1 h
   simp only [cT]
   rw [hf,w64_id (by omega) (by omega)];omega
 have fin:∀ c a0 a1:Int,z6_l6 N ks x vn vb k ag b (n+1) c a0 a1 2=(z17 N ⟨vn,vb⟩ ⟨a0,a1,c⟩).bind (fun q=>ag q.1.N q.1.B (w64 (k+1))):=fun c a0 a1=>by
  rw [z6_l6,d2];rfl
 have two:∀ (y c a0 a1 i:Int) (g:Int→Int→Int→Int→Option (List T5 × Bool)),(bif decide (y≥x.First) then z6_k7 N ks x c a0 a1 i g y (decide (y < w64 (x.First+(x.Fields.length:Int)))) else z6_k7 N ks x c a0 a1 i g y false)=z6_k7 N ks x c a0 a1 i g y (ownV x y):=fun y c a0 a1 i g=>by
  unfold ownV
  cases decide (y≥x.First)<;>rfl
 have sec:∀ c a0:Int,-30000≤c→c≤30000→z6_l6 N ks x vn vb k ag b (n+2) c a0 (-1) 1=bif missV ks x b.Y then some ([],false) else (z17 N ⟨vn,vb⟩ ⟨a0,(gposV x b.Y:Int)-1,c+knV ks x b.Y⟩).bind (fun q=>ag q.1.N q.1.B (w64 (k+1))):=fun c a0 h1 h2=>by
  rw [z6_l6,d1]
  simp only [cT,i1,bS]
  by_cases hneg:b.Y < 0
  ·have e1:missV ks x b.Y=false:=by unfold missV;rw [dT hneg];rfl
   have e2:knV ks x b.Y=0:=by unfold knV;rw [dT hneg];rfl
   have e3:gposV x b.Y=0:=by unfold gposV;rw [dT hneg];rfl
   rw [dT hneg,cT,w2,fin,e1,e2,e3,Int.add_zero];rfl
  ·rw [dF hneg,cF,two,(f7_is ks hS x c a0 (-1) ⟨h1,h2⟩ 1 _ b.Y ⟨by omega,hY⟩).2 rfl,hpos b.Y (by omega),fin]
 have hk:=hS.kn x b.X
 rw [z6_l6,d0]
 simp only [cT,i0,bS]
 unfold cV
 by_cases hneg:b.X < 0
 ·have e1:missV ks x b.X=false:=by unfold missV;rw [dT hneg];rfl
  have e2:knV ks x b.X=0:=by unfold knV;rw [dT hneg];rfl
  have e3:gposV x b.X=0:=by unfold gposV;rw [dT hneg];rfl
  rw [dT hneg,cT,w1,sec _ _ (by omega) (by omega),e1,e2,e3,Int.sub_zero];rfl
 ·rw [dF hneg,cF,two,(f7_is ks hS x b.C (-1) (-1) ⟨by omega,by omega⟩ 0 _ b.X ⟨by omega,hX⟩).1 rfl,hpos b.X (by omega),sec _ _ (by omega) (by omega)]
  cases missV ks x b.X<;>rfl
theorem f4_is (hN:33554432 < N) (ks:List T5) (hS:Small ks) (x:T0) (first:Nat) (hf:x.First=(first:Int)) (hfl:first≤1000) (hfn:x.Fields.length≤4) (z0:List T1) (hz:Bd x ks.length z0) (hC:∀ b∈z0,-20000≤b.C∧b.C≤20000) :
  ∀ (r:List T1) (f k:Nat) (z:T6) (A:Nat→Nat→Int),z0.drop k=r→r.length < f→Zx x.Fields.length A z →
  ((∃ b∈r,(missV ks x b.X || missV ks x b.Y)=true)∧z6_l4 N ks x z0 f z.N z.B (k:Int)=some ([],false)) ∨
  ((∀ b∈r,(missV ks x b.X || missV ks x b.Y)=false)∧∃ z' A',z6_l4 N ks x z0 f z.N z.B (k:Int)=z6_k3 N ks x z'.N z'.B∧Zx x.Fields.length A' z' ∧
   ∀ u,Keep (x.Fields.length+1) A' u↔Keep (x.Fields.length+1) A u∧∀ b∈r,u (gposV x b.X)-u (gposV x b.Y)≤maxI (cV ks x b) (-20001)):=by
 intro r
 induction r with
 | nil =>
  intro f k z A h hn hZ
  obtain ⟨f,rfl⟩:∃ m,f=m+1:=⟨f-1,by simp at hn;omega⟩
  right
  refine ⟨fun b hb=>by simp at hb,z,A,?_,hZ,fun u=>⟨fun h=>⟨h,fun b hb=>by simp at hb⟩,fun h=>h.1⟩⟩
  rw [z6_l4,lt_f (drop_nil h)];rfl
 | cons b r ih =>
  intro f k z A h hn hZ
  obtain ⟨f,rfl⟩:∃ m,f=m+1:=⟨f-1,by simp at hn;omega⟩
  obtain ⟨q1,q2,q3⟩:=drop_cons h
  simp only [List.length_cons] at hn
  have hlen:=hz.len
  have hbm:=List.mem_of_getElem? q2
  have hb:=hz.inn b hbm
  rw [z6_l4,lt_t q1]
  simp only [cT,idx_nat,q2,bS]
  have h6:=f6_is (N:=N) ks hS x first hf hfl hfn z.N z.B (k:Int) (z6_l4 N ks x z0 f) b hb.1 hb.2 (hC b hbm) (N-3)
  rw [show N-3+3=N by omega] at h6
  rw [h6]
  cases hm:(missV ks x b.X || missV ks x b.Y) with
  | true =>
   left
   exact ⟨⟨b,List.mem_cons_self,hm⟩,rfl⟩
  | false =>
   simp only [cF]
   have hp1:=pos_lt hf hfl hfn b.X
   have hp2:=pos_lt hf hfl hfn b.Y
   obtain ⟨z1,e1,hZ1⟩:=add_is (N:=N) (by omega) (by omega) hZ (gposV x b.X) (gposV x b.Y) hp1 hp2 (cV ks x b)
   have e1:z17 N ⟨z.N,z.B⟩ ⟨(gposV x b.X:Int)-1,(gposV x b.Y:Int)-1,cV ks x b⟩=some (z1,0):=e1
   rw [e1]
   simp only [bS]
   rw [w64_succ (by omega)]
   rcases ih f (k+1) z1 _ q3 (by omega) hZ1 with ⟨⟨c,hc,hcm⟩,e2⟩ | ⟨hall,z2,A2,e2,hZ2,hkeep⟩
   ·left
    exact ⟨⟨c,List.mem_cons_of_mem _ hc,hcm⟩,e2⟩
   ·right
    refine ⟨fun c hc=>?_,z2,A2,e2,hZ2,fun u=>?_⟩
    ·rcases List.mem_cons.1 hc with rfl | hc
     ·exact hm
     ·exact hall c hc
    ·rw [hkeep u,keep_upd hp1 hp2]
     constructor
     ·rintro ⟨⟨g1,g2⟩,g3⟩
      refine ⟨g1,fun c hc=>?_⟩
      rcases List.mem_cons.1 hc with rfl | hc
      ·exact g2
      ·exact g3 c hc
     ·rintro ⟨g1,g2⟩
      exact ⟨⟨g1,g2 b List.mem_cons_self⟩,fun c hc=>g2 c (List.mem_cons_of_mem _ hc)⟩
end Gp
end
section
namespace Gp
open Go Go.Kx Gx
variable {N:Nat}
structure TI (ok:Prop) (s0:List Bool) (l0 W:List T5) (nb:Nat→Int) (tx:Nat→Prop) (l:List T5) (s:List Bool):Prop where
 ll:l.length=l0.length
 ls:s.length=l0.length
 kn:∀ (y:Nat) (v0 v:T5),l0[y]? = some v0→l[y]? = some v→v.Kind=v0.Kind∧v.N=v0.N
 un:∀ y:Nat,s[y]? = some false→l[y]? = l0[y]?
 fx:∀ y:Nat,s0[y]? = some true→s[y]? = some true∧l[y]? = l0[y]?
 st:ok→∀ (y:Nat) (v w:T5),s[y]? = some true→l[y]? = some v→W[y]? = some w→v.S=w.S∧(tx y→(v.S.size:Int)=nb y)
 sz:∀ B:Nat,(∀ v∈l0,v.S.size≤B)→∀ v∈l,v.S.size≤B
structure EqOk (W:List T5) (nb:Nat→Int) (tx:Nat→Prop) (a b:Nat):Prop where
 s:∀ v w:T5,W[a]? = some v→W[b]? = some w→v.S=w.S
 n:nb a=nb b
 ta:tx a
 tb:tx b
theorem EqOk.symm {W nb tx a b} (h:EqOk W nb tx a b):EqOk W nb tx b a:=⟨fun v w h1 h2=>(h.s w v h2 h1).symm,h.n.symm,h.tb,h.ta⟩
theorem k7_is {ok:Prop} {s0:List Bool} {l0 W:List T5} {nb:Nat→Int} {tx:Nat→Prop} {l:List T5} {s:List Bool} (hW:W.length=l0.length) (h:TI ok s0 l0 W nb tx l s) (c:Bool) (i:Int) (ag:List T5→List Bool→Bool→Int→Option (List T5)) (a b:Nat) (ha:a < l0.length) (hb:b < l0.length) (he:ok→EqOk W nb tx a b) :
  ∃ l' s' c',z21_k7 l s c i ag (a:Int) (b:Int)=ag l' s' c' (w64 (i+1))∧TI ok s0 l0 W nb tx l' s'∧((l'=l∧s'=s∧c'=c∧(s[b]? = some true→s[a]? = some true))∨(c'=true∧fc s' < fc s)):=by
 obtain ⟨sb,h1⟩:∃ q,s[b]? = some q:=⟨s[b]'(by rw [h.ls];exact hb),by simp⟩
 obtain ⟨sa,h2⟩:∃ q,s[a]? = some q:=⟨s[a]'(by rw [h.ls];exact ha),by simp⟩
 obtain ⟨lb,h3⟩:∃ q,l[b]? = some q:=⟨l[b]'(by rw [h.ll];exact hb),by simp⟩
 obtain ⟨la,h4⟩:∃ q,l[a]? = some q:=⟨l[a]'(by rw [h.ll];exact ha),by simp⟩
 obtain ⟨wb,h5⟩:∃ q,W[b]? = some q:=⟨W[b]'(by rw [hW];exact hb),by simp⟩
 obtain ⟨wa,h6⟩:∃ q,W[a]? = some q:=⟨W[a]'(by rw [hW];exact ha),by simp⟩
 unfold z21_k7
 rw [idx_nat,idx_nat,idx_nat,idx_nat,h1,h2,h3,h4]
 simp only [bS]
 cases sb with
 | false=>exact ⟨l,s,c,rfl,h,.inl ⟨rfl,rfl,rfl,fun q=>by cases q⟩⟩
 | true =>
  cases sa with
  | true=>exact ⟨l,s,c,rfl,h,.inl ⟨rfl,rfl,rfl,fun _=>rfl⟩⟩
  | false =>
   have hf:=fc_set h2
   refine ⟨_,_,true,rfl,?_,.inr ⟨rfl,by rw [setL'_nat];omega⟩⟩
   rw [setL'_nat,setL'_nat]
   have hal:a < l.length:=by rw [h.ll];exact ha
   have has:a < s.length:=by rw [h.ls];exact ha
   refine ⟨by rw [List.length_set];exact h.ll,by rw [List.length_set];exact h.ls,fun y v0 v q0 q=>?_,fun y q=>?_,fun y q=>?_,fun hok y v w q1 q2 q3=>?_,fun B hB u hu=>?_⟩
   ·rw [List.getElem?_set] at q
    split at q
    ·rename_i e
     subst e
     cases q
     exact h.kn a v0 la q0 h4
    ·exact h.kn y v0 v q0 q
   ·rw [List.getElem?_set] at q
    split at q
    ·cases q
    ·rename_i e
     rw [List.getElem?_set,if_neg e]
     exact h.un y q
   ·obtain ⟨g1,g2⟩:=h.fx y q
    have hne:a≠y:=fun e=>by subst e;rw [h2] at g1;cases g1
    rw [List.getElem?_set,List.getElem?_set,if_neg hne,if_neg hne]
    exact ⟨g1,g2⟩
   ·rw [List.getElem?_set] at q1 q2
    split at q2
    ·rename_i e
     subst e
     cases q2
     rw [h6] at q3
     cases q3
     obtain ⟨g1,g2⟩:=h.st hok b lb wb h1 h3 h5
     refine ⟨?_,fun _=>?_⟩
     ·show lb.S=wa.S
      rw [g1];exact ((he hok).s wa wb h6 h5).symm
     ·show (lb.S.size:Int)=nb a
      rw [g2 (he hok).tb,(he hok).n]
    ·rename_i e
     rw [if_neg e] at q1
     exact h.st hok y v w q1 q2 q3
   ·rcases List.mem_or_eq_of_mem_set hu with q | q
    ·exact h.sz B hB u q
    ·rw [q];exact h.sz B hB lb (List.mem_of_getElem? h3)
theorem l6t_is {ok:Prop} {s0:List Bool} {l0 W:List T5} {nb:Nat→Int} {tx:Nat→Prop} {l:List T5} {s:List Bool} (hW:W.length=l0.length) (h:TI ok s0 l0 W nb tx l s) (c:Bool) (k:Int) (ag:List T5→List Bool→Bool→Int→Option (List T5)) (e:Int × Int) (a b:Nat) (ea:e.1=(a:Int)) (eb:e.2=(b:Int)) (ha:a < l0.length) (hb:b < l0.length) (he:ok→EqOk W nb tx a b) (n:Nat) :
  ∃ l' s' c',z21_l6 k ag e (n+3) l s c 0=ag l' s' c' (w64 (k+1))∧TI ok s0 l0 W nb tx l' s'∧((l'=l∧s'=s∧c'=c∧s[a]? = s[b]?)∨(c'=true∧fc s' < fc s)):=by
 have w1:w64 ((0:Int)+1)=1:=rfl
 have w2:w64 ((1:Int)+1)=2:=rfl
 have d0:decide ((0:Int) < 2)=true:=rfl
 have d1:decide ((1:Int) < 2)=true:=rfl
 have d2:decide ((2:Int) < 2)=false:=rfl
 have i0:idx ([e.1,e.2]:List Int) 0=some e.1:=rfl
 have i1:idx ([e.1,e.2]:List Int) 1=some e.2:=rfl
 have a0:(w64 ((1:Int)-0)==0)=false:=rfl
 have a1:(w64 ((1:Int)-0)==1)=true:=rfl
 have a2:(w64 ((1:Int)-1)==0)=true:=rfl
 rw [z21_l6,d0]
 simp only [cT,i0,bS,a0,cF,a1]
 rw [ea,eb]
 obtain ⟨l1,s1,c1,e1,t1,r1⟩:=k7_is hW h c 0 (z21_l6 k ag e (n+2)) a b ha hb he
 rw [e1,w1,z21_l6,d1]
 simp only [cT,i1,bS,a2]
 rw [ea,eb]
 obtain ⟨l2,s2,c2,e2,t2,r2⟩:=k7_is hW t1 c1 1 (z21_l6 k ag e (n+1)) b a hb ha (fun hok=>(he hok).symm)
 rw [e2,w2,z21_l6,d2]
 simp only [cF,z21_k5]
 refine ⟨l2,s2,c2,rfl,t2,?_⟩
 rcases r1 with ⟨rfl,rfl,rfl,g1⟩ | ⟨rfl,g1⟩
 ·rcases r2 with ⟨rfl,rfl,rfl,g2⟩ | ⟨rfl,g2⟩
  ·left
   refine ⟨rfl,rfl,rfl,?_⟩
   obtain ⟨sb,h1⟩:∃ q,s2[b]? = some q:=⟨s2[b]'(by rw [t2.ls];exact hb),by simp⟩
   obtain ⟨sa,h2⟩:∃ q,s2[a]? = some q:=⟨s2[a]'(by rw [t2.ls];exact ha),by simp⟩
   rw [h1,h2] at g1 g2
   rw [h1,h2]
   cases sa with
   | true=>rw [g2 rfl]
   | false =>
    cases sb with
    | true=>exact g1 rfl
    | false=>rfl
  ·right;exact ⟨rfl,g2⟩
 ·rcases r2 with ⟨rfl,rfl,rfl,g2⟩ | ⟨rfl,g2⟩
  ·right;exact ⟨rfl,g1⟩
  ·right;exact ⟨rfl,by omega⟩
theorem l4t_is (hN:4194304 < N) {ok:Prop} {s0:List Bool} {l0 W:List T5} {nb:Nat→Int} {tx:Nat→Prop} (hW:W.length=l0.length) (x:T0) (hin:InG l0.length x.Guard) (hE:∀ e∈x.Guard.Equals,∀ a b:Nat,e.1=(a:Int)→e.2=(b:Int)→ok→EqOk W nb tx a b) (ag:List T5→List Bool→Bool→Option (List T5)) :
  ∀ (r:List (Int × Int)) (n k:Nat) (l:List T5) (s:List Bool) (c:Bool),x.Guard.Equals.drop k=r→r.length < n→TI ok s0 l0 W nb tx l s →
  ∃ l' s' c',z21_l4 N x ag n l s c (k:Int)=ag l' s' c'∧TI ok s0 l0 W nb tx l' s'∧((l'=l∧s'=s∧c'=c∧∀ e∈r,∀ a b:Nat,e.1=(a:Int)→e.2=(b:Int)→s[a]? = s[b]?)∨(c'=true∧fc s' < fc s)):=by
 intro r
 induction r with
 | nil =>
  intro n k l s c h hn hT
  obtain ⟨n,rfl⟩:∃ m,n=m+1:=⟨n-1,by simp at hn;omega⟩
  rw [z21_l4,lt_f (drop_nil h)]
  exact ⟨l,s,c,rfl,hT,.inl ⟨rfl,rfl,rfl,fun e he=>by simp at he⟩⟩
 | cons e r ih =>
  intro n k l s c h hn hT
  obtain ⟨n,rfl⟩:∃ m,n=m+1:=⟨n-1,by simp at hn;omega⟩
  obtain ⟨q1,q2,q3⟩:=drop_cons h
  simp only [List.length_cons] at hn
  have hem:=List.mem_of_getElem? q2
  have hei:=hin.e e hem
  have hel:=hin.el
  obtain ⟨a,ea⟩:=Int.eq_ofNat_of_zero_le hei.1.1
  obtain ⟨b,eb⟩:=Int.eq_ofNat_of_zero_le hei.2.1
  rw [z21_l4,lt_t q1]
  simp only [cT,idx_nat,q2,bS]
  obtain ⟨l1,s1,c1,e1,t1,r1⟩:=l6t_is hW hT c (k:Int) (z21_l4 N x ag n) e a b ea eb (by omega) (by omega) (hE e hem a b ea eb) (N-3)
  rw [show N-3+3=N by omega] at e1
  rw [e1,w64_succ (by omega)]
  obtain ⟨l2,s2,c2,e2,t2,r2⟩:=ih n (k+1) l1 s1 c1 q3 (by omega) t1
  refine ⟨l2,s2,c2,e2,t2,?_⟩
  rcases r1 with ⟨rfl,rfl,rfl,g1⟩ | ⟨rfl,g1⟩
  ·rcases r2 with ⟨rfl,rfl,rfl,g2⟩ | ⟨rfl,g2⟩
   ·left
    refine ⟨rfl,rfl,rfl,fun e' he' a' b' ea' eb'=>?_⟩
    rcases List.mem_cons.1 he' with rfl | he'
    ·have x1:a'=a:=by omega
     have x2:b'=b:=by omega
     rw [x1,x2];exact g1
    ·exact g2 e' he' a' b' ea' eb'
   ·right;exact ⟨rfl,g2⟩
  ·rcases r2 with ⟨rfl,rfl,rfl,g2⟩ | ⟨rfl,g2⟩
   ·right;exact ⟨rfl,g1⟩
   ·right;exact ⟨rfl,by omega⟩
theorem l2t_is (hN:4194304 < N) {ok:Prop} {s0:List Bool} {l0 W:List T5} {nb:Nat→Int} {tx:Nat→Prop} (hW:W.length=l0.length) (x:T0) (hin:InG l0.length x.Guard) (hE:∀ e∈x.Guard.Equals,∀ a b:Nat,e.1=(a:Int)→e.2=(b:Int)→ok→EqOk W nb tx a b) :
  ∀ (m f:Nat) (l:List T5) (s:List Bool),fc s≤m→m+2≤f→TI ok s0 l0 W nb tx l s→∃ l' s',z21_l2 N x f l s true=some l'∧TI ok s0 l0 W nb tx l' s'∧∀ e∈x.Guard.Equals,∀ a b:Nat,e.1=(a:Int)→e.2=(b:Int)→s'[a]? = s'[b]? := by
 intro m
 induction m with
 | zero =>
  intro f l s hm hf hT
  obtain ⟨f,rfl⟩:∃ q,f=q+2:=⟨f-2,by omega⟩
  rw [z21_l2]
  simp only [cT]
  obtain ⟨l1,s1,c1,e1,t1,r1⟩:=l4t_is hN hW x hin hE (z21_l2 N x (f+1)) x.Guard.Equals N 0 l s false rfl (by have:=hin.el;omega) hT
  have e1:z21_l4 N x (z21_l2 N x (f+1)) N l s false (0:Int)=_:=e1
  rw [e1]
  rcases r1 with ⟨rfl,rfl,rfl,g⟩ | ⟨rfl,g⟩
  ·exact ⟨l1,s1,rfl,t1,g⟩
  ·omega
 | succ m ih =>
  intro f l s hm hf hT
  obtain ⟨f,rfl⟩:∃ q,f=q+2:=⟨f-2,by omega⟩
  rw [z21_l2]
  simp only [cT]
  obtain ⟨l1,s1,c1,e1,t1,r1⟩:=l4t_is hN hW x hin hE (z21_l2 N x (f+1)) x.Guard.Equals N 0 l s false rfl (by have:=hin.el;omega) hT
  have e1:z21_l4 N x (z21_l2 N x (f+1)) N l s false (0:Int)=_:=e1
  rw [e1]
  rcases r1 with ⟨rfl,rfl,rfl,g⟩ | ⟨rfl,g⟩
  ·exact ⟨l1,s1,rfl,t1,g⟩
  ·exact ih (f+1) l1 s1 (by omega) (by omega) t1
end Gp
end
section
namespace Gp
open Go Go.Kx Gx
variable {N:Nat}
theorem texts_is (hN:4194304 < N) {ok:Prop} {l0 W:List T5} {nb:Nat→Int} {tx:Nat→Prop} (hW:W.length=l0.length) (x:T0) (first:Nat) (hf:x.First=(first:Int)) (hfl:first≤1000) (hfn:x.Fields.length≤4) (hl:l0.length≤1000) (hin:InG l0.length x.Guard)
  (hE:∀ e∈x.Guard.Equals,∀ a b:Nat,e.1=(a:Int)→e.2=(b:Int)→ok→EqOk W nb tx a b)
  (hst:ok→∀ (y:Nat) (v w:T5),ownV x (y:Int)=false→(v.Kind != 0)=true→l0[y]? = some v→W[y]? = some w→v.S=w.S∧(tx y→(v.S.size:Int)=nb y)) :
  ∃ T s s0,z21 N x l0=some T∧TI ok s0 l0 W nb tx T s∧(∀ e∈x.Guard.Equals,∀ a b:Nat,e.1=(a:Int)→e.2=(b:Int)→s[a]? = s[b]?) ∧
   ∀ (y:Nat) (v:T5),l0[y]? = some v→s0[y]? = some (!(ownV x (y:Int)) && (v.Kind != 0)):=by
 have hown:=fun y:Int=>own_iff hf hfl hfn y
 have hw:w64 ((first:Int)+(x.Fields.length:Int))=(first:Int)+(x.Fields.length:Int):=w64_id (by omega) (by omega)
 unfold z21
 rw [mkLB_ok _ (by omega)]
 simp only [bS]
 have outer:=loopP (γ:=Option (List T5)) l0.length (z21_l9 N x l0) (fun s=>z21_k8 N x l0 s) (fun i s=>s.length=l0.length∧∀ (y:Nat) (v:T5),y < i→l0[y]? = some v→s[y]? = some (!(ownV x (y:Int)) && (v.Kind != 0))) (by
  intro f s i hi ⟨hs,hp⟩
  obtain ⟨v,hv⟩:∃ v,l0[i]? = some v:=⟨l0[i],by simp [hi]⟩
  obtain ⟨b,hb⟩:∃ b,s[i]? = some b:=⟨s[i]'(by omega),by simp⟩
  have fin:∀ q:Bool,q=(!(ownV x (i:Int)) && (v.Kind != 0))→(s.set i q).length=l0.length∧∀ (y:Nat) (v:T5),y < i+1→l0[y]? = some v→(s.set i q)[y]? = some (!(ownV x (y:Int)) && (v.Kind != 0)):=fun q hq=>by
   refine ⟨by rw [List.length_set];exact hs,fun y u hy hu=>?_⟩
   have his:i < s.length:=by omega
   by_cases e:i=y
   ·subst e
    rw [hv] at hu;cases hu
    rw [List.getElem?_set_self his,hq]
   ·rw [List.getElem?_set_ne e]
    exact hp y u (by omega) hu
  rw [z21_l9,lt_t hi,w64_succ (by omega)]
  simp only [cT,idx_nat,hv,hb,bS,setL'_nat,hf,hw]
  by_cases c1:(i:Int) < (first:Int)
  ·rw [dT c1]
   refine ⟨_,fin _ ?_,rfl⟩
   have:ownV x (i:Int)=false:=by
    cases h:ownV x (i:Int) with
    | false=>rfl
    | true=>have:=(hown _).1 h;omega
   rw [this];rfl
  ·rw [dF c1]
   simp only [cF]
   by_cases c2:(i:Int)≥(first:Int)+(x.Fields.length:Int)
   ·rw [dT c2]
    refine ⟨_,fin _ ?_,rfl⟩
    have:ownV x (i:Int)=false:=by
     cases h:ownV x (i:Int) with
     | false=>rfl
     | true=>have:=(hown _).1 h;omega
    rw [this];rfl
   ·rw [dF c2]
    refine ⟨_,fin _ ?_,rfl⟩
    have:ownV x (i:Int)=true:=(hown _).2 ⟨by omega,by omega⟩
    rw [this];rfl) (by
  intro f s
  rw [z21_l9,lt_f (Nat.le_refl _)];rfl)
 obtain ⟨s0,⟨hs,hp⟩,e⟩:=outer l0.length N 0 (List.replicate l0.length false) (by omega) (by omega) ⟨by simp,fun y v h=>by omega⟩
 have e:z21_l9 N x l0 N (List.replicate l0.length false) (0:Int)=z21_k8 N x l0 s0:=e
 rw [e]
 unfold z21_k8
 have hp':∀ (y:Nat) (v:T5),l0[y]? = some v→s0[y]? = some (!(ownV x (y:Int)) && (v.Kind != 0)):=fun y v hv=>hp y v (List.getElem?_eq_some_iff.1 hv).1 hv
 have hT:TI ok s0 l0 W nb tx l0 s0:=⟨rfl,hs,fun y v0 v h1 h2=>by rw [h1] at h2;cases h2;exact ⟨rfl,rfl⟩,fun y _=>rfl,fun y h=>⟨h,rfl⟩,fun hok y v w h1 h2 h3=>by
  have:=hp' y v h2
  rw [h1] at this
  have:=(Option.some.inj this).symm
  rw [Bool.and_eq_true,Bool.not_eq_true'] at this
  exact hst hok y v w this.1 this.2 h2 h3,fun B hB=>hB⟩
 obtain ⟨T,s,e2,t2,g⟩:=l2t_is hN hW x hin hE (fc s0) N l0 s0 (Nat.le_refl _) (by have:=fc_le s0;omega) hT
 exact ⟨T,s,s0,e2,t2,g,hp'⟩
end Gp
end
section
namespace Gp
open Go Go.Kx Gx
variable {N:Nat}
theorem bounds2_is (x:T0) (hx:SizeD x):∀ (r:List (Int × Int)) (n k:Nat) (a:List T1),x.Guard.Equals.drop k=r→r.length < n→a.length+2 * r.length≤33554432→z15_l2 x n a (k:Int)=some (a++eqB r):=by
 intro r
 induction r with
 | nil =>
  intro n k a h hn ha
  obtain ⟨n,rfl⟩:∃ m,n=m+1:=⟨n-1,by simp at hn;omega⟩
  rw [z15_l2,lt_f (drop_nil h)]
  simp [z15_k1,eqB]
 | cons e r ih =>
  intro n k a h hn ha
  obtain ⟨n,rfl⟩:∃ m,n=m+1:=⟨n-1,by simp at hn;omega⟩
  obtain ⟨h1,h2,h3⟩:=drop_cons h
  have:=hx.e
  simp only [List.length_cons] at hn ha
  rw [z15_l2,lt_t h1,w64_succ (by omega)]
  simp only [cT,idx_nat,h2,bS]
  rw [appL_some (by simp;omega)]
  simp only [bS]
  rw [ih n (k+1) _ h3 (by omega) (by simp;omega),aA]
  rfl
theorem bounds_is (hN:4194304 < N) (x:T0) (hx:SizeD x) (first:Nat) (hf:x.First=(first:Int)) (hfl:first≤1000) (hs:∀ f∈x.Fields,-1000≤f.Sort'.Lo∧f.Sort'.Lo≤1000) :
  z15 N x=some (fldB first 0 x.Fields++x.Guard.Diffs++eqB x.Guard.Equals):=by
 have h1:=hx.f
 have h2:=hx.d
 have h3:=hx.e
 have key:∀ (r:List T2) (n k:Nat) (a:List T1),x.Fields.drop k=r→r.length < n→a.length+2 * r.length≤8388608→z15_l4 N x n a (k:Int)=some (a++fldB first k r++x.Guard.Diffs++eqB x.Guard.Equals):=by
  intro r
  induction r with
  | nil =>
   intro n k a h hn ha
   obtain ⟨n,rfl⟩:∃ m,n=m+1:=⟨n-1,by simp at hn;omega⟩
   rw [z15_l4,lt_f (drop_nil h)]
   simp only [cF,z15_k3]
   simp only [List.length_nil] at ha
   rw [appL_some (by omega)]
   simp only [bS]
   have:=bounds2_is x hx x.Guard.Equals N 0 (a++x.Guard.Diffs) rfl (by omega) (by simp;omega)
   rw [show ((0:Nat):Int)=0 from rfl] at this
   rw [this]
   simp [fldB]
  | cons f r ih =>
   intro n k a h hn ha
   obtain ⟨n,rfl⟩:∃ m,n=m+1:=⟨n-1,by simp at hn;omega⟩
   obtain ⟨q1,q2,q3⟩:=drop_cons h
   simp only [List.length_cons] at hn ha
   have hfs:=hs f (List.mem_of_getElem? q2)
   have hw:w64 (x.First+(k:Int))=((first+k:Nat):Int):=by rw [hf,w64_id (by omega) (by omega)];omega
   have hw2:w64 (0-f.Sort'.Lo)=-f.Sort'.Lo:=by rw [w64_id (by omega) (by omega)];omega
   rw [z15_l4,lt_t q1,w64_succ (by omega)]
   simp only [cT,idx_nat,q2,bS]
   rw [appL_some (by simp;omega),hw,hw2]
   simp only [bS]
   rw [ih n (k+1) _ q3 (by omega) (by simp;omega)]
   simp [fldB]
 have:=key x.Fields N 0 [] rfl (by omega) (by simp;omega)
 rw [show ((0:Nat):Int)=0 from rfl] at this
 unfold z15
 rw [this]
 simp
theorem bdx_some (hN:4194304 < N) (x:T0) (hx:SizeD x) (L first:Nat) (hf:x.First=(first:Int)) (hL:first+x.Fields.length≤L) (hL2:L≤1000) (hin:InG L x.Guard) (hs:∀ f∈x.Fields,-1000≤f.Sort'.Lo∧f.Sort'.Lo≤1000∧-1000≤f.Sort'.Hi∧f.Sort'.Hi≤1000)
  (hd:∀ b∈x.Guard.Diffs,-20000≤b.C∧b.C≤20000):∃ z,z15 N x=some z∧BdX x first L z:=by
 refine ⟨_,bounds_is hN x hx first hf (by omega) (fun f h=>⟨(hs f h).1,(hs f h).2.1⟩),?_⟩
 have h1:=hx.f
 have hdl:=hin.dl
 have hel:=hin.el
 have inv:∀ b∈fldB first 0 x.Fields++x.Guard.Diffs++eqB x.Guard.Equals,(∃ (k:Nat) (f:T2),x.Fields[k]? = some f∧(b=⟨((first+k:Nat):Int),-1,f.Sort'.Hi⟩∨b=⟨-1,((first+k:Nat):Int),-f.Sort'.Lo⟩))∨b∈x.Guard.Diffs∨∃ e∈x.Guard.Equals,b=⟨e.1,e.2,0⟩∨b=⟨e.2,e.1,0⟩:=fun b hb=>by
  rcases List.mem_append.1 hb with hb | hb
  ·rcases List.mem_append.1 hb with hb | hb
   ·obtain ⟨k,f,q1,q2⟩:=fldB_inv first x.Fields 0 b hb
    rw [Nat.zero_add] at q2
    exact .inl ⟨k,f,q1,q2⟩
   ·exact .inr (.inl hb)
  ·exact .inr (.inr (eqB_inv hb))
 have fld:∀ (k:Nat) (f:T2),x.Fields[k]? = some f→(⟨((first+k:Nat):Int),-1,f.Sort'.Hi⟩:T1)∈fldB first 0 x.Fields++x.Guard.Diffs++eqB x.Guard.Equals∧(⟨-1,((first+k:Nat):Int),-f.Sort'.Lo⟩:T1)∈fldB first 0 x.Fields++x.Guard.Diffs++eqB x.Guard.Equals:=fun k f hk=>by
  obtain ⟨q1,q2⟩:=fldB_mem first x.Fields 0 k f hk
  rw [Nat.zero_add] at q1 q2
  exact ⟨List.mem_append_left _ (List.mem_append_left _ q1),List.mem_append_left _ (List.mem_append_left _ q2)⟩
 refine ⟨⟨?_,fun b hb=>?_,fun i f hi=>?_⟩,fun b hb=>?_,fld,fun b hb=>List.mem_append_left _ (List.mem_append_right _ hb),fun e he=>?_,inv⟩
 ·simp only [lA,fldB_len,eqB_len];omega
 ·rcases inv b hb with ⟨k,f,q1,q2⟩ | q | ⟨e,he,q⟩
  ·have hk:=(List.getElem?_eq_some_iff.1 q1).1
   rcases q2 with q2 | q2
   ·rw [q2]
    exact ⟨by show ((first+k:Nat):Int) < _;omega,by show (-1:Int) < _;omega⟩
   ·rw [q2]
    exact ⟨by show (-1:Int) < _;omega,by show ((first+k:Nat):Int) < _;omega⟩
  ·exact hin.d b q
  ·have:=hin.e e he
   rcases q with q | q
   ·rw [q];exact ⟨this.1.2,this.2.2⟩
   ·rw [q];exact ⟨this.2.2,this.1.2⟩
 ·have hk:=(List.getElem?_eq_some_iff.1 hi).1
  have hfs:=hs f (List.mem_of_getElem? hi)
  have hw:w64 (x.First+(i:Int))=((first+i:Nat):Int):=by rw [hf,w64_id (by omega) (by omega)];omega
  have hw2:w64 (0-f.Sort'.Lo)=-f.Sort'.Lo:=by rw [w64_id (by omega) (by omega)];omega
  rw [hw,hw2]
  exact (fld i f hi).2
 ·rcases inv b hb with ⟨k,f,q1,q2⟩ | q | ⟨e,he,q⟩
  ·have hfs:=hs f (List.mem_of_getElem? q1)
   rcases q2 with q2 | q2
   ·rw [q2];show -20000≤f.Sort'.Hi∧f.Sort'.Hi≤20000;omega
   ·rw [q2];show -20000≤-f.Sort'.Lo∧-f.Sort'.Lo≤20000;omega
  ·exact hd b q
  ·rcases q with q | q
   ·rw [q];show -20000≤(0:Int)∧(0:Int)≤20000;omega
   ·rw [q];show -20000≤(0:Int)∧(0:Int)≤20000;omega
 ·obtain ⟨q1,q2⟩:=eqB_mem he
  exact ⟨List.mem_append_right _ q1,List.mem_append_right _ q2⟩
end Gp
end
section
namespace Gp
open Go Go.Kx Gx
variable {N:Nat}
theorem gfits_some (s:T4) (v:T5) (hv:v.S.size < N):∃ b,z50 N s v=some b:=by
 unfold z50
 rw [number_eq]
 simp only [bS]
 cases v.Kind != s.Kind with
 | true=>exact ⟨_,rfl⟩
 | false =>
  simp only [cF]
  cases decide (vnum v < s.Lo) with
  | true=>exact ⟨_,rfl⟩
  | false =>
   simp only [cF]
   cases decide (vnum v > s.Hi) with
   | true=>exact ⟨_,rfl⟩
   | false =>
    simp only [cF]
    cases v.Kind==1 with
    | true=>exact ⟨_,rfl⟩
    | false =>
     simp only [cF]
     cases v.N==0 with
     | false=>exact ⟨_,rfl⟩
     | true =>
      obtain ⟨z,h1,_⟩:=runes_loop (N:=N) v.S (bs v.S) N 0 rfl (by rw [size_bs] at hv;omega)
      unfold z106_10 z165_9 z195_8
      rw [h1]
      exact ⟨_,rfl⟩
theorem fit_some (hN:900000000 < N) (fs:List T2) (vs:List T5) (hl:fs.length≤4194304) (hs:∀ v∈vs,v.S.size≤800000000):∃ b,z23 N fs vs=some b:=by
 unfold z23
 rw [len_ne]
 by_cases c3:fs.length=vs.length
 ·rw [dT c3]
  simp only [Bool.not_true,cF]
  have key:∀ (r:List T2) (n k:Nat),fs.drop k=r→r.length < n→∃ b,z23_l2 N fs vs n (k:Int)=some b:=by
   intro r
   induction r with
   | nil =>
    intro n k h hn
    obtain ⟨n,rfl⟩:∃ m,n=m+1:=⟨n-1,by simp at hn;omega⟩
    rw [z23_l2,lt_f (drop_nil h)];exact ⟨_,rfl⟩
   | cons f r ih =>
    intro n k h hn
    obtain ⟨n,rfl⟩:∃ m,n=m+1:=⟨n-1,by simp at hn;omega⟩
    obtain ⟨q1,q2,q3⟩:=drop_cons h
    simp only [List.length_cons] at hn
    obtain ⟨v,hv⟩:∃ v,vs[k]? = some v:=⟨vs[k]'(by omega),by simp⟩
    obtain ⟨b,hb⟩:=gfits_some (N:=N) f.Sort' v (by have:=hs v (List.mem_of_getElem? hv);omega)
    rw [z23_l2,lt_t q1,w64_succ (by omega)]
    simp only [cT,idx_nat,q2,hv,bS,hb]
    cases b with
    | false=>exact ⟨_,rfl⟩
    | true=>exact ih n (k+1) q3 (by omega)
  exact key fs N 0 rfl (by omega)
 ·rw [dF c3];exact ⟨_,rfl⟩
theorem k1_some (hN:900000000 < N) (ks:List T5) (x:T0) (first:Nat) (hf:x.First=(first:Int)) (hfn:x.Fields.length≤4) (hle:first+x.Fields.length≤ks.length) (hk:ks.length≤1000) (hin:InG ks.length x.Guard) (hks:∀ v∈ks,v.S.size≤800000000)
  (v:List T5) (hv:v.length=x.Fields.length) (hvs:∀ u∈v,u.S.size≤800000000):∃ o,z6_k1 N ks x v=some o∧o.1.length≤4:=by
 unfold z6_k1
 rw [behind_eq x v ks first hf (by omega) (by omega)]
 simp only [bS]
 have hbl:=behind_len first v ks (by omega)
 obtain ⟨T,t1,t2,t3⟩:=texts_some (N:=N) (by omega) x (behindV first v ks) (by omega) (by rw [hbl];exact hin) (fun u hu=>by
  unfold behindV at hu
  rcases List.mem_append.1 hu with h | h
  ·rcases List.mem_append.1 h with h | h
   ·exact hks u (List.mem_of_mem_take h)
   ·exact hvs u h
  ·exact hks u (List.mem_of_mem_drop h))
 rw [t1]
 simp only [bS]
 have hw:w64 (x.First+(x.Fields.length:Int))=((first+x.Fields.length:Nat):Int):=by rw [hf,w64_id (by omega) (by omega)];omega
 have hb:bnd (some x.First) (some (w64 (x.First+(x.Fields.length:Int)))) T.length=some (first,first+x.Fields.length):=by
  unfold bnd
  rw [hw,hf]
  have h1:decide ((0:Int)≤(first:Int))=true:=by simp
  have h2:decide ((first:Int)≤((first+x.Fields.length:Nat):Int))=true:=by simp;omega
  have h3:decide (((first+x.Fields.length:Nat):Int)≤(T.length:Int))=true:=by simp;omega
  simp only [Option.getD_some,h1,h2,h3,Bool.and_true,cT,Int.toNat_natCast]
 have hb2:bnd none none v.length=some (0,v.length):=by
  unfold bnd
  simp
 unfold lsl cpL
 rw [hb,hb2]
 simp only [Option.map_some,bS]
 have htl:((T.take (first+x.Fields.length)).drop first).length=x.Fields.length:=by rw [List.length_drop,List.length_take];omega
 rw [fulfils_eq (N:=N) (by omega) x.Guard T (by rw [t2,hbl];exact hin)]
 simp only [bS]
 generalize hR:v.take 0++((T.take (first+x.Fields.length)).drop first).take (min ((T.take (first+x.Fields.length)).drop first).length (v.length-0))++v.drop (0+min ((T.take (first+x.Fields.length)).drop first).length (v.length-0))=R
 have hRl:R.length≤4:=by
  rw [← hR,htl]
  simp only [lA,List.length_take,List.length_drop,htl]
  omega
 have hRs:∀ u∈R,u.S.size≤800000000:=fun u hu=>by
  rw [← hR] at hu
  rcases List.mem_append.1 hu with h | h
  ·rcases List.mem_append.1 h with h | h
   ·simp at h
   ·exact t3 u (List.mem_of_mem_take (List.mem_of_mem_drop (List.mem_of_mem_take h)))
  ·exact hvs u (List.mem_of_mem_drop h)
 cases keepsV x.Guard T with
 | false=>exact ⟨_,rfl,by simp⟩
 | true =>
  simp only [Bool.not_true,cF]
  obtain ⟨b,hb⟩:=fit_some hN x.Fields R (by omega) hRs
  rw [hb]
  simp only [bS]
  cases b with
  | false=>exact ⟨_,rfl,by simp⟩
  | true=>exact ⟨_,rfl,hRl⟩
theorem repL_len (l:List UInt8):∀ n:Nat,(repL l n).length=n * l.length
 | 0=>by simp [repL]
 | n+1=>by
  show (l++repL l n).length=_
  rw [lA,repL_len l n,Nat.add_mul];omega
theorem repeat_some (c:Int) (h0:0≤c) (h1:c≤800000000):∃ r,z19 N (str [97]) c=some r∧r.size≤800000000:=by
 unfold z19
 have hs:(str [97]).size=1:=rfl
 rw [dT h0,dT (show c≤140737488355328 by omega),hs,dT (show 1 * c.toNat≤140737488355328 by omega)]
 refine ⟨_,rfl,?_⟩
 show (repL (str [97]).data.toList c.toNat).toArray.size≤_
 rw [List.size_toArray,repL_len]
 have:(str [97]).data.toList.length=1:=rfl
 rw [this];omega
theorem k3_some (hN:900000000 < N) (ks:List T5) (x:T0) (first:Nat) (hf:x.First=(first:Int)) (hfn:x.Fields.length≤4) (hle:first+x.Fields.length≤ks.length) (hk:ks.length≤1000) (hin:InG ks.length x.Guard) (hks:∀ v∈ks,v.S.size≤800000000)
  (hso:∀ f∈x.Fields,f.Sort'.Kind=2→0≤f.Sort'.Lo∧f.Sort'.Lo≤1000) (z:T6) (low:List (Nat × Int)) (hZ:Zs x.Fields.length low z) (hp:∀ p∈low,p.1 < x.Fields.length)
  (hlow:∀ i f,x.Fields[i]? = some f→(i,maxI (w64 (0-f.Sort'.Lo)) (-20001))∈low):∃ o,z6_k3 N ks x z.N z.B=some o∧o.1.length≤4:=by
 unfold z6_k3
 rcases model_some (N:=N) (by omega) x.Fields.length hfn low hp z hZ with ⟨m,e⟩ | ⟨m,e,ml,mh⟩
 ·have e:z18 N ⟨z.N,z.B⟩=some (m,false):=e
  rw [e];exact ⟨_,rfl,by simp⟩
 ·have e:z18 N ⟨z.N,z.B⟩=some (m,true):=e
  rw [e]
  simp only [bS,Bool.not_true,cF]
  rw [mkLB_ok _ (by omega)]
  simp only [bS]
  have outer:=loopP (γ:=Option (List T5 × Bool)) x.Fields.length (z6_l2 N ks x (m,true)) (fun v=>z6_k1 N ks x v) (fun _ v=>v.length=x.Fields.length∧∀ u∈v,u.S.size≤800000000) (by
   intro f v i hi ⟨hv,hvs⟩
   obtain ⟨fl,hfl⟩:∃ fl,x.Fields[i]? = some fl:=⟨x.Fields[i],by simp [hi]⟩
   obtain ⟨mi,hmi⟩:∃ mi,m[i]? = some mi:=⟨m[i]'(by omega),by simp⟩
   obtain ⟨u,hu⟩:∃ u,v[i]? = some u:=⟨v[i]'(by omega),by simp⟩
   have hm:=mh i mi hmi
   rw [z6_l2,lt_t hi,w64_succ (by omega)]
   simp only [cT,idx_nat,hfl,hmi,hu,bS,setL'_nat]
   have hs0:∀ w∈v.set i (⟨fl.Sort'.Kind,mi,(str [])⟩:T5),w.S.size≤800000000:=fun w hw=>by
    rcases List.mem_or_eq_of_mem_set hw with h | h
    ·exact hvs w h
    ·rw [h];show (str []).size≤_;exact Nat.zero_le _
   cases hk2:(fl.Sort'.Kind==2) with
   | false=>exact ⟨_,⟨by rw [List.length_set];exact hv,hs0⟩,rfl⟩
   | true =>
    have hk2:fl.Sort'.Kind=2:=by simpa using hk2
    obtain ⟨l0,l1⟩:=hso fl (List.mem_of_getElem? hfl) hk2
    have hlo:=hm.2 _ (hlow i fl hfl) rfl
    have hw:w64 (0-fl.Sort'.Lo)=0-fl.Sort'.Lo:=w64_id (by omega) (by omega)
    have hmx:maxI (0-fl.Sort'.Lo) (-20001)=0-fl.Sort'.Lo:=by unfold maxI;rw [if_neg (by omega)]
    simp only [hw,hmx] at hlo
    obtain ⟨r,hr,hrs⟩:=repeat_some (N:=N) mi (by omega) hm.1
    simp only [cT,hr,bS]
    rw [List.getElem?_set,if_pos rfl,if_pos (by omega)]
    simp only [bS]
    refine ⟨_,⟨by rw [List.length_set,List.length_set];exact hv,fun w hw=>?_⟩,rfl⟩
    rcases List.mem_or_eq_of_mem_set hw with h | h
    ·exact hs0 w h
    ·rw [h];exact hrs) (by
   intro f v
   rw [z6_l2,lt_f (Nat.le_refl _)];rfl)
  obtain ⟨v,⟨hv,hvs⟩,e2⟩:=outer x.Fields.length N 0 (List.replicate x.Fields.length ⟨0,0,(str [])⟩) (by omega) (by omega) ⟨by simp,fun u hu=>by
   rw [List.eq_of_mem_replicate hu];exact Nat.zero_le _⟩
  have e2:z6_l2 N ks x (m,true) N (List.replicate x.Fields.length ⟨0,0,(str [])⟩) (0:Int)=z6_k1 N ks x v:=e2
  rw [e2]
  exact k1_some hN ks x first hf hfn hle hk hin hks v hv hvs
theorem fill_some (hN:900000000 < N) (d:List T0) (label:Int) (ks:List T5) (x:T0) (first:Nat) (hproper:z13 N d label ks=some true) (hidx:idx d label=some x) (hx:SizeD x) (hf:x.First=(first:Int)) (hfn:x.Fields.length≤4) (hle:first+x.Fields.length≤ks.length) (hk:ks.length≤1000) (hin:InG ks.length x.Guard) (hks:∀ v∈ks,v.S.size≤800000000)
  (hso:∀ f∈x.Fields,f.Sort'.Kind=2→0≤f.Sort'.Lo∧f.Sort'.Lo≤1000):∃ o,z6 N d label ks=some o∧o.1.length≤4:=by
 unfold z6
 rw [hproper,hidx]
 simp only [bS,Bool.not_true,cF]
 obtain ⟨B,A,h1,h2,h3⟩:=zone_ok (N:=N) (by omega) x.Fields.length (by omega)
 have hnew:z14 N (x.Fields.length:Int)=some (⟨(x.Fields.length:Int),B⟩,0):=by
  unfold z14
  rw [dF (show ¬ (x.Fields.length:Int) < 0 by omega),dF (show ¬ (x.Fields.length:Int) > 24 by omega)]
  simp only [cF]
  rw [h1];rfl
 rw [hnew]
 simp only [bS]
 obtain ⟨z0,b1,b2⟩:=bd_some (N:=N) (by omega) x hx ks.length first hf hle hk hin
 rw [b1]
 simp only [bS]
 have hlen:=b2.len
 rcases f4_run (N:=N) (by omega) ks x first hf (by omega) hfn z0 b2 z0 N 0 ⟨(x.Fields.length:Int),B⟩ [] rfl (by omega) (.inr ⟨A,rfl,h2,fun a b ha hb=>by have:=h3 a b ha hb;omega,fun p hp=>by simp at hp⟩) (fun p hp=>by simp at hp) with h | ⟨z,low,e,k1,k2,k3,k4⟩
 ·exact ⟨_,h,by simp⟩
 ·have e:z6_l4 N ks x z0 N (x.Fields.length:Int) B (0:Int)=z6_k3 N ks x z.N z.B:=e
  rw [e]
  exact k3_some hN ks x first hf hfn hle hk hin hks hso z low k1 k2 (fun i f hif=>k4 i _ (List.getElem?_eq_some_iff.1 hif).1 (b2.low i f hif))
structure Alike (x:T0) (first:Nat) (ks os:List T5):Prop where
 ix:∀ y,0≤y→ownV x y=false→idx ks y=idx os y
 bh:∀ v:List T5,v.length=x.Fields.length→z20 N x v ks=z20 N x v os
end Gp
end
section
namespace Gp
open Go Go.Kx Gx
variable {N:Nat}
theorem Sg.small {F:List T2} {x:T0} {first:Nat} {ks:List T5} (h:Sg F x first ks):Small ks:=fun i v hv=>by
 rcases h.fits i v hv with h1 | ⟨f,h1,h2⟩
 ·have:=(zero_num h1).2.1;omega
 ·have:=fits_num (h.so f (List.mem_of_getElem? h1)) h2;omega
def midV (first n:Nat) (T:List T5):List T5:=(T.take (first+n)).drop first
theorem mid_len {first n:Nat} {T:List T5} (h:first+n≤T.length):(midV first n T).length=n:=by
 unfold midV;rw [List.length_drop,List.length_take];omega
theorem mid_get {first n k:Nat} {T:List T5} (hk:k < n):(midV first n T)[k]? = T[first+k]? := by
 unfold midV;rw [List.getElem?_drop,List.getElem?_take,if_pos (by omega)]
theorem k1_is (hN:900000000 < N) {F:List T2} {x:T0} {first:Nat} {ks:List T5} (g:Sg F x first ks)
  (v:List T5) (hv:v.length=x.Fields.length) (T:List T5) (hT:z21 N x (behindV first v ks)=some T) (hTl:T.length=ks.length) (hTs:∀ u∈T,u.S.size≤4194304) :
  z6_k1 N ks x v=some (bif keepsV x.Guard T && fitV x.Fields (midV first x.Fields.length T) then (midV first x.Fields.length T,true) else ([],false)):=by
 have hf:=g.hf
 have hle:=g.hle
 have hk:=g.hk
 have hfn:=g.hfn
 unfold z6_k1
 rw [behind_eq x v ks first hf (by omega) (by omega)]
 simp only [bS]
 rw [hT]
 simp only [bS]
 have hw:w64 (x.First+(x.Fields.length:Int))=((first+x.Fields.length:Nat):Int):=by rw [hf,w64_id (by omega) (by omega)];omega
 have hb:bnd (some x.First) (some (w64 (x.First+(x.Fields.length:Int)))) T.length=some (first,first+x.Fields.length):=by
  unfold bnd
  rw [hw,hf]
  have h1:decide ((0:Int)≤(first:Int))=true:=by simp
  have h2:decide ((first:Int)≤((first+x.Fields.length:Nat):Int))=true:=by simp;omega
  have h3:decide (((first+x.Fields.length:Nat):Int)≤(T.length:Int))=true:=by simp;omega
  simp only [Option.getD_some,h1,h2,h3,Bool.and_true,cT,Int.toNat_natCast]
 have hb2:bnd none none v.length=some (0,v.length):=by
  unfold bnd
  simp
 unfold lsl cpL
 rw [hb,hb2]
 simp only [Option.map_some,bS]
 rw [fulfils_eq (N:=N) (by omega) x.Guard T (by rw [hTl];exact g.hin)]
 simp only [bS]
 have hml:=mid_len (T:=T) (first:=first) (n:=x.Fields.length) (by omega)
 have hm:(T.take (first+x.Fields.length)).drop first=midV first x.Fields.length T:=rfl
 have hR:v.take 0++((T.take (first+x.Fields.length)).drop first).take (min ((T.take (first+x.Fields.length)).drop first).length (v.length-0))++v.drop (0+min ((T.take (first+x.Fields.length)).drop first).length (v.length-0))=midV first x.Fields.length T:=by
  rw [hm,hml,hv]
  rw [List.take_zero,List.nil_append,List.take_of_length_le (by omega),List.drop_of_length_le (by omega),List.append_nil]
 rw [hR]
 cases keepsV x.Guard T with
 | false=>rfl
 | true =>
  simp only [Bool.not_true,cF,Bool.true_and]
  rw [fit_eq (N:=N) (by omega) x.Fields _ (by omega) (fun u hu=>by
   unfold midV at hu
   exact hTs u (List.mem_of_mem_take (List.mem_of_mem_drop hu)))]
  simp only [bS]
  cases fitV x.Fields (midV first x.Fields.length T)<;>rfl
def repB (c:Int):ByteArray:=⟨(repL (str [97]).data.toList c.toNat).toArray⟩
theorem repB_is (c:Int) (h0:0≤c) (h1:c≤800000000):z19 N (str [97]) c=some (repB c):=by
 unfold z19
 have hs:(str [97]).size=1:=rfl
 rw [dT h0,dT (show c≤140737488355328 by omega),hs,dT (show 1 * c.toNat≤140737488355328 by omega)]
 rfl
theorem repB_size (c:Int):(repB c).size=c.toNat:=by
 show (repL (str [97]).data.toList c.toNat).toArray.size=_
 rw [List.size_toArray,repL_len]
 have:(str [97]).data.toList.length=1:=rfl
 rw [this];omega
theorem repL_all (n:Nat):∀ b∈repL (str [97]).data.toList n,b=97:=by
 induction n with
 | zero=>intro b h;cases h
 | succ n ih =>
  intro b h
  rcases List.mem_append.1 h with h | h
  ·have:b∈[(97:UInt8)]:=h
   simpa using this
  ·exact ih b h
theorem repB_good (c:Int):(bs (repB c)).any badB=false:=by
 rw [List.any_eq_false]
 intro b hb
 have:b=97:=repL_all c.toNat b (by simpa [bs,repB] using hb)
 subst this
 decide
def tryV (f:T2) (c:Int):T5:=bif f.Sort'.Kind==2 then ⟨2,0,repB c⟩ else ⟨f.Sort'.Kind,c,(str [])⟩
theorem try_num {f:T2} (hs:sortOk f.Sort') {c:Int} (h0:f.Sort'.Lo≤c):vnum (tryV f c)=c∧(tryV f c).Kind=f.Sort'.Kind:=by
 unfold tryV
 unfold sortOk at hs
 cases h:(f.Sort'.Kind==2) with
 | true =>
  have h:f.Sort'.Kind=2:=by simpa using h
  refine ⟨?_,h.symm⟩
  show (((repB c).size:Nat):Int)=c
  rw [repB_size];omega
 | false =>
  refine ⟨?_,rfl⟩
  show (bif f.Sort'.Kind==2 then _ else c)=c
  rw [h];rfl
theorem try_size {f:T2} {c:Int} (h1:c≤1000):(tryV f c).S.size≤1000:=by
 unfold tryV
 cases (f.Sort'.Kind==2) with
 | true=>show (repB c).size≤_;rw [repB_size];omega
 | false=>exact Nat.zero_le _
structure Mdl (ks:List T5) (x:T0) (z0:List T1) (m:List Int) (v0:List T5):Prop where
 ml:m.length=x.Fields.length
 fk:Keep (x.Fields.length+1) fullV (yOf m)
 bk:∀ b∈z0,yOf m (gposV x b.X)-yOf m (gposV x b.Y)≤maxI (cV ks x b) (-20001)
 le:∀ u:Nat→Int,Keep (x.Fields.length+1) fullV u→(∀ b∈z0,u (gposV x b.X)-u (gposV x b.Y)≤maxI (cV ks x b) (-20001))→u 0=0→∀ i,i < x.Fields.length→(∀ j,j < i→u (j+1)=yOf m (j+1))→yOf m (i+1)≤u (i+1)
 vl:v0.length=x.Fields.length
 va:∀ (i:Nat) (f:T2) (c:Int),x.Fields[i]? = some f→m[i]? = some c→v0[i]? = some (tryV f c)∧f.Sort'.Lo≤c∧c≤f.Sort'.Hi
theorem fill_flow (hN:900000000 < N) (d:List T0) (label:Int) {F:List T2} {x:T0} {first:Nat} {ks:List T5} (g:Sg F x first ks) (hproper:z13 N d label ks=some true) (hidx:idx d label=some x) :
  ∃ z0,BdX x first ks.length z0∧((z6 N d label ks=some ([],false)∧((∃ b∈z0,(missV ks x b.X || missV ks x b.Y)=true)∨∀ u:Nat→Int,Keep (x.Fields.length+1) fullV u→¬ ∀ b∈z0,u (gposV x b.X)-u (gposV x b.Y)≤maxI (cV ks x b) (-20001))) ∨
   ∃ m v0,z6 N d label ks=z6_k1 N ks x v0∧Mdl ks x z0 m v0):=by
 have hf:=g.hf
 have hle:=g.hle
 have hk:=g.hk
 have hfn:=g.hfn
 obtain ⟨z0,b1,b2⟩:=bdx_some (N:=N) (by omega) x g.hx ks.length first hf hle (by omega) g.hin (fun f hf=>by
  obtain ⟨k,hk⟩:=List.mem_iff_getElem?.1 hf
  have:=g.sx hk
  unfold sortOk at this
  omega) g.dc
 refine ⟨z0,b2,?_⟩
 unfold z6
 rw [hproper,hidx]
 simp only [bS,Bool.not_true,cF]
 obtain ⟨B,h1,h2⟩:=new_is (N:=N) (by omega) x.Fields.length (by omega)
 rw [h1]
 simp only [bS]
 rw [b1]
 simp only [bS]
 have hlen:=b2.bd.len
 rcases f4_is (N:=N) (by omega) ks g.small x first hf (by omega) hfn z0 b2.bd b2.c z0 N 0 _ fullV rfl (by omega) h2 with ⟨h,e⟩ | ⟨hall,z,A,e,hZ,hkeep⟩
 ·left
  exact ⟨e,.inl h⟩
 ·have e:z6_l4 N ks x z0 N (x.Fields.length:Int) B (0:Int)=z6_k3 N ks x z.N z.B:=e
  rw [e]
  unfold z6_k3
  rcases model_is (N:=N) (by omega) x.Fields.length hfn A z hZ with ⟨m,e,hno⟩ | ⟨m,e,ml,mk,mle⟩
  ·have e:z18 N ⟨z.N,z.B⟩=some (m,false):=e
   rw [e]
   left
   refine ⟨rfl,.inr fun u hu hb=>hno u ((hkeep u).2 ⟨hu,hb⟩)⟩
  ·have e:z18 N ⟨z.N,z.B⟩=some (m,true):=e
   rw [e]
   simp only [bS,Bool.not_true,cF]
   rw [mkLB_ok _ (by omega)]
   simp only [bS]
   obtain ⟨mk1,mk2⟩:=(hkeep _).1 mk
   have hpos:∀ k:Nat,k < x.Fields.length→gposV x ((first+k:Nat):Int)=k+1:=fun k hk=>by
    unfold gposV
    rw [dF (show ¬ ((first+k:Nat):Int) < 0 by omega),(own_iff hf (by omega) hfn _).2 ⟨by omega,by omega⟩,hf]
    simp only [cF,cT]
    omega
   have hkn:∀ k:Nat,k < x.Fields.length→knV ks x ((first+k:Nat):Int)=0:=fun k hk=>by
    unfold knV
    rw [dF (show ¬ ((first+k:Nat):Int) < 0 by omega),(own_iff hf (by omega) hfn _).2 ⟨by omega,by omega⟩]
    rfl
   have hp0:gposV x (-1)=0:=rfl
   have hk0:knV ks x (-1)=0:=rfl
   have hbnd:∀ (i:Nat) (f:T2) (c:Int),x.Fields[i]? = some f→m[i]? = some c→f.Sort'.Lo≤c∧c≤f.Sort'.Hi:=fun i f c hfi hmi=>by
    have hi:=(List.getElem?_eq_some_iff.1 hfi).1
    have hso:=g.sx hfi
    unfold sortOk at hso
    obtain ⟨q1,q2⟩:=b2.fld i f hfi
    have r1:=mk2 _ q1
    have r2:=mk2 _ q2
    unfold cV at r1 r2
    simp only [hpos i hi,hkn i hi,hp0,hk0,yOf_get hmi] at r1 r2
    have y0:yOf m 0=0:=rfl
    rw [y0] at r1 r2
    unfold maxI at r1 r2
    split at r1<;>split at r2<;>omega
   have outer:=loopP (γ:=Option (List T5 × Bool)) x.Fields.length (z6_l2 N ks x (m,true)) (fun v=>z6_k1 N ks x v) (fun i v=>v.length=x.Fields.length∧∀ (k:Nat) (f:T2) (c:Int),k < i→x.Fields[k]? = some f→m[k]? = some c→v[k]? = some (tryV f c)) (by
    intro f v i hi ⟨hv,hvs⟩
    obtain ⟨fl,hfl⟩:∃ fl,x.Fields[i]? = some fl:=⟨x.Fields[i],by simp [hi]⟩
    obtain ⟨mi,hmi⟩:∃ mi,m[i]? = some mi:=⟨m[i]'(by omega),by simp⟩
    obtain ⟨u,hu⟩:∃ u,v[i]? = some u:=⟨v[i]'(by omega),by simp⟩
    have fin:(v.set i (tryV fl mi)).length=x.Fields.length∧∀ (k:Nat) (f:T2) (c:Int),k < i+1→x.Fields[k]? = some f→m[k]? = some c→(v.set i (tryV fl mi))[k]? = some (tryV f c):=by
     refine ⟨by rw [List.length_set];exact hv,fun k f c hk h1 h2=>?_⟩
     by_cases e:i=k
     ·subst e
      rw [hfl] at h1;cases h1
      rw [hmi] at h2;cases h2
      exact List.getElem?_set_self (by omega)
     ·rw [List.getElem?_set_ne e]
      exact hvs k f c (by omega) h1 h2
    refine ⟨v.set i (tryV fl mi),fin,?_⟩
    rw [z6_l2,lt_t hi,w64_succ (by omega)]
    simp only [cT,idx_nat,hfl,hmi,hu,bS,setL'_nat]
    have hb:=hbnd i fl mi hfl hmi
    have hso:=g.sx hfl
    unfold sortOk at hso
    unfold tryV
    cases hk2:(fl.Sort'.Kind==2) with
    | false=>rfl
    | true =>
     have hk2:fl.Sort'.Kind=2:=by simpa using hk2
     simp only [cT,repB_is (N:=N) mi (by omega) (by omega),bS]
     rw [List.getElem?_set,if_pos rfl,if_pos (by omega)]
     simp only [bS,List.set_set]) (by
    intro f v
    rw [z6_l2,lt_f (Nat.le_refl _)];rfl)
   obtain ⟨v,⟨hv,hvs⟩,e2⟩:=outer x.Fields.length N 0 (List.replicate x.Fields.length ⟨0,0,(str [])⟩) (by omega) (by omega) ⟨by simp,fun k f c hk=>by omega⟩
   right
   refine ⟨m,v,e2,ml,mk1,mk2,fun u hu hb hu0 i hi he=>mle u ((hkeep u).2 ⟨hu,hb⟩) hu0 i hi he,hv,fun i f c h1 h2=>⟨hvs i f c (List.getElem?_eq_some_iff.1 h1).1 h1 h2,hbnd i f c h1 h2⟩⟩
end Gp
end
section
namespace Gp
open Go Go.Kx Gx
variable {N:Nat}
theorem unk_congr {T B:List T5} (hT:∀ (y:Nat) (v:T5),T[y]? = some v→(v.Kind==0)=false→B[y]? = some v) {y:Int} (h:unkV T y=false):unkV B y=false∧nvV B y=nvV T y:=by
 unfold unkV at h ⊢
 unfold nvV
 cases hn:decide (y < 0) with
 | true=>exact ⟨rfl,rfl⟩
 | false =>
  rw [hn] at h
  simp only [cF] at h ⊢
  cases hv:idx T y with
  | none=>rw [hv] at h;cases h
  | some v =>
   rw [hv] at h
   obtain ⟨k,rfl,hk⟩:=idx_mem hv
   rw [idx_nat,hT k v hk h]
   exact ⟨h,rfl⟩
theorem keeps_congr {g:T3} {T B:List T5} (hT:∀ (y:Nat) (v:T5),T[y]? = some v→(v.Kind==0)=false→B[y]? = some v) (h:keepsV g T=true):keepsV g B=true:=by
 unfold keepsV at h ⊢
 rw [Bool.and_eq_true] at h ⊢
 obtain ⟨h1,h2⟩:=h
 rw [allV_iff] at h1 h2 ⊢
 rw [allV_iff]
 refine ⟨fun i b hb=>?_,fun i e he=>?_⟩
 ·have:=h1 i b hb
  unfold diffV at this ⊢
  simp only [Bool.and_eq_true,Bool.not_eq_true'] at this ⊢
  obtain ⟨q1,q2,q3⟩:=this
  obtain ⟨a1,a2⟩:=unk_congr hT q1
  obtain ⟨b1,b2⟩:=unk_congr hT q2
  rw [a2,b2]
  exact ⟨a1,b1,q3⟩
 ·have:=h2 i e he
  unfold eqV at this ⊢
  cases ha:idx T e.1 with
  | none=>rw [ha] at this;cases this
  | some a =>
   cases hb:idx T e.2 with
   | none=>rw [ha,hb] at this;cases this
   | some b =>
    rw [ha,hb] at this
    simp only [Bool.and_eq_true,Bool.not_eq_true'] at this
    obtain ⟨k,e1,hk⟩:=idx_mem ha
    obtain ⟨l,e2,hl⟩:=idx_mem hb
    rw [e1,e2,idx_nat,idx_nat,hT k a hk this.1,hT l b hl this.2.1]
    simp only [Bool.and_eq_true,Bool.not_eq_true']
    exact this
theorem fill_true (hN:900000000 < N) (d:List T0) (label:Int) {F:List T2} {x:T0} {first:Nat} {ks:List T5} (g:Sg F x first ks) (hproper:z13 N d label ks=some true) (hidx:idx d label=some x) {R:List T5} (h:z6 N d label ks=some (R,true)) :
  fitV x.Fields R=true∧keepsV x.Guard (behindV first R ks)=true∧R.length=x.Fields.length∧∀ v∈R,v.S.size≤4194304:=by
 have hf:=g.hf
 have hle:=g.hle
 have hk:=g.hk
 have hfn:=g.hfn
 obtain ⟨z0,hz,⟨e,_⟩ | ⟨m,v0,e,hm⟩⟩:=fill_flow hN d label g hproper hidx
 ·rw [e] at h;cases h
 ·rw [e] at h
  have hvl:=hm.vl
  have hbl:=behind_len first v0 ks (by omega)
  obtain ⟨T,s,s0,t1,t2,t3,t4⟩:=texts_is (N:=N) (by omega) (ok:=False) (l0:=behindV first v0 ks) (W:=ks) (nb:=fun _=>0) (tx:=fun _=>False) hbl.symm x first hf (by omega) hfn (by omega) (by rw [hbl];exact g.hin) (fun e he a b h1 h2 h=>h.elim) (fun h=>h.elim)
  have hTl:T.length=ks.length:=by rw [t2.ll];exact hbl
  have hTs:∀ u∈T,u.S.size≤4194304:=t2.sz 4194304 (fun v hv=>by
   obtain ⟨y,hy⟩:=List.mem_iff_getElem?.1 hv
   rw [behind_get first v0 ks (by omega)] at hy
   split at hy
   ·rename_i c
    obtain ⟨f,hfy⟩:∃ f,x.Fields[y-first]? = some f:=⟨x.Fields[y-first]'(by omega),by simp⟩
    obtain ⟨c,hcy⟩:∃ c,m[y-first]? = some c:=⟨m[y-first]'(by have:=hm.ml;omega),by simp⟩
    obtain ⟨a1,a2,a3⟩:=hm.va _ f c hfy hcy
    rw [hy] at a1
    cases a1
    have hso:=g.sx hfy
    unfold sortOk at hso
    have:=try_size (f:=f) (c:=c) (by omega)
    omega
   ·exact g.sz v (List.mem_of_getElem? hy))
  rw [k1_is hN g v0 hm.vl T t1 hTl hTs] at h
  cases hc:(keepsV x.Guard T && fitV x.Fields (midV first x.Fields.length T)) with
  | false=>rw [hc] at h;simp at h
  | true =>
   rw [hc] at h
   simp only [cT,Option.some.injEq,Prod.mk.injEq,and_true] at h
   subst h
   rw [Bool.and_eq_true] at hc
   have hml:=mid_len (T:=T) (first:=first) (n:=x.Fields.length) (by omega)
   refine ⟨hc.2,keeps_congr (fun y v hy hkind=>?_) hc.1,hml,fun v hv=>hTs v (by unfold midV at hv;exact List.mem_of_mem_take (List.mem_of_mem_drop hv))⟩
   rw [behind_get first _ ks (by omega),hml]
   split
   ·rename_i c
    rw [mid_get (by omega),show first+(y-first)=y by omega]
    exact hy
   ·rename_i c
    have hyl:=(List.getElem?_eq_some_iff.1 hy).1
    have hg:=behind_get first v0 ks (by omega) y
    rw [if_neg (by rw [hvl];exact c)] at hg
    obtain ⟨v1,hv1⟩:∃ v1,ks[y]? = some v1:=⟨ks[y]'(by omega),by simp⟩
    rw [hv1] at hg
    have hkk:=(t2.kn y v1 v hg hy).1
    have hs:=t4 y v1 hg
    have hown:ownV x (y:Int)=false:=by
     cases ho:ownV x (y:Int) with
     | false=>rfl
     | true=>have:=(own_iff hf (by omega) hfn _).1 ho;omega
    rw [hown,← hkk] at hs
    have hs:s0[y]? = some true:=by rw [hs];simp only [bne,hkind];rfl
    have:=(t2.fx y hs).2
    rw [hg,hy] at this
    rw [hv1,this]
def uOf (V:List T5):Nat→Int
 | 0=>0
 | i+1=>match V[i]? with
  | some v=>vnum v
  | none=>0
theorem nv_behind {F:List T2} {x:T0} {first:Nat} {ks:List T5} (g:Sg F x first ks) {V:List T5} (hV:V.length=x.Fields.length) (y:Int):nvV (behindV first V ks) y=uOf V (gposV x y)+knV ks x y:=by
 have hf:=g.hf
 have hle:=g.hle
 have hk:=g.hk
 have hfn:=g.hfn
 unfold nvV gposV knV
 by_cases hn:y < 0
 ·rw [dT hn];rfl
 ·rw [dF hn]
  simp only [cF]
  obtain ⟨k,rfl⟩:=Int.eq_ofNat_of_zero_le (show 0≤y by omega)
  rw [idx_nat,idx_nat,behind_get first V ks (by omega),hV]
  cases ho:ownV x (k:Int) with
  | true =>
   have:=(own_iff hf (by omega) hfn _).1 ho
   rw [if_pos (by omega)]
   simp only [cT,hf]
   rw [show ((k:Int)-(first:Int)).toNat=k-first by omega,Int.add_zero]
   rfl
  | false =>
   rw [if_neg (fun c=>by
    have:=(own_iff hf (by omega) hfn (k:Int)).2 ⟨by omega,by omega⟩
    rw [ho] at this;cases this)]
   simp only [cF]
   show _=(0:Int)+_
   rw [Int.zero_add]
   first | done | (cases ks[k]?<;>rfl)
theorem fts_small {F:List T2} {x:T0} {first:Nat} {ks:List T5} (g:Sg F x first ks) {W:List T5} (h:Fts F W):Small W:=fun i v hv=>by
 rcases h i v hv with h1 | ⟨f,h1,h2⟩
 ·have:=(zero_num h1).2.1;omega
 ·have:=fits_num (g.so f (List.mem_of_getElem? h1)) h2;omega
end Gp
end
section
namespace Gp
open Go Go.Kx Gx
variable {N:Nat}
theorem w_miss {F:List T2} {x:T0} {first:Nat} {ks:List T5} (g:Sg F x first ks) {V:List T5} (hV:V.length=x.Fields.length) {y:Int} (h:unkV (behindV first V ks) y=false):missV ks x y=false:=by
 have hf:=g.hf
 have hle:=g.hle
 have hk:=g.hk
 have hfn:=g.hfn
 unfold unkV at h
 unfold missV
 by_cases hn:y < 0
 ·rw [dT hn];rfl
 ·rw [dF hn] at h ⊢
  simp only [cF] at h ⊢
  cases ho:ownV x y with
  | true=>rfl
  | false =>
   simp only [cF]
   obtain ⟨k,rfl⟩:=Int.eq_ofNat_of_zero_le (show 0≤y by omega)
   rw [idx_nat,behind_get first V ks (by omega),if_neg (fun c=>by
    have:=(own_iff hf (by omega) hfn (k:Int)).2 ⟨by omega,by omega⟩
    rw [ho] at this;cases this)] at h
   rw [idx_nat]
   exact h
theorem w_bounds {F:List T2} {x:T0} {first:Nat} {ks:List T5} (g:Sg F x first ks) {V:List T5} (hfit:fitV x.Fields V=true) (hkeep:keepsV x.Guard (behindV first V ks)=true) {z0:List T1} (hz:BdX x first ks.length z0) :
  ∀ b∈z0,(missV ks x b.X || missV ks x b.Y)=false∧nvV (behindV first V ks) b.X-nvV (behindV first V ks) b.Y≤b.C:=by
 have hf:=g.hf
 have hle:=g.hle
 have hk:=g.hk
 have hfn:=g.hfn
 have hV:V.length=x.Fields.length:=(fit_len hfit).symm
 have hfts:=fts_behind g hfit
 have hsm:=fts_small g hfts
 have hown:∀ k:Nat,k < x.Fields.length→ownV x ((first+k:Nat):Int)=true:=fun k hk=>(own_iff hf (by omega) hfn _).2 ⟨by omega,by omega⟩
 have m0:missV ks x (-1)=false:=rfl
 have mk:∀ k:Nat,k < x.Fields.length→missV ks x ((first+k:Nat):Int)=false:=fun k hk=>by
  unfold missV
  rw [dF (show ¬ ((first+k:Nat):Int) < 0 by omega),hown k hk];rfl
 have n0:nvV (behindV first V ks) (-1)=0:=rfl
 unfold keepsV at hkeep
 rw [Bool.and_eq_true] at hkeep
 obtain ⟨k1,k2⟩:=hkeep
 rw [allV_iff] at k1 k2
 have k1':∀ b∈x.Guard.Diffs,diffV (behindV first V ks) b=true:=fun b hb=>by
  obtain ⟨j,hj⟩:=List.mem_iff_getElem?.1 hb
  exact k1 j b hj
 have k2':∀ e∈x.Guard.Equals,eqV (behindV first V ks) e=true:=fun e he=>by
  obtain ⟨j,hj⟩:=List.mem_iff_getElem?.1 he
  exact k2 j e hj
 have heq:∀ e∈x.Guard.Equals,missV ks x e.1=false∧missV ks x e.2=false∧nvV (behindV first V ks) e.1=nvV (behindV first V ks) e.2:=fun e he=>by
  obtain ⟨a,b,v,w,e1,e2,ha,hb,q1,q2,q3⟩:=eq_unk (k2' e he)
  obtain ⟨t1,t2⟩:=g.tv e he
  rw [e1] at t1
  rw [e2] at t2
  obtain ⟨u1,u2⟩:=unk_nat ha
  obtain ⟨u3,u4⟩:=unk_nat hb
  rw [e1,e2]
  refine ⟨w_miss g hV (u1.trans q1),w_miss g hV (u3.trans q2),?_⟩
  rw [u2,u4]
  have kd:∀ (c:Nat) (u:T5),(behindV first V ks)[c]? = some u→(u.Kind==0)=false→textV F (c:Int)=true→u.Kind=2:=fun c u hc hu ht=>by
   rcases hfts c u hc with h | ⟨f,h1,h2⟩
   ·rw [(zero_num h).1] at hu;cases hu
   ·rw [(fits_num (g.so f (List.mem_of_getElem? h1)) h2).1]
    exact text_kind ht h1
  unfold vnum
  rw [kd a v ha q1 t1,kd b w hb q2 t2,q3]
  rfl
 intro b hb
 rcases hz.inv b hb with ⟨k,f,hkf,q⟩ | q | ⟨e,he,q⟩
 ·have hkl:=(List.getElem?_eq_some_iff.1 hkf).1
  obtain ⟨v,hv⟩:∃ v,V[k]? = some v:=⟨V[k]'(by omega),by simp⟩
  have hb:(behindV first V ks)[first+k]? = some v:=by
   rw [behind_get first V ks (by omega),if_pos (by omega),Nat.add_sub_cancel_left]
   exact hv
  have hnv:=(unk_nat hb).2
  have hfv:=fits_num (g.sx hkf) (fit_get hfit hkf hv)
  rcases q with q | q
  ·rw [q]
   simp only [m0,mk k hkl,n0,hnv,Bool.or_false]
   exact ⟨trivial,by omega⟩
  ·rw [q]
   simp only [m0,mk k hkl,n0,hnv,Bool.or_false]
   exact ⟨trivial,by omega⟩
 ·have:=k1' b q
  unfold diffV at this
  simp only [Bool.and_eq_true,Bool.not_eq_true'] at this
  obtain ⟨a1,a2,a3⟩:=this
  have h1:=nv_small hsm b.X
  have h2:=nv_small hsm b.Y
  rw [w64_id (by omega) (by omega),decide_eq_false_iff_not] at a3
  rw [w_miss g hV a1,w_miss g hV a2]
  exact ⟨rfl,by omega⟩
 ·obtain ⟨h1,h2,h3⟩:=heq e he
  rcases q with q | q
  ·rw [q]
   simp only [h1,h2,h3,Bool.or_false]
   exact ⟨trivial,by omega⟩
  ·rw [q]
   simp only [h1,h2,h3,Bool.or_false]
   exact ⟨trivial,by omega⟩
theorem own_pos {F:List T2} {x:T0} {first:Nat} {ks:List T5} (g:Sg F x first ks) {k:Nat} (hk:k < x.Fields.length):gposV x ((first+k:Nat):Int)=k+1∧knV ks x ((first+k:Nat):Int)=0∧ownV x ((first+k:Nat):Int)=true:=by
 have hf:=g.hf
 have hle:=g.hle
 have hkl:=g.hk
 have hfn:=g.hfn
 have ho:=(own_iff hf (by omega) hfn ((first+k:Nat):Int)).2 ⟨by omega,by omega⟩
 unfold gposV knV
 rw [dF (show ¬ ((first+k:Nat):Int) < 0 by omega),ho,hf]
 simp only [cF,cT]
 exact ⟨by omega,trivial,trivial⟩
theorem not_own {F:List T2} {x:T0} {first:Nat} {ks:List T5} (g:Sg F x first ks) {y:Nat} {v:T5} (ho:ownV x (y:Int)=false) (hv:ks[y]? = some v):gposV x (y:Int)=0∧knV ks x (y:Int)=vnum v∧¬ (first≤y∧y < first+x.Fields.length):=by
 have hf:=g.hf
 have hle:=g.hle
 have hkl:=g.hk
 have hfn:=g.hfn
 unfold gposV knV
 rw [dF (show ¬ (y:Int) < 0 by omega),ho,idx_nat,hv]
 refine ⟨rfl,rfl,fun c=>?_⟩
 have:=(own_iff hf (by omega) hfn (y:Int)).2 ⟨by omega,by omega⟩
 rw [ho] at this;cases this
theorem fill_bestT (hN:900000000 < N) (d:List T0) (label:Int) {F:List T2} {x:T0} {first:Nat} {ks:List T5} (g:Sg F x first ks) (hproper:z13 N d label ks=some true) (hidx:idx d label=some x) {V:List T5} (hfit:fitV x.Fields V=true) (hkeep:keepsV x.Guard (behindV first V ks)=true) :
  ∃ R,z6 N d label ks=some (R,true)∧(∀ i,i < x.Fields.length→(∀ j,j < i→uOf V (j+1)=uOf R (j+1))→uOf R (i+1)≤uOf V (i+1))∧∀ (k:Nat) (u r:T5),V[k]? = some u→R[k]? = some r→r.S=u.S∨∃ f,x.Fields[k]? = some f∧r=tryV f (vnum r):=by
 have hf:=g.hf
 have hle:=g.hle
 have hk:=g.hk
 have hfn:=g.hfn
 have hV:V.length=x.Fields.length:=(fit_len hfit).symm
 have hWl:(behindV first V ks).length=ks.length:=behind_len first V ks (by omega)
 have hfts:=fts_behind g hfit
 have hsm:=fts_small g hfts
 obtain ⟨z0,hz,hcase⟩:=fill_flow hN d label g hproper hidx
 have hwb:=w_bounds g hfit hkeep hz
 have u0:uOf V 0=0:=rfl
 have uS:∀ k,k < x.Fields.length→-1000≤uOf V (k+1)∧uOf V (k+1)≤1000:=fun k hk=>by
  obtain ⟨v,hv⟩:∃ v,V[k]? = some v:=⟨V[k]'(by omega),by simp⟩
  obtain ⟨f,hfk⟩:∃ f,x.Fields[k]? = some f:=⟨x.Fields[k]'(by omega),by simp⟩
  have:=fits_num (g.sx hfk) (fit_get hfit hfk hv)
  have e:uOf V (k+1)=vnum v:=by show (match V[k]? with | some v=>vnum v | none=>0)=_;rw [hv]
  rw [e];omega
 have uK:Keep (x.Fields.length+1) fullV (uOf V):=fun a b ha hb=>by
  have h1:-1000≤uOf V a∧uOf V a≤1000:=by
   cases a with
   | zero=>rw [u0];omega
   | succ a=>exact uS a (by omega)
  have h2:-1000≤uOf V b∧uOf V b≤1000:=by
   cases b with
   | zero=>rw [u0];omega
   | succ a=>exact uS a (by omega)
  unfold fullV
  split
  ·rename_i e;rw [e];omega
  ·split
   ·omega
   ·split<;>omega
 have uB:∀ b∈z0,uOf V (gposV x b.X)-uOf V (gposV x b.Y)≤maxI (cV ks x b) (-20001):=fun b hb=>by
  have h1:=(hwb b hb).2
  rw [nv_behind g hV,nv_behind g hV] at h1
  have:=(maxI_le (cV ks x b) (-20001)).1
  unfold cV at this ⊢
  omega
 rcases hcase with ⟨_,⟨b,hb,hm⟩ | hno⟩ | ⟨m,v0,e,hm⟩
 ·rw [(hwb b hb).1] at hm;cases hm
 ·exact absurd uB (hno _ uK)
 ·have hvl:=hm.vl
  have hml:=hm.ml
  have hbl:=behind_len first v0 ks (by omega)
  generalize hW:behindV first V ks=W at *
  have hWown:∀ k,k < x.Fields.length→W[first+k]? = V[k]? := fun k hk=>by
   rw [← hW,behind_get first V ks (by omega),if_pos (by omega),Nat.add_sub_cancel_left]
  have hWnot:∀ y,¬ (first≤y∧y < first+x.Fields.length)→W[y]? = ks[y]? := fun y hy=>by
   rw [← hW,behind_get first V ks (by omega),if_neg (by omega)]
  have hlown:∀ k,k < x.Fields.length→(behindV first v0 ks)[first+k]? = v0[k]? := fun k hk=>by
   rw [behind_get first v0 ks (by omega),if_pos (by omega),Nat.add_sub_cancel_left]
  have hlnot:∀ y,¬ (first≤y∧y < first+x.Fields.length)→(behindV first v0 ks)[y]? = ks[y]? := fun y hy=>by
   rw [behind_get first v0 ks (by omega),if_neg (by omega)]
  generalize hl0:behindV first v0 ks=l0 at *
  have k1k2:=hkeep
  unfold keepsV at k1k2
  rw [Bool.and_eq_true] at k1k2
  obtain ⟨k1,k2⟩:=k1k2
  rw [allV_iff] at k1 k2
  have k1':∀ b∈x.Guard.Diffs,diffV W b=true:=fun b hb=>by
   obtain ⟨j,hj⟩:=List.mem_iff_getElem?.1 hb
   exact k1 j b hj
  have k2':∀ e∈x.Guard.Equals,eqV W e=true:=fun e he=>by
   obtain ⟨j,hj⟩:=List.mem_iff_getElem?.1 he
   exact k2 j e hj
  -- the number that is meant for each variable
  have y0:yOf m 0=0:=rfl
  have yS:∀ p,p < x.Fields.length+1→-10000≤yOf m p∧yOf m p≤10000:=fun p hp=>by
   have h1:=hm.fk p 0 hp (by omega)
   have h2:=hm.fk 0 p (by omega) hp
   rw [y0] at h1 h2
   have f1:fullV p 0≤10000:=by unfold fullV;split<;>(try split)<;>(try split)<;>omega
   have f2:fullV 0 p≤10000:=by unfold fullV;split<;>(try split)<;>(try split)<;>omega
   omega
  let nb:Int→Int:=fun y=>yOf m (gposV x y)+knV ks x y
  have nbS:∀ y,-11000≤nb y∧nb y≤11000:=fun y=>by
   have h1:=yS (gposV x y) (pos_lt hf (by omega) hfn y)
   have h2:=g.small.kn x y
   show -11000≤yOf m (gposV x y)+knV ks x y∧yOf m (gposV x y)+knV ks x y≤11000
   omega
  have nbB:∀ b∈z0,nb b.X-nb b.Y≤b.C:=fun b hb=>by
   have h:=hm.bk b hb
   have hc:=hz.c b hb
   have h1:=g.small.kn x b.X
   have h2:=g.small.kn x b.Y
   have h3:=hm.fk (gposV x b.Y) (gposV x b.X) (pos_lt hf (by omega) hfn b.Y) (pos_lt hf (by omega) hfn b.X)
   have h4:=fullV_le (gposV x b.Y) (gposV x b.X)
   show yOf m (gposV x b.X)+knV ks x b.X-(yOf m (gposV x b.Y)+knV ks x b.Y)≤b.C
   unfold cV at h
   unfold maxI at h
   split at h<;>omega
  -- each place: a field, or not
  have place:∀ y:Nat,y < ks.length→(∃ k f c v,k < x.Fields.length∧y=first+k∧x.Fields[k]? = some f∧m[k]? = some c∧V[k]? = some v∧F[y]? = some f∧l0[y]? = some (tryV f c)∧W[y]? = some v∧ownV x (y:Int)=true∧nb (y:Int)=c∧f.Sort'.Lo≤c∧c≤f.Sort'.Hi) ∨
    (∃ v,ks[y]? = some v∧l0[y]? = some v∧W[y]? = some v∧ownV x (y:Int)=false∧nb (y:Int)=vnum v):=fun y hy=>by
   by_cases c1:first≤y∧y < first+x.Fields.length
   ·left
    obtain ⟨k,rfl⟩:∃ k,y=first+k:=⟨y-first,by omega⟩
    have hkl:k < x.Fields.length:=by omega
    obtain ⟨f,hfk⟩:∃ f,x.Fields[k]? = some f:=⟨x.Fields[k]'(by omega),by simp⟩
    obtain ⟨c,hck⟩:∃ c,m[k]? = some c:=⟨m[k]'(by omega),by simp⟩
    obtain ⟨v,hvk⟩:∃ v,V[k]? = some v:=⟨V[k]'(by omega),by simp⟩
    obtain ⟨a1,a2,a3⟩:=hm.va k f c hfk hck
    obtain ⟨p1,p2,p3⟩:=own_pos g hkl
    refine ⟨k,f,c,v,hkl,rfl,hfk,hck,hvk,(g.ff k hkl).trans hfk,(hlown k hkl).trans a1,(hWown k hkl).trans hvk,p3,?_,a2,a3⟩
    show yOf m (gposV x ((first+k:Nat):Int))+knV ks x ((first+k:Nat):Int)=c
    rw [p1,p2,yOf_get hck,Int.add_zero]
   ·right
    obtain ⟨v,hv⟩:∃ v,ks[y]? = some v:=⟨ks[y]'(by omega),by simp⟩
    have ho:ownV x (y:Int)=false:=by
     cases ho:ownV x (y:Int) with
     | false=>rfl
     | true=>have:=(own_iff hf (by omega) hfn _).1 ho;omega
    obtain ⟨p1,p2,_⟩:=not_own g ho hv
    refine ⟨v,hv,(hlnot y c1).trans hv,(hWnot y c1).trans hv,ho,?_⟩
    show yOf m (gposV x (y:Int))+knV ks x (y:Int)=vnum v
    rw [p1,p2,y0,Int.zero_add]
  have kindOf:∀ (y:Nat) (v:T5),ks[y]? = some v→(v.Kind==0)=false→textV F (y:Int)=true→v.Kind=2:=fun y v hv hk0 ht=>by
   rcases g.fits y v hv with h | ⟨f,h1,h2⟩
   ·rw [(zero_num h).1] at hk0;cases hk0
   ·rw [(fits_num (g.so f (List.mem_of_getElem? h1)) h2).1]
    exact text_kind ht h1
  obtain ⟨T,s,s0,t1,t2,t3,t4⟩:=texts_is (N:=N) (by omega) (ok:=True) (l0:=l0) (W:=W) (nb:=fun y=>nb (y:Int)) (tx:=fun y=>textV F (y:Int)=true) (by omega) x first hf (by omega) hfn (by omega) (by rw [hbl];exact g.hin)
   (fun e he a b ea eb _=>by
    obtain ⟨q1,q2⟩:=g.tv e he
    rw [ea] at q1
    rw [eb] at q2
    obtain ⟨a',b',v,w,e1,e2,ha,hb,h1,h2,h3⟩:=eq_unk (k2' e he)
    have:a'=a:=by omega
    subst this
    have:b'=b:=by omega
    subst this
    obtain ⟨z1,z2⟩:=hz.eqs e he
    have r1:=nbB _ z1
    have r2:=nbB _ z2
    simp only [ea,eb] at r1 r2
    refine ⟨fun v' w' hv' hw'=>?_,by show nb (a':Int)=nb (b':Int);omega,q1,q2⟩
    rw [ha] at hv';cases hv'
    rw [hb] at hw';cases hw'
    exact h3)
   (fun _ y v w ho hkd hv hw=>by
    have hyl:y < ks.length:=by have:=(List.getElem?_eq_some_iff.1 hv).1;omega
    rcases place y hyl with ⟨k,f,c,v',_,_,_,_,_,_,_,_,ho',_⟩ | ⟨v',p1,p2,p3,p4,p5⟩
    ·rw [ho] at ho';cases ho'
    ·rw [p2] at hv;cases hv
     rw [p3] at hw;cases hw
     refine ⟨rfl,fun ht=>?_⟩
     have hkd:(v.Kind==0)=false:=by simpa [bne] using hkd
     have h2:=kindOf y v p1 hkd ht
     show (v.S.size:Int)=nb (y:Int)
     rw [p5]
     unfold vnum
     rw [h2];rfl)
  have hTl:T.length=ks.length:=by rw [t2.ll];exact hbl
  -- what is in the end at each place
  have num:∀ (y:Nat) (v:T5),T[y]? = some v→vnum v=nb (y:Int):=fun y v hv=>by
   have hyl:y < ks.length:=by have:=(List.getElem?_eq_some_iff.1 hv).1;omega
   obtain ⟨l,hl⟩:∃ l,l0[y]? = some l:=⟨l0[y]'(by omega),by simp⟩
   obtain ⟨w,hw⟩:∃ w,W[y]? = some w:=⟨W[y]'(by omega),by simp⟩
   have hnl:vnum l=nb (y:Int):=by
    rcases place y hyl with ⟨k,f,c,v',_,e,p1,_,_,_,p5,_,_,p8,p9,_⟩ | ⟨v',_,p2,_,_,p5⟩
    ·rw [p5] at hl;cases hl
     rw [p8];exact (try_num (g.sx p1) p9).1
    ·rw [p2] at hl;cases hl
     exact p5.symm
   obtain ⟨q1,q2⟩:=t2.kn y l v hl hv
   obtain ⟨sy,hsy⟩:∃ b,s[y]? = some b:=⟨s[y]'(by have:=t2.ls;omega),by simp⟩
   cases sy with
   | false =>
    have:=t2.un y hsy
    rw [hv,hl] at this
    cases this
    exact hnl
   | true =>
    by_cases hk2:v.Kind=2
    ·have htx:textV F (y:Int)=true:=by
      unfold textV
      rw [idx_nat]
      rcases place y hyl with ⟨k,f,c,v',_,e,p1,_,_,p4,p5,_,_,_,p9,_⟩ | ⟨v',p1,p2,_,_,_⟩
      ·rw [p5] at hl;cases hl
       rw [p4]
       have:=(try_num (g.sx p1) p9).2
       rw [← q1,hk2] at this
       show (f.Sort'.Kind==2)=true
       rw [← this];rfl
      ·rw [p2] at hl;cases hl
       rcases g.fits y l p1 with h | ⟨f,h1,h2⟩
       ·have:=(zero_num h).1;omega
       ·rw [h1]
        have:=(fits_num (g.so f (List.mem_of_getElem? h1)) h2).1
        show (f.Sort'.Kind==2)=true
        rw [← this,← q1,hk2];rfl
     have:=(t2.st trivial y v w hsy hv hw).2 htx
     unfold vnum
     rw [hk2]
     exact this
    ·rw [← hnl]
     unfold vnum
     have e1:(v.Kind==2)=false:=by simpa using hk2
     have e2:(l.Kind==2)=false:=by rw [← q1];exact e1
     rw [e1,e2]
     exact q2
  have unk:∀ y:Int,y < (ks.length:Int)→unkV W y=false→unkV T y=false∧nvV T y=nb y:=fun y hyl hy=>by
   by_cases hn:y < 0
   ·have e1:gposV x y=0:=by unfold gposV;rw [dT hn];rfl
    have e2:knV ks x y=0:=by unfold knV;rw [dT hn];rfl
    refine ⟨by unfold unkV;rw [dT hn];rfl,?_⟩
    show _=yOf m (gposV x y)+knV ks x y
    rw [e1,e2]
    unfold nvV;rw [dT hn];rfl
   ·obtain ⟨k,rfl⟩:=Int.eq_ofNat_of_zero_le (show 0≤y by omega)
    have hkl:k < ks.length:=by omega
    obtain ⟨v,hv⟩:∃ v,T[k]? = some v:=⟨T[k]'(by omega),by simp⟩
    obtain ⟨l,hl⟩:∃ l,l0[k]? = some l:=⟨l0[k]'(by omega),by simp⟩
    obtain ⟨w,hw⟩:∃ w,W[k]? = some w:=⟨W[k]'(by omega),by simp⟩
    rw [(unk_nat hv).1,(unk_nat hv).2]
    rw [(unk_nat hw).1] at hy
    refine ⟨?_,num k v hv⟩
    have q1:=(t2.kn k l v hl hv).1
    rw [q1]
    rcases place k hkl with ⟨_,f,c,v',_,e,p1,_,_,p4,p5,_,_,_,p9,_⟩ | ⟨v',p1,p2,p3,_,_⟩
    ·rw [p5] at hl;cases hl
     have h1:=g.sx p1
     rw [(try_num h1 p9).2]
     unfold sortOk at h1
     simp;omega
    ·rw [p2] at hl;cases hl
     rw [p3] at hw;cases hw
     exact hy
  have hkeepT:keepsV x.Guard T=true:=by
   unfold keepsV
   rw [Bool.and_eq_true,allV_iff,allV_iff]
   refine ⟨fun i b hb=>?_,fun i e he=>?_⟩
   ·have hbm:=List.mem_of_getElem? hb
    have hd:=k1' b hbm
    unfold diffV at hd ⊢
    simp only [Bool.and_eq_true,Bool.not_eq_true'] at hd ⊢
    obtain ⟨a1,a2,_⟩:=hd
    have hi:=g.hin.d b hbm
    obtain ⟨c1,c2⟩:=unk b.X hi.1 a1
    obtain ⟨c3,c4⟩:=unk b.Y hi.2 a2
    have h1:=nbS b.X
    have h2:=nbS b.Y
    have h3:=nbB b (hz.dif b hbm)
    rw [c2,c4,w64_id (by omega) (by omega),decide_eq_false_iff_not]
    exact ⟨c1,c3,by omega⟩
   ·have hem:=List.mem_of_getElem? he
    obtain ⟨a,b,v,w,e1,e2,ha,hb,h1,h2,h3⟩:=eq_unk (k2' e hem)
    have hi:=g.hin.e e hem
    obtain ⟨tva,htva⟩:∃ v,T[a]? = some v:=⟨T[a]'(by omega),by simp⟩
    obtain ⟨tvb,htvb⟩:∃ v,T[b]? = some v:=⟨T[b]'(by omega),by simp⟩
    have ua:=(unk (a:Int) (by omega) ((unk_nat ha).1.trans h1)).1
    have ub:=(unk (b:Int) (by omega) ((unk_nat hb).1.trans h2)).1
    rw [(unk_nat htva).1] at ua
    rw [(unk_nat htvb).1] at ub
    unfold eqV
    rw [e1,e2,idx_nat,idx_nat,htva,htvb]
    simp only [ua,ub,Bool.not_false,Bool.true_and]
    have hss:=t3 e hem a b e1 e2
    suffices hS:tva.S=tvb.S by rw [hS];simp
    obtain ⟨sa,hsa⟩:∃ q,s[a]? = some q:=⟨s[a]'(by have:=t2.ls;omega),by simp⟩
    rw [hsa] at hss
    cases sa with
    | true =>
     rw [(t2.st trivial a tva v hsa htva ha).1,(t2.st trivial b tvb w hss.symm htvb hb).1]
     exact h3
    | false =>
     have g1:=t2.un a hsa
     have g2:=t2.un b hss.symm
     obtain ⟨z1,z2⟩:=hz.eqs e hem
     have r1:=nbB _ z1
     have r2:=nbB _ z2
     simp only [e1,e2] at r1 r2
     obtain ⟨q1,q2⟩:=g.tv e hem
     rw [e1] at q1
     rw [e2] at q2
     have own:∀ (y:Nat) (v:T5),y < ks.length→s[y]? = some false→W[y]? = some v→(v.Kind==0)=false→textV F (y:Int)=true→l0[y]? = some ⟨2,0,repB (nb (y:Int))⟩:=fun y v hyl hsy hwy hk0 ht=>by
      rcases place y hyl with ⟨_,f,c,v',_,e,p1,_,_,p4,p5,_,_,p8,p9,_⟩ | ⟨v',p1,p2,p3,p4,_⟩
      ·rw [p5,p8]
       unfold tryV
       rw [text_kind ht p4];rfl
      ·rw [p3] at hwy;cases hwy
       have:=t4 y v p2
       rw [p4] at this
       have hs:s0[y]? = some true:=by rw [this];simp only [bne,hk0];rfl
       have:=(t2.fx y hs).1
       rw [hsy] at this;cases this
     have o1:=own a v (by omega) hsa ha h1 q1
     have o2:=own b w (by omega) hss.symm hb h2 q2
     rw [htva,o1] at g1
     rw [htvb,o2] at g2
     cases g1
     cases g2
     show repB (nb (a:Int))=repB (nb (b:Int))
     rw [show nb (a:Int)=nb (b:Int) by omega]
  have hfitT:fitV x.Fields (midV first x.Fields.length T)=true:=by
   have hml:=mid_len (T:=T) (first:=first) (n:=x.Fields.length) (by omega)
   unfold fitV
   rw [Bool.and_eq_true,allV_iff,decide_eq_true_eq]
   refine ⟨hml.symm,fun k v hv=>?_⟩
   rw [Nat.zero_add]
   have hkl:k < x.Fields.length:=by have:=(List.getElem?_eq_some_iff.1 hv).1;omega
   rw [mid_get hkl] at hv
   have hyl:first+k < ks.length:=by omega
   have hnum:=num (first+k) v hv
   rcases place (first+k) hyl with ⟨k',f,c,u,p0,e,p1,p2,p3,p4,p5,p6,p7,p8,p9,p10⟩ | ⟨v',p1,p2,p3,p4,_⟩
   ·have:k'=k:=by omega
    subst this
    unfold fitAt
    rw [p1]
    show fitsV f.Sort' v=true
    have hso:=g.sx p1
    obtain ⟨n1,n2⟩:=try_num hso p9
    obtain ⟨q1,q2⟩:=t2.kn _ _ _ p5 hv
    have huf:=fit_get hfit p1 p3
    have hS:v.S=u.S∨v=tryV f c:=by
     obtain ⟨sy,hsy⟩:∃ b,s[first+k']? = some b:=⟨s[first+k']'(by have:=t2.ls;omega),by simp⟩
     cases sy with
     | false =>
      right
      have:=t2.un _ hsy
      rw [hv,p5] at this
      cases this;rfl
     | true=>exact .inl (t2.st trivial _ v u hsy hv p6).1
    have hukd:=(fits_num hso huf).1
    have hvk:v.Kind=f.Sort'.Kind:=q1.trans n2
    unfold fitsV at huf ⊢
    simp only [Bool.and_eq_true,decide_eq_true_eq,beq_iff_eq] at huf ⊢
    refine ⟨hvk,by omega,by omega,?_⟩
    have h3:=huf.2.2.2
    unfold sortOk at hso
    rcases hso with hso | hso
    ·rw [show (v.Kind==1)=true by rw [hvk,hso.1];rfl]
     rw [show (u.Kind==1)=true by rw [hukd,hso.1];rfl] at h3
     simp only [cT] at h3 ⊢
     rcases hS with h | h
     ·rw [h];exact h3
     ·rw [h]
      unfold tryV
      rw [hso.1]
      show ((str []).toList==(str []).toList)=true
      simp
    ·rw [show (v.Kind==1)=false by rw [hvk,hso.1];rfl]
     rw [show (u.Kind==1)=false by rw [hukd,hso.1];rfl] at h3
     simp only [cF,Bool.and_eq_true,Bool.not_eq_true',beq_iff_eq] at h3 ⊢
     refine ⟨?_,?_⟩
     ·rw [q2]
      unfold tryV
      rw [hso.1];rfl
     ·rcases hS with h | h
      ·rw [h];exact h3.2
      ·rw [h]
       unfold tryV
       rw [hso.1]
       exact repB_good c
   ·have:=(own_pos g hkl).2.2
    rw [this] at p4;cases p4
  have hTs:∀ u∈T,u.S.size≤4194304:=t2.sz 4194304 (fun v hv=>by
   obtain ⟨y,hy⟩:=List.mem_iff_getElem?.1 hv
   have hyl:y < ks.length:=by have:=(List.getElem?_eq_some_iff.1 hy).1;omega
   rcases place y hyl with ⟨k',f,c,u,p0,e,p1,p2,p3,p4,p5,p6,p7,p8,p9,p10⟩ | ⟨v',p1,p2,p3,p4,_⟩
   ·rw [p5] at hy;cases hy
    have hso:=g.sx p1
    unfold sortOk at hso
    have:=try_size (f:=f) (c:=c) (by omega)
    omega
   ·rw [p2] at hy;cases hy
    exact g.sz v (List.mem_of_getElem? p1))
  refine ⟨midV first x.Fields.length T,?_,fun i hi hj=>?_,fun k u r hu hr=>?_⟩
  ·rw [e,k1_is hN g v0 hm.vl T (by rw [hl0];exact t1) hTl hTs,hkeepT,hfitT];rfl
  ·have uR:∀ k,k < x.Fields.length→uOf (midV first x.Fields.length T) (k+1)=yOf m (k+1):=fun k hkl=>by
    obtain ⟨v,hv⟩:∃ v,T[first+k]? = some v:=⟨T[first+k]'(by omega),by simp⟩
    show (match (midV first x.Fields.length T)[k]? with | some v=>vnum v | none=>0)=_
    rw [mid_get hkl,hv]
    show vnum v=_
    rw [num _ _ hv]
    show yOf m (gposV x ((first+k:Nat):Int))+knV ks x ((first+k:Nat):Int)=_
    obtain ⟨p1,p2,_⟩:=own_pos g hkl
    rw [p1,p2,Int.add_zero]
   rw [uR i hi]
   exact hm.le (uOf V) uK uB u0 i hi (fun j hji=>by rw [hj j hji,uR j (by omega)])
  ·have hkl:k < x.Fields.length:=by rw [← hV];exact (List.getElem?_eq_some_iff.1 hu).1
   rw [mid_get hkl] at hr
   rcases place (first+k) (by omega) with ⟨k',f,c,u',p0,e',p1,p2,p3,p4,p5,p6,p7,p8,p9,p10⟩ | ⟨v',p1,p2,p3,p4,_⟩
   ·have:k'=k:=by omega
    subst this
    rw [hu] at p3
    cases p3
    obtain ⟨sy,hsy⟩:∃ b,s[first+k']? = some b:=⟨s[first+k']'(by have:=t2.ls;omega),by simp⟩
    cases sy with
    | false =>
     right
     have:=t2.un _ hsy
     rw [hr,p5] at this
     cases this
     exact ⟨f,p1,by rw [(try_num (g.sx p1) p9).1]⟩
    | true=>exact .inl (t2.st trivial _ r u hsy hr p6).1
   ·have:=(own_pos g hkl).2.2
    rw [this] at p4;cases p4
end Gp
end
