/- The plain law, part 2: what the functions compute answers as the statement says. -/
import Derived.Test.YtbaebccneokflaaGreatDoorGuardLeastPlain1
set_option linter.all false
section
namespace Gp
open Go Go.Kx Gx
variable {N:Nat}
structure Sg (F:List T2) (x:T0) (first:Nat) (ks:List T5):Prop where
 hx:SizeD x
 hf:x.First=(first:Int)
 hfn:x.Fields.length≤4
 hle:first+x.Fields.length≤ks.length
 hk:ks.length≤24
 hin:InG ks.length x.Guard
 so:∀ f∈F,sortOk f.Sort'
 ff:∀ k,k < x.Fields.length→F[first+k]? = x.Fields[k]?
 fl:F.length=ks.length
 fits:∀ (y:Nat) (v:T5),ks[y]? = some v→zeroV v=true∨∃ f,F[y]? = some f∧fitsV f.Sort' v=true
 tv:∀ e∈x.Guard.Equals,textV F e.1=true∧textV F e.2=true
 dc:∀ b∈x.Guard.Diffs,-20000≤b.C∧b.C≤20000
 sz:∀ v∈ks,v.S.size≤4194304
theorem fits_num {s:T4} {v:T5} (hs:sortOk s) (h:fitsV s v=true):v.Kind=s.Kind∧s.Lo≤numV v∧numV v≤s.Hi∧-1000≤numV v∧numV v≤1000∧(v.Kind=1∨v.Kind=2):=by
 unfold fitsV at h
 simp only [Bool.and_eq_true,decide_eq_true_eq,beq_iff_eq] at h
 unfold sortOk at hs
 omega
theorem zero_num {v:T5} (h:zeroV v=true):v.Kind=0∧numV v=0∧v.N=0:=by
 unfold zeroV at h
 simp only [Bool.and_eq_true,beq_iff_eq] at h
 refine ⟨h.1,?_,h.2.1⟩
 unfold numV
 rw [h.1]
 exact h.2.1
theorem Sg.small {F:List T2} {x:T0} {first:Nat} {ks:List T5} (h:Sg F x first ks):Small ks:=fun i v hv=>by
 rcases h.fits i v hv with h1 | ⟨f,h1,h2⟩
 ·have:=(zero_num h1).2.1;omega
 ·have:=fits_num (h.so f (List.mem_of_getElem? h1)) h2;omega
theorem Sg.sx {F:List T2} {x:T0} {first:Nat} {ks:List T5} (h:Sg F x first ks) {f:T2} {k:Nat} (hf:x.Fields[k]? = some f):sortOk f.Sort':=by
 have hk:=(List.getElem?_eq_some_iff.1 hf).1
 exact h.so f (List.mem_of_getElem? ((h.ff k hk).trans hf))
theorem sg_of {d:List T0} (hv:validD d=true) {i:Nat} {x:T0} (hx:d[i]? = some x) (hsx:SizeD x) {ks:List T5} (hkn:knownV (flat d) ks=true) (hsz:∀ v∈ks,v.S.size≤4194304):∃ first,Sg (flat d) x first ks:=by
 obtain ⟨first,f1,f2,f3,f4,hdv⟩:=valid_at hv hx
 have hkl:=known_len hkn
 have hin:InG ks.length x.Guard:=by rw [← hkl];exact inG_of (guard_of hdv)
 have hg:=guard_of hdv
 have hdv2:=hdv
 unfold declV at hdv2
 simp only [Bool.and_eq_true,decide_eq_true_eq] at hdv2
 have hfirst:first=(flat (d.take i)).length:=by have:=hdv2.2.2.1;omega
 unfold guardV at hg
 simp only [Bool.and_eq_true,decide_eq_true_eq] at hg
 obtain ⟨_,g1,g2⟩:=hg
 rw [allV_iff] at g1 g2
 refine ⟨first,hsx,f1,hdv2.2.1,by omega,by omega,hin,fun f hf=>?_,fun k hk=>?_,hkl,fun y v hy=>?_,fun e he=>?_,fun b hb=>?_,hsz⟩
 ·unfold flat at hf
  obtain ⟨l,hl,hfl⟩:=List.mem_flatten.1 hf
  obtain ⟨x',hx',rfl⟩:=List.mem_map.1 hl
  obtain ⟨i',hi'⟩:=List.mem_iff_getElem?.1 hx'
  obtain ⟨_,_,_,_,_,h⟩:=valid_at hv hi'
  unfold declV at h
  simp only [Bool.and_eq_true] at h
  have h:=h.2.2.2.2.1
  rw [allV_iff] at h
  obtain ⟨k,hk⟩:=List.mem_iff_getElem?.1 hfl
  have:=h k f hk
  unfold fieldV at this
  simp only [Bool.and_eq_true,decide_eq_true_eq] at this
  exact this.2.1
 ·have hcut:flat d=flat (d.take i)++(x.Fields++flat (d.drop (i+1))):=by
   have h1:d=d.take i++x::d.drop (i+1):=by
    obtain ⟨h1,h2⟩:=List.getElem?_eq_some_iff.1 hx
    rw [← h2,List.getElem_cons_drop,List.take_append_drop]
   conv=>lhs;rw [h1]
   rw [flat_app,flat_cons]
  rw [hcut,List.getElem?_append_right (by omega),hfirst,Nat.add_sub_cancel_left,List.getElem?_append_left hk]
 ·unfold knownV at hkn
  simp only [Bool.and_eq_true,decide_eq_true_eq] at hkn
  have h2:=hkn.2
  rw [allV_iff] at h2
  have:=h2 y v hy
  rw [Bool.or_eq_true,Nat.zero_add] at this
  rcases this with h | h
  ·exact .inl h
  ·unfold fitAt at h
   right
   split at h
   ·rename_i f hf
    exact ⟨f,hf,h⟩
   ·cases h
 ·obtain ⟨j,hj⟩:=List.mem_iff_getElem?.1 he
  have:=g2 j e hj
  rwa [Bool.and_eq_true] at this
 ·obtain ⟨j,hj⟩:=List.mem_iff_getElem?.1 hb
  have:=g1 j b hj
  rw [decide_eq_true_eq] at this
  unfold diffOk at this
  omega
def midV (first n:Nat) (T:List T5):List T5:=(T.take (first+n)).drop first
theorem mid_len {first n:Nat} {T:List T5} (h:first+n≤T.length):(midV first n T).length=n:=by
 unfold midV;rw [List.length_drop,List.length_take];omega
theorem mid_get {first n k:Nat} {T:List T5} (hk:k < n):(midV first n T)[k]? = T[first+k]? := by
 unfold midV;rw [List.getElem?_drop,List.getElem?_take,if_pos (by omega)]
theorem k1_is (hN:900000000 < N) {F:List T2} {x:T0} {first:Nat} {ks:List T5} (g:Sg F x first ks)
  (v:List T5) (hv:v.length=x.Fields.length) (T:List T5) (hT:z41 N x (behindV first v ks)=some T) (hTl:T.length=ks.length) (hTs:∀ u∈T,u.S.size≤4194304) :
  z13_k1 N ks x v=some (bif keepsV x.Guard T && fitV x.Fields (midV first x.Fields.length T) then (midV first x.Fields.length T,true) else ([],false)):=by
 have hf:=g.hf
 have hle:=g.hle
 have hk:=g.hk
 have hfn:=g.hfn
 unfold z13_k1
 rw [behind_eq x v ks first hf (by omega) (by omega)]
 simp only [bS]
 rw [hT]
 simp only [bS]
 have hw:w64 (x.First+(x.Fields.length:Int))=((first+x.Fields.length:Nat):Int):=by rw [hf,w64_id (by omega) (by omega)];omega
 have hb:bnd (some x.First) (some (w64 (x.First+(x.Fields.length:Int)))) T.length=some (first,first+x.Fields.length):=by
  unfold bnd
  rw [hw,hf]
  have h1:decide ((0:Int)≤(first:Int))=true:=by simp
  have h2:decide ((first:Int)≤((first+x.Fields.length:Nat):Int))=true:=by simp;omega
  have h3:decide (((first+x.Fields.length:Nat):Int)≤(T.length:Int))=true:=by simp;omega
  simp only [Option.getD_some,h1,h2,h3,Bool.and_true,cT,Int.toNat_natCast]
 have hb2:bnd none none v.length=some (0,v.length):=by
  unfold bnd
  simp
 unfold lsl cpL
 rw [hb,hb2]
 simp only [Option.map_some,bS]
 rw [fulfils_eq (N:=N) (by omega) x.Guard T (by rw [hTl];exact g.hin)]
 simp only [bS]
 have hml:=mid_len (T:=T) (first:=first) (n:=x.Fields.length) (by omega)
 have hm:(T.take (first+x.Fields.length)).drop first=midV first x.Fields.length T:=rfl
 have hR:v.take 0++((T.take (first+x.Fields.length)).drop first).take (min ((T.take (first+x.Fields.length)).drop first).length (v.length-0))++v.drop (0+min ((T.take (first+x.Fields.length)).drop first).length (v.length-0))=midV first x.Fields.length T:=by
  rw [hm,hml,hv]
  rw [List.take_zero,List.nil_append,List.take_of_length_le (by omega),List.drop_of_length_le (by omega),List.append_nil]
 rw [hR]
 cases keepsV x.Guard T with
 | false=>rfl
 | true =>
  simp only [Bool.not_true,cF,Bool.true_and]
  rw [fit_eq (N:=N) (by omega) x.Fields _ (by omega) (fun u hu=>by
   unfold midV at hu
   exact hTs u (List.mem_of_mem_take (List.mem_of_mem_drop hu)))]
  simp only [bS]
  cases fitV x.Fields (midV first x.Fields.length T)<;>rfl
def repB (c:Int):ByteArray:=⟨(repL (str [97]).data.toList c.toNat).toArray⟩
theorem repB_is (c:Int) (h0:0≤c) (h1:c≤800000000):z39 N (str [97]) c=some (repB c):=by
 unfold z39
 have hs:(str [97]).size=1:=rfl
 rw [dT h0,dT (show c≤140737488355328 by omega),hs,dT (show 1 * c.toNat≤140737488355328 by omega)]
 rfl
theorem repB_size (c:Int):(repB c).size=c.toNat:=by
 show (repL (str [97]).data.toList c.toNat).toArray.size=_
 rw [List.size_toArray,repL_len]
 have:(str [97]).data.toList.length=1:=rfl
 rw [this];omega
theorem repL_all (n:Nat):∀ b∈repL (str [97]).data.toList n,b=97:=by
 induction n with
 | zero=>intro b h;cases h
 | succ n ih =>
  intro b h
  rcases List.mem_append.1 h with h | h
  ·have:b∈[(97:UInt8)]:=h
   simpa using this
  ·exact ih b h
theorem repB_good (c:Int):(bs (repB c)).any badB=false:=by
 rw [List.any_eq_false]
 intro b hb
 have:b=97:=repL_all c.toNat b (by simpa [bs,repB] using hb)
 subst this
 decide
def tryV (f:T2) (c:Int):T5:=bif f.Sort'.Kind==2 then ⟨2,0,repB c⟩ else ⟨f.Sort'.Kind,c,(str [])⟩
theorem try_num {f:T2} (hs:sortOk f.Sort') {c:Int} (h0:f.Sort'.Lo≤c):numV (tryV f c)=c∧(tryV f c).Kind=f.Sort'.Kind:=by
 unfold tryV
 unfold sortOk at hs
 cases h:(f.Sort'.Kind==2) with
 | true =>
  have h:f.Sort'.Kind=2:=by simpa using h
  refine ⟨?_,h.symm⟩
  show (((repB c).size:Nat):Int)=c
  rw [repB_size];omega
 | false =>
  refine ⟨?_,rfl⟩
  show (bif f.Sort'.Kind==2 then _ else c)=c
  rw [h];rfl
theorem try_size {f:T2} {c:Int} (h1:c≤1000):(tryV f c).S.size≤1000:=by
 unfold tryV
 cases (f.Sort'.Kind==2) with
 | true=>show (repB c).size≤_;rw [repB_size];omega
 | false=>exact Nat.zero_le _
structure Mdl (ks:List T5) (x:T0) (z0:List T1) (m:List Int) (v0:List T5):Prop where
 ml:m.length=x.Fields.length
 fk:Keep (x.Fields.length+1) fullV (yOf m)
 bk:∀ b∈z0,yOf m (posV x b.X)-yOf m (posV x b.Y)≤maxI (cV ks x b) (-20001)
 le:∀ u:Nat→Int,Keep (x.Fields.length+1) fullV u→(∀ b∈z0,u (posV x b.X)-u (posV x b.Y)≤maxI (cV ks x b) (-20001))→u 0=0→∀ i,i < x.Fields.length→(∀ j,j < i→u (j+1)=yOf m (j+1))→yOf m (i+1)≤u (i+1)
 vl:v0.length=x.Fields.length
 va:∀ (i:Nat) (f:T2) (c:Int),x.Fields[i]? = some f→m[i]? = some c→v0[i]? = some (tryV f c)∧f.Sort'.Lo≤c∧c≤f.Sort'.Hi
theorem fill_flow (hN:900000000 < N) (d:List T0) (label:Int) {F:List T2} {x:T0} {first:Nat} {ks:List T5} (g:Sg F x first ks) (hproper:z33 N d label ks=some true) (hidx:idx d label=some x) :
  ∃ z0,BdX x first ks.length z0∧((z13 N d label ks=some ([],false)∧((∃ b∈z0,(missV ks x b.X || missV ks x b.Y)=true)∨∀ u:Nat→Int,Keep (x.Fields.length+1) fullV u→¬ ∀ b∈z0,u (posV x b.X)-u (posV x b.Y)≤maxI (cV ks x b) (-20001))) ∨
   ∃ m v0,z13 N d label ks=z13_k1 N ks x v0∧Mdl ks x z0 m v0):=by
 have hf:=g.hf
 have hle:=g.hle
 have hk:=g.hk
 have hfn:=g.hfn
 obtain ⟨z0,b1,b2⟩:=bdx_some (N:=N) (by omega) x g.hx ks.length first hf hle (by omega) g.hin (fun f hf=>by
  obtain ⟨k,hk⟩:=List.mem_iff_getElem?.1 hf
  have:=g.sx hk
  unfold sortOk at this
  omega) g.dc
 refine ⟨z0,b2,?_⟩
 unfold z13
 rw [hproper,hidx]
 simp only [bS,Bool.not_true,cF]
 obtain ⟨B,h1,h2⟩:=new_is (N:=N) (by omega) x.Fields.length (by omega)
 rw [h1]
 simp only [bS]
 rw [b1]
 simp only [bS]
 have hlen:=b2.bd.len
 rcases f4_is (N:=N) (by omega) ks g.small x first hf (by omega) hfn z0 b2.bd b2.c z0 N 0 _ fullV rfl (by omega) h2 with ⟨h,e⟩ | ⟨hall,z,A,e,hZ,hkeep⟩
 ·left
  exact ⟨e,.inl h⟩
 ·have e:z13_l4 N ks x z0 N (x.Fields.length:Int) B (0:Int)=z13_k3 N ks x z.N z.B:=e
  rw [e]
  unfold z13_k3
  rcases model_is (N:=N) (by omega) x.Fields.length hfn A z hZ with ⟨m,e,hno⟩ | ⟨m,e,ml,mk,mle⟩
  ·have e:z38 N ⟨z.N,z.B⟩=some (m,false):=e
   rw [e]
   left
   refine ⟨rfl,.inr fun u hu hb=>hno u ((hkeep u).2 ⟨hu,hb⟩)⟩
  ·have e:z38 N ⟨z.N,z.B⟩=some (m,true):=e
   rw [e]
   simp only [bS,Bool.not_true,cF]
   rw [mkLB_ok _ (by omega)]
   simp only [bS]
   obtain ⟨mk1,mk2⟩:=(hkeep _).1 mk
   have hpos:∀ k:Nat,k < x.Fields.length→posV x ((first+k:Nat):Int)=k+1:=fun k hk=>by
    unfold posV
    rw [dF (show ¬ ((first+k:Nat):Int) < 0 by omega),(own_iff hf (by omega) hfn _).2 ⟨by omega,by omega⟩,hf]
    simp only [cF,cT]
    omega
   have hkn:∀ k:Nat,k < x.Fields.length→knV ks x ((first+k:Nat):Int)=0:=fun k hk=>by
    unfold knV
    rw [dF (show ¬ ((first+k:Nat):Int) < 0 by omega),(own_iff hf (by omega) hfn _).2 ⟨by omega,by omega⟩]
    rfl
   have hp0:posV x (-1)=0:=rfl
   have hk0:knV ks x (-1)=0:=rfl
   have hbnd:∀ (i:Nat) (f:T2) (c:Int),x.Fields[i]? = some f→m[i]? = some c→f.Sort'.Lo≤c∧c≤f.Sort'.Hi:=fun i f c hfi hmi=>by
    have hi:=(List.getElem?_eq_some_iff.1 hfi).1
    have hso:=g.sx hfi
    unfold sortOk at hso
    obtain ⟨q1,q2⟩:=b2.fld i f hfi
    have r1:=mk2 _ q1
    have r2:=mk2 _ q2
    unfold cV at r1 r2
    simp only [hpos i hi,hkn i hi,hp0,hk0,yOf_get hmi] at r1 r2
    have y0:yOf m 0=0:=rfl
    rw [y0] at r1 r2
    unfold maxI at r1 r2
    split at r1<;>split at r2<;>omega
   have outer:=loopP (γ:=Option (List T5 × Bool)) x.Fields.length (z13_l2 N ks x (m,true)) (fun v=>z13_k1 N ks x v) (fun i v=>v.length=x.Fields.length∧∀ (k:Nat) (f:T2) (c:Int),k < i→x.Fields[k]? = some f→m[k]? = some c→v[k]? = some (tryV f c)) (by
    intro f v i hi ⟨hv,hvs⟩
    obtain ⟨fl,hfl⟩:∃ fl,x.Fields[i]? = some fl:=⟨x.Fields[i],by simp [hi]⟩
    obtain ⟨mi,hmi⟩:∃ mi,m[i]? = some mi:=⟨m[i]'(by omega),by simp⟩
    obtain ⟨u,hu⟩:∃ u,v[i]? = some u:=⟨v[i]'(by omega),by simp⟩
    have fin:(v.set i (tryV fl mi)).length=x.Fields.length∧∀ (k:Nat) (f:T2) (c:Int),k < i+1→x.Fields[k]? = some f→m[k]? = some c→(v.set i (tryV fl mi))[k]? = some (tryV f c):=by
     refine ⟨by rw [List.length_set];exact hv,fun k f c hk h1 h2=>?_⟩
     by_cases e:i=k
     ·subst e
      rw [hfl] at h1;cases h1
      rw [hmi] at h2;cases h2
      exact List.getElem?_set_self (by omega)
     ·rw [List.getElem?_set_ne e]
      exact hvs k f c (by omega) h1 h2
    refine ⟨v.set i (tryV fl mi),fin,?_⟩
    rw [z13_l2,lt_t hi,w64_succ (by omega)]
    simp only [cT,idx_nat,hfl,hmi,hu,bS,setL'_nat]
    have hb:=hbnd i fl mi hfl hmi
    have hso:=g.sx hfl
    unfold sortOk at hso
    unfold tryV
    cases hk2:(fl.Sort'.Kind==2) with
    | false=>rfl
    | true =>
     have hk2:fl.Sort'.Kind=2:=by simpa using hk2
     simp only [cT,repB_is (N:=N) mi (by omega) (by omega),bS]
     rw [List.getElem?_set,if_pos rfl,if_pos (by omega)]
     simp only [bS,List.set_set]) (by
    intro f v
    rw [z13_l2,lt_f (Nat.le_refl _)];rfl)
   obtain ⟨v,⟨hv,hvs⟩,e2⟩:=outer x.Fields.length N 0 (List.replicate x.Fields.length ⟨0,0,(str [])⟩) (by omega) (by omega) ⟨by simp,fun k f c hk=>by omega⟩
   right
   refine ⟨m,v,e2,ml,mk1,mk2,fun u hu hb hu0 i hi he=>mle u ((hkeep u).2 ⟨hu,hb⟩) hu0 i hi he,hv,fun i f c h1 h2=>⟨hvs i f c (List.getElem?_eq_some_iff.1 h1).1 h1 h2,hbnd i f c h1 h2⟩⟩
end Gp
end
section
namespace Gp
open Go Go.Kx Gx
variable {N:Nat}
theorem unk_congr {T B:List T5} (hT:∀ (y:Nat) (v:T5),T[y]? = some v→(v.Kind==0)=false→B[y]? = some v) {y:Int} (h:unkV T y=false):unkV B y=false∧nvV B y=nvV T y:=by
 unfold unkV at h ⊢
 unfold nvV
 cases hn:decide (y < 0) with
 | true=>exact ⟨rfl,rfl⟩
 | false =>
  rw [hn] at h
  simp only [cF] at h ⊢
  cases hv:idx T y with
  | none=>rw [hv] at h;cases h
  | some v =>
   rw [hv] at h
   obtain ⟨k,rfl,hk⟩:=idx_mem hv
   rw [idx_nat,hT k v hk h]
   exact ⟨h,rfl⟩
theorem keeps_congr {g:T3} {T B:List T5} (hT:∀ (y:Nat) (v:T5),T[y]? = some v→(v.Kind==0)=false→B[y]? = some v) (h:keepsV g T=true):keepsV g B=true:=by
 unfold keepsV at h ⊢
 rw [Bool.and_eq_true] at h ⊢
 obtain ⟨h1,h2⟩:=h
 rw [allV_iff] at h1 h2 ⊢
 rw [allV_iff]
 refine ⟨fun i b hb=>?_,fun i e he=>?_⟩
 ·have:=h1 i b hb
  unfold diffV at this ⊢
  simp only [Bool.and_eq_true,Bool.not_eq_true'] at this ⊢
  obtain ⟨q1,q2,q3⟩:=this
  obtain ⟨a1,a2⟩:=unk_congr hT q1
  obtain ⟨b1,b2⟩:=unk_congr hT q2
  rw [a2,b2]
  exact ⟨a1,b1,q3⟩
 ·have:=h2 i e he
  unfold eqV at this ⊢
  cases ha:idx T e.1 with
  | none=>rw [ha] at this;cases this
  | some a =>
   cases hb:idx T e.2 with
   | none=>rw [ha,hb] at this;cases this
   | some b =>
    rw [ha,hb] at this
    simp only [Bool.and_eq_true,Bool.not_eq_true'] at this
    obtain ⟨k,e1,hk⟩:=idx_mem ha
    obtain ⟨l,e2,hl⟩:=idx_mem hb
    rw [e1,e2,idx_nat,idx_nat,hT k a hk this.1,hT l b hl this.2.1]
    simp only [Bool.and_eq_true,Bool.not_eq_true']
    exact this
theorem fill_true (hN:900000000 < N) (d:List T0) (label:Int) {F:List T2} {x:T0} {first:Nat} {ks:List T5} (g:Sg F x first ks) (hproper:z33 N d label ks=some true) (hidx:idx d label=some x) {R:List T5} (h:z13 N d label ks=some (R,true)) :
  fitV x.Fields R=true∧keepsV x.Guard (behindV first R ks)=true∧R.length=x.Fields.length∧∀ v∈R,v.S.size≤4194304:=by
 have hf:=g.hf
 have hle:=g.hle
 have hk:=g.hk
 have hfn:=g.hfn
 obtain ⟨z0,hz,⟨e,_⟩ | ⟨m,v0,e,hm⟩⟩:=fill_flow hN d label g hproper hidx
 ·rw [e] at h;cases h
 ·rw [e] at h
  have hvl:=hm.vl
  have hbl:=behind_len first v0 ks (by omega)
  obtain ⟨T,s,s0,t1,t2,t3,t4⟩:=texts_is (N:=N) (by omega) (ok:=False) (l0:=behindV first v0 ks) (W:=ks) (nb:=fun _=>0) (tx:=fun _=>False) hbl.symm x first hf (by omega) hfn (by omega) (by rw [hbl];exact g.hin) (fun e he a b h1 h2 h=>h.elim) (fun h=>h.elim)
  have hTl:T.length=ks.length:=by rw [t2.ll];exact hbl
  have hTs:∀ u∈T,u.S.size≤4194304:=t2.sz 4194304 (fun v hv=>by
   obtain ⟨y,hy⟩:=List.mem_iff_getElem?.1 hv
   rw [behind_get first v0 ks (by omega)] at hy
   split at hy
   ·rename_i c
    obtain ⟨f,hfy⟩:∃ f,x.Fields[y-first]? = some f:=⟨x.Fields[y-first]'(by omega),by simp⟩
    obtain ⟨c,hcy⟩:∃ c,m[y-first]? = some c:=⟨m[y-first]'(by have:=hm.ml;omega),by simp⟩
    obtain ⟨a1,a2,a3⟩:=hm.va _ f c hfy hcy
    rw [hy] at a1
    cases a1
    have hso:=g.sx hfy
    unfold sortOk at hso
    have:=try_size (f:=f) (c:=c) (by omega)
    omega
   ·exact g.sz v (List.mem_of_getElem? hy))
  rw [k1_is hN g v0 hm.vl T t1 hTl hTs] at h
  cases hc:(keepsV x.Guard T && fitV x.Fields (midV first x.Fields.length T)) with
  | false=>rw [hc] at h;simp at h
  | true =>
   rw [hc] at h
   simp only [cT,Option.some.injEq,Prod.mk.injEq,and_true] at h
   subst h
   rw [Bool.and_eq_true] at hc
   have hml:=mid_len (T:=T) (first:=first) (n:=x.Fields.length) (by omega)
   refine ⟨hc.2,keeps_congr (fun y v hy hkind=>?_) hc.1,hml,fun v hv=>hTs v (by unfold midV at hv;exact List.mem_of_mem_take (List.mem_of_mem_drop hv))⟩
   rw [behind_get first _ ks (by omega),hml]
   split
   ·rename_i c
    rw [mid_get (by omega),show first+(y-first)=y by omega]
    exact hy
   ·rename_i c
    have hyl:=(List.getElem?_eq_some_iff.1 hy).1
    have hg:=behind_get first v0 ks (by omega) y
    rw [if_neg (by rw [hvl];exact c)] at hg
    obtain ⟨v1,hv1⟩:∃ v1,ks[y]? = some v1:=⟨ks[y]'(by omega),by simp⟩
    rw [hv1] at hg
    have hkk:=(t2.kn y v1 v hg hy).1
    have hs:=t4 y v1 hg
    have hown:ownV x (y:Int)=false:=by
     cases ho:ownV x (y:Int) with
     | false=>rfl
     | true=>have:=(own_iff hf (by omega) hfn _).1 ho;omega
    rw [hown,← hkk] at hs
    have hs:s0[y]? = some true:=by rw [hs];simp only [bne,hkind];rfl
    have:=(t2.fx y hs).2
    rw [hg,hy] at this
    rw [hv1,this]
theorem nv_small {W:List T5} (h:Small W) (y:Int):-1000≤nvV W y∧nvV W y≤1000:=by
 unfold nvV
 cases decide (y < 0) with
 | true=>simp
 | false =>
  simp only [cF]
  split
  ·rename_i v hv
   obtain ⟨i,rfl,hi⟩:=idx_mem hv
   exact h i v hi
  ·omega
def uOf (V:List T5):Nat→Int
 | 0=>0
 | i+1=>match V[i]? with
  | some v=>numV v
  | none=>0
theorem nv_behind {F:List T2} {x:T0} {first:Nat} {ks:List T5} (g:Sg F x first ks) {V:List T5} (hV:V.length=x.Fields.length) (y:Int):nvV (behindV first V ks) y=uOf V (posV x y)+knV ks x y:=by
 have hf:=g.hf
 have hle:=g.hle
 have hk:=g.hk
 have hfn:=g.hfn
 unfold nvV posV knV
 by_cases hn:y < 0
 ·rw [dT hn];rfl
 ·rw [dF hn]
  simp only [cF]
  obtain ⟨k,rfl⟩:=Int.eq_ofNat_of_zero_le (show 0≤y by omega)
  rw [idx_nat,idx_nat,behind_get first V ks (by omega),hV]
  cases ho:ownV x (k:Int) with
  | true =>
   have:=(own_iff hf (by omega) hfn _).1 ho
   rw [if_pos (by omega)]
   simp only [cT,hf]
   rw [show ((k:Int)-(first:Int)).toNat=k-first by omega,Int.add_zero]
   rfl
  | false =>
   rw [if_neg (fun c=>by
    have:=(own_iff hf (by omega) hfn (k:Int)).2 ⟨by omega,by omega⟩
    rw [ho] at this;cases this)]
   simp only [cF]
   show _=(0:Int)+_
   rw [Int.zero_add]
   first | done | (cases ks[k]?<;>rfl)
def Fts (F:List T2) (W:List T5):Prop:=∀ (y:Nat) (v:T5),W[y]? = some v→zeroV v=true∨∃ f,F[y]? = some f∧fitsV f.Sort' v=true
theorem fit_get {fs:List T2} {vs:List T5} (h:fitV fs vs=true) {k:Nat} {f:T2} {v:T5} (h1:fs[k]? = some f) (h2:vs[k]? = some v):fitsV f.Sort' v=true:=by
 unfold fitV at h
 rw [Bool.and_eq_true] at h
 have h:=h.2
 rw [allV_iff] at h
 have:=h k v h2
 rw [Nat.zero_add] at this
 unfold fitAt at this
 rw [h1] at this
 exact this
theorem fts_behind {F:List T2} {x:T0} {first:Nat} {ks:List T5} (g:Sg F x first ks) {V:List T5} (hV:fitV x.Fields V=true):Fts F (behindV first V ks):=fun y v hy=>by
 have hl:=fit_len' hV
 rw [behind_get first V ks (by have:=g.hle;omega)] at hy
 split at hy
 ·rename_i c
  obtain ⟨f,hf⟩:∃ f,x.Fields[y-first]? = some f:=⟨x.Fields[y-first]'(by omega),by simp⟩
  refine .inr ⟨f,?_,fit_get hV hf hy⟩
  have:=g.ff (y-first) (by omega)
  rw [show first+(y-first)=y by omega] at this
  rw [this,hf]
 ·exact g.fits y v hy
where
 fit_len' {fs:List T2} {vs:List T5} (h:fitV fs vs=true):vs.length=fs.length:=by
  unfold fitV at h
  simp only [Bool.and_eq_true,decide_eq_true_eq] at h
  exact h.1.symm
theorem fts_small {F:List T2} {x:T0} {first:Nat} {ks:List T5} (g:Sg F x first ks) {W:List T5} (h:Fts F W):Small W:=fun i v hv=>by
 rcases h i v hv with h1 | ⟨f,h1,h2⟩
 ·have:=(zero_num h1).2.1;omega
 ·have:=fits_num (g.so f (List.mem_of_getElem? h1)) h2;omega
theorem text_kind {F:List T2} {y:Nat} (h:textV F (y:Int)=true) {f:T2} (hf:F[y]? = some f):f.Sort'.Kind=2:=by
 unfold textV at h
 rw [idx_nat,hf] at h
 simpa using h
theorem str_eq {a b:ByteArray} (h:(a.toList==b.toList)=true):a=b:=by
 rw [toList_bs,toList_bs] at h
 exact bs_inj (by simpa using h)
end Gp
end
section
namespace Gp
open Go Go.Kx Gx
variable {N:Nat}
theorem w_miss {F:List T2} {x:T0} {first:Nat} {ks:List T5} (g:Sg F x first ks) {V:List T5} (hV:V.length=x.Fields.length) {y:Int} (h:unkV (behindV first V ks) y=false):missV ks x y=false:=by
 have hf:=g.hf
 have hle:=g.hle
 have hk:=g.hk
 have hfn:=g.hfn
 unfold unkV at h
 unfold missV
 by_cases hn:y < 0
 ·rw [dT hn];rfl
 ·rw [dF hn] at h ⊢
  simp only [cF] at h ⊢
  cases ho:ownV x y with
  | true=>rfl
  | false =>
   simp only [cF]
   obtain ⟨k,rfl⟩:=Int.eq_ofNat_of_zero_le (show 0≤y by omega)
   rw [idx_nat,behind_get first V ks (by omega),if_neg (fun c=>by
    have:=(own_iff hf (by omega) hfn (k:Int)).2 ⟨by omega,by omega⟩
    rw [ho] at this;cases this)] at h
   rw [idx_nat]
   exact h
theorem eq_unk {l:List T5} {e:Int × Int} (h:eqV l e=true):∃ a b:Nat,∃ v w:T5,e.1=(a:Int)∧e.2=(b:Int)∧l[a]? = some v∧l[b]? = some w∧(v.Kind==0)=false∧(w.Kind==0)=false∧v.S=w.S:=by
 unfold eqV at h
 cases ha:idx l e.1 with
 | none=>rw [ha] at h;cases h
 | some v =>
  cases hb:idx l e.2 with
  | none=>rw [ha,hb] at h;cases h
  | some w =>
   rw [ha,hb] at h
   simp only [Bool.and_eq_true,Bool.not_eq_true'] at h
   obtain ⟨a,e1,hk⟩:=idx_mem ha
   obtain ⟨b,e2,hl⟩:=idx_mem hb
   exact ⟨a,b,v,w,e1,e2,hk,hl,h.1,h.2.1,str_eq h.2.2⟩
theorem unk_nat {l:List T5} {k:Nat} {v:T5} (h:l[k]? = some v):unkV l (k:Int)=(v.Kind==0)∧nvV l (k:Int)=numV v:=by
 unfold unkV nvV
 rw [dF (show ¬ (k:Int) < 0 by omega),idx_nat,h]
 exact ⟨rfl,rfl⟩
theorem w_bounds {F:List T2} {x:T0} {first:Nat} {ks:List T5} (g:Sg F x first ks) {V:List T5} (hfit:fitV x.Fields V=true) (hkeep:keepsV x.Guard (behindV first V ks)=true) {z0:List T1} (hz:BdX x first ks.length z0) :
  ∀ b∈z0,(missV ks x b.X || missV ks x b.Y)=false∧nvV (behindV first V ks) b.X-nvV (behindV first V ks) b.Y≤b.C:=by
 have hf:=g.hf
 have hle:=g.hle
 have hk:=g.hk
 have hfn:=g.hfn
 have hV:V.length=x.Fields.length:=(fit_len hfit).symm
 have hfts:=fts_behind g hfit
 have hsm:=fts_small g hfts
 have hown:∀ k:Nat,k < x.Fields.length→ownV x ((first+k:Nat):Int)=true:=fun k hk=>(own_iff hf (by omega) hfn _).2 ⟨by omega,by omega⟩
 have m0:missV ks x (-1)=false:=rfl
 have mk:∀ k:Nat,k < x.Fields.length→missV ks x ((first+k:Nat):Int)=false:=fun k hk=>by
  unfold missV
  rw [dF (show ¬ ((first+k:Nat):Int) < 0 by omega),hown k hk];rfl
 have n0:nvV (behindV first V ks) (-1)=0:=rfl
 unfold keepsV at hkeep
 rw [Bool.and_eq_true] at hkeep
 obtain ⟨k1,k2⟩:=hkeep
 rw [allV_iff] at k1 k2
 have k1':∀ b∈x.Guard.Diffs,diffV (behindV first V ks) b=true:=fun b hb=>by
  obtain ⟨j,hj⟩:=List.mem_iff_getElem?.1 hb
  exact k1 j b hj
 have k2':∀ e∈x.Guard.Equals,eqV (behindV first V ks) e=true:=fun e he=>by
  obtain ⟨j,hj⟩:=List.mem_iff_getElem?.1 he
  exact k2 j e hj
 have heq:∀ e∈x.Guard.Equals,missV ks x e.1=false∧missV ks x e.2=false∧nvV (behindV first V ks) e.1=nvV (behindV first V ks) e.2:=fun e he=>by
  obtain ⟨a,b,v,w,e1,e2,ha,hb,q1,q2,q3⟩:=eq_unk (k2' e he)
  obtain ⟨t1,t2⟩:=g.tv e he
  rw [e1] at t1
  rw [e2] at t2
  obtain ⟨u1,u2⟩:=unk_nat ha
  obtain ⟨u3,u4⟩:=unk_nat hb
  rw [e1,e2]
  refine ⟨w_miss g hV (u1.trans q1),w_miss g hV (u3.trans q2),?_⟩
  rw [u2,u4]
  have kd:∀ (c:Nat) (u:T5),(behindV first V ks)[c]? = some u→(u.Kind==0)=false→textV F (c:Int)=true→u.Kind=2:=fun c u hc hu ht=>by
   rcases hfts c u hc with h | ⟨f,h1,h2⟩
   ·rw [(zero_num h).1] at hu;cases hu
   ·rw [(fits_num (g.so f (List.mem_of_getElem? h1)) h2).1]
    exact text_kind ht h1
  unfold numV
  rw [kd a v ha q1 t1,kd b w hb q2 t2,q3]
  rfl
 intro b hb
 rcases hz.inv b hb with ⟨k,f,hkf,q⟩ | q | ⟨e,he,q⟩
 ·have hkl:=(List.getElem?_eq_some_iff.1 hkf).1
  obtain ⟨v,hv⟩:∃ v,V[k]? = some v:=⟨V[k]'(by omega),by simp⟩
  have hb:(behindV first V ks)[first+k]? = some v:=by
   rw [behind_get first V ks (by omega),if_pos (by omega),Nat.add_sub_cancel_left]
   exact hv
  have hnv:=(unk_nat hb).2
  have hfv:=fits_num (g.sx hkf) (fit_get hfit hkf hv)
  rcases q with q | q
  ·rw [q]
   simp only [m0,mk k hkl,n0,hnv,Bool.or_false]
   exact ⟨trivial,by omega⟩
  ·rw [q]
   simp only [m0,mk k hkl,n0,hnv,Bool.or_false]
   exact ⟨trivial,by omega⟩
 ·have:=k1' b q
  unfold diffV at this
  simp only [Bool.and_eq_true,Bool.not_eq_true'] at this
  obtain ⟨a1,a2,a3⟩:=this
  have h1:=nv_small hsm b.X
  have h2:=nv_small hsm b.Y
  rw [w64_id (by omega) (by omega),decide_eq_false_iff_not] at a3
  rw [w_miss g hV a1,w_miss g hV a2]
  exact ⟨rfl,by omega⟩
 ·obtain ⟨h1,h2,h3⟩:=heq e he
  rcases q with q | q
  ·rw [q]
   simp only [h1,h2,h3,Bool.or_false]
   exact ⟨trivial,by omega⟩
  ·rw [q]
   simp only [h1,h2,h3,Bool.or_false]
   exact ⟨trivial,by omega⟩
theorem own_pos {F:List T2} {x:T0} {first:Nat} {ks:List T5} (g:Sg F x first ks) {k:Nat} (hk:k < x.Fields.length):posV x ((first+k:Nat):Int)=k+1∧knV ks x ((first+k:Nat):Int)=0∧ownV x ((first+k:Nat):Int)=true:=by
 have hf:=g.hf
 have hle:=g.hle
 have hkl:=g.hk
 have hfn:=g.hfn
 have ho:=(own_iff hf (by omega) hfn ((first+k:Nat):Int)).2 ⟨by omega,by omega⟩
 unfold posV knV
 rw [dF (show ¬ ((first+k:Nat):Int) < 0 by omega),ho,hf]
 simp only [cF,cT]
 exact ⟨by omega,trivial,trivial⟩
theorem not_own {F:List T2} {x:T0} {first:Nat} {ks:List T5} (g:Sg F x first ks) {y:Nat} {v:T5} (ho:ownV x (y:Int)=false) (hv:ks[y]? = some v):posV x (y:Int)=0∧knV ks x (y:Int)=numV v∧¬ (first≤y∧y < first+x.Fields.length):=by
 have hf:=g.hf
 have hle:=g.hle
 have hkl:=g.hk
 have hfn:=g.hfn
 unfold posV knV
 rw [dF (show ¬ (y:Int) < 0 by omega),ho,idx_nat,hv]
 refine ⟨rfl,rfl,fun c=>?_⟩
 have:=(own_iff hf (by omega) hfn (y:Int)).2 ⟨by omega,by omega⟩
 rw [ho] at this;cases this
theorem fill_best (hN:900000000 < N) (d:List T0) (label:Int) {F:List T2} {x:T0} {first:Nat} {ks:List T5} (g:Sg F x first ks) (hproper:z33 N d label ks=some true) (hidx:idx d label=some x) {V:List T5} (hfit:fitV x.Fields V=true) (hkeep:keepsV x.Guard (behindV first V ks)=true) :
  ∃ R,z13 N d label ks=some (R,true)∧∀ i,i < x.Fields.length→(∀ j,j < i→uOf V (j+1)=uOf R (j+1))→uOf R (i+1)≤uOf V (i+1):=by
 have hf:=g.hf
 have hle:=g.hle
 have hk:=g.hk
 have hfn:=g.hfn
 have hV:V.length=x.Fields.length:=(fit_len hfit).symm
 have hWl:(behindV first V ks).length=ks.length:=behind_len first V ks (by omega)
 have hfts:=fts_behind g hfit
 have hsm:=fts_small g hfts
 obtain ⟨z0,hz,hcase⟩:=fill_flow hN d label g hproper hidx
 have hwb:=w_bounds g hfit hkeep hz
 have u0:uOf V 0=0:=rfl
 have uS:∀ k,k < x.Fields.length→-1000≤uOf V (k+1)∧uOf V (k+1)≤1000:=fun k hk=>by
  obtain ⟨v,hv⟩:∃ v,V[k]? = some v:=⟨V[k]'(by omega),by simp⟩
  obtain ⟨f,hfk⟩:∃ f,x.Fields[k]? = some f:=⟨x.Fields[k]'(by omega),by simp⟩
  have:=fits_num (g.sx hfk) (fit_get hfit hfk hv)
  have e:uOf V (k+1)=numV v:=by show (match V[k]? with | some v=>numV v | none=>0)=_;rw [hv]
  rw [e];omega
 have uK:Keep (x.Fields.length+1) fullV (uOf V):=fun a b ha hb=>by
  have h1:-1000≤uOf V a∧uOf V a≤1000:=by
   cases a with
   | zero=>rw [u0];omega
   | succ a=>exact uS a (by omega)
  have h2:-1000≤uOf V b∧uOf V b≤1000:=by
   cases b with
   | zero=>rw [u0];omega
   | succ a=>exact uS a (by omega)
  unfold fullV
  split
  ·rename_i e;rw [e];omega
  ·split
   ·omega
   ·split<;>omega
 have uB:∀ b∈z0,uOf V (posV x b.X)-uOf V (posV x b.Y)≤maxI (cV ks x b) (-20001):=fun b hb=>by
  have h1:=(hwb b hb).2
  rw [nv_behind g hV,nv_behind g hV] at h1
  have:=(maxI_le (cV ks x b) (-20001)).1
  unfold cV at this ⊢
  omega
 rcases hcase with ⟨_,⟨b,hb,hm⟩ | hno⟩ | ⟨m,v0,e,hm⟩
 ·rw [(hwb b hb).1] at hm;cases hm
 ·exact absurd uB (hno _ uK)
 ·have hvl:=hm.vl
  have hml:=hm.ml
  have hbl:=behind_len first v0 ks (by omega)
  generalize hW:behindV first V ks=W at *
  have hWown:∀ k,k < x.Fields.length→W[first+k]? = V[k]? := fun k hk=>by
   rw [← hW,behind_get first V ks (by omega),if_pos (by omega),Nat.add_sub_cancel_left]
  have hWnot:∀ y,¬ (first≤y∧y < first+x.Fields.length)→W[y]? = ks[y]? := fun y hy=>by
   rw [← hW,behind_get first V ks (by omega),if_neg (by omega)]
  have hlown:∀ k,k < x.Fields.length→(behindV first v0 ks)[first+k]? = v0[k]? := fun k hk=>by
   rw [behind_get first v0 ks (by omega),if_pos (by omega),Nat.add_sub_cancel_left]
  have hlnot:∀ y,¬ (first≤y∧y < first+x.Fields.length)→(behindV first v0 ks)[y]? = ks[y]? := fun y hy=>by
   rw [behind_get first v0 ks (by omega),if_neg (by omega)]
  generalize hl0:behindV first v0 ks=l0 at *
  have k1k2:=hkeep
  unfold keepsV at k1k2
  rw [Bool.and_eq_true] at k1k2
  obtain ⟨k1,k2⟩:=k1k2
  rw [allV_iff] at k1 k2
  have k1':∀ b∈x.Guard.Diffs,diffV W b=true:=fun b hb=>by
   obtain ⟨j,hj⟩:=List.mem_iff_getElem?.1 hb
   exact k1 j b hj
  have k2':∀ e∈x.Guard.Equals,eqV W e=true:=fun e he=>by
   obtain ⟨j,hj⟩:=List.mem_iff_getElem?.1 he
   exact k2 j e hj
  -- the number that is meant for each variable
  have y0:yOf m 0=0:=rfl
  have yS:∀ p,p < x.Fields.length+1→-10000≤yOf m p∧yOf m p≤10000:=fun p hp=>by
   have h1:=hm.fk p 0 hp (by omega)
   have h2:=hm.fk 0 p (by omega) hp
   rw [y0] at h1 h2
   have f1:fullV p 0≤10000:=by unfold fullV;split<;>(try split)<;>(try split)<;>omega
   have f2:fullV 0 p≤10000:=by unfold fullV;split<;>(try split)<;>(try split)<;>omega
   omega
  let nb:Int→Int:=fun y=>yOf m (posV x y)+knV ks x y
  have nbS:∀ y,-11000≤nb y∧nb y≤11000:=fun y=>by
   have h1:=yS (posV x y) (pos_lt hf (by omega) hfn y)
   have h2:=g.small.kn x y
   show -11000≤yOf m (posV x y)+knV ks x y∧yOf m (posV x y)+knV ks x y≤11000
   omega
  have nbB:∀ b∈z0,nb b.X-nb b.Y≤b.C:=fun b hb=>by
   have h:=hm.bk b hb
   have hc:=hz.c b hb
   have h1:=g.small.kn x b.X
   have h2:=g.small.kn x b.Y
   have h3:=hm.fk (posV x b.Y) (posV x b.X) (pos_lt hf (by omega) hfn b.Y) (pos_lt hf (by omega) hfn b.X)
   have h4:=fullV_le (posV x b.Y) (posV x b.X)
   show yOf m (posV x b.X)+knV ks x b.X-(yOf m (posV x b.Y)+knV ks x b.Y)≤b.C
   unfold cV at h
   unfold maxI at h
   split at h<;>omega
  -- each place: a field, or not
  have place:∀ y:Nat,y < ks.length→(∃ k f c v,k < x.Fields.length∧y=first+k∧x.Fields[k]? = some f∧m[k]? = some c∧V[k]? = some v∧F[y]? = some f∧l0[y]? = some (tryV f c)∧W[y]? = some v∧ownV x (y:Int)=true∧nb (y:Int)=c∧f.Sort'.Lo≤c∧c≤f.Sort'.Hi) ∨
    (∃ v,ks[y]? = some v∧l0[y]? = some v∧W[y]? = some v∧ownV x (y:Int)=false∧nb (y:Int)=numV v):=fun y hy=>by
   by_cases c1:first≤y∧y < first+x.Fields.length
   ·left
    obtain ⟨k,rfl⟩:∃ k,y=first+k:=⟨y-first,by omega⟩
    have hkl:k < x.Fields.length:=by omega
    obtain ⟨f,hfk⟩:∃ f,x.Fields[k]? = some f:=⟨x.Fields[k]'(by omega),by simp⟩
    obtain ⟨c,hck⟩:∃ c,m[k]? = some c:=⟨m[k]'(by omega),by simp⟩
    obtain ⟨v,hvk⟩:∃ v,V[k]? = some v:=⟨V[k]'(by omega),by simp⟩
    obtain ⟨a1,a2,a3⟩:=hm.va k f c hfk hck
    obtain ⟨p1,p2,p3⟩:=own_pos g hkl
    refine ⟨k,f,c,v,hkl,rfl,hfk,hck,hvk,(g.ff k hkl).trans hfk,(hlown k hkl).trans a1,(hWown k hkl).trans hvk,p3,?_,a2,a3⟩
    show yOf m (posV x ((first+k:Nat):Int))+knV ks x ((first+k:Nat):Int)=c
    rw [p1,p2,yOf_get hck,Int.add_zero]
   ·right
    obtain ⟨v,hv⟩:∃ v,ks[y]? = some v:=⟨ks[y]'(by omega),by simp⟩
    have ho:ownV x (y:Int)=false:=by
     cases ho:ownV x (y:Int) with
     | false=>rfl
     | true=>have:=(own_iff hf (by omega) hfn _).1 ho;omega
    obtain ⟨p1,p2,_⟩:=not_own g ho hv
    refine ⟨v,hv,(hlnot y c1).trans hv,(hWnot y c1).trans hv,ho,?_⟩
    show yOf m (posV x (y:Int))+knV ks x (y:Int)=numV v
    rw [p1,p2,y0,Int.zero_add]
  have kindOf:∀ (y:Nat) (v:T5),ks[y]? = some v→(v.Kind==0)=false→textV F (y:Int)=true→v.Kind=2:=fun y v hv hk0 ht=>by
   rcases g.fits y v hv with h | ⟨f,h1,h2⟩
   ·rw [(zero_num h).1] at hk0;cases hk0
   ·rw [(fits_num (g.so f (List.mem_of_getElem? h1)) h2).1]
    exact text_kind ht h1
  obtain ⟨T,s,s0,t1,t2,t3,t4⟩:=texts_is (N:=N) (by omega) (ok:=True) (l0:=l0) (W:=W) (nb:=fun y=>nb (y:Int)) (tx:=fun y=>textV F (y:Int)=true) (by omega) x first hf (by omega) hfn (by omega) (by rw [hbl];exact g.hin)
   (fun e he a b ea eb _=>by
    obtain ⟨q1,q2⟩:=g.tv e he
    rw [ea] at q1
    rw [eb] at q2
    obtain ⟨a',b',v,w,e1,e2,ha,hb,h1,h2,h3⟩:=eq_unk (k2' e he)
    have:a'=a:=by omega
    subst this
    have:b'=b:=by omega
    subst this
    obtain ⟨z1,z2⟩:=hz.eqs e he
    have r1:=nbB _ z1
    have r2:=nbB _ z2
    simp only [ea,eb] at r1 r2
    refine ⟨fun v' w' hv' hw'=>?_,by show nb (a':Int)=nb (b':Int);omega,q1,q2⟩
    rw [ha] at hv';cases hv'
    rw [hb] at hw';cases hw'
    exact h3)
   (fun _ y v w ho hkd hv hw=>by
    have hyl:y < ks.length:=by have:=(List.getElem?_eq_some_iff.1 hv).1;omega
    rcases place y hyl with ⟨k,f,c,v',_,_,_,_,_,_,_,_,ho',_⟩ | ⟨v',p1,p2,p3,p4,p5⟩
    ·rw [ho] at ho';cases ho'
    ·rw [p2] at hv;cases hv
     rw [p3] at hw;cases hw
     refine ⟨rfl,fun ht=>?_⟩
     have hkd:(v.Kind==0)=false:=by simpa [bne] using hkd
     have h2:=kindOf y v p1 hkd ht
     show (v.S.size:Int)=nb (y:Int)
     rw [p5]
     unfold numV
     rw [h2];rfl)
  have hTl:T.length=ks.length:=by rw [t2.ll];exact hbl
  -- what is in the end at each place
  have num:∀ (y:Nat) (v:T5),T[y]? = some v→numV v=nb (y:Int):=fun y v hv=>by
   have hyl:y < ks.length:=by have:=(List.getElem?_eq_some_iff.1 hv).1;omega
   obtain ⟨l,hl⟩:∃ l,l0[y]? = some l:=⟨l0[y]'(by omega),by simp⟩
   obtain ⟨w,hw⟩:∃ w,W[y]? = some w:=⟨W[y]'(by omega),by simp⟩
   have hnl:numV l=nb (y:Int):=by
    rcases place y hyl with ⟨k,f,c,v',_,e,p1,_,_,_,p5,_,_,p8,p9,_⟩ | ⟨v',_,p2,_,_,p5⟩
    ·rw [p5] at hl;cases hl
     rw [p8];exact (try_num (g.sx p1) p9).1
    ·rw [p2] at hl;cases hl
     exact p5.symm
   obtain ⟨q1,q2⟩:=t2.kn y l v hl hv
   obtain ⟨sy,hsy⟩:∃ b,s[y]? = some b:=⟨s[y]'(by have:=t2.ls;omega),by simp⟩
   cases sy with
   | false =>
    have:=t2.un y hsy
    rw [hv,hl] at this
    cases this
    exact hnl
   | true =>
    by_cases hk2:v.Kind=2
    ·have htx:textV F (y:Int)=true:=by
      unfold textV
      rw [idx_nat]
      rcases place y hyl with ⟨k,f,c,v',_,e,p1,_,_,p4,p5,_,_,_,p9,_⟩ | ⟨v',p1,p2,_,_,_⟩
      ·rw [p5] at hl;cases hl
       rw [p4]
       have:=(try_num (g.sx p1) p9).2
       rw [← q1,hk2] at this
       show (f.Sort'.Kind==2)=true
       rw [← this];rfl
      ·rw [p2] at hl;cases hl
       rcases g.fits y l p1 with h | ⟨f,h1,h2⟩
       ·have:=(zero_num h).1;omega
       ·rw [h1]
        have:=(fits_num (g.so f (List.mem_of_getElem? h1)) h2).1
        show (f.Sort'.Kind==2)=true
        rw [← this,← q1,hk2];rfl
     have:=(t2.st trivial y v w hsy hv hw).2 htx
     unfold numV
     rw [hk2]
     exact this
    ·rw [← hnl]
     unfold numV
     have e1:(v.Kind==2)=false:=by simpa using hk2
     have e2:(l.Kind==2)=false:=by rw [← q1];exact e1
     rw [e1,e2]
     exact q2
  have unk:∀ y:Int,y < (ks.length:Int)→unkV W y=false→unkV T y=false∧nvV T y=nb y:=fun y hyl hy=>by
   by_cases hn:y < 0
   ·have e1:posV x y=0:=by unfold posV;rw [dT hn];rfl
    have e2:knV ks x y=0:=by unfold knV;rw [dT hn];rfl
    refine ⟨by unfold unkV;rw [dT hn];rfl,?_⟩
    show _=yOf m (posV x y)+knV ks x y
    rw [e1,e2]
    unfold nvV;rw [dT hn];rfl
   ·obtain ⟨k,rfl⟩:=Int.eq_ofNat_of_zero_le (show 0≤y by omega)
    have hkl:k < ks.length:=by omega
    obtain ⟨v,hv⟩:∃ v,T[k]? = some v:=⟨T[k]'(by omega),by simp⟩
    obtain ⟨l,hl⟩:∃ l,l0[k]? = some l:=⟨l0[k]'(by omega),by simp⟩
    obtain ⟨w,hw⟩:∃ w,W[k]? = some w:=⟨W[k]'(by omega),by simp⟩
    rw [(unk_nat hv).1,(unk_nat hv).2]
    rw [(unk_nat hw).1] at hy
    refine ⟨?_,num k v hv⟩
    have q1:=(t2.kn k l v hl hv).1
    rw [q1]
    rcases place k hkl with ⟨_,f,c,v',_,e,p1,_,_,p4,p5,_,_,_,p9,_⟩ | ⟨v',p1,p2,p3,_,_⟩
    ·rw [p5] at hl;cases hl
     have h1:=g.sx p1
     rw [(try_num h1 p9).2]
     unfold sortOk at h1
     simp;omega
    ·rw [p2] at hl;cases hl
     rw [p3] at hw;cases hw
     exact hy
  have hkeepT:keepsV x.Guard T=true:=by
   unfold keepsV
   rw [Bool.and_eq_true,allV_iff,allV_iff]
   refine ⟨fun i b hb=>?_,fun i e he=>?_⟩
   ·have hbm:=List.mem_of_getElem? hb
    have hd:=k1' b hbm
    unfold diffV at hd ⊢
    simp only [Bool.and_eq_true,Bool.not_eq_true'] at hd ⊢
    obtain ⟨a1,a2,_⟩:=hd
    have hi:=g.hin.d b hbm
    obtain ⟨c1,c2⟩:=unk b.X hi.1 a1
    obtain ⟨c3,c4⟩:=unk b.Y hi.2 a2
    have h1:=nbS b.X
    have h2:=nbS b.Y
    have h3:=nbB b (hz.dif b hbm)
    rw [c2,c4,w64_id (by omega) (by omega),decide_eq_false_iff_not]
    exact ⟨c1,c3,by omega⟩
   ·have hem:=List.mem_of_getElem? he
    obtain ⟨a,b,v,w,e1,e2,ha,hb,h1,h2,h3⟩:=eq_unk (k2' e hem)
    have hi:=g.hin.e e hem
    obtain ⟨tva,htva⟩:∃ v,T[a]? = some v:=⟨T[a]'(by omega),by simp⟩
    obtain ⟨tvb,htvb⟩:∃ v,T[b]? = some v:=⟨T[b]'(by omega),by simp⟩
    have ua:=(unk (a:Int) (by omega) ((unk_nat ha).1.trans h1)).1
    have ub:=(unk (b:Int) (by omega) ((unk_nat hb).1.trans h2)).1
    rw [(unk_nat htva).1] at ua
    rw [(unk_nat htvb).1] at ub
    unfold eqV
    rw [e1,e2,idx_nat,idx_nat,htva,htvb]
    simp only [ua,ub,Bool.not_false,Bool.true_and]
    have hss:=t3 e hem a b e1 e2
    suffices hS:tva.S=tvb.S by rw [hS];simp
    obtain ⟨sa,hsa⟩:∃ q,s[a]? = some q:=⟨s[a]'(by have:=t2.ls;omega),by simp⟩
    rw [hsa] at hss
    cases sa with
    | true =>
     rw [(t2.st trivial a tva v hsa htva ha).1,(t2.st trivial b tvb w hss.symm htvb hb).1]
     exact h3
    | false =>
     have g1:=t2.un a hsa
     have g2:=t2.un b hss.symm
     obtain ⟨z1,z2⟩:=hz.eqs e hem
     have r1:=nbB _ z1
     have r2:=nbB _ z2
     simp only [e1,e2] at r1 r2
     obtain ⟨q1,q2⟩:=g.tv e hem
     rw [e1] at q1
     rw [e2] at q2
     have own:∀ (y:Nat) (v:T5),y < ks.length→s[y]? = some false→W[y]? = some v→(v.Kind==0)=false→textV F (y:Int)=true→l0[y]? = some ⟨2,0,repB (nb (y:Int))⟩:=fun y v hyl hsy hwy hk0 ht=>by
      rcases place y hyl with ⟨_,f,c,v',_,e,p1,_,_,p4,p5,_,_,p8,p9,_⟩ | ⟨v',p1,p2,p3,p4,_⟩
      ·rw [p5,p8]
       unfold tryV
       rw [text_kind ht p4];rfl
      ·rw [p3] at hwy;cases hwy
       have:=t4 y v p2
       rw [p4] at this
       have hs:s0[y]? = some true:=by rw [this];simp only [bne,hk0];rfl
       have:=(t2.fx y hs).1
       rw [hsy] at this;cases this
     have o1:=own a v (by omega) hsa ha h1 q1
     have o2:=own b w (by omega) hss.symm hb h2 q2
     rw [htva,o1] at g1
     rw [htvb,o2] at g2
     cases g1
     cases g2
     show repB (nb (a:Int))=repB (nb (b:Int))
     rw [show nb (a:Int)=nb (b:Int) by omega]
  have hfitT:fitV x.Fields (midV first x.Fields.length T)=true:=by
   have hml:=mid_len (T:=T) (first:=first) (n:=x.Fields.length) (by omega)
   unfold fitV
   rw [Bool.and_eq_true,allV_iff,decide_eq_true_eq]
   refine ⟨hml.symm,fun k v hv=>?_⟩
   rw [Nat.zero_add]
   have hkl:k < x.Fields.length:=by have:=(List.getElem?_eq_some_iff.1 hv).1;omega
   rw [mid_get hkl] at hv
   have hyl:first+k < ks.length:=by omega
   have hnum:=num (first+k) v hv
   rcases place (first+k) hyl with ⟨k',f,c,u,p0,e,p1,p2,p3,p4,p5,p6,p7,p8,p9,p10⟩ | ⟨v',p1,p2,p3,p4,_⟩
   ·have:k'=k:=by omega
    subst this
    unfold fitAt
    rw [p1]
    show fitsV f.Sort' v=true
    have hso:=g.sx p1
    obtain ⟨n1,n2⟩:=try_num hso p9
    obtain ⟨q1,q2⟩:=t2.kn _ _ _ p5 hv
    have huf:=fit_get hfit p1 p3
    have hS:v.S=u.S∨v=tryV f c:=by
     obtain ⟨sy,hsy⟩:∃ b,s[first+k']? = some b:=⟨s[first+k']'(by have:=t2.ls;omega),by simp⟩
     cases sy with
     | false =>
      right
      have:=t2.un _ hsy
      rw [hv,p5] at this
      cases this;rfl
     | true=>exact .inl (t2.st trivial _ v u hsy hv p6).1
    have hukd:=(fits_num hso huf).1
    have hvk:v.Kind=f.Sort'.Kind:=q1.trans n2
    unfold fitsV at huf ⊢
    simp only [Bool.and_eq_true,decide_eq_true_eq,beq_iff_eq] at huf ⊢
    refine ⟨hvk,by omega,by omega,?_⟩
    have h3:=huf.2.2.2
    unfold sortOk at hso
    rcases hso with hso | hso
    ·rw [show (v.Kind==1)=true by rw [hvk,hso.1];rfl]
     rw [show (u.Kind==1)=true by rw [hukd,hso.1];rfl] at h3
     simp only [cT] at h3 ⊢
     rcases hS with h | h
     ·rw [h];exact h3
     ·rw [h]
      unfold tryV
      rw [hso.1]
      show ((str []).toList==(str []).toList)=true
      simp
    ·rw [show (v.Kind==1)=false by rw [hvk,hso.1];rfl]
     rw [show (u.Kind==1)=false by rw [hukd,hso.1];rfl] at h3
     simp only [cF,Bool.and_eq_true,Bool.not_eq_true',beq_iff_eq] at h3 ⊢
     refine ⟨?_,?_⟩
     ·rw [q2]
      unfold tryV
      rw [hso.1];rfl
     ·rcases hS with h | h
      ·rw [h];exact h3.2
      ·rw [h]
       unfold tryV
       rw [hso.1]
       exact repB_good c
   ·have:=(own_pos g hkl).2.2
    rw [this] at p4;cases p4
  have hTs:∀ u∈T,u.S.size≤4194304:=t2.sz 4194304 (fun v hv=>by
   obtain ⟨y,hy⟩:=List.mem_iff_getElem?.1 hv
   have hyl:y < ks.length:=by have:=(List.getElem?_eq_some_iff.1 hy).1;omega
   rcases place y hyl with ⟨k',f,c,u,p0,e,p1,p2,p3,p4,p5,p6,p7,p8,p9,p10⟩ | ⟨v',p1,p2,p3,p4,_⟩
   ·rw [p5] at hy;cases hy
    have hso:=g.sx p1
    unfold sortOk at hso
    have:=try_size (f:=f) (c:=c) (by omega)
    omega
   ·rw [p2] at hy;cases hy
    exact g.sz v (List.mem_of_getElem? p1))
  refine ⟨midV first x.Fields.length T,?_,fun i hi hj=>?_⟩
  ·rw [e,k1_is hN g v0 hm.vl T (by rw [hl0];exact t1) hTl hTs,hkeepT,hfitT];rfl
  ·have uR:∀ k,k < x.Fields.length→uOf (midV first x.Fields.length T) (k+1)=yOf m (k+1):=fun k hkl=>by
    obtain ⟨v,hv⟩:∃ v,T[first+k]? = some v:=⟨T[first+k]'(by omega),by simp⟩
    show (match (midV first x.Fields.length T)[k]? with | some v=>numV v | none=>0)=_
    rw [mid_get hkl,hv]
    show numV v=_
    rw [num _ _ hv]
    show yOf m (posV x ((first+k:Nat):Int))+knV ks x ((first+k:Nat):Int)=_
    obtain ⟨p1,p2,_⟩:=own_pos g hkl
    rw [p1,p2,Int.add_zero]
   rw [uR i hi]
   exact hm.le (uOf V) uK uB u0 i hi (fun j hji=>by rw [hj j hji,uR j (by omega)])
end Gp
end
section
namespace Gp
open Go Go.Kx Gx
variable {N:Nat}
theorem numbers_is (hN:4194304 < N) (l:List T5) (hl:l.length≤4194304):z17 N l=some (l.map numV):=by
 have key:∀ (r:List T5) (n k:Nat) (a:List Int),l.drop k=r→r.length < n→a=(l.take k).map numV→z17_l2 N l n a (k:Int)=some (l.map numV):=by
  intro r
  induction r with
  | nil =>
   intro n k a h hn ha
   obtain ⟨n,rfl⟩:∃ m,n=m+1:=⟨n-1,by simp at hn;omega⟩
   rw [z17_l2,lt_f (drop_nil h),ha,List.take_of_length_le (drop_nil h)];rfl
  | cons v r ih =>
   intro n k a h hn ha
   obtain ⟨n,rfl⟩:∃ m,n=m+1:=⟨n-1,by simp at hn;omega⟩
   obtain ⟨q1,q2,q3⟩:=drop_cons h
   simp only [List.length_cons] at hn
   have hal:a.length=k:=by rw [ha,List.length_map,List.length_take];omega
   rw [z17_l2,lt_t q1,w64_succ (by omega)]
   simp only [cT,idx_nat,q2,bS,refNumber_eq]
   rw [appL_some (by simp;omega)]
   simp only [bS]
   exact ih n (k+1) _ q3 (by omega) (by rw [List.take_add_one,q2,List.map_append,ha];rfl)
 exact key l N 0 [] rfl (by omega) rfl
theorem uOf_map {V:List T5} {k:Nat} {c:Int} (h:(V.map numV)[k]? = some c):uOf V (k+1)=c:=by
 rw [List.getElem?_map] at h
 show (match V[k]? with | some v=>numV v | none=>0)=c
 cases hv:V[k]? with
 | none=>rw [hv] at h;cases h
 | some v=>rw [hv] at h;exact Option.some.inj h
theorem lex_is (hN:4194304 < N) (R V:List T5) (hl:R.length≤4) (hV:V.length=R.length) (h:∀ i,i < R.length→(∀ j,j < i→uOf V (j+1)=uOf R (j+1))→uOf R (i+1)≤uOf V (i+1)):law14_GuardLeast_l2 (R.map numV) (V.map numV) N (0:Int)=some true:=by
 have key:∀ (r n k:Nat),k+r=R.length→r < n→(∀ j,j < k→uOf V (j+1)=uOf R (j+1))→law14_GuardLeast_l2 (R.map numV) (V.map numV) n (k:Int)=some true:=by
  intro r
  induction r with
  | zero =>
   intro n k hk hn he
   obtain ⟨n,rfl⟩:∃ m,n=m+1:=⟨n-1,by omega⟩
   rw [law14_GuardLeast_l2,lt_f (by simp;omega)];rfl
  | succ r ih =>
   intro n k hk hn he
   obtain ⟨n,rfl⟩:∃ m,n=m+1:=⟨n-1,by omega⟩
   obtain ⟨a,ha⟩:∃ a,(R.map numV)[k]? = some a:=⟨_,List.getElem?_eq_getElem (h:=by simp;omega)⟩
   obtain ⟨b,hb⟩:∃ b,(V.map numV)[k]? = some b:=⟨_,List.getElem?_eq_getElem (h:=by simp;omega)⟩
   have ua:=uOf_map ha
   have ub:=uOf_map hb
   have hle:=h k (by omega) he
   rw [law14_GuardLeast_l2,lt_t (by simp;omega),w64_succ (by omega)]
   simp only [cT,idx_nat,ha,hb,bS]
   by_cases hab:a=b
   ·subst hab
    rw [show (a != a)=false by simp]
    simp only [cF]
    exact ih n (k+1) (by omega) (by omega) (fun j hj=>by
     by_cases e:j=k
     ·subst e;omega
     ·exact he j (by omega))
   ·rw [show (a != b)=true by simp [hab]]
    simp only [cT]
    rw [dT (show a < b by omega)]
 exact key R.length N 0 (by omega) (by omega) (fun j hj=>by omega)
theorem guardLeast_law (hN:1000000000 < N) (d:List T0) (hl:d.length≤4194304) (hd:∀ x∈d,SizeD x) (hn:∀ x∈d,NameD x) (label:Int) (c:T6) (hs:SizeC c.Values c.Known):law14_GuardLeast N d label c=some true:=by
 have hN':4194304 < N:=by omega
 unfold law14_GuardLeast
 simp only [z11,bS,Bool.not_true,cF]
 obtain ⟨b,h1,h2⟩:=few_some hN' d hl c.Values c.Known
 rw [h1]
 simp only [bS]
 cases b with
 | false=>rfl
 | true =>
  simp only [Bool.not_true,cF]
  obtain ⟨g1,g2,g3⟩:=h2 rfl
  generalize hvs:c.Values=vs at *
  generalize hks:c.Known=ks at *
  have hpe:=proper_eq hN' d (by omega) hd hn label ks (by omega) hs.k
  rw [check_eq hN' d (by omega) hd hn label vs ks (by omega) (by omega) hs]
  cases hp:properV d label ks with
  | false =>
   rw [hp] at hpe
   have hcv:checkV d label vs ks=false:=by unfold checkV;rw [hp];rfl
   have hfill:z13 N d label ks=some ([],false):=by unfold z13;rw [hpe];rfl
   rw [hfill,hcv];rfl
  | true =>
   rw [hp] at hpe
   have hpp:=hp
   unfold properV at hpp
   simp only [Bool.and_eq_true,decide_eq_true_eq] at hpp
   obtain ⟨⟨p1,p2⟩,p3,p4⟩:=hpp
   obtain ⟨x,hx⟩:=idx_lt p1 p2
   obtain ⟨i,rfl,hi⟩:=idx_mem hx
   obtain ⟨first,g⟩:=sg_of p3 hi (hd x (List.mem_of_getElem? hi)) p4 hs.k
   have hf:=g.hf
   have hfn:=g.hfn
   have ef:x.First.toNat=first:=by omega
   have hcv:∀ V,checkV d (i:Int) V ks=(fitV x.Fields V && keepsV x.Guard (behindV first V ks)):=fun V=>by
    unfold checkV
    rw [hp,hx,← ef];rfl
   have best:checkV d (i:Int) vs ks=true→∃ R,z13 N d (i:Int) ks=some (R,true)∧∀ i,i < x.Fields.length→(∀ j,j < i→uOf vs (j+1)=uOf R (j+1))→uOf R (i+1)≤uOf vs (i+1):=fun h=>by
    rw [hcv,Bool.and_eq_true] at h
    exact fill_best (by omega) d (i:Int) g hpe hx h.1 h.2
   obtain ⟨o,ho,_⟩:=fill_some (N:=N) (by omega) d (i:Int) ks x first hpe hx (hd x (List.mem_of_getElem? hi)) hf hfn g.hle (by have:=g.hk;omega) g.hin (fun v hv=>by have:=hs.k v hv;omega) (fun f hf h2=>by
    obtain ⟨k,hk⟩:=List.mem_iff_getElem?.1 hf
    have:=g.sx hk
    unfold sortOk at this
    omega)
   obtain ⟨R,ok⟩:=o
   rw [ho]
   simp only [bS]
   cases ok with
   | false =>
    simp only [cF]
    cases hc:checkV d (i:Int) vs ks with
    | false=>rfl
    | true =>
     obtain ⟨R',h,_⟩:=best hc
     rw [ho] at h;cases h
   | true =>
    obtain ⟨r1,r2,r3,r4⟩:=fill_true (N:=N) (by omega) d (i:Int) g hpe hx ho
    simp only [cT]
    rw [check_eq hN' d (by omega) hd hn (i:Int) R ks (by omega) (by omega) ⟨r4,hs.k⟩]
    rw [hcv R,r1,r2]
    simp only [Bool.and_true,bS,Bool.not_true,cF]
    cases hc:checkV d (i:Int) vs ks with
    | false=>rfl
    | true =>
     simp only [Bool.not_true,cF]
     rw [numbers_is hN' R (by omega),numbers_is hN' vs (by omega)]
     simp only [bS]
     obtain ⟨R',h,hle⟩:=best hc
     rw [ho] at h
     cases h
     rw [hcv,Bool.and_eq_true] at hc
     have hvl:=fit_len hc.1
     exact lex_is hN' R vs (by omega) (by omega) (fun i hi=>hle i (by omega))
end Gp
end
section
namespace Gx
open Go Go.Kx
def k_api_Sort (x:T4):Prop:=((Lit.int .i64 x.Kind).wf=true)∧((Lit.int .i64 x.Lo).wf=true)∧((Lit.int .i64 x.Hi).wf=true)
def k_api_Field (x:T2):Prop:=(x.Name.size≤bd)∧(k_api_Sort x.Sort')
def k_api_Diff (x:T1):Prop:=((Lit.int .i64 x.X).wf=true)∧((Lit.int .i64 x.Y).wf=true)∧((Lit.int .i64 x.C).wf=true)
def k_api_Guard (x:T3):Prop:=(x.Diffs.length≤bd∧∀ y∈x.Diffs,k_api_Diff y)∧(x.Equals.length≤bd∧∀ y∈x.Equals,((Lit.int .i64 y.1).wf=true)∧((Lit.int .i64 y.2).wf=true))
def k_api_Decl (x:T0):Prop:=(x.Name.size≤bd)∧(x.Fields.length≤bd∧∀ y∈x.Fields,k_api_Field y)∧((Lit.int .i64 x.First).wf=true)∧(k_api_Guard x.Guard)
def k_api_Value (x:T5):Prop:=((Lit.int .i64 x.Kind).wf=true)∧((Lit.int .i64 x.N).wf=true)∧(x.S.size≤bd)
def k_law14_Case (x:T6):Prop:=(x.Values.length≤bd∧∀ y∈x.Values,k_api_Value y)∧(x.Known.length≤bd∧∀ y∈x.Known,k_api_Value y)
end Gx
end
section
namespace Gp
open Go Go.Kx Gx
theorem sizeD_of {x:T0} (h:k_api_Decl x):SizeD x:=by
 obtain ⟨_,h1,_,h2⟩:=h
 exact ⟨by have:=h1.1;unfold bd at this;omega,by have:=h2.1.1;unfold bd at this;omega,by have:=h2.2.1;unfold bd at this;omega⟩
theorem nameD_of {x:T0} (h:k_api_Decl x):NameD x:=by
 obtain ⟨h0,h1,_,h2⟩:=h
 exact ⟨by unfold bd at h0;omega,fun f hf=>by have:=(h1.2 f hf).1;unfold bd at this;omega⟩
theorem sizeC_of {x:T6} (h:k_law14_Case x):SizeC x.Values x.Known :=
 ⟨fun v hv=>by have:=(h.1.2 v hv).2.2;unfold bd at this;omega,fun v hv=>by have:=(h.2.2 v hv).2.2;unfold bd at this;omega⟩
theorem plain:∀ (x0:(List T0)) (x1:Int) (x2:T6),(x0.length≤bd∧∀ y∈x0,k_api_Decl y)→((Lit.int .i64 x1).wf=true)→k_law14_Case x2→∃ N,law14_GuardLeast N x0 x1 x2=some true:=by
 intro d label c hd hlab hc
 refine ⟨1000000000+300,?_⟩
 exact guardLeast_law (by omega) d (by have:=hd.1;unfold bd at this;omega) (fun x hx=>sizeD_of (hd.2 x hx)) (fun x hx=>nameD_of (hd.2 x hx)) label c (sizeC_of hc)
end Gp
end
