/- The plain law, part 3: what the functions compute answers as the statement says. -/
import Derived.Test.YtngljfgicoflaaaGreatDoorGuardFillPlain2
set_option linter.all false
section
namespace Gp
open Go Go.Kx Gx
variable {N:Nat}
theorem repB_letters (c:Int):repB c=lettersV c:=by
 have h:repL (str [97]).data.toList c.toNat=List.replicate c.toNat 97:=by
  rw [List.eq_replicate_iff]
  refine ⟨?_,repL_all c.toNat⟩
  rw [repL_len]
  show c.toNat * 1=c.toNat
  omega
 unfold repB lettersV mkB
 rw [h]
theorem fill_false (hN:900000000 < N) (d:List T0) (label:Int) {F:List T2} {x:T0} {first:Nat} {ks:List T5} (g:Sg F x first ks) (hproper:z13 N d label ks=some true) (hidx:idx d label=some x) {R:List T5} (h:z6 N d label ks=some (R,false)):R=[]:=by
 have hf:=g.hf
 have hle:=g.hle
 have hk:=g.hk
 have hfn:=g.hfn
 obtain ⟨z0,hz,⟨e,_⟩ | ⟨m,v0,e,hm⟩⟩:=fill_flow hN d label g hproper hidx
 ·rw [e] at h;cases h;rfl
 ·rw [e] at h
  have hvl:=hm.vl
  have hbl:=behind_len first v0 ks (by omega)
  obtain ⟨T,s,s0,t1,t2,t3,t4⟩:=texts_is (N:=N) (by omega) (ok:=False) (l0:=behindV first v0 ks) (W:=ks) (nb:=fun _=>0) (tx:=fun _=>False) hbl.symm x first hf (by omega) hfn (by omega) (by rw [hbl];exact g.hin) (fun e he a b h1 h2 h=>h.elim) (fun h=>h.elim)
  have hTl:T.length=ks.length:=by rw [t2.ll];exact hbl
  have hTs:∀ u∈T,u.S.size≤4194304:=t2.sz 4194304 (fun v hv=>by
   obtain ⟨y,hy⟩:=List.mem_iff_getElem?.1 hv
   rw [behind_get first v0 ks (by omega)] at hy
   split at hy
   ·rename_i c
    obtain ⟨f,hfy⟩:∃ f,x.Fields[y-first]? = some f:=⟨x.Fields[y-first]'(by omega),by simp⟩
    obtain ⟨c,hcy⟩:∃ c,m[y-first]? = some c:=⟨m[y-first]'(by have:=hm.ml;omega),by simp⟩
    obtain ⟨a1,a2,a3⟩:=hm.va _ f c hfy hcy
    rw [hy] at a1
    cases a1
    have hso:=g.sx hfy
    unfold sortOk at hso
    have:=try_size (f:=f) (c:=c) (by omega)
    omega
   ·exact g.sz v (List.mem_of_getElem? hy))
  rw [k1_is hN g v0 hm.vl T t1 hTl hTs] at h
  cases hc:(keepsV x.Guard T && fitV x.Fields (midV first x.Fields.length T)) with
  | false=>rw [hc] at h;simp at h;exact h
  | true=>rw [hc] at h;simp at h
theorem uOf_get {V:List T5} {k:Nat} {v:T5} (h:V[k]? = some v):uOf V (k+1)=vnum v:=by
 show (match V[k]? with | some v=>vnum v | none=>0)=_;rw [h]
theorem gfill_eq (hN:900000000 < N) (d:List T0) (label:Int) {F:List T2} {x:T0} {first:Nat} {ks:List T5} (g:Sg F x first ks) (hproper:z13 N d label ks=some true) (hex:z24 N d label=some true) (hkn:z25 N d ks=some true) (hidx:idx d label=some x) (hdx:∀ b∈x.Guard.Diffs,-1≤b.X∧-1≤b.Y)
  (hsome:∃ o,z6 N d label ks=some o):z6 N d label ks=z7 N d label ks:=by
 rcases rfill_sound (by omega) d label g hex hkn hidx hdx with ⟨e,hno⟩ | ⟨R,e,hR,hbest⟩
 ·rw [e]
  obtain ⟨⟨R,ok⟩,ho⟩:=hsome
  cases ok with
  | false=>rw [ho,fill_false hN d label g hproper hidx ho]
  | true =>
   obtain ⟨r1,r2,_,_⟩:=fill_true hN d label g hproper hidx ho
   exact absurd ⟨r1,r2⟩ (hno R)
 ·obtain ⟨Q,h1,h2,h3⟩:=fill_bestT hN d label g hproper hidx hR.fit hR.keep
  obtain ⟨q1,q2,q3,_⟩:=fill_true hN d label g hproper hidx h1
  have hQ:OkV x first ks Q:=⟨q1,q2⟩
  have hb:=hbest Q hQ
  have hRl:=hR.len
  have hnum:∀ i,i < x.Fields.length→uOf R (i+1)=uOf Q (i+1):=fun i=>by
   induction i using Nat.strongRecOn with
   | _ i ih =>
    intro hi
    have hle:=h2 i hi (fun j hj=>ih j hj (by omega))
    have a:=List.getElem?_eq_getElem (show i < Q.length by omega)
    have b:=List.getElem?_eq_getElem (show i < R.length by omega)
    have:=(hb i _ _ a b).1
    rw [uOf_get a,uOf_get b] at *
    omega
  have hQR:Q=R:=by
   refine List.ext_getElem? fun k=>?_
   by_cases hk:k < x.Fields.length
   ·have a:=List.getElem?_eq_getElem (show k < Q.length by omega)
    have b:=List.getElem?_eq_getElem (show k < R.length by omega)
    generalize Q[k]=v at a
    generalize R[k]=r at b
    have hn:=hnum k hk
    rw [uOf_get a,uOf_get b] at hn
    rw [a,b]
    have hf:=List.getElem?_eq_getElem hk
    have hfv:=fit_get q1 hf a
    rcases (hb k v r a b).2 hn.symm with h | ⟨hk2,hr⟩
    ·rw [h]
    ·obtain ⟨kd,nn,ss⟩:=v
     have hk2:kd=2:=hk2
     subst hk2
     have hn0:nn=0:=by
      unfold fitsV at hfv
      simp only [Bool.and_eq_true] at hfv
      have:=hfv.2.2.2
      have e:((2:Int)==1)=false:=rfl
      rw [e] at this
      simp only [cF,Bool.and_eq_true,beq_iff_eq] at this
      exact this.1
     subst hn0
     have hS:ss=lettersV (vnum r):=by
      rcases h3 k r ⟨2,0,ss⟩ b a with h | ⟨f,hf',h⟩
      ·have h:ss=r.S:=h
       exact h.trans (congrArg T5.S hr)
      ·have hkind:f.Sort'.Kind=2:=by
        rw [hf] at hf'
        cases hf'
        exact (fits_num (g.sx hf) hfv).1.symm
       unfold tryV at h
       rw [hkind] at h
       have h:(⟨2,0,ss⟩:T5)=⟨2,0,repB (vnum ⟨2,0,ss⟩)⟩:=h
       have hs:ss=repB (vnum ⟨2,0,ss⟩):=congrArg T5.S h
       rw [hs.trans (by rw [← hs]:repB (vnum ⟨2,0,ss⟩)=repB (vnum ⟨2,0,ss⟩)),repB_letters,← hn]
     rw [hr,hS]
   ·rw [List.getElem?_eq_none (by omega),List.getElem?_eq_none (by omega)]
  rw [h1,e,hQR]
end Gp
end
section
namespace Gp
open Go Go.Kx Gx
variable {N:Nat}
theorem diffOk_of {fl:List T2} {g:T3} (h:guardV fl g=true) {d:T1} (hd:d∈g.Diffs):diffOk (fl.length:Int) d:=by
 unfold guardV at h
 simp only [Bool.and_eq_true,decide_eq_true_eq] at h
 have h3:=h.2.1
 rw [allV_iff] at h3
 obtain ⟨i,hi⟩:=List.mem_iff_getElem?.1 hd
 exact of_decide_eq_true (h3 i d hi)
theorem fit_size {fs:List T2} {vs:List T5} (hso:∀ f∈fs,sortOk f.Sort') (h:fitV fs vs=true):∀ v∈vs,v.S.size≤1000:=fun v hv=>by
 obtain ⟨i,hi⟩:=List.getElem?_of_mem hv
 have hl:=fit_len h
 have hil:=(List.getElem?_eq_some_iff.1 hi).1
 have hf:=List.getElem?_eq_getElem (show i < fs.length by omega)
 have hfv:=fit_get h hf hi
 obtain ⟨_,_,_,_,h1,h2⟩:=fits_num (hso _ (List.getElem_mem _)) hfv
 unfold fitsV at hfv
 simp only [Bool.and_eq_true] at hfv
 have h3:=hfv.2.2.2
 rcases h2 with h2 | h2
 ·rw [h2] at h3
  have e:((1:Int)==1)=true:=rfl
  rw [e,cT] at h3
  have h4:=eq_of_beq h3
  rw [toList_bs,toList_bs] at h4
  rw [size_bs,h4]
  show (bs (str [])).length≤1000
  decide
 ·unfold vnum at h1
  rw [h2] at h1
  have e:((2:Int)==2)=true:=rfl
  simp at h1
  omega
theorem fill_both (hN:1000000000 < N) (d:List T0) (hl:d.length≤1000) (hd:∀ x∈d,SizeD x) (hn:∀ x∈d,NameD x) (label:Int) (ks:List T5) (hk:ks.length≤4194304) (hs:∀ v∈ks,v.S.size≤4194304) :
  ∃ R ok,z6 N d label ks=some (R,ok)∧z7 N d label ks=some (R,ok)∧(ok=true→checkV d label R ks=true)∧R.length≤4∧∀ v∈R,v.S.size≤1000:=by
 have hN':4194304 < N:=by omega
 have hpe:=proper_eq hN' d hl hd hn label ks hk hs
 have hex:=exists_eq hN' d hl hd hn label
 cases hv:validD d with
 | false =>
  have hp:properV d label ks=false:=by unfold properV;rw [hv];simp
  rw [hp] at hpe
  rw [hv] at hex
  refine ⟨[],false,?_,?_,fun h=>(by cases h),by simp,by simp⟩
  ·unfold z6;rw [hpe];rfl
  ·unfold z7;rw [hex];rfl
 | true =>
 have hkn:=refKnown_eq hN' d hl hd hv ks hk hs
 rw [hv] at hex
 cases hr:decide (0≤label∧label < (d.length:Int)) with
 | false =>
  have hp:properV d label ks=false:=by unfold properV;rw [hr];simp
  rw [hp] at hpe
  rw [hr] at hex
  refine ⟨[],false,?_,?_,fun h=>(by cases h),by simp,by simp⟩
  ·unfold z6;rw [hpe];rfl
  ·unfold z7;rw [hex];rfl
 | true =>
 rw [hr] at hex
 have hex:z24 N d label=some true:=hex
 cases hkv:knownV (flat d) ks with
 | false =>
  have hp:properV d label ks=false:=by unfold properV;rw [hkv];simp
  rw [hp] at hpe
  rw [hkv] at hkn
  refine ⟨[],false,?_,?_,fun h=>(by cases h),by simp,by simp⟩
  ·unfold z6;rw [hpe];rfl
  ·unfold z7;rw [hex,hkn];rfl
 | true =>
 have hp:properV d label ks=true:=by unfold properV;rw [hkv,hr,hv];rfl
 rw [hp] at hpe
 rw [hkv] at hkn
 have hr':=of_decide_eq_true hr
 obtain ⟨x,hx⟩:=idx_lt hr'.1 hr'.2
 obtain ⟨i,rfl,hi⟩:=idx_mem hx
 have hmem:=List.mem_of_getElem? hi
 obtain ⟨first,g⟩:=sg_of hv hi (hd x hmem) hkv hs
 have hf:=g.hf
 have hfn:=g.hfn
 have ef:x.First.toNat=first:=by omega
 have hcv:∀ V,checkV d (i:Int) V ks=(fitV x.Fields V && keepsV x.Guard (behindV first V ks)):=fun V=>by
  unfold checkV
  rw [hp,hx,← ef];rfl
 obtain ⟨o,ho,ho4⟩:=fill_some (N:=N) (by omega) d (i:Int) ks x first hpe hx (hd x hmem) hf hfn g.hle (by have:=g.hk;omega) g.hin (fun v hv=>by have:=hs v hv;omega) (fun f hf h2=>by
  obtain ⟨k,hk⟩:=List.mem_iff_getElem?.1 hf
  have:=g.sx hk
  unfold sortOk at this
  omega)
 have hgv:guardV (flat d) x.Guard=true:=by
  obtain ⟨_,_,_,_,_,h2⟩:=valid_at hv hi
  exact guard_of h2
 have hdx:∀ b∈x.Guard.Diffs,-1≤b.X∧-1≤b.Y:=fun b hb=>by
  have:=diffOk_of hgv hb
  unfold diffOk at this
  omega
 have heq:=gfill_eq (by omega) d (i:Int) g hpe hex hkn hx hdx ⟨o,ho⟩
 have hso:∀ f∈x.Fields,sortOk f.Sort':=fun f hf=>sortOk_of hv hmem hf
 rcases rfill_sound hN' d (i:Int) g hex hkn hx hdx with ⟨e,_⟩ | ⟨R,e,hR,_⟩
 ·exact ⟨[],false,heq.trans e,e,fun h=>(by cases h),by simp,by simp⟩
 ·refine ⟨R,true,heq.trans e,e,fun _=>?_,?_,fit_size hso hR.fit⟩
  ·rw [hcv,hR.fit,hR.keep];rfl
  ·rw [hR.len];exact hfn
end Gp
end
section
namespace Gp
open Go Go.Kx Gx
variable {N:Nat}
theorem few_some (hN:4194304 < N) (l:List T0) (hl:l.length≤4194304) (vs ks:List T5):∃ b,z5 N l vs ks=some b∧(b=true→l.length≤60∧vs.length≤30∧ks.length≤60):=by
 obtain ⟨b,h1,h2⟩:=few_loop l hl l N 0 0 rfl (by omega)
 have h1:z12 N l=some b:=h1
 unfold z5
 rw [h1]
 simp only [bS]
 cases b with
 | false=>exact ⟨false,rfl,fun h=>by cases h⟩
 | true =>
  simp only [cT]
  by_cases q1:vs.length≤30
  ·have:decide ((vs.length:Int)≤30)=true:=by simp;omega
   rw [this]
   refine ⟨_,rfl,fun h=>⟨h2 rfl,q1,?_⟩⟩
   have:=of_decide_eq_true h
   omega
  ·have:decide ((vs.length:Int)≤30)=false:=by simp;omega
   rw [this]
   exact ⟨false,rfl,fun h=>by cases h⟩
theorem sameValues (hN:4194304 < N) (a:List T5) (ha:a.length≤4194304):z8 N a a=some true:=by
 unfold z8
 simp only [bne_self_eq_false,cF]
 have key:∀ (r:List T5) (n k:Nat),a.drop k=r→r.length < n→z8_l2 a a n (k:Int)=some true:=by
  intro r
  induction r with
  | nil =>
   intro n k h hn
   obtain ⟨n,rfl⟩:∃ m,n=m+1:=⟨n-1,by simp at hn;omega⟩
   rw [z8_l2,lt_f (drop_nil h)]
   rfl
  | cons x r ih =>
   intro n k h hn
   obtain ⟨n,rfl⟩:∃ m,n=m+1:=⟨n-1,by simp at hn;omega⟩
   obtain ⟨q1,q2,q3⟩:=drop_cons h
   simp only [List.length_cons] at hn
   rw [z8_l2,lt_t q1,w64_succ (by omega)]
   simp only [cT,idx_nat,q2,bS,beq_self_eq_true,Bool.and_true,Bool.true_and,Bool.not_true,cF]
   exact ih n (k+1) q3 (by omega)
 exact key a N 0 rfl (by omega)
theorem guardFill_law (hN:1000000000 < N) (d:List T0) (hl:d.length≤4194304) (hd:∀ x∈d,SizeD x) (hn:∀ x∈d,NameD x) (label:Int) (ks:List T5) (hs:∀ v∈ks,v.S.size≤4194304) (hw:z4 N=some true):law14_GuardFill N d label ks=some true:=by
 have hN':4194304 < N:=by omega
 unfold law14_GuardFill
 simp only [hw,bS,Bool.not_true,cF]
 obtain ⟨b,h1,h2⟩:=few_some hN' d hl [] ks
 rw [h1]
 simp only [bS]
 cases b with
 | false=>rfl
 | true =>
  simp only [Bool.not_true,cF]
  obtain ⟨g1,g2,g3⟩:=h2 rfl
  obtain ⟨R,ok,e1,e2,_,e3,_⟩:=fill_both hN d (by omega) hd hn label ks (by omega) hs
  rw [e1,e2]
  simp only [bS,beq_self_eq_true,cT]
  rw [sameValues hN' R (by omega)];rfl
end Gp
end
section
namespace Gx
open Go Go.Kx
def k_api_Sort (x:T4):Prop:=((Lit.int .i64 x.Kind).wf=true)∧((Lit.int .i64 x.Lo).wf=true)∧((Lit.int .i64 x.Hi).wf=true)
def k_api_Field (x:T2):Prop:=(x.Name.size≤bd)∧(k_api_Sort x.Sort')
def k_api_Diff (x:T1):Prop:=((Lit.int .i64 x.X).wf=true)∧((Lit.int .i64 x.Y).wf=true)∧((Lit.int .i64 x.C).wf=true)
def k_api_Guard (x:T3):Prop:=(x.Diffs.length≤bd∧∀ y∈x.Diffs,k_api_Diff y)∧(x.Equals.length≤bd∧∀ y∈x.Equals,((Lit.int .i64 y.1).wf=true)∧((Lit.int .i64 y.2).wf=true))
def k_api_Decl (x:T0):Prop:=(x.Name.size≤bd)∧(x.Fields.length≤bd∧∀ y∈x.Fields,k_api_Field y)∧((Lit.int .i64 x.First).wf=true)∧(k_api_Guard x.Guard)
def k_api_Value (x:T5):Prop:=((Lit.int .i64 x.Kind).wf=true)∧((Lit.int .i64 x.N).wf=true)∧(x.S.size≤bd)
end Gx
end
section
namespace Gp
open Go Go.Kx Gx
theorem sizeD_of {x:T0} (h:k_api_Decl x):SizeD x:=by
 obtain ⟨_,h1,_,h2⟩:=h
 exact ⟨by have:=h1.1;unfold bd at this;omega,by have:=h2.1.1;unfold bd at this;omega,by have:=h2.2.1;unfold bd at this;omega⟩
theorem nameD_of {x:T0} (h:k_api_Decl x):NameD x:=by
 obtain ⟨h0,h1,_,h2⟩:=h
 exact ⟨by unfold bd at h0;omega,fun f hf=>by have:=(h1.2 f hf).1;unfold bd at this;omega⟩
theorem plain:∀ (x0:(List T0)) (x1:Int) (x2:(List T5)),(x0.length≤bd∧∀ y∈x0,k_api_Decl y)→((Lit.int .i64 x1).wf=true)→(x2.length≤bd∧∀ y∈x2,k_api_Value y)→∃ N,law14_GuardFill N x0 x1 x2=some true:=by
 intro d label ks hd hlab hk
 refine ⟨1000000000+300,?_⟩
 exact guardFill_law (by omega) d (by have:=hd.1;unfold bd at this;omega) (fun x hx=>sizeD_of (hd.2 x hx)) (fun x hx=>nameD_of (hd.2 x hx)) label ks (fun v hv=>by have:=(hk.2 v hv).2.2;unfold bd at this;omega) rfl
end Gp
end
