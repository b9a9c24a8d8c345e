/- The plain law, part 2: what the functions compute answers as the statement says. -/
import Derived.KernelRfl
import Derived.Test.YtenajajnbmfijaaGreatDoorGlobalCodePlain1
set_option linter.all false
section
namespace Gp
open Go Go.Kx Gx
variable {N:Nat}
structure NameD (x:T0):Prop where
 n:x.Name.size≤4000000
 f:∀ f∈x.Fields,f.Name.size≤4000000
def fieldV (x:T0) (f:T3) (j:Nat):Bool:=isWord f.Name && (decide (sortOk f.Sort') && !((x.Fields.take j).any fun y=>eqStr y.Name f.Name))
def declV (fl:List T3) (l:List T0) (x:T0) (k:Nat):Bool :=
 pathV x.Name && (decide (x.Fields.length≤4) && (decide (x.First=((flat (l.take k)).length:Int)) && (!((l.take k).any fun y=>eqStr y.Name x.Name) && (allV (fieldV x) x.Fields 0 && guardV fl x.Guard))))
def validD (l:List T0):Bool:=decide (l.length≤40) && (decide ((flat l).length≤24) && allV (declV (flat l) l) l 0)
theorem containsD_eq (hN:4194304 < N) (l:List T0) (hl:l.length≤4194304) (x:T0):z177_4 N l x=some (l.any fun y=>eqStr y.Name x.Name):=by
 unfold z177_4 z77_3
 rw [look l hl (fun y k r=>bif eqStr y.Name x.Name then some k else r) (z77_3_l2 N l x) (some (-1)) hN]
 ·obtain ⟨i,h1,h2⟩:=whereV_any (fun y:T0=>eqStr y.Name x.Name) l 0
  rw [h1,bS,h2]
 ·intro n k y hk hy
  simp only [z77_3_l2,lt_t hk,idx_nat,hy,cT,bS,z178_2,eqStr]
 ·intro n k hk
  simp only [z77_3_l2,lt_f hk,cond_false,z77_3_k1]
theorem containsF_eq (hN:4194304 < N) (l:List T3) (hl:l.length≤4194304) (x:T3):z180_7 N l x=some (l.any fun y=>eqStr y.Name x.Name):=by
 unfold z180_7 z190_6
 rw [look l hl (fun y k r=>bif eqStr y.Name x.Name then some k else r) (z190_6_l2 N l x) (some (-1)) hN]
 ·obtain ⟨i,h1,h2⟩:=whereV_any (fun y:T3=>eqStr y.Name x.Name) l 0
  rw [h1,bS,h2]
 ·intro n k y hk hy
  simp only [z190_6_l2,lt_t hk,idx_nat,hy,cT,bS,z181_5,eqStr]
 ·intro n k hk
  simp only [z190_6_l2,lt_f hk,cond_false,z190_6_k1]
theorem flat_next {l:List T0} {k:Nat} {x:T0} (h:l[k]? = some x):(flat (l.take (k+1))).length=(flat (l.take k)).length+x.Fields.length:=by
 rw [List.take_add_one,h]
 show (flat (l.take k++[x])).length=_
 rw [flat_app,List.length_append];simp [flat]
theorem flat_take_le (l:List T0) (k:Nat):(flat (l.take k)).length≤(flat l).length:=by
 have:flat l=flat (l.take k)++flat (l.drop k):=by rw [← flat_app,List.take_append_drop]
 rw [this,List.length_append];omega
theorem valid_eq (hN:4194304 < N) (l:List T0) (hl:l.length≤4194304) (hd:∀ d∈l,SizeD d) (hn:∀ d∈l,NameD d):z158 N l=some (validD l):=by
 unfold z158 validD
 by_cases c1:(l.length:Int) > 40
 ·rw [dT c1,dF (show ¬ l.length≤40 by omega)];rfl
 rw [dF c1,dT (show l.length≤40 by omega),fields_eq hN l (by omega) hd]
 simp only [cond_false,bS,Bool.true_and]
 by_cases c2:((flat l).length:Int) > 24
 ·rw [dT c2,dF (show ¬ (flat l).length≤24 by omega)];rfl
 rw [dF c2,dT (show (flat l).length≤24 by omega)]
 simp only [cond_false,Bool.true_and]
 have hfl:=flat_le l hd
 have h:=allV_from (declV (flat l) l) (xs:=l) (F:=fun n i=>z158_l2 N l (flat l) n ((flat (l.take i.toNat)).length:Int) i) (e:=some true) (n:=N) (by omega) (by
  intro n k x hk hx
  show z158_l2 N l (flat l) (n+1) ((flat (l.take k)).length:Int) (k:Int)=bif declV (flat l) l x k then z158_l2 N l (flat l) n ((flat (l.take (k+1))).length:Int) ((k+1:Nat):Int) else some false
  have hxm:x∈l:=List.mem_of_getElem? hx
  have sx:=hd x hxm
  have nx:=hn x hxm
  have ht:lsl l none (some (k:Int))=some (l.take k):=lsl_to (A:=l.take k) (B:=l.drop k) (List.take_append_drop k l).symm (by simp;omega)
  have hft:=flat_take_le l k
  have hnext:w64 (((flat (l.take k)).length:Int)+(x.Fields.length:Int))=((flat (l.take (k+1))).length:Int):=by rw [flat_next hx,w64_id (by have:=sx.f;omega) (by have:=sx.f;omega)];omega
  have inner:z158_l4 N (flat l) ((flat (l.take k)).length:Int) (k:Int) (z158_l2 N l (flat l) n) x N (0:Int)=bif allV (fieldV x) x.Fields 0 then z158_k3 N (flat l) ((flat (l.take k)).length:Int) (k:Int) (z158_l2 N l (flat l) n) x else some false:=by
   refine allV_from (fieldV x) (by have:=sx.f;omega) ?_ ?_
   ·intro m j f hj hf
    have sf:=sx.f
    have hw:=(word_eq hN f.Name (by have:=nx.f f (List.mem_of_getElem? hf);omega)).1
    have ht':lsl x.Fields none (some (j:Int))=some (x.Fields.take j):=lsl_to (A:=x.Fields.take j) (B:=x.Fields.drop j) (List.take_append_drop j _).symm (by simp;omega)
    have hc:=containsF_eq hN (x.Fields.take j) (by simp;omega) f
    simp only [z158_l4,lt_t hj,cT,idx_nat,hf,bS,hw,sorted_eq,ht',hc,fieldV]
    rw [w64_succ (by omega)]
    cases isWord f.Name<;>cases decide (sortOk f.Sort')<;>cases ((x.Fields.take j).any fun y=>eqStr y.Name f.Name)<;>rfl
   ·intro m j hj
    simp only [z158_l4,lt_f hj,cond_false]
  have hc:=containsD_eq hN (l.take k) (by simp;omega) x
  simp only [z158_l2,lt_t hk,cT,idx_nat,hx,bS,path_eq hN,ht,hc,inner,z158_k3,guarded_eq hN,declV,hnext]
  rw [w64_succ (by omega)]
  have e1:decide ((x.Fields.length:Int) > 4) = !decide (x.Fields.length≤4):=by
   by_cases q:x.Fields.length≤4
   ·rw [dT q,dF (by omega)];rfl
   ·rw [dF q,dT (by omega)];rfl
  have e2:(x.First != ((flat (l.take k)).length:Int)) = !decide (x.First=((flat (l.take k)).length:Int)):=by
   by_cases q:x.First=((flat (l.take k)).length:Int)
   ·rw [dT q];simp [q]
   ·rw [dF q];simp [q]
  rw [e1,e2]
  cases pathV x.Name<;>cases decide (x.Fields.length≤4)<;>cases decide (x.First=((flat (l.take k)).length:Int))<;>cases ((l.take k).any fun y=>eqStr y.Name x.Name)<;>cases allV (fieldV x) x.Fields 0<;>cases guardV (flat l) x.Guard<;>rfl) (by
  intro n k hk
  show z158_l2 N l (flat l) (n+1) ((flat (l.take k)).length:Int) (k:Int)=some true
  simp only [z158_l2,lt_f hk,cond_false,z158_k1])
 have h':z158_l2 N l (flat l) N (0:Int) (0:Int)=bif allV (declV (flat l) l) l 0 then some true else some false:=h
 rw [h']
 cases allV (declV (flat l) l) l 0<;>rfl
theorem allV_not_any {α:Type} (f:α→Bool):∀ (l:List α) (k:Nat),allV (fun y _ => !f y) l k = !(l.any f)
 | [],_=>rfl
 | x::l,k=>by
  show (!f x && allV _ l (k+1))=_
  rw [allV_not_any f l,List.any_cons]
  cases f x<;>rfl
theorem take_get {α:Type} {l:List α} {k i:Nat} {x:α} (h:(l.take k)[i]? = some x):l[i]? = some x∧i < k:=by
 rw [List.getElem?_take] at h
 split at h
 ·exact ⟨h,by assumption⟩
 ·cases h
theorem refValid_eq (hN:4194304 < N) (l:List T0) (hl:l.length≤4194304) (hd:∀ d∈l,SizeD d) (hn:∀ d∈l,NameD d):z113 N l=some (validD l):=by
 unfold z113 validD
 by_cases c1:(l.length:Int) > 40
 ·rw [dT c1,dF (show ¬ l.length≤40 by omega)];rfl
 rw [dF c1,dT (show l.length≤40 by omega),vars_eq hN l (by omega) hd]
 simp only [cond_false,bS,Bool.true_and]
 by_cases c2:((flat l).length:Int) > 24
 ·rw [dT c2,dF (show ¬ (flat l).length≤24 by omega)];rfl
 rw [dF c2,dT (show (flat l).length≤24 by omega)]
 simp only [cond_false,Bool.true_and]
 have hfl:=flat_le l hd
 have h:=allV_from (declV (flat l) l) (xs:=l) (F:=fun n i=>z113_l2 N l n ((flat (l.take i.toNat)).length:Int) i) (e:=some true) (n:=N) (by omega) (by
  intro n k x hk hx
  show z113_l2 N l (n+1) ((flat (l.take k)).length:Int) (k:Int)=bif declV (flat l) l x k then z113_l2 N l n ((flat (l.take (k+1))).length:Int) ((k+1:Nat):Int) else some false
  have hxm:x∈l:=List.mem_of_getElem? hx
  have sx:=hd x hxm
  have nx:=hn x hxm
  have hft:=flat_take_le l k
  have hnext:w64 (((flat (l.take k)).length:Int)+(x.Fields.length:Int))=((flat (l.take (k+1))).length:Int):=by rw [flat_next hx,w64_id (by have:=sx.f;omega) (by have:=sx.f;omega)];omega
  have inner8:z113_l8 N l ((flat (l.take k)).length:Int) (k:Int) (z113_l2 N l n) x N (0:Int)=bif allV (fun y _ => !eqStr y.Name x.Name) (l.take k) 0 then z113_k7 N l ((flat (l.take k)).length:Int) (k:Int) (z113_l2 N l n) x else some false:=by
   refine allV_from (fun (y:T0) _ => !eqStr y.Name x.Name) (by simp;omega) ?_ ?_
   ·intro m j y hj hy
    obtain ⟨hy',hjk⟩:=take_get hy
    simp only [z113_l8,lt_t hjk,cT,idx_nat,hy',bS,eqStr]
    rw [w64_succ (by omega)]
    cases (y.Name.toList==x.Name.toList)<;>rfl
   ·intro m j hj
    have:k≤j:=by simp at hj;omega
    simp only [z113_l8,lt_f this,cond_false]
  have inner4:z113_l4 N l ((flat (l.take k)).length:Int) (k:Int) (z113_l2 N l n) x N (0:Int)=bif allV (fieldV x) x.Fields 0 then z113_k3 N l ((flat (l.take k)).length:Int) (k:Int) (z113_l2 N l n) x else some false:=by
   refine allV_from (fieldV x) (by have:=sx.f;omega) ?_ ?_
   ·intro m j f hj hf
    have sf:=sx.f
    have hw:=(word_eq hN f.Name (by have:=nx.f f (List.mem_of_getElem? hf);omega)).2
    have inner6:z113_l6 x (j:Int) (z113_l4 N l ((flat (l.take k)).length:Int) (k:Int) (z113_l2 N l n) x m) N (0:Int)=bif allV (fun y _ => !eqStr y.Name f.Name) (x.Fields.take j) 0 then z113_k5 (j:Int) (z113_l4 N l ((flat (l.take k)).length:Int) (k:Int) (z113_l2 N l n) x m) else some false:=by
     refine allV_from (fun (y:T3) _ => !eqStr y.Name f.Name) (by simp;omega) ?_ ?_
     ·intro p i y hi hy
      obtain ⟨hy',hij⟩:=take_get hy
      simp only [z113_l6,lt_t hij,cT,idx_nat,hy',hf,bS,eqStr]
      rw [w64_succ (by omega)]
      cases (y.Name.toList==f.Name.toList)<;>rfl
     ·intro p i hi
      have:j≤i:=by simp at hi;omega
      simp only [z113_l6,lt_f this,cond_false]
    simp only [z113_l4,lt_t hj,cT,idx_nat,hf,bS,hw,goodSort_eq,inner6,fieldV,z113_k5,allV_not_any]
    rw [w64_succ (by omega)]
    cases isWord f.Name<;>cases decide (sortOk f.Sort')<;>cases ((x.Fields.take j).any fun y=>eqStr y.Name f.Name)<;>rfl
   ·intro m j hj
    simp only [z113_l4,lt_f hj,cond_false]
  have hg:=goodGuard_eq hN l (by omega) hd x.Guard sx.d sx.e
  simp only [z113_l2,lt_t hk,cT,idx_nat,hx,bS,inner8,inner4,z113_k7,z113_k3,refPath_eq hN x.Name nx.n,hg,declV,hnext,allV_not_any]
  rw [w64_succ (by omega)]
  have e1:decide ((x.Fields.length:Int) > 4) = !decide (x.Fields.length≤4):=by
   by_cases q:x.Fields.length≤4
   ·rw [dT q,dF (by omega)];rfl
   ·rw [dF q,dT (by omega)];rfl
  have e2:(x.First != ((flat (l.take k)).length:Int)) = !decide (x.First=((flat (l.take k)).length:Int)):=by
   by_cases q:x.First=((flat (l.take k)).length:Int)
   ·rw [dT q];simp [q]
   ·rw [dF q];simp [q]
  rw [e1,e2]
  cases pathV x.Name<;>cases decide (x.Fields.length≤4)<;>cases decide (x.First=((flat (l.take k)).length:Int))<;>cases ((l.take k).any fun y=>eqStr y.Name x.Name)<;>cases allV (fieldV x) x.Fields 0<;>cases guardV (flat l) x.Guard<;>rfl) (by
  intro n k hk
  show z113_l2 N l (n+1) ((flat (l.take k)).length:Int) (k:Int)=some true
  simp only [z113_l2,lt_f hk,cond_false,z113_k1])
 have h':z113_l2 N l N (0:Int) (0:Int)=bif allV (declV (flat l) l) l 0 then some true else some false:=h
 rw [h']
 cases allV (declV (flat l) l) l 0<;>rfl
end Gp
end
section
namespace Gp
open Go Go.Kx Gx
variable {N:Nat}
theorem Dist.le {E:List (Int × Int)} {S:Nat} {e:Int} {L M:List Int} (hL:Dist E S e L) (hM:Dist E S e M):∀ (k:Nat) (v:Int),idx L v=some (k:Int)→∃ m,idx M v=some m∧0≤m∧m≤(k:Int):=by
 intro k
 induction k with
 | zero =>
  intro v hv
  have:=hL.zero v hv
  subst this
  exact ⟨0,hM.root,by omega,by omega⟩
 | succ k ih =>
  intro v hv
  obtain ⟨u,hu,hl⟩:=hL.pred v _ hv (by omega)
  obtain ⟨m,m1,m2,m3⟩:=ih u (by rw [hl];congr 1;omega)
  obtain ⟨d,d1,d2,d3⟩:=hM.succ u v m hu m1 m2
  exact ⟨d,d1,d2,by omega⟩
theorem Dist.uniq {E:List (Int × Int)} {S:Nat} {e:Int} {L M:List Int} (hL:Dist E S e L) (hM:Dist E S e M):L=M:=by
 refine List.ext_getElem? fun i=>?_
 by_cases hi:i < S
 ·obtain ⟨d,hd⟩:=idx_lt (L:=L) (v:=(i:Int)) (by omega) (by rw [hL.len];omega)
  obtain ⟨m,hm⟩:=idx_lt (L:=M) (v:=(i:Int)) (by omega) (by rw [hM.len];omega)
  have a:=(hL.lo _ _ hd).1
  have b:=(hM.lo _ _ hm).1
  have one:0≤d→0≤m∧m≤d:=by
   intro h
   obtain ⟨x,x1,x2,x3⟩:=hL.le hM d.toNat (i:Int) (by rw [hd];congr 1;omega)
   rw [hm] at x1;cases x1;exact ⟨x2,by omega⟩
  have two:0≤m→0≤d∧d≤m:=by
   intro h
   obtain ⟨x,x1,x2,x3⟩:=hM.le hL m.toNat (i:Int) (by rw [hm];congr 1;omega)
   rw [hd] at x1;cases x1;exact ⟨x2,by omega⟩
  rw [idx_nat] at hd hm
  rw [hd,hm]
  congr 1
  by_cases h:0≤d
  ·have:=one h;have:=two this.1;omega
  ·by_cases h':0≤m
   ·have:=two h';omega
   ·omega
 ·rw [List.getElem?_eq_none (by rw [hL.len];omega),List.getElem?_eq_none (by rw [hM.len];omega)]
structure SizeN (g:T4):Prop where
 n:g.Name.size≤4000000
 r:∀ s∈g.Roles,s.size≤4000000
 d:∀ x∈g.Decls,NameD x
def roleV (g:T4) (s:ByteArray) (i:Nat):Bool:=isWord s && !((g.Roles.take i).any fun y=>eqStr y s)
def namedV (g:T4):Bool:=isWord g.Name && (decide (1≤g.Roles.length∧g.Roles.length≤6) && allV (roleV g) g.Roles 0)
theorem named_eq (hN:4194304 < N) (g:T4) (hg:SizeG g) (hs:SizeN g):z61 N g=some (namedV g):=by
 unfold z61 namedV
 rw [(word_eq hN g.Name (by have:=hs.n;omega)).1]
 have hr:=hg.r
 rw [allV_from (roleV g) (xs:=g.Roles) (F:=z61_l2 N g) (e:=some true) (by omega)]
 ·simp only [bS]
  by_cases c1:(g.Roles.length:Int) < 1
  ·rw [dT c1,dF (show ¬ (1≤g.Roles.length∧g.Roles.length≤6) by omega)];cases isWord g.Name<;>rfl
  by_cases c2:(g.Roles.length:Int) > 6
  ·rw [dF c1,dT c2,dF (show ¬ (1≤g.Roles.length∧g.Roles.length≤6) by omega)];cases isWord g.Name<;>rfl
  rw [dF c1,dF c2,dT (show 1≤g.Roles.length∧g.Roles.length≤6 by omega)]
  cases isWord g.Name<;>cases allV (roleV g) g.Roles 0<;>rfl
 ·intro n k x hk hx
  have hw:=(word_eq hN x (by have:=hs.r x (List.mem_of_getElem? hx);omega)).1
  have ht:lsl g.Roles none (some (k:Int))=some (g.Roles.take k):=lsl_to (A:=g.Roles.take k) (B:=g.Roles.drop k) (List.take_append_drop k _).symm (by simp;omega)
  have hc:=contains_eq hN (g.Roles.take k) (by simp;omega) x
  simp only [z61_l2,lt_t hk,cT,idx_nat,hx,bS,hw,ht,hc,roleV]
  rw [w64_succ (by omega)]
  cases isWord x<;>cases ((g.Roles.take k).any fun y=>eqStr y x)<;>rfl
 ·intro n k hk
  simp only [z61_l2,lt_f hk,cond_false,z61_k1]
theorem first_before {α:Type} (f:α→Bool):∀ (l:List α) (k i:Nat) (x:α),l[i]? = some x→f x=true→∃ j,lv (fun x (k:Nat) r=>bif f x then some (k:Int) else r) (some (-1)) l k=some j∧decide (j < ((k+i:Nat):Int))=(l.take i).any f
 | [],k,i,x,h,_=>by simp at h
 | y::l,k,i,x,h,hf=>by
  show ∃ j,(bif f y then some (k:Int) else lv _ _ l (k+1))=some j∧_
  cases i with
  | zero =>
   simp at h;subst h
   rw [hf]
   exact ⟨k,rfl,by simp⟩
  | succ i =>
   rw [List.take_succ_cons,List.any_cons]
   cases hy:f y
   ·obtain ⟨j,j1,j2⟩:=first_before f l (k+1) i x (by simpa using h) hf
    exact ⟨j,j1,by rw [show k+(i+1)=k+1+i by omega,j2];rfl⟩
   ·exact ⟨k,rfl,by simp;omega⟩
theorem names_eq (hN:4194304 < N) (g:T4) (hg:SizeG g) (hs:SizeN g):z51 N g=some (namedV g && validD g.Decls):=by
 unfold z51 namedV
 have hr:=hg.r
 rw [allV_from (roleV g) (xs:=g.Roles) (F:=z51_l2 N g) (e:=z51_k1 N g) (by omega)]
 ·unfold z51_k1
  rw [(word_eq hN g.Name (by have:=hs.n;omega)).2,refValid_eq hN g.Decls hg.d hg.dd hs.d]
  simp only [bS]
  by_cases c1:(g.Roles.length:Int)≥1
  ·by_cases c2:(g.Roles.length:Int)≤6
   ·rw [dT c1,dT c2,dT (show 1≤g.Roles.length∧g.Roles.length≤6 by omega)]
    cases isWord g.Name<;>cases allV (roleV g) g.Roles 0<;>rfl
   ·rw [dT c1,dF c2,dF (show ¬ (1≤g.Roles.length∧g.Roles.length≤6) by omega)]
    cases isWord g.Name<;>cases allV (roleV g) g.Roles 0<;>rfl
  ·rw [dF c1,dF (show ¬ (1≤g.Roles.length∧g.Roles.length≤6) by omega)]
   cases isWord g.Name<;>cases allV (roleV g) g.Roles 0<;>rfl
 ·intro n k x hk hx
  have hw:=(word_eq hN x (by have:=hs.r x (List.mem_of_getElem? hx);omega)).2
  obtain ⟨j,j1,j2⟩:=first_before (fun y=>eqStr y x) g.Roles 0 k x hx (eqStr_refl x)
  have hi:z76 N g.Roles x=some j:=by rw [refIndex_eq hN g.Roles hr];exact j1
  rw [Nat.zero_add] at j2
  simp only [z51_l2,lt_t hk,cT,idx_nat,hx,bS,hw,hi,j2,roleV]
  rw [w64_succ (by omega)]
  cases isWord x<;>cases ((g.Roles.take k).any fun y=>eqStr y x)<;>rfl
 ·intro n k hk
  simp only [z51_l2,lt_f hk,cond_false]
theorem bounds_l2 (d:T0) (hd:d.Guard.Equals.length≤4194304):∀ (l:List (Int × Int)) (k n:Nat) (acc:List T1),d.Guard.Equals.drop k=l→l.length < n→acc.length+2 * l.length≤4294967296→∃ r,z159_l2 d n acc (k:Int)=some r:=by
 intro l
 induction l with
 | nil =>
  intro k n acc h hn _
  obtain ⟨n,rfl⟩:∃ m,n=m+1:=⟨n-1,by simp at hn;omega⟩
  exact ⟨acc,by simp only [z159_l2,lt_f (drop_nil h),cond_false,z159_k1]⟩
 | cons x l ih =>
  intro k n acc h hn ha
  obtain ⟨n,rfl⟩:∃ m,n=m+1:=⟨n-1,by simp at hn;omega⟩
  obtain ⟨a,c,e⟩:=drop_cons h
  simp only [List.length_cons] at ha hn
  simp only [z159_l2,lt_t a,cT,idx_nat,c,bS]
  rw [appL_some (by simp;omega),bS,w64_succ (by omega)]
  exact ih (k+1) n _ e (by omega) (by simp;omega)
theorem bounds_l4 (hN:4194304 < N) (d:T0) (hd:SizeD d):∀ (l:List T3) (k n:Nat) (acc:List T1),d.Fields.drop k=l→l.length < n→acc.length+2 * l.length≤16777216→∃ r,z159_l4 N d n acc (k:Int)=some r:=by
 intro l
 have h1:=hd.f
 have h2:=hd.d
 have h3:=hd.e
 induction l with
 | nil =>
  intro k n acc h hn ha
  obtain ⟨n,rfl⟩:∃ m,n=m+1:=⟨n-1,by simp at hn;omega⟩
  simp only [z159_l4,lt_f (drop_nil h),cond_false,z159_k3]
  simp at ha
  rw [appL_some (by omega),bS]
  exact bounds_l2 d h3 d.Guard.Equals 0 N _ rfl (by omega) (by simp;omega)
 | cons x l ih =>
  intro k n acc h hn ha
  obtain ⟨n,rfl⟩:∃ m,n=m+1:=⟨n-1,by simp at hn;omega⟩
  obtain ⟨a,c,e⟩:=drop_cons h
  simp only [List.length_cons] at ha hn
  simp only [z159_l4,lt_t a,cT,idx_nat,c,bS]
  rw [appL_some (by simp;omega),bS,w64_succ (by omega)]
  exact ih (k+1) n _ e (by omega) (by simp;omega)
theorem declared_eq (hN:4194304 < N) (l:List T0) (hl:l.length≤4194304) (hd:∀ d∈l,SizeD d) (hn:∀ d∈l,NameD d):z63 N l=some (validD l):=by
 unfold z63
 cases l with
 | nil=>rfl
 | cons x l =>
  have h0:(((x::l).length:Int)==0)=false:=by simp;omega
  have h1:decide ((0:Int) < 0)=false:=rfl
  have h2:decide ((0:Int)≥((x::l).length:Int))=false:=by simp
  have e0:idx (x::l) (0:Int)=some x:=by rw [show (0:Int)=((0:Nat):Int) from rfl,idx_nat];rfl
  have hb:∃ r,z159 N x=some r:=bounds_l4 hN x (hd x (by simp)) x.Fields 0 N [] rfl (by have:=(hd x (by simp)).f;omega) (by have:=(hd x (by simp)).f;simp;omega)
  obtain ⟨r,hr⟩:=hb
  unfold z122
  rw [h0,h1,h2,valid_eq hN (x::l) hl hd hn,e0]
  simp only [cond_false,bS,hr]
  cases validD (x::l)<;>rfl
structure ValidG (g:T4):Prop where
 named:namedV g=true
 num:numV g=true
 decls:validD g.Decls=true
 apart:apartV g=true
 noEnd:(g.Edges.all fun x => !(x.From==g.End))=true
 time:timeV g=true
 reach:∃ F,Dist (ers g false) g.States.toNat g.Start F∧posV F=true
 ends:∃ L,Dist (ers g true) g.States.toNat g.End L∧posV L=true
theorem Valid_both (hN:4194304 < N) (g:T4) (hg:SizeG g) (hs:SizeN g) (hn:NumE g):∃ b,z22 N g=some b∧z19 N g=some b∧(b=true↔ValidG g):=by
 unfold z22 z19
 rw [named_eq hN g hg hs,numbered_eq hN g hg.e,declared_eq hN g.Decls hg.d hg.dd hs.d,ordered_eq hN g hg.e,timed_eq hN g hg.t,names_eq hN g hg hs,numbers_eq hN g hg.e,apart_eq hN g hg.e]
 simp only [bS]
 cases h1:namedV g
 ·exact ⟨false,by simp,by simp,by simp;intro h;have:=h.named;rw [h1] at this;cases this⟩
 cases h2:numV g
 ·refine ⟨false,by simp,?_,by simp;intro h;have:=h.num;rw [h2] at this;cases this⟩
  cases validD g.Decls<;>rfl
 cases h3:validD g.Decls
 ·exact ⟨false,by simp,by simp,by simp;intro h;have:=h.decls;rw [h3] at this;cases this⟩
 rw [orderV_eq]
 obtain ⟨o1,o2,o3,o4,o5,o6,o7⟩:=numV_head h2
 obtain ⟨F,f1,f2⟩:=spread_eq hN g h2 false g.Start o3 o4
 obtain ⟨L,l1,l2⟩:=spread_eq hN g h2 true g.End o5 o6
 rw [f1,l1,connected_eq hN g h2 hn l2 f2,refTimed_eq hN g hg.t h2]
 have cF:=containsInt_eq hN F (by rw [f2.len];omega) (-1)
 have cL:=containsInt_eq hN L (by rw [l2.len];omega) (-1)
 have pF:(F.any fun d=>d==-1) = !posV F:=by unfold posV;rw [Bool.not_not]
 have pL:(L.any fun d=>d==-1) = !posV L:=by unfold posV;rw [Bool.not_not]
 rw [pF] at cF
 rw [pL] at cL
 simp only [bS,cF,cL]
 cases h4:apartV g
 ·exact ⟨false,by simp,by simp,by simp;intro h;have:=h.apart;rw [h4] at this;cases this⟩
 cases h5:(g.Edges.all fun x => !(x.From==g.End))
 ·refine ⟨false,by simp,?_,?_⟩
  ·cases posV F<;>cases posV L<;>rfl
  ·simp only [Bool.false_eq_true,false_iff]
   intro h;have:=h.noEnd;rw [h5] at this;cases this
 cases h6:timeV g
 ·refine ⟨false,by simp,?_,?_⟩
  ·cases posV F<;>cases posV L<;>rfl
  ·simp only [Bool.false_eq_true,false_iff]
   intro h;have:=h.time;rw [h6] at this;cases this
 cases h7:posV F
 ·refine ⟨false,by simp,by simp,?_⟩
  simp only [Bool.false_eq_true,false_iff]
  intro h
  obtain ⟨F',a,b⟩:=h.reach
  rw [a.uniq f2,h7] at b;cases b
 cases h8:posV L
 ·refine ⟨false,by simp,by simp,?_⟩
  simp only [Bool.false_eq_true,false_iff]
  intro h
  obtain ⟨L',a,b⟩:=h.ends
  rw [a.uniq l2,h8] at b;cases b
 exact ⟨true,by simp,by simp,by simp;exact ⟨h1,h2,h3,h4,h5,h6,⟨F,f2,h7⟩,⟨L,l2,h8⟩⟩⟩
end Gp
end
section
namespace Gp
open Go Go.Kx Gx
variable {N:Nat}
def plc:List Int→Int→Nat→Int
 | [],_,_=>-1
 | x::l,v,k=>if x=v then (k:Int) else plc l v (k+1)
theorem place_eq (hN:4194304 < N) (l:List Int) (hl:l.length≤4194304) (v:Int):z80 N l v=some (plc l v 0):=by
 unfold z80
 rw [look l hl (fun x k r=>bif x==v then some k else r) (z80_l2 l v) (some (-1)) hN]
 ·generalize (0:Nat)=k
  clear hl
  induction l generalizing k with
  | nil=>rfl
  | cons x l ih =>
   show (bif x==v then some (k:Int) else lv _ _ l (k+1))=some (if x=v then (k:Int) else plc l v (k+1))
   by_cases h:x=v
   ·rw [if_pos h,show (x==v)=true by simp [h]];rfl
   ·rw [if_neg h,show (x==v)=false by simp [h]];exact ih (k+1)
 ·intro n k x hk hx
  simp only [z80_l2,lt_t hk,idx_nat,hx,cT,bS]
 ·intro n k hk
  simp only [z80_l2,lt_f hk,cond_false,z80_k1]
theorem plc_mem:∀ (l:List Int) (v:Int) (k:Nat),(0≤plc l v k↔v∈l)∧(plc l v k < 0↔v ∉ l)
 | [],v,k=>by simp [plc]
 | x::l,v,k=>by
  unfold plc
  by_cases h:x=v
  ·subst h;rw [if_pos rfl];simp
  ·rw [if_neg h]
   have:=plc_mem l v (k+1)
   rw [List.mem_cons,this.1,this.2]
   constructor
   ·exact ⟨fun g=>.inr g,fun g=>by rcases g with g | g;exact absurd g.symm h;exact g⟩
   ·exact ⟨fun g g'=>by rcases g' with g' | g';exact h g'.symm;exact g g',fun g g'=>g (.inr g')⟩
theorem plc_app:∀ (l:List Int) (v w:Int) (k:Nat),v ∉ l→plc (l++[v]) w k=if w=v then ((k+l.length:Nat):Int) else plc l w k
 | [],v,w,k,_=>by
  show (if v=w then (k:Int) else -1)=_
  by_cases h:w=v
  ·subst h;rw [if_pos rfl,if_pos rfl];simp
  ·rw [if_neg (fun g=>h g.symm),if_neg h];rfl
 | x::l,v,w,k,hv=>by
  show (if x=w then (k:Int) else plc (l++[v]) w (k+1))=_
  have hxv:x≠v:=fun g=>hv (by simp [g])
  rw [plc_app l v w (k+1) (fun g=>hv (by simp [g]))]
  by_cases h:w=v
  ·subst h
   rw [if_neg hxv,if_pos rfl,if_pos rfl,List.length_cons];congr 1;omega
  ·rw [if_neg h,if_neg h];rfl
def NumR (S:Nat) (num ord:List Int):Prop:=num.length=S∧∀ v,0≤v→v < (S:Int)→idx num v=some (plc ord v 0)
def tmos (g:T4) (k:Int):List T8:=g.Timeouts.filter fun t=>t.Else==k
def ordN (ord:List Int) (v:Int):List Int:=if v∈ord then ord else ord++[v]
structure CSt where
 E:List T2
 T:List T8
 O:List Int
def stepC (g:T4) (i:Int) (s:CSt) (k:Int):CSt :=
 match idx g.Edges k with
 | some x=>⟨s.E++[⟨i,x.Act,plc (ordN s.O x.To) x.To 0,x.Again⟩],s.T++(tmos g k).map (fun t=>⟨i,t.Ticks,(s.E.length:Int)⟩),ordN s.O x.To⟩
 | none=>s
theorem timeV_sorted {g:T4} (h:timeV g=true):g.Timeouts.Pairwise (fun a b=>a.State < b.State):=by
 have h:=(allV_iff _ _ _).mp h
 have one:∀ i x,g.Timeouts[i]? = some x→lastV g i < x.State:=fun i x hx=>by
  have:=of_decide_eq_true (h i x hx)
  rw [Nat.zero_add] at this
  exact this.1
 have lt:∀ (j i:Nat) x y,i < j→g.Timeouts[i]? = some x→g.Timeouts[j]? = some y→x.State < y.State:=by
  intro j
  induction j with
  | zero=>intro i x y hij;omega
  | succ j ih =>
   intro i x y hij hx hy
   have h1:=one (j+1) y hy
   have hj:j < g.Timeouts.length:=by have:=(List.getElem?_eq_some_iff.mp hy).1;omega
   have hz:=List.getElem?_eq_getElem hj
   simp only [lastV,hz] at h1
   by_cases e:i=j
   ·subst e;rw [hz] at hx;cases hx;exact h1
   ·exact Int.lt_trans (ih i x _ (by omega) hx hz) h1
 rw [List.pairwise_iff_getElem]
 intro i j hi hj hij
 exact lt j i _ _ hij (List.getElem?_eq_getElem hi) (List.getElem?_eq_getElem hj)
theorem timeV_else {g:T4} (h:timeV g=true) {t:T8} (ht:t∈g.Timeouts):∃ x,idx g.Edges t.Else=some x∧x.From=t.State∧x.Again=false:=by
 obtain ⟨i,hi⟩:=List.mem_iff_getElem?.mp ht
 have:=of_decide_eq_true ((allV_iff _ _ _).mp h i t hi)
 obtain ⟨_,_,_,h3,h4,h5⟩:=this
 obtain ⟨e,he,_⟩:=else_some h3 h4
 unfold elseOk at h5
 rw [he] at h5
 simp only [Bool.and_eq_true,beq_iff_eq,Bool.not_eq_true'] at h5
 exact ⟨e,he,h5.1,h5.2⟩
theorem filt (s k:Int):∀ (l:List T8),l.Pairwise (fun a b=>a.State < b.State)→(∀ t∈l,t.Else=k→t.State=s) →
  l.filter (fun t=>t.Else==k)=match l.find? (fun t=>t.State==s) with | some t=>if t.Else=k then [t] else [] | none=>[]
 | [],_,_=>rfl
 | x::l,hp,hs=>by
  obtain ⟨h1,h2⟩:=List.pairwise_cons.mp hp
  rw [List.filter_cons,List.find?_cons]
  by_cases hx:x.State=s
  ·rw [show (x.State==s)=true by simp [hx]]
   have hrest:l.filter (fun t=>t.Else==k)=[]:=by
    rw [List.filter_eq_nil_iff]
    intro t ht hk
    have hk:t.Else=k:=by simpa using hk
    have:=hs t (by simp [ht]) hk
    have:=h1 t ht
    omega
   rw [hrest]
   by_cases hk:x.Else=k
   ·simp [hk]
   ·simp [hk]
  ·rw [show (x.State==s)=false by simp [hx]]
   have hk:¬ x.Else=k:=fun g=>hx (hs x (by simp) g)
   rw [show (x.Else==k)=false by simp [hk]]
   exact filt s k l h2 (fun t ht=>hs t (by simp [ht]))
theorem find_where (f:T8→Bool):∀ (l:List T8) (k:Nat),∃ j,lv (fun x (k:Nat) r=>bif f x then some (k:Int) else r) (some (-1)) l k=some j ∧
  ((l.find? f=none∧j=-1)∨∃ t m,l.find? f=some t∧j=((k+m:Nat):Int)∧l[m]? = some t)
 | [],k=>⟨-1,rfl,.inl ⟨rfl,rfl⟩⟩
 | x::l,k=>by
  show ∃ j,(bif f x then some (k:Int) else lv _ _ l (k+1))=some j∧_
  rw [List.find?_cons]
  cases hx:f x
  ·obtain ⟨j,j1,j2⟩:=find_where f l (k+1)
   refine ⟨j,j1,?_⟩
   rcases j2 with ⟨h1,h2⟩ | ⟨t,m,h1,h2,h3⟩
   ·exact .inl ⟨h1,h2⟩
   ·exact .inr ⟨t,m+1,h1,by rw [h2];congr 1;omega,by simpa using h3⟩
  ·exact ⟨k,rfl,.inr ⟨x,0,rfl,by simp,by simp⟩⟩
theorem limit_eq (hN:4194304 < N) (l:List T8) (hl:l.length≤4194304) (s:Int):∃ j,z59_19 N l s=some j ∧
  ((l.find? (fun t=>t.State==s)=none∧j=-1)∨∃ t m,l.find? (fun t=>t.State==s)=some t∧j=((m:Nat):Int)∧l[m]? = some t):=by
 unfold z59_19
 rw [look l hl (fun x k r=>bif x.State==s then some k else r) (z59_19_l2 N l s) (some (-1)) hN]
 ·obtain ⟨j,j1,j2⟩:=find_where (fun t=>t.State==s) l 0
  refine ⟨j,j1,?_⟩
  rcases j2 with h | ⟨t,m,h1,h2,h3⟩
  ·exact .inl h
  ·exact .inr ⟨t,m,h1,by rw [h2];congr 1;omega,h3⟩
 ·intro n k x hk hx
  simp only [z59_19_l2,lt_t hk,idx_nat,hx,cT,bS,z60_18]
 ·intro n k hk
  simp only [z59_19_l2,lt_f hk,cond_false,z59_19_k1]
theorem ordN_len (ord:List Int) (v:Int):(ordN ord v).length≤ord.length+1:=by unfold ordN;split<;>simp
theorem NumR.next {S:Nat} {num ord:List Int} (h:NumR S num ord) {v:Int} (v0:0≤v) (v1:v < (S:Int)) (hv:v ∉ ord):NumR S (setL' num v (ord.length:Int)) (ord++[v]):=by
 refine ⟨by rw [setL_len _ _ v0,h.1],?_⟩
 intro w w0 w1
 rw [idx_set v0 (by rw [h.1];exact v1),plc_app ord v w 0 hv]
 split
 ·simp
 ·exact h.2 w w0 w1
theorem canon_in (g:T4) (S:Nat) (hS2:S≤200) (hv:ValidG g) (hS:g.States=(S:Int)) (hT:g.Timeouts.length≤4194304) (i:Nat) (s j:Int)
  (hj:((g.Timeouts.find? (fun t=>t.State==s)=none∧j=-1)∨∃ t m,g.Timeouts.find? (fun t=>t.State==s)=some t∧j=((m:Nat):Int)∧g.Timeouts[m]? = some t))
  (ag:Int→List T2→List T8→List Int→List Int→Option (T4 × Int)) (L:List Int) (hL:∀ k∈L,∃ x,idx g.Edges k=some x∧x.From=s) (hLl:L.length≤400) :
  ∀ (l:List Int) (p n:Nat) (st:CSt) (num:List Int),L.drop p=l→l.length < n→NumR S num st.O→st.E.length+l.length≤1000000→st.T.length+l.length≤1000000→st.O.length+l.length≤1000000 →
  ∃ num',z21_l4 g (i:Int) ag j L n st.E st.T num st.O (p:Int)=z21_k3 (i:Int) ag (l.foldl (stepC g i) st).E (l.foldl (stepC g i) st).T num' (l.foldl (stepC g i) st).O∧NumR S num' (l.foldl (stepC g i) st).O:=by
 intro l
 induction l with
 | nil =>
  intro p n st num h hn hR _ _ _
  obtain ⟨n,rfl⟩:∃ m,n=m+1:=⟨n-1,by simp at hn;omega⟩
  exact ⟨num,by simp only [z21_l4,lt_f (drop_nil h),cond_false,List.foldl_nil],hR⟩
 | cons k l ih =>
  intro p n st num h hn hR b1 b2 b3
  obtain ⟨n,rfl⟩:∃ m,n=m+1:=⟨n-1,by simp at hn;omega⟩
  obtain ⟨hp,hk,hdr⟩:=drop_cons h
  simp only [List.length_cons] at hn b1 b2 b3
  obtain ⟨x,hx,hxs⟩:=hL k (List.mem_of_getElem? hk)
  have hxm:x∈g.Edges:=by
   obtain ⟨k0,k1⟩:=idx_some hx
   obtain ⟨q,rfl⟩:∃ q:Nat,k=(q:Int):=⟨k.toNat,by omega⟩
   rw [idx_nat] at hx;exact List.mem_of_getElem? hx
  obtain ⟨r1,r2,r3,r4,_⟩:=numV_edge hv.num hxm
  have hnum:=hR.2 x.To r3 (by rw [← hS];exact r4)
  -- the time limits that lead by this edge
  have htm:tmos g k=match g.Timeouts.find? (fun t=>t.State==s) with | some t=>if t.Else=k then [t] else [] | none=>[]:=by
   refine filt s k g.Timeouts (timeV_sorted hv.time) ?_
   intro t ht hte
   obtain ⟨y,y1,y2,_⟩:=timeV_else hv.time ht
   rw [hte,hx] at y1
   cases y1
   rw [← y2,hxs]
  have hstep:stepC g (i:Int) st k=⟨st.E++[⟨(i:Int),x.Act,plc (ordN st.O x.To) x.To 0,x.Again⟩],st.T++(tmos g k).map (fun t=>⟨(i:Int),t.Ticks,(st.E.length:Int)⟩),ordN st.O x.To⟩:=by
   unfold stepC;rw [hx]
  have wp:w64 ((p:Int)+1)=((p+1:Nat):Int):=w64_succ (by omega)
  have hto1:(tmos g k).length≤1:=by
   rw [htm];split
   ·split<;>simp
   ·simp
  -- behind the number of the state
  have tail:∀ (num2:List Int),NumR S num2 (ordN st.O x.To) →
    ∃ num',z21_k7 g (i:Int) j st.E st.T (p:Int) (z21_l4 g (i:Int) ag j L n) k x num2 (ordN st.O x.To)=z21_k3 (i:Int) ag (l.foldl (stepC g i) (stepC g i st k)).E (l.foldl (stepC g i) (stepC g i st k)).T num' (l.foldl (stepC g i) (stepC g i st k)).O∧NumR S num' (l.foldl (stepC g i) (stepC g i st k)).O:=by
   intro num2 hR2
   have h5:z21_k7 g (i:Int) j st.E st.T (p:Int) (z21_l4 g (i:Int) ag j L n) k x num2 (ordN st.O x.To)=z21_l4 g (i:Int) ag j L n (stepC g i st k).E (stepC g i st k).T num2 (stepC g i st k).O ((p+1:Nat):Int):=by
    have k5:∀ T',z21_k5 (i:Int) st.E (p:Int) (z21_l4 g (i:Int) ag j L n) x num2 (ordN st.O x.To) T'=z21_l4 g (i:Int) ag j L n (st.E++[⟨(i:Int),x.Act,plc (ordN st.O x.To) x.To 0,x.Again⟩]) T' num2 (ordN st.O x.To) ((p+1:Nat):Int):=by
     intro T'
     unfold z21_k5
     rw [hR2.2 x.To r3 (by rw [← hS];exact r4),bS,appL_some (by simp;omega),bS,wp]
    rw [hstep,htm]
    unfold z21_k7
    rcases hj with ⟨h1,h2⟩ | ⟨t,m,h1,h2,h3⟩
    ·subst h2
     rw [h1]
     have:decide ((-1:Int)≥0)=false:=rfl
     rw [this,cond_false]
     unfold z21_k6
     rw [cond_false,k5];simp
    ·subst h2
     rw [h1]
     have:decide (((m:Nat):Int)≥0)=true:=by simp
     rw [this,cT,idx_nat,h3,bS]
     unfold z21_k6
     by_cases he:t.Else=k
     ·rw [show (t.Else==k)=true by simp [he],cT,idx_nat,h3,bS,appL_some (by simp;omega),bS,k5]
      simp [he]
     ·rw [show (t.Else==k)=false by simp [he],cond_false,k5]
      simp [he]
   rw [h5]
   refine ih (p+1) n (stepC g i st k) num2 hdr (by omega) (by rw [hstep];exact hR2) (by rw [hstep];simp;omega) (by rw [hstep];simp;omega) ?_
   rw [hstep]
   have:=ordN_len st.O x.To
   show (ordN st.O x.To).length+l.length≤_
   omega
  simp only [List.foldl_cons]
  by_cases hin:x.To∈st.O
  ·have hneg:decide (plc st.O x.To 0 < 0)=false:=by
    rw [dF];intro g';exact (plc_mem st.O x.To 0).2.mp g' hin
   have ho:ordN st.O x.To=st.O:=by unfold ordN;rw [if_pos hin]
   simp only [z21_l4,lt_t hp,cT,idx_nat,hk,bS,hx,hnum,hneg,cond_false]
   have:=tail num (by rw [ho];exact hR)
   rw [ho] at this
   exact this
  ·have hneg:decide (plc st.O x.To 0 < 0)=true:=dT ((plc_mem st.O x.To 0).2.mpr hin)
   have ho:ordN st.O x.To=st.O++[x.To]:=by unfold ordN;rw [if_neg hin]
   simp only [z21_l4,lt_t hp,cT,idx_nat,hk,bS,hx,hnum,hneg]
   rw [appL_some (by simp;omega),bS]
   have:=tail (setL' num x.To (st.O.length:Int)) (by rw [ho];exact hR.next r3 (by rw [← hS];exact r4) hin)
   rw [ho] at this
   exact this
end Gp
end
section
namespace Gp
open Go Go.Kx Gx
variable {N:Nat}
theorem tmos_le1 {g:T4} (hv:ValidG g) {k:Int}:(tmos g k).length≤1:=by
 by_cases h:∃ t∈g.Timeouts,t.Else=k
 ·obtain ⟨t0,ht0,hk0⟩:=h
  obtain ⟨x,x1,x2,_⟩:=timeV_else hv.time ht0
  have:=filt t0.State k g.Timeouts (timeV_sorted hv.time) (by
   intro t ht hte
   obtain ⟨y,y1,y2,_⟩:=timeV_else hv.time ht
   rw [hte] at y1;rw [hk0] at x1
   rw [y1] at x1;cases x1
   rw [← y2,x2])
  unfold tmos
  rw [this]
  split
  ·split<;>simp
  ·simp
 ·have:tmos g k=[]:=by
   unfold tmos
   rw [List.filter_eq_nil_iff]
   intro t ht hc
   exact h ⟨t,ht,by simpa using hc⟩
  rw [this];simp
theorem ref_tms (g:T4) (hT:g.Timeouts.length≤4194304) (i p:Int) (k:Int) (L:List Int) (hk:idx L p=some k) (E:List T2) (ag:List T2→List T8→List Int→Int→Option (T4 × Int)) (x:T2) (O:List Int) :
  ∀ (l:List T8) (q n:Nat) (T:List T8),g.Timeouts.drop q=l→l.length < n→T.length+l.length≤4294967296 →
  z34_l6 N g i L E p ag x O n T (q:Int)=z34_k5 N i E p ag x O (T++(l.filter (fun t=>t.Else==k)).map (fun t=>⟨i,t.Ticks,(E.length:Int)⟩)):=by
 intro l
 induction l with
 | nil =>
  intro q n T h hn hb
  obtain ⟨n,rfl⟩:∃ m,n=m+1:=⟨n-1,by simp at hn;omega⟩
  simp only [z34_l6,lt_f (drop_nil h),cond_false,List.filter_nil,List.map_nil,List.append_nil]
 | cons t l ih =>
  intro q n T h hn hb
  obtain ⟨n,rfl⟩:∃ m,n=m+1:=⟨n-1,by simp at hn;omega⟩
  obtain ⟨hq,ht,hdr⟩:=drop_cons h
  simp only [List.length_cons] at hn hb
  have wq:w64 ((q:Int)+1)=((q+1:Nat):Int):=w64_succ (by omega)
  simp only [z34_l6,lt_t hq,cT,idx_nat,ht,bS,hk,wq]
  rw [List.filter_cons]
  cases hc:(t.Else==k)
  ·simp only [cond_false]
   rw [ih (q+1) n T hdr (by omega) (by omega)];simp
  ·simp only [cT]
   rw [appL_some (by simp;omega),bS,ih (q+1) n _ hdr (by omega) (by simp;omega)];simp
theorem canonR_in (hN:4194304 < N) (g:T4) (hv:ValidG g) (hT:g.Timeouts.length≤4194304) (i:Nat) (s:Int)
  (ag:List T2→List T8→List Int→Int→Option (T4 × Int)) (L:List Int) (hL:∀ k∈L,∃ x,idx g.Edges k=some x∧x.From=s) (hi:i≤4194304) :
  ∀ (l:List Int) (p n:Nat) (st:CSt),L.drop p=l→l.length < n→L.length≤4194304→st.E.length+l.length≤1000000→st.T.length+l.length≤1000000→st.O.length+l.length≤1000000 →
  z34_l4 N g (i:Int) ag L n st.E st.T st.O (p:Int)=ag (l.foldl (stepC g i) st).E (l.foldl (stepC g i) st).T (l.foldl (stepC g i) st).O ((i+1:Nat):Int):=by
 intro l
 induction l with
 | nil =>
  intro p n st h hn hLl _ _ _
  obtain ⟨n,rfl⟩:∃ m,n=m+1:=⟨n-1,by simp at hn;omega⟩
  simp only [z34_l4,lt_f (drop_nil h),cond_false,List.foldl_nil,z34_k3]
  rw [w64_succ (by omega)]
 | cons k l ih =>
  intro p n st h hn hLl b1 b2 b3
  obtain ⟨n,rfl⟩:∃ m,n=m+1:=⟨n-1,by simp at hn;omega⟩
  obtain ⟨hp,hk,hdr⟩:=drop_cons h
  simp only [List.length_cons] at hn b1 b2 b3
  obtain ⟨x,hx,hxs⟩:=hL k (List.mem_of_getElem? hk)
  have hkI:idx L (p:Int)=some k:=by rw [idx_nat,hk]
  have hstep:stepC g (i:Int) st k=⟨st.E++[⟨(i:Int),x.Act,plc (ordN st.O x.To) x.To 0,x.Again⟩],st.T++(tmos g k).map (fun t=>⟨(i:Int),t.Ticks,(st.E.length:Int)⟩),ordN st.O x.To⟩:=by
   unfold stepC;rw [hx]
  have wp:w64 ((p:Int)+1)=((p+1:Nat):Int):=w64_succ (by omega)
  have hto1:=tmos_le1 hv (k:=k)
  have hol:=ordN_len st.O x.To
  have tail:z34_k7 N g (i:Int) L st.E st.T (p:Int) (z34_l4 N g (i:Int) ag L n) x (ordN st.O x.To)=ag (l.foldl (stepC g i) (stepC g i st k)).E (l.foldl (stepC g i) (stepC g i st k)).T (l.foldl (stepC g i) (stepC g i st k)).O ((i+1:Nat):Int):=by
   unfold z34_k7
   have:=ref_tms (N:=N) g hT (i:Int) (p:Int) k L hkI st.E (z34_l4 N g (i:Int) ag L n) x (ordN st.O x.To) g.Timeouts 0 N st.T rfl (by omega) (by omega)
   rw [show (0:Int)=((0:Nat):Int) from rfl,this]
   unfold z34_k5
   rw [place_eq hN _ (by omega),bS,appL_some (by simp;omega),bS,wp]
   have:=ih (p+1) n (stepC g i st k) hdr (by omega) hLl (by rw [hstep];simp;omega) (by rw [hstep];simp;omega) (by rw [hstep];show (ordN st.O x.To).length+l.length≤_;omega)
   rw [hstep] at this ⊢
   exact this
  simp only [List.foldl_cons]
  have hpl:=place_eq hN st.O (by omega) x.To
  by_cases hin:x.To∈st.O
  ·have hneg:decide (plc st.O x.To 0 < 0)=false:=by
    rw [dF];intro g';exact (plc_mem st.O x.To 0).2.mp g' hin
   have ho:ordN st.O x.To=st.O:=by unfold ordN;rw [if_pos hin]
   simp only [z34_l4,lt_t hp,cT,idx_nat,hk,bS,hx,hpl,hneg,cond_false]
   rw [ho] at tail
   exact tail
  ·have hneg:decide (plc st.O x.To 0 < 0)=true:=dT ((plc_mem st.O x.To 0).2.mpr hin)
   have ho:ordN st.O x.To=st.O++[x.To]:=by unfold ordN;rw [if_neg hin]
   simp only [z34_l4,lt_t hp,cT,idx_nat,hk,bS,hx,hpl,hneg]
   rw [appL_some (by simp;omega),bS]
   rw [ho] at tail
   exact tail
structure Kept (g:T4) (S:Nat) (st st':CSt) (L:List Int):Prop where
 pre:∃ X,st'.O=st.O++X
 nodup:st.O.Nodup→st'.O.Nodup
 range:(∀ v∈st.O,0≤v∧v < (S:Int))→∀ v∈st'.O,0≤v∧v < (S:Int)
 done:∀ k∈L,∀ x,idx g.Edges k=some x→x.To∈st'.O
 lenE:st'.E.length≤st.E.length+L.length
 lenT:st'.T.length≤st.T.length+L.length
theorem kept (g:T4) (S:Nat) (hv:ValidG g) (hS:g.States=(S:Int)) (i:Int):∀ (L:List Int) (st:CSt),Kept g S st (L.foldl (stepC g i) st) L:=by
 intro L
 induction L with
 | nil=>intro st;exact ⟨⟨[],by simp⟩,id,id,by simp,by simp,by simp⟩
 | cons k L ih =>
  intro st
  rw [List.foldl_cons]
  have h:=ih (stepC g i st k)
  cases hx:idx g.Edges k with
  | none =>
   have hs:stepC g i st k=st:=by unfold stepC;rw [hx]
   rw [hs] at h ⊢
   refine ⟨h.pre,h.nodup,h.range,?_,by have:=h.lenE;simp;omega,by have:=h.lenT;simp;omega⟩
   intro q hq x hqx
   rcases List.mem_cons.mp hq with hq | hq
   ·subst hq;rw [hx] at hqx;cases hqx
   ·exact h.done q hq x hqx
  | some x =>
   have hs:stepC g i st k=⟨st.E++[⟨i,x.Act,plc (ordN st.O x.To) x.To 0,x.Again⟩],st.T++(tmos g k).map (fun t=>⟨i,t.Ticks,(st.E.length:Int)⟩),ordN st.O x.To⟩:=by unfold stepC;rw [hx]
   have hxm:x∈g.Edges:=by
    obtain ⟨k0,k1⟩:=idx_some hx
    obtain ⟨q,rfl⟩:∃ q:Nat,k=(q:Int):=⟨k.toNat,by omega⟩
    rw [idx_nat] at hx;exact List.mem_of_getElem? hx
   obtain ⟨r1,r2,r3,r4,_⟩:=numV_edge hv.num hxm
   have hO:(stepC g i st k).O=ordN st.O x.To:=by rw [hs]
   have hpre:∃ X,ordN st.O x.To=st.O++X:=by
    unfold ordN;split
    ·exact ⟨[],by simp⟩
    ·exact ⟨[x.To],rfl⟩
   have hmem:x.To∈ordN st.O x.To:=by
    unfold ordN;split
    ·assumption
    ·simp
   have hto:=tmos_le1 hv (k:=k)
   obtain ⟨X,hX⟩:=hpre
   obtain ⟨Y,hY⟩:=h.pre
   refine ⟨⟨X++Y,by rw [hY,hO,hX];simp⟩,?_,?_,?_,?_,?_⟩
   ·intro hn
    apply h.nodup
    rw [hO]
    unfold ordN;split
    ·exact hn
    ·rename_i hnot
     refine List.nodup_append.mpr ⟨hn,by simp,?_⟩
     intro a ha b hb
     simp at hb;subst hb
     intro hc;subst hc;exact hnot ha
   ·intro hr
    apply h.range
    rw [hO]
    unfold ordN;split
    ·exact hr
    ·intro v hv'
     rcases List.mem_append.mp hv' with hv' | hv'
     ·exact hr v hv'
     ·simp at hv';subst hv';exact ⟨r3,by rw [← hS];exact r4⟩
   ·intro q hq y hqy
    rcases List.mem_cons.mp hq with hq | hq
    ·subst hq;rw [hx] at hqy;cases hqy
     rw [hY,hO];simp [hmem]
    ·exact h.done q hq y hqy
   ·have:=h.lenE
    rw [hs] at this ⊢
    simp at this ⊢;omega
   ·have:=h.lenT
    rw [hs] at this ⊢
    simp at this ⊢;omega
structure CInv (g:T4) (S:Nat) (i:Nat) (st:CSt):Prop where
 nodup:st.O.Nodup
 range:∀ v∈st.O,0≤v∧v < (S:Int)
 start:g.Start∈st.O
 closed:∀ (p:Nat) v,p < i→st.O[p]? = some v→∀ x∈g.Edges,x.From=v→x.To∈st.O
 lenE:st.E.length≤i * 400
 lenT:st.T.length≤i * 400
 le:i≤st.O.length
theorem CInv.len {g:T4} {S i:Nat} {st:CSt} (h:CInv g S i st):st.O.length≤S:=by
 have h1:(st.O.map Int.toNat).Nodup:=by
  rw [List.nodup_iff_pairwise_ne,List.pairwise_map]
  refine List.Pairwise.imp_of_mem ?_ (List.nodup_iff_pairwise_ne.mp h.nodup)
  intro a b ha hb hne hc
  have:=h.range a ha;have:=h.range b hb
  omega
 have h2:=h1.length_le_of_subset (l₂:=List.range S) (by
  intro v hv
  obtain ⟨w,hw,rfl⟩:=List.mem_map.mp hv
  have:=h.range w hw
  exact List.mem_range.mpr (by omega))
 simpa using h2
theorem placesOf_mem (g:T4) (s:Int):∀ (l:List T2) (k:Nat) (y:Int),y∈placesOf g s l k↔∃ m x,l[m]? = some x∧x.From=s∧y=((k+m:Nat):Int)
 | [],k,y=>by simp [placesOf]
 | x::l,k,y=>by
  have e0:placesOf g s (x::l) k=if x.From=s then (k:Int)::placesOf g s l (k+1) else placesOf g s l (k+1):=rfl
  rw [e0]
  have ih:=placesOf_mem g s l (k+1) y
  constructor
  ·intro h
   split at h
   ·rename_i hf
    rcases List.mem_cons.mp h with h | h
    ·exact ⟨0,x,by simp,hf,by rw [h];simp⟩
    ·obtain ⟨m,z,h1,h2,h3⟩:=ih.mp h
     exact ⟨m+1,z,by simpa using h1,h2,by rw [h3];congr 1;omega⟩
   ·obtain ⟨m,z,h1,h2,h3⟩:=ih.mp h
    exact ⟨m+1,z,by simpa using h1,h2,by rw [h3];congr 1;omega⟩
  ·rintro ⟨m,z,h1,h2,h3⟩
   cases m with
   | zero =>
    simp at h1;subst h1
    rw [if_pos h2,h3];simp
   | succ m =>
    have:y∈placesOf g s l (k+1):=ih.mpr ⟨m,z,by simpa using h1,h2,by rw [h3];congr 1;omega⟩
    split
    ·exact List.mem_cons_of_mem _ this
    ·exact this
theorem edges_mem {g:T4} {s:Int} {L:List Int} (h:EdgesAre g s L):(∀ k∈L,∃ x,idx g.Edges k=some x∧x.From=s)∧(∀ x∈g.Edges,x.From=s→∃ k∈L,idx g.Edges k=some x):=by
 constructor
 ·intro k hk
  obtain ⟨m,x,h1,h2,h3⟩:=(placesOf_mem g s g.Edges 0 k).mp (h.1.mem_iff.mp hk)
  exact ⟨x,by rw [h3,idx_nat,Nat.zero_add,h1],h2⟩
 ·intro x hx hf
  obtain ⟨m,hm⟩:=List.mem_iff_getElem?.mp hx
  refine ⟨(m:Int),h.1.mem_iff.mpr ((placesOf_mem g s g.Edges 0 _).mpr ⟨m,x,hm,hf,by simp⟩),by rw [idx_nat,hm]⟩
inductive CRun (g:T4):Nat→CSt→CSt→Prop
 | stop (i:Nat) (st:CSt):st.O.length≤i→CRun g i st st
 | step (i:Nat) (st r:CSt) (s:Int) (L:List Int):st.O[i]? = some s→EdgesAre g s L→CRun g (i+1) (L.foldl (stepC g (i:Int)) st) r→CRun g i st r
theorem canon_out (hN:16777216 < N) (g:T4) (S:Nat) (hS2:S≤200) (hv:ValidG g) (hn:NumE g) (hS:g.States=(S:Int)) (hE:g.Edges.length≤400) (hT:g.Timeouts.length≤4194304) (c:T4) :
  ∀ (n m i:Nat) (st:CSt) (num:List Int),S-i < n→S-i < m→CInv g S i st→NumR S num st.O →
  ∃ st' num',CInv g S st'.O.length st'∧NumR S num' st'.O ∧
   z21_l2 N g c n (i:Int) st.E st.T num st.O=z21_k1 g c (st'.O.length:Int) st'.E st'.T num' ∧
   z34_l2 N g m st.E st.T st.O (i:Int)=z34_k1 N g st'.E st'.T st'.O∧CRun g i st st':=by
 intro n
 induction n with
 | zero=>intro m i st num h;omega
 | succ n ih =>
  intro m i st num hn' hm hI hR
  obtain ⟨m,rfl⟩:∃ q,m=q+1:=⟨m-1,by omega⟩
  have hlen:=hI.len
  by_cases hlt:i < st.O.length
  ·have hs:=List.getElem?_eq_getElem hlt
   generalize st.O[i]=s at hs
   obtain ⟨L,l1,l2,l3⟩:=Edges_both hN g (by omega) hn s
   obtain ⟨m1,m2⟩:=edges_mem l1
   have hLl:L.length≤400:=by rw [l1.1.length_eq];have:=placesOf_len g s g.Edges 0;omega
   obtain ⟨j,j1,j2⟩:=limit_eq (N:=N) (by omega) g.Timeouts hT s
   have bE:=hI.lenE
   have bT:=hI.lenT
   have bi:i * 400≤80000:=by have:=Nat.mul_le_mul_right 400 (show i≤200 by omega);omega
   obtain ⟨num',n1,n2⟩:=canon_in g S hS2 hv hS hT i s j j2 (z21_l2 N g c n) L m1 hLl L 0 N st num rfl (by omega) hR (by omega) (by omega) (by omega)
   have r1:=canonR_in (N:=N) (by omega) g hv hT i s (z34_l2 N g m) L m1 (by omega) L 0 N st rfl (by omega) (by omega) (by omega) (by omega) (by omega)
   have K:=kept g S hv hS (i:Int) L st
   have hI':CInv g S (i+1) (L.foldl (stepC g (i:Int)) st):=by
    obtain ⟨X,hX⟩:=K.pre
    refine ⟨K.nodup hI.nodup,K.range hI.range,by rw [hX];simp [hI.start],?_,by have:=K.lenE;omega,by have:=K.lenT;omega,by rw [hX];simp;omega⟩
    intro p v hp hpv x hx hxv
    rw [hX,List.getElem?_append_left (by omega)] at hpv
    by_cases hpi:p=i
    ·subst hpi
     rw [hs] at hpv;cases hpv
     obtain ⟨k,k1,k2⟩:=m2 x hx hxv
     exact K.done k k1 x k2
    ·rw [hX]
     have:=hI.closed p v (by omega) hpv x hx hxv
     simp [this]
   obtain ⟨st',num2,p1,p2,p3,p4,p5⟩:=ih m (i+1) _ num' (by omega) (by omega) hI' n2
   refine ⟨st',num2,p1,p2,?_,?_,.step i st st' s L hs l1 p5⟩
   ·simp only [z21_l2,lt_t hlt,cT,idx_nat,hs,bS,j1,l2]
    rw [show (0:Int)=((0:Nat):Int) from rfl,n1]
    unfold z21_k3
    rw [w64_succ (by omega)]
    exact p3
   ·simp only [z34_l2,lt_t hlt,cT,idx_nat,hs,bS,l3]
    rw [show (0:Int)=((0:Nat):Int) from rfl,r1]
    exact p4
  ·have hil:i=st.O.length:=by have:=hI.le;omega
   refine ⟨st,num,by rw [← hil];exact hI,hR,?_,?_,.stop i st (by omega)⟩
   ·simp only [z21_l2,lt_f (show st.O.length≤i by omega),cond_false]
    rw [hil]
   ·simp only [z34_l2,lt_f (show st.O.length≤i by omega),cond_false]
theorem CInv.all {g:T4} {S:Nat} {st:CSt} (h:CInv g S st.O.length st) (hv:ValidG g) (hS:g.States.toNat=S):st.O.length=S:=by
 obtain ⟨F,hF,hp⟩:=hv.reach
 rw [hS] at hF
 have hpos:=(posV_iff hF).mp hp
 have hin:∀ (k:Nat) (v:Int),idx F v=some (k:Int)→v∈st.O:=by
  intro k
  induction k with
  | zero=>intro v hv';rw [hF.zero v hv'];exact h.start
  | succ k ih =>
   intro v hv'
   obtain ⟨u,hu,hl⟩:=hF.pred v _ hv' (by omega)
   have hm:=ih u (by rw [hl];congr 1;omega)
   obtain ⟨x,hx,hxe⟩:=List.mem_map.mp hu
   obtain ⟨p,hp'⟩:=List.mem_iff_getElem?.mp hm
   have e1:x.From=u:=congrArg Prod.fst hxe
   have e2:x.To=v:=congrArg Prod.snd hxe
   rw [← e2]
   exact h.closed p u (List.getElem?_eq_some_iff.mp hp').1 hp' x hx e1
 have h2:=(List.nodup_range (n:=S)).length_le_of_subset (l₂:=st.O.map Int.toNat) (by
  intro v hv'
  have hv':=List.mem_range.mp hv'
  obtain ⟨d,hd⟩:=idx_lt (L:=F) (v:=(v:Int)) (by omega) (by rw [hF.len];omega)
  have:=hpos _ _ hd
  exact List.mem_map.mpr ⟨(v:Int),hin d.toNat _ (by rw [hd];congr 1;omega),by simp⟩)
 have:=h.len
 simp at h2;omega
end Gp
end
section
namespace Gp
open Go Go.Kx Gx
variable {N:Nat}
theorem clone_one {α:Type} (l:List α) (h:l.length≤4294967296):(appL ([]:List α) l).bind (fun x=>some x)=some l:=by
 rw [appL_some (by simpa using h)];rfl
theorem copied_loop (g:T4) (hd:∀ d∈g.Decls,SizeD d) (hl:g.Decls.length≤4194304) :
  ∀ (m:List T0) (k n:Nat),g.Decls.drop k=m→m.length < n→z57_l2 N g g.Roles n (g.Decls.take k) (k:Int)=some ⟨g.Name,g.Roles,g.Decls,0,0,0,[],[]⟩:=by
 intro m
 induction m with
 | nil =>
  intro k n h hn
  obtain ⟨n,rfl⟩:∃ m,n=m+1:=⟨n-1,by simp at hn;omega⟩
  have hk:=drop_nil h
  simp only [z57_l2,lt_f hk,cond_false,z57_k1]
  rw [List.take_of_length_le hk]
 | cons x m ih =>
  intro k n h hn
  obtain ⟨n,rfl⟩:∃ m,n=m+1:=⟨n-1,by simp at hn;omega⟩
  obtain ⟨a,c,d⟩:=drop_cons h
  have sx:=hd x (List.mem_of_getElem? c)
  have s1:=sx.f
  have s2:=sx.d
  have s3:=sx.e
  have c1:z116 N x.Fields=some x.Fields:=clone_one _ (by omega)
  have c2:z117 N x.Guard.Diffs=some x.Guard.Diffs:=clone_one _ (by omega)
  have c3:z118 N x.Guard.Equals=some x.Guard.Equals:=clone_one _ (by omega)
  simp only [z57_l2,lt_t a,cT,idx_nat,c,bS,c1,c2,c3]
  rw [appL_some (by simp;omega),bS,w64_succ (by omega)]
  have:=ih (k+1) n d (by simp at hn;omega)
  rw [take_drop_cons h] at this
  exact this
theorem copied_eq (hN:4194304 < N) (g:T4) (hg:SizeG g):z57 N g=some ⟨g.Name,g.Roles,g.Decls,0,0,0,[],[]⟩:=by
 unfold z57
 have hr:=hg.r
 have c0:z115 N g.Roles=some g.Roles:=clone_one _ (by omega)
 rw [c0,bS]
 have hd:=hg.d
 exact copied_loop g hg.dd hg.d g.Decls 0 N rfl (by omega)
structure CanonOf (g:T4) (r:T4) (st:CSt):Prop where
 inv:CInv g g.States.toNat st.O.length st
 len:(st.O.length:Int)=g.States
 run:CRun g 0 ⟨[],[],[g.Start]⟩ st
 eq:r=⟨g.Name,g.Roles,g.Decls,g.States,0,plc st.O g.End 0,st.E,st.T⟩
theorem Canonical_both (hN:16777216 < N) (g:T4) (hg:SizeG g) (hs:SizeN g) (hn:NumE g):∃ r,z21 N g=some r∧z34 N g=some r∧SizeG r.1∧(ValidG g→r.2=0∧∃ st,CanonOf g r.1 st):=by
 obtain ⟨b,b1,b2,b3⟩:=Valid_both (N:=N) (by omega) g hg hs hn
 unfold z21 z34
 rw [b1,b2]
 simp only [bS]
 cases b
 ·refine ⟨_,rfl,rfl,⟨by simp,by simp,by simp,by simp,by simp⟩,?_⟩
  intro h;have:=b3.mpr h;cases this
 have hv:=b3.mp rfl
 obtain ⟨o1,o2,o3,o4,o5,o6,o7⟩:=numV_head hv.num
 have hS:g.States=(g.States.toNat:Int):=by omega
 generalize hs':g.States.toNat=S at *
 rw [copied_eq (by omega) g hg]
 simp only [bS,Bool.not_true,cond_false]
 rw [hS,repeat_eq (by omega) (by omega) (by omega)]
 have hrl:(List.replicate S (-1:Int)).length=S:=by simp
 have hri:∀ v:Int,0≤v→v < (S:Int)→idx (List.replicate S (-1:Int)) v=some (-1):=by
  intro v v0 v1
  obtain ⟨k,rfl⟩:∃ k:Nat,v=(k:Int):=⟨v.toNat,by omega⟩
  rw [idx_nat,List.getElem?_replicate,if_pos (by omega)]
 rw [bS,hri g.Start o3 (by omega),bS]
 have hI:CInv g S 0 ⟨[],[],[g.Start]⟩:=by
  refine ⟨by simp,?_,by simp,by intro p v hp;omega,by simp,by simp,by simp⟩
  intro v hv';simp at hv';subst hv';exact ⟨o3,by omega⟩
 have hR:NumR S (setL' (List.replicate S (-1:Int)) g.Start 0) [g.Start]:=by
  refine ⟨by rw [setL_len _ _ o3,hrl],?_⟩
  intro v v0 v1
  rw [idx_set o3 (by rw [hrl];omega)]
  show _=some (if g.Start=v then ((0:Nat):Int) else -1)
  by_cases h:v=g.Start
  ·rw [if_pos h,if_pos h.symm];rfl
  ·rw [if_neg h,if_neg (fun q=>h q.symm),hri v v0 v1]
 obtain ⟨st,num,p1,p2,p3,p4,p5⟩:=canon_out hN g S (by omega) hv hn hS o7 hg.t ⟨g.Name,g.Roles,g.Decls,0,0,0,[],[]⟩ N N 0 ⟨[],[],[g.Start]⟩ _ (by omega) (by omega) hI hR
 have hall:=p1.all hv hs'
 have e3:z21_l2 N g ⟨g.Name,g.Roles,g.Decls,0,0,0,[],[]⟩ N (0:Int) [] [] (setL' (List.replicate S (-1:Int)) g.Start 0) [g.Start]=z21_k1 g ⟨g.Name,g.Roles,g.Decls,0,0,0,[],[]⟩ (st.O.length:Int) st.E st.T num:=p3
 have e4:z34_l2 N g N [] [] [g.Start] (0:Int)=z34_k1 N g st.E st.T st.O:=p4
 rw [e3,e4]
 unfold z21_k1 z34_k1
 rw [p2.2 g.End o5 (by omega),place_eq (by omega) st.O (by have:=p1.len;omega)]
 simp only [bS]
 have bE:=p1.lenE
 have bT:=p1.lenT
 rw [hall] at bE bT
 have bi:S * 400≤80000:=by have:=Nat.mul_le_mul_right 400 (show S≤200 by omega);omega
 refine ⟨_,rfl,?_,⟨hg.r,hg.d,hg.dd,by show st.E.length≤_;omega,by show st.T.length≤_;omega⟩,?_⟩
 ·rw [hall,← hS]
 ·intro _
  refine ⟨rfl,st,?_⟩
  refine ⟨by rw [hs'];exact p1,by rw [hall];exact hS.symm,p5,?_⟩
  rw [hall,← hS]
end Gp
end
section
namespace Gp
open Go Go.Kx Gx
variable {N:Nat}
abbrev Word:=List T6
def actOf (g:T4) (k:Int):T6:=match idx g.Edges k with | some x=>x.Act | none=>⟨0,0,0⟩
def runV (g:T4) (s:Int):Word→Int
 | []=>s
 | a::w=>runV g ((nextV g s a).getD (0,false)).1 w
end Gp
end
section
namespace Gp
open Go Go.Kx Gx
variable {N:Nat}
def kids (g:T4) (w:Word) (L:List Int):List Word:=L.map fun k=>w++[actOf g k]
inductive Gen (g:T4) (nn:Nat) (A:List Word):Nat→Nat→Prop
 | stop (i c:Nat):A.length≤i→Gen g nn A i c
 | full (i c:Nat) (w:Word):A[i]? = some w→w.length=nn→Gen g nn A i c
 | step (i c:Nat) (w:Word) (L:List Int) (X Y:List Word):A[i]? = some w→w.length < nn→EdgesAre g (runV g g.Start w) L→A=X++(kids g w L++Y)→X.length=c→Gen g nn A (i+1) (c+L.length)→Gen g nn A i c
structure WInv (g:T4) (nn i:Nat) (out:List Word) (at':List Int):Prop where
 same:at'.length=out.length
 leads:∀ (j:Nat) (w:Word),out[j]? = some w→at'[j]? = some (runV g g.Start w)
 most:∀ w∈out,w.length≤nn
 up:∀ (j k:Nat) (v w:Word),j≤k→out[j]? = some v→out[k]? = some w→v.length≤w.length
 near:∀ (w:Word),out[i]? = some w→∀ v∈out,v.length≤w.length+1
 le:i≤out.length
 few:out.length≤3000
inductive WRun (g:T4) (nn:Nat):Nat→List Word→List Word × Int→Prop
 | stop (i:Nat) (out:List Word):out.length≤i→WRun g nn i out (out,0)
 | full (i:Nat) (out:List Word) (w:Word):out[i]? = some w→w.length=nn→WRun g nn i out (out,0)
 | over (i:Nat) (out:List Word) (w:Word) (L:List Int):out[i]? = some w→w.length < nn→EdgesAre g (runV g g.Start w) L→((out++kids g w L).length:Int) > 3000→WRun g nn i out ([],6)
 | step (i:Nat) (out:List Word) (w:Word) (L:List Int) (r:List Word × Int):out[i]? = some w→w.length < nn→EdgesAre g (runV g g.Start w) L→¬ ((out++kids g w L).length:Int) > 3000→WRun g nn (i+1) (out++kids g w L) r→WRun g nn i out r
end Gp
end
section
namespace Gp
open Go Go.Kx Gx
theorem eqA_iff (a b:T6):((a.From==b.From) && ((a.To==b.To) && ((a.Label==b.Label) && true)))=true↔a=b:=by
 cases a;cases b;simp
def BesideR (x y:T2):Prop:=x.From=y.From→(x.Act≠y.Act∧x.Act.From=y.Act.From∧x.Again=false∧y.Again=false)
structure ApartP (start:Int) (E:List T2):Prop where
 again:∀ x∈E,x.Again=true→x.From≠start
 beside:E.Pairwise BesideR
 behind:∀ x∈E,∀ y∈E,x.Again=true→y.To=x.From→x.Act.From=y.Act.From∧x.Act.Label=y.Act.Label
theorem BesideR.symm {x y:T2} (h:BesideR x y):BesideR y x:=fun e=>by
 obtain ⟨a,b,c,d⟩:=h e.symm
 exact ⟨fun q=>a q.symm,b.symm,d,c⟩
theorem apartP_iff (x y:T2) (same:Bool):apartP x y same=true↔((same=false→x.From=y.From→x.Act≠y.Act∧x.Act.From=y.Act.From∧x.Again=false)∧(x.Again=true→y.To=x.From→x.Act.From=y.Act.From∧x.Act.Label=y.Act.Label)):=by
 unfold apartP
 rw [Bool.not_eq_true',Bool.or_eq_false_iff]
 constructor
 ·rintro ⟨h1,h2⟩
  constructor
  ·intro hs hf
   subst hs
   rw [show (x.From==y.From)=true by simp [hf]] at h1
   simp only [Bool.not_false,Bool.true_and,Bool.or_eq_false_iff] at h1
   refine ⟨?_,by simpa [bne] using h1.2.1,h1.2.2⟩
   intro ha
   have:=(eqA_iff x.Act y.Act).mpr ha
   rw [h1.1] at this;cases this
  ·intro ha ht
   rw [ha,show (y.To==x.From)=true by simp [ht]] at h2
   simp only [Bool.true_and,Bool.or_eq_false_iff] at h2
   exact ⟨by simpa [bne] using h2.1,by simpa [bne] using h2.2⟩
 ·rintro ⟨h1,h2⟩
  constructor
  ·cases same
   ·cases hf:(x.From==y.From)
    ·rfl
    ·obtain ⟨a,b,c⟩:=h1 rfl (by simpa using hf)
     rw [show ((x.Act.From==y.Act.From) && ((x.Act.To==y.Act.To) && ((x.Act.Label==y.Act.Label) && true)))=false by
      cases hq:((x.Act.From==y.Act.From) && ((x.Act.To==y.Act.To) && ((x.Act.Label==y.Act.Label) && true)))
      ·rfl
      ·exact absurd ((eqA_iff _ _).mp hq) a,c,show (x.Act.From != y.Act.From)=false by simp [b]]
     rfl
   ·rfl
  ·cases ha:x.Again
   ·rfl
   ·cases ht:(y.To==x.From)
    ·rfl
    ·obtain ⟨a,b⟩:=h2 ha (by simpa using ht)
     simp [a,b]
theorem apartV_iff (g:T4):apartV g=true↔ApartP g.Start g.Edges:=by
 unfold apartV
 rw [allV_iff]
 constructor
 ·intro h
  have each:∀ (i j:Nat) x y,g.Edges[i]? = some x→g.Edges[j]? = some y→apartP x y (decide (i=j))=true:=by
   intro i j x y hx hy
   have h1:=h i x hx
   unfold apartE at h1
   rw [Bool.and_eq_true,Nat.zero_add] at h1
   have h2:=(allV_iff _ _ _).mp h1.2 j y hy
   rw [Nat.zero_add] at h2
   exact h2
  refine ⟨?_,?_,?_⟩
  ·intro x hx ha hf
   obtain ⟨i,hi⟩:=List.mem_iff_getElem?.mp hx
   have h1:=h i x hi
   unfold apartE at h1
   rw [Bool.and_eq_true,ha,show (x.From==g.Start)=true by simp [hf]] at h1
   cases h1.1
  ·rw [List.pairwise_iff_getElem]
   intro i j hi hj hij hf
   have a:=(apartP_iff _ _ _).mp (each i j _ _ (List.getElem?_eq_getElem hi) (List.getElem?_eq_getElem hj))
   have b:=(apartP_iff _ _ _).mp (each j i _ _ (List.getElem?_eq_getElem hj) (List.getElem?_eq_getElem hi))
   obtain ⟨a1,a2,a3⟩:=a.1 (dF (by omega)) hf
   obtain ⟨b1,b2,b3⟩:=b.1 (dF (by omega)) hf.symm
   exact ⟨a1,a2,a3,b3⟩
  ·intro x hx y hy ha ht
   obtain ⟨i,hi⟩:=List.mem_iff_getElem?.mp hx
   obtain ⟨j,hj⟩:=List.mem_iff_getElem?.mp hy
   exact ((apartP_iff _ _ _).mp (each i j x y hi hj)).2 ha ht
 ·rintro ⟨h1,h2,h3⟩ i x hi
  have hxm:=List.mem_of_getElem? hi
  unfold apartE
  rw [Bool.and_eq_true,Nat.zero_add]
  constructor
  ·cases ha:x.Again
   ·rfl
   ·have:=h1 x hxm ha
    simp [this]
  ·rw [allV_iff]
   intro j y hj
   rw [Nat.zero_add]
   rw [apartP_iff]
   refine ⟨?_,fun ha ht=>h3 x hxm y (List.mem_of_getElem? hj) ha ht⟩
   intro hs hf
   have hij:i≠j:=of_decide_eq_false hs
   obtain ⟨hi',e1⟩:=List.getElem?_eq_some_iff.mp hi
   obtain ⟨hj',e2⟩:=List.getElem?_eq_some_iff.mp hj
   rw [List.pairwise_iff_getElem] at h2
   rcases Nat.lt_or_gt_of_ne hij with hlt | hlt
   ·obtain ⟨a,b,c,d⟩:=h2 i j hi' hj' hlt (by rw [e1,e2];exact hf)
    rw [e1,e2] at a b;rw [e1] at c
    exact ⟨a,b,c⟩
   ·obtain ⟨a,b,c,d⟩:=h2 j i hj' hi' hlt (by rw [e1,e2];exact hf.symm)
    rw [e1,e2] at a b;rw [e1] at d
    exact ⟨fun q=>a q.symm,b.symm,d⟩
end Gp
end
section
namespace Gp
open Go Go.Kx Gx
def valsOf (g:T4) (L:List Int):List T2:=L.filterMap fun k=>idx g.Edges k
theorem vals_places (g:T4) (s:Int):∀ (l:List T2) (k:Nat),g.Edges.drop k=l→valsOf g (placesOf g s l k)=l.filter (fun x=>x.From==s)
 | [],k,h=>rfl
 | x::l,k,h=>by
  obtain ⟨a,c,d⟩:=drop_cons h
  have e0:placesOf g s (x::l) k=if x.From=s then (k:Int)::placesOf g s l (k+1) else placesOf g s l (k+1):=rfl
  have ih:=vals_places g s l (k+1) d
  rw [e0,List.filter_cons]
  by_cases hf:x.From=s
  ·rw [if_pos hf,show (x.From==s)=true by simp [hf],if_pos rfl]
   unfold valsOf at ih ⊢
   rw [List.filterMap_cons_some (b:=x) (by rw [idx_nat,c]),ih]
  ·rw [if_neg hf,show (x.From==s)=false by simp [hf],ih];simp
theorem vals_perm {g:T4} {s:Int} {L:List Int} (h:EdgesAre g s L):(valsOf g L).Perm (g.Edges.filter fun x=>x.From==s):=by
 rw [← vals_places g s g.Edges 0 rfl]
 exact h.1.filterMap _
theorem vals_mem {g:T4} {s:Int} {L:List Int} (h:EdgesAre g s L) {x:T2} (hx:x∈valsOf g L):x∈g.Edges∧x.From=s:=by
 have:=(vals_perm h).mem_iff.mp hx
 rw [List.mem_filter] at this
 exact ⟨this.1,by simpa using this.2⟩
end Gp
end
section
namespace Gp
open Go Go.Kx Gx
theorem beside_of {start:Int} {E:List T2} (h:ApartP start E) {i j:Nat} {x y:T2} (hi:E[i]? = some x) (hj:E[j]? = some y) (hij:i≠j):BesideR x y:=by
 obtain ⟨hi',e1⟩:=List.getElem?_eq_some_iff.mp hi
 obtain ⟨hj',e2⟩:=List.getElem?_eq_some_iff.mp hj
 have h2:=List.pairwise_iff_getElem.mp h.beside
 rcases Nat.lt_or_gt_of_ne hij with hlt | hlt
 ·have:=h2 i j hi' hj' hlt;rw [e1,e2] at this;exact this
 ·have:=h2 j i hj' hi' hlt;rw [e1,e2] at this;exact this.symm
end Gp
end
section
namespace Gp
open Go Go.Kx Gx
def mapE (f:Int→Int) (x:T2):T2:=⟨f x.From,x.Act,f x.To,x.Again⟩
structure Iso (g h:T4) (f:Int→Int):Prop where
 name:h.Name=g.Name
 roles:h.Roles=g.Roles
 decls:h.Decls=g.Decls
 states:h.States=g.States
 rng:∀ v,0≤v→v < g.States→0≤f v∧f v < g.States
 inj:∀ u v,0≤u→u < g.States→0≤v→v < g.States→f u=f v→u=v
 start:h.Start=f g.Start
 stop:h.End=f g.End
 edges:h.Edges.Perm (g.Edges.map (mapE f))
 tsort:h.Timeouts.Pairwise (fun a b=>a.State < b.State)
 tback:∀ t'∈h.Timeouts,∃ t∈g.Timeouts,∃ x,idx g.Edges t.Else=some x∧t'.State=f t.State∧t'.Ticks=t.Ticks∧idx h.Edges t'.Else=some (mapE f x)
 tforw:∀ t∈g.Timeouts,∀ x,idx g.Edges t.Else=some x→∃ t'∈h.Timeouts,t'.State=f t.State∧t'.Ticks=t.Ticks∧idx h.Edges t'.Else=some (mapE f x)
end Gp
end
section
namespace Gp
open Go Go.Kx Gx
theorem surj (S:Nat) (f:Int→Int) (rng:∀ v,0≤v→v < (S:Int)→0≤f v∧f v < (S:Int)) (inj:∀ u v,0≤u→u < (S:Int)→0≤v→v < (S:Int)→f u=f v→u=v) (w:Int) (w0:0≤w) (w1:w < (S:Int)):∃ v,0≤v∧v < (S:Int)∧f v=w:=by
 apply Classical.byContradiction
 intro hno
 have hnd:((List.range S).map fun k:Nat=>(f (k:Int)).toNat).Nodup:=by
  rw [List.nodup_iff_pairwise_ne,List.pairwise_map]
  refine List.Pairwise.imp_of_mem ?_ (List.nodup_iff_pairwise_ne.mp (List.nodup_range (n:=S)))
  intro a b ha hb hne hc
  have ha:=List.mem_range.mp ha
  have hb:=List.mem_range.mp hb
  have h1:=rng (a:Int) (by omega) (by omega)
  have h2:=rng (b:Int) (by omega) (by omega)
  have:=inj (a:Int) (b:Int) (by omega) (by omega) (by omega) (by omega) (by omega)
  omega
 have hni:w.toNat ∉ (List.range S).map fun k:Nat=>(f (k:Int)).toNat:=by
  intro hm
  obtain ⟨k,hk,he⟩:=List.mem_map.mp hm
  have hk:=List.mem_range.mp hk
  have h1:=rng (k:Int) (by omega) (by omega)
  exact hno ⟨(k:Int),by omega,by omega,by omega⟩
 have h:=(List.nodup_cons.mpr ⟨hni,hnd⟩).length_le_of_subset (l₂:=List.range S) (by
  intro v hv
  rcases List.mem_cons.mp hv with hv | hv
  ·subst hv;exact List.mem_range.mpr (by omega)
  ·obtain ⟨k,hk,rfl⟩:=List.mem_map.mp hv
   have hk:=List.mem_range.mp hk
   have h1:=rng (k:Int) (by omega) (by omega)
   exact List.mem_range.mpr (by omega))
 simp at h
 omega
end Gp
end
section
namespace Gp
open Go Go.Kx Gx
theorem ApartP.map {g h:T4} {f:Int→Int} (I:Iso g h f) (hr:∀ x∈g.Edges,(0≤x.From∧x.From < g.States)∧0≤x.To∧x.To < g.States) (hs:0≤g.Start∧g.Start < g.States) (ha:ApartP g.Start g.Edges):ApartP h.Start h.Edges:=by
 have mem:∀ x∈h.Edges,∃ y∈g.Edges,x=mapE f y:=by
  intro x hx
  obtain ⟨y,hy,rfl⟩:=List.mem_map.mp (I.edges.mem_iff.mp hx)
  exact ⟨y,hy,rfl⟩
 refine ⟨?_,?_,?_⟩
 ·intro x hx hag hf
  obtain ⟨y,hy,rfl⟩:=mem x hx
  rw [I.start] at hf
  exact ha.again y hy hag (I.inj _ _ (hr y hy).1.1 (hr y hy).1.2 hs.1 hs.2 hf)
 ·refine (List.Perm.pairwise_iff (fun h=>h.symm) I.edges).mpr ?_
  rw [List.pairwise_map]
  refine List.Pairwise.imp_of_mem ?_ ha.beside
  intro x y hx hy hb he
  exact hb (I.inj _ _ (hr x hx).1.1 (hr x hx).1.2 (hr y hy).1.1 (hr y hy).1.2 he)
 ·intro x hx y hy hag ht
  obtain ⟨x',hx',rfl⟩:=mem x hx
  obtain ⟨y',hy',rfl⟩:=mem y hy
  exact ha.behind x' hx' y' hy' hag (I.inj _ _ (hr y' hy').2.1 (hr y' hy').2.2 (hr x' hx').1.1 (hr x' hx').1.2 ht)
end Gp
end
section
namespace Gp
open Go Go.Kx Gx
theorem timeV_of {g:T4} (hs:g.Timeouts.Pairwise (fun a b=>a.State < b.State)) (ho:∀ t∈g.Timeouts,-1 < t.State∧okT g t):timeV g=true:=by
 unfold timeV
 rw [allV_iff]
 intro i t hi
 rw [Nat.zero_add]
 refine dT ⟨?_,(ho t (List.mem_of_getElem? hi)).2⟩
 cases i with
 | zero=>exact (ho t (List.mem_of_getElem? hi)).1
 | succ i =>
  obtain ⟨h1,e1⟩:=List.getElem?_eq_some_iff.mp hi
  have h2:i < g.Timeouts.length:=by omega
  simp only [lastV,List.getElem?_eq_getElem h2]
  have:=List.pairwise_iff_getElem.mp hs i (i+1) h2 h1 (by omega)
  rw [e1] at this
  exact this
theorem timeV_ok {g:T4} (h:timeV g=true) {t:T8} (ht:t∈g.Timeouts):okT g t:=by
 obtain ⟨i,hi⟩:=List.mem_iff_getElem?.mp ht
 exact (of_decide_eq_true ((allV_iff _ _ _).mp h i t hi)).2
theorem Iso.mem {g h:T4} {f:Int→Int} (I:Iso g h f) {x:T2} (hx:x∈h.Edges):∃ y∈g.Edges,x=mapE f y:=by
 obtain ⟨y,hy,rfl⟩:=List.mem_map.mp (I.edges.mem_iff.mp hx)
 exact ⟨y,hy,rfl⟩
theorem Iso.mem' {g h:T4} {f:Int→Int} (I:Iso g h f) {y:T2} (hy:y∈g.Edges):mapE f y∈h.Edges :=
 I.edges.mem_iff.mpr (List.mem_map.mpr ⟨y,hy,rfl⟩)
theorem Iso.len {g h:T4} {f:Int→Int} (I:Iso g h f):h.Edges.length=g.Edges.length:=by
 rw [I.edges.length_eq,List.length_map]
theorem idx_memE {g:T4} {k:Int} {x:T2} (h:idx g.Edges k=some x):x∈g.Edges:=by
 obtain ⟨k0,k1⟩:=idx_some h
 obtain ⟨q,rfl⟩:∃ q:Nat,k=(q:Int):=⟨k.toNat,by omega⟩
 rw [idx_nat] at h
 exact List.mem_of_getElem? h
theorem numV_iso {g h:T4} {f:Int→Int} (I:Iso g h f) (hv:numV g=true):numV h=true:=by
 obtain ⟨o1,o2,o3,o4,o5,o6,o7⟩:=numV_head hv
 have r1:=I.rng g.Start o3 o4
 have r2:=I.rng g.End o5 o6
 unfold numV
 rw [Bool.and_eq_true,allV_iff]
 constructor
 ·refine dT ?_
  unfold okH
  rw [I.states,I.start,I.stop,I.len]
  exact ⟨o1,o2,r1.1,r1.2,r2.1,r2.2,o7⟩
 ·intro i x hx
  obtain ⟨y,hy,rfl⟩:=I.mem (List.mem_of_getElem? hx)
  obtain ⟨a1,a2,a3,a4,a5⟩:=numV_edge hv hy
  have q1:=I.rng _ a1 a2
  have q2:=I.rng _ a3 a4
  refine dT ?_
  unfold okE
  rw [I.states,I.roles,I.decls]
  exact ⟨q1.1,q1.2,q2.1,q2.2,a5⟩
theorem pos_map {g h:T4} {f:Int→Int} (I:Iso g h f) (hv:numV g=true) (back:Bool) {e:Int} {F F':List Int} (hF:Dist (ers g back) g.States.toNat e F) (hp:posV F=true) (hF':Dist (ers h back) g.States.toNat (f e) F'):posV F'=true:=by
 obtain ⟨o1,o2,o3,o4,o5,o6,o7⟩:=numV_head hv
 have one:∀ (k:Nat) (v:Int),idx F v=some (k:Int)→∃ d,idx F' (f v)=some d∧0≤d:=by
  intro k
  induction k with
  | zero =>
   intro v hk
   have:=hF.zero v hk
   subst this
   exact ⟨0,hF'.root,by omega⟩
  | succ k ih =>
   intro v hk
   obtain ⟨u,hu,hl⟩:=hF.pred v _ hk (by omega)
   obtain ⟨d,d1,d2⟩:=ih u (by rw [hl];congr 1;omega)
   obtain ⟨x,hx,hxe⟩:=List.mem_map.mp hu
   have hm:(f u,f v)∈ers h back:=by
    refine List.mem_map.mpr ⟨mapE f x,I.mem' hx,?_⟩
    have e1:(er back x).1=u:=congrArg Prod.fst hxe
    have e2:(er back x).2=v:=congrArg Prod.snd hxe
    rw [← e1,← e2]
    cases back<;>rfl
   obtain ⟨d',h1,h2,_⟩:=hF'.succ (f u) (f v) d hm d1 d2
   exact ⟨d',h1,h2⟩
 have hpos:=(posV_iff hF).mp hp
 refine (posV_iff hF').mpr ?_
 intro w d hw
 obtain ⟨w0,w1⟩:=idx_some hw
 rw [hF'.len] at w1
 obtain ⟨v,v0,v1,rfl⟩:=surj g.States.toNat f (fun v a b=>by have:=I.rng v a (by omega);omega) (fun u v a b c d e=>I.inj u v a (by omega) c (by omega) e) w w0 w1
 obtain ⟨d0,hd⟩:=idx_lt (L:=F) (v:=v) v0 (by rw [hF.len];exact v1)
 have:=hpos _ _ hd
 obtain ⟨d',h1,h2⟩:=one d0.toNat v (by rw [hd];congr 1;omega)
 rw [hw] at h1;cases h1
 exact h2
theorem ValidG.rng {g:T4} (hv:ValidG g) {x:T2} (hx:x∈g.Edges):(0≤x.From∧x.From < g.States)∧0≤x.To∧x.To < g.States:=by
 obtain ⟨a1,a2,a3,a4,_⟩:=numV_edge hv.num hx
 exact ⟨⟨a1,a2⟩,a3,a4⟩
theorem ValidG.iso {g h:T4} {f:Int→Int} (I:Iso g h f) (hv:ValidG g):ValidG h:=by
 obtain ⟨o1,o2,o3,o4,o5,o6,o7⟩:=numV_head hv.num
 have hnum:=numV_iso I hv.num
 obtain ⟨p1,p2,p3,p4,p5,p6,p7⟩:=numV_head hnum
 refine ⟨?_,hnum,by rw [I.decls];exact hv.decls,?_,?_,?_,?_,?_⟩
 ·have:=hv.named
  unfold namedV at this ⊢
  have e:roleV h=roleV g:=by funext s i;unfold roleV;rw [I.roles]
  rw [I.name,I.roles,e]
  exact this
 ·exact (apartV_iff h).mpr (ApartP.map I (fun x hx=>hv.rng hx) ⟨o3,o4⟩ ((apartV_iff g).mp hv.apart))
 ·rw [List.all_eq_true]
  intro x hx
  obtain ⟨y,hy,rfl⟩:=I.mem hx
  have:=List.all_eq_true.mp hv.noEnd y hy
  have hne:y.From≠g.End:=by simpa using this
  have:f y.From≠f g.End:=fun q=>hne (I.inj _ _ (hv.rng hy).1.1 (hv.rng hy).1.2 o5 o6 q)
  rw [I.stop]
  simpa [mapE] using this
 ·refine timeV_of I.tsort ?_
  intro t' ht'
  obtain ⟨t,ht,x,hx,h1,h2,h3⟩:=I.tback t' ht'
  obtain ⟨k1,k2,k3,k4,k5⟩:=timeV_ok hv.time ht
  obtain ⟨y,y1,y2,y3⟩:=timeV_else hv.time ht
  rw [hx] at y1;cases y1
  have hr:=hv.rng (idx_memE hx)
  have q:=I.rng _ hr.1.1 hr.1.2
  rw [y2] at q
  obtain ⟨z1,z2⟩:=idx_some h3
  refine ⟨by rw [h1];omega,by rw [h2];exact k1,by rw [h2];exact k2,z1,z2,?_⟩
  unfold elseOk
  rw [h3]
  simp [mapE,y2,y3,h1]
 ·obtain ⟨F,hF,hp⟩:=hv.reach
  obtain ⟨F',_,hF'⟩:=spread_eq (N:=4194305) (by omega) h hnum false h.Start p3 p4
  refine ⟨F',hF',?_⟩
  rw [I.states,I.start] at hF'
  exact pos_map I hv.num false hF hp hF'
 ·obtain ⟨F,hF,hp⟩:=hv.ends
  obtain ⟨F',_,hF'⟩:=spread_eq (N:=4194305) (by omega) h hnum true h.End p5 p6
  refine ⟨F',hF',?_⟩
  rw [I.states,I.stop] at hF'
  exact pos_map I hv.num true hF hp hF'
end Gp
end
section
namespace Gp
open Go Go.Kx Gx
theorem edge_inj {g:T4} (hv:ValidG g) {a b:Int} {x:T2} (ha:idx g.Edges a=some x) (hb:idx g.Edges b=some x):a=b:=by
 obtain ⟨a0,a1⟩:=idx_some ha
 obtain ⟨b0,b1⟩:=idx_some hb
 obtain ⟨i,rfl⟩:∃ q:Nat,a=(q:Int):=⟨a.toNat,by omega⟩
 obtain ⟨j,rfl⟩:∃ q:Nat,b=(q:Int):=⟨b.toNat,by omega⟩
 rw [idx_nat] at ha hb
 by_cases h:i=j
 ·rw [h]
 ·exact absurd rfl (beside_of ((apartV_iff g).mp hv.apart) ha hb h rfl).1
structure Alike (f:Int→Int) (S:Int) (st st':CSt):Prop where
 O:st'.O=st.O.map f
 E:st'.E=st.E
 T:st'.T=st.T
 rng:∀ v∈st.O,0≤v∧v < S
theorem vals_cons {g:T4} {k:Int} {x:T2} (h:idx g.Edges k=some x) (L:List Int):valsOf g (k::L)=x::valsOf g L:=by
 unfold valsOf
 rw [List.filterMap_cons_some h]
theorem edges_nodup {g:T4} {s:Int} {L:List Int} (h:EdgesAre g s L):L.Nodup:=by
 refine h.1.nodup_iff.mpr ?_
 rw [List.nodup_iff_pairwise_ne]
 exact (placesOf_up g s g.Edges 0).imp (fun h=>by omega)
end Gp
end
section
namespace Gp
open Go Go.Kx Gx
theorem plc_pre:∀ (l X:List Int) (v:Int) (k:Nat),v∈l→plc (l++X) v k=plc l v k
 | x::l,X,v,k,h=>by
  show (if x=v then (k:Int) else plc (l++X) v (k+1))=if x=v then (k:Int) else plc l v (k+1)
  by_cases hx:x=v
  ·rw [if_pos hx,if_pos hx]
  ·rw [if_neg hx,if_neg hx]
   refine plc_pre l X v (k+1) ?_
   rcases List.mem_cons.mp h with h | h
   ·exact absurd h.symm hx
   ·exact h
theorem plc_at:∀ (l:List Int) (v:Int) (i k:Nat),l.Nodup→l[i]? = some v→plc l v k=((k+i:Nat):Int)
 | [],v,i,k,_,h=>by simp at h
 | x::l,v,i,k,hn,h=>by
  obtain ⟨h1,h2⟩:=List.nodup_cons.mp hn
  show (if x=v then (k:Int) else plc l v (k+1))=_
  cases i with
  | zero=>simp at h;rw [if_pos h];simp
  | succ i =>
   have h:l[i]? = some v:=by simpa using h
   have:x≠v:=fun e=>h1 (by rw [e];exact List.mem_of_getElem? h)
   rw [if_neg this,plc_at l v i (k+1) h2 h]
   congr 1;omega
theorem plc_back:∀ (l:List Int) (v:Int) (k:Nat),v∈l→∃ i,l[i]? = some v∧plc l v k=((k+i:Nat):Int)
 | x::l,v,k,h=>by
  show ∃ i,(x::l)[i]? = some v∧(if x=v then (k:Int) else plc l v (k+1))=_
  by_cases hx:x=v
  ·exact ⟨0,by simp [hx],by rw [if_pos hx];simp⟩
  ·rcases List.mem_cons.mp h with h | h
   ·exact absurd h.symm hx
   ·obtain ⟨i,h1,h2⟩:=plc_back l v (k+1) h
    exact ⟨i+1,by simpa using h1,by rw [if_neg hx,h2];congr 1;omega⟩
theorem ord_pre (O:List Int) (v:Int):∃ X,ordN O v=O++X:=by
 unfold ordN;split
 ·exact ⟨[],by simp⟩
 ·exact ⟨[v],rfl⟩
theorem ord_mem (O:List Int) (v:Int):v∈ordN O v:=by
 unfold ordN;split
 ·assumption
 ·simp
theorem stepC_some {g:T4} {k:Int} {x:T2} (h:idx g.Edges k=some x) (i:Int) (st:CSt):stepC g i st k=⟨st.E++[⟨i,x.Act,plc (ordN st.O x.To) x.To 0,x.Again⟩],st.T++(tmos g k).map (fun t=>⟨i,t.Ticks,(st.E.length:Int)⟩),ordN st.O x.To⟩:=by
 unfold stepC;rw [h]
theorem fold_O (g:T4) (i:Int):∀ (L:List Int) (st:CSt),∃ X,(L.foldl (stepC g i) st).O=st.O++X
 | [],st=>⟨[],by simp⟩
 | k::L,st=>by
  rw [List.foldl_cons]
  obtain ⟨X,hX⟩:=fold_O g i L (stepC g i st k)
  cases hx:idx g.Edges k with
  | none=>exact ⟨X,by rw [hX];unfold stepC;rw [hx]⟩
  | some x =>
   obtain ⟨Y,hY⟩:=ord_pre st.O x.To
   exact ⟨Y++X,by rw [hX,stepC_some hx,hY];simp⟩
theorem fold_E (g:T4) (i:Int):∀ (L:List Int) (st:CSt) (X:List Int),(∀ k∈L,∃ x,idx g.Edges k=some x) →
  (L.foldl (stepC g i) st).E=st.E++(valsOf g L).map (fun x=>⟨i,x.Act,plc ((L.foldl (stepC g i) st).O++X) x.To 0,x.Again⟩)
 | [],st,X,_=>by simp [valsOf]
 | k::L,st,X,h=>by
  obtain ⟨x,hx⟩:=h k (by simp)
  rw [List.foldl_cons,vals_cons hx,fold_E g i L _ X (fun q hq=>h q (by simp [hq]))]
  obtain ⟨Y,hY⟩:=fold_O g i L (stepC g i st k)
  have e1:(stepC g i st k).O=ordN st.O x.To:=by rw [stepC_some hx]
  have e2:plc ((L.foldl (stepC g i) (stepC g i st k)).O++X) x.To 0=plc (ordN st.O x.To) x.To 0:=by
   rw [hY,e1,aA]
   exact plc_pre _ _ _ _ (ord_mem _ _)
  rw [stepC_some hx] at e2 ⊢
  simp only [List.map_cons,e2]
  simp
theorem vals_get {g:T4}:∀ (L:List Int) (m:Nat) (k:Int),(∀ k∈L,∃ x,idx g.Edges k=some x)→L[m]? = some k→(valsOf g L)[m]? = idx g.Edges k
 | [],m,k,_,h=>by simp at h
 | q::L,m,k,hL,h=>by
  obtain ⟨x,hx⟩:=hL q (by simp)
  rw [vals_cons hx]
  cases m with
  | zero=>simp at h;subst h;rw [hx];rfl
  | succ m =>
   rw [List.getElem?_cons_succ] at h ⊢
   exact vals_get L m k (fun r hr=>hL r (by simp [hr])) h
theorem fold_T0 {g:T4} (i:Int):∀ (L:List Int) (st:CSt),(∀ k∈L,tmos g k=[])→(L.foldl (stepC g i) st).T=st.T
 | [],st,_=>rfl
 | k::L,st,h=>by
  rw [List.foldl_cons,fold_T0 i L _ (fun q hq=>h q (by simp [hq]))]
  unfold stepC
  cases idx g.Edges k with
  | none=>rfl
  | some x=>simp [h k (by simp)]
theorem fold_T1 {g:T4} (i:Int) (t:T8):∀ (L:List Int) (st:CSt),(∀ k∈L,∃ x,idx g.Edges k=some x)→L.Nodup→(∀ k∈L,tmos g k=if t.Else=k then [t] else [])→t.Else∈L →
  ∃ m,L[m]? = some t.Else∧(L.foldl (stepC g i) st).T=st.T++[⟨i,t.Ticks,((st.E.length+m:Nat):Int)⟩]
 | k::L,st,hx,hn,ht,hm=>by
  obtain ⟨n1,n2⟩:=List.nodup_cons.mp hn
  obtain ⟨x,hk⟩:=hx k (by simp)
  rw [List.foldl_cons]
  by_cases he:t.Else=k
  ·refine ⟨0,by simp [he],?_⟩
   rw [fold_T0 i L _ (fun q hq=>by rw [ht q (by simp [hq]),if_neg (fun e=>n1 (by rw [← he,e];exact hq))]),stepC_some hk,ht k (by simp),if_pos he]
   simp
  ·have hm':t.Else∈L:=by
    rcases List.mem_cons.mp hm with h | h
    ·exact absurd h he
    ·exact h
   obtain ⟨m,m1,m2⟩:=fold_T1 i t L (stepC g i st k) (fun q hq=>hx q (by simp [hq])) n2 (fun q hq=>ht q (by simp [hq])) hm'
   refine ⟨m+1,by simpa using m1,?_⟩
   rw [m2,stepC_some hk,ht k (by simp),if_neg he]
   simp;omega
theorem CRun.pre {g:T4} {i:Nat} {st r:CSt} (H:CRun g i st r):(∃ X,r.O=st.O++X)∧∃ Y,r.E=st.E++Y:=by
 induction H with
 | stop i st h=>exact ⟨⟨[],by simp⟩,[],by simp⟩
 | step i st r s L hs hL _ ih =>
  obtain ⟨⟨X,hX⟩,Y,hY⟩:=ih
  obtain ⟨Z,hZ⟩:=fold_O g (i:Int) L st
  have hE:=fold_E g (i:Int) L st [] (fun k hk=>by obtain ⟨x,hx,_⟩:=(edges_mem hL).1 k hk;exact ⟨x,hx⟩)
  exact ⟨⟨Z++X,by rw [hX,hZ];simp⟩,_,by rw [hY,hE,aA]⟩
theorem drop_at {α:Type} {l:List α} {i:Nat} {x:α} (h:l[i]? = some x):l.drop i=x::l.drop (i+1):=by
 obtain ⟨h1,h2⟩:=List.getElem?_eq_some_iff.mp h
 rw [List.drop_eq_getElem_cons h1,h2]
theorem block {g:T4} {i:Nat} {st r:CSt} {s:Int} {L:List Int} (hs:st.O[i]? = some s) (hL:EdgesAre g s L) (H:CRun g (i+1) (L.foldl (stepC g (i:Int)) st) r) (hnd:r.O.Nodup) :
  r.O[i]? = some s∧plc r.O s 0=(i:Int)∧(L.foldl (stepC g (i:Int)) st).E=st.E++(valsOf g L).map (mapE fun v=>plc r.O v 0):=by
 obtain ⟨⟨X,hX⟩,_⟩:=H.pre
 obtain ⟨Z,hZ⟩:=fold_O g (i:Int) L st
 have hlt:=(List.getElem?_eq_some_iff.mp hs).1
 have h1:r.O[i]? = some s:=by rw [hX,hZ,aA,List.getElem?_append_left hlt];exact hs
 have h2:plc r.O s 0=(i:Int):=by rw [plc_at r.O s i 0 hnd h1];simp
 refine ⟨h1,h2,?_⟩
 rw [fold_E g (i:Int) L st X (fun k hk=>by obtain ⟨x,hx,_⟩:=(edges_mem hL).1 k hk;exact ⟨x,hx⟩),← hX]
 congr 1
 refine List.map_congr_left ?_
 intro x hx
 have hf:x.From=s:=(vals_mem hL hx).2
 unfold mapE
 rw [hf]
 simp only [h2]
theorem run_E {g:T4} {i:Nat} {st r:CSt} (H:CRun g i st r) (hnd:r.O.Nodup):r.E.Perm (st.E++(r.O.drop i).flatMap fun s=>(g.Edges.filter fun x=>x.From==s).map (mapE fun v=>plc r.O v 0)):=by
 induction H with
 | stop i st h=>rw [List.drop_eq_nil_of_le h];simp
 | step i st r s L hs hL H ih =>
  obtain ⟨h1,h2,h3⟩:=block hs hL H hnd
  refine (ih hnd).trans ?_
  rw [h3,drop_at h1,List.flatMap_cons,aA]
  refine List.Perm.append_left _ (List.Perm.append_right _ ?_)
  exact (vals_perm hL).map _
theorem flat_perm (E:List T2):∀ (O:List Int),O.Nodup→(O.flatMap fun s=>E.filter fun x=>x.From==s).Perm (E.filter fun x=>decide (x.From∈O))
 | [],_=>by simp
 | s::O,h=>by
  obtain ⟨h1,h2⟩:=List.nodup_cons.mp h
  rw [List.flatMap_cons]
  have:=List.filter_append_perm (fun x:T2=>x.From==s) (E.filter fun x=>decide (x.From∈s::O))
  refine List.Perm.trans ?_ this
  rw [List.filter_filter,List.filter_filter]
  refine List.Perm.append (List.Perm.of_eq ?_) ((flat_perm E O h2).trans (List.Perm.of_eq ?_))
  ·refine List.filter_congr ?_
   intro x _
   by_cases hx:x.From=s
   ·simp [hx]
   ·simp [hx]
  ·refine List.filter_congr ?_
   intro x _
   by_cases hx:x.From=s
   ·simp [hx,h1]
   ·simp [hx]
structure TInv (g:T4) (F:Int→Int) (E':List T2) (i:Nat) (T:List T8):Prop where
 sort:T.Pairwise (fun a b=>a.State < b.State)
 below:∀ t∈T,t.State < (i:Int)
 back:∀ t'∈T,∃ t∈g.Timeouts,∃ x,idx g.Edges t.Else=some x∧t'.State=F t.State∧t'.Ticks=t.Ticks∧idx E' t'.Else=some (mapE F x)
 forw:∀ t∈g.Timeouts,0≤F t.State→F t.State < (i:Int)→∀ x,idx g.Edges t.Else=some x→∃ t'∈T,t'.State=F t.State∧t'.Ticks=t.Ticks∧idx E' t'.Else=some (mapE F x)
theorem tmos_of {g:T4} (hv:ValidG g) {s k:Int} {x:T2} (hx:idx g.Edges k=some x) (hf:x.From=s):tmos g k=match g.Timeouts.find? (fun t=>t.State==s) with | some t=>if t.Else=k then [t] else [] | none=>[]:=by
 refine filt s k g.Timeouts (timeV_sorted hv.time) ?_
 intro t ht hte
 obtain ⟨y,y1,y2,_⟩:=timeV_else hv.time ht
 rw [hte,hx] at y1
 cases y1
 rw [← y2,hf]
theorem find_uniq {l:List T8} (hp:l.Pairwise (fun a b=>a.State < b.State)) {t:T8} (ht:t∈l):l.find? (fun u=>u.State==t.State)=some t:=by
 induction l with
 | nil=>cases ht
 | cons a l ih =>
  obtain ⟨h1,h2⟩:=List.pairwise_cons.mp hp
  rw [List.find?_cons]
  rcases List.mem_cons.mp ht with h | h
  ·subst h;simp
  ·have:=h1 t h
   rw [show (a.State==t.State)=false by simp;omega]
   exact ih h2 h
theorem run_T {g:T4} (hv:ValidG g) {i:Nat} {st r:CSt} (H:CRun g i st r) (hnd:r.O.Nodup):TInv g (fun v=>plc r.O v 0) r.E i st.T→∃ n,r.O.length≤n∧TInv g (fun v=>plc r.O v 0) r.E n r.T:=by
 induction H with
 | stop i st h=>intro hT;exact ⟨i,h,hT⟩
 | step i st r s L hs hL H ih =>
  intro hT
  obtain ⟨h1,h2,h3⟩:=block hs hL H hnd
  have hLx:=(edges_mem hL).1
  have hLx':∀ k∈L,∃ x,idx g.Edges k=some x:=fun k hk=>by obtain ⟨x,hx,_⟩:=hLx k hk;exact ⟨x,hx⟩
  obtain ⟨_,Y,hY⟩:=H.pre
  apply ih hnd
  have hat:∀ t∈g.Timeouts,0≤plc r.O t.State 0→plc r.O t.State 0 < ((i+1:Nat):Int)→plc r.O t.State 0 < (i:Int)∨t.State=s:=by
   intro t ht a b
   by_cases c:plc r.O t.State 0 < (i:Int)
   ·exact .inl c
   ·right
    obtain ⟨q,q1,q2⟩:=plc_back r.O t.State 0 ((plc_mem _ _ _).1.mp a)
    have:q=i:=by omega
    subst this
    rw [h1] at q1;cases q1;rfl
  cases hf:g.Timeouts.find? (fun t=>t.State==s) with
  | none =>
   have hz:(L.foldl (stepC g (i:Int)) st).T=st.T:=fold_T0 (i:Int) L st (fun k hk=>by
    obtain ⟨x,hx,hxf⟩:=hLx k hk
    rw [tmos_of hv hx hxf,hf])
   rw [hz]
   refine ⟨hT.sort,fun t ht=>by have:=hT.below t ht;omega,hT.back,?_⟩
   intro t ht a b
   rcases hat t ht a b with c | c
   ·exact hT.forw t ht a c
   ·have:=List.find?_eq_none.mp hf t ht
    simp [c] at this
  | some t0 =>
   have t0m:=List.mem_of_find?_eq_some hf
   have t0s:t0.State=s:=by have:=List.find?_some hf;simpa using this
   obtain ⟨x0,x1,x2,_⟩:=timeV_else hv.time t0m
   have hin:t0.Else∈L:=by
    obtain ⟨k,k1,k2⟩:=(edges_mem hL).2 x0 (idx_memE x1) (by rw [x2,t0s])
    rw [edge_inj hv x1 k2];exact k1
   obtain ⟨m,m1,m2⟩:=fold_T1 (i:Int) t0 L st hLx' (edges_nodup hL) (fun k hk=>by
    obtain ⟨x,hx,hxf⟩:=hLx k hk
    rw [tmos_of hv hx hxf,hf]) hin
   have hx0:idx r.E ((st.E.length+m:Nat):Int)=some (mapE (fun v=>plc r.O v 0) x0):=by
    have hg:=vals_get L m t0.Else hLx' m1
    rw [x1] at hg
    have hml:=(List.getElem?_eq_some_iff.mp hg).1
    rw [idx_nat,hY,h3,aA,List.getElem?_append_right (by omega),List.getElem?_append_left (by simp;omega)]
    rw [show st.E.length+m-st.E.length=m by omega,List.getElem?_map,hg];rfl
   rw [m2]
   refine ⟨?_,?_,?_,?_⟩
   ·rw [List.pairwise_append]
    refine ⟨hT.sort,by simp,?_⟩
    intro a ha b hb
    simp at hb;subst hb
    exact hT.below a ha
   ·intro t ht
    rcases List.mem_append.mp ht with ht | ht
    ·have:=hT.below t ht;omega
    ·simp at ht;subst ht;show (i:Int) < _;omega
   ·intro t ht
    rcases List.mem_append.mp ht with ht | ht
    ·exact hT.back t ht
    ·simp at ht;subst ht
     exact ⟨t0,t0m,x0,x1,by show (i:Int)=plc r.O t0.State 0;rw [t0s,h2],rfl,hx0⟩
   ·intro t ht a b x hx
    rcases hat t ht a b with c | c
    ·obtain ⟨t',a1,a2⟩:=hT.forw t ht a c x hx
     exact ⟨t',by simp [a1],a2⟩
    ·have:=find_uniq (timeV_sorted hv.time) ht
     rw [c,hf] at this
     cases this
     rw [x1] at hx;cases hx
     exact ⟨⟨(i:Int),t0.Ticks,((st.E.length+m:Nat):Int)⟩,List.mem_append.mpr (.inr (by simp)),by show (i:Int)=plc r.O t0.State 0;rw [t0s,h2],rfl,hx0⟩
theorem canon_is {g r:T4} (hv:ValidG g) {st:CSt} (hc:CanonOf g r st):Iso g r (fun v=>plc st.O v 0):=by
 obtain ⟨o1,o2,o3,o4,o5,o6,o7⟩:=numV_head hv.num
 have hI:=hc.inv
 have hlen:=hc.len
 have hin:∀ v,0≤v→v < g.States→v∈st.O:=by
  intro v v0 v1
  obtain ⟨u,u0,u1,hu⟩:=surj st.O.length (fun k=>st.O[k.toNat]?.getD 0) (by
   intro w a b
   obtain ⟨k,rfl⟩:∃ k:Nat,w=(k:Int):=⟨w.toNat,by omega⟩
   have hk:k < st.O.length:=by omega
   have:=hI.range st.O[k] (List.getElem_mem hk)
   simp only [Int.toNat_natCast,List.getElem?_eq_getElem hk,Option.getD_some]
   omega) (by
   intro w z a b c d e
   obtain ⟨k,rfl⟩:∃ k:Nat,w=(k:Int):=⟨w.toNat,by omega⟩
   obtain ⟨j,rfl⟩:∃ k:Nat,z=(k:Int):=⟨z.toNat,by omega⟩
   have hk:k < st.O.length:=by omega
   have hj:j < st.O.length:=by omega
   simp only [Int.toNat_natCast,List.getElem?_eq_getElem hk,List.getElem?_eq_getElem hj,Option.getD_some] at e
   have:=(List.getElem_inj hI.nodup).mp e
   omega) v v0 (by omega)
  obtain ⟨k,rfl⟩:∃ k:Nat,u=(k:Int):=⟨u.toNat,by omega⟩
  have hk:k < st.O.length:=by omega
  simp only [Int.toNat_natCast,List.getElem?_eq_getElem hk,Option.getD_some] at hu
  rw [← hu];exact List.getElem_mem hk
 have hpos:∀ v,0≤v→v < g.States→∃ i:Nat,st.O[i]? = some v∧plc st.O v 0=(i:Int):=by
  intro v v0 v1
  obtain ⟨i,i1,i2⟩:=plc_back st.O v 0 (hin v v0 v1)
  exact ⟨i,i1,by rw [i2];simp⟩
 obtain ⟨⟨X,hX⟩,_⟩:=hc.run.pre
 obtain ⟨n,n1,hT⟩:=run_T hv hc.run hI.nodup ⟨by simp,by simp,by simp,by intro t ht a b;omega⟩
 have rE:r.Edges=st.E:=by rw [hc.eq]
 have rT:r.Timeouts=st.T:=by rw [hc.eq]
 refine ⟨by rw [hc.eq],by rw [hc.eq],by rw [hc.eq],by rw [hc.eq],?_,?_,?_,by rw [hc.eq],?_,by rw [rT];exact hT.sort,?_,?_⟩
 ·intro v v0 v1
  obtain ⟨i,i1,i2⟩:=hpos v v0 v1
  have:=(List.getElem?_eq_some_iff.mp i1).1
  show 0≤plc st.O v 0∧plc st.O v 0 < g.States
  omega
 ·intro u v u0 u1 v0 v1 e
  obtain ⟨i,i1,i2⟩:=hpos u u0 u1
  obtain ⟨j,j1,j2⟩:=hpos v v0 v1
  have e:plc st.O u 0=plc st.O v 0:=e
  have:i=j:=by omega
  subst this
  rw [i1] at j1;cases j1;rfl
 ·rw [hc.eq,hX]
  show (0:Int)=plc (g.Start::X) g.Start 0
  unfold plc;rw [if_pos rfl];rfl
 ·rw [rE]
  refine (run_E hc.run hI.nodup).trans ?_
  rw [List.nil_append,List.drop_zero,← List.map_flatMap]
  refine List.Perm.map _ ((flat_perm g.Edges st.O hI.nodup).trans (List.Perm.of_eq ?_))
  refine List.filter_eq_self.mpr ?_
  intro x hx
  have:=hv.rng hx
  exact dT (hin _ this.1.1 this.1.2)
 ·rw [rT,rE];exact hT.back
 ·rw [rT,rE]
  intro t ht x hx
  obtain ⟨y,y1,y2,_⟩:=timeV_else hv.time ht
  have hr:=hv.rng (idx_memE y1)
  rw [y2] at hr
  obtain ⟨i,i1,i2⟩:=hpos t.State hr.1.1 hr.1.2
  have:=(List.getElem?_eq_some_iff.mp i1).1
  exact hT.forw t ht (by rw [i2];omega) (by rw [i2];omega) x hx
end Gp
end
section
namespace Gp
open Go Go.Kx Gx
theorem Iso.num {g h:T4} {f:Int→Int} (I:Iso g h f) (hn:NumE g):NumE h:=by
 intro e he
 obtain ⟨y,hy,rfl⟩:=I.mem he
 exact hn y hy
theorem Iso.sizeN {g h:T4} {f:Int→Int} (I:Iso g h f) (hs:SizeN g):SizeN h :=
 ⟨by rw [I.name];exact hs.n,by rw [I.roles];exact hs.r,by rw [I.decls];exact hs.d⟩
theorem Iso.tlen {g h:T4} {f:Int→Int} (I:Iso g h f) (hv:ValidG g):h.Timeouts.length≤200:=by
 obtain ⟨o1,o2,o3,o4,o5,o6,o7⟩:=numV_head hv.num
 have hr:∀ t∈h.Timeouts,0≤t.State∧t.State < g.States:=by
  intro t' ht'
  obtain ⟨t,ht,x,hx,h1,_⟩:=I.tback t' ht'
  obtain ⟨y,y1,y2,_⟩:=timeV_else hv.time ht
  have:=hv.rng (idx_memE y1)
  rw [h1,← y2]
  exact I.rng _ this.1.1 this.1.2
 have hnd:(h.Timeouts.map fun t=>t.State.toNat).Nodup:=by
  rw [List.nodup_iff_pairwise_ne,List.pairwise_map]
  refine List.Pairwise.imp_of_mem ?_ I.tsort
  intro a b ha hb hlt hc
  have:=hr a ha;have:=hr b hb
  omega
 have:=hnd.length_le_of_subset (l₂:=List.range 200) (by
  intro v hm
  obtain ⟨t,ht,rfl⟩:=List.mem_map.mp hm
  have:=hr t ht
  exact List.mem_range.mpr (by omega))
 simpa using this
theorem Iso.sizeG {g h:T4} {f:Int→Int} (I:Iso g h f) (hv:ValidG g) (hs:SizeG g):SizeG h :=
 ⟨by rw [I.roles];exact hs.r,by rw [I.decls];exact hs.d,by rw [I.decls];exact hs.dd,by rw [I.len];exact hs.e,by have:=I.tlen hv;omega⟩
end Gp
end
section
namespace Gp
open Go Go.Kx Gx
variable {N:Nat}
def vu:Nat→Nat→List Int
 | 0,u=>[(u:Int)]
 | m+1,u=>if u < 128 then [(u:Int)] else ((u % 128+128:Nat):Int)::vu m (u / 128)
theorem vu_len:∀ (m u:Nat),(vu m u).length≤m+1
 | 0,u=>by simp [vu]
 | m+1,u=>by
  unfold vu
  split
  ·simp
  ·have:=vu_len m (u / 128);simp;omega
theorem or_all:((List.range 256).all fun r=>decide (binO .or .u8 (r:Int) (128:Int)=some (((r % 128+128:Nat)):Int)))=true:=by kernel_rfl
theorem or_128 (r:Nat) (h:r < 256):binO .or .u8 (r:Int) (128:Int)=some (((r % 128+128:Nat)):Int) :=
 of_decide_eq_true (List.all_eq_true.mp or_all r (List.mem_range.mpr h))
theorem wk8 (u:Nat):wk .u8 (u:Int)=((u % 256:Nat):Int):=by
 show IntKind.u8.wrap _=_
 simp [IntKind.wrap,IntKind.signed,IntKind.bits]
theorem shr7 (u:Nat):binO .shr .u64 (u:Int) (7:Int)=some ((u / 128:Nat):Int):=by
 show some ((u:Int).fdiv (2 ^ 7))=_
 rw [Int.fdiv_eq_ediv_of_nonneg _ (by decide)]
 simp
theorem wire_loop:∀ (m f u:Nat) (b:List Int),u < 128 ^ (m+1)→m < f→b.length+(m+1)≤4294967296→z82_l2 f b (u:Int)=some (b++vu m u):=by
 intro m
 induction m with
 | zero =>
  intro f u b hu hf hb
  obtain ⟨f,rfl⟩:∃ q,f=q+1:=⟨f-1,by omega⟩
  have hu:u < 128:=by simpa using hu
  have:decide ((u:Int)≥128)=false:=by simp;omega
  simp only [z82_l2,this,cond_false,z82_k1,wk8]
  rw [appL_some (by simp;omega),show u % 256=u by omega];rfl
 | succ m ih =>
  intro f u b hu hf hb
  obtain ⟨f,rfl⟩:∃ q,f=q+1:=⟨f-1,by omega⟩
  by_cases h:u < 128
  ·have:decide ((u:Int)≥128)=false:=by simp;omega
   simp only [z82_l2,this,cond_false,z82_k1,wk8]
   rw [appL_some (by simp;omega),show u % 256=u by omega]
   unfold vu
   rw [if_pos h];rfl
  ·have:decide ((u:Int)≥128)=true:=by simp;omega
   simp only [z82_l2,this,cT,wk8,or_128 (u % 256) (by omega),bS,shr7]
   rw [appL_some (by simp;omega),bS,ih f (u / 128) _ (by rw [Nat.pow_succ] at hu;omega) (by omega) (by simp;omega)]
   unfold vu
   rw [if_neg h,show u % 256 % 128=u % 128 by omega]
   cases m<;>simp [vu]
def zig (n:Int):Nat:=(wk .u64 ((BitVec.ofInt 64 (wk .u64 (wk .u64 n * 2 ^ 1)) ^^^ BitVec.ofInt 64 (wk .u64 (n.fdiv (2 ^ 63)))).toNat:Int)).toNat
def vint (n:Int):List Int:=vu 9 (zig n)
theorem wk64_nonneg (n:Int):0≤wk .u64 n∧wk .u64 n < 18446744073709551616:=by
 show 0≤IntKind.u64.wrap n∧IntKind.u64.wrap n < _
 simp [IntKind.wrap,IntKind.signed,IntKind.bits]
 omega
theorem vint_len (n:Int):(vint n).length≤10:=vu_len 9 _
theorem wire_Int_eq (hN:10 < N) (b:List Int) (hb:b.length≤4000000000) (n:Int):z82 N b n=some (b++vint n):=by
 have e1:binO .shl .u64 (wk .u64 n) (1:Int)=some (wk .u64 (wk .u64 n * 2 ^ 1)):=rfl
 have e2:binO .shr .i64 n (63:Int)=some (n.fdiv (2 ^ 63)):=rfl
 have e3:∀ a c,binO .xor .u64 a c=some (wk .u64 ((BitVec.ofInt 64 a ^^^ BitVec.ofInt 64 c).toNat:Int)):=fun _ _=>rfl
 unfold z82
 rw [e1,e2]
 simp only [bS,e3]
 have h:=wk64_nonneg ((BitVec.ofInt 64 (wk .u64 (wk .u64 n * 2 ^ 1)) ^^^ BitVec.ofInt 64 (wk .u64 (n.fdiv (2 ^ 63)))).toNat:Int)
 have hz:(zig n:Int)=wk .u64 ((BitVec.ofInt 64 (wk .u64 (wk .u64 n * 2 ^ 1)) ^^^ BitVec.ofInt 64 (wk .u64 (n.fdiv (2 ^ 63)))).toNat:Int):=by
  unfold zig;omega
 rw [← hz] at h ⊢
 have hp:(128:Nat) ^ (9+1)=1180591620717411303424:=by decide
 exact wire_loop 9 N (zig n) b (by omega) (by omega) (by omega)
theorem enc_loop {α β:Type} (B c:Nat) (xs:List α) (e:α→List Int) (F:Nat→List Int→Int→Option β) (K:List Int→Option β)
  (he:∀ x∈xs,(e x).length≤c) (hx:xs.length≤4194304)
  (h1:∀ n k x b,k < xs.length→xs[k]? = some x→b.length+c≤B→F (n+1) b (k:Int)=F n (b++e x) ((k+1:Nat):Int))
  (h2:∀ n k b,xs.length≤k→F (n+1) b (k:Int)=K b) :
  ∀ (l:List α) (k n:Nat) (b:List Int),xs.drop k=l→l.length < n→b.length+c * l.length≤B→F n b (k:Int)=K (b++l.flatMap e):=by
 intro l
 induction l with
 | nil =>
  intro k n b h hn hb
  obtain ⟨n,rfl⟩:∃ m,n=m+1:=⟨n-1,by simp at hn;omega⟩
  rw [h2 n k b (drop_nil h)];simp
 | cons x l ih =>
  intro k n b h hn hb
  obtain ⟨n,rfl⟩:∃ m,n=m+1:=⟨n-1,by simp at hn;omega⟩
  obtain ⟨a,d,r⟩:=drop_cons h
  have hl:=he x (List.mem_of_getElem? d)
  simp only [List.length_cons,Nat.mul_succ] at hb hn
  rw [h1 n k x b a d (by omega),ih (k+1) n _ r (by omega) (by simp;omega)]
  simp
theorem flat_len {α:Type} (e:α→List Int) (c:Nat):∀ (l:List α),(∀ x∈l,(e x).length≤c)→(l.flatMap e).length≤c * l.length
 | [],_=>by simp
 | x::l,h=>by
  have:=h x (by simp)
  have:=flat_len e c l (fun y hy=>h y (by simp [hy]))
  rw [List.flatMap_cons,List.length_append,List.length_cons,Nat.mul_succ]
  omega
def encI (l:List Int):List Int:=l.flatMap vint
theorem encI_len (l:List Int):(encI l).length≤10 * l.length:=flat_len vint 10 l (fun x _=>vint_len x)
theorem ints_eq (hN:4194304 < N) (b l:List Int) (hl:l.length≤100) (hb:b.length≤900000000):z85 N b l=some (b++encI l):=by
 unfold z85 encI
 have:=enc_loop (β:=List Int) 1000000000 10 l vint (z85_l2 N l) (fun b=>some b) (fun x _=>vint_len x) (by omega) (by
  intro n k x b hk hx hb
  simp only [z85_l2,lt_t hk,cT,idx_nat,hx,bS]
  rw [wire_Int_eq (by omega) b (by omega),bS,w64_succ (by omega)]) (by
  intro n k b hk
  simp only [z85_l2,lt_f hk,cond_false,z85_k1]) l 0 N b rfl (by omega) (by omega)
 exact this
def encT (s:ByteArray):List Int:=vint (s.size:Int)++bytesL s
theorem encT_len (s:ByteArray):(encT s).length≤10+s.size:=by
 unfold encT
 rw [List.length_append,bytesL_len]
 have:=vint_len (s.size:Int)
 omega
theorem wtext_eq (hN:4194304 < N) (b:List Int) (s:ByteArray) (hs:s.size≤1000) (hb:b.length≤1000000000):z83 N b s=some (b++encT s):=by
 unfold z83
 rw [wire_Int_eq (by omega) b (by omega),bS,appL_some (by rw [List.length_append,bytesL_len];have:=vint_len (s.size:Int);omega)]
 simp [encT]
theorem bool_eq (b:List Int) (v:Bool) (hb:b.length≤1000000000):z86 N b v=some (b++[if v then 1 else 0]):=by
 unfold z86
 cases v<;>simp only [cond_false,cT]<;>rw [appL_some (by simp;omega)]<;>rfl
end Gp
end
section
namespace Gp
open Go Go.Kx Gx
variable {N:Nat}
theorem word_size {s:ByteArray} (h:isWord s=true):s.size≤16:=by
 unfold isWord isName at h
 rw [size_bs]
 cases hb:bs s with
 | nil=>simp
 | cons x l =>
  rw [hb] at h
  simp only [Bool.and_eq_true,decide_eq_true_eq] at h
  simp;omega
structure SmallD (d:T0):Prop where
 n:d.Name.size≤50
 f:d.Fields.length≤4
 fn:∀ f∈d.Fields,f.Name.size≤16
 di:d.Guard.Diffs.length≤20
 eq:d.Guard.Equals.length≤20
theorem smallD {l:List T0} (h:validD l=true):l.length≤40∧∀ d∈l,SmallD d:=by
 unfold validD at h
 rw [Bool.and_eq_true,Bool.and_eq_true] at h
 obtain ⟨h1,h2,h3⟩:=h
 refine ⟨of_decide_eq_true h1,?_⟩
 intro d hd
 obtain ⟨i,hi⟩:=List.mem_iff_getElem?.mp hd
 have:=(allV_iff _ _ _).mp h3 i d hi
 unfold declV at this
 simp only [Bool.and_eq_true] at this
 obtain ⟨a1,a2,a3,a4,a5,a6⟩:=this
 unfold pathV at a1
 rw [Bool.and_eq_true] at a1
 unfold guardV at a6
 rw [Bool.and_eq_true] at a6
 have g:=of_decide_eq_true a6.1
 refine ⟨of_decide_eq_true a1.1,of_decide_eq_true a2,?_,g.1,g.2⟩
 intro f hf
 obtain ⟨j,hj⟩:=List.mem_iff_getElem?.mp hf
 have:=(allV_iff _ _ _).mp a5 j f hj
 unfold fieldV at this
 rw [Bool.and_eq_true] at this
 exact word_size this.1
def encF (f:T3):List Int:=encT f.Name++encI [f.Sort'.Kind,f.Sort'.Lo,f.Sort'.Hi]
def encDf (x:T1):List Int:=encI [x.X,x.Y,x.C]
def encEq (x:Int × Int):List Int:=encI [x.1,x.2]
def encD (d:T0):List Int :=
 encT d.Name++(vint (d.Fields.length:Int)++(d.Fields.flatMap encF++(encI [d.First,(d.Guard.Diffs.length:Int)]++(d.Guard.Diffs.flatMap encDf++(vint (d.Guard.Equals.length:Int)++d.Guard.Equals.flatMap encEq)))))
def encE (x:T2):List Int:=encI [x.From,x.Act.From,x.Act.To,x.Act.Label,x.To]++[if x.Again then 1 else 0]
def encTm (t:T8):List Int:=encI [t.State,t.Ticks,t.Else]
def encG (g:T4):List Int :=
 encT g.Name++(vint (g.Roles.length:Int)++(g.Roles.flatMap encT++(vint (g.Decls.length:Int)++(g.Decls.flatMap encD++(encI [g.States,g.Start,g.End,(g.Edges.length:Int)]++(g.Edges.flatMap encE++(vint (g.Timeouts.length:Int)++g.Timeouts.flatMap encTm)))))))
theorem encF_len {f:T3} (h:f.Name.size≤16):(encF f).length≤60:=by
 unfold encF
 have:=encT_len f.Name
 have:=encI_len [f.Sort'.Kind,f.Sort'.Lo,f.Sort'.Hi]
 simp at this ⊢;omega
theorem encDf_len (x:T1):(encDf x).length≤30:=by unfold encDf;have:=encI_len [x.X,x.Y,x.C];simpa using this
theorem encEq_len (x:Int × Int):(encEq x).length≤20:=by unfold encEq;have:=encI_len [x.1,x.2];simpa using this
theorem encE_len (x:T2):(encE x).length≤51:=by unfold encE;have:=encI_len [x.From,x.Act.From,x.Act.To,x.Act.Label,x.To];simp at this ⊢;omega
theorem encTm_len (x:T8):(encTm x).length≤30:=by unfold encTm;have:=encI_len [x.State,x.Ticks,x.Else];simpa using this
theorem encD_len {d:T0} (h:SmallD d):(encD d).length≤1400:=by
 obtain ⟨h1,h2,h3,h4,h5⟩:=h
 have a1:=encT_len d.Name
 have a2:=vint_len (d.Fields.length:Int)
 have a3:=flat_len encF 60 d.Fields (fun f hf=>encF_len (h3 f hf))
 have a4:=encI_len [d.First,(d.Guard.Diffs.length:Int)]
 have a5:=flat_len encDf 30 d.Guard.Diffs (fun x _=>encDf_len x)
 have a6:=vint_len (d.Guard.Equals.length:Int)
 have a7:=flat_len encEq 20 d.Guard.Equals (fun x _=>encEq_len x)
 unfold encD
 simp only [List.length_append,List.length_cons,List.length_nil] at a4 ⊢
 omega
theorem decl_eq (hN:4194304 < N) (b:List Int) (d:T0) (h:SmallD d) (hb:b.length≤100000000):z84 N b d=some (b++encD d):=by
 obtain ⟨h1,h2,h3,h4,h5⟩:=h
 have a1:=encT_len d.Name
 have a2:=vint_len (d.Fields.length:Int)
 have a3:=flat_len encF 60 d.Fields (fun f hf=>encF_len (h3 f hf))
 have a4:=encI_len [d.First,(d.Guard.Diffs.length:Int)]
 have a5:=flat_len encDf 30 d.Guard.Diffs (fun x _=>encDf_len x)
 have a6:=vint_len (d.Guard.Equals.length:Int)
 simp only [List.length_cons,List.length_nil] at a4
 have q2:∀ b:List Int,b.length≤200000000→z84_l2 N d N b (0:Int)=some (b++d.Guard.Equals.flatMap encEq):=by
  intro b hb
  exact enc_loop (β:=List Int) 800000000 20 d.Guard.Equals encEq (z84_l2 N d) (fun b=>some b) (fun x _=>encEq_len x) (by omega) (by
   intro n k x b hk hx hb
   simp only [z84_l2,lt_t hk,cT,idx_nat,hx,bS]
   rw [ints_eq hN b _ (by simp) (by omega),bS,w64_succ (by omega)];rfl) (by
   intro n k b hk
   simp only [z84_l2,lt_f hk,cond_false,z84_k1]) d.Guard.Equals 0 N b rfl (by omega) (by omega)
 have q4:∀ b:List Int,b.length≤180000000→z84_l4 N d N b (0:Int)=some (b++(d.Guard.Diffs.flatMap encDf++(vint (d.Guard.Equals.length:Int)++d.Guard.Equals.flatMap encEq))):=by
  intro b hb
  have:=enc_loop (β:=List Int) 800000000 30 d.Guard.Diffs encDf (z84_l4 N d) (z84_k3 N d) (fun x _=>encDf_len x) (by omega) (by
   intro n k x b hk hx hb
   simp only [z84_l4,lt_t hk,cT,idx_nat,hx,bS]
   rw [ints_eq hN b _ (by simp) (by omega),bS,w64_succ (by omega)];rfl) (by
   intro n k b hk
   simp only [z84_l4,lt_f hk,cond_false]) d.Guard.Diffs 0 N b rfl (by omega) (by omega)
  rw [show (0:Int)=((0:Nat):Int) from rfl,this]
  unfold z84_k3
  rw [wire_Int_eq (by omega) _ (by simp only [List.length_append];omega),bS,q2 _ (by simp only [List.length_append];omega)]
  simp only [aA]
 have q6:=enc_loop (β:=List Int) 800000000 60 d.Fields encF (z84_l6 N d) (z84_k5 N d) (fun f hf=>encF_len (h3 f hf)) (by omega) (by
  intro n k x b hk hx hb
  have hs:=h3 x (List.mem_of_getElem? hx)
  have hl:=encT_len x.Name
  simp only [z84_l6,lt_t hk,cT,idx_nat,hx,bS]
  rw [wtext_eq hN b _ (by omega) (by omega),bS,ints_eq hN _ _ (by simp) (by simp only [List.length_append];omega),bS,w64_succ (by omega)]
  unfold encF
  rw [aA]) (by
  intro n k b hk
  simp only [z84_l6,lt_f hk,cond_false]) d.Fields 0 N ((b++encT d.Name)++vint (d.Fields.length:Int)) rfl (by omega) (by simp only [List.length_append];omega)
 unfold z84
 rw [wtext_eq hN b _ (by omega) (by omega),bS,wire_Int_eq (by omega) _ (by simp only [List.length_append];omega),bS,show (0:Int)=((0:Nat):Int) from rfl,q6]
 unfold z84_k5
 rw [ints_eq hN _ _ (by simp) (by simp only [List.length_append];omega),bS,q4 _ (by simp only [List.length_append];omega)]
 unfold encD
 simp only [aA]
theorem smallG {g:T4} (hv:ValidG g):g.Name.size≤16∧g.Roles.length≤6∧(∀ s∈g.Roles,s.size≤16)∧g.Edges.length≤400∧g.Timeouts.length≤200:=by
 obtain ⟨o1,o2,o3,o4,o5,o6,o7⟩:=numV_head hv.num
 have h:=hv.named
 unfold namedV at h
 rw [Bool.and_eq_true,Bool.and_eq_true] at h
 obtain ⟨h1,h2,h3⟩:=h
 refine ⟨word_size h1,(of_decide_eq_true h2).2,?_,o7,?_⟩
 ·intro s hs
  obtain ⟨i,hi⟩:=List.mem_iff_getElem?.mp hs
  have:=(allV_iff _ _ _).mp h3 i s hi
  unfold roleV at this
  rw [Bool.and_eq_true] at this
  exact word_size this.1
 ·have hr:∀ t∈g.Timeouts,0≤t.State∧t.State < g.States:=by
   intro t ht
   obtain ⟨y,y1,y2,_⟩:=timeV_else hv.time ht
   have hm:y∈g.Edges:=by
    obtain ⟨k0,k1⟩:=idx_some y1
    obtain ⟨q,hq⟩:∃ q:Nat,t.Else=(q:Int):=⟨t.Else.toNat,by omega⟩
    rw [hq,idx_nat] at y1
    exact List.mem_of_getElem? y1
   obtain ⟨a1,a2,_⟩:=numV_edge hv.num hm
   rw [← y2];exact ⟨a1,a2⟩
  have hnd:(g.Timeouts.map fun t=>t.State.toNat).Nodup:=by
   rw [List.nodup_iff_pairwise_ne,List.pairwise_map]
   refine List.Pairwise.imp_of_mem ?_ (timeV_sorted hv.time)
   intro a b ha hb hlt hc
   have:=hr a ha;have:=hr b hb
   omega
  have:=hnd.length_le_of_subset (l₂:=List.range 200) (by
   intro v hm
   obtain ⟨t,ht,rfl⟩:=List.mem_map.mp hm
   have:=hr t ht
   exact List.mem_range.mpr (by omega))
  simpa using this
theorem encG_len {g:T4} (hv:ValidG g):(encG g).length≤100000:=by
 obtain ⟨s1,s2,s3,s4,s5⟩:=smallG hv
 obtain ⟨d1,d2⟩:=smallD hv.decls
 have a1:=encT_len g.Name
 have a2:=vint_len (g.Roles.length:Int)
 have a3:=flat_len encT 26 g.Roles (fun s hs=>by have:=encT_len s;have:=s3 s hs;omega)
 have a4:=vint_len (g.Decls.length:Int)
 have a5:=flat_len encD 1400 g.Decls (fun d hd=>encD_len (d2 d hd))
 have a6:=encI_len [g.States,g.Start,g.End,(g.Edges.length:Int)]
 have a7:=flat_len encE 51 g.Edges (fun x _=>encE_len x)
 have a8:=vint_len (g.Timeouts.length:Int)
 have a9:=flat_len encTm 30 g.Timeouts (fun x _=>encTm_len x)
 unfold encG
 simp only [List.length_append,List.length_cons,List.length_nil] at a6 ⊢
 omega
theorem encode_eq (hN:4194304 < N) (g:T4) (hv:ValidG g) (hV:z22 N g=some true):z37 N g=some (encG g):=by
 obtain ⟨s1,s2,s3,s4,s5⟩:=smallG hv
 obtain ⟨d1,d2⟩:=smallD hv.decls
 have a1:=encT_len g.Name
 have a2:=vint_len (g.Roles.length:Int)
 have a3:=flat_len encT 26 g.Roles (fun s hs=>by have:=encT_len s;have:=s3 s hs;omega)
 have a4:=vint_len (g.Decls.length:Int)
 have a5:=flat_len encD 1400 g.Decls (fun d hd=>encD_len (d2 d hd))
 have a6:=encI_len [g.States,g.Start,g.End,(g.Edges.length:Int)]
 have a7:=flat_len encE 51 g.Edges (fun x _=>encE_len x)
 have a8:=vint_len (g.Timeouts.length:Int)
 simp only [List.length_cons,List.length_nil] at a6
 have q2:∀ b:List Int,b.length≤200000→z37_k3 N g b=some (b++(vint (g.Timeouts.length:Int)++g.Timeouts.flatMap encTm)):=by
  intro b hb
  unfold z37_k3
  rw [wire_Int_eq (by omega) b (by omega),bS]
  have:=enc_loop (β:=List Int) 800000000 30 g.Timeouts encTm (z37_l2 N g) (fun b=>some b) (fun x _=>encTm_len x) (by omega) (by
   intro n k x b hk hx hb
   simp only [z37_l2,lt_t hk,cT,idx_nat,hx,bS]
   rw [ints_eq hN b _ (by simp) (by omega),bS,w64_succ (by omega)];rfl) (by
   intro n k b hk
   simp only [z37_l2,lt_f hk,cond_false,z37_k1]) g.Timeouts 0 N (b++vint (g.Timeouts.length:Int)) rfl (by omega) (by simp only [List.length_append];omega)
  rw [show (0:Int)=((0:Nat):Int) from rfl,this,aA]
 have q4:∀ b:List Int,b.length≤150000→z37_k5 N g b=some (b++(encI [g.States,g.Start,g.End,(g.Edges.length:Int)]++(g.Edges.flatMap encE++(vint (g.Timeouts.length:Int)++g.Timeouts.flatMap encTm)))):=by
  intro b hb
  unfold z37_k5
  rw [ints_eq hN b _ (by simp) (by omega),bS]
  have:=enc_loop (β:=List Int) 800000000 51 g.Edges encE (z37_l4 N g) (z37_k3 N g) (fun x _=>encE_len x) (by omega) (by
   intro n k x b hk hx hb
   have hl:=encI_len [x.From,x.Act.From,x.Act.To,x.Act.Label,x.To]
   simp only [List.length_cons,List.length_nil] at hl
   simp only [z37_l4,lt_t hk,cT,idx_nat,hx,bS]
   rw [ints_eq hN b _ (by simp) (by omega),bS,bool_eq _ _ (by simp only [List.length_append];omega),bS,w64_succ (by omega)]
   unfold encE
   rw [aA]) (by
   intro n k b hk
   simp only [z37_l4,lt_f hk,cond_false]) g.Edges 0 N (b++encI [g.States,g.Start,g.End,(g.Edges.length:Int)]) rfl (by omega) (by simp only [List.length_append];omega)
  rw [show (0:Int)=((0:Nat):Int) from rfl,this,q2 _ (by simp only [List.length_append];omega)]
  simp only [aA]
 have q6:∀ b:List Int,b.length≤50000→z37_k7 N g b=some (b++(vint (g.Decls.length:Int)++(g.Decls.flatMap encD++(encI [g.States,g.Start,g.End,(g.Edges.length:Int)]++(g.Edges.flatMap encE++(vint (g.Timeouts.length:Int)++g.Timeouts.flatMap encTm)))))):=by
  intro b hb
  unfold z37_k7
  rw [wire_Int_eq (by omega) b (by omega),bS]
  have:=enc_loop (β:=List Int) 100000000 1400 g.Decls encD (z37_l6 N g) (z37_k5 N g) (fun d hd=>encD_len (d2 d hd)) (by omega) (by
   intro n k x b hk hx hb
   simp only [z37_l6,lt_t hk,cT,idx_nat,hx,bS]
   rw [decl_eq hN b x (d2 x (List.mem_of_getElem? hx)) (by omega),bS,w64_succ (by omega)]) (by
   intro n k b hk
   simp only [z37_l6,lt_f hk,cond_false]) g.Decls 0 N (b++vint (g.Decls.length:Int)) rfl (by omega) (by simp only [List.length_append];omega)
  rw [show (0:Int)=((0:Nat):Int) from rfl,this,q4 _ (by simp only [List.length_append];omega)]
  simp only [aA]
 have q8:=enc_loop (β:=List Int) 800000000 26 g.Roles encT (z37_l8 N g) (z37_k7 N g) (fun s hs=>by have:=encT_len s;have:=s3 s hs;omega) (by omega) (by
  intro n k x b hk hx hb
  simp only [z37_l8,lt_t hk,cT,idx_nat,hx,bS]
  rw [wtext_eq hN b _ (by have:=s3 x (List.mem_of_getElem? hx);omega) (by omega),bS,w64_succ (by omega)]) (by
  intro n k b hk
  simp only [z37_l8,lt_f hk,cond_false]) g.Roles 0 N (([]++encT g.Name)++vint (g.Roles.length:Int)) rfl (by omega) (by simp only [List.length_append,List.length_nil];omega)
 unfold z37
 rw [hV,bS,Bool.not_true,cond_false,wtext_eq hN [] _ (by omega) (by simp),bS,wire_Int_eq (by omega) _ (by simp;omega),bS,show (0:Int)=((0:Nat):Int) from rfl,q8,q6 _ (by simp only [List.length_append,List.length_nil];omega)]
 unfold encG
 simp only [aA,List.nil_append]
theorem sum_some (b:List Int) (hb:b.length≤4194304) (hN:4194304 < N):∃ h,z73 N b=some h:=by
 have loop:∀ (l:List Int) (k n:Nat) (v:Int),b.drop k=l→l.length < n→∃ h,z127_l2 b n v (k:Int)=some h:=by
  intro l
  induction l with
  | nil =>
   intro k n v h hn
   obtain ⟨n,rfl⟩:∃ m,n=m+1:=⟨n-1,by simp at hn;omega⟩
   exact ⟨v,by simp only [z127_l2,lt_f (drop_nil h),cond_false,z127_k1]⟩
  | cons x l ih =>
   intro k n v h hn
   obtain ⟨n,rfl⟩:∃ m,n=m+1:=⟨n-1,by simp at hn;omega⟩
   obtain ⟨a,c,d⟩:=drop_cons h
   have e3:∀ a c,binO .xor .u64 a c=some (wk .u64 ((BitVec.ofInt 64 a ^^^ BitVec.ofInt 64 c).toNat:Int)):=fun _ _=>rfl
   simp only [z127_l2,lt_t a,cT,idx_nat,c,bS,e3]
   rw [w64_succ (by omega)]
   exact ih (k+1) n _ d (by simp at hn;omega)
 obtain ⟨h,hh⟩:=loop b 0 N (14695981039346656037:Int) rfl (by omega)
 exact ⟨h,by unfold z73 z127;rw [show (0:Int)=((0:Nat):Int) from rfl,hh];rfl⟩
end Gp
end
section
namespace Gp
open Go Go.Kx Gx
variable {N:Nat}
theorem wk64 (m:Int):wk .u64 m=m % 18446744073709551616:=by
 show IntKind.u64.wrap m=_
 simp [IntKind.wrap,IntKind.signed,IntKind.bits]
theorem wi64 (m:Int) (h:0≤m) (h':m < 18446744073709551616):w64 m=if m < 9223372036854775808 then m else m-18446744073709551616:=by
 show IntKind.i64.wrap m=_
 simp [IntKind.wrap,IntKind.signed,IntKind.bits]
 split<;>omega
theorem ofI (m:Int):(BitVec.ofInt 64 m).toNat=(m % 18446744073709551616).toNat:=by
 rw [BitVec.toNat_ofInt];rfl
theorem all1:BitVec.ofInt 64 18446744073709551615=BitVec.allOnes 64:=by decide
theorem all1':BitVec.ofInt 64 (-1)=BitVec.allOnes 64:=by decide
theorem zig_pos (n:Int) (h0:0≤n) (h1:n≤9223372036854775807):zig n=(2 * n).toNat:=by
 unfold zig
 have e1:n.fdiv (2 ^ 63)=0:=by
  rw [Int.fdiv_eq_ediv_of_nonneg _ (by decide)]
  omega
 rw [e1,show wk .u64 0=0 by rw [wk64];rfl,show BitVec.ofInt 64 0=0#64 from rfl,BitVec.xor_zero,ofI,wk64,wk64,wk64]
 omega
theorem zig_neg (n:Int) (h0:n < 0) (h1:-9223372036854775808≤n):zig n=(-2 * n-1).toNat:=by
 unfold zig
 have e1:n.fdiv (2 ^ 63)=-1:=by
  rw [Int.fdiv_eq_ediv_of_nonneg _ (by decide)]
  omega
 rw [e1,show wk .u64 (-1)=18446744073709551615 by rw [wk64];rfl,all1,BitVec.xor_allOnes,BitVec.toNat_not,ofI,wk64,wk64,wk64]
 omega
theorem zig_lt (n:Int):zig n < 18446744073709551616:=by
 unfold zig
 have:=wk64_nonneg ((BitVec.ofInt 64 (wk .u64 (wk .u64 n * 2 ^ 1)) ^^^ BitVec.ofInt 64 (wk .u64 (n.fdiv (2 ^ 63)))).toNat:Int)
 omega
def zag (u:Nat):Int:=if u % 2=0 then ((u / 2:Nat):Int) else -((u / 2:Nat):Int)-1
theorem zag_zig (n:Int) (h:I64 n):zag (zig n)=n:=by
 obtain ⟨h1,h2⟩:=h
 unfold zag
 by_cases h0:0≤n
 ·rw [zig_pos n h0 h2,if_pos (by omega)];omega
 ·rw [zig_neg n (by omega) h1,if_neg (by omega)];omega
theorem zag_i64 (u:Nat) (h:u < 18446744073709551616):I64 (zag u):=by
 unfold zag I64
 split<;>omega
theorem zig_zag (u:Nat) (h:u < 18446744073709551616):zig (zag u)=u:=by
 have hi:=zag_i64 u h
 unfold I64 at hi
 by_cases h0:0≤zag u
 ·rw [zig_pos _ h0 hi.2]
  unfold zag at h0 ⊢
  split at h0<;>omega
 ·rw [zig_neg _ (by omega) hi.1]
  unfold zag at h0 ⊢
  split at h0<;>omega
theorem shr1 (u:Nat):binO .shr .u64 (u:Int) (1:Int)=some ((u / 2:Nat):Int):=by
 show some ((u:Int).fdiv (2 ^ 1))=_
 rw [Int.fdiv_eq_ediv_of_nonneg _ (by decide)]
 simp
theorem and1 (u:Nat) (h:u < 18446744073709551616):binO .and .u64 (u:Int) (1:Int)=some ((u % 2:Nat):Int):=by
 show some (wk .u64 ((BitVec.ofInt 64 (u:Int) &&& BitVec.ofInt 64 1).toNat:Int))=_
 rw [BitVec.toNat_and,ofI,ofI,wk64]
 have e:((u:Int) % 18446744073709551616).toNat=u:=by omega
 rw [e,show ((1:Int) % 18446744073709551616).toNat=1 from rfl,Nat.and_one_is_mod]
 congr 1
 omega
theorem xor_zag (u:Nat) (h:u < 18446744073709551616):binO .xor .i64 (w64 ((u / 2:Nat):Int)) (w64 (0-(w64 ((u % 2:Nat):Int))))=some (zag u):=by
 have e1:w64 ((u / 2:Nat):Int)=((u / 2:Nat):Int):=w64_id (by omega) (by omega)
 have e2:w64 ((u % 2:Nat):Int)=((u % 2:Nat):Int):=w64_id (by omega) (by omega)
 rw [e1,e2,w64_id (by omega) (by omega)]
 show some (w64 ((BitVec.ofInt 64 ((u / 2:Nat):Int) ^^^ BitVec.ofInt 64 (0-((u % 2:Nat):Int))).toNat:Int))=_
 unfold zag
 by_cases hu:u % 2=0
 ·rw [if_pos hu,hu,show BitVec.ofInt 64 (0-((0:Nat):Int))=0#64 from rfl,BitVec.xor_zero,ofI,w64_id (by omega) (by omega)]
  congr 1;omega
 ·have hu1:u % 2=1:=by omega
  rw [if_neg hu,hu1,show BitVec.ofInt 64 (0-((1:Nat):Int))=BitVec.allOnes 64 from all1',BitVec.xor_allOnes,BitVec.toNat_not,ofI,wi64 _ (by omega) (by omega)]
  refine congrArg some ?_
  split<;>omega
theorem and_all:((List.range 256).all fun r=>decide (binO .and .u8 (r:Int) (127:Int)=some ((r % 128:Nat):Int)))=true:=by kernel_rfl
theorem and_127 (r:Nat) (h:r < 256):binO .and .u8 (r:Int) (127:Int)=some ((r % 128:Nat):Int) :=
 of_decide_eq_true (List.all_eq_true.mp and_all r (List.mem_range.mpr h))
theorem shl_def (k:IntKind) (m n:Int):binO .shl k m n=bif decide (n < 0) then none else some (k.wrap (m * 2 ^ (min n.toNat k.bits))):=rfl
theorem shl_grp (d i:Nat) (hd:d < 128) (hi:i≤9):binO .shl .u64 (wk .u64 (d:Int)) (w64 ((7:Int) * (i:Int)))=some (((d * 128 ^ i) % 18446744073709551616:Nat):Int):=by
 rw [w64_id (by omega) (by omega),show wk .u64 (d:Int)=(d:Int) by rw [wk64];omega]
 have h0:decide ((7:Int) * (i:Int) < 0)=false:=by simp;omega
 have hb:IntKind.u64.bits=64:=by decide
 have h1:min ((7:Int) * (i:Int)).toNat IntKind.u64.bits=7 * i:=by
  rw [hb]
  omega
 have h2:∀ m,IntKind.u64.wrap m=m % 18446744073709551616:=wk64
 rw [shl_def,h0,cond_false,h1,h2]
 congr 1
 rw [show (2:Int) ^ (7 * i)=((128 ^ i:Nat):Int) by rw [Int.pow_mul];simp]
 rw [← Int.natCast_mul]
 omega
theorem or_grp (u d i:Nat) (hu:u < 128 ^ i) (hs:u+d * 128 ^ i < 18446744073709551616):binO .or .u64 (u:Int) ((d * 128 ^ i:Nat):Int)=some ((u+d * 128 ^ i:Nat):Int):=by
 show some (wk .u64 ((BitVec.ofInt 64 (u:Int) ||| BitVec.ofInt 64 ((d * 128 ^ i:Nat):Int)).toNat:Int))=_
 rw [BitVec.toNat_or,ofI,ofI,wk64]
 have e1:((u:Int) % 18446744073709551616).toNat=u:=by omega
 have e2:(((d * 128 ^ i:Nat):Int) % 18446744073709551616).toNat=d * 128 ^ i:=by omega
 rw [e1,e2]
 have hp:(128:Nat) ^ i=2 ^ (7 * i):=by rw [Nat.pow_mul]
 have:=Nat.two_pow_add_eq_or_of_lt (i:=7 * i) (b:=u) (by rw [← hp];exact hu) d
 rw [← hp] at this
 rw [Nat.or_comm,Nat.mul_comm d,← this]
 rw [Nat.mul_comm d] at hs
 congr 1
 omega
end Gp
end
section
namespace Gp
open Go Go.Kx Gx
variable {N:Nat}
abbrev Rdr:=T12
def Byt (b:List Int):Prop:=b.length≤1000000∧∀ c∈b,0≤c∧c < 256
theorem drop_at' {α:Type} {l:List α} {i:Nat} {x:α} (h:l[i]? = some x):l.drop i=x::l.drop (i+1):=by
 obtain ⟨h1,h2⟩:=List.getElem?_eq_some_iff.mp h
 rw [List.drop_eq_getElem_cons h1,h2]
theorem lsl_at {α:Type} (L:List α) (p n:Nat) (h:p+n≤L.length):lsl L (some (p:Int)) (some ((p+n:Nat):Int))=some ((L.drop p).take n):=by
 have q1:decide ((0:Int)≤(p:Int))=true:=by simp
 have q2:decide ((p:Int)≤((p+n:Nat):Int))=true:=dT (by omega)
 have q3:decide (((p+n:Nat):Int)≤(L.length:Int))=true:=dT (by omega)
 unfold lsl bnd
 simp only [Option.getD_some,q1,q2,q3,Bool.and_self,cT,Option.map_some]
 rw [show ((p:Int)).toNat=p by omega,show (((p+n:Nat):Int)).toNat=p+n by omega,List.drop_take]
 congr 2;omega
theorem next_eq (b:List Int) (p n:Nat) (hb:Byt b) (hp:p≤b.length) (hn:n≤1000000000) :
  z165 N ⟨b,(p:Int),false⟩ (n:Int)=if p+n≤b.length then some ((b.drop p).take n,⟨b,((p+n:Nat):Int),false⟩) else some ([],⟨b,(p:Int),true⟩):=by
 have h1:=hb.1
 unfold z165
 simp only [cond_false]
 rw [w64_id (n:=(b.length:Int)-(p:Int)) (by omega) (by omega)]
 by_cases h:p+n≤b.length
 ·rw [if_pos h,dF (show ¬ (n:Int) > (b.length:Int)-(p:Int) by omega),cond_false,w64_id (n:=(p:Int)+(n:Int)) (by omega) (by omega),w64_id (by omega) (by omega)]
  rw [show (p:Int)+(n:Int)-(n:Int)=(p:Int) by omega,show (p:Int)+(n:Int)=((p+n:Nat):Int) by omega,lsl_at b p n h];rfl
 ·rw [if_neg h,dT (show (n:Int) > (b.length:Int)-(p:Int) by omega),cT]
theorem int_round (b:List Int) (hb:Byt b) (p i u n:Nat) (hi:i≤9) (hu:u < 128 ^ i) (hp:p≤b.length) :
  (b[p]? = none∧z141_l2 N (n+1) b (p:Int) false (u:Int) (i:Int)=some (0,⟨b,(p:Int),true⟩)) ∨
  ∃ c:Nat,b[p]? = some (c:Int)∧c < 256 ∧
   (128≤c→∃ u2:Int,z141_l2 N (n+1) b (p:Int) false (u:Int) (i:Int)=z141_l2 N n b ((p+1:Nat):Int) false u2 ((i+1:Nat):Int)∧(i < 9→u2=((u+(c-128) * 128 ^ i:Nat):Int))) ∧
   (c < 128→((c=0∧0 < i)∨(i=9∧1 < c))→∃ v,z141_l2 N (n+1) b (p:Int) false (u:Int) (i:Int)=some (v,⟨b,((p+1:Nat):Int),true⟩)) ∧
   (c < 128→¬ ((c=0∧0 < i)∨(i=9∧1 < c))→z141_l2 N (n+1) b (p:Int) false (u:Int) (i:Int)=some (zag (u+c * 128 ^ i),⟨b,((p+1:Nat):Int),false⟩)):=by
 have hlt:decide ((i:Int) < 10)=true:=dT (by omega)
 have hnx:=next_eq (N:=N) b p 1 hb hp (by omega)
 rw [show ((1:Nat):Int)=(1:Int) from rfl] at hnx
 cases hc:b[p]? with
 | none =>
  left
  have hge:=List.getElem?_eq_none_iff.mp hc
  rw [if_neg (by omega)] at hnx
  refine ⟨rfl,?_⟩
  simp only [z141_l2,hlt,cT,hnx,bS]
 | some c =>
  right
  obtain ⟨hpl,_⟩:=List.getElem?_eq_some_iff.mp hc
  obtain ⟨c0,c1⟩:=hb.2 c (List.mem_of_getElem? hc)
  obtain ⟨c,rfl⟩:∃ q:Nat,c=(q:Int):=⟨c.toNat,by omega⟩
  have hc1:c < 256:=by omega
  rw [if_pos (by omega),drop_at' hc] at hnx
  have hone:((c:Int)::b.drop (p+1)).take 1=[(c:Int)]:=rfl
  rw [hone] at hnx
  obtain ⟨q,hq,q1,q2,q3,q4⟩:∃ q,z165 N ⟨b,(p:Int),false⟩ (1:Int)=some q∧q.1=[(c:Int)]∧q.2.b'=b∧q.2.at'=((p+1:Nat):Int)∧q.2.failed'=false:=⟨_,hnx,rfl,rfl,rfl,rfl⟩
  have i0:idx [(c:Int)] (0:Int)=some (c:Int):=rfl
  obtain ⟨y,hg,hy⟩:∃ y:Int,binO .shl .u64 (wk .u64 ((c % 128:Nat):Int)) (w64 ((7:Int) * (i:Int)))=some y∧y=(((c % 128) * 128 ^ i % 18446744073709551616:Nat):Int):=⟨_,shl_grp (c % 128) i (by omega) hi,rfl⟩
  -- the sum so far
  have hpow:i≤8→128 ^ i≤72057594037927936:=by
   intro h
   have:(128:Nat) ^ i≤128 ^ 8:=Nat.pow_le_pow_right (by omega) h
   rw [show (128:Nat) ^ 8=72057594037927936 by decide] at this
   exact this
  have hpow9:i=9→128 ^ i=9223372036854775808:=by intro h;subst h;decide
  have small:∀ d:Nat,d < 128→(i≤8∨d≤1)→u+d * 128 ^ i < 18446744073709551616∧d * 128 ^ i < 18446744073709551616:=by
   intro d hd hor
   by_cases h8:i≤8
   ·have h1:=hpow h8
    have h2:d * 128 ^ i≤127 * 128 ^ i:=Nat.mul_le_mul_right _ (by omega)
    omega
   ·have h9:=hpow9 (by omega)
    have h2:d * 128 ^ i≤1 * 128 ^ i:=Nat.mul_le_mul_right _ (by rcases hor with h | h;omega;exact h)
    omega
  obtain ⟨z,hz⟩:∃ z,binO .or .u64 (u:Int) y=some z:=⟨_,rfl⟩
  have hz':i≤8∨c % 128≤1→z=((u+(c % 128) * 128 ^ i:Nat):Int):=by
   intro h
   obtain ⟨s1,s2⟩:=small (c % 128) (by omega) h
   rw [hy,Nat.mod_eq_of_lt s2,or_grp u (c % 128) i hu s1] at hz
   exact (Option.some.inj hz).symm
  have hn:=and_127 c hc1
  refine ⟨c,rfl,hc1,?_,?_,?_⟩
  ·intro h
   have hd:decide ((c:Int) < 128)=false:=dF (by omega)
   refine ⟨z,?_,fun h9=>?_⟩
   ·rw [z141_l2,hlt,cT,hq,bS,q4,cond_false,q1,i0,bS,hn,bS,hg,bS,hz,bS,bS,hd,cond_false,q2,q3,w64_succ (by omega)]
   ·rw [hz' (.inl (by omega)),show c % 128=c-128 by omega]
  ·intro h hbad
   have hd:decide ((c:Int) < 128)=true:=dT (by omega)
   obtain ⟨a,ha⟩:∃ a,binO .shr .u64 z (1:Int)=some a:=⟨_,rfl⟩
   obtain ⟨e,he⟩:∃ e,binO .and .u64 z (1:Int)=some e:=⟨_,rfl⟩
   obtain ⟨x,hx⟩:∃ x,binO .xor .i64 (w64 a) (w64 (0-(w64 e)))=some x:=⟨_,rfl⟩
   refine ⟨x,?_⟩
   rw [z141_l2,hlt,cT,hq,bS,q4,cond_false,q1,i0,bS,hn,bS,hg,bS,hz,bS,bS,hd,cT,bS]
   rcases hbad with ⟨h1,h2⟩ | ⟨h1,h2⟩
   ·rw [show ((c:Int)==0)=true by simp [h1],cT,dT (show (i:Int) > 0 by omega),cT,ha,bS,he,bS,hx,bS,q2,q3]
   ·rw [show ((c:Int)==0)=false by simp;omega,cond_false,show ((i:Int)==9)=true by simp;omega,cT,bS,ha,bS,he,bS,hx,bS,q2,q3,dT (show (c:Int) > 1 by omega)]
  ·intro h hgood
   have hd:decide ((c:Int) < 128)=true:=dT (by omega)
   have hcc:c % 128=c:=by omega
   have hor:i≤8∨c % 128≤1:=by
    rw [hcc]
    by_cases h8:i≤8
    ·exact .inl h8
    ·right;omega
   obtain ⟨s1,s2⟩:=small (c % 128) (by omega) hor
   have hz2:=hz' hor
   rw [hcc] at hz2 s1
   subst hz2
   have e2:=and1 _ s1
   rw [z141_l2,hlt,cT,hq,bS,q4,cond_false,q1,i0,bS,hn,bS,hg,bS,hz,bS,bS,hd,cT,bS]
   by_cases h0:c=0
   ·rw [show ((c:Int)==0)=true by simp [h0],cT,dF (show ¬ (i:Int) > 0 by omega),cond_false,show ((i:Int)==9)=false by simp;omega,cond_false,shr1,bS,e2,bS,xor_zag _ s1,bS,q2,q3]
   ·rw [show ((c:Int)==0)=false by simp;omega,cond_false]
    by_cases h9:i=9
    ·rw [show ((i:Int)==9)=true by simp;omega,cT,bS,shr1,bS,e2,bS,xor_zag _ s1,bS,q2,q3,dF (show ¬ (c:Int) > 1 by omega)]
    ·rw [show ((i:Int)==9)=false by simp;omega,cond_false,shr1,bS,e2,bS,xor_zag _ s1,bS,q2,q3]
end Gp
end
section
namespace Gp
open Go Go.Kx Gx
variable {N:Nat}
structure Inn {α:Type} (f:Rdr→Option (α × Rdr)) (Enc:α→List Int→Prop):Prop where
 run:∀ b (p:Nat),Byt b→p≤b.length→(∃ x a,f ⟨b,(p:Int),false⟩=some (x,⟨b,a,true⟩))∨∃ x l rest,b.drop p=l++rest∧Enc x l∧f ⟨b,(p:Int),false⟩=some (x,⟨b,((p+l.length:Nat):Int),false⟩)
 full:∀ b (p:Nat) x l rest,Byt b→p≤b.length→b.drop p=l++rest→Enc x l→f ⟨b,(p:Int),false⟩=some (x,⟨b,((p+l.length:Nat):Int),false⟩)
structure Loop (b:List Int) (p0:Nat) (F:Nat→Nat→Nat→Option (Int × Rdr)):Prop where
 stop:∀ n u i,i≤9→u < 128 ^ i→p0+i≤b.length→b[p0+i]? = none→∃ x a,F (n+1) u i=some (x,⟨b,a,true⟩)
 more:∀ n u i (c:Nat),i < 9→u < 128 ^ i→b[p0+i]? = some (c:Int)→128≤c→c < 256→F (n+1) u i=F n (u+(c-128) * 128 ^ i) (i+1)
 long:∀ n u (c:Nat),u < 128 ^ 9→b[p0+9]? = some (c:Int)→128≤c→c < 256→∃ x a,F (n+2) u 9=some (x,⟨b,a,true⟩)
 bad:∀ n u i (c:Nat),i≤9→u < 128 ^ i→b[p0+i]? = some (c:Int)→c < 128→((c=0∧0 < i)∨(i=9∧1 < c))→∃ x a,F (n+1) u i=some (x,⟨b,a,true⟩)
 good:∀ n u i (c:Nat),i≤9→u < 128 ^ i→b[p0+i]? = some (c:Int)→c < 128→¬ ((c=0∧0 < i)∨(i=9∧1 < c))→F (n+1) u i=some (zag (u+c * 128 ^ i),⟨b,((p0+i+1:Nat):Int),false⟩)
theorem int_ten (b:List Int) (p u:Int) (n:Nat):z141_l2 N (n+1) b p false u ((10:Nat):Int)=some (0,⟨b,p,true⟩):=by
 have:decide (((10:Nat):Int) < 10)=false:=rfl
 rw [z141_l2,this,cond_false]
 rfl
theorem wire_loop' (b:List Int) (hb:Byt b) (p0:Nat):Loop b p0 (fun n u i=>z141_l2 N n b ((p0+i:Nat):Int) false (u:Int) (i:Int)):=by
 have hlt:∀ {i:Nat} {c:Nat},b[p0+i]? = some (c:Int)→p0+i < b.length:=fun h=>(List.getElem?_eq_some_iff.mp h).1
 refine ⟨?_,?_,?_,?_,?_⟩
 ·intro n u i hi hu hp h
  rcases int_round (N:=N) b hb (p0+i) i u n hi hu hp with ⟨_,e⟩ | ⟨c,hc,_⟩
  ·exact ⟨_,_,e⟩
  ·rw [h] at hc;cases hc
 ·intro n u i c hi hu h hc hc2
  rcases int_round (N:=N) b hb (p0+i) i u n (by omega) hu (by have:=hlt h;omega) with ⟨e,_⟩ | ⟨d,hd,_,h1,_,_⟩
  ·rw [h] at e;cases e
  ·rw [h] at hd
   have:d=c:=by have:=Option.some.inj hd;omega
   subst this
   obtain ⟨u2,e,e2⟩:=h1 hc
   have e2:=e2 hi
   subst e2
   exact e
 ·intro n u c hu h hc hc2
  rcases int_round (N:=N) b hb (p0+9) 9 u (n+1) (by omega) hu (by have:=hlt h;omega) with ⟨e,_⟩ | ⟨d,hd,_,h1,_,_⟩
  ·rw [h] at e;cases e
  ·rw [h] at hd
   have:d=c:=by have:=Option.some.inj hd;omega
   subst this
   obtain ⟨u2,e,_⟩:=h1 hc
   refine ⟨0,((p0+9+1:Nat):Int),e.trans ?_⟩
   exact int_ten b _ u2 n
 ·intro n u i c hi hu h hc hbad
  rcases int_round (N:=N) b hb (p0+i) i u n hi hu (by have:=hlt h;omega) with ⟨e,_⟩ | ⟨d,hd,_,_,h2,_⟩
  ·rw [h] at e;cases e
  ·rw [h] at hd
   have:d=c:=by have:=Option.some.inj hd;omega
   subst this
   obtain ⟨v,e⟩:=h2 hc hbad
   exact ⟨v,_,e⟩
 ·intro n u i c hi hu h hc hgood
  rcases int_round (N:=N) b hb (p0+i) i u n hi hu (by have:=hlt h;omega) with ⟨e,_⟩ | ⟨d,hd,_,_,_,h3⟩
  ·rw [h] at e;cases e
  ·rw [h] at hd
   have:d=c:=by have:=Option.some.inj hd;omega
   subst this
   exact h3 hc hgood
theorem vu_one (m c:Nat) (h:c < 128):vu m c=[(c:Int)]:=by
 cases m with
 | zero=>rfl
 | succ m=>unfold vu;rw [if_pos h]
theorem grp (u d v P:Nat):u+d * P+P * 128 * v=u+P * (d+128 * v):=by
 rw [Nat.mul_add,Nat.mul_assoc,Nat.mul_comm d P]
 omega
theorem int_run {b:List Int} (hb:Byt b) {p0:Nat} {F:Nat→Nat→Nat→Option (Int × Rdr)} (HF:Loop b p0 F):∀ (m i u n:Nat) (pre:List Int),i+m=9→u < 128 ^ i→(∀ v,(i=0∨1≤v)→vu 9 (u+128 ^ i * v)=pre++vu (9-i) v)→pre.length=i→p0+i≤b.length→(∃ r,b.drop p0=pre++r)→m+1 < n →
  (∃ x a,F n u i=some (x,⟨b,a,true⟩)) ∨
  ∃ x l rest,b.drop p0=l++rest∧(l=vint x∧I64 x)∧F n u i=some (x,⟨b,((p0+l.length:Nat):Int),false⟩):=by
 intro m
 induction m with
 | zero =>
  intro i u n pre him hu hpre hpl hp hr hn
  obtain ⟨n,rfl⟩:∃ q,n=q+1:=⟨n-1,by omega⟩
  obtain ⟨n,rfl⟩:∃ q,n=q+1:=⟨n-1,by omega⟩
  have hi:i=9:=by omega
  subst hi
  obtain ⟨r,hr⟩:=hr
  cases hc:b[p0+9]? with
  | none=>exact .inl (HF.stop _ u 9 (by omega) hu hp hc)
  | some c =>
  obtain ⟨c0,c1⟩:=hb.2 c (List.mem_of_getElem? hc)
  obtain ⟨c,rfl⟩:∃ q:Nat,c=(q:Int):=⟨c.toNat,by omega⟩
  by_cases hc8:128≤c
  ·exact .inl (HF.long n u c hu hc hc8 (by omega))
  by_cases hbad:(c=0∧0 < 9)∨(9=9∧1 < c)
  ·exact .inl (HF.bad _ u 9 c (by omega) hu hc (by omega) hbad)
  right
  have e:=HF.good (n+1) u 9 c (by omega) hu hc (by omega) hbad
  have hc':c=1:=by omega
  subst hc'
  have hlt:u+1 * 128 ^ 9 < 18446744073709551616:=by
   have:(128:Nat) ^ 9=9223372036854775808:=by decide
   omega
  have hd:b.drop p0=(pre++[((1:Nat):Int)])++b.drop (p0+9+1):=by
   have hx:=drop_at' hc
   have h5:b.drop (p0+9)=r:=by rw [← List.drop_drop,hr,← hpl,List.drop_left]
   rw [h5] at hx
   rw [hr,hx];simp
  refine ⟨_,pre++[((1:Nat):Int)],_,hd,⟨?_,zag_i64 _ hlt⟩,?_⟩
  ·unfold vint
   rw [zig_zag _ hlt,Nat.mul_comm 1,hpre 1 (.inr (by omega)),vu_one _ 1 (by omega)]
  ·rw [e]
   simp [hpl];omega
 | succ m ih =>
  intro i u n pre him hu hpre hpl hp hr hn
  obtain ⟨n,rfl⟩:∃ q,n=q+1:=⟨n-1,by omega⟩
  obtain ⟨r,hr⟩:=hr
  cases hc:b[p0+i]? with
  | none=>exact .inl (HF.stop _ u i (by omega) hu hp hc)
  | some c =>
  obtain ⟨c0,c1⟩:=hb.2 c (List.mem_of_getElem? hc)
  obtain ⟨c,rfl⟩:∃ q:Nat,c=(q:Int):=⟨c.toNat,by omega⟩
  have h5:b.drop (p0+i)=r:=by rw [← List.drop_drop,hr,← hpl,List.drop_left]
  have hd:b.drop p0=(pre++[(c:Int)])++b.drop (p0+i+1):=by
   have hx:=drop_at' hc
   rw [h5] at hx
   rw [hr,hx];simp
  by_cases hc8:128≤c
  ·rw [HF.more n u i c (by omega) hu hc hc8 (by omega)]
   have hlt:=(List.getElem?_eq_some_iff.mp hc).1
   refine ih (i+1) (u+(c-128) * 128 ^ i) n (pre++[(c:Int)]) (by omega) ?_ ?_ (by simp [hpl]) (by omega) ⟨_,hd⟩ (by omega)
   ·rw [Nat.pow_succ]
    have:(c-128) * 128 ^ i≤127 * 128 ^ i:=Nat.mul_le_mul_right _ (by omega)
    omega
   ·intro v hv
    have hv:1≤v:=by omega
    rw [Nat.pow_succ,grp,hpre (c-128+128 * v) (.inr (by omega)),show 9-i=(9-(i+1))+1 by omega]
    have hge:¬ (c-128+128 * v < 128):=by omega
    rw [vu,if_neg hge,show (c-128+128 * v) % 128+128=c by omega,show (c-128+128 * v) / 128=v by omega]
    simp
  by_cases hbad:(c=0∧0 < i)∨(i=9∧1 < c)
  ·exact .inl (HF.bad _ u i c (by omega) hu hc (by omega) hbad)
  right
  have e:=HF.good n u i c (by omega) hu hc (by omega) hbad
  have hlt:u+c * 128 ^ i < 18446744073709551616:=by
   have h6:(128:Nat) ^ i≤128 ^ 8:=Nat.pow_le_pow_right (by omega) (by omega)
   have h7:(128:Nat) ^ 8=72057594037927936:=by decide
   have h8:c * 128 ^ i≤127 * 128 ^ i:=Nat.mul_le_mul_right _ (by omega)
   omega
  refine ⟨_,pre++[(c:Int)],_,hd,⟨?_,zag_i64 _ hlt⟩,?_⟩
  ·unfold vint
   rw [zig_zag _ hlt,Nat.mul_comm c,hpre c (by omega),vu_one _ c (by omega)]
  ·rw [e]
   simp [hpl];omega
theorem int_full {b:List Int} (hb:Byt b) {p0:Nat} {F:Nat→Nat→Nat→Option (Int × Rdr)} (HF:Loop b p0 F):∀ (m i u v n:Nat) (rest:List Int),i+m=9→u < 128 ^ i→(i=0∨1≤v)→u+128 ^ i * v < 18446744073709551616→b.drop (p0+i)=vu m v++rest→m < n →
  F n u i=some (zag (u+128 ^ i * v),⟨b,((p0+i+(vu m v).length:Nat):Int),false⟩):=by
 intro m
 induction m with
 | zero =>
  intro i u v n rest him hu hv hlt hd hn
  obtain ⟨n,rfl⟩:∃ q,n=q+1:=⟨n-1,by omega⟩
  have hi:i=9:=by omega
  subst hi
  have h9:(128:Nat) ^ 9=9223372036854775808:=by decide
  have hv1:v=1:=by
   rw [h9] at hlt hu;omega
  subst hv1
  have hg:b[p0+9]? = some ((1:Nat):Int):=by
   have:(b.drop (p0+9))[0]? = some ((1:Nat):Int):=by rw [hd];rfl
   rw [List.getElem?_drop] at this
   simpa using this
  rw [HF.good n u 9 1 (by omega) hu hg (by omega) (by omega),Nat.mul_comm 1]
  rfl
 | succ m ih =>
  intro i u v n rest him hu hv hlt hd hn
  obtain ⟨n,rfl⟩:∃ q,n=q+1:=⟨n-1,by omega⟩
  by_cases hs:v < 128
  ·rw [vu_one _ v hs] at hd ⊢
   have hg:b[p0+i]? = some (v:Int):=by
    have:(b.drop (p0+i))[0]? = some (v:Int):=by rw [hd];rfl
    rw [List.getElem?_drop] at this
    simpa using this
   rw [HF.good n u i v (by omega) hu hg (by omega) (by omega),Nat.mul_comm v]
   rfl
  ·rw [vu,if_neg hs] at hd ⊢
   have hg:b[p0+i]? = some ((v % 128+128:Nat):Int):=by
    have:(b.drop (p0+i))[0]? = some ((v % 128+128:Nat):Int):=by rw [hd];rfl
    rw [List.getElem?_drop] at this
    simpa using this
   have hsum:u+(v % 128+128-128) * 128 ^ i+128 ^ (i+1) * (v / 128)=u+128 ^ i * v:=by
    rw [Nat.pow_succ,grp,show v % 128+128-128+128 * (v / 128)=v by omega]
   rw [HF.more n u i _ (by omega) hu hg (by omega) (by omega),ih (i+1) _ (v / 128) n rest (by omega) ?_ (.inr (by omega)) (by rw [hsum];exact hlt) ?_ (by omega),hsum]
   ·simp only [List.length_cons]
    congr 3;omega
   ·rw [Nat.pow_succ]
    have:(v % 128+128-128) * 128 ^ i≤127 * 128 ^ i:=Nat.mul_le_mul_right _ (by omega)
    omega
   ·rw [show p0+(i+1)=p0+i+1 by omega,← List.drop_drop,hd];rfl
def EncN (x:Int) (l:List Int):Prop:=l=vint x∧I64 x
theorem loop_inn {f:Rdr→Option (Int × Rdr)} (hN:100 < N) (h:∀ b (p:Nat),Byt b→p≤b.length→∃ F,Loop b p F∧f ⟨b,(p:Int),false⟩=F N 0 0):Inn f EncN:=by
 constructor
 ·intro b p hb hp
  obtain ⟨F,HF,e⟩:=h b p hb hp
  rw [e]
  exact int_run hb HF 9 0 0 N [] (by omega) (by decide) (by intro v _;simp) rfl (by omega) ⟨_,rfl⟩ (by omega)
 ·intro b p x l rest hb hp hd hx
  obtain ⟨rfl,hi⟩:=hx
  obtain ⟨F,HF,e⟩:=h b p hb hp
  rw [e]
  have:=int_full hb HF 9 0 0 (zig x) N rest (by omega) (by decide) (.inl rfl) (by have:=zig_lt x;simp;omega) hd (by omega)
  rw [show 0+128 ^ 0 * zig x=zig x by simp,zag_zig x hi] at this
  exact this
theorem inn_int (hN:100 < N):Inn (z141 N) EncN :=
 loop_inn (N:=N) hN fun b p hb hp=>⟨_,wire_loop' (N:=N) b hb p,rfl⟩
end Gp
end
section
namespace Gp
open Go Go.Kx Gx
variable {N:Nat}
structure Rds {α:Type} (f:Rdr→Option (α × Rdr)) (Enc:α→List Int→Prop):Prop extends Inn f Enc where
 fail:∀ b a,∃ x,f ⟨b,a,true⟩=some (x,⟨b,a,true⟩)
structure RdZ {α:Type} (z:α) (f:Rdr→Option (α × Rdr)) (Enc:α→List Int→Prop):Prop extends Inn f Enc where
 fail:∀ b a,f ⟨b,a,true⟩=some (z,⟨b,a,true⟩)
 zero:∀ b (p:Nat) x a,Byt b→p≤b.length→f ⟨b,(p:Int),false⟩=some (x,⟨b,a,true⟩)→x=z
theorem RdZ.rds {α:Type} {z:α} {f:Rdr→Option (α × Rdr)} {Enc:α→List Int→Prop} (h:RdZ z f Enc):Rds f Enc:=⟨h.toInn,fun b a=>⟨z,h.fail b a⟩⟩
theorem Inn.congr {α:Type} {f:Rdr→Option (α × Rdr)} {A B:α→List Int→Prop} (h:Inn f A) (e:∀ x l,A x l↔B x l):Inn f B:=by
 have:A=B:=by funext x l;exact propext (e x l)
 rw [← this];exact h
theorem Rds.congr {α:Type} {f:Rdr→Option (α × Rdr)} {A B:α→List Int→Prop} (h:Rds f A) (e:∀ x l,A x l↔B x l):Rds f B:=by
 have:A=B:=by funext x l;exact propext (e x l)
 rw [← this];exact h
theorem part_rdz {α:Type} {z:α} {f g:Rdr→Option (α × Rdr)} {Enc:α→List Int→Prop} (hf:Inn f Enc)
  (hg:∀ r,g r=bif r.failed' then some (z,r) else (f r).bind fun x=>bif x.2.failed' then some (z,⟨x.2.b',r.at',x.2.failed'⟩) else some (x.1,x.2)):RdZ z g Enc:=by
 refine ⟨⟨?_,?_⟩,?_,?_⟩
 ·intro b p hb hp
  rcases hf.run b p hb hp with ⟨x,a,h⟩ | ⟨x,l,rest,h1,h2,h3⟩
  ·left
   exact ⟨z,(p:Int),by rw [hg];simp only [cond_false];rw [h];rfl⟩
  ·right
   exact ⟨x,l,rest,h1,h2,by rw [hg];simp only [cond_false];rw [h3];rfl⟩
 ·intro b p x l rest hb hp hd hx
  rw [hg]
  simp only [cond_false]
  rw [hf.full b p x l rest hb hp hd hx];rfl
 ·intro b a;rw [hg];rfl
 ·intro b p x a hb hp h
  rw [hg] at h
  simp only [cond_false] at h
  rcases hf.run b p hb hp with ⟨y,a',h'⟩ | ⟨y,l,rest,h1,h2,h3⟩
  ·rw [h'] at h
   simp at h
   exact h.1.symm
  ·rw [h3] at h
   simp at h
theorem Rds.bind {α β:Type} {f:Rdr→Option (α × Rdr)} {k:α→Rdr→Option (β × Rdr)} {A:α→List Int→Prop} {B:α→β→List Int→Prop} (hf:Rds f A) (hk:∀ x,Rds (k x) (B x)) :
  Rds (fun r=>(f r).bind fun q=>k q.1 q.2) (fun y l=>∃ x l1 l2,l=l1++l2∧A x l1∧B x y l2):=by
 refine ⟨⟨?_,?_⟩,?_⟩
 ·intro b p hb hp
  rcases hf.run b p hb hp with ⟨x,a,h⟩ | ⟨x,l1,rest,h1,h2,h3⟩
  ·left
   obtain ⟨y,hy⟩:=(hk x).fail b a
   exact ⟨y,a,by simp only [h,bS,hy]⟩
  ·have hl:p+l1.length≤b.length:=by
    have:=congrArg List.length h1
    simp at this;omega
   rcases (hk x).run b (p+l1.length) hb hl with ⟨y,a,h⟩ | ⟨y,l2,rest2,g1,g2,g3⟩
   ·left
    exact ⟨y,a,by simp only [h3,bS,h]⟩
   ·right
    have hr:b.drop (p+l1.length)=rest:=by rw [← List.drop_drop,h1,List.drop_left]
    rw [hr] at g1
    exact ⟨y,l1++l2,rest2,by rw [h1,g1];simp,⟨x,l1,l2,rfl,h2,g2⟩,by simp only [h3,bS,g3,List.length_append];congr 3;omega⟩
 ·intro b p y l rest hb hp hd hx
  obtain ⟨x,l1,l2,rfl,h2,g2⟩:=hx
  rw [aA] at hd
  have h3:=hf.full b p x l1 _ hb hp hd h2
  have hl:p+l1.length≤b.length:=by
   have:=congrArg List.length hd
   simp at this;omega
  have hr:b.drop (p+l1.length)=l2++rest:=by rw [← List.drop_drop,hd,List.drop_left]
  have g3:=(hk x).full b (p+l1.length) y l2 rest hb hl hr g2
  simp only [h3,bS,g3,List.length_append]
  congr 3;omega
 ·intro b a
  obtain ⟨x,hx⟩:=hf.fail b a
  obtain ⟨y,hy⟩:=(hk x).fail b a
  exact ⟨y,by simp only [hx,bS,hy]⟩
theorem Rds.ret {α:Type} (v:α):Rds (fun r=>some (v,r)) (fun y l=>y=v∧l=[]):=by
 refine ⟨⟨?_,?_⟩,?_⟩
 ·intro b p hb hp
  exact .inr ⟨v,[],b.drop p,rfl,⟨rfl,rfl⟩,rfl⟩
 ·rintro b p x l rest hb hp hd ⟨rfl,rfl⟩
  rfl
 ·intro b a;exact ⟨v,rfl⟩
inductive EncL {α:Type} (Enc:α→List Int→Prop):List α→List Int→Prop
 | nil:EncL Enc [] []
 | cons (x:α) (xs:List α) (l ls:List Int):Enc x l→EncL Enc xs ls→EncL Enc (x::xs) (l++ls)
section
variable {α:Type} {one:Rdr→Option (α × Rdr)} {Enc:α→List Int→Prop} {L:(Int × Rdr)→Nat→List Int→Int→Bool→List α→Int→Option (List α × Rdr)}
theorem list_fail (h1:Rds one Enc) (x1:Int × Rdr) (hx1:x1.1≤1000)
  (hL0:∀ n b a fl acc i,decide (i < x1.1)=false→L x1 (n+1) b a fl acc i=some (acc,⟨b,a,fl⟩))
  (hL1:∀ n b a fl acc i,decide (i < x1.1)=true→L x1 (n+1) b a fl acc i=(one ⟨b,a,fl⟩).bind fun x=>(appL acc [x.1]).bind fun y=>L x1 n x.2.b' x.2.at' x.2.failed' y (w64 (i+1))) (b:List Int) (a:Int) :
  ∀ (k i n:Nat) (acc:List α),x1.1≤((i+k:Nat):Int)→i+k≤1000→k < n→acc.length≤i→∃ ys,L x1 n b a true acc (i:Int)=some (ys,⟨b,a,true⟩):=by
 intro k
 induction k with
 | zero =>
  intro i n acc h _ hn ha
  obtain ⟨n,rfl⟩:∃ q,n=q+1:=⟨n-1,by omega⟩
  exact ⟨acc,hL0 n b a true acc _ (dF (by omega))⟩
 | succ k ih =>
  intro i n acc h hk hn ha
  obtain ⟨n,rfl⟩:∃ q,n=q+1:=⟨n-1,by omega⟩
  by_cases hlt:(i:Int) < x1.1
  ·obtain ⟨x,hx⟩:=h1.fail b a
   rw [hL1 n b a true acc _ (dT hlt),hx]
   simp only [bS]
   rw [appL_some (by simp;omega),bS,w64_succ (by omega)]
   exact ih (i+1) n _ (by omega) (by omega) (by omega) (by simp;omega)
  ·exact ⟨acc,hL0 n b a true acc _ (dF hlt)⟩
theorem list_run (h1:Rds one Enc) (x1:Int × Rdr) (hx1:x1.1≤1000)
  (hL0:∀ n b a fl acc i,decide (i < x1.1)=false→L x1 (n+1) b a fl acc i=some (acc,⟨b,a,fl⟩))
  (hL1:∀ n b a acc i,decide (i < x1.1)=true→L x1 (n+1) b a false acc i=(one ⟨b,a,false⟩).bind fun x=>(appL acc [x.1]).bind fun y=>L x1 n x.2.b' x.2.at' x.2.failed' y (w64 (i+1)))
  (hF:∀ (b:List Int) (a:Int) (k i n:Nat) (acc:List α),x1.1≤((i+k:Nat):Int)→i+k≤1000→k < n→acc.length≤i→∃ ys,L x1 n b a true acc (i:Int)=some (ys,⟨b,a,true⟩)) (b:List Int) (hb:Byt b) :
  ∀ (k i n p:Nat) (acc:List α),x1.1=((i+k:Nat):Int)→k < n→acc.length≤i→p≤b.length →
  (∃ ys a,L x1 n b (p:Int) false acc (i:Int)=some (ys,⟨b,a,true⟩))∨∃ ys l rest,b.drop p=l++rest∧EncL Enc ys l∧ys.length=k∧L x1 n b (p:Int) false acc (i:Int)=some (acc++ys,⟨b,((p+l.length:Nat):Int),false⟩):=by
 intro k
 induction k with
 | zero =>
  intro i n p acc h hn ha hp
  obtain ⟨n,rfl⟩:∃ q,n=q+1:=⟨n-1,by omega⟩
  right
  exact ⟨[],[],b.drop p,rfl,.nil,rfl,by rw [hL0 n b _ false acc _ (dF (by omega))];simp⟩
 | succ k ih =>
  intro i n p acc h hn ha hp
  obtain ⟨n,rfl⟩:∃ q,n=q+1:=⟨n-1,by omega⟩
  rw [hL1 n b _ acc _ (dT (by omega))]
  rcases h1.run b p hb hp with ⟨x,a,hx⟩ | ⟨x,l1,rest,g1,g2,g3⟩
  ·left
   rw [hx]
   simp only [bS]
   rw [appL_some (by simp;omega),bS,w64_succ (by omega)]
   obtain ⟨ys,hy⟩:=hF b a k (i+1) n (acc++[x]) (by omega) (by omega) (by omega) (by simp;omega)
   exact ⟨ys,a,hy⟩
  ·have hl:p+l1.length≤b.length:=by
    have:=congrArg List.length g1
    simp at this;omega
   have hr:b.drop (p+l1.length)=rest:=by rw [← List.drop_drop,g1,List.drop_left]
   rw [g3]
   simp only [bS]
   rw [appL_some (by simp;omega),bS,w64_succ (by omega)]
   rcases ih (i+1) n (p+l1.length) (acc++[x]) (by omega) (by omega) (by simp;omega) hl with ⟨ys,a,hy⟩ | ⟨ys,l2,rest2,e1,e2,e3,e4⟩
   ·exact .inl ⟨ys,a,hy⟩
   ·right
    rw [hr] at e1
    refine ⟨x::ys,l1++l2,rest2,by rw [g1,e1];simp,.cons x ys l1 l2 g2 e2,by simp [e3],?_⟩
    rw [e4]
    simp only [List.length_append,aA,List.singleton_append]
    congr 3;omega
theorem list_full (h1:Rds one Enc) (x1:Int × Rdr) (hx1:x1.1≤1000)
  (hL0:∀ n b a fl acc i,decide (i < x1.1)=false→L x1 (n+1) b a fl acc i=some (acc,⟨b,a,fl⟩))
  (hL1:∀ n b a acc i,decide (i < x1.1)=true→L x1 (n+1) b a false acc i=(one ⟨b,a,false⟩).bind fun x=>(appL acc [x.1]).bind fun y=>L x1 n x.2.b' x.2.at' x.2.failed' y (w64 (i+1))) (b:List Int) (hb:Byt b) :
  ∀ (ys:List α) (l rest:List Int) (i n p:Nat) (acc:List α),x1.1=((i+ys.length:Nat):Int)→ys.length < n→acc.length≤i→p≤b.length→EncL Enc ys l→b.drop p=l++rest →
  L x1 n b (p:Int) false acc (i:Int)=some (acc++ys,⟨b,((p+l.length:Nat):Int),false⟩):=by
 intro ys
 induction ys with
 | nil =>
  intro l rest i n p acc h hn ha hp he hd
  obtain ⟨n,rfl⟩:∃ q,n=q+1:=⟨n-1,by simp at hn;omega⟩
  cases he
  rw [hL0 n b _ false acc _ (dF (by simp at h;omega))];simp
 | cons x ys ih =>
  intro l rest i n p acc h hn ha hp he hd
  obtain ⟨n,rfl⟩:∃ q,n=q+1:=⟨n-1,by simp at hn;omega⟩
  simp only [List.length_cons] at h hn
  cases he with
  | cons _ _ l1 l2 g1 g2 =>
   rw [aA] at hd
   have hl:p+l1.length≤b.length:=by
    have:=congrArg List.length hd
    simp at this;omega
   have hr:b.drop (p+l1.length)=l2++rest:=by rw [← List.drop_drop,hd,List.drop_left]
   rw [hL1 n b _ acc _ (dT (by omega)),h1.full b p x l1 _ hb hp hd g1]
   simp only [bS]
   rw [appL_some (by simp;omega),bS,w64_succ (by omega),ih l2 rest (i+1) n (p+l1.length) (acc++[x]) (by omega) (by omega) (by simp;omega) hl g2 hr]
   simp only [List.length_append,aA,List.singleton_append]
   congr 3;omega
theorem list_rdsF (hN:100000 < N) (h1:Rds one Enc) (most:Nat) (hm:most≤1000) {cnt f} (hc:RdZ (0:Int) cnt (fun x l=>EncN x l∧0≤x∧x≤(most:Int)))
  (hL0:∀ x1 n b a fl acc i,decide (i < x1.1)=false→L x1 (n+1) b a fl acc i=some (acc,⟨b,a,fl⟩))
  (hL1:∀ x1 n b a acc i,decide (i < x1.1)=true→L x1 (n+1) b a false acc i=(one ⟨b,a,false⟩).bind fun x=>(appL acc [x.1]).bind fun y=>L x1 n x.2.b' x.2.at' x.2.failed' y (w64 (i+1)))
  (hF:∀ (x1:Int × Rdr),x1.1≤1000→∀ (b:List Int) (a:Int) (k i n:Nat) (acc:List α),x1.1≤((i+k:Nat):Int)→i+k≤1000→k < n→acc.length≤i→∃ ys,L x1 n b a true acc (i:Int)=some (ys,⟨b,a,true⟩))
  (hf:∀ r,f r=(cnt r).bind fun x1=>L x1 N x1.2.b' x1.2.at' x1.2.failed' [] (0:Int)) :
  Rds f (fun xs l=>xs.length≤most∧∃ l2,l=vint (xs.length:Int)++l2∧EncL Enc xs l2):=by
 obtain ⟨n,rfl⟩:∃ q,N=q+1:=⟨N-1,by omega⟩
 have z0:∀ b a,L ((0:Int),⟨b,a,true⟩) (n+1) b a true [] (0:Int)=some ([],⟨b,a,true⟩):=fun b a=>hL0 _ n b a true [] _ rfl
 refine ⟨⟨?_,?_⟩,?_⟩
 ·intro b p hb hp
  rcases hc.run b p hb hp with ⟨x,a,hx⟩ | ⟨x,l1,rest,g1,⟨⟨g2,_⟩,g4,g5⟩,g3⟩
  ·left
   have:=hc.zero b p x a hb hp hx
   subst this
   exact ⟨[],a,by rw [hf,hx];exact z0 b a⟩
  ·have hl:p+l1.length≤b.length:=by
    have:=congrArg List.length g1
    simp at this;omega
   have hr:b.drop (p+l1.length)=rest:=by rw [← List.drop_drop,g1,List.drop_left]
   rcases list_run h1 (x,⟨b,((p+l1.length:Nat):Int),false⟩) (by show x≤1000;omega) (hL0 _) (hL1 _) (hF _ (by show x≤1000;omega)) b hb x.toNat 0 (n+1) (p+l1.length) [] (by show x=_;omega) (by omega) (by simp) hl with ⟨ys,a,hy⟩ | ⟨ys,l2,rest2,e1,e2,e3,e4⟩
   ·left
    exact ⟨ys,a,by rw [hf,g3];exact hy⟩
   ·right
    rw [hr] at e1
    refine ⟨ys,l1++l2,rest2,by rw [g1,e1];simp,⟨by omega,l2,?_,e2⟩,?_⟩
    ·rw [g2,e3,show ((x.toNat:Nat):Int)=x by omega]
    ·rw [hf,g3]
     have e4':L (x,⟨b,((p+l1.length:Nat):Int),false⟩) (n+1) b ((p+l1.length:Nat):Int) false [] (0:Int)=_:=e4
     simp only [bS]
     rw [e4']
     simp only [List.length_append,List.nil_append]
     congr 3;omega
 ·rintro b p xs l rest hb hp hd ⟨q1,l2,rfl,q2⟩
  rw [aA] at hd
  have hcn:=hc.full b p (xs.length:Int) (vint (xs.length:Int)) _ hb hp hd ⟨⟨rfl,by unfold I64;omega⟩,by omega,by omega⟩
  have hl:p+(vint (xs.length:Int)).length≤b.length:=by
   have:=congrArg List.length hd
   simp at this;omega
  have hr:b.drop (p+(vint (xs.length:Int)).length)=l2++rest:=by rw [← List.drop_drop,hd,List.drop_left]
  rw [hf,hcn]
  have:=list_full h1 ((xs.length:Int),⟨b,((p+(vint (xs.length:Int)).length:Nat):Int),false⟩) (by show (xs.length:Int)≤1000;omega) (hL0 _) (hL1 _) b hb xs l2 rest 0 (n+1) _ [] (by show (xs.length:Int)=_;omega) (by omega) (by simp) hl q2 hr
  have e4':L ((xs.length:Int),⟨b,((p+(vint (xs.length:Int)).length:Nat):Int),false⟩) (n+1) b ((p+(vint (xs.length:Int)).length:Nat):Int) false [] (0:Int)=_:=this
  simp only [bS]
  rw [e4']
  simp only [List.length_append,List.nil_append]
  congr 3;omega
 ·intro b a
  exact ⟨[],by rw [hf,hc.fail];exact z0 b a⟩
theorem list_rds (hN:100000 < N) (h1:Rds one Enc) (most:Nat) (hm:most≤1000) {cnt f} (hc:RdZ (0:Int) cnt (fun x l=>EncN x l∧0≤x∧x≤(most:Int)))
  (hL0:∀ x1 n b a fl acc i,decide (i < x1.1)=false→L x1 (n+1) b a fl acc i=some (acc,⟨b,a,fl⟩))
  (hL1:∀ x1 n b a fl acc i,decide (i < x1.1)=true→L x1 (n+1) b a fl acc i=(one ⟨b,a,fl⟩).bind fun x=>(appL acc [x.1]).bind fun y=>L x1 n x.2.b' x.2.at' x.2.failed' y (w64 (i+1)))
  (hf:∀ r,f r=(cnt r).bind fun x1=>L x1 N x1.2.b' x1.2.at' x1.2.failed' [] (0:Int)) :
  Rds f (fun xs l=>xs.length≤most∧∃ l2,l=vint (xs.length:Int)++l2∧EncL Enc xs l2) :=
 list_rdsF hN h1 most hm hc hL0 (fun x1 n b a acc i h=>hL1 x1 n b a false acc i h) (fun x1 hx b a=>list_fail h1 x1 hx (hL0 x1) (hL1 x1) b a) hf
end
end Gp
end
section
namespace Gp
open Go Go.Kx Gx
variable {N:Nat}
theorem rd_int (hN:100 < N):RdZ (0:Int) (z98 N) EncN:=by
 refine part_rdz (inn_int hN) ?_
 intro r
 unfold z98 z140_26
 cases r.failed'
 ·simp only [cond_false]
  cases z141 N r with
  | none=>rfl
  | some x=>cases h:x.2.failed'<;>simp [h]
 ·rfl
theorem inn_bounded (hN:100 < N) (lo hi:Int):Inn (fun r=>z164 N r lo hi) (fun x l=>EncN x l∧lo≤x∧x≤hi):=by
 constructor
 ·intro b p hb hp
  rcases (inn_int hN).run b p hb hp with ⟨x,a,h⟩ | ⟨x,l,rest,h1,h2,h3⟩
  ·left
   refine ⟨x,a,?_⟩
   simp only [z164,h,bS,cT]
  ·by_cases c1:x < lo
   ·left
    refine ⟨x,((p+l.length:Nat):Int),?_⟩
    simp only [z164,h3,bS,cond_false,dT c1,cT]
   ·by_cases c2:x > hi
    ·left
     refine ⟨x,((p+l.length:Nat):Int),?_⟩
     simp only [z164,h3,bS,cond_false,dF c1,dT c2]
    ·right
     refine ⟨x,l,rest,h1,⟨h2,by omega,by omega⟩,?_⟩
     simp only [z164,h3,bS,cond_false,dF c1,dF c2]
 ·rintro b p x l rest hb hp hd ⟨hx,c1,c2⟩
  have h3:=(inn_int hN).full b p x l rest hb hp hd hx
  simp only [z164,h3,bS,cond_false,dF (show ¬ x < lo by omega),dF (show ¬ x > hi by omega)]
theorem rd_bounded (hN:100 < N) (lo hi:Int):RdZ (0:Int) (fun r=>z133 N r lo hi) (fun x l=>EncN x l∧lo≤x∧x≤hi):=by
 refine part_rdz (inn_bounded hN lo hi) ?_
 intro r
 unfold z133 z140_24 z163_23
 cases r.failed'
 ·simp only [cond_false]
  cases z164 N r lo hi with
  | none=>rfl
  | some x=>cases h:x.2.failed'<;>simp [h]
 ·rfl
def EncB (most:Nat) (x:List Int) (l:List Int):Prop:=l=vint (x.length:Int)++x∧x.length≤most∧∀ c∈x,0≤c∧c < 256
theorem inn_bytes (hN:100 < N) (most:Nat) (hm:most≤1000):Inn (fun r=>z162 N r (most:Int)) (EncB most):=by
 constructor
 ·intro b p hb hp
  rcases (inn_bounded hN 0 (most:Int)).run b p hb hp with ⟨x,a,h⟩ | ⟨x,l,rest,h1,⟨⟨h2,_⟩,h4,h5⟩,h3⟩
  ·left
   refine ⟨[],a,?_⟩
   simp only [z162,h,bS,cT]
  ·have hl:p+l.length≤b.length:=by
    have:=congrArg List.length h1
    simp at this;omega
   have hr:b.drop (p+l.length)=rest:=by rw [← List.drop_drop,h1,List.drop_left]
   have hn:=next_eq (N:=N) b (p+l.length) x.toNat hb hl (by omega)
   rw [show ((x.toNat:Nat):Int)=x by omega] at hn
   by_cases hlen:p+l.length+x.toNat≤b.length
   ·rw [if_pos hlen,hr] at hn
    right
    have hrl:rest.length=b.length-(p+l.length):=by rw [← hr];simp
    have ht:(rest.take x.toNat).length=x.toNat:=by simp;omega
    refine ⟨rest.take x.toNat,l++rest.take x.toNat,rest.drop x.toNat,?_,⟨?_,by omega,?_⟩,?_⟩
    ·rw [h1,aA,List.take_append_drop]
    ·rw [h2,ht,show ((x.toNat:Nat):Int)=x by omega]
    ·intro c hc
     refine hb.2 c ?_
     have h6:=List.mem_of_mem_take hc
     rw [← hr] at h6
     exact List.mem_of_mem_drop h6
    ·simp only [z162,h3,bS,cond_false,hn,List.length_append,ht]
     congr 3;omega
   ·rw [if_neg hlen] at hn
    left
    refine ⟨[],((p+l.length:Nat):Int),?_⟩
    simp only [z162,h3,bS,cond_false,hn]
 ·rintro b p x l rest hb hp hd ⟨rfl,c1,c2⟩
  rw [aA] at hd
  have h3:=(inn_bounded hN 0 (most:Int)).full b p (x.length:Int) _ _ hb hp hd ⟨⟨rfl,by unfold I64;omega⟩,by omega,by omega⟩
  have hl:p+(vint (x.length:Int)).length+x.length≤b.length:=by
   have:=congrArg List.length hd
   simp at this;omega
  have hr:b.drop (p+(vint (x.length:Int)).length)=x++rest:=by rw [← List.drop_drop,hd,List.drop_left]
  have hn:=next_eq (N:=N) b (p+(vint (x.length:Int)).length) x.length hb (by omega) (by omega)
  rw [if_pos hl,hr,List.take_left] at hn
  simp only [z162,h3,bS,cond_false,hn,List.length_append]
  congr 3;omega
theorem rd_bytes (hN:100 < N) (most:Nat) (hm:most≤1000):RdZ ([]:List Int) (fun r=>z132 N r (most:Int)) (EncB most):=by
 have hal:Inn (fun r=>z161_21 N r (most:Int)) (EncB most):=by
  have hi:=inn_bytes hN most hm
  constructor
  ·intro b p hb hp
   rcases hi.run b p hb hp with ⟨x,a,h⟩ | ⟨x,l,rest,h1,h2,h3⟩
   ·left
    have hx:x=[]:=by
     have h':=h
     simp only [z162] at h'
     rcases (inn_bounded hN 0 (most:Int)).run b p hb hp with ⟨y,a',g⟩ | ⟨y,l,rest,g1,⟨_,g4,g5⟩,g3⟩
     ·simp only [g,bS,cT] at h'
      simp at h';exact h'.1
     ·have hl:p+l.length≤b.length:=by
       have:=congrArg List.length g1
       simp at this;omega
      have hn:=next_eq (N:=N) b (p+l.length) y.toNat hb hl (by omega)
      rw [show ((y.toNat:Nat):Int)=y by omega] at hn
      simp only [g3,bS,cond_false,hn] at h'
      split at h'
      ·simp at h'
      ·simp at h';exact h'.1
    subst hx
    exact ⟨[],a,by simp only [z161_21,h,bS];rw [appL_some (by simp)];rfl⟩
   ·right
    refine ⟨x,l,rest,h1,h2,?_⟩
    simp only [z161_21,h3,bS]
    rw [appL_some (by have:=h2.2.1;simp;omega)];rfl
  ·intro b p x l rest hb hp hd hx
   have h3:=hi.full b p x l rest hb hp hd hx
   simp only [z161_21,h3,bS]
   rw [appL_some (by have:=hx.2.1;simp;omega)];rfl
 refine part_rdz hal ?_
 intro r
 unfold z132 z160_22
 cases r.failed'
 ·simp only [cond_false]
  cases z161_21 N r (most:Int) with
  | none=>rfl
  | some x=>cases h:x.2.failed'<;>simp [h]
 ·rfl
theorem strOf_bytes (l:List Int) (h:∀ c∈l,0≤c∧c < 256):bytesL (strOf l)=l:=by
 have gen:∀ (l:List Int) (r:ByteArray),(∀ c∈l,0≤c∧c < 256)→bytesL (l.foldl (fun r n=>r.push (UInt8.ofNat n.toNat)) r)=bytesL r++l:=by
  intro l
  induction l with
  | nil=>intro r _;simp
  | cons c l ih =>
   intro r hl
   rw [List.foldl_cons,ih _ (fun d hd=>hl d (by simp [hd]))]
   have hc:=hl c (by simp)
   have:bytesL (r.push (UInt8.ofNat c.toNat))=bytesL r++[c]:=by
    unfold bytesL
    rw [show (r.push (UInt8.ofNat c.toNat)).data=r.data.push (UInt8.ofNat c.toNat) from rfl,Array.toList_push,List.map_append]
    congr 1
    simp
    omega
   rw [this];simp
 have:=gen l ByteArray.empty h
 exact this
theorem bytesL_inj {a b:ByteArray} (h:bytesL a=bytesL b):a=b:=by
 apply bs_inj
 unfold bytesL at h
 have hinj:Function.Injective (fun b:UInt8=>(b.toNat:Int)):=by
  intro x y hxy
  have hxy:(x.toNat:Int)=(y.toNat:Int):=hxy
  exact UInt8.toNat_inj.mp (by omega)
 exact (List.map_inj_right (fun x y hxy=>hinj hxy)).mp h
theorem bytesL_rng (s:ByteArray):∀ c∈bytesL s,0≤c∧c < 256:=by
 intro c hc
 unfold bytesL at hc
 obtain ⟨x,_,rfl⟩:=List.mem_map.mp hc
 have:=x.toNat_lt
 show 0≤(x.toNat:Int)∧(x.toNat:Int) < 256
 omega
theorem bytes_strOf (s:ByteArray):strOf (bytesL s)=s:=bytesL_inj (strOf_bytes _ (bytesL_rng s))
theorem rd_text (hN:100 < N) (most:Nat) (hm:most≤1000):Rds (fun r=>z93 N r (most:Int)) (fun s l=>l=encT s∧s.size≤most):=by
 have h:=(rd_bytes (N:=N) hN most hm).rds.bind (fun x=>Rds.ret (strOf x))
 refine (show Rds (fun r=>z93 N r (most:Int)) _ from h).congr ?_
 intro s l
 constructor
 ·rintro ⟨x,l1,l2,rfl,⟨rfl,h2,h3⟩,rfl,rfl⟩
  have hb:=strOf_bytes x h3
  have hs:(strOf x).size=x.length:=by rw [← bytesL_len,hb]
  unfold encT
  rw [hs,hb]
  exact ⟨by simp,h2⟩
 ·rintro ⟨rfl,h⟩
  refine ⟨bytesL s,encT s,[],by simp,⟨?_,by rw [bytesL_len];exact h,bytesL_rng s⟩,(bytes_strOf s).symm,rfl⟩
  unfold encT
  rw [bytesL_len]
theorem rd_bool:Rds (z142 N) (fun v l=>l=[if v then (1:Int) else 0]):=by
 have hi:Inn (z167 N) (fun v l=>l=[if v then (1:Int) else 0]):=by
  constructor
  ·intro b p hb hp
   have hn:=next_eq (N:=N) b p 1 hb hp (by omega)
   rw [show ((1:Nat):Int)=(1:Int) from rfl] at hn
   by_cases hl:p+1≤b.length
   ·have hc:=List.getElem?_eq_getElem (show p < b.length by omega)
    generalize b[p]=c at hc
    obtain ⟨c0,c1⟩:=hb.2 c (List.mem_of_getElem? hc)
    rw [if_pos hl,drop_at' hc,show (c::b.drop (p+1)).take 1=[c] from rfl] at hn
    have i0:idx [c] (0:Int)=some c:=rfl
    by_cases hc2:c > 1
    ·left
     refine ⟨false,((p+1:Nat):Int),?_⟩
     simp only [z167,hn,bS,cond_false,i0,dT hc2,Bool.not_true]
    ·right
     refine ⟨c==1,[c],b.drop (p+1),by rw [drop_at' hc];rfl,?_,?_⟩
     ·by_cases h1:c=1
      ·subst h1;rfl
      ·rw [beq_eq_false_iff_ne.mpr h1]
       have:c=0:=by omega
       subst this;rfl
     ·simp only [z167,hn,bS,cond_false,i0,dF hc2,Bool.not_false,cT]
      rfl
   ·left
    rw [if_neg hl] at hn
    refine ⟨false,(p:Int),?_⟩
    simp only [z167,hn,bS,cT]
  ·rintro b p v l rest hb hp hd rfl
   have hn:=next_eq (N:=N) b p 1 hb hp (by omega)
   rw [show ((1:Nat):Int)=(1:Int) from rfl] at hn
   have hl:p+1≤b.length:=by
    have:=congrArg List.length hd
    simp at this;omega
   rw [if_pos hl,hd] at hn
   cases v
   ·have i0:idx (([(0:Int)]++rest).take 1) (0:Int)=some 0:=rfl
    simp only [z167,hn,bS,cond_false,Bool.false_eq_true,if_false,i0]
    rfl
   ·have i0:idx (([(1:Int)]++rest).take 1) (0:Int)=some 1:=rfl
    simp only [z167,hn,bS,cond_false,if_true,i0]
    rfl
 refine (part_rdz (z:=false) hi ?_).rds
 intro r
 unfold z142 z166_31
 cases r.failed'
 ·simp only [cond_false]
  cases z167 N r with
  | none=>rfl
  | some x=>cases h:x.2.failed'<;>simp [h]
 ·rfl
end Gp
end
section
namespace Gp
open Go Go.Kx Gx
variable {N:Nat}
theorem encL_iff {α:Type} (e:α→List Int) (ok:α→Prop):∀ (xs:List α) (l:List Int),EncL (fun x l=>l=e x∧ok x) xs l↔l=xs.flatMap e∧∀ x∈xs,ok x
 | [],l=>by
  constructor
  ·intro h;cases h;simp
  ·rintro ⟨rfl,_⟩;exact .nil
 | x::xs,l=>by
  constructor
  ·intro h
   cases h with
   | cons _ _ l1 l2 h1 h2 =>
    obtain ⟨rfl,h3⟩:=h1
    obtain ⟨rfl,h4⟩:=(encL_iff e ok xs l2).mp h2
    refine ⟨by simp,?_⟩
    intro y hy
    rcases List.mem_cons.mp hy with h | h
    ·subst h;exact h3
    ·exact h4 y h
  ·rintro ⟨rfl,h⟩
   rw [List.flatMap_cons]
   exact .cons x xs _ _ ⟨rfl,h x (by simp)⟩ ((encL_iff e ok xs _).mpr ⟨rfl,fun y hy=>h y (by simp [hy])⟩)
def okF (f:T3):Prop:=f.Name.size≤16∧I64 f.Sort'.Kind∧I64 f.Sort'.Lo∧I64 f.Sort'.Hi
def okDf (x:T1):Prop:=I64 x.X∧I64 x.Y∧I64 x.C
def okEq (x:Int × Int):Prop:=I64 x.1∧I64 x.2
def okTm (t:T8):Prop:=I64 t.State∧I64 t.Ticks∧I64 t.Else
def okEd (x:T2):Prop:=I64 x.From∧I64 x.Act.From∧I64 x.Act.To∧I64 x.Act.Label∧I64 x.To
def okD (d:T0):Prop:=d.Name.size≤50∧(d.Fields.length≤4∧∀ f∈d.Fields,okF f)∧I64 d.First∧(d.Guard.Diffs.length≤20∧∀ x∈d.Guard.Diffs,okDf x)∧(d.Guard.Equals.length≤20∧∀ x∈d.Guard.Equals,okEq x)
def okT' (s:ByteArray):Prop:=s.size≤16
def okG (g:T4):Prop:=g.Name.size≤16∧(g.Roles.length≤6∧∀ s∈g.Roles,okT' s)∧(g.Decls.length≤40∧∀ d∈g.Decls,okD d)∧I64 g.States∧I64 g.Start∧I64 g.End∧(g.Edges.length≤400∧∀ x∈g.Edges,okEd x)∧(g.Timeouts.length≤200∧∀ t∈g.Timeouts,okTm t)
theorem rd_field (hN:100000 < N):Rds (z135 N) (fun y l=>l=encF y∧okF y):=by
 have h:=(rd_text (N:=N) (by omega) 16 (by omega)).bind fun a0=>((rd_int (N:=N) (by omega)).rds).bind fun a1=>((rd_int (N:=N) (by omega)).rds).bind fun a2=>((rd_int (N:=N) (by omega)).rds).bind fun a3=>Rds.ret (⟨a0,⟨a1,a2,a3⟩⟩:T3)
 refine (show Rds (z135 N) _ from h).congr ?_
 intro y l
 constructor
 ·rintro ⟨a0,_,_,rfl,⟨rfl,h0⟩,a1,_,_,rfl,⟨rfl,h1⟩,a2,_,_,rfl,⟨rfl,h2⟩,a3,_,_,rfl,⟨rfl,h3⟩,rfl,rfl⟩
  exact ⟨by simp [encF,encI],h0,h1,h2,h3⟩
 ·rintro ⟨rfl,h0,h1,h2,h3⟩
  exact ⟨y.Name,encT y.Name,vint y.Sort'.Kind++(vint y.Sort'.Lo++(vint y.Sort'.Hi++([]))),by simp [encF,encI],⟨rfl,h0⟩,y.Sort'.Kind,vint y.Sort'.Kind,vint y.Sort'.Lo++(vint y.Sort'.Hi++([])),rfl,⟨rfl,h1⟩,y.Sort'.Lo,vint y.Sort'.Lo,vint y.Sort'.Hi++([]),rfl,⟨rfl,h2⟩,y.Sort'.Hi,vint y.Sort'.Hi,[],rfl,⟨rfl,h3⟩,rfl,rfl⟩
theorem rd_diff (hN:100000 < N):Rds (z137 N) (fun y l=>l=encDf y∧okDf y):=by
 have h:=((rd_int (N:=N) (by omega)).rds).bind fun a0=>((rd_int (N:=N) (by omega)).rds).bind fun a1=>((rd_int (N:=N) (by omega)).rds).bind fun a2=>Rds.ret (⟨a0,a1,a2⟩:T1)
 refine (show Rds (z137 N) _ from h).congr ?_
 intro y l
 constructor
 ·rintro ⟨a0,_,_,rfl,⟨rfl,h0⟩,a1,_,_,rfl,⟨rfl,h1⟩,a2,_,_,rfl,⟨rfl,h2⟩,rfl,rfl⟩
  exact ⟨by simp [encDf,encI],h0,h1,h2⟩
 ·rintro ⟨rfl,h0,h1,h2⟩
  exact ⟨y.X,vint y.X,vint y.Y++(vint y.C++([])),by simp [encDf,encI],⟨rfl,h0⟩,y.Y,vint y.Y,vint y.C++([]),rfl,⟨rfl,h1⟩,y.C,vint y.C,[],rfl,⟨rfl,h2⟩,rfl,rfl⟩
theorem rd_equals (hN:100000 < N):Rds (z139 N) (fun y l=>l=encEq y∧okEq y):=by
 have h:=((rd_int (N:=N) (by omega)).rds).bind fun a0=>((rd_int (N:=N) (by omega)).rds).bind fun a1=>Rds.ret ((a0,a1):Int × Int)
 refine (show Rds (z139 N) _ from h).congr ?_
 intro y l
 constructor
 ·rintro ⟨a0,_,_,rfl,⟨rfl,h0⟩,a1,_,_,rfl,⟨rfl,h1⟩,rfl,rfl⟩
  exact ⟨by simp [encEq,encI],h0,h1⟩
 ·rintro ⟨rfl,h0,h1⟩
  exact ⟨y.1,vint y.1,vint y.2++([]),by simp [encEq,encI],⟨rfl,h0⟩,y.2,vint y.2,[],rfl,⟨rfl,h1⟩,rfl,rfl⟩
theorem rd_timeout (hN:100000 < N):Rds (z102 N) (fun y l=>l=encTm y∧okTm y):=by
 have h:=((rd_int (N:=N) (by omega)).rds).bind fun a0=>((rd_int (N:=N) (by omega)).rds).bind fun a1=>((rd_int (N:=N) (by omega)).rds).bind fun a2=>Rds.ret (⟨a0,a1,a2⟩:T8)
 refine (show Rds (z102 N) _ from h).congr ?_
 intro y l
 constructor
 ·rintro ⟨a0,_,_,rfl,⟨rfl,h0⟩,a1,_,_,rfl,⟨rfl,h1⟩,a2,_,_,rfl,⟨rfl,h2⟩,rfl,rfl⟩
  exact ⟨by simp [encTm,encI],h0,h1,h2⟩
 ·rintro ⟨rfl,h0,h1,h2⟩
  exact ⟨y.State,vint y.State,vint y.Ticks++(vint y.Else++([])),by simp [encTm,encI],⟨rfl,h0⟩,y.Ticks,vint y.Ticks,vint y.Else++([]),rfl,⟨rfl,h1⟩,y.Else,vint y.Else,[],rfl,⟨rfl,h2⟩,rfl,rfl⟩
theorem rd_fields (hN:100000 < N):Rds (fun r=>z134_27 N r (4:Int)) (fun xs l=>l=vint (xs.length:Int)++xs.flatMap encF∧(xs.length≤4∧∀ x∈xs,okF x)):=by
 have h:=list_rds (α:=T3) (L:=fun x1=>z134_27_l2 N x1) hN (rd_field hN) 4 (by omega) (rd_bounded (N:=N) (by omega) 0 ((4:Nat):Int))
  (by intro x1 n b a fl acc i h;rw [z134_27_l2,h,cond_false];rfl)
  (by intro x1 n b a fl acc i h;rw [z134_27_l2,h,cT])
  (f:=fun r=>z134_27 N r (4:Int)) (by intro r;rfl)
 refine h.congr ?_
 intro xs l
 constructor
 ·rintro ⟨h1,l2,rfl,h2⟩
  obtain ⟨rfl,h3⟩:=(encL_iff _ _ xs l2).mp h2
  exact ⟨rfl,h1,h3⟩
 ·rintro ⟨rfl,h1,h3⟩
  exact ⟨h1,_,rfl,(encL_iff _ _ xs _).mpr ⟨rfl,h3⟩⟩
theorem rd_diffs (hN:100000 < N):Rds (fun r=>z136_28 N r (20:Int)) (fun xs l=>l=vint (xs.length:Int)++xs.flatMap encDf∧(xs.length≤20∧∀ x∈xs,okDf x)):=by
 have h:=list_rds (α:=T1) (L:=fun x1=>z136_28_l2 N x1) hN (rd_diff hN) 20 (by omega) (rd_bounded (N:=N) (by omega) 0 ((20:Nat):Int))
  (by intro x1 n b a fl acc i h;rw [z136_28_l2,h,cond_false];rfl)
  (by intro x1 n b a fl acc i h;rw [z136_28_l2,h,cT])
  (f:=fun r=>z136_28 N r (20:Int)) (by intro r;rfl)
 refine h.congr ?_
 intro xs l
 constructor
 ·rintro ⟨h1,l2,rfl,h2⟩
  obtain ⟨rfl,h3⟩:=(encL_iff _ _ xs l2).mp h2
  exact ⟨rfl,h1,h3⟩
 ·rintro ⟨rfl,h1,h3⟩
  exact ⟨h1,_,rfl,(encL_iff _ _ xs _).mpr ⟨rfl,h3⟩⟩
theorem rd_eqs (hN:100000 < N):Rds (fun r=>z138_29 N r (20:Int)) (fun xs l=>l=vint (xs.length:Int)++xs.flatMap encEq∧(xs.length≤20∧∀ x∈xs,okEq x)):=by
 have h:=list_rds (α:=Int × Int) (L:=fun x1=>z138_29_l2 N x1) hN (rd_equals hN) 20 (by omega) (rd_bounded (N:=N) (by omega) 0 ((20:Nat):Int))
  (by intro x1 n b a fl acc i h;rw [z138_29_l2,h,cond_false];rfl)
  (by intro x1 n b a fl acc i h;rw [z138_29_l2,h,cT])
  (f:=fun r=>z138_29 N r (20:Int)) (by intro r;rfl)
 refine h.congr ?_
 intro xs l
 constructor
 ·rintro ⟨h1,l2,rfl,h2⟩
  obtain ⟨rfl,h3⟩:=(encL_iff _ _ xs l2).mp h2
  exact ⟨rfl,h1,h3⟩
 ·rintro ⟨rfl,h1,h3⟩
  exact ⟨h1,_,rfl,(encL_iff _ _ xs _).mpr ⟨rfl,h3⟩⟩
theorem rd_role (hN:100000 < N):Rds (z95 N) (fun s l=>l=encT s∧okT' s):=by
 have h:=rd_text (N:=N) (by omega) 16 (by omega)
 have e:z95 N=fun r=>z93 N r ((16:Nat):Int):=by
  funext r
  show (z93 N r (16:Int)).bind (fun x=>some (x.1,x.2))=z93 N r (16:Int)
  cases z93 N r (16:Int)<;>rfl
 rw [e]
 exact h
theorem rd_roles (hN:100000 < N):Rds (fun r=>z94_25 N r (6:Int)) (fun xs l=>l=vint (xs.length:Int)++xs.flatMap encT∧(xs.length≤6∧∀ x∈xs,okT' x)):=by
 have h:=list_rds (α:=ByteArray) (L:=fun x1=>z94_25_l2 N x1) hN (rd_role hN) 6 (by omega) (rd_bounded (N:=N) (by omega) 0 ((6:Nat):Int))
  (by intro x1 n b a fl acc i h;rw [z94_25_l2,h,cond_false];rfl)
  (by intro x1 n b a fl acc i h;rw [z94_25_l2,h,cT])
  (f:=fun r=>z94_25 N r (6:Int)) (by intro r;rfl)
 refine h.congr ?_
 intro xs l
 constructor
 ·rintro ⟨h1,l2,rfl,h2⟩
  obtain ⟨rfl,h3⟩:=(encL_iff _ _ xs l2).mp h2
  exact ⟨rfl,h1,h3⟩
 ·rintro ⟨rfl,h1,h3⟩
  exact ⟨h1,_,rfl,(encL_iff _ _ xs _).mpr ⟨rfl,h3⟩⟩
theorem rd_edge (hN:100000 < N):Rds (z100 N) (fun y l=>l=encE y∧okEd y):=by
 have h:=((rd_int (N:=N) (by omega)).rds).bind fun a0=>((rd_int (N:=N) (by omega)).rds).bind fun a1=>((rd_int (N:=N) (by omega)).rds).bind fun a2=>((rd_int (N:=N) (by omega)).rds).bind fun a3=>((rd_int (N:=N) (by omega)).rds).bind fun a4=>(rd_bool (N:=N)).bind fun a5=>Rds.ret (⟨a0,⟨a1,a2,a3⟩,a4,a5⟩:T2)
 refine (show Rds (z100 N) _ from h).congr ?_
 intro y l
 constructor
 ·rintro ⟨a0,_,_,rfl,⟨rfl,h0⟩,a1,_,_,rfl,⟨rfl,h1⟩,a2,_,_,rfl,⟨rfl,h2⟩,a3,_,_,rfl,⟨rfl,h3⟩,a4,_,_,rfl,⟨rfl,h4⟩,a5,_,_,rfl,rfl,rfl,rfl⟩
  exact ⟨by simp [encE,encI],h0,h1,h2,h3,h4⟩
 ·rintro ⟨rfl,h0,h1,h2,h3,h4⟩
  exact ⟨y.From,vint y.From,vint y.Act.From++(vint y.Act.To++(vint y.Act.Label++(vint y.To++([if y.Again then 1 else 0]++[])))),by simp [encE,encI],⟨rfl,h0⟩,y.Act.From,vint y.Act.From,_,rfl,⟨rfl,h1⟩,y.Act.To,vint y.Act.To,_,rfl,⟨rfl,h2⟩,y.Act.Label,vint y.Act.Label,_,rfl,⟨rfl,h3⟩,y.To,vint y.To,_,rfl,⟨rfl,h4⟩,y.Again,[if y.Again then 1 else 0],[],rfl,rfl,rfl,rfl⟩
theorem rd_decl (hN:100000 < N):Rds (z97 N) (fun y l=>l=encD y∧okD y):=by
 have h:=(rd_text (N:=N) (by omega) 50 (by omega)).bind fun a0=>(rd_fields hN).bind fun a1=>((rd_int (N:=N) (by omega)).rds).bind fun a2=>(rd_diffs hN).bind fun a3=>(rd_eqs hN).bind fun a4=>Rds.ret (⟨a0,a1,a2,⟨a3,a4⟩⟩:T0)
 refine (show Rds (z97 N) _ from h).congr ?_
 intro y l
 constructor
 ·rintro ⟨a0,_,_,rfl,⟨rfl,h0⟩,a1,_,_,rfl,⟨rfl,h1⟩,a2,_,_,rfl,⟨rfl,h2⟩,a3,_,_,rfl,⟨rfl,h3⟩,a4,_,_,rfl,⟨rfl,h4⟩,rfl,rfl⟩
  exact ⟨by simp [encD,encI],h0,h1,h2,h3,h4⟩
 ·rintro ⟨rfl,h0,h1,h2,h3,h4⟩
  exact ⟨y.Name,encT y.Name,(vint (y.Fields.length:Int)++y.Fields.flatMap encF)++(vint y.First++((vint (y.Guard.Diffs.length:Int)++y.Guard.Diffs.flatMap encDf)++((vint (y.Guard.Equals.length:Int)++y.Guard.Equals.flatMap encEq)++([])))),by simp [encD,encI],⟨rfl,h0⟩,y.Fields,(vint (y.Fields.length:Int)++y.Fields.flatMap encF),vint y.First++((vint (y.Guard.Diffs.length:Int)++y.Guard.Diffs.flatMap encDf)++((vint (y.Guard.Equals.length:Int)++y.Guard.Equals.flatMap encEq)++([]))),rfl,⟨rfl,h1⟩,y.First,vint y.First,(vint (y.Guard.Diffs.length:Int)++y.Guard.Diffs.flatMap encDf)++((vint (y.Guard.Equals.length:Int)++y.Guard.Equals.flatMap encEq)++([])),rfl,⟨rfl,h2⟩,y.Guard.Diffs,(vint (y.Guard.Diffs.length:Int)++y.Guard.Diffs.flatMap encDf),(vint (y.Guard.Equals.length:Int)++y.Guard.Equals.flatMap encEq)++([]),rfl,⟨rfl,h3⟩,y.Guard.Equals,(vint (y.Guard.Equals.length:Int)++y.Guard.Equals.flatMap encEq),[],rfl,⟨rfl,h4⟩,rfl,rfl⟩
theorem rd_decls (hN:100000 < N):Rds (fun r=>z96_30 N r (40:Int)) (fun xs l=>l=vint (xs.length:Int)++xs.flatMap encD∧(xs.length≤40∧∀ x∈xs,okD x)):=by
 have h:=list_rds (α:=T0) (L:=fun x1=>z96_30_l2 N x1) hN (rd_decl hN) 40 (by omega) (rd_bounded (N:=N) (by omega) 0 ((40:Nat):Int))
  (by intro x1 n b a fl acc i h;rw [z96_30_l2,h,cond_false];rfl)
  (by intro x1 n b a fl acc i h;rw [z96_30_l2,h,cT])
  (f:=fun r=>z96_30 N r (40:Int)) (by intro r;rfl)
 refine h.congr ?_
 intro xs l
 constructor
 ·rintro ⟨h1,l2,rfl,h2⟩
  obtain ⟨rfl,h3⟩:=(encL_iff _ _ xs l2).mp h2
  exact ⟨rfl,h1,h3⟩
 ·rintro ⟨rfl,h1,h3⟩
  exact ⟨h1,_,rfl,(encL_iff _ _ xs _).mpr ⟨rfl,h3⟩⟩
theorem rd_edges (hN:100000 < N):Rds (fun r=>z99_32 N r (400:Int)) (fun xs l=>l=vint (xs.length:Int)++xs.flatMap encE∧(xs.length≤400∧∀ x∈xs,okEd x)):=by
 have h:=list_rds (α:=T2) (L:=fun x1=>z99_32_l2 N x1) hN (rd_edge hN) 400 (by omega) (rd_bounded (N:=N) (by omega) 0 ((400:Nat):Int))
  (by intro x1 n b a fl acc i h;rw [z99_32_l2,h,cond_false];rfl)
  (by intro x1 n b a fl acc i h;rw [z99_32_l2,h,cT])
  (f:=fun r=>z99_32 N r (400:Int)) (by intro r;rfl)
 refine h.congr ?_
 intro xs l
 constructor
 ·rintro ⟨h1,l2,rfl,h2⟩
  obtain ⟨rfl,h3⟩:=(encL_iff _ _ xs l2).mp h2
  exact ⟨rfl,h1,h3⟩
 ·rintro ⟨rfl,h1,h3⟩
  exact ⟨h1,_,rfl,(encL_iff _ _ xs _).mpr ⟨rfl,h3⟩⟩
theorem rd_times (hN:100000 < N):Rds (fun r=>z101_33 N r (200:Int)) (fun xs l=>l=vint (xs.length:Int)++xs.flatMap encTm∧(xs.length≤200∧∀ x∈xs,okTm x)):=by
 have h:=list_rds (α:=T8) (L:=fun x1=>z101_33_l2 N x1) hN (rd_timeout hN) 200 (by omega) (rd_bounded (N:=N) (by omega) 0 ((200:Nat):Int))
  (by intro x1 n b a fl acc i h;rw [z101_33_l2,h,cond_false];rfl)
  (by intro x1 n b a fl acc i h;rw [z101_33_l2,h,cT])
  (f:=fun r=>z101_33 N r (200:Int)) (by intro r;rfl)
 refine h.congr ?_
 intro xs l
 constructor
 ·rintro ⟨h1,l2,rfl,h2⟩
  obtain ⟨rfl,h3⟩:=(encL_iff _ _ xs l2).mp h2
  exact ⟨rfl,h1,h3⟩
 ·rintro ⟨rfl,h1,h3⟩
  exact ⟨h1,_,rfl,(encL_iff _ _ xs _).mpr ⟨rfl,h3⟩⟩
def decR (N:Nat) (r:Rdr):Option (T4 × Rdr) :=
 (z93 N r (16:Int)).bind fun x2=>(z94_25 N x2.2 (6:Int)).bind fun x3=>(z96_30 N x3.2 (40:Int)).bind fun x4 =>
 (z98 N x4.2).bind fun x5=>(z98 N x5.2).bind fun x6=>(z98 N x6.2).bind fun x7=>(z99_32 N x7.2 (400:Int)).bind fun x8 =>
 (z101_33 N x8.2 (200:Int)).bind fun x9=>some (⟨x2.1,x3.1,x4.1,x5.1,x6.1,x7.1,x8.1,x9.1⟩,x9.2)
theorem rd_global (hN:100000 < N):Rds (decR N) (fun y l=>l=encG y∧okG y):=by
 have h:=(rd_text (N:=N) (by omega) 16 (by omega)).bind fun a0=>(rd_roles hN).bind fun a1=>(rd_decls hN).bind fun a2=>((rd_int (N:=N) (by omega)).rds).bind fun a3=>((rd_int (N:=N) (by omega)).rds).bind fun a4=>((rd_int (N:=N) (by omega)).rds).bind fun a5=>(rd_edges hN).bind fun a6=>(rd_times hN).bind fun a7=>Rds.ret (⟨a0,a1,a2,a3,a4,a5,a6,a7⟩:T4)
 refine (show Rds (decR N) _ from h).congr ?_
 intro y l
 constructor
 ·rintro ⟨a0,_,_,rfl,⟨rfl,h0⟩,a1,_,_,rfl,⟨rfl,h1⟩,a2,_,_,rfl,⟨rfl,h2⟩,a3,_,_,rfl,⟨rfl,h3⟩,a4,_,_,rfl,⟨rfl,h4⟩,a5,_,_,rfl,⟨rfl,h5⟩,a6,_,_,rfl,⟨rfl,h6⟩,a7,_,_,rfl,⟨rfl,h7⟩,rfl,rfl⟩
  exact ⟨by simp [encG,encI],h0,h1,h2,h3,h4,h5,h6,h7⟩
 ·rintro ⟨rfl,h0,h1,h2,h3,h4,h5,h6,h7⟩
  exact ⟨y.Name,encT y.Name,(vint (y.Roles.length:Int)++y.Roles.flatMap encT)++((vint (y.Decls.length:Int)++y.Decls.flatMap encD)++(vint y.States++(vint y.Start++(vint y.End++((vint (y.Edges.length:Int)++y.Edges.flatMap encE)++((vint (y.Timeouts.length:Int)++y.Timeouts.flatMap encTm)++([]))))))),by simp [encG,encI],⟨rfl,h0⟩,y.Roles,(vint (y.Roles.length:Int)++y.Roles.flatMap encT),(vint (y.Decls.length:Int)++y.Decls.flatMap encD)++(vint y.States++(vint y.Start++(vint y.End++((vint (y.Edges.length:Int)++y.Edges.flatMap encE)++((vint (y.Timeouts.length:Int)++y.Timeouts.flatMap encTm)++([])))))),rfl,⟨rfl,h1⟩,y.Decls,(vint (y.Decls.length:Int)++y.Decls.flatMap encD),vint y.States++(vint y.Start++(vint y.End++((vint (y.Edges.length:Int)++y.Edges.flatMap encE)++((vint (y.Timeouts.length:Int)++y.Timeouts.flatMap encTm)++([]))))),rfl,⟨rfl,h2⟩,y.States,vint y.States,vint y.Start++(vint y.End++((vint (y.Edges.length:Int)++y.Edges.flatMap encE)++((vint (y.Timeouts.length:Int)++y.Timeouts.flatMap encTm)++([])))),rfl,⟨rfl,h3⟩,y.Start,vint y.Start,vint y.End++((vint (y.Edges.length:Int)++y.Edges.flatMap encE)++((vint (y.Timeouts.length:Int)++y.Timeouts.flatMap encTm)++([]))),rfl,⟨rfl,h4⟩,y.End,vint y.End,(vint (y.Edges.length:Int)++y.Edges.flatMap encE)++((vint (y.Timeouts.length:Int)++y.Timeouts.flatMap encTm)++([])),rfl,⟨rfl,h5⟩,y.Edges,(vint (y.Edges.length:Int)++y.Edges.flatMap encE),(vint (y.Timeouts.length:Int)++y.Timeouts.flatMap encTm)++([]),rfl,⟨rfl,h6⟩,y.Timeouts,(vint (y.Timeouts.length:Int)++y.Timeouts.flatMap encTm),[],rfl,⟨rfl,h7⟩,rfl,rfl⟩
end Gp
end
section
namespace Gp
open Go Go.Kx Gx
variable {N:Nat}
theorem vu_byt:∀ (m u:Nat),u < 128 ^ (m+1)→∀ c∈vu m u,0≤c∧c < 256
 | 0,u,h,c,hc=>by
  have h:u < 128:=by simpa using h
  simp [vu] at hc;subst hc;omega
 | m+1,u,h,c,hc=>by
  unfold vu at hc
  split at hc
  ·simp at hc;subst hc;omega
  ·rcases List.mem_cons.mp hc with hc | hc
   ·subst hc;omega
   ·exact vu_byt m (u / 128) (by rw [Nat.pow_succ] at h;omega) c hc
theorem vint_byt (n:Int):∀ c∈vint n,0≤c∧c < 256:=by
 have h1:=zig_lt n
 have h2:(128:Nat) ^ (9+1)=1180591620717411303424:=by decide
 exact vu_byt 9 (zig n) (by omega)
theorem flat_byt {α:Type} (e:α→List Int):∀ (l:List α),(∀ x∈l,∀ c∈e x,0≤c∧c < 256)→∀ c∈l.flatMap e,0≤c∧c < 256:=by
 intro l h c hc
 obtain ⟨x,hx,hcx⟩:=List.mem_flatMap.mp hc
 exact h x hx c hcx
theorem app_byt {a b:List Int} (ha:∀ c∈a,0≤c∧c < 256) (hb:∀ c∈b,0≤c∧c < 256):∀ c∈a++b,0≤c∧c < 256:=by
 intro c hc
 rcases List.mem_append.mp hc with h | h
 ·exact ha c h
 ·exact hb c h
theorem encI_byt (l:List Int):∀ c∈encI l,0≤c∧c < 256:=flat_byt vint l (fun x _=>vint_byt x)
theorem encT_byt (s:ByteArray):∀ c∈encT s,0≤c∧c < 256:=app_byt (vint_byt _) (bytesL_rng s)
theorem encE_byt (x:T2):∀ c∈encE x,0≤c∧c < 256:=by
 refine app_byt (encI_byt _) ?_
 intro c hc
 cases h:x.Again<;>simp [h] at hc<;>subst hc<;>omega
theorem encD_byt (d:T0):∀ c∈encD d,0≤c∧c < 256 :=
 app_byt (encT_byt _) (app_byt (vint_byt _) (app_byt (flat_byt _ _ fun f _=>app_byt (encT_byt _) (encI_byt _)) (app_byt (encI_byt _) (app_byt (flat_byt _ _ fun x _=>encI_byt _) (app_byt (vint_byt _) (flat_byt _ _ fun x _=>encI_byt _))))))
theorem encG_byt (g:T4):∀ c∈encG g,0≤c∧c < 256 :=
 app_byt (encT_byt _) (app_byt (vint_byt _) (app_byt (flat_byt _ _ fun s _=>encT_byt s) (app_byt (vint_byt _) (app_byt (flat_byt _ _ fun d _=>encD_byt d) (app_byt (encI_byt _) (app_byt (flat_byt _ _ fun x _=>encE_byt x) (app_byt (vint_byt _) (flat_byt _ _ fun t _=>encI_byt _))))))))
theorem okG.sizeG {g:T4} (h:okG g):SizeG g:=by
 obtain ⟨h1,⟨h2,h3⟩,⟨h4,h5⟩,_,_,_,⟨h6,h7⟩,h8,h9⟩:=h
 exact ⟨by omega,by omega,fun d hd=>by
  obtain ⟨_,⟨a,_⟩,_,⟨b,_⟩,c,_⟩:=h5 d hd
  exact ⟨by omega,by omega,by omega⟩,by omega,by omega⟩
theorem okG.sizeN {g:T4} (h:okG g):SizeN g:=by
 obtain ⟨h1,⟨h2,h3⟩,⟨h4,h5⟩,_⟩:=h
 exact ⟨by omega,fun s hs=>by have:=h3 s hs;unfold okT' at this;omega,fun d hd=>by
  obtain ⟨a,⟨_,b⟩,_⟩:=h5 d hd
  exact ⟨by omega,fun f hf=>by have:=(b f hf).1;omega⟩⟩
theorem okG.numE {g:T4} (h:okG g):NumE g:=by
 obtain ⟨_,_,_,_,_,_,⟨_,h7⟩,_⟩:=h
 intro x hx
 obtain ⟨_,_,a,b,_⟩:=h7 x hx
 exact ⟨a,b⟩
def noG:T4:=⟨str [],[],[],0,0,0,[],[]⟩
theorem decode_as (b:List Int) (hb:b.length≤1000000):z41 N b=(decR N ⟨b,0,false⟩).bind fun q=>(z103 N q.2).bind fun x=>bif (x != (0:Int)) then some (noG,(4:Int)) else (z22 N q.1).bind fun v=>bif (!v) then some (noG,(4:Int)) else some (q.1,(0:Int)):=by
 unfold z41 z92
 rw [appL_some (by simp;omega)]
 simp only [bS,List.nil_append,decR,Option.bind_assoc]
 rfl
theorem decode_eq (hN:4194304 < N) (b:List Int) (hb:Byt b):∃ r,z41 N b=some r∧((r.2=4∧r.1=noG)∨(r.2=0∧b=encG r.1∧okG r.1∧ValidG r.1∧z22 N r.1=some true)):=by
 rw [decode_as b hb.1]
 have hr:=rd_global (N:=N) (by omega)
 rcases hr.run b 0 hb (by omega) with ⟨x,a,h⟩ | ⟨g,l,rest,h1,⟨h2,h3⟩,h4⟩
 ·rw [show ((0:Nat):Int)=0 from rfl] at h
  rw [h]
  exact ⟨(noG,4),rfl,.inl ⟨rfl,rfl⟩⟩
 ·rw [show ((0:Nat):Int)=0 from rfl] at h4
  rw [h4]
  have hl:=congrArg List.length h1
  have h1':=hb.1
  simp only [List.length_drop,List.length_append,Nat.sub_zero] at hl
  simp only [bS,z103,z143,cond_false]
  rw [w64_id (by omega) (by omega)]
  by_cases hrest:rest=[]
  ·subst hrest
   have hle:decide ((b.length:Int)-((0+l.length:Nat):Int) > 0)=false:=dF (by simp at hl;omega)
   rw [hle]
   obtain ⟨v,v1,v2,v3⟩:=Valid_both (N:=N) hN g h3.sizeG h3.sizeN h3.numE
   simp only [cond_false,bS,show ((0:Int) != 0)=false from rfl,v1]
   cases v
   ·exact ⟨(noG,4),rfl,.inl ⟨rfl,rfl⟩⟩
   ·refine ⟨(g,0),rfl,.inr ⟨rfl,?_,h3,v3.mp rfl,v1⟩⟩
    rw [List.drop_zero,List.append_nil] at h1
    rw [h1,h2]
  ·have:0 < rest.length:=List.length_pos_iff.mpr hrest
   have hle:decide ((b.length:Int)-((0+l.length:Nat):Int) > 0)=true:=dT (by omega)
   rw [hle]
   exact ⟨(noG,4),rfl,.inl ⟨rfl,rfl⟩⟩
theorem decode_enc (hN:4194304 < N) (g:T4) (hg:okG g) (hv:ValidG g):z41 N (encG g)=some (g,0):=by
 have hlen:=encG_len hv
 have hb:Byt (encG g):=⟨by omega,encG_byt g⟩
 rw [decode_as _ hb.1]
 have hr:=rd_global (N:=N) (by omega)
 have h4:=hr.full (encG g) 0 g (encG g) [] hb (by omega) (by simp) ⟨rfl,hg⟩
 rw [show ((0:Nat):Int)=0 from rfl] at h4
 rw [h4]
 simp only [bS,z103,z143,cond_false]
 rw [w64_id (by omega) (by omega),show decide (((encG g).length:Int)-((0+(encG g).length:Nat):Int) > 0)=false from dF (by omega)]
 obtain ⟨v,v1,v2,v3⟩:=Valid_both (N:=N) hN g hg.sizeG hg.sizeN hg.numE
 have hv1:=v3.mpr hv
 subst hv1
 simp only [cond_false,bS,show ((0:Int) != 0)=false from rfl,v1,Bool.not_true]
end Gp
end
