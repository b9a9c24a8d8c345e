/- The plain law, part 2: what the functions compute answers as the statement says. -/
import Derived.Test.YtdlhgdfjpilcjaaGreatDoorExplainAllPlain1
set_option linter.all false
section
namespace Gp
open Go Go.Kx Gx
variable {N:Nat}
theorem find_some {A:Type} (p:A→Bool) {xs:List A} {F:Nat→Int→Option Int} (h1:∀ n k x,k < xs.length→xs[k]? = some x→F (n+1) (k:Int)=bif p x then some (k:Int) else F n ((k+1:Nat):Int))
  (h2:∀ n k,xs.length≤k→F (n+1) (k:Int)=some (-1)):∀ (d n k:Nat),xs.length-k=d→d < n→∃ z,F n (k:Int)=some z∧((z=-1∧∀ (i:Nat) x,k≤i→xs[i]? = some x→p x=false)∨∃ (i:Nat) (x:A),z=(i:Int)∧xs[i]? = some x∧p x=true):=by
 intro d
 induction d with
 | zero =>
  intro n k hd hn
  obtain ⟨n,rfl⟩:∃ q,n=q+1:=⟨n-1,by omega⟩
  exact ⟨-1,h2 n k (by omega),.inl ⟨rfl,fun i x hi hx=>by have:=(List.getElem?_eq_some_iff.1 hx).1;omega⟩⟩
 | succ d ih =>
  intro n k hd hn
  obtain ⟨n,rfl⟩:∃ q,n=q+1:=⟨n-1,by omega⟩
  have hk:k < xs.length:=by omega
  have hx:=List.getElem?_eq_getElem hk
  rw [h1 n k _ hk hx]
  cases hp:p xs[k] with
  | true=>exact ⟨_,rfl,.inr ⟨k,_,rfl,hx,hp⟩⟩
  | false =>
   obtain ⟨z,e,h⟩:=ih n (k+1) (by omega) (by omega)
   refine ⟨z,e,h.imp (fun ⟨a,b⟩=>⟨a,fun i x hi hx'=>?_⟩) id⟩
   by_cases e:i=k
   ·subst e;rw [hx] at hx';cases hx';exact hp
   ·exact b i x (by omega) hx'
theorem mfields_eq (hN:4194304 < N) (g:T5) (hv:validD g.Decls=true):z61 N g=some (flat g.Decls):=by
  unfold validD at hv
  simp only [Bool.and_eq_true,decide_eq_true_eq] at hv
  obtain ⟨v1,v2,_⟩:=hv
  have key:∀ (r:List T0) (n k:Nat) (acc:List T4),g.Decls.drop k=r→r.length < n→acc.length+(flat r).length≤24→z61_l2 g n acc (k:Int)=some (acc++flat r):=by
    intro r
    induction r with
    | nil =>
      intro n k acc hr hn _
      obtain ⟨n,rfl⟩:∃ q,n=q+1:=⟨n-1,by simp at hn;omega⟩
      rw [z61_l2,lt_f (List.drop_eq_nil_iff.1 hr)]
      simp [z61_k1,flat]
    | cons x r ih =>
      intro n k acc hr hn hl
      obtain ⟨n,rfl⟩:∃ q,n=q+1:=⟨n-1,by simp at hn;omega⟩
      have hk:k < g.Decls.length:=by
        refine Nat.not_le.1 fun h=>?_
        rw [List.drop_eq_nil_iff.2 h] at hr;cases hr
      have hx:g.Decls[k]? = some x:=by
        have:=congrArg (·[0]?) hr
        simpa using this
      rw [flat_cons,lA] at hl
      rw [z61_l2,lt_t hk,idx_nat,hx,w64_succ (by omega)]
      simp only [cT,bS]
      rw [appL_some (by omega)]
      simp only [bS]
      rw [ih n (k+1) (acc++x.Fields) (by have:=congrArg (List.drop 1) hr;simpa [List.drop_drop,Nat.add_comm] using this) (by simp at hn;omega) (by rw [lA];omega),flat_cons,aA]
  exact key g.Decls N 0 [] rfl (by omega) (by simpa using v2)
structure AgrM (g:T5) (m:T8):Prop where
 v:validD g.Decls=true
 n:NumM m
 l:∀ x∈m.Moves,x.Label < (g.Decls.length:Int)
theorem agree_some (hN:4194304 < N) (g:T5) (hg:SizeG g) (hs:SizeN g) (m:T8) (ht:m.Timeouts.length≤4194304):∃ b,z60 N g m=some b∧(b=true→AgrM g m):=by
 unfold z60
 obtain ⟨b1,e1,h1⟩:=gValid_some hN g hg hs
 obtain ⟨b2,e2,h2⟩:=mValid_some hN m ht
 rw [e1,e2]
 simp only [bS]
 cases b1 with
 | false=>exact ⟨false,rfl,fun h=>by cases h⟩
 | true =>
 cases b2 with
 | false=>exact ⟨false,rfl,fun h=>by cases h⟩
 | true =>
 have hm:=h2 rfl
 have hn:=hm.n
 simp only [cT]
 cases decide (m.Role < (g.Roles.length:Int)) with
 | false=>exact ⟨false,rfl,fun h=>by cases h⟩
 | true =>
 simp only [cT]
 unfold z135_11 z92_10
 have ep:∀ y,z132_9 N y g=some (decide (y.Peer≥(g.Roles.length:Int)) || decide (y.Label≥(g.Decls.length:Int))):=fun y=>by
  unfold z132_9
  cases decide (y.Peer≥(g.Roles.length:Int))<;>rfl
 obtain ⟨z,ez,hz⟩:=find_some (fun (y:T9)=>decide (y.Peer≥(g.Roles.length:Int)) || decide (y.Label≥(g.Decls.length:Int))) (xs:=m.Moves) (F:=z92_10_l2 N m.Moves g) (fun n k x hk hx=>by
  rw [z92_10_l2,lt_t hk,idx_nat,hx,w64_succ (by omega)]
  simp only [cT,bS,ep]) (fun n k hk=>by
  rw [z92_10_l2,lt_f hk];rfl) _ N 0 rfl (by omega)
 rw [show ((0:Nat):Int)=0 from rfl] at ez
 rw [ez]
 simp only [bS]
 refine ⟨_,rfl,fun h=>⟨h1 rfl,hm,fun x hx=>?_⟩⟩
 rcases hz with ⟨_,hz⟩ | ⟨i,y,rfl,_,_⟩
 ·obtain ⟨i,hi⟩:=List.getElem?_of_mem hx
  have:=hz i x (Nat.zero_le _) hi
  simp only [Bool.or_eq_false_iff,decide_eq_false_iff_not] at this
  omega
 ·simp at h
structure StM (g:T5) (m:T8) (s:T16):Prop where
 a0:0≤s.At
 a1:s.At < m.States
 k:KnownL (flat g.Decls) s.Known
 p:s.Pending.length≤4194304
theorem zero_size {v:T12} (h:zeroV v=true):v.S.size=0:=by
 unfold zeroV at h
 simp only [Bool.and_eq_true] at h
 have h:=beq_iff_eq.1 h.2.2.1
 rw [toList_bs,toList_bs,bs_nil] at h
 rw [size_bs,h];rfl
theorem known_size {fs:List T4} {ks:List T12} (h:KnownL fs ks):∀ v∈ks,v.S.size≤4194304:=fun v hv=>by
 obtain ⟨i,hi⟩:=List.getElem?_of_mem hv
 have hl:=(List.getElem?_eq_some_iff.1 hi).1
 have:=h.2 i _ v (List.getElem?_eq_getElem (by rw [h.1];exact hl)) hi
 rw [Bool.or_eq_true] at this
 rcases this with h | h
 ·have:=zero_size h;omega
 ·have:=vfit_size h;omega
theorem valid_len {l:List T0} (h:validD l=true):l.length≤40∧(flat l).length≤24:=by
 unfold validD at h
 simp only [Bool.and_eq_true,decide_eq_true_eq] at h
 exact ⟨h.1,h.2.1⟩
theorem fits_some (hN:4194304 < N) (g:T5) (hg:SizeG g) (hs:SizeN g) (m:T8) (ht:m.Timeouts.length≤4194304) (s:T16) (hk:s.Known.length≤4194304) (hv:∀ v∈s.Known,v.S.size≤4194304) :
  ∃ b,z46 N g m s=some b∧(b=true→AgrM g m)∧(∀ _:z60 N g m=some true,StM g m s→b=true):=by
 unfold z46
 obtain ⟨b,e,h⟩:=agree_some hN g hg hs m ht
 rw [e]
 simp only [bS]
 cases b with
 | false=>exact ⟨false,rfl,(fun h=>by cases h),(fun h=>by cases h)⟩
 | true =>
 have hA:=h rfl
 rw [mfields_eq hN g hA.v]
 obtain ⟨b,eb,hb⟩:=known_eq hN (flat g.Decls) s.Known hk hv
 simp only [cT,bS,eb]
 cases c1:decide (s.At≥0) with
 | false=>exact ⟨false,rfl,(fun h=>by cases h),fun _ h=>by have:=h.a0;simp at c1;omega⟩
 | true =>
 cases c2:decide (s.At < m.States) with
 | false=>exact ⟨false,rfl,(fun h=>by cases h),fun _ h=>by have:=h.a1;simp at c2;omega⟩
 | true=>exact ⟨b,rfl,fun _=>hA,fun _ h=>hb.2 h.k⟩
end Gp
end
section
namespace Gp
open Go Go.Kx Gx
variable {N:Nat}
structure SizeE (x:T3):Prop where
 l:x.Values.length≤4194304
 s:∀ v∈x.Values,v.S.size≤4194304
end Gp
end
section
namespace Gp
open Go Go.Kx Gx
variable {N:Nat}
section
variable (f:T16→T3→T16 × Int)
end
structure Ctx0 (N:Nat) (g:T5) (m:T8):Prop where
 hN:4194304 < N
 gg:SizeG g
 ss:SizeN g
 t:m.Timeouts.length≤4194304
 a:AgrM g m
 e:z60 N g m=some true
variable {g:T5} {m:T8}
theorem stM_known (c:Ctx0 N g m) {s:T16} (hS:StM g m s):s.Known.length≤4194304:=by
 have:=valid_len c.a.v
 rw [← hS.k.1];omega
theorem fits_true (c:Ctx0 N g m) {s:T16} (hS:StM g m s):z46 N g m s=some true:=by
 obtain ⟨b,e,_,h⟩:=fits_some c.hN g c.gg c.ss m c.t s (stM_known c hS) (known_size hS.k)
 have:=h c.e hS
 rw [e,this]
def newV (g:T5) (m:T8):T16:=⟨m.Start,List.replicate (flat g.Decls).length ⟨0,0,str []⟩,[]⟩
theorem New_eq (c:Ctx0 N g m):z24 N g m=some (newV g m):=by
 unfold z24
 rw [c.e,mfields_eq c.hN g c.a.v]
 have hl:=(valid_len c.a.v).2
 have e:mkL (⟨0,0,str []⟩:T12) ((flat g.Decls).length:Int) ((flat g.Decls).length:Int)=some (List.replicate (flat g.Decls).length ⟨0,0,str []⟩):=by
  unfold mkL
  rw [dT (by omega:(0:Int)≤((flat g.Decls).length:Int)),dT (Int.le_refl _),dT (by omega:((flat g.Decls).length:Int)≤4294967296)];rfl
 simp only [bS,Bool.not_true,cond_false,e]
 rfl
theorem new_st (c:Ctx0 N g m):StM g m (newV g m):=by
 refine ⟨c.a.n.b0,c.a.n.b1,⟨by simp [newV],fun i f v _ h=>?_⟩,by simp [newV]⟩
 have h:(List.replicate (flat g.Decls).length (⟨0,0,str []⟩:T12))[i]? = some v:=h
 rw [List.eq_of_mem_replicate (List.mem_of_getElem? h)]
 have e:zeroV ⟨0,0,str []⟩=true:=by kernel_rfl
 rw [e];rfl
theorem few15 (hN:4194304 < N) (l:List T12) (hl:l.length≤4194304):∃ b,z63 N l=some b:=by
 refine tot_from (F:=z63_l2 l) (len:=l.length) (fun n k hk hi=>?_) (fun n k hk=>?_) _ N 0 rfl (by omega)
 ·rw [z63_l2,lt_t hk,idx_nat,List.getElem?_eq_getElem hk,w64_succ (by omega)]
  simp only [cT,bS]
  exact tot_bif (fun _=>tot_some _) fun _=>hi
 ·rw [z63_l2,lt_f hk]
  exact tot_some _
theorem few40 (hN:4194304 < N) (l:List T3) (hl:l.length≤4194304) (he:∀ x∈l,SizeE x):∃ b,z29 N l=some b:=by
 refine tot_from (F:=z29_l2 N l) (len:=l.length) (fun n k hk hi=>?_) (fun n k hk=>?_) _ N 0 rfl (by omega)
 ·rw [z29_l2,lt_t hk,idx_nat,List.getElem?_eq_getElem hk,w64_succ (by omega)]
  obtain ⟨b,eb⟩:=few15 hN _ (he _ (List.getElem_mem hk)).l
  simp only [cT,bS,eb]
  exact tot_bif (fun _=>tot_some _) fun _=>hi
 ·rw [z29_l2,lt_f hk]
  exact tot_some _
theorem few_tot (hN:4194304 < N) (g:T5) (hg:SizeG g) (m:T8) (l:List T3) (hl:l.length≤4194304) (he:∀ x∈l,SizeE x):∃ b,z9 N g m l=some b:=by
 unfold z9 z27 z28 z62
 obtain ⟨b1,e1,_⟩:=few_loop g.Decls hg.d g.Decls N 0 0 rfl (by have:=hg.d;omega)
 rw [show ((0:Nat):Int)=0 from rfl] at e1
 obtain ⟨b2,e2⟩:=few40 hN l hl he
 rw [e1,e2]
 simp only [bS]
 cases decide (g.States≤40)<;>cases decide ((g.Edges.length:Int)≤80)<;>cases decide ((g.Timeouts.length:Int)≤40)<;>cases decide ((g.Roles.length:Int)≤10)<;>cases b1 <;>
  cases decide (m.States≤40)<;>cases decide ((m.Finals.length:Int)≤45)<;>cases decide ((m.Moves.length:Int)≤80)<;>cases decide ((m.Timeouts.length:Int)≤45)<;>exact ⟨_,rfl⟩
end Gp
end
section
namespace Gp
open Go Go.Kx Gx
variable {N:Nat}
theorem refNum_eq (hN:4194304 < N) (m:T8):ref26_numbers N m=some (numM m):=by
 unfold ref26_numbers numM stM
 have ge:∀ a:Int,decide (a≥0) = !decide (a < 0):=fun a=>by by_cases h:a < 0<;>simp [h]<;>omega
 have lt:∀ a b:Int,decide (a < b) = !decide (a≥b):=fun a b=>by by_cases h:a < b<;>simp [h]<;>omega
 rw [ge m.Start,lt m.Start m.States]
 cases decide (m.Role < 0)
 case true=>rfl
 cases decide (m.Role≥6)
 case true=>rfl
 cases decide (m.States < 1)
 case true=>rfl
 cases decide (m.States > 200)
 case true=>rfl
 cases decide (m.Start < 0)
 case true=>rfl
 cases decide (m.Start≥m.States)
 case true=>rfl
 cases ((m.Finals.length:Int) != m.States)
 case true=>rfl
 cases h:decide ((m.Moves.length:Int) > 400)
 case true=>rfl
 simp only [decide_eq_false_iff_not] at h
 have:=allV_from (fun (x:T9) _=>moveM m x) (xs:=m.Moves) (F:=ref26_numbers_l2 m) (e:=some true) (n:=N) (by omega) (by
  intro n k x hk hx
  rw [ref26_numbers_l2,lt_t hk,w64_succ (by omega)]
  simp only [cT,idx_nat,hx,bS]
  unfold moveM stM
  rw [ge x.From,ge x.To,lt x.From m.States,lt x.To m.States]
  cases decide (x.From < 0)
  case true=>rfl
  cases decide (x.From≥m.States)
  case true=>rfl
  cases decide (x.To < 0)
  case true=>rfl
  cases decide (x.To≥m.States)
  case true=>rfl
  cases decide (x.Peer < 0)
  case true=>rfl
  cases decide (x.Peer≥6)
  case true=>rfl
  cases (x.Peer==m.Role)
  case true=>rfl
  cases decide (x.Label < 0)
  case true=>rfl
  cases decide (x.Label≥40)<;>rfl) (by
  intro n k hk
  rw [ref26_numbers_l2,lt_f hk]
  rfl)
 show ref26_numbers_l2 m N 0=_
 rw [this]
 cases allV (fun (x:T9) _=>moveM m x) m.Moves 0<;>rfl
def timeM (m:T8) (x:T11) (k:Nat):Bool:=(decide (1≤x.Ticks) && (decide (x.Ticks≤1000) && (decide (0≤x.Else) && decide (x.Else < (m.Moves.length:Int))))) && (decide (k=0) || (match m.Timeouts[k-1]? with | some y=>decide (y.State < x.State) | none=>false)) &&
 (match idx m.Moves x.Else with | some y=>(y.From==x.State) && (y.Send && !y.Again) | none=>false)
theorem refTimed26_eq (hN:4194304 < N) (m:T8) (ht:m.Timeouts.length≤4194304):ref26_timed N m=some (allV (timeM m) m.Timeouts 0):=by
 unfold ref26_timed
 have:=allV_from (timeM m) (xs:=m.Timeouts) (F:=ref26_timed_l2 m) (e:=some true) (n:=N) (by omega) (by
  intro n k x hk hx
  rw [ref26_timed_l2,lt_t hk,idx_nat,hx]
  simp only [cT,bS]
  have k3:∀ b:Bool,(0≤x.Else∧x.Else < (m.Moves.length:Int))→ref26_timed_k3 m (k:Int) (ref26_timed_l2 m n) x b=bif (!b && (match idx m.Moves x.Else with | some y=>(y.From==x.State) && (y.Send && !y.Again) | none=>false)) then ref26_timed_l2 m n ((k+1:Nat):Int) else some false:=fun b ⟨h1,h2⟩=>by
   unfold ref26_timed_k3
   obtain ⟨y,hy⟩:=idx_lt (L:=m.Moves) h1 h2
   rw [hy,w64_succ (by omega)]
   simp only [bS]
   have e:(y.From != x.State) = !(y.From==x.State):=rfl
   rw [e]
   cases b<;>cases (y.From==x.State)<;>cases y.Send<;>cases y.Again<;>rfl
  have kt:ref26_timed_k3 m (k:Int) (ref26_timed_l2 m n) x true=some false:=rfl
  unfold timeM
  by_cases a1:x.Ticks < 1
  ·rw [dT a1,dF (by omega:¬ 1≤x.Ticks),kt];rfl
  by_cases a2:x.Ticks > 1000
  ·rw [dF a1,dT a2,dF (by omega:¬ x.Ticks≤1000),kt];simp
  by_cases a3:x.Else < 0
  ·rw [dF a1,dF a2,dT a3,dF (by omega:¬ 0≤x.Else),kt];simp
  by_cases a4:x.Else≥(m.Moves.length:Int)
  ·rw [dF a1,dF a2,dF a3,dT a4,dF (by omega:¬ x.Else < (m.Moves.length:Int)),kt];simp
  rw [dF a1,dF a2,dF a3,dF a4,dT (by omega:1≤x.Ticks),dT (by omega:x.Ticks≤1000),dT (by omega:0≤x.Else),dT (by omega:x.Else < (m.Moves.length:Int))]
  simp only [cond_false,Bool.true_and]
  by_cases hk0:k=0
  ·subst hk0
   rw [show decide (((0:Nat):Int) > 0)=false from rfl,cond_false,k3 false ⟨by omega,by omega⟩]
   simp
  ·rw [dT (by omega:(k:Int) > 0)]
   have w:w64 ((k:Int)-1)=((k-1:Nat):Int):=by rw [w64_id (by omega) (by omega)];omega
   have hy:=List.getElem?_eq_getElem (by omega:k-1 < m.Timeouts.length)
   rw [w,idx_nat,hy]
   simp only [cT,bS]
   rw [k3 _ ⟨by omega,by omega⟩,dF hk0]
   have e:(!decide (x.State≤(m.Timeouts[k-1]).State))=decide ((m.Timeouts[k-1]).State < x.State):=by
    by_cases h:x.State≤(m.Timeouts[k-1]).State<;>simp [h]<;>omega
   rw [e,Bool.false_or]) (by
  intro n k hk
  rw [ref26_timed_l2,lt_f hk];rfl)
 rw [this]
 cases allV (timeM m) m.Timeouts 0<;>rfl
end Gp
end
section
namespace Gp
open Go Go.Kx Gx
variable {N:Nat} {t:T15} {m:T8}
theorem timed_eq26 (hN:4194304 < N) (hm:t.Machine=m) (ht:m.Timeouts.length≤4194304):z193 N t=some (allV (timeM m) m.Timeouts 0):=by
 unfold z193
 subst hm
 have:=allV_from (timeM t.Machine) (xs:=t.Machine.Timeouts) (F:=z193_l2 t) (e:=some true) (n:=N) (by omega) (by
  intro n k x hk hx
  rw [z193_l2,lt_t hk,idx_nat,hx]
  simp only [cT,bS]
  have k3:(0≤x.Else∧x.Else < (t.Machine.Moves.length:Int))→z193_k3 t (k:Int) (z193_l2 t n) x false=bif (match idx t.Machine.Moves x.Else with | some y=>(y.From==x.State) && (y.Send && !y.Again) | none=>false) then z193_l2 t n ((k+1:Nat):Int) else some false:=fun ⟨h1,h2⟩=>by
   unfold z193_k3
   obtain ⟨y,hy⟩:=idx_lt (L:=t.Machine.Moves) h1 h2
   rw [hy,w64_succ (by omega)]
   simp only [bS]
   have e:(y.From != x.State) = !(y.From==x.State):=rfl
   rw [e]
   cases (y.From==x.State)<;>cases y.Send<;>cases y.Again<;>rfl
  have kt:z193_k3 t (k:Int) (z193_l2 t n) x true=some false:=rfl
  have tail:(bif decide (x.Ticks < 1) then z193_k3 t (k:Int) (z193_l2 t n) x true else bif decide (x.Ticks > 1000) then z193_k3 t (k:Int) (z193_l2 t n) x true
    else bif decide (x.Else < 0) then z193_k3 t (k:Int) (z193_l2 t n) x true else z193_k3 t (k:Int) (z193_l2 t n) x (decide (x.Else≥(t.Machine.Moves.length:Int)))) =
    bif ((decide (1≤x.Ticks) && (decide (x.Ticks≤1000) && (decide (0≤x.Else) && decide (x.Else < (t.Machine.Moves.length:Int))))) && (match idx t.Machine.Moves x.Else with | some y=>(y.From==x.State) && (y.Send && !y.Again) | none=>false)) then z193_l2 t n ((k+1:Nat):Int) else some false:=by
   by_cases a1:x.Ticks < 1
   ·rw [dT a1,dF (by omega:¬ 1≤x.Ticks),kt];rfl
   by_cases a2:x.Ticks > 1000
   ·rw [dF a1,dT a2,dF (by omega:¬ x.Ticks≤1000),kt];simp
   by_cases a3:x.Else < 0
   ·rw [dF a1,dF a2,dT a3,dF (by omega:¬ 0≤x.Else),kt];simp
   by_cases a4:x.Else≥(t.Machine.Moves.length:Int)
   ·rw [dF a1,dF a2,dF a3,dT a4,dF (by omega:¬ x.Else < (t.Machine.Moves.length:Int)),kt];simp
   rw [dF a1,dF a2,dF a3,dF a4,dT (by omega:1≤x.Ticks),dT (by omega:x.Ticks≤1000),dT (by omega:0≤x.Else),dT (by omega:x.Else < (t.Machine.Moves.length:Int))]
   simp only [cond_false,Bool.true_and]
   exact k3 ⟨by omega,by omega⟩
  unfold timeM
  by_cases hk0:k=0
  ·subst hk0
   rw [show decide (((0:Nat):Int) > 0)=false from rfl,cond_false,tail,dT rfl,Bool.true_or,Bool.and_true]<;>rfl
  ·rw [dT (by omega:(k:Int) > 0)]
   have w:w64 ((k:Int)-1)=((k-1:Nat):Int):=by rw [w64_id (by omega) (by omega)];omega
   have hy:=List.getElem?_eq_getElem (by omega:k-1 < t.Machine.Timeouts.length)
   rw [w,idx_nat,hy,dF hk0]
   simp only [cT,bS,Bool.false_or]
   rw [tail,kt]
   by_cases h:(t.Machine.Timeouts[k-1]).State≥x.State
   ·rw [dT h,dF (by omega:¬ (t.Machine.Timeouts[k-1]).State < x.State),Bool.and_false,Bool.false_and];rfl
   ·rw [dF h,dT (by omega:(t.Machine.Timeouts[k-1]).State < x.State),Bool.and_true];rfl) (by
  intro n k hk
  rw [z193_l2,lt_f hk];rfl)
 rw [this]
 cases allV (timeM t.Machine) t.Machine.Timeouts 0<;>rfl
def agM (m:T8) (x:T9):Bool := !x.Again || (x.Send && (!(x.From==m.Start) && (match idx m.Finals x.From with | some b => !b | none=>false)))
def prM (x:T9) (i:Nat) (y:T9) (k:Nat):Bool := !(!decide (k=i) && (x.From==y.From && (!(x.Send==y.Send) || (x.Peer==y.Peer && x.Label==y.Label) || x.Again))) && !(x.Again && (y.To==x.From && (!y.Send || !(y.Label==x.Label))))
def apM (m:T8):Bool:=allV (fun x i=>agM m x && allV (fun y k=>prM x i y k) m.Moves 0) m.Moves 0
theorem refApart_eq (hN:4194304 < N) (hm:NumM m):ref26_apart N m=some (apM m):=by
 have hn:=hm.n
 unfold ref26_apart apM
 have:=allV_from (fun x i=>agM m x && allV (fun y k=>prM x i y k) m.Moves 0) (xs:=m.Moves) (F:=ref26_apart_l2 N m) (e:=some true) (n:=N) (by omega) (by
  intro n i x hi hx
  obtain ⟨⟨f0,f1⟩,_⟩:=hm.mv x (List.mem_of_getElem? hx)
  rw [ref26_apart_l2,lt_t hi,idx_nat,hx]
  simp only [cT,bS]
  have inner:ref26_apart_l4 m (i:Int) (ref26_apart_l2 N m n) x N 0=bif allV (fun y k=>prM x i y k) m.Moves 0 then ref26_apart_l2 N m n ((i+1:Nat):Int) else some false:=by
   have:=allV_from (fun y k=>prM x i y k) (xs:=m.Moves) (F:=ref26_apart_l4 m (i:Int) (ref26_apart_l2 N m n) x) (e:=ref26_apart_l2 N m n ((i+1:Nat):Int)) (n:=N) (by omega) (by
    intro q k y hk hy
    rw [ref26_apart_l4,lt_t hk,idx_nat,hy]
    simp only [cT,bS]
    unfold ref26_apart_k5 prM
    rw [w64_succ (by omega)]
    have e1:((k:Int) != (i:Int)) = !decide (k=i):=by by_cases h:k=i<;>simp [h]<;>omega
    have e2:(y.Label != x.Label) = !(y.Label==x.Label):=rfl
    rw [e1,e2]
    generalize ref26_apart_l4 m (i:Int) (ref26_apart_l2 N m n) x q ((k+1:Nat):Int)=Z
    generalize (y.Label==x.Label)=b1
    generalize (y.To==x.From)=b2
    generalize (x.Label==y.Label)=b3
    generalize (x.Peer==y.Peer)=b4
    generalize (x.From==y.From)=b5
    generalize decide (k=i)=b6
    generalize x.Send=b7
    generalize y.Send=b8
    generalize x.Again=b9
    cases b6<;>cases b5<;>cases b9<;>cases b2<;>cases b8<;>cases b7<;>try rfl
    all_goals (cases b1<;>cases b4<;>cases b3<;>rfl)) (by
    intro q k hk
    rw [ref26_apart_l4,lt_f hk]
    unfold ref26_apart_k3
    rw [cond_false,w64_succ (by omega)])
   exact this
  obtain ⟨b,hb⟩:=idx_lt (L:=m.Finals) f0 (by have:=hm.f;omega)
  unfold ref26_apart_k6 agM
  rw [hb,inner]
  simp only [bS]
  generalize allV (fun y k=>prM x i y k) m.Moves 0=Y
  generalize ref26_apart_l2 N m n ((i+1:Nat):Int)=Z
  cases x.Again<;>cases x.Send<;>cases (x.From==m.Start)<;>cases b<;>cases Y<;>rfl) (by
  intro n k hk
  rw [ref26_apart_l2,lt_f hk];rfl)
 rw [this]
 cases allV (fun x i=>agM m x && allV (fun y k=>prM x i y k) m.Moves 0) m.Moves 0<;>rfl
end Gp
end
section
namespace Gp
open Go Go.Kx Gx
variable {N:Nat} {t:T15} {m:T8}
theorem all_from {F:Nat→Int→Option Bool} {len lo:Nat} {e:Option Bool} (P:Nat→Prop) (h1:∀ n k,lo≤k→k < len→(F (n+1) (k:Int)=some false∧¬ P k)∨(F (n+1) (k:Int)=F n ((k+1:Nat):Int)∧P k))
  (h2:∀ n k,len≤k→F (n+1) (k:Int)=e):∀ (d n k:Nat),lo≤k→len-k=d→d < n→(F n (k:Int)=some false∧∃ j,k≤j∧j < len∧¬ P j)∨(F n (k:Int)=e∧∀ j,k≤j→j < len→P j):=by
 intro d
 induction d with
 | zero =>
  intro n k hl hd hn
  obtain ⟨n,rfl⟩:∃ q,n=q+1:=⟨n-1,by omega⟩
  exact .inr ⟨h2 n k (by omega),fun j h1 h2=>by omega⟩
 | succ d ih =>
  intro n k hl hd hn
  obtain ⟨n,rfl⟩:∃ q,n=q+1:=⟨n-1,by omega⟩
  rcases h1 n k hl (by omega) with ⟨e1,e2⟩ | ⟨e1,e2⟩
  ·exact .inl ⟨e1,k,Nat.le_refl _,by omega,e2⟩
  ·rw [e1]
   rcases ih n (k+1) (by omega) (by omega) (by omega) with ⟨a,j,b1,b2,b3⟩ | ⟨a,b⟩
   ·exact .inl ⟨a,j,by omega,b2,b3⟩
   ·refine .inr ⟨a,fun j c1 c2=>?_⟩
    by_cases h:j=k
    ·subst h;exact e2
    ·exact b j (by omega) c2
def adjM (x y:T9):Prop:=¬ (x.Send=y.Send∧x.Peer=y.Peer∧x.Label=y.Label)∧x.Send=y.Send
def adjL (m:T8) (l:List Int) (j:Nat):Prop:=∀ (a b:Int) x y,l[j-1]? = some a→l[j]? = some b→idx m.Moves a=some x→idx m.Moves b=some y→adjM x y
theorem det_iff (hN:4194304 < N) (h:TabM t m):∃ b,z190 N t=some b∧(b=true↔∀ (s:Nat) l,t.out'[s]? = some l→∀ j,1≤j→j < l.length→adjL m l j):=by
 have hS:=h.num.s1
 have hlen:=h.len
 have key:=all_from (F:=z190_l2 N t) (len:=t.out'.length) (lo:=0) (e:=some true) (fun s=>∀ l,t.out'[s]? = some l→∀ j,1≤j→j < l.length→adjL m l j) (fun n k _ hk=>?_) (fun n k hk=>?_) _ N 0 (Nat.le_refl _) rfl (by omega)
 ·rcases key with ⟨e,j,_,j2,j3⟩ | ⟨e,hh⟩
  ·exact ⟨false,e,by simp only [Bool.false_eq_true,false_iff];intro hh;exact j3 fun l hl=>hh j l hl⟩
  ·refine ⟨true,e,by simp only [true_iff];intro s l hl;exact hh s (Nat.zero_le _) (List.getElem?_eq_some_iff.1 hl).1 l hl⟩
 ·rw [z190_l2,lt_t hk,idx_nat,List.getElem?_eq_getElem hk]
  simp only [cT,bS]
  obtain ⟨hl,ho⟩:=h.out k _ (List.getElem?_eq_getElem hk)
  have hgk:=List.getElem?_eq_getElem hk
  generalize t.out'[k]=l at hl ho hgk
  have hag:z190_k3 (k:Int) (z190_l2 N t n)=z190_l2 N t n ((k+1:Nat):Int):=by
   unfold z190_k3
   rw [w64_succ (by omega)]
  have g:∀ i:Nat,i < l.length→∃ q x,l[i]? = some q∧idx m.Moves q=some x:=fun i hi=>by
   obtain ⟨q,x,e1,e2,_⟩:=ho l[i] (List.getElem_mem hi)
   exact ⟨l[i],x,List.getElem?_eq_getElem hi,by rw [e1,idx_nat];exact e2⟩
  have inner:=all_from (F:=z190_l4 N t (k:Int) (z190_l2 N t n) l) (len:=l.length) (lo:=1) (e:=z190_l2 N t n ((k+1:Nat):Int)) (fun j=>adjL m l j) (fun n' j j1 hj=>by
   rw [z190_l4,lt_t hj,w64_succ (by omega)]
   have w:w64 ((j:Int)-1)=((j-1:Nat):Int):=by rw [w64_id (by omega) (by omega)];omega
   obtain ⟨a,x,ha,hx⟩:=g (j-1) (by omega)
   obtain ⟨b,y,hb,hy⟩:=g j hj
   rw [w,idx_nat,ha,h.mm]
   simp only [cT,bS,hx,idx_nat,hb,hy,z244,Bool.and_true]
   have hadj:adjL m l j↔adjM x y:=by
    constructor
    ·intro hh;exact hh a b x y ha hb hx hy
    ·intro hh a' b' x' y' ha' hb' hx' hy'
     rw [ha] at ha';rw [hb] at hb'
     cases ha';cases hb'
     rw [hx] at hx';rw [hy] at hy'
     cases hx';cases hy'
     exact hh
   rw [hadj]
   unfold adjM
   cases c1:(x.Send==y.Send && (x.Peer==y.Peer && x.Label==y.Label)) with
   | true =>
    simp only [Bool.and_eq_true,beq_iff_eq] at c1
    exact .inl ⟨rfl,fun hh=>hh.1 ⟨c1.1,c1.2.1,c1.2.2⟩⟩
   | false =>
    cases c2:(x.Send==y.Send) with
    | false=>exact .inl ⟨rfl,fun hh=>by rw [hh.2] at c2;simp at c2⟩
    | true =>
     refine .inr ⟨rfl,fun hh=>?_,by simpa using c2⟩
     rw [hh.1,hh.2.1,hh.2.2] at c1
     simp at c1) (fun n' j hj=>by
   rw [z190_l4,lt_f hj]
   exact hag) _ N 1 (Nat.le_refl _) rfl (by omega)
  rcases inner with ⟨e,j,j1,j2,j3⟩ | ⟨e,hh⟩
  ·exact .inl ⟨e,fun hc=>j3 (hc l rfl j j1 j2)⟩
  ·refine .inr ⟨e,fun l' hl' j j1 j2=>?_⟩
   cases hl'
   exact hh j j1 j2
 ·rw [z190_l2,lt_f hk];rfl
def againP (m:T8) (out:List (List Int)) (k:Nat):Prop:=∀ x,m.Moves[k]? = some x→x.Again=true→x.Send=true∧(∀ l,idx out x.From=some l→l.length=1)∧x.From≠m.Start∧idx m.Finals x.From=some false ∧
 ∀ (j:Nat) y,m.Moves[j]? = some y→y.To=x.From→y.Send=true∧y.Label=x.Label
theorem again_iff (hN:4194304 < N) (h:TabM t m):∃ b,z192 N t=some b∧(b=true↔∀ k,k < m.Moves.length→againP m t.out' k):=by
 have hS:=h.num.s1
 have hn:=h.num.n
 have hlen:=h.len
 have hm:=h.mm
 subst hm
 have key:=all_from (F:=z192_l2 N t) (len:=t.Machine.Moves.length) (lo:=0) (e:=some true) (fun k=>againP t.Machine t.out' k) (fun n k _ hk=>?_) (fun n k hk=>?_) _ N 0 (Nat.le_refl _) rfl (by omega)
 ·rcases key with ⟨e,j,_,j2,j3⟩ | ⟨e,hh⟩
  ·exact ⟨false,e,by simp only [Bool.false_eq_true,false_iff];intro hh;exact j3 (hh j j2)⟩
  ·exact ⟨true,e,by simp only [true_iff];intro k hk;exact hh k (Nat.zero_le _) hk⟩
 ·have hx:=List.getElem?_eq_getElem hk
  obtain ⟨⟨f0,f1⟩,_⟩:=h.num.mv _ (List.getElem_mem hk)
  rw [z192_l2,lt_t hk,idx_nat,hx,w64_succ (by omega)]
  generalize t.Machine.Moves[k]=x at hx f0 f1
  simp only [cT,bS]
  obtain ⟨l,hl⟩:=idx_lt (L:=t.out') f0 (by omega)
  obtain ⟨b,hb⟩:=idx_lt (L:=t.Machine.Finals) f0 (by have:=h.num.f;omega)
  have hP:againP t.Machine t.out' k↔(x.Again=true→x.Send=true∧l.length=1∧x.From≠t.Machine.Start∧b=false∧∀ (j:Nat) y,t.Machine.Moves[j]? = some y→y.To=x.From→y.Send=true∧y.Label=x.Label):=by
   unfold againP
   rw [hx]
   constructor
   ·intro hh ha
    obtain ⟨a1,a2,a3,a4,a5⟩:=hh x rfl ha
    rw [hb] at a4
    exact ⟨a1,a2 l hl,a3,Option.some.inj a4,a5⟩
   ·intro hh x' hx' ha
    cases hx'
    obtain ⟨a1,a2,a3,a4,a5⟩:=hh ha
    exact ⟨a1,fun l' hl'=>by rw [hl] at hl';cases hl';exact a2,a3,by rw [hb,a4],a5⟩
  rw [hP]
  cases ha:x.Again with
  | false=>exact .inr ⟨rfl,fun e=>by cases e⟩
  | true =>
  cases hs:x.Send with
  | false=>exact .inl ⟨rfl,fun e=>by have:=(e (by trivial)).1;cases this⟩
  | true =>
  simp only [Bool.not_true,cond_false,hl,hb,bS]
  by_cases c1:l.length=1
  ·have e1:((l.length:Int) != 1)=false:=by simp [c1]
   rw [e1,cond_false]
   by_cases c2:x.From=t.Machine.Start
   ·have e2:(x.From==t.Machine.Start)=true:=by simp [c2]
    rw [e2]
    exact .inl ⟨rfl,fun e=>(e (by trivial)).2.2.1 c2⟩
   ·have e2:(x.From==t.Machine.Start)=false:=by simp [c2]
    rw [e2,cond_false]
    cases b with
    | true=>exact .inl ⟨rfl,fun e=>by have:=(e (by trivial)).2.2.2.1;cases this⟩
    | false =>
    simp only [cond_false]
    have inner:=all_from (F:=z192_l4 t (k:Int) (z192_l2 N t n) x) (len:=t.Machine.Moves.length) (lo:=0) (e:=z192_l2 N t n ((k+1:Nat):Int))
     (fun j=>∀ y,t.Machine.Moves[j]? = some y→y.To=x.From→y.Send=true∧y.Label=x.Label) (fun n' j _ hj=>by
     have hy:=List.getElem?_eq_getElem hj
     rw [z192_l4,lt_t hj,idx_nat,hy,w64_succ (by omega)]
     generalize t.Machine.Moves[j]=y at hy
     simp only [cT,bS]
     have hQ:(∀ y',some y=some y'→y'.To=x.From→y'.Send=true∧y'.Label=x.Label)↔(y.To=x.From→y.Send=true∧y.Label=x.Label) :=
      ⟨fun hh=>hh y rfl,fun hh y' e=>by cases e;exact hh⟩
     rw [hQ]
     by_cases d1:y.To=x.From
     ·have e1:(y.To==x.From)=true:=by simp [d1]
      rw [e1,cT]
      cases d2:y.Send with
      | false=>exact .inl ⟨rfl,fun hh=>by have:=(hh d1).1;cases this⟩
      | true =>
       by_cases d3:y.Label=x.Label
       ·have e3:(y.Label != x.Label)=false:=by simp [d3]
        rw [e3]
        exact .inr ⟨rfl,fun _=>⟨rfl,d3⟩⟩
       ·have e3:(y.Label != x.Label)=true:=by simp [d3]
        rw [e3]
        exact .inl ⟨rfl,fun hh=>d3 (hh d1).2⟩
     ·have e1:(y.To==x.From)=false:=by simp [d1]
      rw [e1]
      exact .inr ⟨rfl,fun hh=>absurd hh d1⟩) (fun n' j hj=>by
     rw [z192_l4,lt_f hj]
     unfold z192_k3
     rw [cond_false,w64_succ (by omega)]) _ N 0 (Nat.le_refl _) rfl (by omega)
    rcases inner with ⟨e,j,_,j2,j3⟩ | ⟨e,hh⟩
    ·exact .inl ⟨e,fun hc=>j3 ((hc (by trivial)).2.2.2.2 j)⟩
    ·refine .inr ⟨e,fun _=>⟨by trivial,c1,c2,by trivial,fun j y hy=>?_⟩⟩
     exact hh j (Nat.zero_le _) (List.getElem?_eq_some_iff.1 hy).1 y hy
  ·have e1:((l.length:Int) != 1)=true:=by simp;omega
   rw [e1]
   exact .inl ⟨rfl,fun e=>c1 (e (by trivial)).2.1⟩
 ·rw [z192_l2,lt_f hk];rfl
end Gp
end
section
namespace Gp
open Go Go.Kx Gx
variable {N:Nat} {m:T8}
theorem ixM_nodup (m:T8) (n s:Nat):(ixM m n s).Nodup:=by
  unfold ixM
  exact List.Pairwise.map (S:=(·≠·)) (fun k:Nat=>(k:Int)) (fun (a b:Nat) (h:a≠b)=>show (a:Int)≠(b:Int) by omega) (List.Pairwise.filter _ List.nodup_range)
theorem prM_iff (x:T9) (i:Nat) (y:T9) (k:Nat):prM x i y k=true↔((k≠i→x.From=y.From→x.Send=y.Send∧¬ (x.Peer=y.Peer∧x.Label=y.Label)∧x.Again=false)∧(x.Again=true→y.To=x.From→y.Send=true∧y.Label=x.Label)):=by
 unfold prM
 by_cases h1:k=i<;>by_cases h2:x.From=y.From<;>by_cases h4:x.Peer=y.Peer<;>by_cases h5:x.Label=y.Label<;>by_cases h6:y.To=x.From <;>
  cases x.Send<;>cases y.Send<;>cases x.Again<;>simp [h1,h2,h4,h5,h6]<;>(try omega)
theorem agM_iff (x:T9):agM m x=true↔(x.Again=true→x.Send=true∧x.From≠m.Start∧idx m.Finals x.From=some false):=by
 unfold agM
 cases x.Again<;>cases x.Send<;>by_cases h:x.From=m.Start<;>cases idx m.Finals x.From with
 | none=>simp [h]
 | some b=>cases b<;>simp [h]
theorem apM_iff:apM m=true↔∀ (i:Nat) x,m.Moves[i]? = some x→agM m x=true∧∀ (k:Nat) y,m.Moves[k]? = some y→prM x i y k=true:=by
 unfold apM
 rw [allV_iff]
 constructor
 ·intro h i x hx
  have:=h i x hx
  rw [Nat.zero_add,Bool.and_eq_true,allV_iff] at this
  exact ⟨this.1,fun k y hy=>by have:=this.2 k y hy;rwa [Nat.zero_add] at this⟩
 ·intro h i x hx
  obtain ⟨h1,h2⟩:=h i x hx
  rw [Nat.zero_add,Bool.and_eq_true,allV_iff]
  exact ⟨h1,fun k y hy=>by rw [Nat.zero_add];exact h2 k y hy⟩
theorem ltM_total {x y:T9} (h:adjM x y) (hn:¬ ltM y x):ltM x y:=by
 obtain ⟨h1,h2⟩:=h
 unfold ltM at *
 revert h1 hn
 rw [h2]
 cases y.Send<;>simp<;>omega
theorem row_facts (hN:4194304 < N) (hm:NumM m) (s:Nat) (hs:s < m.States.toNat):∃ l,(outM N m)[s]? = some l∧l.Nodup∧(∀ a,a∈l↔∃ (k:Nat) (x:T9),a=(k:Int)∧m.Moves[k]? = some x∧x.From=(s:Int)) ∧
  ∀ (i j:Nat) (a b:Nat) x y,i < j→l[i]? = some (a:Int)→l[j]? = some (b:Int)→m.Moves[a]? = some x→m.Moves[b]? = some y→¬ ltM y x:=by
 obtain ⟨p1,p2⟩:=outM_perm hN m hm s
 refine ⟨_,outM_get N m s hs,p1.nodup_iff.2 (ixM_nodup m _ s),fun a=>?_,fun i j a b x y hij ha hb hx hy=>?_⟩
 ·rw [p1.mem_iff]
  constructor
  ·intro h
   obtain ⟨k,x,h1,_,h2,h3⟩:=ixM_mem h
   exact ⟨k,x,h1,h2,h3⟩
  ·rintro ⟨k,x,rfl,h2,h3⟩
   exact ixM_of (List.getElem?_eq_some_iff.1 h2).1 h2 h3
 ·have:=p2 i j a b hij ha hb
  rw [cf_eq hN m hy hx] at this
  exact fun h=>this ((cmpM_lt y x).2 h)
def pairP (m:T8):Prop:=∀ (i k:Nat) x y,i≠k→m.Moves[i]? = some x→m.Moves[k]? = some y→x.From=y.From→x.Send=y.Send∧¬ (x.Peer=y.Peer∧x.Label=y.Label)
theorem det_pair (hN:4194304 < N) (hm:NumM m):(∀ (s:Nat) l,(outM N m)[s]? = some l→∀ j,1≤j→j < l.length→adjL m l j)↔pairP m:=by
 constructor
 ·intro hD i k x y hne hx hy hxy
  obtain ⟨⟨f0,f1⟩,_⟩:=hm.mv x (List.mem_of_getElem? hx)
  obtain ⟨s,hs⟩:=Int.eq_ofNat_of_zero_le f0
  obtain ⟨l,hl,hnd,hmem,hord⟩:=row_facts hN hm s (by omega)
  have hadj:=hD s l hl
  have hgo:∀ (d p:Nat) (a b:Nat) x y,l[p]? = some (a:Int)→l[p+d+1]? = some (b:Int)→m.Moves[a]? = some x→m.Moves[b]? = some y→x.Send=y.Send∧ltM x y:=by
   intro d
   induction d with
   | zero =>
    intro p a b x y ha hb hx hy
    have hlt:=(List.getElem?_eq_some_iff.1 hb).1
    have:=hadj (p+1) (by omega) (by omega) a b x y (by simpa using ha) (by simpa using hb) (by rw [idx_nat];exact hx) (by rw [idx_nat];exact hy)
    exact ⟨this.2,ltM_total this (hord p (p+1) a b x y (by omega) ha (by simpa using hb) hx hy)⟩
   | succ d ih =>
    intro p a b x y ha hb hx hy
    have hlt:=(List.getElem?_eq_some_iff.1 hb).1
    have hc:=List.getElem?_eq_getElem (show p+d+1 < l.length by omega)
    obtain ⟨c,z,hcz,hz,_⟩:=(hmem _).1 (List.getElem_mem (show p+d+1 < l.length by omega))
    rw [hcz] at hc
    obtain ⟨s1,o1⟩:=ih p a c x z ha hc hx hz
    have hb':l[p+d+1+1]? = some (b:Int):=by rw [show p+d+1+1=p+(d+1)+1 by omega];exact hb
    have:=hadj (p+d+1+1) (by omega) (by omega) c b z y (by simpa using hc) hb' (by rw [idx_nat];exact hz) (by rw [idx_nat];exact hy)
    have o2:=ltM_total this (hord (p+d+1) (p+d+1+1) c b z y (by omega) hc hb' hz hy)
    exact ⟨s1.trans this.2,ltM_tr o1 o2⟩
  obtain ⟨p,hp⟩:=List.getElem?_of_mem ((hmem (i:Int)).2 ⟨i,x,rfl,hx,hs⟩)
  obtain ⟨q,hq⟩:=List.getElem?_of_mem ((hmem (k:Int)).2 ⟨k,y,rfl,hy,by rw [← hxy];exact hs⟩)
  have fin:∀ {x y:T9},x.Send=y.Send→ltM x y→x.Send=y.Send∧¬ (x.Peer=y.Peer∧x.Label=y.Label):=fun {x y} h1 h2=>by
   refine ⟨h1,fun h3=>?_⟩
   unfold ltM at h2
   rw [h1,h3.1,h3.2] at h2
   revert h2
   cases y.Send<;>simp
  rcases Nat.lt_trichotomy p q with h | h | h
  ·obtain ⟨a1,a2⟩:=hgo (q-p-1) p i k x y hp (by rw [show p+(q-p-1)+1=q by omega];exact hq) hx hy
   exact fin a1 a2
  ·subst h
   rw [hp] at hq
   have:=Option.some.inj hq
   omega
  ·obtain ⟨a1,a2⟩:=hgo (p-q-1) q k i y x hq (by rw [show q+(p-q-1)+1=p by omega];exact hp) hy hx
   obtain ⟨b1,b2⟩:=fin a1 a2
   exact ⟨b1.symm,fun h=>b2 ⟨h.1.symm,h.2.symm⟩⟩
 ·intro hP s l hl j j1 j2 a b x y ha hb hx hy
  have hs:s < m.States.toNat:=by
   have:=(List.getElem?_eq_some_iff.1 hl).1
   rwa [outM_len] at this
  obtain ⟨l',hl',hnd,hmem,_⟩:=row_facts hN hm s hs
  rw [hl] at hl'
  cases hl'
  obtain ⟨i,x',rfl,hx',fx⟩:=(hmem a).1 (List.mem_of_getElem? ha)
  obtain ⟨k,y',rfl,hy',fy⟩:=(hmem b).1 (List.mem_of_getElem? hb)
  rw [idx_nat,hx'] at hx
  rw [idx_nat,hy'] at hy
  cases hx;cases hy
  have hne:i≠k:=fun e=>by
   subst e
   have h1:j-1 < l.length:=by omega
   have:=(List.getElem_inj hnd (h₀:=h1) (h₁:=j2)).1 (by
    have e1:=(List.getElem?_eq_some_iff.1 ha).2
    have e2:=(List.getElem?_eq_some_iff.1 hb).2
    rw [e1,e2])
   omega
  obtain ⟨h1,h2⟩:=hP i k x y hne hx' hy' (by rw [fx,fy])
  exact ⟨fun h=>h2 h.2,h1⟩
end Gp
end
section
namespace Gp
open Go Go.Kx Gx
variable {N:Nat} {m:T8}
theorem apart_iff (hN:4194304 < N) (hm:NumM m):(pairP m∧∀ k,k < m.Moves.length→againP m (outM N m) k)↔apM m=true:=by
 rw [apM_iff]
 have row:∀ (i:Nat) x,m.Moves[i]? = some x→∃ (s:Nat) (l:List Int),x.From=(s:Int)∧idx (outM N m) x.From=some l∧l.Nodup∧(∀ a,a∈l↔∃ (k:Nat) (y:T9),a=(k:Int)∧m.Moves[k]? = some y∧y.From=(s:Int)):=fun i x hx=>by
  obtain ⟨⟨f0,f1⟩,_⟩:=hm.mv x (List.mem_of_getElem? hx)
  obtain ⟨s,hs⟩:=Int.eq_ofNat_of_zero_le f0
  obtain ⟨l,hl,hnd,hmem,_⟩:=row_facts hN hm s (by omega)
  exact ⟨s,l,hs,by rw [hs,idx_nat];exact hl,hnd,hmem⟩
 constructor
 ·rintro ⟨hP,hA⟩ i x hx
  have hi:=(List.getElem?_eq_some_iff.1 hx).1
  refine ⟨agM_iff x |>.2 fun ha=>?_,fun k y hy=>(prM_iff x i y k).2 ⟨fun hne hxy=>?_,fun ha ht=>?_⟩⟩
  ·obtain ⟨a1,_,a3,a4,_⟩:=hA i hi x hx ha
   exact ⟨a1,a3,a4⟩
  ·obtain ⟨b1,b2⟩:=hP i k x y (Ne.symm hne) hx hy hxy
   refine ⟨b1,b2,?_⟩
   cases ha:x.Again with
   | false=>rfl
   | true =>
    obtain ⟨s,l,hs,hl,hnd,hmem⟩:=row i x hx
    have h1:=(hA i hi x hx ha).2.1 l hl
    have m1:=(hmem (i:Int)).2 ⟨i,x,rfl,hx,hs⟩
    have m2:=(hmem (k:Int)).2 ⟨k,y,rfl,hy,by rw [← hxy];exact hs⟩
    obtain ⟨c,rfl⟩:=List.length_eq_one_iff.1 h1
    rw [List.mem_singleton] at m1 m2
    have:(i:Int)=(k:Int):=m1.trans m2.symm
    omega
  ·exact (hA i hi x hx ha).2.2.2.2 k y hy ht
 ·intro h
  refine ⟨fun i k x y hne hx hy hxy=>?_,fun i hi x hx ha=>?_⟩
  ·obtain ⟨b1,b2,_⟩:=((prM_iff x i y k).1 ((h i x hx).2 k y hy)).1 (Ne.symm hne) hxy
   exact ⟨b1,b2⟩
  ·obtain ⟨g1,g2⟩:=h i x hx
   obtain ⟨a1,a3,a4⟩:=(agM_iff x).1 g1 ha
   refine ⟨a1,fun l' hl'=>?_,a3,a4,fun j y hy ht=>((prM_iff x i y j).1 (g2 j y hy)).2 ha ht⟩
   obtain ⟨s,l,hs,hl,hnd,hmem⟩:=row i x hx
   rw [hl] at hl'
   cases hl'
   have m1:=(hmem (i:Int)).2 ⟨i,x,rfl,hx,hs⟩
   have only:∀ a∈l',a=(i:Int):=fun a haa=>by
    obtain ⟨k,y,rfl,hy,hf⟩:=(hmem a).1 haa
    by_cases e:k=i
    ·rw [e]
    ·have:=(((prM_iff x i y k).1 (g2 k y hy)).1 e (by rw [hs,hf])).2.2
     rw [ha] at this;cases this
   match l',hnd,m1,only with
   | [a],_,_,_=>rfl
   | a::b::r,hnd,_,only =>
    have e1:=only a (List.mem_cons_self ..)
    have e2:=only b (List.mem_cons_of_mem _ (List.mem_cons_self ..))
    subst e1
    rw [e2] at hnd
    simp at hnd
theorem apart_both (hN:4194304 < N) (hm:NumM m):∃ b1 b2,z190 N ⟨m,outM N m⟩=some b1∧z192 N ⟨m,outM N m⟩=some b2∧(b1 && b2)=apM m:=by
 have h:=tabM_of hN m hm
 obtain ⟨b1,e1,h1⟩:=det_iff hN h
 obtain ⟨b2,e2,h2⟩:=again_iff hN h
 refine ⟨b1,b2,e1,e2,?_⟩
 rw [Bool.eq_iff_iff,Bool.and_eq_true,h1,h2]
 have:=det_pair hN hm
 rw [this]
 exact apart_iff hN hm
end Gp
end
section
namespace Gp
open Go Go.Kx Gx
variable {N:Nat} {t:T15} {m:T8}
inductive Rch (m:T8):Int→Prop
 | start:Rch m m.Start
 | step {k:Nat} {x:T9}:m.Moves[k]? = some x→Rch m x.From→Rch m x.To
structure InvB (m:T8) (S:Nat) (a:List Bool) (q:List Int) (h:Nat):Prop where
 r:InvR S a q
 nd:q.Nodup
 mark:∀ c:Nat,c < S→(a[c]? = some true↔(c:Int)∈q)
 rch:∀ i∈q,Rch m i
 st:m.Start∈q
 cl:∀ (i:Nat) v,i < h→q[i]? = some v→∀ (k:Nat) x,m.Moves[k]? = some x→x.From=v→x.To∈q
theorem InvB.add {S:Nat} {a:List Bool} {q:List Int} {h:Nat} (hi:InvB m S a q h) (hh:h≤q.length) {j:Nat} (hj:a[j]? = some false) (hr:Rch m (j:Int)):InvB m S (a.set j true) (q++[(j:Int)]) h:=by
 have hjl:=(List.getElem?_eq_some_iff.1 hj).1
 have hjS:j < S:=by rw [← hi.r.len];exact hjl
 have hnm:(j:Int) ∉ q:=fun hm=>by
  have:=(hi.mark j hjS).2 hm
  rw [hj] at this;cases this
 refine ⟨hi.r.add hj,?_,fun c hc=>?_,fun i hi'=>?_,List.mem_append_left _ hi.st,fun i v h1 h2 k x hx hf=>?_⟩
 ·rw [List.nodup_append]
  refine ⟨hi.nd,by simp,fun a ha b hb=>?_⟩
  rw [List.mem_singleton.1 hb]
  exact fun e=>hnm (e ▸ ha)
 ·rw [List.getElem?_set]
  by_cases e:j=c
  ·subst e
   simp [hjl]
  ·rw [if_neg e,hi.mark c hc,List.mem_append,List.mem_singleton]
   constructor
   ·exact .inl
   ·rintro (h | h)
    ·exact h
    ·omega
 ·rcases List.mem_append.1 hi' with h | h
  ·exact hi.rch i h
  ·rw [List.mem_singleton.1 h];exact hr
 ·rw [List.getElem?_append_left (by omega)] at h2
  exact List.mem_append_left _ (hi.cl i v h1 h2 k x hx hf)
theorem InvB.all {S:Nat} {a:List Bool} {q:List Int} (hi:InvB m S a q q.length):∀ i,Rch m i→i∈q:=by
 intro i h
 induction h with
 | start=>exact hi.st
 | step hx _ ih =>
  obtain ⟨p,hp⟩:=List.getElem?_of_mem ih
  exact hi.cl p _ (List.getElem?_eq_some_iff.1 hp).1 hp _ _ hx rfl
end Gp
end
section
namespace Gp
open Go Go.Kx Gx
variable {N:Nat} {t:T15} {m:T8}
theorem rb_in (hN:4194304 < N) (h:TabM t m) (S:Nat) (hS:m.States=(S:Int)) (Q:Bool→Prop) (k:Nat) (ag:List Bool→List Int→Int→Option Bool) (s:Nat) (hag:∀ a q,InvB m S a q (k+1)→k < q.length→∃ b,ag a q (w64 ((k:Int)+1))=some b∧Q b)
  (l:List Int) (hl:t.out'[s]? = some l) (hcomp:∀ (p:Nat) x,m.Moves[p]? = some x→x.From=(s:Int)→(p:Int)∈l):∀ (d n j:Nat) (a:List Bool) (q:List Int),InvB m S a q k→q[k]? = some (s:Int)→(∀ i,i < j→∀ (p:Nat) x,l[i]? = some (p:Int)→m.Moves[p]? = some x→x.To∈q)→l.length-j=d→d < n →
   ∃ b,z191_l4 t (k:Int) ag l n a q (j:Int)=some b∧Q b:=by
 intro d
 obtain ⟨l1,l2⟩:=h.out s l hl
 have hs1:=h.num.s1
 induction d with
 | zero =>
  intro n j a q hi hq hd0 hd hn
  obtain ⟨n,rfl⟩:∃ q,n=q+1:=⟨n-1,by omega⟩
  rw [z191_l4,lt_f (by omega)]
  refine hag a q ⟨hi.r,hi.nd,hi.mark,hi.rch,hi.st,fun i v h1 h2 p x hx hf=>?_⟩ (List.getElem?_eq_some_iff.1 hq).1
  by_cases e:i=k
  ·subst e
   rw [hq] at h2
   cases h2
   obtain ⟨i',hi'⟩:=List.getElem?_of_mem (hcomp p x hx hf)
   have:=(List.getElem?_eq_some_iff.1 hi').1
   exact hd0 i' (by omega) p x hi' hx
  ·exact hi.cl i v (by omega) h2 p x hx hf
 | succ d ih =>
  intro n j a q hi hq hd0 hd hn
  obtain ⟨n,rfl⟩:∃ q,n=q+1:=⟨n-1,by omega⟩
  have hj:j < l.length:=by omega
  have hlj:=List.getElem?_eq_getElem hj
  obtain ⟨p,x,e1,e2,e3⟩:=l2 l[j] (List.getElem_mem hj)
  obtain ⟨_,⟨t0,t1⟩,_⟩:=h.num.mv x (List.mem_of_getElem? e2)
  obtain ⟨c,hc⟩:=Int.eq_ofNat_of_zero_le t0
  have hcS:c < S:=by omega
  have hcl:c < a.length:=by rw [hi.r.len];omega
  have hkq:=(List.getElem?_eq_some_iff.1 hq).1
  rw [z191_l4,lt_t hj,idx_nat,hlj,w64_succ (by omega)]
  simp only [cT,bS]
  rw [e1,idx_nat,h.mm,e2]
  simp only [bS]
  rw [hc,idx_nat,List.getElem?_eq_getElem hcl]
  simp only [bS]
  have next:∀ q':List Int,(∀ v∈q,v∈q')→(c:Int)∈q'→∀ i,i < j+1→∀ (p:Nat) x,l[i]? = some (p:Int)→m.Moves[p]? = some x→x.To∈q':=fun q' hsub hcm i hi' p' x' hp' hx'=>by
   by_cases e:i=j
   ·subst e
    rw [hlj,e1] at hp'
    have:(p:Int)=(p':Int):=Option.some.inj hp'
    have:p=p':=by omega
    subst this
    rw [e2] at hx'
    cases hx'
    rw [hc];exact hcm
   ·exact hsub _ (hd0 i (by omega) p' x' hp' hx')
  cases hb:a[c] with
  | true =>
   have hcm:(c:Int)∈q:=(hi.mark c hcS).1 (by rw [List.getElem?_eq_getElem hcl,hb])
   exact ih n (j+1) a q hi hq (next q (fun _ h=>h) hcm) (by omega) (by omega)
  | false =>
   have hcc:=hi.r.c
   simp only [Bool.not_false,cT]
   rw [appL_some (by simp;omega),setL'_nat]
   simp only [bS]
   have hr:Rch m (c:Int):=by
    rw [← hc]
    exact .step e2 (by rw [e3];exact hi.rch _ (List.mem_of_getElem? hq))
   exact ih n (j+1) _ _ (hi.add (Nat.le_of_lt hkq) (by rw [List.getElem?_eq_getElem hcl,hb]) hr) (by rw [List.getElem?_append_left hkq];exact hq)
    (next _ (fun _ h=>List.mem_append_left _ h) (List.mem_append_right _ (List.mem_singleton.2 rfl))) (by omega) (by omega)
end Gp
end
section
namespace Gp
open Go Go.Kx Gx
variable {N:Nat} {t:T15} {m:T8}
theorem len_le_of:∀ (l q:List Int),l.Nodup→(∀ a∈l,a∈q)→l.length≤q.length
 | [],_,_,_=>Nat.zero_le _
 | a::l,q,hn,hs=>by
  have h1:=List.nodup_cons.1 hn
  have ha:=hs a (List.mem_cons_self ..)
  have:=len_le_of l (q.erase a) h1.2 fun b hb=>by
   have hne:b≠a:=fun e=>h1.1 (e ▸ hb)
   exact (List.mem_erase_of_ne hne).2 (hs b (List.mem_cons_of_mem _ hb))
  rw [List.length_erase_of_mem ha] at this
  have:0 < q.length:=List.length_pos_of_mem ha
  simp;omega
theorem rb_end {S:Nat} {a:List Bool} {q:List Int} (hi:InvB m S a q q.length) (hS:m.States=(S:Int)):(((q.length:Int)==m.States)=true↔∀ c:Nat,c < S→Rch m (c:Int)):=by
  rw [beq_iff_eq,hS]
  constructor
  · intro h c hc
    have h0:=hi.r.c
    have hz:a.count false=0:=by omega
    have hcl:c < a.length:=by rw [hi.r.len];exact hc
    have:a[c]? = some true:=by
      rw [List.getElem?_eq_getElem hcl]
      cases hb:a[c] with
      | true=>rfl
      | false =>
        have:=List.count_eq_zero.1 hz
        exact absurd (hb ▸ List.getElem_mem hcl) this
    exact hi.rch _ ((hi.mark c hc).1 this)
  · intro h
    have h1:=len_le_of ((List.range S).map fun k:Nat=>(k:Int)) q (List.Pairwise.map (S:=(·≠·)) (fun k:Nat=>(k:Int)) (fun (a b:Nat) (h:a≠b)=>show (a:Int)≠(b:Int) by omega) List.nodup_range) (fun b hb=>by
      obtain ⟨c,hc,rfl⟩:=List.mem_map.1 hb
      exact hi.all _ (h c (List.mem_range.1 hc)))
    have h2:=hi.r.c
    simp at h1
    omega
theorem rb_out (hN:4194304 < N) (hm:NumM m) (S:Nat) (hS:m.States=(S:Int)):∀ (d n k:Nat) (a:List Bool) (q:List Int),InvB m S a q k→k≤q.length→S-k=d→d < n →
  ∃ b,z191_l2 N ⟨m,outM N m⟩ n a q (k:Int)=some b∧(b=true↔∀ c:Nat,c < S→Rch m (c:Int)):=by
 intro d
 have h:=tabM_of hN m hm
 have hs1:=hm.s1
 have step:∀ (n k:Nat) (a:List Bool) (q:List Int),InvB m S a q k→k≤q.length→(k < q.length→∀ a q,InvB m S a q (k+1)→k < q.length→∃ b,z191_l2 N ⟨m,outM N m⟩ n a q (w64 ((k:Int)+1))=some b∧(b=true↔∀ c:Nat,c < S→Rch m (c:Int))) →
   ∃ b,z191_l2 N ⟨m,outM N m⟩ (n+1) a q (k:Int)=some b∧(b=true↔∀ c:Nat,c < S→Rch m (c:Int)):=fun n k a q hi hkq hnx=>by
  rw [z191_l2]
  by_cases hk:k < q.length
  ·have hqk:=List.getElem?_eq_getElem hk
   rw [lt_t hk,idx_nat,hqk]
   simp only [cT,bS]
   obtain ⟨q0,q1⟩:=hi.r.qq _ (List.getElem_mem hk)
   obtain ⟨c,hc⟩:=Int.eq_ofNat_of_zero_le q0
   obtain ⟨l,hl,_,hmem,_⟩:=row_facts hN hm c (by omega)
   rw [hc,idx_nat,hl]
   simp only [bS]
   have hle:=(h.out c l hl).1
   exact rb_in hN h S hS _ k _ c (hnx hk) l hl (fun p x hx hf=>(hmem _).2 ⟨p,x,rfl,hx,hf⟩) _ N 0 a q hi (by rw [hqk,hc]) (fun i hi=>by omega) rfl (by omega)
  ·rw [lt_f (Nat.not_lt.1 hk)]
   have e:k=q.length:=by omega
   subst e
   exact ⟨_,rfl,rb_end hi hS⟩
 induction d with
 | zero =>
  intro n k a q hi hkq hd hn
  obtain ⟨n,rfl⟩:∃ q,n=q+1:=⟨n-1,by omega⟩
  exact step n k a q hi hkq fun hk=>by have:=hi.r.c;omega
 | succ d ih =>
  intro n k a q hi hkq hd hn
  obtain ⟨n,rfl⟩:∃ q,n=q+1:=⟨n-1,by omega⟩
  refine step n k a q hi hkq fun hk a q hi hk'=>?_
  rw [w64_succ (by omega)]
  exact ih n (k+1) a q hi hk' (by omega) (by omega)
theorem reached_iff (hN:4194304 < N) (hm:NumM m):∃ b,z191 N ⟨m,outM N m⟩=some b∧(b=true↔∀ c:Int,0≤c→c < m.States→Rch m c):=by
 have h0:=hm.s0
 have h1:=hm.s1
 have b0:=hm.b0
 have b1:=hm.b1
 obtain ⟨S,hS⟩:=Int.eq_ofNat_of_zero_le (show 0≤m.States by omega)
 obtain ⟨c,hc⟩:=Int.eq_ofNat_of_zero_le b0
 unfold z191
 have e:mkL false m.States m.States=some (List.replicate S false):=by
  unfold mkL
  rw [dT (by omega:0≤m.States),dT (by omega:m.States≤m.States),dT (by omega:m.States≤4294967296),hS];rfl
 have hcl:c < S:=by omega
 have hg:(List.replicate S false)[c]? = some false:=by rw [List.getElem?_replicate,if_pos hcl]
 show ∃ b,((mkL false m.States m.States).bind fun x1=>(idx x1 m.Start).bind fun x2=>z191_l2 N ⟨m,outM N m⟩ N (setL' x1 m.Start true) [m.Start] 0)=some b∧_
 rw [e]
 simp only [bS]
 rw [hc,idx_nat,hg,setL'_nat]
 simp only [bS]
 have h2:=List.count_set (a:=true) (b:=false) (l:=List.replicate S false) (i:=c) (by simpa using hcl)
 have hI:InvB m S ((List.replicate S false).set c true) [(c:Int)] 0:=by
  refine ⟨⟨by simp,fun i hi=>by rw [List.mem_singleton.1 hi];omega,?_⟩,by simp,fun k hk=>?_,fun i hi=>by rw [List.mem_singleton.1 hi,← hc];exact .start,by rw [hc];exact List.mem_singleton.2 rfl,fun i v h=>by omega⟩
  ·simp at h2
   simp
   omega
  ·rw [List.getElem?_set,List.mem_singleton]
   by_cases e:c=k
   ·subst e;simp [hcl]
   ·rw [if_neg e,List.getElem?_replicate,if_pos hk]
    constructor
    ·intro h;cases h
    ·intro h;omega
 obtain ⟨b,eb,hb⟩:=rb_out hN hm S hS S N 0 _ _ hI (Nat.zero_le _) rfl (by omega)
 refine ⟨b,eb,hb.trans ⟨fun h k k0 k1=>?_,fun h k hk=>h k (by omega) (by omega)⟩⟩
 obtain ⟨j,rfl⟩:=Int.eq_ofNat_of_zero_le k0
 exact h j (by omega)
end Gp
end
section
namespace Gp
open Go Go.Kx Gx
variable {N:Nat}
theorem has_iff (hN:4194304 < N) (l:List Int) (hl:l.length≤4194304) (v:Int):∃ b,ref03_Has N l v=some b∧(b=true↔v∈l):=by
  have key:=all_from (F:=fun n k=>(ref03_Has_l2 l v n k).map (!·)) (len:=l.length) (lo:=0) (e:=some true) (fun k=>l[k]? ≠ some v) (fun n k _ hk=>?_) (fun n k hk=>?_) _ N 0 (Nat.le_refl _) rfl (by omega)
  · unfold ref03_Has
    rcases key with ⟨e,j,_,j2,j3⟩ | ⟨e,hh⟩
    · obtain ⟨b,eb,hb⟩:=Option.map_eq_some_iff.1 e
      refine ⟨b,eb,?_⟩
      have:b=true:=by cases b<;>simp at hb ⊢
      rw [this]
      simp only [true_iff]
      exact List.mem_of_getElem? (Classical.not_not.1 j3)
    · obtain ⟨b,eb,hb⟩:=Option.map_eq_some_iff.1 e
      refine ⟨b,eb,?_⟩
      have:b=false:=by cases b<;>simp at hb ⊢
      rw [this]
      simp only [Bool.false_eq_true,false_iff]
      intro hm
      obtain ⟨i,hi⟩:=List.getElem?_of_mem hm
      exact hh i (Nat.zero_le _) (List.getElem?_eq_some_iff.1 hi).1 hi
  · have hx:=List.getElem?_eq_getElem hk
    show ((ref03_Has_l2 l v (n+1) (k:Int)).map (!·)=_∧_)∨((ref03_Has_l2 l v (n+1) (k:Int)).map (!·)=(ref03_Has_l2 l v n ((k+1:Nat):Int)).map (!·)∧_)
    rw [ref03_Has_l2,lt_t hk,idx_nat,hx,w64_succ (by omega)]
    simp only [cT,bS]
    by_cases h:l[k]=v
    · have e:(l[k]==v)=true:=by simp [h]
      rw [e]
      exact .inl ⟨rfl,fun hc=>hc (by rw [h])⟩
    · have e:(l[k]==v)=false:=by simp [h]
      rw [e]
      exact .inr ⟨rfl,fun hc=>h (Option.some.inj hc)⟩
  · show (ref03_Has_l2 l v (n+1) (k:Int)).map (!·)=_
    rw [ref03_Has_l2,lt_f hk];rfl
end Gp
end
section
namespace Gp
open Go Go.Kx Gx
variable {N:Nat}
def withV (v:Int):Bool→List Int→List Int
 | true,l=>l
 | false,[]=>[v]
 | false,x::r=>bif decide (x≥v) then (bif decide (x > v) then v::x::r else x::r) else x::withV v false r
theorem withV_true (v:Int) (l:List Int):withV v true l=l:=by cases l<;>rfl
theorem with_loop (l:List Int) (hl:l.length≤4194304) (v:Int):∀ (r:List Int) (n k:Nat) (acc:List Int) (p:Bool),l.drop k=r→r.length < n→acc.length+r.length+(bif p then 0 else 1)≤4194306 →
    ref03_With_l2 l v n acc p (k:Int)=some (acc++withV v p r):=by
  intro r
  induction r with
  | nil =>
    intro n k acc p hr hn hb
    obtain ⟨n,rfl⟩:∃ q,n=q+1:=⟨n-1,by simp at hn;omega⟩
    rw [ref03_With_l2,lt_f (List.drop_eq_nil_iff.1 hr)]
    unfold ref03_With_k1
    cases p with
    | true=>simp [withV]
    | false =>
      simp only [cond_false,Bool.not_false,cT]
      rw [appL_some (xs:=acc) (ys:=[v]) (by simp at hb ⊢;omega)]
      rfl
  | cons x r ih =>
    intro n k acc p hr hn hb
    obtain ⟨n,rfl⟩:∃ q,n=q+1:=⟨n-1,by simp at hn;omega⟩
    have hk:k < l.length:=by
      refine Nat.not_le.1 fun h=>?_
      rw [List.drop_eq_nil_iff.2 h] at hr;cases hr
    have hx:l[k]? = some x:=by
      have:=congrArg (·[0]?) hr
      simpa using this
    have hr':l.drop (k+1)=r:=by have:=congrArg (List.drop 1) hr;simpa [List.drop_drop,Nat.add_comm] using this
    simp only [List.length_cons] at hn hb
    have hb0:acc.length+r.length≤4194306:=by omega
    rw [ref03_With_l2,lt_t hk,idx_nat,hx,w64_succ (by omega)]
    simp only [cT,bS]
    cases p with
    | true =>
      rw [appL_some (xs:=acc) (ys:=[x]) (by simp;omega)]
      simp only [Bool.not_true,cond_false,bS]
      rw [ih n (k+1) (acc++[x]) true hr' (by omega) (by simp at hb ⊢;omega),withV_true,withV_true]
      simp
    | false =>
      simp only [Bool.not_false,cT]
      cases h1:decide (x≥v) with
      | false =>
        rw [appL_some (xs:=acc) (ys:=[x]) (by simp;omega)]
        simp only [cond_false,bS]
        rw [ih n (k+1) (acc++[x]) false hr' (by omega) (by simp at hb ⊢;omega)]
        show _=some (acc++(bif decide (x≥v) then _ else x::withV v false r))
        rw [h1];simp
      | true =>
        cases h2:decide (x > v) with
        | true =>
          simp only [cT]
          rw [appL_some (xs:=acc) (ys:=[v]) (by simp;omega)]
          simp only [bS]
          rw [appL_some (xs:=acc++[v]) (ys:=[x]) (by simp;omega)]
          simp only [bS]
          rw [ih n (k+1) (acc++[v]++[x]) true hr' (by omega) (by simp at hb ⊢;omega),withV_true]
          show _=some (acc++(bif decide (x≥v) then (bif decide (x > v) then v::x::r else x::r) else _))
          rw [h1,h2];simp
        | false =>
          simp only [cT,cond_false]
          rw [appL_some (xs:=acc) (ys:=[x]) (by simp;omega)]
          simp only [bS]
          rw [ih n (k+1) (acc++[x]) true hr' (by omega) (by simp at hb ⊢;omega),withV_true]
          show _=some (acc++(bif decide (x≥v) then (bif decide (x > v) then v::x::r else x::r) else _))
          rw [h1,h2];simp
theorem with_eq (hN:4194304 < N) (l:List Int) (hl:l.length≤4194000) (v:Int):ref03_With N l v=some (withV v false l):=by
 have:=with_loop l (by omega) v l N 0 [] false rfl (by omega) (by simp;omega)
 unfold ref03_With
 rw [show ((0:Nat):Int)=0 from rfl] at this
 rw [this];rfl
theorem mem_with (v a:Int):∀ l:List Int,a∈withV v false l↔a=v∨a∈l
 | []=>by simp [withV]
 | x::r=>by
  show a∈(bif decide (x≥v) then (bif decide (x > v) then v::x::r else x::r) else x::withV v false r)↔_
  by_cases h1:x≥v
  ·rw [dT h1]
   by_cases h2:x > v
   ·rw [dT h2];simp
   ·rw [dF h2]
    have:x=v:=by omega
    subst this;simp
  ·rw [dF h1]
   show a∈x::withV v false r↔_
   rw [List.mem_cons,mem_with v a r,List.mem_cons]
   constructor
   ·rintro (h | h | h)
    ·exact .inr (.inl h)
    ·exact .inl h
    ·exact .inr (.inr h)
   ·rintro (h | h | h)
    ·exact .inr (.inl h)
    ·exact .inl h
    ·exact .inr (.inr h)
theorem sorted_with (v:Int):∀ l:List Int,l.Pairwise (· < ·)→(withV v false l).Pairwise (· < ·)
  | [],_=>by simp [withV]
  | x::r,h=>by
    obtain ⟨h1,h2⟩:=List.pairwise_cons.1 h
    show ((bif decide (x≥v) then (bif decide (x > v) then v::x::r else x::r) else x::withV v false r)).Pairwise (· < ·)
    by_cases c1:x≥v
    · rw [dT c1]
      by_cases c2:x > v
      · rw [dT c2]
        refine List.pairwise_cons.2 ⟨fun a ha=>?_,h⟩
        rcases List.mem_cons.1 ha with e | e
        · omega
        · have:=h1 a e;omega
      · rw [dF c2];exact h
    · rw [dF c1]
      refine List.pairwise_cons.2 ⟨fun a ha=>?_,sorted_with v r h2⟩
      rcases (mem_with v a r).1 ha with e | e
      · omega
      · exact h1 a e
end Gp
end
section
namespace Gp
open Go Go.Kx Gx
variable {N:Nat} {m:T8}
theorem Rch.lim (hm:NumM m) {i:Int} (h:Rch m i):0≤i∧i < m.States:=by
 cases h with
 | start=>exact ⟨hm.b0,hm.b1⟩
 | step hx _=>exact (hm.mv _ (List.mem_of_getElem? hx)).2.1
theorem nodup_of_up {l:List Int} (h:l.Pairwise (· < ·)):l.Nodup:=List.Pairwise.imp (fun {a b} (h:a < b)=>show a≠b by omega) h
def addR (q:List Int) (x:T9):List Int:=if x.From∈q then withV x.To false q else q
def rndR (l:List T9) (q:List Int):List Int:=l.foldl addR q
structure UpR (m:T8) (q:List Int):Prop where
  up:q.Pairwise (· < ·)
  rch:∀ i∈q,Rch m i
  st:m.Start∈q
theorem UpR.len (hm:NumM m) {S:Nat} (hS:m.States=(S:Int)) {q:List Int} (h:UpR m q):q.length≤S:=by
 have:=len_le_of q ((List.range S).map fun k:Nat=>(k:Int)) (nodup_of_up h.up) (fun a ha=>by
  obtain ⟨a0,a1⟩:=(h.rch a ha).lim hm
  obtain ⟨c,rfl⟩:=Int.eq_ofNat_of_zero_le a0
  exact List.mem_map.2 ⟨c,List.mem_range.2 (by omega),rfl⟩)
 simpa using this
theorem UpR.add {q:List Int} (h:UpR m q) {x:T9} (hx:x∈m.Moves):UpR m (addR q x):=by
 unfold addR
 by_cases hf:x.From∈q
 ·rw [if_pos hf]
  refine ⟨sorted_with _ _ h.up,fun i hi=>?_,(mem_with _ _ _).2 (.inr h.st)⟩
  rcases (mem_with _ _ _).1 hi with e | e
  ·obtain ⟨k,hk⟩:=List.getElem?_of_mem hx
   rw [e];exact .step hk (h.rch _ hf)
  ·exact h.rch i e
 ·rw [if_neg hf];exact h
theorem add_sub {q:List Int} {x:T9} {a:Int} (h:a∈q):a∈addR q x:=by
 unfold addR
 split
 ·exact (mem_with _ _ _).2 (.inr h)
 ·exact h
theorem rnd_sub:∀ (l:List T9) {q:List Int} {a:Int},a∈q→a∈rndR l q
 | [],_,_,h=>h
 | x::l,_,_,h=>rnd_sub l (add_sub h)
theorem UpR.rnd:∀ (l:List T9),(∀ x∈l,x∈m.Moves)→∀ {q:List Int},UpR m q→UpR m (rndR l q)
 | [],_,_,h=>h
 | x::l,hl,_,h=>UpR.rnd l (fun y hy=>hl y (List.mem_cons_of_mem _ hy)) (h.add (hl x (List.mem_cons_self ..)))
theorem rnd_has:∀ (l:List T9) {q:List Int} {x:T9},x∈l→x.From∈q→x.To∈rndR l q
 | y::l,q,x,hx,hf=>by
  rcases List.mem_cons.1 hx with e | e
  ·subst e
   refine rnd_sub l ?_
   unfold addR
   rw [if_pos hf]
   exact (mem_with _ _ _).2 (.inl rfl)
  ·exact rnd_has l e (add_sub hf)
def ClR (m:T8) (q:List Int):Prop:=∀ x∈m.Moves,x.From∈q→x.To∈q
theorem rnd_cl (hm:NumM m) {q:List Int} (h:UpR m q):ClR m q∨q.length+1≤(rndR m.Moves q).length:=by
 by_cases hl:(rndR m.Moves q).length≤q.length
 ·refine .inl fun x hx hf=>?_
  have h1:=rnd_has m.Moves hx hf
  refine Classical.byContradiction fun hn=>?_
  have:=len_le_of (x.To::q) (rndR m.Moves q) (List.nodup_cons.2 ⟨hn,nodup_of_up h.up⟩) (fun a ha=>by
   rcases List.mem_cons.1 ha with e | e
   ·rw [e];exact h1
   ·exact rnd_sub _ e)
  simp at this;omega
 ·exact .inr (by omega)
theorem add_cl {q:List Int} (hc:ClR m q) {x:T9} (hx:x∈m.Moves):∀ a,a∈addR q x→a∈q:=fun a ha=>by
 unfold addR at ha
 by_cases hf:x.From∈q
 ·rw [if_pos hf] at ha
  rcases (mem_with _ _ _).1 ha with e | e
  ·rw [e];exact hc x hx hf
  ·exact e
 ·rw [if_neg hf] at ha;exact ha
theorem ClR.same {q r:List Int} (hc:ClR m q) (h1:∀ a,a∈q→a∈r) (h2:∀ a,a∈r→a∈q):ClR m r:=fun x hx hf=>h1 _ (hc x hx (h2 _ hf))
theorem ClR.rnd:∀ (l:List T9),(∀ x∈l,x∈m.Moves)→∀ {q:List Int},ClR m q→ClR m (rndR l q)
 | [],_,_,h=>h
 | x::l,hl,q,h=>ClR.rnd l (fun y hy=>hl y (List.mem_cons_of_mem _ hy)) (h.same (fun _ ha=>add_sub ha) (add_cl h (hl x (List.mem_cons_self ..))))
def rndsR (m:T8):Nat→List Int→List Int
 | 0,q=>q
 | n+1,q=>rndsR m n (rndR m.Moves q)
theorem rnds_cl (hm:NumM m):∀ (n:Nat) (q:List Int),UpR m q→UpR m (rndsR m n q)∧(ClR m (rndsR m n q)∨q.length+n≤(rndsR m n q).length)∧(ClR m q→ClR m (rndsR m n q))
 | 0,q,h=>⟨h,.inr (Nat.le_refl _),id⟩
 | n+1,q,h=>by
  have hr:=UpR.rnd m.Moves (fun _ h=>h) h
  obtain ⟨a,b,c⟩:=rnds_cl hm n (rndR m.Moves q) hr
  refine ⟨a,?_,fun hc=>c (hc.rnd m.Moves (fun _ h=>h))⟩
  rcases rnd_cl hm h with e | e
  ·exact .inl (c (e.rnd m.Moves (fun _ h=>h)))
  ·rcases b with b | b
   ·exact .inl b
   ·refine .inr ?_
    show q.length+(n+1)≤(rndsR m n (rndR m.Moves q)).length
    omega
theorem rnds_all (hm:NumM m) {S:Nat} (hS:m.States=(S:Int)):(((rndsR m S [m.Start]).length:Int)==m.States)=true↔∀ c:Int,0≤c→c < m.States→Rch m c:=by
  have h0:UpR m [m.Start]:=⟨by simp,fun i hi=>by rw [List.mem_singleton.1 hi];exact .start,by simp⟩
  obtain ⟨a,b,_⟩:=rnds_cl hm S [m.Start] h0
  have hl:=a.len hm hS
  have hc:ClR m (rndsR m S [m.Start]):=by
    rcases b with b | b
    · exact b
    · simp at b;omega
  have all:∀ i,Rch m i→i∈rndsR m S [m.Start]:=fun i h=>by
    induction h with
    | start=>exact a.st
    | step hx _ ih=>exact hc _ (List.mem_of_getElem? hx) ih
  rw [beq_iff_eq,hS]
  constructor
  · intro h c c0 c1
    refine Classical.byContradiction fun hn=>?_
    have hnm:c ∉ rndsR m S [m.Start]:=fun hm'=>hn (a.rch c hm')
    have:=len_le_of (c::rndsR m S [m.Start]) ((List.range S).map fun k:Nat=>(k:Int)) (List.nodup_cons.2 ⟨hnm,nodup_of_up a.up⟩) (fun b hb=>by
      have:0≤b∧b < (S:Int):=by
        rcases List.mem_cons.1 hb with e | e
        · omega
        · have:=(a.rch b e).lim hm;omega
      obtain ⟨k,rfl⟩:=Int.eq_ofNat_of_zero_le this.1
      exact List.mem_map.2 ⟨k,List.mem_range.2 (by omega),rfl⟩)
    simp at this;omega
  · intro h
    have h1:=len_le_of ((List.range S).map fun k:Nat=>(k:Int)) (rndsR m S [m.Start]) (List.Pairwise.map (S:=(·≠·)) (fun k:Nat=>(k:Int)) (fun (a b:Nat) (h:a≠b)=>show (a:Int)≠(b:Int) by omega) List.nodup_range) (fun b hb=>by
      obtain ⟨c,hc',rfl⟩:=List.mem_map.1 hb
      exact all _ (h c (by omega) (by have:=List.mem_range.1 hc';omega)))
    simp at h1
    omega
theorem rr_in (hN:4194304 < N) (hm:NumM m) {S:Nat} (hS:m.States=(S:Int)) (i:Int) (ag:List Int→Int→Option (List Int)):∀ (r:List T9) (n k:Nat) (q:List Int),m.Moves.drop k=r→r.length < n→UpR m q →
  ref26_Reached_l4 N m i ag n q (k:Int)=ag (rndR r q) (w64 (i+1)):=by
 intro r
 induction r with
 | nil =>
  intro n k q hr hn hq
  obtain ⟨n,rfl⟩:∃ p,n=p+1:=⟨n-1,by simp at hn;omega⟩
  rw [ref26_Reached_l4,lt_f (List.drop_eq_nil_iff.1 hr)];rfl
 | cons x r ih =>
  intro n k q hr hn hq
  obtain ⟨n,rfl⟩:∃ p,n=p+1:=⟨n-1,by simp at hn;omega⟩
  obtain ⟨hk,hx,hr'⟩:=drop_cons hr
  have hnm:=hm.n
  have hs1:=hm.s1
  have hl:=hq.len hm hS
  obtain ⟨b,eb,hb⟩:=has_iff hN q (by omega) x.From
  have hxm:=List.mem_of_getElem? hx
  rw [ref26_Reached_l4,lt_t hk,idx_nat,hx,w64_succ (by omega)]
  simp only [cT,bS]
  rw [eb]
  simp only [List.length_cons] at hn
  show _=ag (rndR r (addR q x)) _
  cases b with
  | true =>
   have e:addR q x=withV x.To false q:=by unfold addR;rw [if_pos (hb.1 rfl)]
   simp only [bS,cT]
   rw [with_eq hN q (by omega) x.To,e]
   exact ih n (k+1) (withV x.To false q) hr' (by omega) (e ▸ hq.add hxm)
  | false =>
   have e:addR q x=q:=by unfold addR;rw [if_neg (fun h=>by have:=hb.2 h;cases this)]
   rw [e]
   exact ih n (k+1) q hr' (by omega) hq
theorem rr_out (hN:4194304 < N) (hm:NumM m) {S:Nat} (hS:m.States=(S:Int)):∀ (d n j:Nat) (q:List Int),S-j=d→d < n→UpR m q→ref26_Reached_l2 N m n q (j:Int)=some (rndsR m (S-j) q):=by
 intro d
 have hs1:=hm.s1
 have hnm:=hm.n
 induction d with
 | zero =>
  intro n j q hd hn hq
  obtain ⟨n,rfl⟩:∃ p,n=p+1:=⟨n-1,by omega⟩
  have e:decide ((j:Int) < m.States)=false:=by simp;omega
  rw [ref26_Reached_l2,e,hd];rfl
 | succ d ih =>
  intro n j q hd hn hq
  obtain ⟨n,rfl⟩:∃ p,n=p+1:=⟨n-1,by omega⟩
  have e:decide ((j:Int) < m.States)=true:=by simp;omega
  rw [ref26_Reached_l2,e,cT,hd]
  have:=rr_in hN hm hS (j:Int) (ref26_Reached_l2 N m n) m.Moves N 0 q rfl (by omega) hq
  rw [show ((0:Nat):Int)=0 from rfl] at this
  rw [this,w64_succ (by omega),ih n (j+1) (rndR m.Moves q) (by omega) (by omega) (UpR.rnd m.Moves (fun _ h=>h) hq)]
  rw [show S-(j+1)=d by omega];rfl
theorem refReached_eq (hN:4194304 < N) (hm:NumM m):∃ q,ref26_Reached N m=some q∧(((q.length:Int)==m.States)=true↔∀ c:Int,0≤c→c < m.States→Rch m c):=by
 have h0:=hm.s0
 have h1:=hm.s1
 obtain ⟨S,hS⟩:=Int.eq_ofNat_of_zero_le (show 0≤m.States by omega)
 have hu:UpR m [m.Start]:=⟨by simp,fun i hi=>by rw [List.mem_singleton.1 hi];exact .start,by simp⟩
 have:=rr_out hN hm hS S N 0 [m.Start] rfl (by omega) hu
 exact ⟨_,this,rnds_all hm hS⟩
end Gp
end
section
namespace Gp
open Go Go.Kx Gx
variable {N:Nat} {m:T8}
structure ValidM (m:T8):Prop where
 n:NumM m
 ap:apM m=true
 tm:allV (timeM m) m.Timeouts 0=true
 rc:∀ c:Int,0≤c→c < m.States→Rch m c
theorem mValid_both (hN:4194304 < N) (m:T8) (ht:m.Timeouts.length≤4194304):∃ b,z134 N m=some b∧ref26_Valid N m=some b∧(b=true→ValidM m):=by
 unfold z134 z107 ref26_Valid
 rw [mnum_eq hN,refNum_eq hN]
 simp only [bS]
 cases hm:numM m with
 | false=>exact ⟨false,rfl,rfl,fun h=>by cases h⟩
 | true =>
  have hm:=(numM_iff m).1 hm
  rw [msorted_eq hN m hm]
  obtain ⟨b1,b2,e1,e2,e3⟩:=apart_both hN hm
  obtain ⟨b3,e4,h4⟩:=reached_iff hN hm
  obtain ⟨q,e5,h5⟩:=refReached_eq hN hm
  have e6:=timed_eq26 (t:=⟨m,outM N m⟩) hN rfl ht
  rw [refApart_eq hN hm,refTimed26_eq hN m ht,e5]
  have hq:((q.length:Int)==m.States)=b3:=by
   rw [Bool.eq_iff_iff];exact h5.trans h4.symm
  simp only [Bool.not_true,cond_false,bS,e1,e2,e4,e6]
  rw [hq,← e3]
  have fin:(b1 && b2)=true→b3=true→allV (timeM m) m.Timeouts 0=true→ValidM m:=fun x y z=>⟨hm,by rw [← e3];exact x,z,h4.1 y⟩
  revert fin
  generalize allV (timeM m) m.Timeouts 0=b4
  intro fin
  cases b1<;>cases b2<;>cases b3<;>cases b4<;>first | exact ⟨_,rfl,rfl,fun _=>fin rfl rfl rfl⟩ | exact ⟨_,rfl,rfl,fun h=>by cases h⟩
end Gp
end
section
namespace Gp
open Go Go.Kx Gx
variable {N:Nat}
end Gp
end
section
namespace Gp
open Go Go.Kx Gx
variable {N:Nat}
theorem vfit_fits {s:T10} (hs:sortOk s) (v:T12):vfitV s v=fitsV s v:=by
 unfold vfitV vsortV vvalidV vnumV fitsV vnum
 rcases hs with ⟨k,h1,h2,h3⟩ | ⟨k,h1,h2,h3⟩
 ·rw [k]
  rw [dT h1,dT h2,dT h3]
  by_cases c:v.Kind=1
  ·have e1:(v.Kind==1)=true:=by simp [c]
   have e2:(v.Kind==2)=false:=by simp [c]
   have e3:((1:Int)==v.Kind)=true:=by simp [c]
   rw [e1,e2,e3]
   simp only [cT,cond_false,Bool.true_and,beq_self_eq_true]
   by_cases q1:s.Lo≤v.N
   ·by_cases q2:v.N≤s.Hi
    ·rw [dT (show v.N≥-1000 by omega),dT (show v.N≤1000 by omega),dT (show v.N≥s.Lo from q1),dT q2]
     cases (v.S.toList==(str []).toList)<;>rfl
    ·rw [dF q2];simp
   ·rw [dF q1];simp
  ·have e1:(v.Kind==1)=false:=by simp [c]
   have e3:((1:Int)==v.Kind)=false:=by rw [beq_eq_false_iff_ne];exact fun e=>c e.symm
   rw [e1,e3];simp
 ·rw [k]
  have k1:((2:Int)==1)=false:=rfl
  rw [k1,dT h1,dT h2,dT h3]
  by_cases c:v.Kind=2
  ·have e1:(v.Kind==1)=false:=by simp [c]
   have e2:(v.Kind==2)=true:=by simp [c]
   have e3:((2:Int)==v.Kind)=true:=by simp [c]
   rw [e1,e2,e3]
   simp only [cT,cond_false,Bool.true_and,beq_self_eq_true]
   by_cases q2:(v.S.size:Int)≤s.Hi
   ·rw [dT (show (v.S.size:Int)≤40 by omega),dT q2]
    have:decide ((v.S.size:Int)≥s.Lo)=decide (s.Lo≤(v.S.size:Int)):=rfl
    rw [this]
    cases (v.N==0)<;>cases (bs v.S).any badB<;>cases decide (s.Lo≤(v.S.size:Int))<;>rfl
   ·rw [dF q2];simp
  ·have e1:(v.Kind==2)=false:=by simp [c]
   have e3:((2:Int)==v.Kind)=false:=by rw [beq_eq_false_iff_ne];exact fun e=>c e.symm
   rw [e1,e3];simp
theorem sortOk_of {d:List T0} (hv:validD d=true) {x:T0} (hx:x∈d) {f:T4} (hf:f∈x.Fields):sortOk f.Sort':=by
 obtain ⟨i,hi⟩:=List.mem_iff_getElem?.1 hx
 obtain ⟨first,_,_,_,_,h⟩:=valid_at hv hi
 unfold declV at h
 simp only [Bool.and_eq_true] at h
 have h:=h.2.2.2.2.1
 rw [allV_iff] at h
 obtain ⟨k,hk⟩:=List.mem_iff_getElem?.1 hf
 have:=h k f hk
 unfold fieldV at this
 simp only [Bool.and_eq_true,decide_eq_true_eq] at this
 exact this.2.1
theorem sortOk_flat {d:List T0} (hv:validD d=true) {f:T4} (hf:f∈flat d):sortOk f.Sort':=by
 unfold flat at hf
 obtain ⟨l,hl,hfl⟩:=List.mem_flatten.1 hf
 obtain ⟨x,hx,rfl⟩:=List.mem_map.1 hl
 exact sortOk_of hv hx hfl
theorem knownL_iff {d:List T0} (hv:validD d=true) (ks:List T12):knownV (flat d) ks=true↔KnownL (flat d) ks:=by
 unfold knownV KnownL
 rw [Bool.and_eq_true,decide_eq_true_eq,allV_iff]
 constructor
 ·rintro ⟨h1,h2⟩
  refine ⟨h1,fun i f v hf hv'=>?_⟩
  have:=h2 i v hv'
  rw [Nat.zero_add] at this
  unfold fitAt at this
  rw [hf] at this
  rw [vfit_fits (sortOk_flat hv (List.mem_of_getElem? hf))];exact this
 ·rintro ⟨h1,h2⟩
  refine ⟨h1,fun i v hv'=>?_⟩
  have hi:=(List.getElem?_eq_some_iff.1 hv').1
  have hf:=List.getElem?_eq_getElem (show i < (flat d).length by omega)
  rw [Nat.zero_add]
  unfold fitAt
  rw [hf]
  have:=h2 i _ v hf hv'
  rw [vfit_fits (sortOk_flat hv (List.mem_of_getElem? hf))] at this
  exact this
end Gp
end
section
namespace Gp
open Go Go.Kx Gx
variable {N:Nat}
structure AgrX (g:T5) (m:T8):Prop where
 a:AgrM g m
 mv:ValidM m
 gv:ValidG g
 r:m.Role < (g.Roles.length:Int)
 p:∀ x∈m.Moves,x.Peer < (g.Roles.length:Int)
theorem agree_both (hN:4194304 < N) (g:T5) (hg:SizeG g) (hs:SizeN g) (hn:NumE g) (m:T8) (ht:m.Timeouts.length≤4194304):∃ b,z60 N g m=some b∧ref40_together N g m=some b∧(b=true→AgrX g m):=by
 obtain ⟨b0,e0,h0⟩:=agree_some hN g hg hs m ht
 have e0':=e0
 unfold z60 at e0
 unfold ref40_together
 obtain ⟨b1,e1,f1,h1⟩:=Valid_both hN g hg hs hn
 obtain ⟨b2,e2,f2,h2⟩:=mValid_both hN m ht
 rw [e1,e2] at e0
 rw [f1,f2]
 simp only [bS] at e0 ⊢
 refine ⟨b0,e0',?_⟩
 cases b1 with
 | false=>cases e0;exact ⟨rfl,fun h=>by cases h⟩
 | true =>
 cases b2 with
 | false=>cases e0;exact ⟨rfl,fun h=>by cases h⟩
 | true =>
 have hm:=h2 rfl
 have hnm:=hm.n.n
 simp only [cT,Bool.not_true,cond_false] at e0 ⊢
 by_cases c:m.Role < (g.Roles.length:Int)
 ·rw [dT c] at e0
  rw [dF (show ¬ m.Role≥(g.Roles.length:Int) by omega)]
  simp only [cT,cond_false] at e0 ⊢
  unfold z135_11 z92_10 at e0
  have ep:∀ y,z132_9 N y g=some (decide (y.Peer≥(g.Roles.length:Int)) || decide (y.Label≥(g.Decls.length:Int))):=fun y=>by
   unfold z132_9
   cases decide (y.Peer≥(g.Roles.length:Int))<;>rfl
  obtain ⟨z,ez,hz⟩:=find_some (fun (y:T9)=>decide (y.Peer≥(g.Roles.length:Int)) || decide (y.Label≥(g.Decls.length:Int))) (xs:=m.Moves) (F:=z92_10_l2 N m.Moves g) (fun n k x hk hx=>by
   rw [z92_10_l2,lt_t hk,idx_nat,hx,w64_succ (by omega)]
   simp only [cT,bS,ep]) (fun n k hk=>by
   rw [z92_10_l2,lt_f hk];rfl) _ N 0 rfl (by omega)
  rw [show ((0:Nat):Int)=0 from rfl] at ez
  rw [ez] at e0
  simp only [bS] at e0
  have key:=allV_from (fun (y:T9) _ => !(decide (y.Peer≥(g.Roles.length:Int)) || decide (y.Label≥(g.Decls.length:Int)))) (xs:=m.Moves) (F:=ref40_together_l2 g m) (e:=some true) (n:=N) (by omega) (fun n k x hk hx=>by
   rw [ref40_together_l2,lt_t hk,idx_nat,hx,w64_succ (by omega)]
   simp only [cT,bS]
   cases decide (x.Peer≥(g.Roles.length:Int))<;>cases decide (x.Label≥(g.Decls.length:Int))<;>rfl) (fun n k hk=>by
   rw [ref40_together_l2,lt_f hk];rfl)
  have k0:ref40_together_l2 g m N 0=_:=key
  rw [k0]
  rcases hz with ⟨rfl,hz⟩ | ⟨i,y,rfl,hy,hp⟩
  ·cases e0
   have ha:allV (fun (y:T9) _ => !(decide (y.Peer≥(g.Roles.length:Int)) || decide (y.Label≥(g.Decls.length:Int)))) m.Moves 0=true:=by
    rw [allV_iff]
    intro i x hx
    rw [hz i x (Nat.zero_le _) hx];rfl
   rw [ha]
   refine ⟨rfl,fun _=>⟨h0 rfl,hm,h1.1 rfl,c,fun x hx=>?_⟩⟩
   obtain ⟨i,hi⟩:=List.getElem?_of_mem hx
   have:=hz i x (Nat.zero_le _) hi
   simp only [Bool.or_eq_false_iff,decide_eq_false_iff_not] at this
   omega
  ·have eb:b0=false:=by
    have:=Option.some.inj e0
    rw [← this];simp
   subst eb
   have ha:allV (fun (y:T9) _ => !(decide (y.Peer≥(g.Roles.length:Int)) || decide (y.Label≥(g.Decls.length:Int)))) m.Moves 0=false:=by
    cases hb:allV (fun (y:T9) _ => !(decide (y.Peer≥(g.Roles.length:Int)) || decide (y.Label≥(g.Decls.length:Int)))) m.Moves 0 with
    | false=>rfl
    | true =>
     rw [allV_iff] at hb
     have:=hb i y hy
     rw [hp] at this;cases this
   rw [ha]
   exact ⟨rfl,fun h=>by cases h⟩
 ·rw [dF c] at e0
  rw [dT (show m.Role≥(g.Roles.length:Int) by omega)]
  cases e0
  exact ⟨rfl,fun h=>by cases h⟩
structure StK (g:T5) (m:T8) (s:T16):Prop where
 a0:0≤s.At
 a1:s.At < m.States
 k:KnownL (flat g.Decls) s.Known
theorem fits_both (hN:4194304 < N) (g:T5) (hg:SizeG g) (hs:SizeN g) (hn:NumE g) (m:T8) (ht:m.Timeouts.length≤4194304) (s:T16) (hk:s.Known.length≤4194304) (hv:∀ v∈s.Known,v.S.size≤4194304) :
  ∃ b,z46 N g m s=some b∧ref40_Fits N g m s=some b∧(b=true↔z60 N g m=some true∧StK g m s):=by
 unfold z46 ref40_Fits
 obtain ⟨b,e,f,h⟩:=agree_both hN g hg hs hn m ht
 rw [e,f]
 simp only [bS]
 cases b with
 | false=>exact ⟨false,rfl,rfl,(fun h=>by cases h),(fun h=>by cases h.1)⟩
 | true =>
 have hA:=h rfl
 have hval:=hA.a.v
 obtain ⟨l1,l2⟩:=valid_len hval
 rw [mfields_eq hN g hval,refKnown_eq hN g.Decls (by omega) hg.dd hval s.Known hk hv]
 obtain ⟨q,eq,hq⟩:=known_eq hN (flat g.Decls) s.Known hk hv
 have hqk:knownV (flat g.Decls) s.Known=q:=by rw [Bool.eq_iff_iff,hq,knownL_iff hval]
 simp only [cT,bS,eq,hqk]
 by_cases c1:s.At≥0
 ·rw [dT c1]
  by_cases c2:s.At < m.States
  ·rw [dT c2]
   exact ⟨q,rfl,rfl,fun h=>⟨trivial,c1,c2,hq.1 h⟩,fun h=>hq.2 h.2.k⟩
  ·rw [dF c2]
   exact ⟨false,rfl,rfl,(fun h=>by cases h),fun h=>absurd h.2.a1 c2⟩
 ·rw [dF c1]
  exact ⟨false,rfl,rfl,(fun h=>by cases h),fun h=>absurd h.2.a0 c1⟩
theorem nothing_eq (hN:4194304 < N) (g:T5) (hg:SizeG g) (hv:validD g.Decls=true):ref14_Nothing N g.Decls=some (List.replicate (flat g.Decls).length ⟨0,0,str []⟩):=by
 obtain ⟨l1,l2⟩:=valid_len hv
 unfold ref14_Nothing
 rw [vars_eq hN g.Decls (by omega) hg.dd]
 simp only [bS]
 have e:mkL (⟨0,0,str []⟩:T12) ((flat g.Decls).length:Int) ((flat g.Decls).length:Int)=some (List.replicate (flat g.Decls).length ⟨0,0,str []⟩):=by
  unfold mkL
  rw [dT (by omega:(0:Int)≤((flat g.Decls).length:Int)),dT (Int.le_refl _),dT (by omega:((flat g.Decls).length:Int)≤4294967296)];rfl
 rw [e];rfl
end Gp
end
section
namespace Gp
open Go Go.Kx Gx
variable {N:Nat}
def hitM (y:T9) (at':Int) (x:T3):Bool:=y.From==at' && (y.Send==x.Send && (y.Peer==x.Peer && y.Label==x.Label))
def zeroS:T16:=⟨0,[],[]⟩
inductive StepR (g:T5) (m:T8) (s:T16) (x:T3):T16 × Int→Prop
 | role:x.Role≠m.Role→StepR g m s x (zeroS,12)
 | move:x.Role=m.Role→(∀ (i:Nat) y,m.Moves[i]? = some y→hitM y s.At x=false)→StepR g m s x (zeroS,23)
 | type {i:Nat} {y d}:x.Role=m.Role→m.Moves[i]? = some y→hitM y s.At x=true→idx g.Decls x.Label=some d→¬ FitsL d.Fields x.Values→StepR g m s x (zeroS,11)
 | guard {i:Nat} {y d}:x.Role=m.Role→m.Moves[i]? = some y→hitM y s.At x=true→idx g.Decls x.Label=some d→FitsL d.Fields x.Values→(checkV g.Decls x.Label x.Values s.Known=false∨(checkV g.Decls x.Label x.Values s.Known=true∧y.Again=true∧x.Values≠s.Pending))→StepR g m s x (zeroS,17)
 | ok {i:Nat} {y d} {first:Nat}:x.Role=m.Role→m.Moves[i]? = some y→hitM y s.At x=true→idx g.Decls x.Label=some d→FitsL d.Fields x.Values→checkV g.Decls x.Label x.Values s.Known=true→(y.Again=true→x.Values=s.Pending) →
   d.First=(first:Int)→first+x.Values.length≤s.Known.length→z96 N g.Decls x.Label x.Values s.Known=some (behindV first x.Values s.Known,0)→StepR g m s x (⟨y.To,behindV first x.Values s.Known,bif x.Send then x.Values else []⟩,0)
end Gp
end
section
namespace Gp
open Go Go.Kx Gx
variable {N:Nat} {g:T5} {m:T8}
theorem StM.K {s:T16} (h:StM g m s):StK g m s:=⟨h.a0,h.a1,h.k⟩
theorem refFits_true (c:Ctx0 N g m) (hn:NumE g) {s:T16} (hS:StM g m s):ref40_Fits N g m s=some true:=by
 obtain ⟨b,_,f,hb⟩:=fits_both c.hN g c.gg c.ss hn m c.t s (stM_known c hS) (known_size hS.k)
 rw [f,hb.2 ⟨c.e,hS.K⟩]
theorem refNew_eq (c:Ctx0 N g m) (hn:NumE g):ref40_New N g m=some (newV g m):=by
 obtain ⟨b,e,f,_⟩:=agree_both c.hN g c.gg c.ss hn m c.t
 rw [c.e] at e
 cases e
 unfold ref40_New
 rw [f,nothing_eq c.hN g c.gg c.a.v];rfl
end Gp
end
section
namespace Gp
open Go Go.Kx Gx
variable {N:Nat}
theorem bs_app (a b:ByteArray):bs (a++b)=bs a++bs b:=by
 unfold bs
 rw [ByteArray.data_append,Array.toList_append]
theorem cat_mk {a b:List UInt8} (h:a.length+b.length≤9223372036854775807):catS (mkB a) (mkB b)=some (mkB (a++b)):=by
 unfold catS
 have e:(mkB a).size=a.length∧(mkB b).size=b.length:=⟨by rw [size_bs,bs_mkB],by rw [size_bs,bs_mkB]⟩
 rw [e.1,e.2,dF (by simp only [IntKind.max];simp [IntKind.bits,IntKind.signed];omega)]
 simp only [cond_false]
 refine congrArg some (bs_inj ?_)
 rw [bs_app,bs_mkB,bs_mkB,bs_mkB]
theorem enc_digit:∀ d:Fin 10,Utf8.encode (wk .i32 (w64 ((48:Int)+(d.val:Int))))=mkB [UInt8.ofNat (48+d.val)]:=by decide
theorem enc_digit' {n:Int} {d:Nat} (hd:d < 10) (h:n=(48:Int)+(d:Int)):Utf8.encode (wk .i32 (w64 n))=mkB [UInt8.ofNat (48+d)]:=by
 rw [h];exact enc_digit ⟨d,hd⟩
theorem digN_len:∀ f u,(digN f u).length≤f
 | 0,_=>Nat.le_refl _
 | f+1,u=>by
  rw [digN]
  cases hb:Nat.blt u 10 with
  | true=>simp
  | false =>
   have:=digN_len f (u / 10)
   simp only [cond_false,lA,List.length_singleton]
   omega
theorem digits_pos:∀ (f m u:Nat),f≤24→u < 10 ^ (f+1)→u < 9223372036854775808→ref15_digits_r (f+1+m) (u:Int)=some (mkB (digN (f+1) u))
 | f,m,u,hf,h,hu=>by
  rw [show f+1+m=(f+m)+1 by omega,ref15_digits_r,ref15_digits_b,digN]
  rw [dF (show ¬ (u:Int) < -9 by omega),dF (show ¬ (u:Int) < 0 by omega)]
  simp only [cond_false]
  by_cases c:u < 10
  ·have hb:Nat.blt u 10=true:=by simpa [Nat.blt_eq] using c
   rw [dT (show (u:Int) < 10 by omega),hb,enc_digit' c rfl];rfl
  ·have hb:Nat.blt u 10=false:=by
    cases h0:Nat.blt u 10 with
    | false=>rfl
    | true=>exact absurd (by simpa [Nat.blt_eq] using h0) c
   rw [dF (show ¬ (u:Int) < 10 by omega),hb]
   have ht:w64 ((u:Int).tdiv 10)=((u / 10:Nat):Int):=by
    rw [show ((u:Int).tdiv 10)=((u / 10:Nat):Int) from by rw [Int.tdiv_eq_ediv_of_nonneg (by omega)];omega,w64_id (by omega) (by omega)]
   have hm:((48:Int)+(u:Int).tmod 10)=(48:Int)+((u % 10:Nat):Int):=by
    rw [Int.tmod_eq_emod_of_nonneg (by omega)];omega
   rw [ht,hm,enc_digit (⟨u % 10,Nat.mod_lt _ (by omega)⟩)]
   match f,h,hf with
   | 0,h,_=>omega
   | f+1,h,hf =>
    rw [show f+1+m=f+1+m by rfl,digits_pos f m (u / 10) (by omega) (by rw [Nat.pow_succ] at h;omega) (by omega)]
    simp only [bS,cond_false]
    have:=digN_len (f+1) (u / 10)
    rw [cat_mk (by simp only [List.length_singleton];omega)]
    rfl
theorem digits_neg:∀ (f m u:Nat),f≤24→0 < u→u < 10 ^ (f+1)→u≤9223372036854775808→ref15_digits_r (f+1+m) (-(u:Int))=some (mkB (45::digN (f+1) u))
 | f,m,u,hf,h0,h,hu=>by
  rw [show f+1+m=(f+m)+1 by omega,ref15_digits_r,ref15_digits_b,digN]
  by_cases c:u < 10
  ·have hb:Nat.blt u 10=true:=by simpa [Nat.blt_eq] using c
   rw [dF (show ¬ -(u:Int) < -9 by omega),dT (show -(u:Int) < 0 by omega),hb]
   simp only [cT,cond_false]
   rw [enc_digit' (n:=48 - -(u:Int)) c (by omega)]
   rw [show str [45]=mkB [45] from rfl,cat_mk (by simp)];rfl
  ·have hb:Nat.blt u 10=false:=by
    cases h0:Nat.blt u 10 with
    | false=>rfl
    | true=>exact absurd (by simpa [Nat.blt_eq] using h0) c
   rw [dT (show -(u:Int) < -9 by omega),hb]
   have ht:w64 ((-(u:Int)).tdiv 10)=-((u / 10:Nat):Int):=by
    rw [show ((-(u:Int)).tdiv 10)=-((u / 10:Nat):Int) from by rw [Int.neg_tdiv,Int.tdiv_eq_ediv_of_nonneg (by omega)];omega,w64_id (by omega) (by omega)]
   have hm:((48:Int)-(-(u:Int)).tmod 10)=(48:Int)+((u % 10:Nat):Int):=by
    rw [Int.neg_tmod,Int.tmod_eq_emod_of_nonneg (by omega)];omega
   rw [ht,hm,enc_digit (⟨u % 10,Nat.mod_lt _ (by omega)⟩)]
   match f,h,hf with
   | 0,h,_=>omega
   | f+1,h,hf =>
    rw [digits_neg f m (u / 10) (by omega) (by omega) (by rw [Nat.pow_succ] at h;omega) (by omega)]
    simp only [bS,cT]
    have:=digN_len (f+1) (u / 10)
    rw [cat_mk (by simp only [List.length_cons,List.length_nil];omega)]
    rfl
theorem digits15_eq (hN:4194304 < N) {n:Int} (h:I64 n):ref15_digits N n=some (itoaS n):=by
 obtain ⟨h1,h2⟩:=h
 unfold ref15_digits itoaS
 by_cases c:n < 0
 ·rw [dT c]
  have:=digits_neg 24 (N-25) n.natAbs (by omega) (by omega) (by omega) (by omega)
  rw [show 24+1+(N-25)=N by omega,show -((n.natAbs:Nat):Int)=n by omega] at this
  exact this
 ·rw [dF c]
  have:=digits_pos 24 (N-25) n.toNat (by omega) (by omega) (by omega)
  rw [show 24+1+(N-25)=N by omega,show ((n.toNat:Nat):Int)=n by omega] at this
  exact this
theorem digits_same:∀ (N:Nat) (n:Int),ref09_Digits_r N n=ref15_digits_r N n
 | 0,_=>rfl
 | N+1,n=>by
  rw [ref09_Digits_r,ref15_digits_r,show ref09_Digits_r N=ref15_digits_r N from funext fun n=>digits_same N n]
  rfl
theorem digits09_eq (hN:4194304 < N) {n:Int} (h:I64 n):ref09_Digits N n=some (itoaS n):=by
 rw [← digits15_eq hN h]
 exact digits_same N n
theorem itoa_eq {n:Int} (h:I64 n):z65 N n=some (itoaS n):=by
 unfold z65
 rw [dT h.1,dT h.2];rfl
theorem itoa_len (n:Int):(itoaS n).size≤26:=by
 unfold itoaS
 have h1:=digN_len 25 n.natAbs
 have h2:=digN_len 25 n.toNat
 show (bif decide (n < 0) then 45::digN 25 n.natAbs else digN 25 n.toNat).toArray.size≤26
 cases decide (n < 0)<;>simp<;>omega
end Gp
end
section
namespace Gp
open Go Go.Kx Gx
variable {N:Nat}
structure NumV (v:T12):Prop where
 n:I64 v.N
 s:v.S.size≤4194304
end Gp
end
section
namespace Gp
open Go Go.Kx Gx
variable {N:Nat}
structure ShowOk (g:T5) (x:T3):Prop where
 r:∀ s∈g.Roles,s.size≤4194304
 d:g.Decls.length≤4194304
 n:∀ y∈g.Decls,y.Name.size≤4194304
 l:x.Values.length≤4194304
 v:∀ v∈x.Values,NumV v
theorem cat_bs {s:ByteArray} {b:List UInt8} (h:(bs s).length+b.length≤9223372036854775807):catS s (mkB b)=some (mkB (bs s++b)):=by
 have:=cat_mk (a:=bs s) (b:=b) h
 rw [mkB_bs] at this
 exact this
theorem cat_sb {s:ByteArray} {b:List UInt8} (h:b.length+(bs s).length≤9223372036854775807):catS (mkB b) s=some (mkB (b++bs s)):=by
 have:=cat_mk (a:=b) (b:=bs s) h
 rw [mkB_bs] at this
 exact this
end Gp
end
section
namespace Gp
open Go Go.Kx Gx
variable {N:Nat}
theorem flat_find:∀ (r:List T0) (x:Nat),x < (flat r).length→∃ (i:Nat) (d:T0) (j:Nat) (f:T4),r[i]? = some d∧d.Fields[j]? = some f∧x=(flat (r.take i)).length+j
 | [],x,h=>by simp [flat] at h
 | d::r,x,h=>by
  rw [flat_cons,lA] at h
  by_cases c:x < d.Fields.length
  ·exact ⟨0,d,x,d.Fields[x],rfl,List.getElem?_eq_getElem c,by simp [flat]⟩
  ·obtain ⟨i,e,j,f,h1,h2,h3⟩:=flat_find r (x-d.Fields.length) (by omega)
   refine ⟨i+1,e,j,f,by simpa using h1,h2,?_⟩
   rw [List.take_succ_cons,flat_cons,lA]
   omega
theorem var_loop (l:List T0) (hl:l.length≤4194304) (hfl:(flat l).length≤4194304) {i j:Nat} {d:T0} {f:T4} (hi:l[i]? = some d) (hj:d.Fields[j]? = some f):∀ (q n k:Nat),i=k+q→q < n →
  z152_l2 l n (((flat (l.take i)).length+j-(flat (l.take k)).length:Nat):Int) (k:Int)=some (d,f,true)
 | 0,n,k,hq,hn=>by
  obtain ⟨n,rfl⟩:∃ m,n=m+1:=⟨n-1,by omega⟩
  obtain rfl:i=k:=by omega
  have hk:=(List.getElem?_eq_some_iff.1 hi).1
  have hjl:=(List.getElem?_eq_some_iff.1 hj).1
  rw [show (flat (l.take i)).length+j-(flat (l.take i)).length=j by omega,z152_l2,lt_t hk,idx_nat,hi]
  simp only [cT,bS]
  rw [dT (show (j:Int)≥0 by omega),lt_t hjl,idx_nat,hj];rfl
 | q+1,n,k,hq,hn=>by
  obtain ⟨n,rfl⟩:∃ m,n=m+1:=⟨n-1,by omega⟩
  have hi':=(List.getElem?_eq_some_iff.1 hi).1
  have hk:k < l.length:=by omega
  have hg:=List.getElem?_eq_getElem hk
  have hnx:=flat_next hg
  have hmono:(flat (l.take (k+1))).length≤(flat (l.take i)).length:=by
   have:=flat_take_le (l.take i) (k+1)
   rw [List.take_take,show min (k+1) i=k+1 by omega] at this
   exact this
  have htot:=flat_take_le l (i+1)
  have hn2:=flat_next hi
  have hjl:=(List.getElem?_eq_some_iff.1 hj).1
  rw [z152_l2,lt_t hk,idx_nat,hg]
  simp only [cT,bS]
  rw [dT (show (((flat (l.take i)).length+j-(flat (l.take k)).length:Nat):Int)≥0 by omega),lt_f (by omega)]
  simp only [cT,cond_false]
  rw [w64_succ (by omega),w64_id (by omega) (by omega)]
  have:=var_loop l hl hfl hi hj q n (k+1) (by omega) (by omega)
  rw [← this]
  congr 1
  omega
theorem name_loop (l:List T0) (hl:l.length≤4194304) (hfl:(flat l).length≤4194304) (hv:validD l=true) (hnm:∀ x∈l,NameD x) {i j:Nat} {d:T0} {f:T4} (hi:l[i]? = some d) (hj:d.Fields[j]? = some f) {x:Int} (hx:x=(((flat (l.take i)).length+j:Nat):Int)):∀ (q n k:Nat),i=k+q→q < n →
  ref41_name_l2 l x n (k:Int)=some (mkB (bs d.Name++[46]++bs f.Name),f.Sort'.Kind==2)
 | 0,n,k,hq,hn=>by
  obtain ⟨n,rfl⟩:∃ m,n=m+1:=⟨n-1,by omega⟩
  obtain rfl:i=k:=by omega
  have hk:=(List.getElem?_eq_some_iff.1 hi).1
  have hjl:=(List.getElem?_eq_some_iff.1 hj).1
  have htot:=flat_take_le l (i+1)
  have hn2:=flat_next hi
  obtain ⟨first,h1,_,_,_,h2⟩:=valid_at hv hi
  unfold declV at h2
  simp only [Bool.and_eq_true,decide_eq_true_eq] at h2
  have hF:=h2.2.2.1
  obtain ⟨n1,n2⟩:=hnm d (List.mem_of_getElem? hi)
  have n2:=n2 f (List.mem_of_getElem? hj)
  rw [size_bs] at n1 n2
  rw [ref41_name_l2,lt_t hk,idx_nat,hi]
  simp only [cT,bS]
  rw [hF,hx,dT (by omega),w64_id (by omega) (by omega),dT (by omega)]
  simp only [cT]
  rw [w64_id (by omega) (by omega),idx_int (k:=j) (by omega),hj]
  simp only [bS]
  rw [show str [46]=mkB [46] from rfl,cat_bs (by simp;omega),bS,cat_sb (by simp;omega)];rfl
 | q+1,n,k,hq,hn=>by
  obtain ⟨n,rfl⟩:∃ m,n=m+1:=⟨n-1,by omega⟩
  have hi':=(List.getElem?_eq_some_iff.1 hi).1
  have hk:k < l.length:=by omega
  have hg:=List.getElem?_eq_getElem hk
  have hnx:=flat_next hg
  have hmono:(flat (l.take (k+1))).length≤(flat (l.take i)).length:=by
   have:=flat_take_le (l.take i) (k+1)
   rw [List.take_take,show min (k+1) i=k+1 by omega] at this
   exact this
  have htot:=flat_take_le l (i+1)
  have hn2:=flat_next hi
  have hjl:=(List.getElem?_eq_some_iff.1 hj).1
  obtain ⟨first,h1,_,_,_,h2⟩:=valid_at hv hg
  unfold declV at h2
  simp only [Bool.and_eq_true,decide_eq_true_eq] at h2
  have hF:=h2.2.2.1
  rw [ref41_name_l2,lt_t hk,idx_nat,hg]
  simp only [cT,bS]
  rw [hF,dT (show x≥_ by omega),w64_id (by omega) (by omega),dF (by omega)]
  simp only [cT,cond_false]
  rw [w64_succ (by omega)]
  exact name_loop l hl hfl hv hnm hi hj hx q n (k+1) (by omega) (by omega)
theorem path_both (hN:4194304 < N) {l:List T0} (hl:l.length≤1000) (hd:∀ x∈l,SizeD x) (hv:validD l=true) (hnm:∀ x∈l,NameD x) {x:Int} (h0:0≤x) (h1:x < ((flat l).length:Int)) :
  ∃ s u t,s.length≤16777216∧u.length≤16777216∧z74 N l x=some (mkB s)∧ref41_name N l x=some (mkB s,t)∧z151 N l x=some (mkB u)∧ref41_number N l x=some (mkB u):=by
 have hfl:(flat l).length≤4194304:=by
  unfold validD at hv
  simp only [Bool.and_eq_true,decide_eq_true_eq] at hv
  omega
 obtain ⟨k,rfl⟩:=Int.eq_ofNat_of_zero_le h0
 obtain ⟨i,d,j,f,hi,hj,hx⟩:=flat_find l k (by omega)
 have hil:=(List.getElem?_eq_some_iff.1 hi).1
 have e1:=var_loop l (by omega) hfl hi hj i N 0 (by omega) (by omega)
 rw [show (flat (l.take i)).length+j-(flat (l.take 0)).length=k by simp [flat] at *;omega] at e1
 have e2:=name_loop l (by omega) hfl hv hnm hi hj (x:=(k:Int)) (by omega) i N 0 (by omega) (by omega)
 obtain ⟨n1,n2⟩:=hnm d (List.mem_of_getElem? hi)
 have n2:=n2 f (List.mem_of_getElem? hj)
 rw [size_bs] at n1 n2
 have e1:z152 N l (k:Int)=some (d,f,true):=e1
 have e2:ref41_name N l (k:Int)=some (mkB (bs d.Name++[46]++bs f.Name),f.Sort'.Kind==2):=e2
 have e3:z74 N l (k:Int)=some (mkB (bs d.Name++[46]++bs f.Name)):=by
  unfold z74
  rw [e1]
  simp only [bS]
  rw [show str [46]=mkB [46] from rfl,cat_bs (by simp;omega),bS,cat_sb (by simp;omega)];rfl
 cases hk:(f.Sort'.Kind==2) with
 | true =>
  refine ⟨_,[108,101,110,40]++(bs d.Name++[46]++bs f.Name)++[41],true,by simp;omega,by simp;omega,e3,by rw [e2,hk],?_,?_⟩
  ·unfold z151
   rw [e1]
   simp only [bS,hk,cT]
   rw [e3,bS,show str [108,101,110,40]=mkB [108,101,110,40] from rfl,show str [41]=mkB [41] from rfl,cat_mk (by simp;omega),bS,cat_mk (by simp;omega)];rfl
  ·unfold ref41_number
   rw [e2]
   simp only [bS,hk,cT]
   rw [show str [108,101,110,40]=mkB [108,101,110,40] from rfl,show str [41]=mkB [41] from rfl,cat_mk (by simp;omega),bS,cat_mk (by simp;omega)];rfl
 | false =>
  refine ⟨bs d.Name++[46]++bs f.Name,bs d.Name++[46]++bs f.Name,false,by simp only [lA,List.length_cons,List.length_nil];omega,by simp only [lA,List.length_cons,List.length_nil];omega,e3,by rw [e2,hk],?_,?_⟩
  ·unfold z151
   rw [e1]
   simp only [bS,hk,cond_false]
   exact by rw [e3];rfl
  ·unfold ref41_number
   rw [e2,hk];rfl
theorem itoa_bs (n:Int):(bs (itoaS n)).length≤26:=by rw [← size_bs];exact itoa_len n
theorem diffOk_of {fl:List T4} {g:T6} (h:guardV fl g=true) {d:T1} (hd:d∈g.Diffs):diffOk (fl.length:Int) d:=by
 unfold guardV at h
 simp only [Bool.and_eq_true,decide_eq_true_eq] at h
 have h3:=h.2.1
 rw [allV_iff] at h3
 obtain ⟨i,hi⟩:=List.mem_iff_getElem?.1 hd
 exact of_decide_eq_true (h3 i d hi)
theorem bounds_some (hN:4194304 < N) (d:T0) (hd:SizeD d):∃ r,z72 N d=some r :=
 bounds_l4 hN d hd d.Fields 0 N [] rfl (by have:=hd.f;omega) (by have:=hd.f;simp;omega)
def rdiff (N:Nat) (l:List T0) (d:T1):Option ByteArray :=
 bif decide (d.X < (0:Int)) then (bif decide (d.Y < (0:Int)) then ((ref09_Digits N d.C).bind fun x13=>(catS (str [48,32,60,61,32]) x13).bind fun x14=>some x14)
  else (ref41_number N l d.Y).bind fun x19=>(catS x19 (str [32,62,61,32])).bind fun x20=>(ref09_Digits N (w64 (0-d.C))).bind fun x21=>(catS x20 x21).bind fun x22=>some x22)
 else bif decide (d.Y < (0:Int)) then ((ref41_number N l d.X).bind fun x33=>(catS x33 (str [32,60,61,32])).bind fun x34=>(ref09_Digits N d.C).bind fun x35=>(catS x34 x35).bind fun x36=>some x36)
 else (ref41_number N l d.X).bind fun x41=>(catS x41 (str [32,60,61,32])).bind fun x42=>(ref41_number N l d.Y).bind fun x43=>(catS x42 x43).bind fun x44 =>
  bif decide (d.C > (0:Int)) then ((catS x44 (str [32,43,32])).bind fun x45=>(ref09_Digits N d.C).bind fun x46=>(catS x45 x46).bind fun x47=>some x47)
  else bif decide (d.C < (0:Int)) then ((catS x44 (str [32,45,32])).bind fun x48=>(ref09_Digits N (w64 (0-d.C))).bind fun x49=>(catS x48 x49).bind fun x50=>some x50)
  else some x44
theorem diff_both (hN:4194304 < N) {l:List T0} (hl:l.length≤1000) (hd:∀ x∈l,SizeD x) (hv:validD l=true) (hnm:∀ x∈l,NameD x) {d:T1} (h:diffOk ((flat l).length:Int) d) :
  ∃ s:List UInt8,s.length≤67108864∧z73 N l d=some (mkB s)∧rdiff N l d=some (mkB s):=by
 obtain ⟨a1,a2,a3,a4,a5,a6⟩:=h
 have hc:I64 d.C:=⟨by omega,by omega⟩
 have hw:w64 (0-d.C)=-d.C:=by rw [w64_id (by omega) (by omega)];omega
 have hm:I64 (-d.C):=⟨by omega,by omega⟩
 have l1:=itoa_bs d.C
 have l2:=itoa_bs (-d.C)
 unfold z73 rdiff
 by_cases cX:d.X < 0
 ·rw [dT cX]
  by_cases cY:d.Y < 0
  ·rw [dT cY]
   simp only [cT]
   unfold z73_k1
   rw [itoa_eq hc,digits09_eq hN hc]
   simp only [cT,bS]
   rw [show str [48,32,60,61,32]=mkB [48,32,60,61,32] from rfl,cat_sb (by simp;omega)]
   exact ⟨_,by simp;omega,rfl,rfl⟩
  ·obtain ⟨s,u,t,_,b2,_,_,e3,e4⟩:=path_both hN hl hd hv hnm (x:=d.Y) (by omega) a4
   rw [dF cY]
   simp only [cT,cond_false]
   unfold z73_k1
   rw [dT cX,dF cY,hw,itoa_eq hm,digits09_eq hN hm,e3,e4]
   simp only [cT,cond_false,bS]
   rw [show str [32,62,61,32]=mkB [32,62,61,32] from rfl,cat_mk (by simp;omega)]
   simp only [bS]
   rw [cat_sb (by simp;omega)]
   exact ⟨_,by simp;omega,rfl,rfl⟩
 ·rw [dF cX]
  simp only [cond_false]
  unfold z73_k1
  obtain ⟨s,u,t,_,b2,_,_,e3,e4⟩:=path_both hN hl hd hv hnm (x:=d.X) (by omega) a2
  by_cases cY:d.Y < 0
  ·rw [dT cY,itoa_eq hc,digits09_eq hN hc,e3,e4]
   simp only [cT,cond_false,bS]
   rw [show str [32,60,61,32]=mkB [32,60,61,32] from rfl,cat_mk (by simp;omega)]
   simp only [bS]
   rw [cat_sb (by simp;omega)]
   exact ⟨_,by simp;omega,rfl,rfl⟩
  ·obtain ⟨s',u',t',_,b2',_,_,e3',e4'⟩:=path_both hN hl hd hv hnm (x:=d.Y) (by omega) a4
   rw [dF cX,dF cY,e3,e4,e3',e4']
   simp only [cT,cond_false,bS]
   rw [show str [32,60,61,32]=mkB [32,60,61,32] from rfl,cat_mk (by simp;omega)]
   simp only [bS]
   rw [cat_mk (by simp;omega)]
   simp only [bS]
   by_cases p1:d.C > 0
   ·rw [dT p1,itoa_eq hc,digits09_eq hN hc]
    simp only [cT,bS]
    rw [show str [32,43,32]=mkB [32,43,32] from rfl,cat_mk (by simp;omega)]
    simp only [bS]
    rw [cat_sb (by simp;omega)]
    exact ⟨_,by simp;omega,rfl,rfl⟩
   ·rw [dF p1]
    by_cases p2:d.C < 0
    ·rw [dT p2,hw,itoa_eq hm,digits09_eq hN hm]
     simp only [cT,cond_false,bS]
     rw [show str [32,45,32]=mkB [32,45,32] from rfl,cat_mk (by simp;omega)]
     simp only [bS]
     rw [cat_sb (by simp;omega)]
     exact ⟨_,by simp;omega,rfl,rfl⟩
    ·rw [dF p2]
     exact ⟨_,by simp;omega,rfl,rfl⟩
theorem atom_both (hN:4194304 < N) (l:List T0) (hl:l.length≤1000) (hd:∀ x∈l,SizeD x) (hnm:∀ x∈l,NameD x) {at' part:Int} (hp:I64 part) :
  ∃ s:List UInt8,s.length≤67108864∧z39 N l at' part=some (mkB s)∧ref41_Atom N l at' part=some (mkB s):=by
 have none':∃ s:List UInt8,s.length≤67108864∧some (str [])=some (mkB s)∧some (str [])=some (mkB s):=⟨[],by simp,rfl,rfl⟩
 unfold z39 ref41_Atom z37
 rw [refValid_eq hN l (by omega) hd hnm,valid_eq hN l (by omega) hd hnm]
 simp only [bS]
 by_cases c1:at' < 0
 ·rw [dT c1]
  cases validD l<;>exact none'
 rw [dF c1]
 by_cases c2:at'≥(l.length:Int)
 ·rw [dT c2]
  cases validD l<;>exact none'
 rw [dF c2]
 simp only [cond_false]
 cases hv:validD l with
 | false=>exact none'
 | true =>
 obtain ⟨k,rfl⟩:=Int.eq_ofNat_of_zero_le (show 0≤at' by omega)
 have hk:k < l.length:=by omega
 have hg:=List.getElem?_eq_getElem hk
 generalize hy:l[k]=y at hg
 have hmem:=List.mem_of_getElem? hg
 obtain ⟨r,er⟩:=bounds_some hN y (hd y hmem)
 have e0:((0:Int) != 0)=false:=rfl
 simp only [Bool.not_true,cond_false,idx_nat,hg,bS,er,e0]
 by_cases c3:part < 0
 ·rw [dT c3];exact none'
 rw [dF c3]
 simp only [cond_false]
 obtain ⟨p,rfl⟩:=Int.eq_ofNat_of_zero_le (show 0≤part by omega)
 have hgv:guardV (flat l) y.Guard=true:=by
  obtain ⟨_,_,_,_,_,h2⟩:=valid_at hv hg
  exact guard_of h2
 have hin:=inG_of hgv
 have h1:=hin.dl
 have h2:=hin.el
 have hpp:ref41_Parts N y=some (((y.Guard.Diffs.length+y.Guard.Equals.length:Nat)):Int):=by
  unfold ref41_Parts
  rw [w64_id (by omega) (by omega)]
  congr 1
 rw [hpp]
 simp only [bS]
 by_cases c4:p < y.Guard.Diffs.length
 ·have hx:=List.getElem?_eq_getElem c4
  rw [lt_t c4,dF (show ¬ (p:Int)≥((y.Guard.Diffs.length+y.Guard.Equals.length:Nat):Int) by omega),dF (show ¬ (p:Int)≥(y.Guard.Diffs.length:Int) by omega),idx_nat,hx]
  obtain ⟨s,q1,q2,q3⟩:=diff_both hN hl hd hv hnm (diffOk_of hgv (List.mem_of_getElem? hx))
  simp only [cT,cond_false,bS]
  refine ⟨s,q1,by rw [q2];rfl,?_⟩
  rw [← q3]
  unfold rdiff
  cases decide ((y.Guard.Diffs[p]).X < 0)<;>cases decide ((y.Guard.Diffs[p]).Y < 0)<;>rfl
 ·rw [lt_f (by omega)]
  simp only [cond_false]
  have hi:=hp.2
  have hw:w64 ((p:Int)-(y.Guard.Diffs.length:Int))=((p-y.Guard.Diffs.length:Nat):Int):=by rw [w64_id (by omega) (by omega)];omega
  rw [hw]
  by_cases c5:p-y.Guard.Diffs.length < y.Guard.Equals.length
  ·have hx:=List.getElem?_eq_getElem c5
   rw [lt_t c5,dF (show ¬ (p:Int)≥((y.Guard.Diffs.length+y.Guard.Equals.length:Nat):Int) by omega),dT (show (p:Int)≥(y.Guard.Diffs.length:Int) by omega),idx_nat,hx]
   obtain ⟨⟨a1,a2⟩,a3,a4⟩:=hin.e _ (List.mem_of_getElem? hx)
   obtain ⟨s,u,t,b1,_,q1,q2,_,_⟩:=path_both hN hl hd hv hnm a1 a2
   obtain ⟨s',u',t',b1',_,q1',q2',_,_⟩:=path_both hN hl hd hv hnm a3 a4
   simp only [cT,cond_false,bS,q1,q2,q1',q2']
   rw [show str [32,61,61,32]=mkB [32,61,61,32] from rfl,cat_mk (by simp;omega)]
   simp only [bS]
   rw [cat_mk (by simp;omega)]
   exact ⟨_,by simp;omega,rfl,rfl⟩
  ·rw [lt_f (by omega),dT (show (p:Int)≥((y.Guard.Diffs.length+y.Guard.Equals.length:Nat):Int) by omega)]
   exact none'
end Gp
end
section
namespace Gp
open Go Go.Kx Gx
variable {N:Nat} {g:T5} {m:T8}
theorem open_eq (hN:4194304 < N) (ht:m.Timeouts.length≤4194304) (hv:ValidM m):z107 N m=some (some ⟨m,outM N m⟩,true):=by
 have hm:=hv.n
 unfold z107
 rw [mnum_eq hN,(numM_iff m).2 hm]
 simp only [bS,Bool.not_true,cond_false]
 rw [msorted_eq hN m hm]
 obtain ⟨b1,b2,e1,e2,e3⟩:=apart_both hN hm
 obtain ⟨b3,e4,h4⟩:=reached_iff hN hm
 have e6:=timed_eq26 (t:=⟨m,outM N m⟩) hN rfl ht
 rw [hv.ap,Bool.and_eq_true] at e3
 obtain ⟨rfl,rfl⟩:=e3
 have:b3=true:=h4.2 hv.rc
 subst this
 rw [hv.tm] at e6
 simp only [bS,e1,e2,e4,e6,cT]
theorem pairP_of (hN:4194304 < N) (hv:ValidM m):pairP m:=((apart_iff hN hv.n).2 hv.ap).1
theorem ltM_tri {x y:T9} (h1:¬ ltM x y) (h2:cmpM x y≠0):ltM y x:=by
 rw [Ne,cmpM_eq] at h2
 unfold ltM at *
 revert h1 h2
 cases x.Send<;>cases y.Send<;>simp<;>omega
def ltI (m:T8) (a b:Int):Prop:=∃ x y,m.Moves[a.toNat]? = some x∧m.Moves[b.toNat]? = some y∧ltM x y
theorem ltI_as (a b:Int) (h:ltI m a b):¬ ltI m b a:=by
 obtain ⟨x,y,h1,h2,h3⟩:=h
 rintro ⟨y',x',g1,g2,g3⟩
 rw [h1] at g2;rw [h2] at g1
 cases g1;cases g2
 exact ltM_irr _ (ltM_tr h3 g3)
theorem ltI_tr {a b c:Int} (h:ltI m a b) (k:ltI m b c):ltI m a c:=by
 obtain ⟨x,y,h1,h2,h3⟩:=h
 obtain ⟨y',z,g1,g2,g3⟩:=k
 rw [h2] at g1;cases g1
 exact ⟨x,z,h1,g2,ltM_tr h3 g3⟩
theorem pw_uniq {r:Int→Int→Prop} (has:∀ a b,r a b→¬ r b a):∀ (A B:List Int),(∀ a,a∈A↔a∈B)→A.Pairwise r→B.Pairwise r→A=B
 | [],[],_,_,_=>rfl
 | [],y::B,h,_,_=>absurd ((h y).2 (by simp)) (by simp)
 | x::A,[],h,_,_=>absurd ((h x).1 (by simp)) (by simp)
 | x::A,y::B,h,ha,hb=>by
  rw [List.pairwise_cons] at ha hb
  have hxy:x=y:=Classical.byContradiction fun hne=>by
   have h1:x∈B:=by
    rcases List.mem_cons.1 ((h x).1 (by simp)) with e | e
    ·exact absurd e hne
    ·exact e
   have h2:y∈A:=by
    rcases List.mem_cons.1 ((h y).2 (by simp)) with e | e
    ·exact absurd e.symm hne
    ·exact e
   exact has _ _ (ha.1 y h2) (hb.1 x h1)
  subst hxy
  rw [pw_uniq has A B (fun a=>⟨fun h1=>by
   rcases List.mem_cons.1 ((h a).1 (List.mem_cons_of_mem _ h1)) with e | e
   ·subst e;exact absurd (ha.1 a h1) (has _ _ (ha.1 a h1))
   ·exact e,fun h1=>by
   rcases List.mem_cons.1 ((h a).2 (List.mem_cons_of_mem _ h1)) with e | e
   ·subst e;exact absurd (hb.1 a h1) (has _ _ (hb.1 a h1))
   ·exact e⟩) ha.2 hb.2]
structure MovesAre (m:T8) (s:Int) (i:Nat) (L:List Int):Prop where
 srt:L.Pairwise (ltI m)
 mem:∀ a,a∈L↔∃ (k:Nat) (x:T9),a=(k:Int)∧k < i∧m.Moves[k]? = some x∧x.From=s
 len:L.length≤i
theorem MovesAre.uniq {s:Int} {i:Nat} {A B:List Int} (h:MovesAre m s i A) (k:MovesAre m s i B):A=B :=
 pw_uniq ltI_as A B (fun a=>(h.mem a).trans (k.mem a).symm) h.srt k.srt
theorem row_are (hN:4194304 < N) (hv:ValidM m) (s:Nat) (hs:s < m.States.toNat):∃ L,(outM N m)[s]? = some L∧MovesAre m (s:Int) m.Moves.length L∧L.length=(ixM m m.Moves.length s).length:=by
 obtain ⟨l,h1,h2,h3,h4⟩:=row_facts hN hv.n s hs
 have hp:=pairP_of hN hv
 refine ⟨l,h1,⟨?_,fun a=>⟨fun h=>?_,fun h=>?_⟩,?_⟩,?_⟩
 ·rw [List.pairwise_iff_getElem]
  intro i j hi hj hij
  obtain ⟨a,x,e1,e2,e3⟩:=(h3 _).1 (List.getElem_mem hi)
  obtain ⟨b,y,f1,f2,f3⟩:=(h3 _).1 (List.getElem_mem hj)
  have hne:a≠b:=fun e=>by
   have:l[i]=l[j]:=by rw [e1,f1,e]
   have:=(List.getElem_inj h2).1 this
   omega
  have hd:=hp b a y x (Ne.symm hne) f2 e2 (f3.trans e3.symm)
  rw [e1,f1]
  refine ⟨x,y,by rw [Int.toNat_natCast];exact e2,by rw [Int.toNat_natCast];exact f2,?_⟩
  exact ltM_tri (h4 i j a b x y hij (by rw [List.getElem?_eq_getElem hi,e1]) (by rw [List.getElem?_eq_getElem hj,f1]) e2 f2) (fun c=>by
   rw [cmpM_eq] at c
   exact hd.2 ⟨c.2.1,c.2.2⟩)
 ·obtain ⟨k,x,e1,e2,e3⟩:=(h3 a).1 h
  exact ⟨k,x,e1,(List.getElem?_eq_some_iff.1 e2).1,e2,e3⟩
 ·obtain ⟨k,x,e1,_,e2,e3⟩:=h
  exact (h3 a).2 ⟨k,x,e1,e2,e3⟩
 ·have h1':=h1
  rw [outM_get N m s hs] at h1'
  rw [← Option.some.inj h1',(outM_perm hN m hv.n s).1.length_eq]
  exact ixM_len m m.Moves.length s
 ·rw [outM_get N m s hs] at h1
  rw [← Option.some.inj h1]
  exact (outM_perm hN m hv.n s).1.length_eq
theorem before25_eq (x y:T9):∃ b,ref25_Before N x y=some b∧(b=true↔ltM x y):=by
 unfold ref25_Before ltM
 cases hx:x.Send<;>cases hy:y.Send
 case true.false=>exact ⟨true,rfl,by simp⟩
 case false.true=>exact ⟨false,rfl,by simp⟩
 all_goals
  by_cases c:x.Peer=y.Peer
  ·exact ⟨decide (x.Label < y.Label),by simp [c],by simp [c]⟩
  ·have e:(x.Peer != y.Peer)=true:=by simpa using c
   exact ⟨decide (x.Peer < y.Peer),by rw [e];rfl,by simp [c]⟩
theorem refOut_in (hN:4194304 < N) (hp:pairP m) (hn:m.Moves.length≤400) {s:Int} {i:Nat} {acc:List Int} (h:MovesAre m s i acc) {v:T9} (hv:m.Moves[i]? = some v) (hs:v.From=s) (ag:List Int→Int→Option (List Int)) :
  ∀ (n:Nat) (A B:List Int) (j:Int),B.length < n→acc=A++B→j=(A.length:Int)→(∀ y∈A,ltI m y (i:Int)) →
  ∃ A B,acc=A++B∧(∀ y∈A,ltI m y (i:Int))∧(∀ y∈B,ltI m (i:Int) y)∧ref25_Out_l4 N m acc (i:Int) ag n j=ref25_Out_k3 acc (i:Int) ag (A.length:Int):=by
 intro n
 have hi:=(List.getElem?_eq_some_iff.1 hv).1
 induction n with
 | zero=>intro A B j h;omega
 | succ n ih =>
  intro A B j hn' he hj hA
  cases B with
  | nil =>
   have hd:decide (j < (acc.length:Int))=false:=by rw [he];simp;omega
   refine ⟨A,[],he,hA,by simp,?_⟩
   simp only [ref25_Out_l4,hd,cond_false]
   rw [hj]
  | cons y B =>
   have hal:=h.len
   have hl:acc.length=A.length+(B.length+1):=by rw [he];simp
   have hd:decide (j < (acc.length:Int))=true:=by rw [he];simp;omega
   have e1:idx acc j=some y:=idx_mid he hj
   obtain ⟨k,x,rfl,hki,hx,hxs⟩:=(h.mem y).1 (by rw [he];simp)
   obtain ⟨b,b1,b2⟩:=before25_eq (N:=N) v x
   cases b with
   | true =>
    refine ⟨A,(k:Int)::B,he,hA,fun z hz=>?_,?_⟩
    ·have h0:ltI m (i:Int) (k:Int):=⟨v,x,by rw [Int.toNat_natCast];exact hv,by rw [Int.toNat_natCast];exact hx,b2.1 rfl⟩
     rcases List.mem_cons.1 hz with rfl | hz
     ·exact h0
     ·have:=h.srt
      rw [he] at this
      exact ltI_tr h0 ((List.pairwise_cons.1 (List.pairwise_append.1 this).2.1).1 z hz)
    ·simp only [ref25_Out_l4,hd,cT,idx_nat,hv,e1,hx,bS,b1,Bool.not_true,cond_false]
     rw [hj]
   | false =>
    have hlt:ltI m (k:Int) (i:Int):=by
     refine ⟨x,v,by rw [Int.toNat_natCast];exact hx,by rw [Int.toNat_natCast];exact hv,?_⟩
     refine ltM_tri (fun c=>by have:=b2.2 c;cases this) (fun c=>?_)
     rw [cmpM_eq] at c
     exact (hp i k v x (by omega) hv hx (hs.trans hxs.symm)).2 ⟨c.2.1,c.2.2⟩
    obtain ⟨A',B',p1,p2,p3,p4⟩:=ih (A++[(k:Int)]) B (w64 (j+1)) (by simp at hn';omega) (by rw [he];simp) (by rw [hj,w64_succ (by omega)];simp)
     (by
      intro z hz
      rcases List.mem_append.mp hz with hz | hz
      ·exact hA z hz
      ·simp at hz;subst hz;exact hlt)
    refine ⟨A',B',p1,p2,p3,?_⟩
    simp only [ref25_Out_l4,hd,cT,idx_nat,hv,e1,hx,bS,b1,Bool.not_false]
    exact p4
theorem refOut_loop (hN:4194304 < N) (hp:pairP m) (hn:m.Moves.length≤400) (s:Int):∀ (r:List T9) (n i:Nat) (acc:List Int),m.Moves.drop i=r→r.length < n→i≤m.Moves.length→MovesAre m s i acc →
  ∃ L,ref25_Out_l2 N m s n acc (i:Int)=some L∧MovesAre m s m.Moves.length L
 | [],n,i,acc,h,hn',hil,hM=>by
  obtain ⟨n,rfl⟩:∃ z,n=z+1:=⟨n-1,by simp at hn';omega⟩
  have hle:=drop_nil h
  refine ⟨acc,by rw [ref25_Out_l2,lt_f hle];rfl,hM.srt,fun a=>⟨fun ha=>?_,fun ha=>?_⟩,?_⟩
  ·obtain ⟨k,x,e1,_,e2,e3⟩:=(hM.mem a).1 ha
   exact ⟨k,x,e1,(List.getElem?_eq_some_iff.1 e2).1,e2,e3⟩
  ·obtain ⟨k,x,e1,e0,e2,e3⟩:=ha
   exact (hM.mem a).2 ⟨k,x,e1,by omega,e2,e3⟩
  ·have:=hM.len;omega
 | x::r,n,i,acc,h,hn',hil,hM=>by
  obtain ⟨n,rfl⟩:∃ z,n=z+1:=⟨n-1,by simp at hn';omega⟩
  obtain ⟨hi,hx,hr⟩:=drop_cons h
  simp only [List.length_cons] at hn'
  rw [ref25_Out_l2,lt_t hi,idx_nat,hx,w64_succ (by omega)]
  simp only [cT,bS]
  by_cases c:x.From=s
  ·rw [show (x.From != s)=false by simp [c],cond_false]
   obtain ⟨A,B,p1,p2,p3,p4⟩:=refOut_in (N:=N) hN hp hn hM hx c (ref25_Out_l2 N m s n) N [] acc (0:Int) (by have:=hM.len;omega) rfl (by simp) (by simp)
   rw [p4]
   unfold ref25_Out_k3
   have hal:=hM.len
   have hl:acc.length=A.length+B.length:=by rw [p1];simp
   rw [lsl_to p1 rfl,lsl_from p1 rfl]
   simp only [bS]
   rw [appL_some (by simp;omega),bS,appL_some (by simp;omega),bS,appL_some (by simp;omega),bS,w64_succ (by omega)]
   refine refOut_loop hN hp hn s r n (i+1) _ hr (by omega) (by omega) ⟨?_,fun a=>⟨fun ha=>?_,fun ha=>?_⟩,by simp;omega⟩
   ·have hs:=hM.srt
    rw [p1,List.pairwise_append] at hs
    simp only [List.nil_append,aA,List.singleton_append]
    rw [List.pairwise_append,List.pairwise_cons]
    refine ⟨hs.1,⟨p3,hs.2.1⟩,fun y hy z hz=>?_⟩
    rcases List.mem_cons.1 hz with rfl | hz
    ·exact p2 y hy
    ·exact hs.2.2 y hy z hz
   ·have:a=(i:Int)∨a∈acc:=by
     rw [p1]
     simp only [List.nil_append,List.mem_append,List.mem_singleton] at ha ⊢
     rcases ha with (h | h) | h
     ·exact .inr (.inl h)
     ·exact .inl h
     ·exact .inr (.inr h)
    rcases this with rfl | ha
    ·exact ⟨i,x,rfl,by omega,hx,c⟩
    ·obtain ⟨k,y,e1,e2,e3⟩:=(hM.mem a).1 ha
     exact ⟨k,y,e1,by omega,e3⟩
   ·obtain ⟨k,y,rfl,e2,e3,e4⟩:=ha
    have:(k:Int)=(i:Int)∨(k:Int)∈acc:=by
     by_cases e:k=i
     ·exact .inl (by rw [e])
     ·exact .inr ((hM.mem _).2 ⟨k,y,rfl,by omega,e3,e4⟩)
    rw [p1] at this
    simp only [List.nil_append,List.mem_append,List.mem_singleton] at this ⊢
    rcases this with h | h | h
    ·exact .inl (.inr h)
    ·exact .inl (.inl h)
    ·exact .inr h
  ·rw [show (x.From != s)=true by simp [c],cT]
   refine refOut_loop hN hp hn s r n (i+1) acc hr (by omega) (by omega) ⟨hM.srt,fun a=>⟨fun ha=>?_,fun ha=>?_⟩,by have:=hM.len;omega⟩
   ·obtain ⟨k,y,e1,e2,e3⟩:=(hM.mem a).1 ha
    exact ⟨k,y,e1,by omega,e3⟩
   ·obtain ⟨k,y,e1,e2,e3,e4⟩:=ha
    refine (hM.mem a).2 ⟨k,y,e1,?_,e3,e4⟩
    by_cases e:k=i
    ·subst e;rw [hx] at e3;cases e3;exact absurd e4 c
    ·omega
theorem moves_both (hN:4194304 < N) (ht:m.Timeouts.length≤4194304) (hv:ValidM m) (hr:ref26_Valid N m=some true) {s:Int} (s0:0≤s) (s1:s < m.States) :
  ∃ L,z53 N m s=some L∧ref26_Moves N m s=some L∧MovesAre m s m.Moves.length L∧L.length=(ixM m m.Moves.length s.toNat).length:=by
 obtain ⟨c,rfl⟩:=Int.eq_ofNat_of_zero_le s0
 have hm:=hv.n
 obtain ⟨L,h1,h2,h5⟩:=row_are hN hv c (by omega)
 obtain ⟨R,h3,h4⟩:=refOut_loop hN (pairP_of hN hv) hm.n (c:Int) m.Moves N 0 [] rfl (by have:=hm.n;omega) (Nat.zero_le _) ⟨.nil,fun a=>⟨fun h=>(by cases h),fun ⟨k,x,_,h,_⟩=>(by omega)⟩,Nat.le_refl _⟩
 obtain rfl:=h2.uniq h4
 refine ⟨L,?_,?_,h2,h5⟩
 ·unfold z53
  rw [open_eq hN ht hv]
  simp only [bS,optC,Bool.not_true,cond_false]
  rw [dF (show ¬ (c:Int) < 0 by omega),dF (show ¬ (c:Int)≥m.States by omega)]
  simp only [cond_false,idx_nat,h1,bS]
 ·unfold ref26_Moves ref26_Good
  rw [hr]
  simp only [bS,cT]
  rw [dT (show (c:Int)≥0 by omega),cT,dT s1]
  simp only [bS,Bool.not_true,cond_false]
  unfold ref25_Out
  rw [show (0:Int)=((0:Nat):Int) from rfl,h3]
  rfl
def limV (l:List T11) (s:Int):Option T11:=l.find? fun t=>t.State==s
theorem timeout_both (hN:4194304 < N) (ht:m.Timeouts.length≤4194304) (hb:z134 N m=some true) (hr:ref26_Valid N m=some true) {s:Int} (s0:0≤s) (s1:s < m.States) :
  ∃ t b,z64 N m s=some (t,b)∧ref26_Timeout N m s=some (t,b)∧(limV m.Timeouts s=bif b then some t else none)∧(b=true→t∈m.Timeouts∧t.State=s):=by
 have key:∀ (r:List T11) (n k:Nat),m.Timeouts.drop k=r→r.length < n →
   ∃ z,z136_17_l2 N m.Timeouts s n (k:Int)=some z∧ref25_Limit_l2 m s n (k:Int)=some z∧((z=-1∧r.find? (fun t=>t.State==s)=none)∨∃ (i:Nat) (t:T11),z=(i:Int)∧m.Timeouts[i]? = some t∧t.State=s∧r.find? (fun t=>t.State==s)=some t):=by
  intro r
  induction r with
  | nil =>
   intro n k h hn
   obtain ⟨n,rfl⟩:∃ z,n=z+1:=⟨n-1,by simp at hn;omega⟩
   refine ⟨-1,?_,?_,.inl ⟨rfl,rfl⟩⟩
   ·rw [z136_17_l2,lt_f (drop_nil h)];rfl
   ·rw [ref25_Limit_l2,lt_f (drop_nil h)];rfl
  | cons x r ih =>
   intro n k h hn
   obtain ⟨n,rfl⟩:∃ z,n=z+1:=⟨n-1,by simp at hn;omega⟩
   obtain ⟨hk,hx,hr⟩:=drop_cons h
   simp only [List.length_cons] at hn
   rw [z136_17_l2,ref25_Limit_l2,lt_t hk,idx_nat,hx,w64_succ (by omega)]
   simp only [cT,bS,z137_16,List.find?_cons]
   cases c:(x.State==s) with
   | true=>exact ⟨(k:Int),rfl,rfl,.inr ⟨k,x,rfl,hx,by simpa using c,rfl⟩⟩
   | false =>
    simp only [cond_false]
    exact ih n (k+1) hr (by omega)
 obtain ⟨z,e1,e2,hz⟩:=key m.Timeouts N 0 rfl (by omega)
 unfold z64 ref26_Timeout ref26_Good limV
 rw [hb,hr]
 simp only [bS,Bool.not_true,cond_false,cT]
 rw [dT (show s≥0 from s0),cT,dT s1]
 simp only [bS,Bool.not_true,cond_false]
 unfold z136_17 ref25_Limit
 rw [show (0:Int)=((0:Nat):Int) from rfl,e1,e2]
 simp only [bS]
 rcases hz with ⟨rfl,h⟩ | ⟨i,t,rfl,h1,h2,h3⟩
 ·exact ⟨_,_,rfl,rfl,h,fun h=>by cases h⟩
 ·rw [dF (show ¬ (i:Int) < ((0:Nat):Int) by omega),dT (show (i:Int)≥((0:Nat):Int) by omega),idx_nat,h1]
  exact ⟨t,true,rfl,rfl,h3,fun _=>⟨List.mem_of_getElem? h1,h2⟩⟩
end Gp
end
section
namespace Gp
open Go Go.Kx Gx
variable {N:Nat}
def fieldL (f:T4):List UInt8:=bs f.Name++[58,32]++(bif f.Sort'.Kind==2 then [116,101,120,116] else [105,110,116])++[32]++bs (itoaS f.Sort'.Lo)++[32,46,46,32]++bs (itoaS f.Sort'.Hi)
structure FieldOk (f:T4):Prop where
 n:(bs f.Name).length≤4000000
 lo:I64 f.Sort'.Lo
 hi:I64 f.Sort'.Hi
theorem fieldL_len {f:T4} (h:FieldOk f):(fieldL f).length≤4000100:=by
 have h1:=h.n
 have h2:=itoa_bs f.Sort'.Lo
 have h3:=itoa_bs f.Sort'.Hi
 unfold fieldL
 cases (f.Sort'.Kind==2)<;>simp<;>omega
theorem field_eq {f:T4} (h:FieldOk f):z38 N f=some (mkB (fieldL f)):=by
 have h1:=h.n
 have h2:=itoa_bs f.Sort'.Lo
 have h3:=itoa_bs f.Sort'.Hi
 have key:∀ k:List UInt8,k.length≤4→z38_k1 N f (mkB k)=some (mkB (bs f.Name++[58,32]++k++[32]++bs (itoaS f.Sort'.Lo)++[32,46,46,32]++bs (itoaS f.Sort'.Hi))):=fun k hk=>by
  unfold z38_k1
  rw [itoa_eq h.lo,itoa_eq h.hi,show str [58,32]=mkB [58,32] from rfl,show str [32]=mkB [32] from rfl,show str [32,46,46,32]=mkB [32,46,46,32] from rfl]
  rw [cat_bs (by simp;omega),bS,cat_mk (by simp;omega),bS,cat_mk (by simp;omega),bS,bS,cat_sb (by simp;omega),bS,cat_mk (by simp;omega),bS,bS,cat_sb (by simp;omega),bS]
 unfold z38 fieldL
 cases (f.Sort'.Kind==2)
 ·exact key [105,110,116] (by simp)
 ·exact key [116,101,120,116] (by simp)
def tailL (sep:List UInt8) (l:List (List UInt8)):List UInt8:=(l.map (sep++·)).flatten
theorem tailL_cons (sep x:List UInt8) (l:List (List UInt8)):tailL sep (x::l)=sep++x++tailL sep l:=by unfold tailL;simp
theorem tailL_len {sep:List UInt8} {c:Nat}:∀ {l:List (List UInt8)},(∀ x∈l,x.length≤c)→(tailL sep l).length≤l.length * (c+sep.length)
 | [],_=>by simp [tailL]
 | x::l,h=>by
  have h1:=tailL_len (sep:=sep) (l:=l) fun y hy=>h y (List.mem_cons_of_mem _ hy)
  have h2:=h x List.mem_cons_self
  rw [tailL_cons,List.length_cons,Nat.add_mul]
  simp only [lA]
  omega
theorem joinL_len {sep:List UInt8} {c:Nat} {l:List (List UInt8)} (h:∀ x∈l,x.length≤c):(joinL sep l).length≤l.length * (c+sep.length):=by
 cases l with
 | nil=>simp [joinL]
 | cons x l =>
  have h1:=tailL_len (sep:=sep) (l:=l) fun y hy=>h y (List.mem_cons_of_mem _ hy)
  have h2:=h x List.mem_cons_self
  show (x++tailL sep l).length≤_
  rw [List.length_cons,Nat.add_mul,lA]
  omega
theorem join_eq {l:List (List UInt8)} {sep:List UInt8} (hl:l.length≤1000) (h:(joinL sep l).length≤140737488355328):z40 N (l.map mkB) (mkB sep)=some (mkB (joinL sep l)):=by
  have e1:(mkB sep).data.toList=sep:=bs_mkB _
  have e2:(l.map mkB).map (·.data.toList)=l:=by
    rw [List.map_map]
    conv=>rhs;rw [← List.map_id l]
    exact List.map_congr_left fun x _=>bs_mkB x
  unfold z40
  rw [e1,e2,List.length_map,dT (show l.length≤140737488355328 by omega),dT h]
  rfl
theorem dfields_loop (l:List T0) (label:Int) (x:T0):∀ (r:List T4) (n k:Nat) (acc:List ByteArray),x.Fields.drop k=r→r.length < n→k+r.length≤1000→acc.length+r.length≤1000→(∀ f∈r,FieldOk f) →
  z13_l4 N l label x n acc (k:Int)=z13_k3 N l label x (acc++r.map fun f=>mkB (fieldL f))
 | [],n,k,acc,h,hn,hk,ha,hf=>by
  obtain ⟨n,rfl⟩:∃ z,n=z+1:=⟨n-1,by simp at hn;omega⟩
  rw [z13_l4,lt_f (drop_nil h)]
  simp
 | f::r,n,k,acc,h,hn,hk,ha,hf=>by
  obtain ⟨n,rfl⟩:∃ z,n=z+1:=⟨n-1,by simp at hn;omega⟩
  obtain ⟨hi,hx,hr⟩:=drop_cons h
  simp only [List.length_cons] at hn hk ha
  rw [z13_l4,lt_t hi,idx_nat,hx,w64_succ (by omega)]
  simp only [cT,bS]
  rw [field_eq (hf f List.mem_cons_self),bS,appL_some (by simp;omega),bS]
  rw [dfields_loop l label x r n (k+1) _ hr (by omega) (by omega) (by simp;omega) fun y hy=>hf y (List.mem_cons_of_mem _ hy)]
  simp
theorem datoms_loop (l:List T0) (label:Int) (x:T0) (v8:List ByteArray) (A:Nat→List UInt8) (T:Nat) (hT:T≤40) (hw:w64 ((x.Guard.Diffs.length:Int)+(x.Guard.Equals.length:Int))=(T:Int)) (hA:∀ i,i < T→z39 N l label (i:Int)=some (mkB (A i))) :
  ∀ (q n k:Nat) (acc:List ByteArray),T-k=q→q < n→acc.length+q≤1000→k≤T →
  z13_l2 N l label x v8 n acc (k:Int)=z13_k1 N x v8 (acc++(List.range' k q).map fun i=>mkB (A i))
 | 0,n,k,acc,h,hn,ha,hk=>by
  obtain ⟨n,rfl⟩:∃ z,n=z+1:=⟨n-1,by omega⟩
  rw [z13_l2,hw,lt_f (show T≤k by omega)]
  simp
 | q+1,n,k,acc,h,hn,ha,hk=>by
  obtain ⟨n,rfl⟩:∃ z,n=z+1:=⟨n-1,by omega⟩
  rw [z13_l2,hw,lt_t (show k < T by omega),hA k (by omega),w64_succ (by omega)]
  simp only [cT,bS]
  rw [appL_some (by simp;omega),bS,datoms_loop l label x v8 A T hT hw hA q n (k+1) _ (by omega) (by omega) (by simp;omega) (by omega)]
  congr 1
  simp [List.range'_succ]
def declL (nm:List UInt8) (F As:List (List UInt8)):List UInt8:=nm++[40]++joinL [44,32] F++[41]++match As with
 | []=>[]
 | a::r=>[32,119,104,101,114,101,32]++joinL [32,97,110,100,32] (a::r)
theorem dk1_eq (x:T0) (F As:List (List UInt8)) (hn:(bs x.Name).length≤4000000) (hF:F.length≤100) (hF2:∀ y∈F,y.length≤4000100) (hA:As.length≤100) (hA2:∀ y∈As,y.length≤67108864) :
  z13_k1 N x (F.map mkB) (As.map mkB)=some (mkB (declL (bs x.Name) F As)):=by
 have h1:=joinL_len (sep:=[44,32]) hF2
 have h2:=joinL_len (sep:=[32,97,110,100,32]) hA2
 have g1:F.length * (4000100+2)≤100 * 4000102:=Nat.mul_le_mul hF (by decide)
 have g2:As.length * (67108864+5)≤100 * 67108869:=Nat.mul_le_mul hA (by decide)
 have h1:(joinL [44,32] F).length≤400010200:=Nat.le_trans h1 g1
 have h2:(joinL [32,97,110,100,32] As).length≤6710886900:=Nat.le_trans h2 g2
 unfold z13_k1 declL
 rw [show str [40]=mkB [40] from rfl,show str [41]=mkB [41] from rfl,show str [44,32]=mkB [44,32] from rfl,show str [32,97,110,100,32]=mkB [32,97,110,100,32] from rfl,show str [32,119,104,101,114,101,32]=mkB [32,119,104,101,114,101,32] from rfl]
 rw [cat_bs (by simp;omega),bS,join_eq (by omega) (by omega),bS,cat_mk (by simp;omega),bS,cat_mk (by simp;omega),bS]
 cases As with
 | nil=>simp
 | cons a r =>
  rw [dT (show (((a::r).map mkB).length:Int) > 0 by simp),cT,join_eq (by omega) (by omega),bS,cat_mk (by simp;omega),bS,cat_mk (by simp;omega),bS]
theorem rfield_eq (hN:4194304 < N) {f:T4} (h:FieldOk f) {acc:List UInt8} (ha:acc.length≤4611686018427387904) (k:Int) (ag:ByteArray→Int→Option ByteArray) :
  ref43_Decl_k6 N k ag f (mkB acc)=ag (mkB (acc++fieldL f)) (w64 (k+1)):=by
 have h1:=h.n
 have h2:=itoa_bs f.Sort'.Lo
 have h3:=itoa_bs f.Sort'.Hi
 unfold ref43_Decl_k6
 rw [show str [58,32]=mkB [58,32] from rfl,show str [116,101,120,116,32]=mkB [116,101,120,116,32] from rfl,show str [105,110,116,32]=mkB [105,110,116,32] from rfl]
 rw [cat_bs (by simp;omega),bS,cat_mk (by simp;omega),bS]
 have key:∀ z:List UInt8,z.length≤4611686018435387920→ref43_Decl_k5 N k ag f (mkB z)=ag (mkB (z++(bs (itoaS f.Sort'.Lo)++[32,46,46,32]++bs (itoaS f.Sort'.Hi)))) (w64 (k+1)):=fun z hz=>by
  unfold ref43_Decl_k5
  rw [digits09_eq hN h.lo,digits09_eq hN h.hi,show str [32,46,46,32]=mkB [32,46,46,32] from rfl,bS,cat_bs (by simp;omega),bS,bS,cat_sb (by simp;omega),bS,cat_mk (by simp;omega),bS]
 unfold fieldL
 cases (f.Sort'.Kind==2)
 ·rw [cond_false,cat_mk (by simp;omega),bS,key _ (by simp;omega)]
  simp
 ·rw [cT,cat_mk (by simp;omega),bS,key _ (by simp;omega)]
  simp
theorem rfields_loop (hN:4194304 < N) (l:List T0) (label:Int) (x:T0):∀ (r:List T4) (n k:Nat) (acc:List UInt8),0 < k→x.Fields.drop k=r→r.length < n→k+r.length≤1000→acc.length+r.length * 4000102≤4611686018427387904→(∀ f∈r,FieldOk f) →
  ref43_Decl_l4 N l label x n (mkB acc) (k:Int)=ref43_Decl_k3 N l label x (mkB (acc++tailL [44,32] (r.map fieldL)))
 | [],n,k,acc,h0,h,hn,hk,ha,hf=>by
  obtain ⟨n,rfl⟩:∃ z,n=z+1:=⟨n-1,by simp at hn;omega⟩
  rw [ref43_Decl_l4,lt_f (drop_nil h)]
  simp [tailL]
 | f::r,n,k,acc,h0,h,hn,hk,ha,hf=>by
  obtain ⟨n,rfl⟩:∃ z,n=z+1:=⟨n-1,by simp at hn;omega⟩
  obtain ⟨hi,hx,hr⟩:=drop_cons h
  simp only [List.length_cons] at hn hk ha
  have hl:=fieldL_len (hf f List.mem_cons_self)
  rw [ref43_Decl_l4,lt_t hi,idx_nat,hx,dT (show (k:Int) > 0 by omega)]
  simp only [cT,bS]
  rw [show str [44,32]=mkB [44,32] from rfl,cat_mk (by simp;omega),bS,rfield_eq hN (hf f List.mem_cons_self) (by simp;omega),w64_succ (by omega)]
  rw [rfields_loop hN l label x r n (k+1) _ (by omega) hr (by omega) (by omega) (by simp;omega) fun y hy=>hf y (List.mem_cons_of_mem _ hy)]
  rw [List.map_cons,tailL_cons]
  simp
theorem rfields_eq (hN:4194304 < N) (l:List T0) (label:Int) (x:T0) (hl:x.Fields.length≤100) (hf:∀ f∈x.Fields,FieldOk f) {acc:List UInt8} (ha:acc.length≤4000010) :
  ref43_Decl_l4 N l label x N (mkB acc) 0=ref43_Decl_k3 N l label x (mkB (acc++joinL [44,32] (x.Fields.map fieldL))):=by
 obtain ⟨M,rfl⟩:∃ z,N=z+1:=⟨N-1,by omega⟩
 rw [show (0:Int)=((0:Nat):Int) from rfl]
 cases hx:x.Fields with
 | nil =>
  rw [ref43_Decl_l4,hx,lt_f (by simp)]
  simp [joinL]
 | cons f r =>
  rw [hx] at hf hl
  simp only [List.length_cons] at hl
  have hfl:=fieldL_len (hf f List.mem_cons_self)
  rw [ref43_Decl_l4,hx,lt_t (by simp),idx_nat]
  simp only [List.getElem?_cons_zero,cT,bS]
  rw [dF (show ¬ ((0:Nat):Int) > 0 by omega),cond_false,rfield_eq hN (hf f List.mem_cons_self) (by omega),w64_succ (by omega)]
  rw [rfields_loop hN l label x r M 1 _ (by omega) (by rw [hx];rfl) (by omega) (by omega) (by simp;omega) fun y hy=>hf y (List.mem_cons_of_mem _ hy)]
  show _=ref43_Decl_k3 (M+1) l label x (mkB (acc++(fieldL f++tailL [44,32] (r.map fieldL))))
  simp
theorem ratoms_loop (l:List T0) (label:Int) (x:T0) (A:Nat→List UInt8) (T:Nat) (hT:T≤40) (hp:ref41_Parts N x=some (T:Int)) (hA:∀ i,i < T→ref41_Atom N l label (i:Int)=some (mkB (A i))∧(A i).length≤67108864) :
  ∀ (q n k:Nat) (acc:List UInt8),0 < k→T-k=q→q < n→acc.length+q * 67108869≤4611686018427387904→k≤T →
  ref43_Decl_l2 N l label x n (mkB acc) (k:Int)=some (mkB (acc++tailL [32,97,110,100,32] ((List.range' k q).map A)))
 | 0,n,k,acc,h0,h,hn,ha,hk=>by
  obtain ⟨n,rfl⟩:∃ z,n=z+1:=⟨n-1,by omega⟩
  rw [ref43_Decl_l2,hp,bS,lt_f (show T≤k by omega)]
  simp [tailL,ref43_Decl_k1]
 | q+1,n,k,acc,h0,h,hn,ha,hk=>by
  obtain ⟨n,rfl⟩:∃ z,n=z+1:=⟨n-1,by omega⟩
  obtain ⟨a1,a2⟩:=hA k (by omega)
  rw [ref43_Decl_l2,hp,bS,lt_t (show k < T by omega),a1,w64_succ (by omega),show ((k:Int)==0)=false by simp;omega,show str [32,97,110,100,32]=mkB [32,97,110,100,32] from rfl]
  simp only [cT,cond_false]
  rw [cat_mk (by simp;omega),bS,bS,cat_mk (by simp;omega),bS]
  rw [ratoms_loop l label x A T hT hp hA q n (k+1) _ (by omega) (by omega) (by omega) (by simp;omega) (by omega)]
  rw [List.range'_succ,List.map_cons,tailL_cons]
  simp
theorem rk3_eq (hN:4194304 < N) (l:List T0) (label:Int) (x:T0) (A:Nat→List UInt8) (T:Nat) (hT:T≤40) (hp:ref41_Parts N x=some (T:Int)) (hA:∀ i,i < T→ref41_Atom N l label (i:Int)=some (mkB (A i))∧(A i).length≤67108864) {nm:List UInt8} {F:List (List UInt8)} (hl:(nm++[40]++joinL [44,32] F).length≤1000000000) :
  ref43_Decl_k3 N l label x (mkB (nm++[40]++joinL [44,32] F))=some (mkB (declL nm F ((List.range T).map A))):=by
 obtain ⟨M,rfl⟩:∃ z,N=z+1:=⟨N-1,by omega⟩
 unfold ref43_Decl_k3 declL
 rw [show str [41]=mkB [41] from rfl,cat_mk (by simp only [List.length_singleton];omega),bS,show (0:Int)=((0:Nat):Int) from rfl,ref43_Decl_l2,hp,bS]
 cases T with
 | zero =>
  rw [lt_f (Nat.le_refl _)]
  simp [ref43_Decl_k1]
 | succ T =>
  obtain ⟨a1,a2⟩:=hA 0 (by omega)
  rw [lt_t (by omega),a1,w64_succ (by omega),show (((0:Nat):Int)==0)=true from rfl,show str [32,119,104,101,114,101,32]=mkB [32,119,104,101,114,101,32] from rfl]
  simp only [cT]
  rw [cat_mk (by simp only [lA,List.length_cons,List.length_nil] at hl ⊢;omega),bS,bS,cat_mk (by simp only [lA,List.length_cons,List.length_nil] at hl ⊢;omega),bS]
  rw [ratoms_loop l label x A (T+1) hT hp hA T M (0+1) _ (by omega) (by omega) (by omega) (by simp only [lA,List.length_cons,List.length_nil] at hl ⊢;omega) (by omega)]
  have e:(List.range (T+1)).map A=A 0::(List.range' 1 T).map A:=by
   rw [List.range_eq_range',List.range'_succ,List.map_cons]
  rw [e]
  show some (mkB _)=some (mkB (_++([32,119,104,101,114,101,32]++(A 0++tailL [32,97,110,100,32] ((List.range' 1 T).map A)))))
  simp
theorem fields_le:∀ {l:List T0} {x:T0},x∈l→x.Fields.length≤(flat l).length
 | [],x,h=>by cases h
 | y::l,x,h=>by
  rw [flat_cons,lA]
  rcases List.mem_cons.1 h with rfl | h
  ·omega
  ·have:=fields_le h;omega
theorem sort_i64 {s:T10} (h:sortOk s):I64 s.Lo∧I64 s.Hi:=by
 rcases h with ⟨_,h1,h2,h3⟩ | ⟨_,h1,h2,h3⟩<;>exact ⟨⟨by omega,by omega⟩,by omega,by omega⟩
theorem decl_both (hN:4194304 < N) (l:List T0) (hl:l.length≤1000) (hd:∀ x∈l,SizeD x) (hnm:∀ x∈l,NameD x) (label:Int) :
  ∃ s:List UInt8,s.length≤8000000000∧z13 N l label=some (mkB s)∧ref43_Decl N l label=some (mkB s):=by
 have none':∃ s:List UInt8,s.length≤8000000000∧some (str [])=some (mkB s)∧some (str [])=some (mkB s):=⟨[],by simp,rfl,rfl⟩
 have hat:=fun part hp=>atom_both (N:=N) hN l hl hd hnm (at':=label) (part:=part) hp
 unfold z13 ref43_Decl z37
 rw [refValid_eq hN l (by omega) hd hnm,valid_eq hN l (by omega) hd hnm]
 simp only [bS]
 by_cases c1:label < 0
 ·rw [dT c1]
  cases validD l<;>exact none'
 rw [dF c1]
 by_cases c2:label≥(l.length:Int)
 ·rw [dT c2]
  cases validD l<;>exact none'
 rw [dF c2]
 simp only [cond_false]
 cases hv:validD l with
 | false=>exact none'
 | true =>
 obtain ⟨k,rfl⟩:=Int.eq_ofNat_of_zero_le (show 0≤label by omega)
 have hk:k < l.length:=by omega
 have hg:=List.getElem?_eq_getElem hk
 generalize hy:l[k]=y at hg
 have hmem:=List.mem_of_getElem? hg
 obtain ⟨r,er⟩:=bounds_some hN y (hd y hmem)
 have e0:((0:Int) != 0)=false:=rfl
 simp only [Bool.not_true,cond_false,idx_nat,hg,bS,er,e0]
 have hgv:guardV (flat l) y.Guard=true:=by
  obtain ⟨_,_,_,_,_,h2⟩:=valid_at hv hg
  exact guard_of h2
 have hin:=inG_of hgv
 have h1:=hin.dl
 have h2:=hin.el
 have hfl:=(valid_len hv).2
 have hfy:=fields_le hmem
 have hny:=(hnm y hmem).n
 have hfo:∀ f∈y.Fields,FieldOk f:=fun f hf=>by
  have hs:=sort_i64 (sortOk_of hv hmem hf)
  exact ⟨by rw [← size_bs];exact (hnm y hmem).f f hf,hs.1,hs.2⟩
 let T:=y.Guard.Diffs.length+y.Guard.Equals.length
 have hT:T≤40:=by show _+_≤_;omega
 have hpp:ref41_Parts N y=some (T:Int):=by
  unfold ref41_Parts
  rw [w64_id (by omega) (by omega)]
  congr 1
 have hw:w64 ((y.Guard.Diffs.length:Int)+(y.Guard.Equals.length:Int))=(T:Int):=by
  rw [w64_id (by omega) (by omega)];show _=((_+_:Nat):Int);omega
 have hA0:∀ i:Nat,∃ s:List UInt8,i < T→s.length≤67108864∧z39 N l (k:Int) (i:Int)=some (mkB s)∧ref41_Atom N l (k:Int) (i:Int)=some (mkB s):=fun i=>by
  by_cases hi:i < T
  ·obtain ⟨s,h⟩:=hat (i:Int) ⟨by omega,by omega⟩
   exact ⟨s,fun _=>h⟩
  ·exact ⟨[],fun h=>absurd h hi⟩
 let A:Nat→List UInt8:=fun i=>(hA0 i).choose
 have hA:∀ i,i < T→(A i).length≤67108864∧z39 N l (k:Int) (i:Int)=some (mkB (A i))∧ref41_Atom N l (k:Int) (i:Int)=some (mkB (A i)):=fun i hi=>(hA0 i).choose_spec hi
 have hAl:∀ z∈(List.range T).map A,z.length≤67108864:=fun z hz=>by
  obtain ⟨i,hi,rfl⟩:=List.mem_map.1 hz
  exact (hA i (List.mem_range.1 hi)).1
 have hFl:∀ z∈y.Fields.map fieldL,z.length≤4000100:=fun z hz=>by
  obtain ⟨f,hf,rfl⟩:=List.mem_map.1 hz
  exact fieldL_len (hfo f hf)
 have hnb:(bs y.Name).length≤4000000:=by rw [← size_bs];exact hny
 have j1:=joinL_len (sep:=[44,32]) hFl
 have j2:=joinL_len (sep:=[32,97,110,100,32]) hAl
 simp only [List.length_map,List.length_range,List.length_cons,List.length_nil] at j1 j2
 have g1:y.Fields.length * (4000100+(0+1+1))≤24 * 4000102:=Nat.mul_le_mul (by omega) (by decide)
 have g2:T * (67108864+(0+1+1+1+1+1))≤40 * 67108869:=Nat.mul_le_mul hT (by decide)
 refine ⟨declL (bs y.Name) (y.Fields.map fieldL) ((List.range T).map A),?_,?_,?_⟩
 ·unfold declL
  simp only [lA,List.length_cons,List.length_nil]
  cases hc:(List.range T).map A with
  | nil=>simp only [List.length_nil];omega
  | cons a q =>
   rw [hc] at j2
   simp only [lA,List.length_cons,List.length_nil]
   omega
 ·have:=dfields_loop (N:=N) l (k:Int) y y.Fields N 0 [] rfl (by omega) (by omega) (by simp;omega) hfo
  rw [show (0:Int)=((0:Nat):Int) from rfl,this]
  unfold z13_k3
  have:=datoms_loop (N:=N) l (k:Int) y ([]++y.Fields.map fun f=>mkB (fieldL f)) A T hT hw (fun i hi=>(hA i hi).2.1) T N 0 [] (by omega) (by omega) (by simp;omega) (by omega)
  rw [show (0:Int)=((0:Nat):Int) from rfl,this]
  have e1:([]++y.Fields.map fun f=>mkB (fieldL f))=(y.Fields.map fieldL).map mkB:=by simp
  have e2:([]++(List.range' 0 T).map fun i=>mkB (A i))=((List.range T).map A).map mkB:=by simp [List.range_eq_range']
  rw [e1,e2]
  exact dk1_eq y _ _ hnb (by simp;omega) hFl (by simp;omega) hAl
 ·rw [show str [40]=mkB [40] from rfl,cat_bs (by simp;omega),bS,rfields_eq hN l (k:Int) y (by omega) hfo (by simp;omega)]
  exact rk3_eq hN l (k:Int) y A T hT hpp (fun i hi=>⟨(hA i hi).2.2,(hA i hi).1⟩) (by simp only [lA,List.length_cons,List.length_nil];omega)
end Gp
end
section
namespace Gp
open Go Go.Kx Gx
variable {N:Nat} {g:T5} {m:T8}
structure CtxE (N:Nat) (g:T5) (m:T8):Prop where
 c:Ctx0 N g m
 x:AgrX g m
 mb:z134 N m=some true
 rb:ref26_Valid N m=some true
theorem ctxE_of (c:Ctx0 N g m) (hn:NumE g):CtxE N g m:=by
 obtain ⟨b,e,f,h⟩:=agree_both c.hN g c.gg c.ss hn m c.t
 rw [c.e] at e
 cases e
 obtain ⟨b2,e2,f2,h2⟩:=mValid_both c.hN m c.t
 have hx:=h rfl
 refine ⟨c,hx,?_,?_⟩
 ·cases b2 with
  | true=>exact e2
  | false =>
   exfalso
   have:=c.e
   unfold z60 at this
   obtain ⟨b1,e1,_,_⟩:=Valid_both c.hN g c.gg c.ss hn
   rw [e1,e2] at this
   cases b1<;>simp at this
 ·cases b2 with
  | true=>exact f2
  | false =>
   exfalso
   unfold ref40_together at f
   obtain ⟨b1,_,f1,_⟩:=Valid_both c.hN g c.gg c.ss hn
   rw [f1,f2] at f
   cases b1<;>simp at f
def startsL (s:ByteArray):Prop:=(∃ t,bs s=[115,101,110,100,32]++t)∨∃ t,bs s=[114,101,99,101,105,118,101,32]++t
structure LineOk (s:ByteArray):Prop where
 ge:8≤(bs s).length
 len:(bs s).length≤8100000000
 st:startsL s
theorem lines_loop (c:CtxE N g m) (st:Int) (L:List Int) (hL:∀ a∈L,∃ (k:Nat) (x:T9),a=(k:Int)∧m.Moves[k]? = some x):∀ (r:List Int) (n k:Nat) (acc:List ByteArray),L.drop k=r→r.length < n→k+r.length≤1000→acc.length+r.length≤1000 →
  ∃ v:List ByteArray,v.length=r.length∧(∀ s∈v,LineOk s)∧z31_l2 N g m st L n acc (k:Int)=z31_k1 N g m st (acc++v)∧ref43_Permitted_l2 N g m st L n acc (k:Int)=ref43_Permitted_k1 N g m st (acc++v)
 | [],n,k,acc,h,hn,hk,ha=>by
  obtain ⟨n,rfl⟩:∃ z,n=z+1:=⟨n-1,by simp at hn;omega⟩
  refine ⟨[],rfl,by simp,?_,?_⟩
  ·rw [z31_l2,lt_f (drop_nil h)];simp
  ·rw [ref43_Permitted_l2,lt_f (drop_nil h)];simp
 | a::r,n,k,acc,h,hn,hk,ha=>by
  obtain ⟨n,rfl⟩:∃ z,n=z+1:=⟨n-1,by simp at hn;omega⟩
  obtain ⟨hi,hx,hr⟩:=drop_cons h
  simp only [List.length_cons] at hn hk ha
  have hN:=c.c.hN
  obtain ⟨q,y,rfl,hy⟩:=hL a (List.mem_of_getElem? hx)
  have hmem:=List.mem_of_getElem? hy
  obtain ⟨_,_,⟨p0,_⟩,_,l0,_⟩:=c.x.mv.n.mv y hmem
  have p1:=c.x.p y hmem
  have l1:=c.x.a.l y hmem
  obtain ⟨pn,hpn⟩:=Int.eq_ofNat_of_zero_le p0
  obtain ⟨ln,hln⟩:=Int.eq_ofNat_of_zero_le l0
  have hp:=List.getElem?_eq_getElem (show pn < g.Roles.length by omega)
  have hl:=List.getElem?_eq_getElem (show ln < g.Decls.length by omega)
  generalize hR:g.Roles[pn]=role at hp
  generalize hD:g.Decls[ln]=d at hl
  have hrs:(bs role).length≤4000000:=by rw [← size_bs];exact c.c.ss.r role (List.mem_of_getElem? hp)
  have hds:(bs d.Name).length≤4000000:=by rw [← size_bs];exact (c.c.ss.d d (List.mem_of_getElem? hl)).n
  obtain ⟨s,s1,s2,s3⟩:=decl_both hN g.Decls (by have:=(valid_len c.c.a.v).1;omega) c.c.gg.dd c.c.ss.d y.Label
  rw [z31_l2,ref43_Permitted_l2,lt_t hi,idx_nat,hx,w64_succ (by omega)]
  simp only [cT,bS,idx_nat,hy]
  rw [s2,s3]
  simp only [hpn,hln,idx_nat,hp,hl,bS]
  rw [show str [115,101,110,100,32]=mkB [115,101,110,100,32] from rfl,show str [114,101,99,101,105,118,101,32]=mkB [114,101,99,101,105,118,101,32] from rfl,show str [32,116,111,32]=mkB [32,116,111,32] from rfl,show str [32,102,114,111,109,32]=mkB [32,102,114,111,109,32] from rfl,show str [32,97,103,97,105,110,32,116,111,32]=mkB [32,97,103,97,105,110,32,116,111,32] from rfl]
  have go:∀ z:List UInt8,LineOk (mkB z)→∃ v:List ByteArray,v.length=r.length+1∧(∀ s∈v,LineOk s)∧((appL acc [mkB z]).bind fun x=>z31_l2 N g m st L n x ((k+1:Nat):Int))=z31_k1 N g m st (acc++v)∧((appL acc [mkB z]).bind fun x=>ref43_Permitted_l2 N g m st L n x ((k+1:Nat):Int))=ref43_Permitted_k1 N g m st (acc++v):=fun z hz=>by
   obtain ⟨v,v1,v2,v3,v4⟩:=lines_loop c st L hL r n (k+1) (acc++[mkB z]) hr (by omega) (by omega) (by simp;omega)
   rw [appL_some (by simp;omega)]
   refine ⟨mkB z::v,by simp [v1],fun s hs=>?_,?_,?_⟩
   ·rcases List.mem_cons.1 hs with rfl | hs
    ·exact hz
    ·exact v2 s hs
   ·rw [bS,v3];simp
   ·rw [bS,v4];simp
  cases y.Again with
  | true =>
   simp only [cT]
   rw [cat_sb (by simp;omega)]
   simp only [bS]
   rw [cat_mk (by simp;omega)]
   simp only [bS]
   rw [cat_sb (by simp;omega)]
   simp only [bS]
   exact go ([115,101,110,100,32]++bs d.Name++[32,97,103,97,105,110,32,116,111,32]++bs role) ⟨by rw [bs_mkB];simp<;>omega,by rw [bs_mkB];simp<;>omega,.inl ⟨bs d.Name++[32,97,103,97,105,110,32,116,111,32]++bs role,by rw [bs_mkB];simp⟩⟩
  | false =>
   simp only [cond_false]
   cases y.Send with
   | true =>
    simp only [cT]
    rw [cat_mk (by simp;omega)]
    simp only [bS]
    rw [cat_mk (by simp;omega)]
    simp only [bS]
    rw [cat_sb (by simp;omega)]
    simp only [bS]
    exact go ([115,101,110,100,32]++s++[32,116,111,32]++bs role) ⟨by rw [bs_mkB];simp<;>omega,by rw [bs_mkB];simp<;>omega,.inl ⟨s++[32,116,111,32]++bs role,by rw [bs_mkB];simp⟩⟩
   | false =>
    simp only [cond_false]
    rw [cat_mk (by simp;omega)]
    simp only [bS]
    rw [cat_mk (by simp;omega)]
    simp only [bS]
    rw [cat_sb (by simp;omega)]
    simp only [bS]
    exact go ([114,101,99,101,105,118,101,32]++s++[32,102,114,111,109,32]++bs role) ⟨by rw [bs_mkB];simp<;>omega,by rw [bs_mkB];simp<;>omega,.inr ⟨s++[32,102,114,111,109,32]++bs role,by rw [bs_mkB];simp⟩⟩
def oneI (b:Bool):Nat:=bif b then 1 else 0
def finV (m:T8) (s:Int):Bool:=(idx m.Finals s).getD false
theorem time_facts (hv:ValidM m) {t:T11} (ht:t∈m.Timeouts):I64 t.Ticks∧∃ (k:Nat) (y:T9),t.Else=(k:Int)∧m.Moves[k]? = some y:=by
 have h:=hv.tm
 rw [allV_iff] at h
 obtain ⟨i,hi⟩:=List.getElem?_of_mem ht
 have:=h i t hi
 unfold timeM at this
 simp only [Bool.and_eq_true,decide_eq_true_eq] at this
 obtain ⟨⟨⟨h1,h2,h3,h4⟩,_⟩,_⟩:=this
 obtain ⟨k,hk⟩:=Int.eq_ofNat_of_zero_le h3
 exact ⟨⟨by omega,by omega⟩,k,_,hk,List.getElem?_eq_getElem (show k < m.Moves.length by omega)⟩
theorem lines_end (c:CtxE N g m) {st:Int} (s0:0≤st) (s1:st < m.States) (v:List ByteArray) (hv:v.length≤1000) :
  ∃ w:List ByteArray,w.length=oneI (limV m.Timeouts st).isSome+oneI (finV m st)∧(∀ s∈w,(bs s).length≤8100000000∧bs s≠[])∧z31_k1 N g m st v=some (v++w)∧ref43_Permitted_k1 N g m st v=some (v++w,0):=by
 have hN:=c.c.hN
 have hmv:=c.x.mv
 obtain ⟨t,b,e1,e2,e3,e4⟩:=timeout_both hN c.c.t c.mb c.rb s0 s1
 obtain ⟨sn,rfl⟩:=Int.eq_ofNat_of_zero_le s0
 have hf:=hmv.n.f
 have hfin:=List.getElem?_eq_getElem (show sn < m.Finals.length by omega)
 generalize hF:m.Finals[sn]=fin at hfin
 have hfv:finV m (sn:Int)=fin:=by unfold finV;rw [idx_nat,hfin];rfl
 rw [hfv]
 have last:∀ u:List ByteArray,u.length≤1010→∃ w:List ByteArray,w.length=oneI fin∧(∀ s∈w,(bs s).length≤8100000000∧bs s≠[])∧(bif fin then ((appL u ([(str [116,104,101,32,101,110,100])]:List ByteArray)).bind fun x=>some x) else some u)=some (u++w)∧(bif fin then ((appL u ([(str [116,104,101,32,101,110,100])]:List ByteArray)).bind fun x=>some (x,(0:Int))) else some (u,(0:Int)))=some (u++w,0):=fun u hu=>by
  cases fin with
  | false=>exact ⟨[],rfl,by simp,by simp,by simp⟩
  | true =>
   rw [appL_some (by simp;omega)]
   refine ⟨[str [116,104,101,32,101,110,100]],rfl,fun s hs=>?_,rfl,rfl⟩
   rw [List.mem_singleton.1 hs]
   have e:bs (str [116,104,101,32,101,110,100])=[116,104,101,32,101,110,100]:=rfl
   rw [e];exact ⟨by simp,by simp⟩
 unfold z31_k1 ref43_Permitted_k1
 rw [e1,e2,e3]
 simp only [bS]
 cases b with
 | false =>
  simp only [cond_false,idx_nat,hfin,bS]
  obtain ⟨w,w1,w2,w3,w4⟩:=last v (by omega)
  exact ⟨w,by rw [w1];simp [oneI],w2,w3,w4⟩
 | true =>
  obtain ⟨ht,_⟩:=e4 rfl
  obtain ⟨hi,k,y,hk,hy⟩:=time_facts hmv ht
  have hmem:=List.mem_of_getElem? hy
  obtain ⟨_,_,⟨p0,_⟩,_,l0,_⟩:=hmv.n.mv y hmem
  have p1:=c.x.p y hmem
  have l1:=c.x.a.l y hmem
  obtain ⟨pn,hpn⟩:=Int.eq_ofNat_of_zero_le p0
  obtain ⟨ln,hln⟩:=Int.eq_ofNat_of_zero_le l0
  have hp:=List.getElem?_eq_getElem (show pn < g.Roles.length by omega)
  have hl:=List.getElem?_eq_getElem (show ln < g.Decls.length by omega)
  generalize hR:g.Roles[pn]=role at hp
  generalize hD:g.Decls[ln]=d at hl
  have hrs:(bs role).length≤4000000:=by rw [← size_bs];exact c.c.ss.r role (List.mem_of_getElem? hp)
  have hds:(bs d.Name).length≤4000000:=by rw [← size_bs];exact (c.c.ss.d d (List.mem_of_getElem? hl)).n
  have hit:=itoa_bs t.Ticks
  simp only [cT,hk,idx_nat,hy,bS]
  rw [itoa_eq hi,digits09_eq hN hi]
  simp only [bS,hpn,hln,idx_nat,hp,hl,hfin]
  rw [show str [119,105,116,104,105,110,32]=mkB [119,105,116,104,105,110,32] from rfl,show str [32,116,105,99,107,115,44,32,111,116,104,101,114,119,105,115,101,32]=mkB [32,116,105,99,107,115,44,32,111,116,104,101,114,119,105,115,101,32] from rfl,show str [32,116,111,32]=mkB [32,116,111,32] from rfl]
  rw [cat_sb (by simp;omega)]
  simp only [bS]
  rw [cat_mk (by simp;omega)]
  simp only [bS]
  rw [cat_sb (by simp;omega)]
  simp only [bS]
  rw [cat_mk (by simp;omega)]
  simp only [bS]
  rw [cat_sb (by simp;omega)]
  simp only [bS]
  rw [appL_some (by simp;omega)]
  simp only [bS]
  generalize hz:([119,105,116,104,105,110,32]++bs (itoaS t.Ticks)++[32,116,105,99,107,115,44,32,111,116,104,101,114,119,105,115,101,32]++bs d.Name++[32,116,111,32]++bs role:List UInt8)=z
  have hzl:z.length≤8100000000∧z≠[]:=by
   rw [← hz]
   refine ⟨by simp;omega,by simp⟩
  obtain ⟨w,w1,w2,w3,w4⟩:=last (v++[mkB z]) (by simp;omega)
  refine ⟨mkB z::w,by simp [w1,oneI];omega,fun s hs=>?_,?_,?_⟩
  ·rcases List.mem_cons.1 hs with rfl | hs
   ·rw [bs_mkB];exact hzl
   ·exact w2 s hs
  ·rw [w3];simp
  ·rw [w4];simp
theorem lines_both (c:CtxE N g m) {st:Int} (s0:0≤st) (s1:st < m.States) :
  ∃ (L:List Int) (v w:List ByteArray),MovesAre m st m.Moves.length L∧L.length=(ixM m m.Moves.length st.toNat).length∧v.length=L.length∧(∀ s∈v,LineOk s)∧w.length=oneI (limV m.Timeouts st).isSome+oneI (finV m st)∧(∀ s∈w,(bs s).length≤8100000000∧bs s≠[]) ∧
   z31 N g m st=some (v++w)∧((ref26_Moves N m st).bind fun x3=>ref43_Permitted_l2 N g m st x3 N ([]:List ByteArray) (0:Int))=some (v++w,0):=by
 have hN:=c.c.hN
 have hmv:=c.x.mv
 obtain ⟨L,e1,e2,hL,hLc⟩:=moves_both hN c.c.t hmv c.rb s0 s1
 have hml:=hmv.n.n
 have hLl:=hL.len
 obtain ⟨v,v1,v2,v3,v4⟩:=lines_loop c st L (fun a ha=>by obtain ⟨k,x,h1,_,h2,_⟩:=(hL.mem a).1 ha;exact ⟨k,x,h1,h2⟩) L N 0 [] rfl (by omega) (by omega) (by simp;omega)
 obtain ⟨w,w1,w2,w3,w4⟩:=lines_end c s0 s1 v (by omega)
 refine ⟨L,v,w,hL,hLc,v1,v2,w1,w2,?_,?_⟩
 ·unfold z31
  rw [e1,bS,show (0:Int)=((0:Nat):Int) from rfl,v3,List.nil_append,w3]
 ·rw [e2,bS,show (0:Int)=((0:Nat):Int) from rfl,v4,List.nil_append,w4];rfl
theorem newFits (c:Ctx0 N g m) (hn:NumE g):z30 N g m=some true∧((ref40_New N g m).bind fun x1=>ref40_Fits N g m x1)=some true:=by
 have hS:=new_st c
 refine ⟨?_,?_⟩
 ·unfold z30
  rw [New_eq c,bS,fits_true c hS];rfl
 ·rw [refNew_eq c hn,bS,refFits_true c hn hS]
theorem newNot (hN:4194304 < N) (hg:SizeG g) (hs:SizeN g) (hn:NumE g) (ht:m.Timeouts.length≤4194304) (h:z60 N g m=some false):z30 N g m=some false∧((ref40_New N g m).bind fun x1=>ref40_Fits N g m x1)=some false:=by
 obtain ⟨b,e,f,_⟩:=agree_both hN g hg hs hn m ht
 rw [h] at e
 cases e
 refine ⟨?_,?_⟩
 ·unfold z30 z24
  rw [h]
  simp only [bS]
  have:∀ s,z46 N g m s=some false:=fun s=>by
   unfold z46
   rw [h];rfl
  show ((some _).bind _).bind _=_
  simp only [bS,Bool.not_false,cT,this]
 ·unfold ref40_New ref40_Fits
  rw [f]
  simp only [bS,Bool.not_false,cT,cond_false]
theorem perm_both (hN:4194304 < N) (hg:SizeG g) (hs:SizeN g) (hn:NumE g) (ht:m.Timeouts.length≤4194304) (st:Int) :
  (z10 N g m st=some ([],1)∧ref43_Permitted N g m st=some ([],1)) ∨
  ∃ (L:List Int) (v w:List ByteArray),CtxE N g m∧0≤st∧st < m.States∧MovesAre m st m.Moves.length L∧L.length=(ixM m m.Moves.length st.toNat).length∧v.length=L.length∧(∀ s∈v,LineOk s)∧w.length=oneI (limV m.Timeouts st).isSome+oneI (finV m st)∧(∀ s∈w,(bs s).length≤8100000000∧bs s≠[]) ∧
   z31 N g m st=some (v++w)∧z10 N g m st=some (v++w,0)∧ref43_Permitted N g m st=some (v++w,0):=by
 obtain ⟨b,e,hb⟩:=agree_some hN g hg hs m ht
 cases b with
 | false =>
  obtain ⟨h1,h2⟩:=newNot hN hg hs hn ht e
  refine .inl ⟨?_,?_⟩
  ·unfold z10
   rw [h1];rfl
  ·unfold ref43_Permitted
   cases hq:ref40_New N g m with
   | none=>rw [hq] at h2;cases h2
   | some q =>
    rw [hq] at h2
    simp only [bS] at h2 ⊢
    rw [h2];rfl
 | true =>
  have c:Ctx0 N g m:=⟨hN,hg,hs,ht,hb rfl,e⟩
  have cx:=ctxE_of c hn
  obtain ⟨h1,h2⟩:=newFits c hn
  have e1:∀ {A:Type} (f:Bool→Option A),((ref40_New N g m).bind fun x1=>(ref40_Fits N g m x1).bind f)=f true:=fun f=>by
   rw [← Option.bind_assoc,h2];rfl
  by_cases c0:st < 0
  ·refine .inl ⟨?_,?_⟩
   ·unfold z10
    rw [h1,dT c0];rfl
   ·unfold ref43_Permitted
    rw [e1,dT c0];rfl
  by_cases c1:st≥m.States
  ·refine .inl ⟨?_,?_⟩
   ·unfold z10
    rw [h1,dF c0,dT c1];rfl
   ·unfold ref43_Permitted
    rw [e1,dF c0,dT c1];rfl
  obtain ⟨L,v,w,a1,a1c,a2,a3,a4,a5,a6,a7⟩:=lines_both cx (show 0≤st by omega) (by omega)
  refine .inr ⟨L,v,w,cx,by omega,by omega,a1,a1c,a2,a3,a4,a5,a6,?_,?_⟩
  ·unfold z10
   rw [h1,dF c0,dF c1,a6];rfl
  ·unfold ref43_Permitted
   rw [e1,dF c0,dF c1]
   simp only [Bool.not_true,cond_false]
   exact a7
end Gp
end
section
namespace Gp
open Go Go.Kx Gx
variable {N:Nat} {g:T5} {m:T8}
theorem ixM_drop (s k:Nat) {x:T9} (hx:m.Moves[k]? = some x):(ixM m (k+1) s).length=(ixM m k s).length+oneI (x.From==(s:Int)):=by
 rw [ixM_succ,lA]
 unfold fromB
 rw [hx]
 by_cases e:x.From=(s:Int)
 ·simp [e,oneI]
 ·have e2:(x.From==(s:Int))=false:=by simpa using e
  simp [e,e2,oneI]
theorem all_moves (s:Nat) (hm:m.Moves.length≤400) (x3:List ByteArray × Int):∀ (r:List T9) (n k:Nat),m.Moves.drop k=r→r.length < n→k≤m.Moves.length→(ixM m k s).length≤k →
  law43_ExplainAll_l7 N m (s:Int) x3 n (((ixM m k s).length:Nat):Int) (k:Int)=law43_ExplainAll_k6 N m (s:Int) x3 (((ixM m m.Moves.length s).length:Nat):Int)
 | [],n,k,h,hn,hk,hi=>by
  obtain ⟨n,rfl⟩:∃ z,n=z+1:=⟨n-1,by simp at hn;omega⟩
  have hle:=drop_nil h
  obtain rfl:k=m.Moves.length:=by omega
  rw [law43_ExplainAll_l7,lt_f (Nat.le_refl _)];rfl
 | x::r,n,k,h,hn,hk,hi=>by
  obtain ⟨n,rfl⟩:∃ z,n=z+1:=⟨n-1,by simp at hn;omega⟩
  obtain ⟨hk',hx,hr⟩:=drop_cons h
  simp only [List.length_cons] at hn
  have e:=ixM_drop (m:=m) s k hx
  have e2:=ixM_len m (k+1) s
  have ih:=all_moves s hm x3 r n (k+1) hr (by omega) (by omega) e2
  rw [law43_ExplainAll_l7,lt_t hk',idx_nat,hx,w64_succ (by omega),w64_succ (by omega)]
  simp only [cT,bS]
  rw [e] at ih
  cases c:(x.From==(s:Int)) with
  | true=>rw [c] at ih;exact ih
  | false=>rw [c] at ih;exact ih
def cntT (s:Int) (r:List T11):Nat:=(r.filter fun t=>t.State==s).length
theorem all_times (s:Int) (ht:m.Timeouts.length≤4194304) (x3:List ByteArray × Int) (v9:Int):∀ (r:List T11) (n k c:Nat),m.Timeouts.drop k=r→r.length < n→c+r.length≤4194305→k+r.length≤4194305 →
  law43_ExplainAll_l4 N m s x3 v9 n (c:Int) (k:Int)=law43_ExplainAll_k3 N x3 v9 ((c+cntT s r:Nat):Int)
 | [],n,k,c,h,hn,hc,hk=>by
  obtain ⟨n,rfl⟩:∃ z,n=z+1:=⟨n-1,by simp at hn;omega⟩
  rw [law43_ExplainAll_l4,lt_f (drop_nil h)];rfl
 | x::r,n,k,c,h,hn,hc,hk=>by
  obtain ⟨n,rfl⟩:∃ z,n=z+1:=⟨n-1,by simp at hn;omega⟩
  obtain ⟨hk',hx,hr⟩:=drop_cons h
  simp only [List.length_cons] at hn hc hk
  rw [law43_ExplainAll_l4,lt_t hk',idx_nat,hx,w64_succ (by omega),w64_succ (by omega)]
  simp only [cT,bS]
  unfold cntT
  rw [List.filter_cons]
  cases e:(x.State==s) with
  | true =>
   simp only [cT,if_true,List.length_cons]
   rw [all_times s ht x3 v9 r n (k+1) (c+1) hr (by omega) (by omega) (by omega)]
   congr 2
   unfold cntT;omega
  | false =>
   simp only [cond_false,Bool.false_eq_true,if_false]
   exact all_times s ht x3 v9 r n (k+1) c hr (by omega) (by omega) (by omega)
theorem times_up (hv:ValidM m):∀ (r:List T11) (k:Nat) (x:T11),m.Timeouts.drop k=x::r→∀ y∈r,x.State < y.State:=by
 intro r
 induction r with
 | nil=>intro k x h y hy;cases hy
 | cons z r ih =>
  intro k x h y hy
  obtain ⟨hk,hx,hr⟩:=drop_cons h
  obtain ⟨hk2,hz,_⟩:=drop_cons hr
  have ht:=hv.tm
  rw [allV_iff] at ht
  have h1:=ht (k+1) z hz
  rw [Nat.zero_add] at h1
  unfold timeM at h1
  rw [Nat.add_sub_cancel,hx] at h1
  simp only [Bool.and_eq_true,Bool.or_eq_true,decide_eq_true_eq] at h1
  have h2:x.State < z.State:=by
   rcases h1.1.2 with h | h
   ·omega
   ·exact h
  rcases List.mem_cons.1 hy with rfl | hy
  ·exact h2
  ·have:=ih (k+1) z hr y hy
   omega
theorem cntT_one (hv:ValidM m) (s:Int):∀ (r:List T11) (k:Nat),m.Timeouts.drop k=r→cntT s r=oneI (r.find? fun t=>t.State==s).isSome
 | [],k,h=>rfl
 | x::r,k,h=>by
  have hup:=times_up hv r k x h
  have ih:=cntT_one hv s r (k+1) (drop_cons h).2.2
  unfold cntT at *
  rw [List.filter_cons,List.find?_cons]
  cases e:(x.State==s) with
  | true =>
   have e':x.State=s:=by simpa using e
   have:r.filter (fun t=>t.State==s)=[]:=by
    rw [List.filter_eq_nil_iff]
    intro y hy
    have:=hup y hy
    simp only [beq_iff_eq]
    omega
   simp only [if_true,this]
   rfl
  | false =>
   simp only [Bool.false_eq_true,if_false]
   exact ih
theorem ssl_pre {s:ByteArray} {p t:List UInt8} (h:bs s=p++t):ssl s none (some (p.length:Int))=some (mkB p):=by
 have hs:s.size=p.length+t.length:=by rw [size_bs,h,lA]
 unfold ssl bnd
 simp only [Option.getD_none,Option.getD_some]
 rw [dT (Int.le_refl 0),dT (show (0:Int)≤(p.length:Int) by omega),dT (show (p.length:Int)≤(s.size:Int) by omega)]
 simp only [Bool.and_self,cT,Option.map_some,Int.toNat_natCast]
 have e:s.extract (Int.toNat 0) p.length=mkB p:=by
  rw [← mkB_bs (s.extract (Int.toNat 0) p.length)]
  congr 1
  unfold bs at h ⊢
  rw [ByteArray.data_extract,Array.toList_extract]
  simp [List.extract,h]
 rw [e]
theorem line_test {s:ByteArray} (h:startsL s):∃ x5,ssl s none (some (5:Int))=some x5∧((x5.toList==(str [115,101,110,100,32]).toList)=true∨∃ x8,ssl s none (some (8:Int))=some x8∧(x8.toList==(str [114,101,99,101,105,118,101,32]).toList)=true):=by
 rcases h with ⟨t,h⟩ | ⟨t,h⟩
 ·exact ⟨_,ssl_pre (p:=[115,101,110,100,32]) h,.inl (by rw [toList_bs,toList_bs];exact beq_self_eq_true _)⟩
 ·refine ⟨_,ssl_pre (p:=[114,101,99,101,105]) (t:=[118,101,32]++t) h,.inr ⟨_,ssl_pre (p:=[114,101,99,101,105,118,101,32]) h,by rw [toList_bs,toList_bs];exact beq_self_eq_true _⟩⟩
theorem all_lines (hN:4194304 < N) (v w:List ByteArray) (hv:v.length≤1000) (hw:w.length≤1000) (hl:∀ s∈v,LineOk s) (e:Int):law43_ExplainAll_k3 N (v++w,e) ((v.length:Nat):Int) ((w.length:Nat):Int)=some true:=by
 have hend:law43_ExplainAll_k1 (v++w,e) ((v.length:Nat):Int) ((w.length:Nat):Int)=some true:=by
  unfold law43_ExplainAll_k1
  rw [w64_id (by omega) (by omega)]
  simp
 unfold law43_ExplainAll_k3
 have key:=all_from (F:=law43_ExplainAll_l2 (v++w,e) ((v.length:Nat):Int) ((w.length:Nat):Int)) (len:=v.length) (lo:=0) (e:=some true) (fun _=>True) (fun n k _ hk=>by
  refine .inr ⟨?_,trivial⟩
  have hx:=List.getElem?_eq_getElem hk
  have hok:=hl _ (List.getElem_mem hk)
  generalize v[k]=s at hx hok
  have hx':(v++w)[k]? = some s:=by rw [List.getElem?_append_left hk];exact hx
  have hge:=hok.ge
  rw [← size_bs] at hge
  obtain ⟨x5,e5,h5⟩:=line_test hok.st
  rw [law43_ExplainAll_l2]
  show (bif decide ((k:Int) < ((v++w).length:Int)) then _ else _)=_
  rw [lt_t (show k < (v++w).length by simp;omega),lt_t hk]
  simp only [cT]
  show ((idx (v++w) (k:Int)).bind _)=_
  rw [idx_nat,hx']
  simp only [bS]
  rw [dF (show ¬ (s.size:Int) < 8 by omega),e5,w64_succ (by omega)]
  simp only [cond_false,bS]
  rcases h5 with h5 | ⟨x8,e8,h8⟩
  ·rw [h5];rfl
  ·cases (x5.toList==(str [115,101,110,100,32]).toList) with
   | true=>rfl
   | false =>
    simp only [Bool.not_false,cT]
    rw [e8,bS,h8];rfl) (fun n k hk=>by
  rw [law43_ExplainAll_l2]
  show (bif decide ((k:Int) < ((v++w).length:Int)) then _ else _)=_
  rw [lt_f hk]
  by_cases c:k < (v++w).length
  ·rw [lt_t c];exact hend
  ·rw [lt_f (by omega)];exact hend) _ N 0 (Nat.le_refl _) rfl (by omega)
 rcases key with ⟨_,j,_,_,h⟩ | ⟨h,_⟩
 ·exact absurd trivial h
 ·exact h
theorem all_law (hN:4194304 < N) (ha:z8 N=some true) (hg:SizeG g) (hs:SizeN g) (hn:NumE g) (ht:m.Timeouts.length≤4194304) (st:Int) (hb:∃ b,z9 N g m []=some b):law43_ExplainAll N g m st=some true:=by
 obtain ⟨b,eb⟩:=hb
 unfold law43_ExplainAll
 rw [ha,eb]
 simp only [bS,Bool.not_true,cond_false]
 cases b with
 | false=>rfl
 | true =>
 simp only [Bool.not_true,cond_false]
 rcases perm_both hN hg hs hn ht st with ⟨e1,e2⟩ | ⟨L,v,w,cx,s0,s1,hL,hLc,v1,v2,w1,w2,_,e1,e2⟩
 ·rw [e1];rfl
 ·rw [e1]
  simp only [bS]
  have b0:((0:Int) != 0)=false:=rfl
  rw [b0,cond_false]
  obtain ⟨sn,rfl⟩:=Int.eq_ofNat_of_zero_le s0
  have hmv:=cx.x.mv
  have hml:=hmv.n.n
  have hLl:=hL.len
  have i0:(ixM m 0 sn).length=0:=by have:=ixM_len m 0 sn;omega
  have h1:=all_moves (N:=N) sn hml (v++w,(0:Int)) m.Moves N 0 rfl (by omega) (Nat.zero_le _) (by omega)
  rw [i0] at h1
  rw [show ((0:Nat):Int)=0 from rfl] at h1
  rw [h1]
  unfold law43_ExplainAll_k6
  have hf:=hmv.n.f
  have hfin:=List.getElem?_eq_getElem (show sn < m.Finals.length by omega)
  generalize m.Finals[sn]=fin at hfin
  have hfv:finV m (sn:Int)=fin:=by unfold finV;rw [idx_nat,hfin];rfl
  rw [idx_nat,hfin,bS]
  have h2:=fun c (hc:c≤1)=>all_times (N:=N) (sn:Int) ht (v++w,(0:Int)) (((ixM m m.Moves.length sn).length:Nat):Int) m.Timeouts N 0 c rfl (by omega) (by omega) (by omega)
  have h3:=cntT_one hmv (sn:Int) m.Timeouts 0 rfl
  have hLv:(ixM m m.Moves.length sn).length=v.length:=by rw [v1,hLc];rfl
  have h4:=all_lines hN v w (by omega) (by rw [w1];cases (limV m.Timeouts (sn:Int)).isSome<;>cases (finV m (sn:Int))<;>simp [oneI]) v2 0
  have hw:w.length=cntT (sn:Int) m.Timeouts+oneI fin:=by rw [w1,hfv,h3];rfl
  unfold law43_ExplainAll_k5
  cases fin with
  | true =>
   have:=h2 1 (Nat.le_refl _)
   rw [cT,show w64 ((0:Int)+1)=((1:Nat):Int) by decide]
   refine Eq.trans this ?_
   rw [hLv]
   rw [show 1+cntT (sn:Int) m.Timeouts=w.length by rw [hw];simp [oneI];omega]
   exact h4
  | false =>
   have:=h2 0 (Nat.zero_le _)
   rw [cond_false]
   refine Eq.trans this ?_
   rw [hLv]
   rw [show 0+cntT (sn:Int) m.Timeouts=w.length by rw [hw];simp [oneI]]
   exact h4
end Gp
end
section
namespace Gx
open Go Go.Kx
def k_api_Sort (x:T10):Prop:=((Lit.int .i64 x.Kind).wf=true)∧((Lit.int .i64 x.Lo).wf=true)∧((Lit.int .i64 x.Hi).wf=true)
def k_api_Field (x:T4):Prop:=(x.Name.size≤bd)∧(k_api_Sort x.Sort')
def k_api_Diff (x:T1):Prop:=((Lit.int .i64 x.X).wf=true)∧((Lit.int .i64 x.Y).wf=true)∧((Lit.int .i64 x.C).wf=true)
def k_api_Guard (x:T6):Prop:=(x.Diffs.length≤bd∧∀ y∈x.Diffs,k_api_Diff y)∧(x.Equals.length≤bd∧∀ y∈x.Equals,((Lit.int .i64 y.1).wf=true)∧((Lit.int .i64 y.2).wf=true))
def k_api_Decl (x:T0):Prop:=(x.Name.size≤bd)∧(x.Fields.length≤bd∧∀ y∈x.Fields,k_api_Field y)∧((Lit.int .i64 x.First).wf=true)∧(k_api_Guard x.Guard)
def k_api_Interaction (x:T7):Prop:=((Lit.int .i64 x.From).wf=true)∧((Lit.int .i64 x.To).wf=true)∧((Lit.int .i64 x.Label).wf=true)
def k_api_Edge (x:T2):Prop:=((Lit.int .i64 x.From).wf=true)∧(k_api_Interaction x.Act)∧((Lit.int .i64 x.To).wf=true)∧(True)
def k_api_Timeout (x:T11):Prop:=((Lit.int .i64 x.State).wf=true)∧((Lit.int .i64 x.Ticks).wf=true)∧((Lit.int .i64 x.Else).wf=true)
def k_api_Global (x:T5):Prop:=(x.Name.size≤bd)∧(x.Roles.length≤bd∧∀ y∈x.Roles,y.size≤bd)∧(x.Decls.length≤bd∧∀ y∈x.Decls,k_api_Decl y)∧((Lit.int .i64 x.States).wf=true)∧((Lit.int .i64 x.Start).wf=true)∧((Lit.int .i64 x.End).wf=true)∧(x.Edges.length≤bd∧∀ y∈x.Edges,k_api_Edge y)∧(x.Timeouts.length≤bd∧∀ y∈x.Timeouts,k_api_Timeout y)
def k_api_Move (x:T9):Prop:=((Lit.int .i64 x.From).wf=true)∧(True)∧((Lit.int .i64 x.Peer).wf=true)∧((Lit.int .i64 x.Label).wf=true)∧((Lit.int .i64 x.To).wf=true)∧(True)
def k_api_Machine (x:T8):Prop:=((Lit.int .i64 x.Role).wf=true)∧((Lit.int .i64 x.States).wf=true)∧((Lit.int .i64 x.Start).wf=true)∧(x.Finals.length≤bd∧∀ y∈x.Finals,True)∧(x.Moves.length≤bd∧∀ y∈x.Moves,k_api_Move y)∧(x.Timeouts.length≤bd∧∀ y∈x.Timeouts,k_api_Timeout y)
end Gx
end
section
namespace Gp
open Go Go.Kx Gx
set_option maxRecDepth 100000
theorem awake_some (k:Nat):z8 (k+300)=some true:=by kernel_rfl
theorem sizeD_of {x:T0} (h:k_api_Decl x):SizeD x:=by
 obtain ⟨_,h1,_,h2⟩:=h
 exact ⟨by have:=h1.1;unfold bd at this;omega,by have:=h2.1.1;unfold bd at this;omega,by have:=h2.2.1;unfold bd at this;omega⟩
theorem nameD_of {x:T0} (h:k_api_Decl x):NameD x:=by
 obtain ⟨h0,h1,_,h2⟩:=h
 exact ⟨by unfold bd at h0;omega,fun f hf=>by have:=(h1.2 f hf).1;unfold bd at this;omega⟩
theorem i64_of {n:Int} (h:(Lit.int .i64 n).wf=true):I64 n:=by
 simp [Lit.wf,IntKind.min,IntKind.max,IntKind.signed,IntKind.bits] at h
 constructor<;>omega
theorem numE_of {x:T5} (h:k_api_Global x):NumE x:=by
 obtain ⟨_,h1,h2,_,_,_,h3,h4⟩:=h
 intro e he
 have:=(h3.2 e he).2.1
 exact ⟨i64_of this.2.1,i64_of this.2.2⟩
theorem sizeG_of {g:T5} (h:k_api_Global g):SizeG g:=by
 obtain ⟨g1,g2,g3,_,_,_,g4,g5⟩:=h
 refine ⟨?_,?_,fun x hx=>sizeD_of (g3.2 x hx),?_,?_⟩
 ·have:=g2.1;unfold bd at this;omega
 ·have:=g3.1;unfold bd at this;omega
 ·have:=g4.1;unfold bd at this;omega
 ·have:=g5.1;unfold bd at this;omega
theorem sizeN_of {g:T5} (h:k_api_Global g):SizeN g:=by
 obtain ⟨g1,g2,g3,_,_,_,g4,g5⟩:=h
 refine ⟨?_,fun s hs=>?_,fun x hx=>nameD_of (g3.2 x hx)⟩
 ·unfold bd at g1;omega
 ·have:=g2.2 s hs;unfold bd at this;omega
theorem timM_of {m:T8} (h:k_api_Machine m):m.Timeouts.length≤4194304:=by
 obtain ⟨_,_,_,_,_,m1⟩:=h
 have:=m1.1;unfold bd at this;omega
theorem plain:∀ (x0:T5) (x1:T8) (x2:Int),k_api_Global x0→k_api_Machine x1→((Lit.int .i64 x2).wf=true)→∃ N,law43_ExplainAll N x0 x1 x2=some true:=by
 intro g m l hg hm hl
 exact ⟨33554432+300,all_law (by omega) (awake_some _) (sizeG_of hg) (sizeN_of hg) (numE_of hg) (timM_of hm) l (few_tot (by omega) g (sizeG_of hg) m [] (by simp) (by simp))⟩
end Gp
end
