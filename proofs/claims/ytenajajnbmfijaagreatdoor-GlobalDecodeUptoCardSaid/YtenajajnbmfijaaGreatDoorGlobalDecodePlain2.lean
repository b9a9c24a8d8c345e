/- The plain law, part 2: what the functions compute answers as the statement says. -/
import Derived.KernelRfl
import Derived.Test.YtenajajnbmfijaaGreatDoorGlobalDecodePlain1
set_option linter.all false
section
/- Plain law: reading numbers: what is read is what is written, and nothing else is accepted. -/
namespace Gp
open Go Go.Kx Gx
variable {N:Nat}
abbrev Rdr:=T12
/-- Bytes, and not too many. -/
def Byt (b:List Int):Prop:=b.length≤1000000∧∀ c∈b,0≤c∧c < 256
theorem drop_at' {α:Type} {l:List α} {i:Nat} {x:α} (h:l[i]? = some x):l.drop i=x::l.drop (i+1):=by
 obtain ⟨h1,h2⟩:=List.getElem?_eq_some_iff.mp h
 rw [List.drop_eq_getElem_cons h1,h2]
theorem lsl_at {α:Type} (L:List α) (p n:Nat) (h:p+n≤L.length):lsl L (some (p:Int)) (some ((p+n:Nat):Int))=some ((L.drop p).take n):=by
 have q1:decide ((0:Int)≤(p:Int))=true:=by simp
 have q2:decide ((p:Int)≤((p+n:Nat):Int))=true:=decide_eq_true (by omega)
 have q3:decide (((p+n:Nat):Int)≤(L.length:Int))=true:=decide_eq_true (by omega)
 unfold lsl bnd
 simp only [Option.getD_some,q1,q2,q3,Bool.and_self,cond_true,Option.map_some]
 rw [show ((p:Int)).toNat=p by omega,show (((p+n:Nat):Int)).toNat=p+n by omega,List.drop_take]
 congr 2;omega
theorem next_eq (b:List Int) (p n:Nat) (hb:Byt b) (hp:p≤b.length) (hn:n≤1000000000) :
  z165 N ⟨b,(p:Int),false⟩ (n:Int)=if p+n≤b.length then some ((b.drop p).take n,⟨b,((p+n:Nat):Int),false⟩) else some ([],⟨b,(p:Int),true⟩):=by
 have h1:=hb.1
 unfold z165
 simp only [cond_false]
 rw [w64_id (n:=(b.length:Int)-(p:Int)) (by omega) (by omega)]
 by_cases h:p+n≤b.length
 ·rw [if_pos h,decide_eq_false (show ¬ (n:Int) > (b.length:Int)-(p:Int) by omega),cond_false,w64_id (n:=(p:Int)+(n:Int)) (by omega) (by omega),w64_id (by omega) (by omega)]
  rw [show (p:Int)+(n:Int)-(n:Int)=(p:Int) by omega,show (p:Int)+(n:Int)=((p+n:Nat):Int) by omega,lsl_at b p n h];rfl
 ·rw [if_neg h,decide_eq_true (show (n:Int) > (b.length:Int)-(p:Int) by omega),cond_true]
/-- One round of reading a number. -/
theorem int_round (b:List Int) (hb:Byt b) (p i u n:Nat) (hi:i≤9) (hu:u < 128 ^ i) (hp:p≤b.length) :
  (b[p]? = none∧z141_l2 N (n+1) b (p:Int) false (u:Int) (i:Int)=some (0,⟨b,(p:Int),true⟩)) ∨
  ∃ c:Nat,b[p]? = some (c:Int)∧c < 256 ∧
   (128≤c→∃ u2:Int,z141_l2 N (n+1) b (p:Int) false (u:Int) (i:Int)=z141_l2 N n b ((p+1:Nat):Int) false u2 ((i+1:Nat):Int)∧(i < 9→u2=((u+(c-128) * 128 ^ i:Nat):Int))) ∧
   (c < 128→((c=0∧0 < i)∨(i=9∧1 < c))→∃ v,z141_l2 N (n+1) b (p:Int) false (u:Int) (i:Int)=some (v,⟨b,((p+1:Nat):Int),true⟩)) ∧
   (c < 128→¬ ((c=0∧0 < i)∨(i=9∧1 < c))→z141_l2 N (n+1) b (p:Int) false (u:Int) (i:Int)=some (zag (u+c * 128 ^ i),⟨b,((p+1:Nat):Int),false⟩)):=by
 have hlt:decide ((i:Int) < 10)=true:=decide_eq_true (by omega)
 have hnx:=next_eq (N:=N) b p 1 hb hp (by omega)
 rw [show ((1:Nat):Int)=(1:Int) from rfl] at hnx
 cases hc:b[p]? with
 | none =>
  left
  have hge:=List.getElem?_eq_none_iff.mp hc
  rw [if_neg (by omega)] at hnx
  refine ⟨rfl,?_⟩
  simp only [z141_l2,hlt,cond_true,hnx,Option.bind_some]
 | some c =>
  right
  obtain ⟨hpl,_⟩:=List.getElem?_eq_some_iff.mp hc
  obtain ⟨c0,c1⟩:=hb.2 c (List.mem_of_getElem? hc)
  obtain ⟨c,rfl⟩:∃ q:Nat,c=(q:Int):=⟨c.toNat,by omega⟩
  have hc1:c < 256:=by omega
  rw [if_pos (by omega),drop_at' hc] at hnx
  have hone:((c:Int)::b.drop (p+1)).take 1=[(c:Int)]:=rfl
  rw [hone] at hnx
  obtain ⟨q,hq,q1,q2,q3,q4⟩:∃ q,z165 N ⟨b,(p:Int),false⟩ (1:Int)=some q∧q.1=[(c:Int)]∧q.2.b'=b∧q.2.at'=((p+1:Nat):Int)∧q.2.failed'=false:=⟨_,hnx,rfl,rfl,rfl,rfl⟩
  have i0:idx [(c:Int)] (0:Int)=some (c:Int):=rfl
  obtain ⟨y,hg,hy⟩:∃ y:Int,binO .shl .u64 (wk .u64 ((c % 128:Nat):Int)) (w64 ((7:Int) * (i:Int)))=some y∧y=(((c % 128) * 128 ^ i % 18446744073709551616:Nat):Int):=⟨_,shl_grp (c % 128) i (by omega) hi,rfl⟩
  -- the sum so far
  have hpow:i≤8→128 ^ i≤72057594037927936:=by
   intro h
   have:(128:Nat) ^ i≤128 ^ 8:=Nat.pow_le_pow_right (by omega) h
   rw [show (128:Nat) ^ 8=72057594037927936 by decide] at this
   exact this
  have hpow9:i=9→128 ^ i=9223372036854775808:=by intro h;subst h;decide
  have small:∀ d:Nat,d < 128→(i≤8∨d≤1)→u+d * 128 ^ i < 18446744073709551616∧d * 128 ^ i < 18446744073709551616:=by
   intro d hd hor
   by_cases h8:i≤8
   ·have h1:=hpow h8
    have h2:d * 128 ^ i≤127 * 128 ^ i:=Nat.mul_le_mul_right _ (by omega)
    omega
   ·have h9:=hpow9 (by omega)
    have h2:d * 128 ^ i≤1 * 128 ^ i:=Nat.mul_le_mul_right _ (by rcases hor with h | h;omega;exact h)
    omega
  obtain ⟨z,hz⟩:∃ z,binO .or .u64 (u:Int) y=some z:=⟨_,rfl⟩
  have hz':i≤8∨c % 128≤1→z=((u+(c % 128) * 128 ^ i:Nat):Int):=by
   intro h
   obtain ⟨s1,s2⟩:=small (c % 128) (by omega) h
   rw [hy,Nat.mod_eq_of_lt s2,or_grp u (c % 128) i hu s1] at hz
   exact (Option.some.inj hz).symm
  have hn:=and_127 c hc1
  refine ⟨c,rfl,hc1,?_,?_,?_⟩
  ·intro h
   have hd:decide ((c:Int) < 128)=false:=decide_eq_false (by omega)
   refine ⟨z,?_,fun h9=>?_⟩
   ·rw [z141_l2,hlt,cond_true,hq,Option.bind_some,q4,cond_false,q1,i0,Option.bind_some,hn,Option.bind_some,hg,Option.bind_some,hz,Option.bind_some,Option.bind_some,hd,cond_false,q2,q3,w64_succ (by omega)]
   ·rw [hz' (.inl (by omega)),show c % 128=c-128 by omega]
  ·intro h hbad
   have hd:decide ((c:Int) < 128)=true:=decide_eq_true (by omega)
   obtain ⟨a,ha⟩:∃ a,binO .shr .u64 z (1:Int)=some a:=⟨_,rfl⟩
   obtain ⟨e,he⟩:∃ e,binO .and .u64 z (1:Int)=some e:=⟨_,rfl⟩
   obtain ⟨x,hx⟩:∃ x,binO .xor .i64 (w64 a) (w64 (0-(w64 e)))=some x:=⟨_,rfl⟩
   refine ⟨x,?_⟩
   rw [z141_l2,hlt,cond_true,hq,Option.bind_some,q4,cond_false,q1,i0,Option.bind_some,hn,Option.bind_some,hg,Option.bind_some,hz,Option.bind_some,Option.bind_some,hd,cond_true,Option.bind_some]
   rcases hbad with ⟨h1,h2⟩ | ⟨h1,h2⟩
   ·rw [show ((c:Int)==0)=true by simp [h1],cond_true,decide_eq_true (show (i:Int) > 0 by omega),cond_true,ha,Option.bind_some,he,Option.bind_some,hx,Option.bind_some,q2,q3]
   ·rw [show ((c:Int)==0)=false by simp;omega,cond_false,show ((i:Int)==9)=true by simp;omega,cond_true,Option.bind_some,ha,Option.bind_some,he,Option.bind_some,hx,Option.bind_some,q2,q3,decide_eq_true (show (c:Int) > 1 by omega)]
  ·intro h hgood
   have hd:decide ((c:Int) < 128)=true:=decide_eq_true (by omega)
   have hcc:c % 128=c:=by omega
   have hor:i≤8∨c % 128≤1:=by
    rw [hcc]
    by_cases h8:i≤8
    ·exact .inl h8
    ·right;omega
   obtain ⟨s1,s2⟩:=small (c % 128) (by omega) hor
   have hz2:=hz' hor
   rw [hcc] at hz2 s1
   subst hz2
   have e2:=and1 _ s1
   rw [z141_l2,hlt,cond_true,hq,Option.bind_some,q4,cond_false,q1,i0,Option.bind_some,hn,Option.bind_some,hg,Option.bind_some,hz,Option.bind_some,Option.bind_some,hd,cond_true,Option.bind_some]
   by_cases h0:c=0
   ·rw [show ((c:Int)==0)=true by simp [h0],cond_true,decide_eq_false (show ¬ (i:Int) > 0 by omega),cond_false,show ((i:Int)==9)=false by simp;omega,cond_false,shr1,Option.bind_some,e2,Option.bind_some,xor_zag _ s1,Option.bind_some,q2,q3]
   ·rw [show ((c:Int)==0)=false by simp;omega,cond_false]
    by_cases h9:i=9
    ·rw [show ((i:Int)==9)=true by simp;omega,cond_true,Option.bind_some,shr1,Option.bind_some,e2,Option.bind_some,xor_zag _ s1,Option.bind_some,q2,q3,decide_eq_false (show ¬ (c:Int) > 1 by omega)]
    ·rw [show ((i:Int)==9)=false by simp;omega,cond_false,shr1,Option.bind_some,e2,Option.bind_some,xor_zag _ s1,Option.bind_some,q2,q3]
end Gp
end
section
/- Plain law: reading: what is accepted is an encoding, and each encoding is accepted. -/
namespace Gp
open Go Go.Kx Gx
variable {N:Nat}
/-- A reader that begins well: what it accepts is an encoding, and each encoding is accepted. -/
structure Inn {α:Type} (f:Rdr→Option (α × Rdr)) (Enc:α→List Int→Prop):Prop where
 run:∀ b (p:Nat),Byt b→p≤b.length→(∃ x a,f ⟨b,(p:Int),false⟩=some (x,⟨b,a,true⟩))∨∃ x l rest,b.drop p=l++rest∧Enc x l∧f ⟨b,(p:Int),false⟩=some (x,⟨b,((p+l.length:Nat):Int),false⟩)
 full:∀ b (p:Nat) x l rest,Byt b→p≤b.length→b.drop p=l++rest→Enc x l→f ⟨b,(p:Int),false⟩=some (x,⟨b,((p+l.length:Nat):Int),false⟩)
/-- A loop that reads the groups of seven bits of a number, from the place p0 on. -/
structure Loop (b:List Int) (p0:Nat) (F:Nat→Nat→Nat→Option (Int × Rdr)):Prop where
 stop:∀ n u i,i≤9→u < 128 ^ i→p0+i≤b.length→b[p0+i]? = none→∃ x a,F (n+1) u i=some (x,⟨b,a,true⟩)
 more:∀ n u i (c:Nat),i < 9→u < 128 ^ i→b[p0+i]? = some (c:Int)→128≤c→c < 256→F (n+1) u i=F n (u+(c-128) * 128 ^ i) (i+1)
 long:∀ n u (c:Nat),u < 128 ^ 9→b[p0+9]? = some (c:Int)→128≤c→c < 256→∃ x a,F (n+2) u 9=some (x,⟨b,a,true⟩)
 bad:∀ n u i (c:Nat),i≤9→u < 128 ^ i→b[p0+i]? = some (c:Int)→c < 128→((c=0∧0 < i)∨(i=9∧1 < c))→∃ x a,F (n+1) u i=some (x,⟨b,a,true⟩)
 good:∀ n u i (c:Nat),i≤9→u < 128 ^ i→b[p0+i]? = some (c:Int)→c < 128→¬ ((c=0∧0 < i)∨(i=9∧1 < c))→F (n+1) u i=some (zag (u+c * 128 ^ i),⟨b,((p0+i+1:Nat):Int),false⟩)
theorem int_ten (b:List Int) (p u:Int) (n:Nat):z141_l2 N (n+1) b p false u ((10:Nat):Int)=some (0,⟨b,p,true⟩):=by
 have:decide (((10:Nat):Int) < 10)=false:=rfl
 rw [z141_l2,this,cond_false]
 rfl
theorem wire_loop' (b:List Int) (hb:Byt b) (p0:Nat):Loop b p0 (fun n u i=>z141_l2 N n b ((p0+i:Nat):Int) false (u:Int) (i:Int)):=by
 have hlt:∀ {i:Nat} {c:Nat},b[p0+i]? = some (c:Int)→p0+i < b.length:=fun h=>(List.getElem?_eq_some_iff.mp h).1
 refine ⟨?_,?_,?_,?_,?_⟩
 ·intro n u i hi hu hp h
  rcases int_round (N:=N) b hb (p0+i) i u n hi hu hp with ⟨_,e⟩ | ⟨c,hc,_⟩
  ·exact ⟨_,_,e⟩
  ·rw [h] at hc;cases hc
 ·intro n u i c hi hu h hc hc2
  rcases int_round (N:=N) b hb (p0+i) i u n (by omega) hu (by have:=hlt h;omega) with ⟨e,_⟩ | ⟨d,hd,_,h1,_,_⟩
  ·rw [h] at e;cases e
  ·rw [h] at hd
   have:d=c:=by have:=Option.some.inj hd;omega
   subst this
   obtain ⟨u2,e,e2⟩:=h1 hc
   have e2:=e2 hi
   subst e2
   exact e
 ·intro n u c hu h hc hc2
  rcases int_round (N:=N) b hb (p0+9) 9 u (n+1) (by omega) hu (by have:=hlt h;omega) with ⟨e,_⟩ | ⟨d,hd,_,h1,_,_⟩
  ·rw [h] at e;cases e
  ·rw [h] at hd
   have:d=c:=by have:=Option.some.inj hd;omega
   subst this
   obtain ⟨u2,e,_⟩:=h1 hc
   refine ⟨0,((p0+9+1:Nat):Int),e.trans ?_⟩
   exact int_ten b _ u2 n
 ·intro n u i c hi hu h hc hbad
  rcases int_round (N:=N) b hb (p0+i) i u n hi hu (by have:=hlt h;omega) with ⟨e,_⟩ | ⟨d,hd,_,_,h2,_⟩
  ·rw [h] at e;cases e
  ·rw [h] at hd
   have:d=c:=by have:=Option.some.inj hd;omega
   subst this
   obtain ⟨v,e⟩:=h2 hc hbad
   exact ⟨v,_,e⟩
 ·intro n u i c hi hu h hc hgood
  rcases int_round (N:=N) b hb (p0+i) i u n hi hu (by have:=hlt h;omega) with ⟨e,_⟩ | ⟨d,hd,_,_,_,h3⟩
  ·rw [h] at e;cases e
  ·rw [h] at hd
   have:d=c:=by have:=Option.some.inj hd;omega
   subst this
   exact h3 hc hgood
theorem vu_one (m c:Nat) (h:c < 128):vu m c=[(c:Int)]:=by
 cases m with
 | zero=>rfl
 | succ m=>unfold vu;rw [if_pos h]
theorem grp (u d v P:Nat):u+d * P+P * 128 * v=u+P * (d+128 * v):=by
 rw [Nat.mul_add,Nat.mul_assoc,Nat.mul_comm d P]
 omega
theorem int_run {b:List Int} (hb:Byt b) {p0:Nat} {F:Nat→Nat→Nat→Option (Int × Rdr)} (HF:Loop b p0 F):∀ (m i u n:Nat) (pre:List Int),i+m=9→u < 128 ^ i→(∀ v,(i=0∨1≤v)→vu 9 (u+128 ^ i * v)=pre++vu (9-i) v)→pre.length=i→p0+i≤b.length→(∃ r,b.drop p0=pre++r)→m+1 < n →
  (∃ x a,F n u i=some (x,⟨b,a,true⟩)) ∨
  ∃ x l rest,b.drop p0=l++rest∧(l=vint x∧I64 x)∧F n u i=some (x,⟨b,((p0+l.length:Nat):Int),false⟩):=by
 intro m
 induction m with
 | zero =>
  intro i u n pre him hu hpre hpl hp hr hn
  obtain ⟨n,rfl⟩:∃ q,n=q+1:=⟨n-1,by omega⟩
  obtain ⟨n,rfl⟩:∃ q,n=q+1:=⟨n-1,by omega⟩
  have hi:i=9:=by omega
  subst hi
  obtain ⟨r,hr⟩:=hr
  cases hc:b[p0+9]? with
  | none=>exact .inl (HF.stop _ u 9 (by omega) hu hp hc)
  | some c =>
  obtain ⟨c0,c1⟩:=hb.2 c (List.mem_of_getElem? hc)
  obtain ⟨c,rfl⟩:∃ q:Nat,c=(q:Int):=⟨c.toNat,by omega⟩
  by_cases hc8:128≤c
  ·exact .inl (HF.long n u c hu hc hc8 (by omega))
  by_cases hbad:(c=0∧0 < 9)∨(9=9∧1 < c)
  ·exact .inl (HF.bad _ u 9 c (by omega) hu hc (by omega) hbad)
  right
  have e:=HF.good (n+1) u 9 c (by omega) hu hc (by omega) hbad
  have hc':c=1:=by omega
  subst hc'
  have hlt:u+1 * 128 ^ 9 < 18446744073709551616:=by
   have:(128:Nat) ^ 9=9223372036854775808:=by decide
   omega
  have hd:b.drop p0=(pre++[((1:Nat):Int)])++b.drop (p0+9+1):=by
   have hx:=drop_at' hc
   have h5:b.drop (p0+9)=r:=by rw [← List.drop_drop,hr,← hpl,List.drop_left]
   rw [h5] at hx
   rw [hr,hx];simp
  refine ⟨_,pre++[((1:Nat):Int)],_,hd,⟨?_,zag_i64 _ hlt⟩,?_⟩
  ·unfold vint
   rw [zig_zag _ hlt,Nat.mul_comm 1,hpre 1 (.inr (by omega)),vu_one _ 1 (by omega)]
  ·rw [e]
   simp [hpl];omega
 | succ m ih =>
  intro i u n pre him hu hpre hpl hp hr hn
  obtain ⟨n,rfl⟩:∃ q,n=q+1:=⟨n-1,by omega⟩
  obtain ⟨r,hr⟩:=hr
  cases hc:b[p0+i]? with
  | none=>exact .inl (HF.stop _ u i (by omega) hu hp hc)
  | some c =>
  obtain ⟨c0,c1⟩:=hb.2 c (List.mem_of_getElem? hc)
  obtain ⟨c,rfl⟩:∃ q:Nat,c=(q:Int):=⟨c.toNat,by omega⟩
  have h5:b.drop (p0+i)=r:=by rw [← List.drop_drop,hr,← hpl,List.drop_left]
  have hd:b.drop p0=(pre++[(c:Int)])++b.drop (p0+i+1):=by
   have hx:=drop_at' hc
   rw [h5] at hx
   rw [hr,hx];simp
  by_cases hc8:128≤c
  ·rw [HF.more n u i c (by omega) hu hc hc8 (by omega)]
   have hlt:=(List.getElem?_eq_some_iff.mp hc).1
   refine ih (i+1) (u+(c-128) * 128 ^ i) n (pre++[(c:Int)]) (by omega) ?_ ?_ (by simp [hpl]) (by omega) ⟨_,hd⟩ (by omega)
   ·rw [Nat.pow_succ]
    have:(c-128) * 128 ^ i≤127 * 128 ^ i:=Nat.mul_le_mul_right _ (by omega)
    omega
   ·intro v hv
    have hv:1≤v:=by omega
    rw [Nat.pow_succ,grp,hpre (c-128+128 * v) (.inr (by omega)),show 9-i=(9-(i+1))+1 by omega]
    have hge:¬ (c-128+128 * v < 128):=by omega
    rw [vu,if_neg hge,show (c-128+128 * v) % 128+128=c by omega,show (c-128+128 * v) / 128=v by omega]
    simp
  by_cases hbad:(c=0∧0 < i)∨(i=9∧1 < c)
  ·exact .inl (HF.bad _ u i c (by omega) hu hc (by omega) hbad)
  right
  have e:=HF.good n u i c (by omega) hu hc (by omega) hbad
  have hlt:u+c * 128 ^ i < 18446744073709551616:=by
   have h6:(128:Nat) ^ i≤128 ^ 8:=Nat.pow_le_pow_right (by omega) (by omega)
   have h7:(128:Nat) ^ 8=72057594037927936:=by decide
   have h8:c * 128 ^ i≤127 * 128 ^ i:=Nat.mul_le_mul_right _ (by omega)
   omega
  refine ⟨_,pre++[(c:Int)],_,hd,⟨?_,zag_i64 _ hlt⟩,?_⟩
  ·unfold vint
   rw [zig_zag _ hlt,Nat.mul_comm c,hpre c (by omega),vu_one _ c (by omega)]
  ·rw [e]
   simp [hpl];omega
theorem int_full {b:List Int} (hb:Byt b) {p0:Nat} {F:Nat→Nat→Nat→Option (Int × Rdr)} (HF:Loop b p0 F):∀ (m i u v n:Nat) (rest:List Int),i+m=9→u < 128 ^ i→(i=0∨1≤v)→u+128 ^ i * v < 18446744073709551616→b.drop (p0+i)=vu m v++rest→m < n →
  F n u i=some (zag (u+128 ^ i * v),⟨b,((p0+i+(vu m v).length:Nat):Int),false⟩):=by
 intro m
 induction m with
 | zero =>
  intro i u v n rest him hu hv hlt hd hn
  obtain ⟨n,rfl⟩:∃ q,n=q+1:=⟨n-1,by omega⟩
  have hi:i=9:=by omega
  subst hi
  have h9:(128:Nat) ^ 9=9223372036854775808:=by decide
  have hv1:v=1:=by
   rw [h9] at hlt hu;omega
  subst hv1
  have hg:b[p0+9]? = some ((1:Nat):Int):=by
   have:(b.drop (p0+9))[0]? = some ((1:Nat):Int):=by rw [hd];rfl
   rw [List.getElem?_drop] at this
   simpa using this
  rw [HF.good n u 9 1 (by omega) hu hg (by omega) (by omega),Nat.mul_comm 1]
  rfl
 | succ m ih =>
  intro i u v n rest him hu hv hlt hd hn
  obtain ⟨n,rfl⟩:∃ q,n=q+1:=⟨n-1,by omega⟩
  by_cases hs:v < 128
  ·rw [vu_one _ v hs] at hd ⊢
   have hg:b[p0+i]? = some (v:Int):=by
    have:(b.drop (p0+i))[0]? = some (v:Int):=by rw [hd];rfl
    rw [List.getElem?_drop] at this
    simpa using this
   rw [HF.good n u i v (by omega) hu hg (by omega) (by omega),Nat.mul_comm v]
   rfl
  ·rw [vu,if_neg hs] at hd ⊢
   have hg:b[p0+i]? = some ((v % 128+128:Nat):Int):=by
    have:(b.drop (p0+i))[0]? = some ((v % 128+128:Nat):Int):=by rw [hd];rfl
    rw [List.getElem?_drop] at this
    simpa using this
   have hsum:u+(v % 128+128-128) * 128 ^ i+128 ^ (i+1) * (v / 128)=u+128 ^ i * v:=by
    rw [Nat.pow_succ,grp,show v % 128+128-128+128 * (v / 128)=v by omega]
   rw [HF.more n u i _ (by omega) hu hg (by omega) (by omega),ih (i+1) _ (v / 128) n rest (by omega) ?_ (.inr (by omega)) (by rw [hsum];exact hlt) ?_ (by omega),hsum]
   ·simp only [List.length_cons]
    congr 3;omega
   ·rw [Nat.pow_succ]
    have:(v % 128+128-128) * 128 ^ i≤127 * 128 ^ i:=Nat.mul_le_mul_right _ (by omega)
    omega
   ·rw [show p0+(i+1)=p0+i+1 by omega,← List.drop_drop,hd];rfl
def EncN (x:Int) (l:List Int):Prop:=l=vint x∧I64 x
theorem loop_inn {f:Rdr→Option (Int × Rdr)} (hN:100 < N) (h:∀ b (p:Nat),Byt b→p≤b.length→∃ F,Loop b p F∧f ⟨b,(p:Int),false⟩=F N 0 0):Inn f EncN:=by
 constructor
 ·intro b p hb hp
  obtain ⟨F,HF,e⟩:=h b p hb hp
  rw [e]
  exact int_run hb HF 9 0 0 N [] (by omega) (by decide) (by intro v _;simp) rfl (by omega) ⟨_,rfl⟩ (by omega)
 ·intro b p x l rest hb hp hd hx
  obtain ⟨rfl,hi⟩:=hx
  obtain ⟨F,HF,e⟩:=h b p hb hp
  rw [e]
  have:=int_full hb HF 9 0 0 (zig x) N rest (by omega) (by decide) (.inl rfl) (by have:=zig_lt x;simp;omega) hd (by omega)
  rw [show 0+128 ^ 0 * zig x=zig x by simp,zag_zig x hi] at this
  exact this
theorem inn_int (hN:100 < N):Inn (z141 N) EncN :=
 loop_inn (N:=N) hN fun b p hb hp=>⟨_,wire_loop' (N:=N) b hb p,rfl⟩
end Gp
end
section
/- Plain law: readers one behind the other, lists, texts. -/
namespace Gp
open Go Go.Kx Gx
variable {N:Nat}
/-- A reader, begun well or after a failure. -/
structure Rds {α:Type} (f:Rdr→Option (α × Rdr)) (Enc:α→List Int→Prop):Prop extends Inn f Enc where
 fail:∀ b a,∃ x,f ⟨b,a,true⟩=some (x,⟨b,a,true⟩)
/-- A reader that answers z if it fails. -/
structure RdZ {α:Type} (z:α) (f:Rdr→Option (α × Rdr)) (Enc:α→List Int→Prop):Prop extends Inn f Enc where
 fail:∀ b a,f ⟨b,a,true⟩=some (z,⟨b,a,true⟩)
 zero:∀ b (p:Nat) x a,Byt b→p≤b.length→f ⟨b,(p:Int),false⟩=some (x,⟨b,a,true⟩)→x=z
theorem RdZ.rds {α:Type} {z:α} {f:Rdr→Option (α × Rdr)} {Enc:α→List Int→Prop} (h:RdZ z f Enc):Rds f Enc:=⟨h.toInn,fun b a=>⟨z,h.fail b a⟩⟩
theorem Inn.congr {α:Type} {f:Rdr→Option (α × Rdr)} {A B:α→List Int→Prop} (h:Inn f A) (e:∀ x l,A x l↔B x l):Inn f B:=by
 have:A=B:=by funext x l;exact propext (e x l)
 rw [← this];exact h
theorem Rds.congr {α:Type} {f:Rdr→Option (α × Rdr)} {A B:α→List Int→Prop} (h:Rds f A) (e:∀ x l,A x l↔B x l):Rds f B:=by
 have:A=B:=by funext x l;exact propext (e x l)
 rw [← this];exact h
theorem part_rdz {α:Type} {z:α} {f g:Rdr→Option (α × Rdr)} {Enc:α→List Int→Prop} (hf:Inn f Enc)
  (hg:∀ r,g r=bif r.failed' then some (z,r) else (f r).bind fun x=>bif x.2.failed' then some (z,⟨x.2.b',r.at',x.2.failed'⟩) else some (x.1,x.2)):RdZ z g Enc:=by
 refine ⟨⟨?_,?_⟩,?_,?_⟩
 ·intro b p hb hp
  rcases hf.run b p hb hp with ⟨x,a,h⟩ | ⟨x,l,rest,h1,h2,h3⟩
  ·left
   exact ⟨z,(p:Int),by rw [hg];simp only [cond_false];rw [h];rfl⟩
  ·right
   exact ⟨x,l,rest,h1,h2,by rw [hg];simp only [cond_false];rw [h3];rfl⟩
 ·intro b p x l rest hb hp hd hx
  rw [hg]
  simp only [cond_false]
  rw [hf.full b p x l rest hb hp hd hx];rfl
 ·intro b a;rw [hg];rfl
 ·intro b p x a hb hp h
  rw [hg] at h
  simp only [cond_false] at h
  rcases hf.run b p hb hp with ⟨y,a',h'⟩ | ⟨y,l,rest,h1,h2,h3⟩
  ·rw [h'] at h
   simp at h
   exact h.1.symm
  ·rw [h3] at h
   simp at h
theorem Rds.bind {α β:Type} {f:Rdr→Option (α × Rdr)} {k:α→Rdr→Option (β × Rdr)} {A:α→List Int→Prop} {B:α→β→List Int→Prop} (hf:Rds f A) (hk:∀ x,Rds (k x) (B x)) :
  Rds (fun r=>(f r).bind fun q=>k q.1 q.2) (fun y l=>∃ x l1 l2,l=l1++l2∧A x l1∧B x y l2):=by
 refine ⟨⟨?_,?_⟩,?_⟩
 ·intro b p hb hp
  rcases hf.run b p hb hp with ⟨x,a,h⟩ | ⟨x,l1,rest,h1,h2,h3⟩
  ·left
   obtain ⟨y,hy⟩:=(hk x).fail b a
   exact ⟨y,a,by simp only [h,Option.bind_some,hy]⟩
  ·have hl:p+l1.length≤b.length:=by
    have:=congrArg List.length h1
    simp at this;omega
   rcases (hk x).run b (p+l1.length) hb hl with ⟨y,a,h⟩ | ⟨y,l2,rest2,g1,g2,g3⟩
   ·left
    exact ⟨y,a,by simp only [h3,Option.bind_some,h]⟩
   ·right
    have hr:b.drop (p+l1.length)=rest:=by rw [← List.drop_drop,h1,List.drop_left]
    rw [hr] at g1
    exact ⟨y,l1++l2,rest2,by rw [h1,g1];simp,⟨x,l1,l2,rfl,h2,g2⟩,by simp only [h3,Option.bind_some,g3,List.length_append];congr 3;omega⟩
 ·intro b p y l rest hb hp hd hx
  obtain ⟨x,l1,l2,rfl,h2,g2⟩:=hx
  rw [List.append_assoc] at hd
  have h3:=hf.full b p x l1 _ hb hp hd h2
  have hl:p+l1.length≤b.length:=by
   have:=congrArg List.length hd
   simp at this;omega
  have hr:b.drop (p+l1.length)=l2++rest:=by rw [← List.drop_drop,hd,List.drop_left]
  have g3:=(hk x).full b (p+l1.length) y l2 rest hb hl hr g2
  simp only [h3,Option.bind_some,g3,List.length_append]
  congr 3;omega
 ·intro b a
  obtain ⟨x,hx⟩:=hf.fail b a
  obtain ⟨y,hy⟩:=(hk x).fail b a
  exact ⟨y,by simp only [hx,Option.bind_some,hy]⟩
theorem Rds.ret {α:Type} (v:α):Rds (fun r=>some (v,r)) (fun y l=>y=v∧l=[]):=by
 refine ⟨⟨?_,?_⟩,?_⟩
 ·intro b p hb hp
  exact .inr ⟨v,[],b.drop p,rfl,⟨rfl,rfl⟩,rfl⟩
 ·rintro b p x l rest hb hp hd ⟨rfl,rfl⟩
  rfl
 ·intro b a;exact ⟨v,rfl⟩
/-- Encodings one behind the other. -/
inductive EncL {α:Type} (Enc:α→List Int→Prop):List α→List Int→Prop
 | nil:EncL Enc [] []
 | cons (x:α) (xs:List α) (l ls:List Int):Enc x l→EncL Enc xs ls→EncL Enc (x::xs) (l++ls)
section
variable {α:Type} {one:Rdr→Option (α × Rdr)} {Enc:α→List Int→Prop} {L:(Int × Rdr)→Nat→List Int→Int→Bool→List α→Int→Option (List α × Rdr)}
theorem list_fail (h1:Rds one Enc) (x1:Int × Rdr) (hx1:x1.1≤1000)
  (hL0:∀ n b a fl acc i,decide (i < x1.1)=false→L x1 (n+1) b a fl acc i=some (acc,⟨b,a,fl⟩))
  (hL1:∀ n b a fl acc i,decide (i < x1.1)=true→L x1 (n+1) b a fl acc i=(one ⟨b,a,fl⟩).bind fun x=>(appL acc [x.1]).bind fun y=>L x1 n x.2.b' x.2.at' x.2.failed' y (w64 (i+1))) (b:List Int) (a:Int) :
  ∀ (k i n:Nat) (acc:List α),x1.1≤((i+k:Nat):Int)→i+k≤1000→k < n→acc.length≤i→∃ ys,L x1 n b a true acc (i:Int)=some (ys,⟨b,a,true⟩):=by
 intro k
 induction k with
 | zero =>
  intro i n acc h _ hn ha
  obtain ⟨n,rfl⟩:∃ q,n=q+1:=⟨n-1,by omega⟩
  exact ⟨acc,hL0 n b a true acc _ (decide_eq_false (by omega))⟩
 | succ k ih =>
  intro i n acc h hk hn ha
  obtain ⟨n,rfl⟩:∃ q,n=q+1:=⟨n-1,by omega⟩
  by_cases hlt:(i:Int) < x1.1
  ·obtain ⟨x,hx⟩:=h1.fail b a
   rw [hL1 n b a true acc _ (decide_eq_true hlt),hx]
   simp only [Option.bind_some]
   rw [appL_some (by simp;omega),Option.bind_some,w64_succ (by omega)]
   exact ih (i+1) n _ (by omega) (by omega) (by omega) (by simp;omega)
  ·exact ⟨acc,hL0 n b a true acc _ (decide_eq_false hlt)⟩
theorem list_run (h1:Rds one Enc) (x1:Int × Rdr) (hx1:x1.1≤1000)
  (hL0:∀ n b a fl acc i,decide (i < x1.1)=false→L x1 (n+1) b a fl acc i=some (acc,⟨b,a,fl⟩))
  (hL1:∀ n b a acc i,decide (i < x1.1)=true→L x1 (n+1) b a false acc i=(one ⟨b,a,false⟩).bind fun x=>(appL acc [x.1]).bind fun y=>L x1 n x.2.b' x.2.at' x.2.failed' y (w64 (i+1)))
  (hF:∀ (b:List Int) (a:Int) (k i n:Nat) (acc:List α),x1.1≤((i+k:Nat):Int)→i+k≤1000→k < n→acc.length≤i→∃ ys,L x1 n b a true acc (i:Int)=some (ys,⟨b,a,true⟩)) (b:List Int) (hb:Byt b) :
  ∀ (k i n p:Nat) (acc:List α),x1.1=((i+k:Nat):Int)→k < n→acc.length≤i→p≤b.length →
  (∃ ys a,L x1 n b (p:Int) false acc (i:Int)=some (ys,⟨b,a,true⟩))∨∃ ys l rest,b.drop p=l++rest∧EncL Enc ys l∧ys.length=k∧L x1 n b (p:Int) false acc (i:Int)=some (acc++ys,⟨b,((p+l.length:Nat):Int),false⟩):=by
 intro k
 induction k with
 | zero =>
  intro i n p acc h hn ha hp
  obtain ⟨n,rfl⟩:∃ q,n=q+1:=⟨n-1,by omega⟩
  right
  exact ⟨[],[],b.drop p,rfl,.nil,rfl,by rw [hL0 n b _ false acc _ (decide_eq_false (by omega))];simp⟩
 | succ k ih =>
  intro i n p acc h hn ha hp
  obtain ⟨n,rfl⟩:∃ q,n=q+1:=⟨n-1,by omega⟩
  rw [hL1 n b _ acc _ (decide_eq_true (by omega))]
  rcases h1.run b p hb hp with ⟨x,a,hx⟩ | ⟨x,l1,rest,g1,g2,g3⟩
  ·left
   rw [hx]
   simp only [Option.bind_some]
   rw [appL_some (by simp;omega),Option.bind_some,w64_succ (by omega)]
   obtain ⟨ys,hy⟩:=hF b a k (i+1) n (acc++[x]) (by omega) (by omega) (by omega) (by simp;omega)
   exact ⟨ys,a,hy⟩
  ·have hl:p+l1.length≤b.length:=by
    have:=congrArg List.length g1
    simp at this;omega
   have hr:b.drop (p+l1.length)=rest:=by rw [← List.drop_drop,g1,List.drop_left]
   rw [g3]
   simp only [Option.bind_some]
   rw [appL_some (by simp;omega),Option.bind_some,w64_succ (by omega)]
   rcases ih (i+1) n (p+l1.length) (acc++[x]) (by omega) (by omega) (by simp;omega) hl with ⟨ys,a,hy⟩ | ⟨ys,l2,rest2,e1,e2,e3,e4⟩
   ·exact .inl ⟨ys,a,hy⟩
   ·right
    rw [hr] at e1
    refine ⟨x::ys,l1++l2,rest2,by rw [g1,e1];simp,.cons x ys l1 l2 g2 e2,by simp [e3],?_⟩
    rw [e4]
    simp only [List.length_append,List.append_assoc,List.singleton_append]
    congr 3;omega
theorem list_full (h1:Rds one Enc) (x1:Int × Rdr) (hx1:x1.1≤1000)
  (hL0:∀ n b a fl acc i,decide (i < x1.1)=false→L x1 (n+1) b a fl acc i=some (acc,⟨b,a,fl⟩))
  (hL1:∀ n b a acc i,decide (i < x1.1)=true→L x1 (n+1) b a false acc i=(one ⟨b,a,false⟩).bind fun x=>(appL acc [x.1]).bind fun y=>L x1 n x.2.b' x.2.at' x.2.failed' y (w64 (i+1))) (b:List Int) (hb:Byt b) :
  ∀ (ys:List α) (l rest:List Int) (i n p:Nat) (acc:List α),x1.1=((i+ys.length:Nat):Int)→ys.length < n→acc.length≤i→p≤b.length→EncL Enc ys l→b.drop p=l++rest →
  L x1 n b (p:Int) false acc (i:Int)=some (acc++ys,⟨b,((p+l.length:Nat):Int),false⟩):=by
 intro ys
 induction ys with
 | nil =>
  intro l rest i n p acc h hn ha hp he hd
  obtain ⟨n,rfl⟩:∃ q,n=q+1:=⟨n-1,by simp at hn;omega⟩
  cases he
  rw [hL0 n b _ false acc _ (decide_eq_false (by simp at h;omega))];simp
 | cons x ys ih =>
  intro l rest i n p acc h hn ha hp he hd
  obtain ⟨n,rfl⟩:∃ q,n=q+1:=⟨n-1,by simp at hn;omega⟩
  simp only [List.length_cons] at h hn
  cases he with
  | cons _ _ l1 l2 g1 g2 =>
   rw [List.append_assoc] at hd
   have hl:p+l1.length≤b.length:=by
    have:=congrArg List.length hd
    simp at this;omega
   have hr:b.drop (p+l1.length)=l2++rest:=by rw [← List.drop_drop,hd,List.drop_left]
   rw [hL1 n b _ acc _ (decide_eq_true (by omega)),h1.full b p x l1 _ hb hp hd g1]
   simp only [Option.bind_some]
   rw [appL_some (by simp;omega),Option.bind_some,w64_succ (by omega),ih l2 rest (i+1) n (p+l1.length) (acc++[x]) (by omega) (by omega) (by simp;omega) hl g2 hr]
   simp only [List.length_append,List.append_assoc,List.singleton_append]
   congr 3;omega
theorem list_rdsF (hN:100000 < N) (h1:Rds one Enc) (most:Nat) (hm:most≤1000) {cnt f} (hc:RdZ (0:Int) cnt (fun x l=>EncN x l∧0≤x∧x≤(most:Int)))
  (hL0:∀ x1 n b a fl acc i,decide (i < x1.1)=false→L x1 (n+1) b a fl acc i=some (acc,⟨b,a,fl⟩))
  (hL1:∀ x1 n b a acc i,decide (i < x1.1)=true→L x1 (n+1) b a false acc i=(one ⟨b,a,false⟩).bind fun x=>(appL acc [x.1]).bind fun y=>L x1 n x.2.b' x.2.at' x.2.failed' y (w64 (i+1)))
  (hF:∀ (x1:Int × Rdr),x1.1≤1000→∀ (b:List Int) (a:Int) (k i n:Nat) (acc:List α),x1.1≤((i+k:Nat):Int)→i+k≤1000→k < n→acc.length≤i→∃ ys,L x1 n b a true acc (i:Int)=some (ys,⟨b,a,true⟩))
  (hf:∀ r,f r=(cnt r).bind fun x1=>L x1 N x1.2.b' x1.2.at' x1.2.failed' [] (0:Int)) :
  Rds f (fun xs l=>xs.length≤most∧∃ l2,l=vint (xs.length:Int)++l2∧EncL Enc xs l2):=by
 obtain ⟨n,rfl⟩:∃ q,N=q+1:=⟨N-1,by omega⟩
 have z0:∀ b a,L ((0:Int),⟨b,a,true⟩) (n+1) b a true [] (0:Int)=some ([],⟨b,a,true⟩):=fun b a=>hL0 _ n b a true [] _ rfl
 refine ⟨⟨?_,?_⟩,?_⟩
 ·intro b p hb hp
  rcases hc.run b p hb hp with ⟨x,a,hx⟩ | ⟨x,l1,rest,g1,⟨⟨g2,_⟩,g4,g5⟩,g3⟩
  ·left
   have:=hc.zero b p x a hb hp hx
   subst this
   exact ⟨[],a,by rw [hf,hx];exact z0 b a⟩
  ·have hl:p+l1.length≤b.length:=by
    have:=congrArg List.length g1
    simp at this;omega
   have hr:b.drop (p+l1.length)=rest:=by rw [← List.drop_drop,g1,List.drop_left]
   rcases list_run h1 (x,⟨b,((p+l1.length:Nat):Int),false⟩) (by show x≤1000;omega) (hL0 _) (hL1 _) (hF _ (by show x≤1000;omega)) b hb x.toNat 0 (n+1) (p+l1.length) [] (by show x=_;omega) (by omega) (by simp) hl with ⟨ys,a,hy⟩ | ⟨ys,l2,rest2,e1,e2,e3,e4⟩
   ·left
    exact ⟨ys,a,by rw [hf,g3];exact hy⟩
   ·right
    rw [hr] at e1
    refine ⟨ys,l1++l2,rest2,by rw [g1,e1];simp,⟨by omega,l2,?_,e2⟩,?_⟩
    ·rw [g2,e3,show ((x.toNat:Nat):Int)=x by omega]
    ·rw [hf,g3]
     have e4':L (x,⟨b,((p+l1.length:Nat):Int),false⟩) (n+1) b ((p+l1.length:Nat):Int) false [] (0:Int)=_:=e4
     simp only [Option.bind_some]
     rw [e4']
     simp only [List.length_append,List.nil_append]
     congr 3;omega
 ·rintro b p xs l rest hb hp hd ⟨q1,l2,rfl,q2⟩
  rw [List.append_assoc] at hd
  have hcn:=hc.full b p (xs.length:Int) (vint (xs.length:Int)) _ hb hp hd ⟨⟨rfl,by unfold I64;omega⟩,by omega,by omega⟩
  have hl:p+(vint (xs.length:Int)).length≤b.length:=by
   have:=congrArg List.length hd
   simp at this;omega
  have hr:b.drop (p+(vint (xs.length:Int)).length)=l2++rest:=by rw [← List.drop_drop,hd,List.drop_left]
  rw [hf,hcn]
  have:=list_full h1 ((xs.length:Int),⟨b,((p+(vint (xs.length:Int)).length:Nat):Int),false⟩) (by show (xs.length:Int)≤1000;omega) (hL0 _) (hL1 _) b hb xs l2 rest 0 (n+1) _ [] (by show (xs.length:Int)=_;omega) (by omega) (by simp) hl q2 hr
  have e4':L ((xs.length:Int),⟨b,((p+(vint (xs.length:Int)).length:Nat):Int),false⟩) (n+1) b ((p+(vint (xs.length:Int)).length:Nat):Int) false [] (0:Int)=_:=this
  simp only [Option.bind_some]
  rw [e4']
  simp only [List.length_append,List.nil_append]
  congr 3;omega
 ·intro b a
  exact ⟨[],by rw [hf,hc.fail];exact z0 b a⟩
theorem list_rds (hN:100000 < N) (h1:Rds one Enc) (most:Nat) (hm:most≤1000) {cnt f} (hc:RdZ (0:Int) cnt (fun x l=>EncN x l∧0≤x∧x≤(most:Int)))
  (hL0:∀ x1 n b a fl acc i,decide (i < x1.1)=false→L x1 (n+1) b a fl acc i=some (acc,⟨b,a,fl⟩))
  (hL1:∀ x1 n b a fl acc i,decide (i < x1.1)=true→L x1 (n+1) b a fl acc i=(one ⟨b,a,fl⟩).bind fun x=>(appL acc [x.1]).bind fun y=>L x1 n x.2.b' x.2.at' x.2.failed' y (w64 (i+1)))
  (hf:∀ r,f r=(cnt r).bind fun x1=>L x1 N x1.2.b' x1.2.at' x1.2.failed' [] (0:Int)) :
  Rds f (fun xs l=>xs.length≤most∧∃ l2,l=vint (xs.length:Int)++l2∧EncL Enc xs l2) :=
 list_rdsF hN h1 most hm hc hL0 (fun x1 n b a acc i h=>hL1 x1 n b a false acc i h) (fun x1 hx b a=>list_fail h1 x1 hx (hL0 x1) (hL1 x1) b a) hf
end
end Gp
end
section
/- Plain law: the readers of numbers, texts and truth values. -/
namespace Gp
open Go Go.Kx Gx
variable {N:Nat}
theorem rd_int (hN:100 < N):RdZ (0:Int) (z98 N) EncN:=by
 refine part_rdz (inn_int hN) ?_
 intro r
 unfold z98 z140_26
 cases r.failed'
 ·simp only [cond_false]
  cases z141 N r with
  | none=>rfl
  | some x=>cases h:x.2.failed'<;>simp [h]
 ·rfl
theorem inn_bounded (hN:100 < N) (lo hi:Int):Inn (fun r=>z164 N r lo hi) (fun x l=>EncN x l∧lo≤x∧x≤hi):=by
 constructor
 ·intro b p hb hp
  rcases (inn_int hN).run b p hb hp with ⟨x,a,h⟩ | ⟨x,l,rest,h1,h2,h3⟩
  ·left
   refine ⟨x,a,?_⟩
   simp only [z164,h,Option.bind_some,cond_true]
  ·by_cases c1:x < lo
   ·left
    refine ⟨x,((p+l.length:Nat):Int),?_⟩
    simp only [z164,h3,Option.bind_some,cond_false,decide_eq_true c1,cond_true]
   ·by_cases c2:x > hi
    ·left
     refine ⟨x,((p+l.length:Nat):Int),?_⟩
     simp only [z164,h3,Option.bind_some,cond_false,decide_eq_false c1,decide_eq_true c2]
    ·right
     refine ⟨x,l,rest,h1,⟨h2,by omega,by omega⟩,?_⟩
     simp only [z164,h3,Option.bind_some,cond_false,decide_eq_false c1,decide_eq_false c2]
 ·rintro b p x l rest hb hp hd ⟨hx,c1,c2⟩
  have h3:=(inn_int hN).full b p x l rest hb hp hd hx
  simp only [z164,h3,Option.bind_some,cond_false,decide_eq_false (show ¬ x < lo by omega),decide_eq_false (show ¬ x > hi by omega)]
theorem rd_bounded (hN:100 < N) (lo hi:Int):RdZ (0:Int) (fun r=>z133 N r lo hi) (fun x l=>EncN x l∧lo≤x∧x≤hi):=by
 refine part_rdz (inn_bounded hN lo hi) ?_
 intro r
 unfold z133 z140_24 z163_23
 cases r.failed'
 ·simp only [cond_false]
  cases z164 N r lo hi with
  | none=>rfl
  | some x=>cases h:x.2.failed'<;>simp [h]
 ·rfl
def EncB (most:Nat) (x:List Int) (l:List Int):Prop:=l=vint (x.length:Int)++x∧x.length≤most∧∀ c∈x,0≤c∧c < 256
theorem inn_bytes (hN:100 < N) (most:Nat) (hm:most≤1000):Inn (fun r=>z162 N r (most:Int)) (EncB most):=by
 constructor
 ·intro b p hb hp
  rcases (inn_bounded hN 0 (most:Int)).run b p hb hp with ⟨x,a,h⟩ | ⟨x,l,rest,h1,⟨⟨h2,_⟩,h4,h5⟩,h3⟩
  ·left
   refine ⟨[],a,?_⟩
   simp only [z162,h,Option.bind_some,cond_true]
  ·have hl:p+l.length≤b.length:=by
    have:=congrArg List.length h1
    simp at this;omega
   have hr:b.drop (p+l.length)=rest:=by rw [← List.drop_drop,h1,List.drop_left]
   have hn:=next_eq (N:=N) b (p+l.length) x.toNat hb hl (by omega)
   rw [show ((x.toNat:Nat):Int)=x by omega] at hn
   by_cases hlen:p+l.length+x.toNat≤b.length
   ·rw [if_pos hlen,hr] at hn
    right
    have hrl:rest.length=b.length-(p+l.length):=by rw [← hr];simp
    have ht:(rest.take x.toNat).length=x.toNat:=by simp;omega
    refine ⟨rest.take x.toNat,l++rest.take x.toNat,rest.drop x.toNat,?_,⟨?_,by omega,?_⟩,?_⟩
    ·rw [h1,List.append_assoc,List.take_append_drop]
    ·rw [h2,ht,show ((x.toNat:Nat):Int)=x by omega]
    ·intro c hc
     refine hb.2 c ?_
     have h6:=List.mem_of_mem_take hc
     rw [← hr] at h6
     exact List.mem_of_mem_drop h6
    ·simp only [z162,h3,Option.bind_some,cond_false,hn,List.length_append,ht]
     congr 3;omega
   ·rw [if_neg hlen] at hn
    left
    refine ⟨[],((p+l.length:Nat):Int),?_⟩
    simp only [z162,h3,Option.bind_some,cond_false,hn]
 ·rintro b p x l rest hb hp hd ⟨rfl,c1,c2⟩
  rw [List.append_assoc] at hd
  have h3:=(inn_bounded hN 0 (most:Int)).full b p (x.length:Int) _ _ hb hp hd ⟨⟨rfl,by unfold I64;omega⟩,by omega,by omega⟩
  have hl:p+(vint (x.length:Int)).length+x.length≤b.length:=by
   have:=congrArg List.length hd
   simp at this;omega
  have hr:b.drop (p+(vint (x.length:Int)).length)=x++rest:=by rw [← List.drop_drop,hd,List.drop_left]
  have hn:=next_eq (N:=N) b (p+(vint (x.length:Int)).length) x.length hb (by omega) (by omega)
  rw [if_pos hl,hr,List.take_left] at hn
  simp only [z162,h3,Option.bind_some,cond_false,hn,List.length_append]
  congr 3;omega
theorem rd_bytes (hN:100 < N) (most:Nat) (hm:most≤1000):RdZ ([]:List Int) (fun r=>z132 N r (most:Int)) (EncB most):=by
 have hal:Inn (fun r=>z161_21 N r (most:Int)) (EncB most):=by
  have hi:=inn_bytes hN most hm
  constructor
  ·intro b p hb hp
   rcases hi.run b p hb hp with ⟨x,a,h⟩ | ⟨x,l,rest,h1,h2,h3⟩
   ·left
    have hx:x=[]:=by
     have h':=h
     simp only [z162] at h'
     rcases (inn_bounded hN 0 (most:Int)).run b p hb hp with ⟨y,a',g⟩ | ⟨y,l,rest,g1,⟨_,g4,g5⟩,g3⟩
     ·simp only [g,Option.bind_some,cond_true] at h'
      simp at h';exact h'.1
     ·have hl:p+l.length≤b.length:=by
       have:=congrArg List.length g1
       simp at this;omega
      have hn:=next_eq (N:=N) b (p+l.length) y.toNat hb hl (by omega)
      rw [show ((y.toNat:Nat):Int)=y by omega] at hn
      simp only [g3,Option.bind_some,cond_false,hn] at h'
      split at h'
      ·simp at h'
      ·simp at h';exact h'.1
    subst hx
    exact ⟨[],a,by simp only [z161_21,h,Option.bind_some];rw [appL_some (by simp)];rfl⟩
   ·right
    refine ⟨x,l,rest,h1,h2,?_⟩
    simp only [z161_21,h3,Option.bind_some]
    rw [appL_some (by have:=h2.2.1;simp;omega)];rfl
  ·intro b p x l rest hb hp hd hx
   have h3:=hi.full b p x l rest hb hp hd hx
   simp only [z161_21,h3,Option.bind_some]
   rw [appL_some (by have:=hx.2.1;simp;omega)];rfl
 refine part_rdz hal ?_
 intro r
 unfold z132 z160_22
 cases r.failed'
 ·simp only [cond_false]
  cases z161_21 N r (most:Int) with
  | none=>rfl
  | some x=>cases h:x.2.failed'<;>simp [h]
 ·rfl
theorem strOf_bytes (l:List Int) (h:∀ c∈l,0≤c∧c < 256):bytesL (strOf l)=l:=by
 have gen:∀ (l:List Int) (r:ByteArray),(∀ c∈l,0≤c∧c < 256)→bytesL (l.foldl (fun r n=>r.push (UInt8.ofNat n.toNat)) r)=bytesL r++l:=by
  intro l
  induction l with
  | nil=>intro r _;simp
  | cons c l ih =>
   intro r hl
   rw [List.foldl_cons,ih _ (fun d hd=>hl d (by simp [hd]))]
   have hc:=hl c (by simp)
   have:bytesL (r.push (UInt8.ofNat c.toNat))=bytesL r++[c]:=by
    unfold bytesL
    rw [show (r.push (UInt8.ofNat c.toNat)).data=r.data.push (UInt8.ofNat c.toNat) from rfl,Array.toList_push,List.map_append]
    congr 1
    simp
    omega
   rw [this];simp
 have:=gen l ByteArray.empty h
 exact this
theorem bytesL_inj {a b:ByteArray} (h:bytesL a=bytesL b):a=b:=by
 apply bs_inj
 unfold bytesL at h
 have hinj:Function.Injective (fun b:UInt8=>(b.toNat:Int)):=by
  intro x y hxy
  have hxy:(x.toNat:Int)=(y.toNat:Int):=hxy
  exact UInt8.toNat_inj.mp (by omega)
 exact (List.map_inj_right (fun x y hxy=>hinj hxy)).mp h
theorem bytesL_rng (s:ByteArray):∀ c∈bytesL s,0≤c∧c < 256:=by
 intro c hc
 unfold bytesL at hc
 obtain ⟨x,_,rfl⟩:=List.mem_map.mp hc
 have:=x.toNat_lt
 show 0≤(x.toNat:Int)∧(x.toNat:Int) < 256
 omega
theorem bytes_strOf (s:ByteArray):strOf (bytesL s)=s:=bytesL_inj (strOf_bytes _ (bytesL_rng s))
theorem rd_text (hN:100 < N) (most:Nat) (hm:most≤1000):Rds (fun r=>z93 N r (most:Int)) (fun s l=>l=encT s∧s.size≤most):=by
 have h:=(rd_bytes (N:=N) hN most hm).rds.bind (fun x=>Rds.ret (strOf x))
 refine (show Rds (fun r=>z93 N r (most:Int)) _ from h).congr ?_
 intro s l
 constructor
 ·rintro ⟨x,l1,l2,rfl,⟨rfl,h2,h3⟩,rfl,rfl⟩
  have hb:=strOf_bytes x h3
  have hs:(strOf x).size=x.length:=by rw [← bytesL_len,hb]
  unfold encT
  rw [hs,hb]
  exact ⟨by simp,h2⟩
 ·rintro ⟨rfl,h⟩
  refine ⟨bytesL s,encT s,[],by simp,⟨?_,by rw [bytesL_len];exact h,bytesL_rng s⟩,(bytes_strOf s).symm,rfl⟩
  unfold encT
  rw [bytesL_len]
theorem rd_bool:Rds (z142 N) (fun v l=>l=[if v then (1:Int) else 0]):=by
 have hi:Inn (z167 N) (fun v l=>l=[if v then (1:Int) else 0]):=by
  constructor
  ·intro b p hb hp
   have hn:=next_eq (N:=N) b p 1 hb hp (by omega)
   rw [show ((1:Nat):Int)=(1:Int) from rfl] at hn
   by_cases hl:p+1≤b.length
   ·have hc:=List.getElem?_eq_getElem (show p < b.length by omega)
    generalize b[p]=c at hc
    obtain ⟨c0,c1⟩:=hb.2 c (List.mem_of_getElem? hc)
    rw [if_pos hl,drop_at' hc,show (c::b.drop (p+1)).take 1=[c] from rfl] at hn
    have i0:idx [c] (0:Int)=some c:=rfl
    by_cases hc2:c > 1
    ·left
     refine ⟨false,((p+1:Nat):Int),?_⟩
     simp only [z167,hn,Option.bind_some,cond_false,i0,decide_eq_true hc2,Bool.not_true]
    ·right
     refine ⟨c==1,[c],b.drop (p+1),by rw [drop_at' hc];rfl,?_,?_⟩
     ·by_cases h1:c=1
      ·subst h1;rfl
      ·rw [beq_eq_false_iff_ne.mpr h1]
       have:c=0:=by omega
       subst this;rfl
     ·simp only [z167,hn,Option.bind_some,cond_false,i0,decide_eq_false hc2,Bool.not_false,cond_true]
      rfl
   ·left
    rw [if_neg hl] at hn
    refine ⟨false,(p:Int),?_⟩
    simp only [z167,hn,Option.bind_some,cond_true]
  ·rintro b p v l rest hb hp hd rfl
   have hn:=next_eq (N:=N) b p 1 hb hp (by omega)
   rw [show ((1:Nat):Int)=(1:Int) from rfl] at hn
   have hl:p+1≤b.length:=by
    have:=congrArg List.length hd
    simp at this;omega
   rw [if_pos hl,hd] at hn
   cases v
   ·have i0:idx (([(0:Int)]++rest).take 1) (0:Int)=some 0:=rfl
    simp only [z167,hn,Option.bind_some,cond_false,Bool.false_eq_true,if_false,i0]
    rfl
   ·have i0:idx (([(1:Int)]++rest).take 1) (0:Int)=some 1:=rfl
    simp only [z167,hn,Option.bind_some,cond_false,if_true,i0]
    rfl
 refine (part_rdz (z:=false) hi ?_).rds
 intro r
 unfold z142 z166_31
 cases r.failed'
 ·simp only [cond_false]
  cases z167 N r with
  | none=>rfl
  | some x=>cases h:x.2.failed'<;>simp [h]
 ·rfl
end Gp
end
section
/- Plain law: the reader of automata: what it accepts is an encoding, and it accepts each. -/
namespace Gp
open Go Go.Kx Gx
variable {N:Nat}
theorem encL_iff {α:Type} (e:α→List Int) (ok:α→Prop):∀ (xs:List α) (l:List Int),EncL (fun x l=>l=e x∧ok x) xs l↔l=xs.flatMap e∧∀ x∈xs,ok x
 | [],l=>by
  constructor
  ·intro h;cases h;simp
  ·rintro ⟨rfl,_⟩;exact .nil
 | x::xs,l=>by
  constructor
  ·intro h
   cases h with
   | cons _ _ l1 l2 h1 h2 =>
    obtain ⟨rfl,h3⟩:=h1
    obtain ⟨rfl,h4⟩:=(encL_iff e ok xs l2).mp h2
    refine ⟨by simp,?_⟩
    intro y hy
    rcases List.mem_cons.mp hy with h | h
    ·subst h;exact h3
    ·exact h4 y h
  ·rintro ⟨rfl,h⟩
   rw [List.flatMap_cons]
   exact .cons x xs _ _ ⟨rfl,h x (by simp)⟩ ((encL_iff e ok xs _).mpr ⟨rfl,fun y hy=>h y (by simp [hy])⟩)
def okF (f:T3):Prop:=f.Name.size≤16∧I64 f.Sort'.Kind∧I64 f.Sort'.Lo∧I64 f.Sort'.Hi
def okDf (x:T1):Prop:=I64 x.X∧I64 x.Y∧I64 x.C
def okEq (x:Int × Int):Prop:=I64 x.1∧I64 x.2
def okTm (t:T8):Prop:=I64 t.State∧I64 t.Ticks∧I64 t.Else
def okEd (x:T2):Prop:=I64 x.From∧I64 x.Act.From∧I64 x.Act.To∧I64 x.Act.Label∧I64 x.To
def okD (d:T0):Prop:=d.Name.size≤50∧(d.Fields.length≤4∧∀ f∈d.Fields,okF f)∧I64 d.First∧(d.Guard.Diffs.length≤20∧∀ x∈d.Guard.Diffs,okDf x)∧(d.Guard.Equals.length≤20∧∀ x∈d.Guard.Equals,okEq x)
def okT' (s:ByteArray):Prop:=s.size≤16
def okG (g:T4):Prop:=g.Name.size≤16∧(g.Roles.length≤6∧∀ s∈g.Roles,okT' s)∧(g.Decls.length≤40∧∀ d∈g.Decls,okD d)∧I64 g.States∧I64 g.Start∧I64 g.End∧(g.Edges.length≤400∧∀ x∈g.Edges,okEd x)∧(g.Timeouts.length≤200∧∀ t∈g.Timeouts,okTm t)
theorem rd_field (hN:100000 < N):Rds (z135 N) (fun y l=>l=encF y∧okF y):=by
 have h:=(rd_text (N:=N) (by omega) 16 (by omega)).bind fun a0=>((rd_int (N:=N) (by omega)).rds).bind fun a1=>((rd_int (N:=N) (by omega)).rds).bind fun a2=>((rd_int (N:=N) (by omega)).rds).bind fun a3=>Rds.ret (⟨a0,⟨a1,a2,a3⟩⟩:T3)
 refine (show Rds (z135 N) _ from h).congr ?_
 intro y l
 constructor
 ·rintro ⟨a0,_,_,rfl,⟨rfl,h0⟩,a1,_,_,rfl,⟨rfl,h1⟩,a2,_,_,rfl,⟨rfl,h2⟩,a3,_,_,rfl,⟨rfl,h3⟩,rfl,rfl⟩
  exact ⟨by simp [encF,encI],h0,h1,h2,h3⟩
 ·rintro ⟨rfl,h0,h1,h2,h3⟩
  exact ⟨y.Name,encT y.Name,vint y.Sort'.Kind++(vint y.Sort'.Lo++(vint y.Sort'.Hi++([]))),by simp [encF,encI],⟨rfl,h0⟩,y.Sort'.Kind,vint y.Sort'.Kind,vint y.Sort'.Lo++(vint y.Sort'.Hi++([])),rfl,⟨rfl,h1⟩,y.Sort'.Lo,vint y.Sort'.Lo,vint y.Sort'.Hi++([]),rfl,⟨rfl,h2⟩,y.Sort'.Hi,vint y.Sort'.Hi,[],rfl,⟨rfl,h3⟩,rfl,rfl⟩
theorem rd_diff (hN:100000 < N):Rds (z137 N) (fun y l=>l=encDf y∧okDf y):=by
 have h:=((rd_int (N:=N) (by omega)).rds).bind fun a0=>((rd_int (N:=N) (by omega)).rds).bind fun a1=>((rd_int (N:=N) (by omega)).rds).bind fun a2=>Rds.ret (⟨a0,a1,a2⟩:T1)
 refine (show Rds (z137 N) _ from h).congr ?_
 intro y l
 constructor
 ·rintro ⟨a0,_,_,rfl,⟨rfl,h0⟩,a1,_,_,rfl,⟨rfl,h1⟩,a2,_,_,rfl,⟨rfl,h2⟩,rfl,rfl⟩
  exact ⟨by simp [encDf,encI],h0,h1,h2⟩
 ·rintro ⟨rfl,h0,h1,h2⟩
  exact ⟨y.X,vint y.X,vint y.Y++(vint y.C++([])),by simp [encDf,encI],⟨rfl,h0⟩,y.Y,vint y.Y,vint y.C++([]),rfl,⟨rfl,h1⟩,y.C,vint y.C,[],rfl,⟨rfl,h2⟩,rfl,rfl⟩
theorem rd_equals (hN:100000 < N):Rds (z139 N) (fun y l=>l=encEq y∧okEq y):=by
 have h:=((rd_int (N:=N) (by omega)).rds).bind fun a0=>((rd_int (N:=N) (by omega)).rds).bind fun a1=>Rds.ret ((a0,a1):Int × Int)
 refine (show Rds (z139 N) _ from h).congr ?_
 intro y l
 constructor
 ·rintro ⟨a0,_,_,rfl,⟨rfl,h0⟩,a1,_,_,rfl,⟨rfl,h1⟩,rfl,rfl⟩
  exact ⟨by simp [encEq,encI],h0,h1⟩
 ·rintro ⟨rfl,h0,h1⟩
  exact ⟨y.1,vint y.1,vint y.2++([]),by simp [encEq,encI],⟨rfl,h0⟩,y.2,vint y.2,[],rfl,⟨rfl,h1⟩,rfl,rfl⟩
theorem rd_timeout (hN:100000 < N):Rds (z102 N) (fun y l=>l=encTm y∧okTm y):=by
 have h:=((rd_int (N:=N) (by omega)).rds).bind fun a0=>((rd_int (N:=N) (by omega)).rds).bind fun a1=>((rd_int (N:=N) (by omega)).rds).bind fun a2=>Rds.ret (⟨a0,a1,a2⟩:T8)
 refine (show Rds (z102 N) _ from h).congr ?_
 intro y l
 constructor
 ·rintro ⟨a0,_,_,rfl,⟨rfl,h0⟩,a1,_,_,rfl,⟨rfl,h1⟩,a2,_,_,rfl,⟨rfl,h2⟩,rfl,rfl⟩
  exact ⟨by simp [encTm,encI],h0,h1,h2⟩
 ·rintro ⟨rfl,h0,h1,h2⟩
  exact ⟨y.State,vint y.State,vint y.Ticks++(vint y.Else++([])),by simp [encTm,encI],⟨rfl,h0⟩,y.Ticks,vint y.Ticks,vint y.Else++([]),rfl,⟨rfl,h1⟩,y.Else,vint y.Else,[],rfl,⟨rfl,h2⟩,rfl,rfl⟩
theorem rd_fields (hN:100000 < N):Rds (fun r=>z134_27 N r (4:Int)) (fun xs l=>l=vint (xs.length:Int)++xs.flatMap encF∧(xs.length≤4∧∀ x∈xs,okF x)):=by
 have h:=list_rds (α:=T3) (L:=fun x1=>z134_27_l2 N x1) hN (rd_field hN) 4 (by omega) (rd_bounded (N:=N) (by omega) 0 ((4:Nat):Int))
  (by intro x1 n b a fl acc i h;rw [z134_27_l2,h,cond_false];rfl)
  (by intro x1 n b a fl acc i h;rw [z134_27_l2,h,cond_true])
  (f:=fun r=>z134_27 N r (4:Int)) (by intro r;rfl)
 refine h.congr ?_
 intro xs l
 constructor
 ·rintro ⟨h1,l2,rfl,h2⟩
  obtain ⟨rfl,h3⟩:=(encL_iff _ _ xs l2).mp h2
  exact ⟨rfl,h1,h3⟩
 ·rintro ⟨rfl,h1,h3⟩
  exact ⟨h1,_,rfl,(encL_iff _ _ xs _).mpr ⟨rfl,h3⟩⟩
theorem rd_diffs (hN:100000 < N):Rds (fun r=>z136_28 N r (20:Int)) (fun xs l=>l=vint (xs.length:Int)++xs.flatMap encDf∧(xs.length≤20∧∀ x∈xs,okDf x)):=by
 have h:=list_rds (α:=T1) (L:=fun x1=>z136_28_l2 N x1) hN (rd_diff hN) 20 (by omega) (rd_bounded (N:=N) (by omega) 0 ((20:Nat):Int))
  (by intro x1 n b a fl acc i h;rw [z136_28_l2,h,cond_false];rfl)
  (by intro x1 n b a fl acc i h;rw [z136_28_l2,h,cond_true])
  (f:=fun r=>z136_28 N r (20:Int)) (by intro r;rfl)
 refine h.congr ?_
 intro xs l
 constructor
 ·rintro ⟨h1,l2,rfl,h2⟩
  obtain ⟨rfl,h3⟩:=(encL_iff _ _ xs l2).mp h2
  exact ⟨rfl,h1,h3⟩
 ·rintro ⟨rfl,h1,h3⟩
  exact ⟨h1,_,rfl,(encL_iff _ _ xs _).mpr ⟨rfl,h3⟩⟩
theorem rd_eqs (hN:100000 < N):Rds (fun r=>z138_29 N r (20:Int)) (fun xs l=>l=vint (xs.length:Int)++xs.flatMap encEq∧(xs.length≤20∧∀ x∈xs,okEq x)):=by
 have h:=list_rds (α:=Int × Int) (L:=fun x1=>z138_29_l2 N x1) hN (rd_equals hN) 20 (by omega) (rd_bounded (N:=N) (by omega) 0 ((20:Nat):Int))
  (by intro x1 n b a fl acc i h;rw [z138_29_l2,h,cond_false];rfl)
  (by intro x1 n b a fl acc i h;rw [z138_29_l2,h,cond_true])
  (f:=fun r=>z138_29 N r (20:Int)) (by intro r;rfl)
 refine h.congr ?_
 intro xs l
 constructor
 ·rintro ⟨h1,l2,rfl,h2⟩
  obtain ⟨rfl,h3⟩:=(encL_iff _ _ xs l2).mp h2
  exact ⟨rfl,h1,h3⟩
 ·rintro ⟨rfl,h1,h3⟩
  exact ⟨h1,_,rfl,(encL_iff _ _ xs _).mpr ⟨rfl,h3⟩⟩
theorem rd_role (hN:100000 < N):Rds (z95 N) (fun s l=>l=encT s∧okT' s):=by
 have h:=rd_text (N:=N) (by omega) 16 (by omega)
 have e:z95 N=fun r=>z93 N r ((16:Nat):Int):=by
  funext r
  show (z93 N r (16:Int)).bind (fun x=>some (x.1,x.2))=z93 N r (16:Int)
  cases z93 N r (16:Int)<;>rfl
 rw [e]
 exact h
theorem rd_roles (hN:100000 < N):Rds (fun r=>z94_25 N r (6:Int)) (fun xs l=>l=vint (xs.length:Int)++xs.flatMap encT∧(xs.length≤6∧∀ x∈xs,okT' x)):=by
 have h:=list_rds (α:=ByteArray) (L:=fun x1=>z94_25_l2 N x1) hN (rd_role hN) 6 (by omega) (rd_bounded (N:=N) (by omega) 0 ((6:Nat):Int))
  (by intro x1 n b a fl acc i h;rw [z94_25_l2,h,cond_false];rfl)
  (by intro x1 n b a fl acc i h;rw [z94_25_l2,h,cond_true])
  (f:=fun r=>z94_25 N r (6:Int)) (by intro r;rfl)
 refine h.congr ?_
 intro xs l
 constructor
 ·rintro ⟨h1,l2,rfl,h2⟩
  obtain ⟨rfl,h3⟩:=(encL_iff _ _ xs l2).mp h2
  exact ⟨rfl,h1,h3⟩
 ·rintro ⟨rfl,h1,h3⟩
  exact ⟨h1,_,rfl,(encL_iff _ _ xs _).mpr ⟨rfl,h3⟩⟩
theorem rd_edge (hN:100000 < N):Rds (z100 N) (fun y l=>l=encE y∧okEd y):=by
 have h:=((rd_int (N:=N) (by omega)).rds).bind fun a0=>((rd_int (N:=N) (by omega)).rds).bind fun a1=>((rd_int (N:=N) (by omega)).rds).bind fun a2=>((rd_int (N:=N) (by omega)).rds).bind fun a3=>((rd_int (N:=N) (by omega)).rds).bind fun a4=>(rd_bool (N:=N)).bind fun a5=>Rds.ret (⟨a0,⟨a1,a2,a3⟩,a4,a5⟩:T2)
 refine (show Rds (z100 N) _ from h).congr ?_
 intro y l
 constructor
 ·rintro ⟨a0,_,_,rfl,⟨rfl,h0⟩,a1,_,_,rfl,⟨rfl,h1⟩,a2,_,_,rfl,⟨rfl,h2⟩,a3,_,_,rfl,⟨rfl,h3⟩,a4,_,_,rfl,⟨rfl,h4⟩,a5,_,_,rfl,rfl,rfl,rfl⟩
  exact ⟨by simp [encE,encI],h0,h1,h2,h3,h4⟩
 ·rintro ⟨rfl,h0,h1,h2,h3,h4⟩
  exact ⟨y.From,vint y.From,vint y.Act.From++(vint y.Act.To++(vint y.Act.Label++(vint y.To++([if y.Again then 1 else 0]++[])))),by simp [encE,encI],⟨rfl,h0⟩,y.Act.From,vint y.Act.From,_,rfl,⟨rfl,h1⟩,y.Act.To,vint y.Act.To,_,rfl,⟨rfl,h2⟩,y.Act.Label,vint y.Act.Label,_,rfl,⟨rfl,h3⟩,y.To,vint y.To,_,rfl,⟨rfl,h4⟩,y.Again,[if y.Again then 1 else 0],[],rfl,rfl,rfl,rfl⟩
theorem rd_decl (hN:100000 < N):Rds (z97 N) (fun y l=>l=encD y∧okD y):=by
 have h:=(rd_text (N:=N) (by omega) 50 (by omega)).bind fun a0=>(rd_fields hN).bind fun a1=>((rd_int (N:=N) (by omega)).rds).bind fun a2=>(rd_diffs hN).bind fun a3=>(rd_eqs hN).bind fun a4=>Rds.ret (⟨a0,a1,a2,⟨a3,a4⟩⟩:T0)
 refine (show Rds (z97 N) _ from h).congr ?_
 intro y l
 constructor
 ·rintro ⟨a0,_,_,rfl,⟨rfl,h0⟩,a1,_,_,rfl,⟨rfl,h1⟩,a2,_,_,rfl,⟨rfl,h2⟩,a3,_,_,rfl,⟨rfl,h3⟩,a4,_,_,rfl,⟨rfl,h4⟩,rfl,rfl⟩
  exact ⟨by simp [encD,encI],h0,h1,h2,h3,h4⟩
 ·rintro ⟨rfl,h0,h1,h2,h3,h4⟩
  exact ⟨y.Name,encT y.Name,(vint (y.Fields.length:Int)++y.Fields.flatMap encF)++(vint y.First++((vint (y.Guard.Diffs.length:Int)++y.Guard.Diffs.flatMap encDf)++((vint (y.Guard.Equals.length:Int)++y.Guard.Equals.flatMap encEq)++([])))),by simp [encD,encI],⟨rfl,h0⟩,y.Fields,(vint (y.Fields.length:Int)++y.Fields.flatMap encF),vint y.First++((vint (y.Guard.Diffs.length:Int)++y.Guard.Diffs.flatMap encDf)++((vint (y.Guard.Equals.length:Int)++y.Guard.Equals.flatMap encEq)++([]))),rfl,⟨rfl,h1⟩,y.First,vint y.First,(vint (y.Guard.Diffs.length:Int)++y.Guard.Diffs.flatMap encDf)++((vint (y.Guard.Equals.length:Int)++y.Guard.Equals.flatMap encEq)++([])),rfl,⟨rfl,h2⟩,y.Guard.Diffs,(vint (y.Guard.Diffs.length:Int)++y.Guard.Diffs.flatMap encDf),(vint (y.Guard.Equals.length:Int)++y.Guard.Equals.flatMap encEq)++([]),rfl,⟨rfl,h3⟩,y.Guard.Equals,(vint (y.Guard.Equals.length:Int)++y.Guard.Equals.flatMap encEq),[],rfl,⟨rfl,h4⟩,rfl,rfl⟩
theorem rd_decls (hN:100000 < N):Rds (fun r=>z96_30 N r (40:Int)) (fun xs l=>l=vint (xs.length:Int)++xs.flatMap encD∧(xs.length≤40∧∀ x∈xs,okD x)):=by
 have h:=list_rds (α:=T0) (L:=fun x1=>z96_30_l2 N x1) hN (rd_decl hN) 40 (by omega) (rd_bounded (N:=N) (by omega) 0 ((40:Nat):Int))
  (by intro x1 n b a fl acc i h;rw [z96_30_l2,h,cond_false];rfl)
  (by intro x1 n b a fl acc i h;rw [z96_30_l2,h,cond_true])
  (f:=fun r=>z96_30 N r (40:Int)) (by intro r;rfl)
 refine h.congr ?_
 intro xs l
 constructor
 ·rintro ⟨h1,l2,rfl,h2⟩
  obtain ⟨rfl,h3⟩:=(encL_iff _ _ xs l2).mp h2
  exact ⟨rfl,h1,h3⟩
 ·rintro ⟨rfl,h1,h3⟩
  exact ⟨h1,_,rfl,(encL_iff _ _ xs _).mpr ⟨rfl,h3⟩⟩
theorem rd_edges (hN:100000 < N):Rds (fun r=>z99_32 N r (400:Int)) (fun xs l=>l=vint (xs.length:Int)++xs.flatMap encE∧(xs.length≤400∧∀ x∈xs,okEd x)):=by
 have h:=list_rds (α:=T2) (L:=fun x1=>z99_32_l2 N x1) hN (rd_edge hN) 400 (by omega) (rd_bounded (N:=N) (by omega) 0 ((400:Nat):Int))
  (by intro x1 n b a fl acc i h;rw [z99_32_l2,h,cond_false];rfl)
  (by intro x1 n b a fl acc i h;rw [z99_32_l2,h,cond_true])
  (f:=fun r=>z99_32 N r (400:Int)) (by intro r;rfl)
 refine h.congr ?_
 intro xs l
 constructor
 ·rintro ⟨h1,l2,rfl,h2⟩
  obtain ⟨rfl,h3⟩:=(encL_iff _ _ xs l2).mp h2
  exact ⟨rfl,h1,h3⟩
 ·rintro ⟨rfl,h1,h3⟩
  exact ⟨h1,_,rfl,(encL_iff _ _ xs _).mpr ⟨rfl,h3⟩⟩
theorem rd_times (hN:100000 < N):Rds (fun r=>z101_33 N r (200:Int)) (fun xs l=>l=vint (xs.length:Int)++xs.flatMap encTm∧(xs.length≤200∧∀ x∈xs,okTm x)):=by
 have h:=list_rds (α:=T8) (L:=fun x1=>z101_33_l2 N x1) hN (rd_timeout hN) 200 (by omega) (rd_bounded (N:=N) (by omega) 0 ((200:Nat):Int))
  (by intro x1 n b a fl acc i h;rw [z101_33_l2,h,cond_false];rfl)
  (by intro x1 n b a fl acc i h;rw [z101_33_l2,h,cond_true])
  (f:=fun r=>z101_33 N r (200:Int)) (by intro r;rfl)
 refine h.congr ?_
 intro xs l
 constructor
 ·rintro ⟨h1,l2,rfl,h2⟩
  obtain ⟨rfl,h3⟩:=(encL_iff _ _ xs l2).mp h2
  exact ⟨rfl,h1,h3⟩
 ·rintro ⟨rfl,h1,h3⟩
  exact ⟨h1,_,rfl,(encL_iff _ _ xs _).mpr ⟨rfl,h3⟩⟩
/-- The reader of an automaton. -/
def decR (N:Nat) (r:Rdr):Option (T4 × Rdr) :=
 (z93 N r (16:Int)).bind fun x2=>(z94_25 N x2.2 (6:Int)).bind fun x3=>(z96_30 N x3.2 (40:Int)).bind fun x4 =>
 (z98 N x4.2).bind fun x5=>(z98 N x5.2).bind fun x6=>(z98 N x6.2).bind fun x7=>(z99_32 N x7.2 (400:Int)).bind fun x8 =>
 (z101_33 N x8.2 (200:Int)).bind fun x9=>some (⟨x2.1,x3.1,x4.1,x5.1,x6.1,x7.1,x8.1,x9.1⟩,x9.2)
theorem rd_global (hN:100000 < N):Rds (decR N) (fun y l=>l=encG y∧okG y):=by
 have h:=(rd_text (N:=N) (by omega) 16 (by omega)).bind fun a0=>(rd_roles hN).bind fun a1=>(rd_decls hN).bind fun a2=>((rd_int (N:=N) (by omega)).rds).bind fun a3=>((rd_int (N:=N) (by omega)).rds).bind fun a4=>((rd_int (N:=N) (by omega)).rds).bind fun a5=>(rd_edges hN).bind fun a6=>(rd_times hN).bind fun a7=>Rds.ret (⟨a0,a1,a2,a3,a4,a5,a6,a7⟩:T4)
 refine (show Rds (decR N) _ from h).congr ?_
 intro y l
 constructor
 ·rintro ⟨a0,_,_,rfl,⟨rfl,h0⟩,a1,_,_,rfl,⟨rfl,h1⟩,a2,_,_,rfl,⟨rfl,h2⟩,a3,_,_,rfl,⟨rfl,h3⟩,a4,_,_,rfl,⟨rfl,h4⟩,a5,_,_,rfl,⟨rfl,h5⟩,a6,_,_,rfl,⟨rfl,h6⟩,a7,_,_,rfl,⟨rfl,h7⟩,rfl,rfl⟩
  exact ⟨by simp [encG,encI],h0,h1,h2,h3,h4,h5,h6,h7⟩
 ·rintro ⟨rfl,h0,h1,h2,h3,h4,h5,h6,h7⟩
  exact ⟨y.Name,encT y.Name,(vint (y.Roles.length:Int)++y.Roles.flatMap encT)++((vint (y.Decls.length:Int)++y.Decls.flatMap encD)++(vint y.States++(vint y.Start++(vint y.End++((vint (y.Edges.length:Int)++y.Edges.flatMap encE)++((vint (y.Timeouts.length:Int)++y.Timeouts.flatMap encTm)++([]))))))),by simp [encG,encI],⟨rfl,h0⟩,y.Roles,(vint (y.Roles.length:Int)++y.Roles.flatMap encT),(vint (y.Decls.length:Int)++y.Decls.flatMap encD)++(vint y.States++(vint y.Start++(vint y.End++((vint (y.Edges.length:Int)++y.Edges.flatMap encE)++((vint (y.Timeouts.length:Int)++y.Timeouts.flatMap encTm)++([])))))),rfl,⟨rfl,h1⟩,y.Decls,(vint (y.Decls.length:Int)++y.Decls.flatMap encD),vint y.States++(vint y.Start++(vint y.End++((vint (y.Edges.length:Int)++y.Edges.flatMap encE)++((vint (y.Timeouts.length:Int)++y.Timeouts.flatMap encTm)++([]))))),rfl,⟨rfl,h2⟩,y.States,vint y.States,vint y.Start++(vint y.End++((vint (y.Edges.length:Int)++y.Edges.flatMap encE)++((vint (y.Timeouts.length:Int)++y.Timeouts.flatMap encTm)++([])))),rfl,⟨rfl,h3⟩,y.Start,vint y.Start,vint y.End++((vint (y.Edges.length:Int)++y.Edges.flatMap encE)++((vint (y.Timeouts.length:Int)++y.Timeouts.flatMap encTm)++([]))),rfl,⟨rfl,h4⟩,y.End,vint y.End,(vint (y.Edges.length:Int)++y.Edges.flatMap encE)++((vint (y.Timeouts.length:Int)++y.Timeouts.flatMap encTm)++([])),rfl,⟨rfl,h5⟩,y.Edges,(vint (y.Edges.length:Int)++y.Edges.flatMap encE),(vint (y.Timeouts.length:Int)++y.Timeouts.flatMap encTm)++([]),rfl,⟨rfl,h6⟩,y.Timeouts,(vint (y.Timeouts.length:Int)++y.Timeouts.flatMap encTm),[],rfl,⟨rfl,h7⟩,rfl,rfl⟩
end Gp
end
section
/- Plain law: decoding: what is accepted is the encoding of a valid automaton, and each is accepted; automata found equal are equal. -/
namespace Gp
open Go Go.Kx Gx
variable {N:Nat}
theorem vu_byt:∀ (m u:Nat),u < 128 ^ (m+1)→∀ c∈vu m u,0≤c∧c < 256
 | 0,u,h,c,hc=>by
  have h:u < 128:=by simpa using h
  simp [vu] at hc;subst hc;omega
 | m+1,u,h,c,hc=>by
  unfold vu at hc
  split at hc
  ·simp at hc;subst hc;omega
  ·rcases List.mem_cons.mp hc with hc | hc
   ·subst hc;omega
   ·exact vu_byt m (u / 128) (by rw [Nat.pow_succ] at h;omega) c hc
theorem vint_byt (n:Int):∀ c∈vint n,0≤c∧c < 256:=by
 have h1:=zig_lt n
 have h2:(128:Nat) ^ (9+1)=1180591620717411303424:=by decide
 exact vu_byt 9 (zig n) (by omega)
theorem flat_byt {α:Type} (e:α→List Int):∀ (l:List α),(∀ x∈l,∀ c∈e x,0≤c∧c < 256)→∀ c∈l.flatMap e,0≤c∧c < 256:=by
 intro l h c hc
 obtain ⟨x,hx,hcx⟩:=List.mem_flatMap.mp hc
 exact h x hx c hcx
theorem app_byt {a b:List Int} (ha:∀ c∈a,0≤c∧c < 256) (hb:∀ c∈b,0≤c∧c < 256):∀ c∈a++b,0≤c∧c < 256:=by
 intro c hc
 rcases List.mem_append.mp hc with h | h
 ·exact ha c h
 ·exact hb c h
theorem encI_byt (l:List Int):∀ c∈encI l,0≤c∧c < 256:=flat_byt vint l (fun x _=>vint_byt x)
theorem encT_byt (s:ByteArray):∀ c∈encT s,0≤c∧c < 256:=app_byt (vint_byt _) (bytesL_rng s)
theorem encE_byt (x:T2):∀ c∈encE x,0≤c∧c < 256:=by
 refine app_byt (encI_byt _) ?_
 intro c hc
 cases h:x.Again<;>simp [h] at hc<;>subst hc<;>omega
theorem encD_byt (d:T0):∀ c∈encD d,0≤c∧c < 256 :=
 app_byt (encT_byt _) (app_byt (vint_byt _) (app_byt (flat_byt _ _ fun f _=>app_byt (encT_byt _) (encI_byt _)) (app_byt (encI_byt _) (app_byt (flat_byt _ _ fun x _=>encI_byt _) (app_byt (vint_byt _) (flat_byt _ _ fun x _=>encI_byt _))))))
theorem encG_byt (g:T4):∀ c∈encG g,0≤c∧c < 256 :=
 app_byt (encT_byt _) (app_byt (vint_byt _) (app_byt (flat_byt _ _ fun s _=>encT_byt s) (app_byt (vint_byt _) (app_byt (flat_byt _ _ fun d _=>encD_byt d) (app_byt (encI_byt _) (app_byt (flat_byt _ _ fun x _=>encE_byt x) (app_byt (vint_byt _) (flat_byt _ _ fun t _=>encI_byt _))))))))
theorem okG.sizeG {g:T4} (h:okG g):SizeG g:=by
 obtain ⟨h1,⟨h2,h3⟩,⟨h4,h5⟩,_,_,_,⟨h6,h7⟩,h8,h9⟩:=h
 exact ⟨by omega,by omega,fun d hd=>by
  obtain ⟨_,⟨a,_⟩,_,⟨b,_⟩,c,_⟩:=h5 d hd
  exact ⟨by omega,by omega,by omega⟩,by omega,by omega⟩
theorem okG.sizeN {g:T4} (h:okG g):SizeN g:=by
 obtain ⟨h1,⟨h2,h3⟩,⟨h4,h5⟩,_⟩:=h
 exact ⟨by omega,fun s hs=>by have:=h3 s hs;unfold okT' at this;omega,fun d hd=>by
  obtain ⟨a,⟨_,b⟩,_⟩:=h5 d hd
  exact ⟨by omega,fun f hf=>by have:=(b f hf).1;omega⟩⟩
theorem okG.numE {g:T4} (h:okG g):NumE g:=by
 obtain ⟨_,_,_,_,_,_,⟨_,h7⟩,_⟩:=h
 intro x hx
 obtain ⟨_,_,a,b,_⟩:=h7 x hx
 exact ⟨a,b⟩
/-- The automaton without anything: what is answered to an error. -/
def noG:T4:=⟨str [],[],[],0,0,0,[],[]⟩
theorem decode_as (b:List Int) (hb:b.length≤1000000):z41 N b=(decR N ⟨b,0,false⟩).bind fun q=>(z103 N q.2).bind fun x=>bif (x != (0:Int)) then some (noG,(4:Int)) else (z22 N q.1).bind fun v=>bif (!v) then some (noG,(4:Int)) else some (q.1,(0:Int)):=by
 unfold z41 z92
 rw [appL_some (by simp;omega)]
 simp only [Option.bind_some,List.nil_append,decR,Option.bind_assoc]
 rfl
theorem decode_eq (hN:4194304 < N) (b:List Int) (hb:Byt b):∃ r,z41 N b=some r∧((r.2=4∧r.1=noG)∨(r.2=0∧b=encG r.1∧okG r.1∧ValidG r.1∧z22 N r.1=some true)):=by
 rw [decode_as b hb.1]
 have hr:=rd_global (N:=N) (by omega)
 rcases hr.run b 0 hb (by omega) with ⟨x,a,h⟩ | ⟨g,l,rest,h1,⟨h2,h3⟩,h4⟩
 ·rw [show ((0:Nat):Int)=0 from rfl] at h
  rw [h]
  exact ⟨(noG,4),rfl,.inl ⟨rfl,rfl⟩⟩
 ·rw [show ((0:Nat):Int)=0 from rfl] at h4
  rw [h4]
  have hl:=congrArg List.length h1
  have h1':=hb.1
  simp only [List.length_drop,List.length_append,Nat.sub_zero] at hl
  simp only [Option.bind_some,z103,z143,cond_false]
  rw [w64_id (by omega) (by omega)]
  by_cases hrest:rest=[]
  ·subst hrest
   have hle:decide ((b.length:Int)-((0+l.length:Nat):Int) > 0)=false:=decide_eq_false (by simp at hl;omega)
   rw [hle]
   obtain ⟨v,v1,v2,v3⟩:=Valid_both (N:=N) hN g h3.sizeG h3.sizeN h3.numE
   simp only [cond_false,Option.bind_some,show ((0:Int) != 0)=false from rfl,v1]
   cases v
   ·exact ⟨(noG,4),rfl,.inl ⟨rfl,rfl⟩⟩
   ·refine ⟨(g,0),rfl,.inr ⟨rfl,?_,h3,v3.mp rfl,v1⟩⟩
    rw [List.drop_zero,List.append_nil] at h1
    rw [h1,h2]
  ·have:0 < rest.length:=List.length_pos_iff.mpr hrest
   have hle:decide ((b.length:Int)-((0+l.length:Nat):Int) > 0)=true:=decide_eq_true (by omega)
   rw [hle]
   exact ⟨(noG,4),rfl,.inl ⟨rfl,rfl⟩⟩
theorem decode_enc (hN:4194304 < N) (g:T4) (hg:okG g) (hv:ValidG g):z41 N (encG g)=some (g,0):=by
 have hlen:=encG_len hv
 have hb:Byt (encG g):=⟨by omega,encG_byt g⟩
 rw [decode_as _ hb.1]
 have hr:=rd_global (N:=N) (by omega)
 have h4:=hr.full (encG g) 0 g (encG g) [] hb (by omega) (by simp) ⟨rfl,hg⟩
 rw [show ((0:Nat):Int)=0 from rfl] at h4
 rw [h4]
 simp only [Option.bind_some,z103,z143,cond_false]
 rw [w64_id (by omega) (by omega),show decide (((encG g).length:Int)-((0+(encG g).length:Nat):Int) > 0)=false from decide_eq_false (by omega)]
 obtain ⟨v,v1,v2,v3⟩:=Valid_both (N:=N) hN g hg.sizeG hg.sizeN hg.numE
 have hv1:=v3.mpr hv
 subst hv1
 simp only [cond_false,Option.bind_some,show ((0:Int) != 0)=false from rfl,v1,Bool.not_true]
end Gp
end
section
/- Plain law: the reference reads numbers as the wire does. -/
namespace Gp
open Go Go.Kx Gx
variable {N:Nat}
abbrev Rdf:=T11
def cv {α:Type} (q:α × Rdf):α × Rdr:=(q.1,⟨q.2.B,q.2.At,q.2.Failed⟩)
/-- A reader of the reference, seen as one of the wire. -/
def lf {α:Type} (f:Rdf→Option (α × Rdf)) (r:Rdr):Option (α × Rdr):=(f ⟨r.b',r.at',r.failed'⟩).map cv
theorem ref_val (U:Nat) (h:U < 18446744073709551616) {α:Type} (X:α):(bif ((((U:Nat):Int).tmod (2:Int))==(1:Int)) then some ((w64 ((w64 (0-(w64 ((wk .u64 (((U:Nat):Int).tdiv (2:Int)))))))-(1:Int))),X) else some ((w64 ((wk .u64 (((U:Nat):Int).tdiv (2:Int))))),X))=some (zag U,X):=by
 rw [Int.tmod_eq_emod_of_nonneg (by omega),Int.tdiv_eq_ediv_of_nonneg (by omega)]
 have e1:wk .u64 ((U:Int) / 2)=((U / 2:Nat):Int):=by rw [wk64];omega
 rw [e1,w64_id (n:=((U / 2:Nat):Int)) (by omega) (by omega)]
 unfold zag
 by_cases hu:U % 2=0
 ·rw [if_pos hu,show (((U:Int) % 2)==1)=false from beq_eq_false_iff_ne.mpr (by omega),cond_false]
 ·rw [if_neg hu,show (((U:Int) % 2)==1)=true from beq_iff_eq.mpr (by omega),cond_true]
  rw [w64_id (n:=0-((U / 2:Nat):Int)) (by omega) (by omega),w64_id (by omega) (by omega)]
  congr 2;omega
theorem ref_k1 (r:Rdf):(z107_k1 r).map cv=some ((0:Int),(⟨r.B,r.At,true⟩:Rdr)):=rfl
theorem ref_sum (u d i:Nat) (hs:u+d * 128 ^ i < 18446744073709551616):wk .u64 ((u:Int)+wk .u64 (((d:Nat):Int) * ((128 ^ i:Nat):Int)))=((u+d * 128 ^ i:Nat):Int):=by
 rw [← Int.natCast_mul]
 generalize d * 128 ^ i=e at *
 rw [wk64,wk64]
 omega
theorem ref_dig (c:Nat) (h:c < 256):wk .u64 (((c:Nat):Int).tmod (128:Int))=((c % 128:Nat):Int):=by
 rw [Int.tmod_eq_emod_of_nonneg (by omega),wk64]
 omega
theorem pow_small {i:Nat} (h:i≤8):128 ^ i≤72057594037927936:=by
 have:(128:Nat) ^ i≤128 ^ 8:=Nat.pow_le_pow_right (by omega) h
 rw [show (128:Nat) ^ 8=72057594037927936 by decide] at this
 exact this
theorem sum_small {u d i:Nat} (hi:i≤9) (hu:u < 128 ^ i) (hd:d < 128) (h:i≤8∨d≤1):u+d * 128 ^ i < 18446744073709551616:=by
 by_cases h8:i≤8
 ·have h1:=pow_small h8
  have h2:d * 128 ^ i≤127 * 128 ^ i:=Nat.mul_le_mul_right _ (by omega)
  omega
 ·have h9:i=9:=by omega
  subst h9
  have e:(128:Nat) ^ 9=9223372036854775808:=by decide
  have h2:d * 128 ^ 9≤1 * 128 ^ 9:=Nat.mul_le_mul_right _ (by omega)
  omega
theorem ref_round (b:List Int) (hb:Byt b) (p0 i u n c:Nat) (hi:i≤9) (hu:u < 128 ^ i) (hc:b[p0+i]? = some (c:Int)) (hc2:c < 256) (w:Int) (hw:w=((128 ^ i:Nat):Int)) :
  (i=9→1 < c % 128→z107_l2 ⟨b,(p0:Int),false⟩ (n+1) (u:Int) w ((p0+i:Nat):Int)=z107_k1 ⟨b,(p0:Int),false⟩) ∧
  ((i≤8∨c % 128≤1)→128≤c→z107_l2 ⟨b,(p0:Int),false⟩ (n+1) (u:Int) w ((p0+i:Nat):Int)=z107_l2 ⟨b,(p0:Int),false⟩ n ((u+(c % 128) * 128 ^ i:Nat):Int) (wk .u64 (w * 128)) ((p0+(i+1):Nat):Int)) ∧
  ((i≤8∨c % 128≤1)→c < 128→c=0→0 < i→z107_l2 ⟨b,(p0:Int),false⟩ (n+1) (u:Int) w ((p0+i:Nat):Int)=z107_k1 ⟨b,(p0:Int),false⟩) ∧
  ((i≤8∨c % 128≤1)→c < 128→(c≠0∨i=0)→z107_l2 ⟨b,(p0:Int),false⟩ (n+1) (u:Int) w ((p0+i:Nat):Int)=some (zag (u+c * 128 ^ i),⟨b,((p0+i+1:Nat):Int),false⟩)):=by
 have hlt:=(List.getElem?_eq_some_iff.mp hc).1
 have hbl:=hb.1
 have d1:decide (((p0+i:Nat):Int) < (b.length:Int))=true:=decide_eq_true (by omega)
 have d2:decide (((p0+i:Nat):Int) < w64 ((p0:Int)+(10:Int)))=true:=decide_eq_true (by rw [w64_id (by omega) (by omega)];omega)
 have d3:idx b ((p0+i:Nat):Int)=some (c:Int):=by rw [idx_nat,hc]
 have d4:w64 ((p0:Int)+(9:Int))=((p0+9:Nat):Int):=by rw [w64_id (by omega) (by omega)];omega
 have d5:=ref_dig c hc2
 have d6:w64 (((p0+i:Nat):Int)+(1:Int))=((p0+(i+1):Nat):Int):=by rw [w64_id (by omega) (by omega)];omega
 have nf:(!false)=true:=rfl
 have i9:(i=9→(((p0+i:Nat):Int)==((p0+9:Nat):Int))=true)∧(i≠9→(((p0+i:Nat):Int)==((p0+9:Nat):Int))=false) :=
  ⟨fun h=>beq_iff_eq.mpr (by omega),fun h=>beq_eq_false_iff_ne.mpr (by omega)⟩
 have hsum:(i≤8∨c % 128≤1)→wk .u64 ((u:Int)+wk .u64 (((c % 128:Nat):Int) * w))=((u+(c % 128) * 128 ^ i:Nat):Int):=fun h=>by
  rw [hw];exact ref_sum u (c % 128) i (sum_small hi hu (by omega) h)
 refine ⟨?_,?_,?_,?_⟩
 ·intro h9 hd
  rw [z107_l2]
  simp only []
  rw [d1,cond_true,d2,cond_true,nf,cond_true,d3,Option.bind_some,d4,i9.1 h9,cond_true,d5,decide_eq_true (show ((c % 128:Nat):Int) > 1 by omega),cond_true]
 ·intro hor h128
  have hs:=hsum hor
  have g1:decide ((c:Int)≥128)=true:=decide_eq_true (by omega)
  rw [z107_l2]
  simp only []
  rw [d1,cond_true,d2,cond_true,nf,cond_true,d3,Option.bind_some,d4,d5,hs,d6]
  by_cases h9:i=9
  ·rw [i9.1 h9,cond_true,decide_eq_false (show ¬ ((c % 128:Nat):Int) > 1 by omega),cond_false,Option.bind_some,g1,cond_true]
  ·rw [i9.2 h9,cond_false,Option.bind_some,g1,cond_true]
 ·intro hor h128 h0 hi0
  have hs:=hsum hor
  have g1:decide ((c:Int)≥128)=false:=decide_eq_false (by omega)
  have g2:(((c % 128:Nat):Int)==0)=true:=beq_iff_eq.mpr (by omega)
  have g3:decide (((p0+i:Nat):Int) > (p0:Int))=true:=decide_eq_true (by omega)
  rw [z107_l2]
  simp only []
  rw [d1,cond_true,d2,cond_true,nf,cond_true,d3,Option.bind_some,d4,d5,hs,d6]
  by_cases h9:i=9
  ·rw [i9.1 h9,cond_true,decide_eq_false (show ¬ ((c % 128:Nat):Int) > 1 by omega),cond_false,Option.bind_some,g1,cond_false,g2,cond_true,g3,cond_true]
  ·rw [i9.2 h9,cond_false,Option.bind_some,g1,cond_false,g2,cond_true,g3,cond_true]
 ·intro hor h128 hgood
  have hs:=hsum hor
  have hcc:c % 128=c:=by omega
  rw [hcc] at hs d5 hor
  have hsm:=sum_small hi hu (by omega) hor
  have g1:decide ((c:Int)≥128)=false:=decide_eq_false (by omega)
  rw [z107_l2]
  simp only []
  rw [d1,cond_true,d2,cond_true,nf,cond_true,d3,Option.bind_some,d4,d5,hs,d6]
  have fin:=ref_val (u+c * 128 ^ i) hsm (⟨b,((p0+(i+1):Nat):Int),false⟩:Rdf)
  by_cases h0:c=0
  ·have g2:(((c:Nat):Int)==0)=true:=beq_iff_eq.mpr (by omega)
   have g3:decide (((p0+i:Nat):Int) > (p0:Int))=false:=decide_eq_false (by omega)
   rw [i9.2 (by omega),cond_false,Option.bind_some,g1,cond_false,g2,cond_true,g3,cond_false,fin]
   rfl
  ·have g2:(((c:Nat):Int)==0)=false:=beq_eq_false_iff_ne.mpr (by omega)
   by_cases h9:i=9
   ·rw [i9.1 h9,cond_true,decide_eq_false (show ¬ ((c:Nat):Int) > 1 by omega),cond_false,Option.bind_some,g1,cond_false,g2,cond_false,fin]
    rfl
   ·rw [i9.2 h9,cond_false,Option.bind_some,g1,cond_false,g2,cond_false,fin]
    rfl
theorem ref_stop (b:List Int) (p0 p:Nat) (n:Nat) (u w:Int) (h:b.length≤p∨p0+10≤p) (hp:p0≤1000000):z107_l2 ⟨b,(p0:Int),false⟩ (n+1) u w (p:Int)=z107_k1 ⟨b,(p0:Int),false⟩:=by
 rw [z107_l2]
 simp only []
 by_cases h1:b.length≤p
 ·rw [decide_eq_false (show ¬ (p:Int) < (b.length:Int) by omega),cond_false]
 ·have d2:decide ((p:Int) < w64 ((p0:Int)+(10:Int)))=false:=decide_eq_false (by rw [w64_id (by omega) (by omega)];omega)
  rw [decide_eq_true (show (p:Int) < (b.length:Int) by omega),cond_true,d2,cond_false]
theorem ref_loop (b:List Int) (hb:Byt b) (p0:Nat) (hp0:p0≤b.length):Loop b p0 (fun n u i=>(z107_l2 ⟨b,(p0:Int),false⟩ n (u:Int) ((128 ^ i:Nat):Int) ((p0+i:Nat):Int)).map cv):=by
 have hbl:=hb.1
 refine ⟨?_,?_,?_,?_,?_⟩
 ·intro n u i hi hu hp h
  have:=List.getElem?_eq_none_iff.mp h
  refine ⟨0,(p0:Int),?_⟩
  show (z107_l2 _ (n+1) _ _ _).map cv=_
  rw [ref_stop b p0 (p0+i) n _ _ (.inl this) (by omega),ref_k1]
 ·intro n u i c hi hu h hc hc2
  obtain ⟨_,h2,_⟩:=ref_round b hb p0 i u n c (by omega) hu h hc2 _ rfl
  show (z107_l2 _ (n+1) _ _ _).map cv=(z107_l2 _ n _ _ _).map cv
  rw [h2 (.inl (by omega)) hc,show c % 128=c-128 by omega]
  have hs:=pow_small (show i≤8 by omega)
  have:wk .u64 (((128 ^ i:Nat):Int) * 128)=((128 ^ (i+1):Nat):Int):=by
   rw [wk64,Nat.pow_succ,Int.natCast_mul]
   generalize (128:Nat) ^ i=e at hs
   show (e:Int) * 128 % 18446744073709551616=(e:Int) * 128
   omega
  rw [this]
 ·intro n u c hu h hc hc2
  obtain ⟨h1,h2,_⟩:=ref_round b hb p0 9 u (n+1) c (by omega) hu h hc2 _ rfl
  refine ⟨0,(p0:Int),?_⟩
  show (z107_l2 _ (n+1+1) _ _ _).map cv=_
  by_cases hd:1 < c % 128
  ·rw [h1 rfl hd,ref_k1]
  ·rw [h2 (.inr (by omega)) hc,ref_stop b p0 (p0+(9+1)) n _ _ (.inr (by omega)) (by omega),ref_k1]
 ·intro n u i c hi hu h hc hbad
  obtain ⟨h1,_,h3,_⟩:=ref_round b hb p0 i u n c hi hu h (by omega) _ rfl
  refine ⟨0,(p0:Int),?_⟩
  show (z107_l2 _ (n+1) _ _ _).map cv=_
  rcases hbad with ⟨h0,hi0⟩ | ⟨h9,h1c⟩
  ·rw [h3 (.inr (by omega)) hc h0 hi0,ref_k1]
  ·rw [h1 h9 (by omega),ref_k1]
 ·intro n u i c hi hu h hc hgood
  obtain ⟨_,_,_,h4⟩:=ref_round b hb p0 i u n c hi hu h (by omega) _ rfl
  show (z107_l2 _ (n+1) _ _ _).map cv=_
  rw [h4 (by omega) hc (by omega)]
  rfl
theorem lf_iff {α:Type} {f:Rdf→Option (α × Rdf)} {r:Rdr} {x:α} {b:List Int} {a:Int} {t:Bool}:lf f r=some (x,⟨b,a,t⟩)↔f ⟨r.b',r.at',r.failed'⟩=some (x,⟨b,a,t⟩):=by
 unfold lf
 constructor
 ·intro h
  cases hq:f ⟨r.b',r.at',r.failed'⟩ with
  | none=>rw [hq] at h;cases h
  | some q =>
   rw [hq] at h
   obtain ⟨y,c,d,e⟩:=q
   simp [cv] at h
   obtain ⟨h1,h2,h3,h4⟩:=h
   subst h1 h2 h3 h4
   rfl
 ·intro h
  rw [h];rfl
theorem ref_int (hN:100 < N):Rds (lf (z107 N)) EncN:=by
 have hi:Inn (lf (z107 N)) EncN:=loop_inn (N:=N) hN fun b p hb hp=>⟨_,ref_loop b hb p hp,by
  unfold lf z107
  rw [show ((128 ^ 0:Nat):Int)=1 from rfl];rfl⟩
 refine ⟨hi,?_⟩
 intro b a
 obtain ⟨n,rfl⟩:∃ q,N=q+1:=⟨N-1,by omega⟩
 refine ⟨0,?_⟩
 unfold lf z107
 rw [z107_l2]
 simp only [Bool.not_true,cond_false]
 cases decide (a < (b.length:Int))<;>cases decide (a < w64 (a+(10:Int)))<;>rfl
theorem ref_bounded (hN:100 < N) (lo hi:Int):RdZ (0:Int) (lf fun r=>z105 N r lo hi) (fun x l=>EncN x l∧lo≤x∧x≤hi):=by
 have H:=ref_int (N:=N) hN
 have hfail:∀ b a,z105 N ⟨b,a,true⟩ lo hi=some (0,⟨b,a,true⟩):=by
  intro b a
  obtain ⟨x,hx⟩:=H.fail b a
  have hx:=lf_iff.mp hx
  simp only [z105,hx,Option.bind_some,cond_true]
 have hrun:∀ b (p:Nat),Byt b→p≤b.length→(∃ a,z105 N ⟨b,(p:Int),false⟩ lo hi=some (0,⟨b,a,true⟩))∨∃ x l rest,b.drop p=l++rest∧(EncN x l∧lo≤x∧x≤hi)∧z105 N ⟨b,(p:Int),false⟩ lo hi=some (x,⟨b,((p+l.length:Nat):Int),false⟩):=by
  intro b p hb hp
  rcases H.run b p hb hp with ⟨x,a,h⟩ | ⟨x,l,rest,h1,h2,h3⟩
  ·have h:=lf_iff.mp h
   exact .inl ⟨a,by simp only [z105,h,Option.bind_some,cond_true]⟩
  ·have h3:=lf_iff.mp h3
   by_cases c1:x < lo
   ·exact .inl ⟨(p:Int),by simp only [z105,h3,Option.bind_some,cond_false,decide_eq_true c1,cond_true,z145]⟩
   ·by_cases c2:x > hi
    ·exact .inl ⟨(p:Int),by simp only [z105,h3,Option.bind_some,cond_false,decide_eq_false c1,decide_eq_true c2,cond_true,z145]⟩
    ·exact .inr ⟨x,l,rest,h1,⟨h2,by omega,by omega⟩,by simp only [z105,h3,Option.bind_some,cond_false,decide_eq_false c1,decide_eq_false c2]⟩
 refine ⟨⟨?_,?_⟩,fun b a=>lf_iff.mpr (hfail b a),?_⟩
 ·intro b p hb hp
  rcases hrun b p hb hp with ⟨a,h⟩ | ⟨x,l,rest,h1,h2,h3⟩
  ·exact .inl ⟨0,a,lf_iff.mpr h⟩
  ·exact .inr ⟨x,l,rest,h1,h2,lf_iff.mpr h3⟩
 ·rintro b p x l rest hb hp hd ⟨hx,c1,c2⟩
  have h3:=lf_iff.mp (H.full b p x l rest hb hp hd hx)
  exact lf_iff.mpr (by simp only [z105,h3,Option.bind_some,cond_false,decide_eq_false (show ¬ x < lo by omega),decide_eq_false (show ¬ x > hi by omega)])
 ·intro b p x a hb hp h
  have h:=lf_iff.mp h
  rcases hrun b p hb hp with ⟨a',h'⟩ | ⟨y,l,rest,_,_,h3⟩
  ·rw [h'] at h;simp at h;exact h.1.symm
  ·rw [h3] at h;simp at h
theorem ref_bytes (hN:100 < N) (most:Nat) (hm:most≤1000):Rds (lf fun r=>z144 N r (most:Int)) (EncB most):=by
 have H:=ref_bounded (N:=N) hN 0 (most:Int)
 refine ⟨⟨?_,?_⟩,?_⟩
 ·intro b p hb hp
  have hbl:=hb.1
  rcases H.run b p hb hp with ⟨x,a,h⟩ | ⟨x,l,rest,h1,⟨⟨h2,_⟩,h4,h5⟩,h3⟩
  ·have h:=lf_iff.mp h
   exact .inl ⟨[],(p:Int),lf_iff.mpr (by simp only [z144,h,Option.bind_some,cond_true,z145])⟩
  ·have h3:=lf_iff.mp h3
   have hl:p+l.length≤b.length:=by
    have:=congrArg List.length h1
    simp at this;omega
   have hr:b.drop (p+l.length)=rest:=by rw [← List.drop_drop,h1,List.drop_left]
   have ew:w64 ((b.length:Int)-((p+l.length:Nat):Int))=(b.length:Int)-((p+l.length:Nat):Int):=w64_id (by omega) (by omega)
   by_cases hlen:p+l.length+x.toNat≤b.length
   ·right
    have ht:(rest.take x.toNat).length=x.toNat:=by
     have hrl:rest.length=b.length-(p+l.length):=by rw [← hr];simp
     simp;omega
    refine ⟨rest.take x.toNat,l++rest.take x.toNat,rest.drop x.toNat,?_,⟨?_,by omega,?_⟩,?_⟩
    ·rw [h1,List.append_assoc,List.take_append_drop]
    ·rw [h2,ht,show ((x.toNat:Nat):Int)=x by omega]
    ·intro c hc
     refine hb.2 c ?_
     have h6:=List.mem_of_mem_take hc
     rw [← hr] at h6
     exact List.mem_of_mem_drop h6
    ·refine lf_iff.mpr ?_
     have e1:w64 (((p+l.length:Nat):Int)+x)=((p+l.length+x.toNat:Nat):Int):=by rw [w64_id (by omega) (by omega)];omega
     have e2:w64 (((p+l.length+x.toNat:Nat):Int)-x)=((p+l.length:Nat):Int):=by rw [w64_id (by omega) (by omega)];omega
     have e3:=lsl_at b (p+l.length) x.toNat hlen
     rw [hr] at e3
     simp only [z144,h3,Option.bind_some,cond_false,ew,decide_eq_false (show ¬ x > (b.length:Int)-((p+l.length:Nat):Int) by omega),e1,e2,e3]
     rw [appL_some (by simp;omega)]
     simp only [Option.bind_some,List.nil_append,List.length_append,ht]
     congr 3;omega
   ·left
    exact ⟨[],(p:Int),lf_iff.mpr (by simp only [z144,h3,Option.bind_some,cond_false,ew,decide_eq_true (show x > (b.length:Int)-((p+l.length:Nat):Int) by omega),cond_true,z145])⟩
 ·rintro b p x l rest hb hp hd ⟨rfl,c1,c2⟩
  have hbl:=hb.1
  rw [List.append_assoc] at hd
  have h3:=lf_iff.mp (H.full b p (x.length:Int) _ _ hb hp hd ⟨⟨rfl,by unfold I64;omega⟩,by omega,by omega⟩)
  have hl:p+(vint (x.length:Int)).length+x.length≤b.length:=by
   have:=congrArg List.length hd
   simp at this;omega
  have hr:b.drop (p+(vint (x.length:Int)).length)=x++rest:=by rw [← List.drop_drop,hd,List.drop_left]
  have e3:=lsl_at b (p+(vint (x.length:Int)).length) x.length hl
  rw [hr,List.take_left] at e3
  obtain ⟨k,hk⟩:∃ k,(vint (x.length:Int)).length=k:=⟨_,rfl⟩
  rw [hk] at h3 hl e3
  have ew:w64 ((b.length:Int)-((p+k:Nat):Int))=(b.length:Int)-((p+k:Nat):Int):=w64_id (by omega) (by omega)
  have e1:w64 (((p+k:Nat):Int)+(x.length:Int))=((p+k+x.length:Nat):Int):=by rw [w64_id (by omega) (by omega)];omega
  have e2:w64 (((p+k+x.length:Nat):Int)-(x.length:Int))=((p+k:Nat):Int):=by rw [w64_id (by omega) (by omega)];omega
  refine lf_iff.mpr ?_
  simp only [z144,h3,Option.bind_some,cond_false,ew,decide_eq_false (show ¬ (x.length:Int) > (b.length:Int)-((p+k:Nat):Int) by omega),e1,e2,e3]
  rw [appL_some (by simp;omega)]
  simp only [Option.bind_some,List.nil_append,List.length_append,hk]
  congr 3;omega
 ·intro b a
  have h:=lf_iff.mp (H.fail b a)
  exact ⟨[],lf_iff.mpr (by simp only [z144,h,Option.bind_some,cond_true,z145])⟩
theorem ref_text (hN:100 < N) (most:Nat) (hm:most≤1000):Rds (lf fun r=>z104 N r (most:Int)) (fun s l=>l=encT s∧s.size≤most):=by
 have h:=(ref_bytes (N:=N) hN most hm).bind (fun x=>Rds.ret (strOf x))
 have e:(lf fun r=>z104 N r (most:Int))=fun r=>(lf (fun r=>z144 N r (most:Int)) r).bind fun q=>some (strOf q.1,q.2):=by
  funext r
  show ((z144 N ⟨r.b',r.at',r.failed'⟩ (most:Int)).bind fun x1=>some (strOf x1.1,x1.2)).map cv=((z144 N ⟨r.b',r.at',r.failed'⟩ (most:Int)).map cv).bind fun q=>some (strOf q.1,q.2)
  cases z144 N ⟨r.b',r.at',r.failed'⟩ (most:Int)<;>rfl
 rw [e]
 refine (show Rds _ _ from h).congr ?_
 intro s l
 constructor
 ·rintro ⟨x,l1,l2,rfl,⟨rfl,h2,h3⟩,rfl,rfl⟩
  have hb:=strOf_bytes x h3
  have hs:(strOf x).size=x.length:=by rw [← bytesL_len,hb]
  unfold encT
  rw [hs,hb]
  exact ⟨by simp,h2⟩
 ·rintro ⟨rfl,h⟩
  refine ⟨bytesL s,encT s,[],by simp,⟨?_,by rw [bytesL_len];exact h,bytesL_rng s⟩,(bytes_strOf s).symm,rfl⟩
  unfold encT
  rw [bytesL_len]
theorem ref_bool:Rds (lf (z108 N)) (fun v l=>l=[if v then (1:Int) else 0]):=by
 have gen:∀ b (p:Nat) (c:Int),Byt b→b[p]? = some c→z108 N ⟨b,(p:Int),false⟩=if c > 1 then some (false,⟨b,(p:Int),true⟩) else some (c==1,⟨b,((p+1:Nat):Int),false⟩):=by
  intro b p c hb hc
  have hbl:=hb.1
  have hlt:=(List.getElem?_eq_some_iff.mp hc).1
  have g:decide ((p:Int)≥(b.length:Int))=false:=decide_eq_false (by omega)
  have e1:w64 ((p:Int)+1)=((p+1:Nat):Int):=w64_succ (by omega)
  have e2:w64 (((p+1:Nat):Int)-1)=(p:Int):=by rw [w64_id (by omega) (by omega)];omega
  simp only [z108,cond_false,g,idx_nat,hc,Option.bind_some,e1,e2]
  by_cases h:c > 1
  ·rw [if_pos h,decide_eq_true h,cond_true]
  ·rw [if_neg h,decide_eq_false h,cond_false]
 refine ⟨⟨?_,?_⟩,?_⟩
 ·intro b p hb hp
  cases hc:b[p]? with
  | none =>
   have:=List.getElem?_eq_none_iff.mp hc
   have g:decide ((p:Int)≥(b.length:Int))=true:=decide_eq_true (by omega)
   exact .inl ⟨false,(p:Int),lf_iff.mpr (by simp only [z108,cond_false,g,cond_true])⟩
  | some c =>
   have hg:=gen b p c hb hc
   obtain ⟨c0,c1⟩:=hb.2 c (List.mem_of_getElem? hc)
   by_cases h:c > 1
   ·rw [if_pos h] at hg
    exact .inl ⟨false,(p:Int),lf_iff.mpr hg⟩
   ·rw [if_neg h] at hg
    right
    refine ⟨c==1,[c],b.drop (p+1),by rw [drop_at' hc];rfl,?_,lf_iff.mpr hg⟩
    by_cases h1:c=1
    ·subst h1;rfl
    ·rw [beq_eq_false_iff_ne.mpr h1]
     have:c=0:=by omega
     subst this;rfl
 ·rintro b p v l rest hb hp hd rfl
  refine lf_iff.mpr ?_
  cases v
  ·have hc:b[p]? = some 0:=by
    have:(b.drop p)[0]? = some 0:=by rw [hd];rfl
    rw [List.getElem?_drop] at this
    simpa using this
   rw [show (⟨b,(p:Int),false⟩:Rdf)=⟨b,(p:Int),false⟩ from rfl,gen b p 0 hb hc];rfl
  ·have hc:b[p]? = some 1:=by
    have:(b.drop p)[0]? = some 1:=by rw [hd];rfl
    rw [List.getElem?_drop] at this
    simpa using this
   rw [gen b p 1 hb hc];rfl
 ·intro b a
  exact ⟨false,lf_iff.mpr rfl⟩
end Gp
end
section
/- Plain law: the reference's reader of automata. -/
namespace Gp
open Go Go.Kx Gx
variable {N:Nat}
theorem Rds.lfb {α β:Type} {f:Rdf→Option (α × Rdf)} {k:α→Rdf→Option (β × Rdf)} {A:α→List Int→Prop} {B:α→β→List Int→Prop} (hf:Rds (lf f) A) (hk:∀ x,Rds (lf (k x)) (B x)) :
  Rds (lf fun r=>(f r).bind fun q=>k q.1 q.2) (fun y l=>∃ x l1 l2,l=l1++l2∧A x l1∧B x y l2):=by
 have e:(lf fun r=>(f r).bind fun q=>k q.1 q.2)=fun r=>(lf f r).bind fun q=>lf (k q.1) q.2:=by
  funext r
  show ((f ⟨r.b',r.at',r.failed'⟩).bind fun q=>k q.1 q.2).map cv=((f ⟨r.b',r.at',r.failed'⟩).map cv).bind fun q=>(k q.1 ⟨q.2.b',q.2.at',q.2.failed'⟩).map cv
  cases f ⟨r.b',r.at',r.failed'⟩<;>rfl
 rw [e]
 exact hf.bind hk
theorem Rds.lfr {α:Type} (v:α):Rds (lf fun r=>some (v,r)) (fun y l=>y=v∧l=[]):=Rds.ret v
section
variable {α β:Type}
/-- Elements one behind the other, until one fails. -/
def Gf (one:Rdf→Option (α × Rdf)) (m:Int):Nat→List Int→Int→Bool→List α→Int→Option (List α × Rdf)
 | 0,_,_,_,_,_=>none
 | n+1,b,a,fl,acc,i=>bif decide (i < m) then (bif !fl then ((one ⟨b,a,fl⟩).bind fun x=>(appL acc [x.1]).bind fun y=>Gf one m n x.2.B x.2.At x.2.Failed y (w64 (i+1))) else some (acc,⟨b,a,fl⟩)) else some (acc,⟨b,a,fl⟩)
def listF (N:Nat) (one:Rdf→Option (α × Rdf)) (most:Int) (r:Rdf):Option (List α × Rdf) :=
 (z105 N r 0 most).bind fun x1=>Gf one x1.1 N x1.2.B x1.2.At x1.2.Failed [] (0:Int)
theorem listF_rds (hN:100000 < N) {one:Rdf→Option (α × Rdf)} {e:α→List Int} {ok:α→Prop} (h1:Rds (lf one) (fun x l=>l=e x∧ok x)) (most:Nat) (hm:most≤1000) :
  Rds (lf (listF N one (most:Int))) (fun xs l=>l=vint (xs.length:Int)++xs.flatMap e∧(xs.length≤most∧∀ x∈xs,ok x)):=by
 have h:=list_rdsF (L:=fun x1 n b a fl acc i=>(Gf one x1.1 n b a fl acc i).map cv) hN h1 most hm (ref_bounded (N:=N) (by omega) 0 (most:Int)) (f:=lf (listF N one (most:Int)))
  (by intro x1 n b a fl acc i h;rw [Gf,h];rfl)
  (by
   intro x1 n b a acc i h
   rw [Gf,h]
   simp only [cond_true,Bool.not_false]
   unfold lf
   cases one ⟨b,a,false⟩ with
   | none=>rfl
   | some x =>
    simp only [Option.bind_some,Option.map_some,cv]
    cases appL acc [x.1]<;>rfl)
  (by
   intro x1 hx b a k i n acc _ _ hn _
   obtain ⟨n,rfl⟩:∃ q,n=q+1:=⟨n-1,by omega⟩
   refine ⟨acc,?_⟩
   simp only [Gf,Bool.not_true,cond_false]
   cases decide ((i:Int) < x1.1)<;>rfl)
  (by
   intro r
   show ((z105 N ⟨r.b',r.at',r.failed'⟩ 0 (most:Int)).bind fun x1=>Gf one x1.1 N x1.2.B x1.2.At x1.2.Failed [] (0:Int)).map cv=((z105 N ⟨r.b',r.at',r.failed'⟩ 0 (most:Int)).map cv).bind _
   cases z105 N ⟨r.b',r.at',r.failed'⟩ 0 (most:Int)<;>rfl)
 refine h.congr ?_
 intro xs l
 constructor
 ·rintro ⟨h1,l2,rfl,h2⟩
  obtain ⟨rfl,h3⟩:=(encL_iff _ _ xs l2).mp h2
  exact ⟨rfl,h1,h3⟩
 ·rintro ⟨rfl,h1,h3⟩
  exact ⟨h1,_,rfl,(encL_iff _ _ xs _).mpr ⟨rfl,h3⟩⟩
/-- A loop that goes on behind its end. -/
theorem cps {one:Rdf→Option (α × Rdf)} {m:Int} {L:Nat→List Int→Int→Bool→List α→Int→Option β} {K:List Int→Int→Bool→List α→Option β}
  (h0:∀ b a fl acc i,L 0 b a fl acc i=none)
  (h1:∀ n b a fl acc i,L (n+1) b a fl acc i=bif decide (i < m) then (bif !fl then ((one ⟨b,a,fl⟩).bind fun x=>(appL acc [x.1]).bind fun y=>L n x.2.B x.2.At x.2.Failed y (w64 (i+1))) else K b a fl acc) else K b a fl acc) :
  ∀ n b a fl acc i,L n b a fl acc i=(Gf one m n b a fl acc i).bind fun q=>K q.2.B q.2.At q.2.Failed q.1:=by
 intro n
 induction n with
 | zero=>intro b a fl acc i;rw [h0];rfl
 | succ n ih =>
  intro b a fl acc i
  rw [h1,Gf]
  cases decide (i < m)
  ·rfl
  ·cases fl
   ·simp only [cond_true,Bool.not_false]
    cases one ⟨b,a,false⟩ with
    | none=>rfl
    | some x =>
     simp only [Option.bind_some]
     cases appL acc [x.1] with
     | none=>rfl
     | some y=>simp only [Option.bind_some];exact ih _ _ _ _ _
   ·rfl
end
def rField (N:Nat) (r:Rdf):Option (T3 × Rdf):=(z104 N r (16:Int)).bind fun x1=>(z107 N x1.2).bind fun x2=>(z107 N x2.2).bind fun x3=>(z107 N x3.2).bind fun x4=>some (⟨x1.1,⟨x2.1,x3.1,x4.1⟩⟩,x4.2)
def rDiff (N:Nat) (r:Rdf):Option (T1 × Rdf):=(z107 N r).bind fun x2=>(z107 N x2.2).bind fun x3=>(z107 N x3.2).bind fun x4=>some (⟨x2.1,x3.1,x4.1⟩,x4.2)
def rEq (N:Nat) (r:Rdf):Option ((Int × Int) × Rdf):=(z107 N r).bind fun x2=>(z107 N x2.2).bind fun x3=>some ((x2.1,x3.1),x3.2)
def rTime (N:Nat) (r:Rdf):Option (T8 × Rdf):=(z107 N r).bind fun x2=>(z107 N x2.2).bind fun x3=>(z107 N x3.2).bind fun x4=>some (⟨x2.1,x3.1,x4.1⟩,x4.2)
def rEdge (N:Nat) (r:Rdf):Option (T2 × Rdf):=(z107 N r).bind fun x1=>(z107 N x1.2).bind fun x2=>(z107 N x2.2).bind fun x3=>(z107 N x3.2).bind fun x4=>(z107 N x4.2).bind fun x5=>(z108 N x5.2).bind fun x6=>some (⟨x1.1,⟨x2.1,x3.1,x4.1⟩,x5.1,x6.1⟩,x6.2)
def rDecl (N:Nat) (r:Rdf):Option (T0 × Rdf):=(z104 N r (50:Int)).bind fun x1=>(listF N (rField N) (4:Int) x1.2).bind fun x2=>(z107 N x2.2).bind fun x3=>(listF N (rDiff N) (20:Int) x3.2).bind fun x4=>(listF N (rEq N) (20:Int) x4.2).bind fun x5=>some (⟨x1.1,x2.1,x3.1,⟨x4.1,x5.1⟩⟩,x5.2)
def rGlob (N:Nat) (r:Rdf):Option (T4 × Rdf):=(z104 N r (16:Int)).bind fun x1=>(listF N (fun r=>z104 N r (16:Int)) (6:Int) x1.2).bind fun x2=>(listF N (rDecl N) (40:Int) x2.2).bind fun x3=>(z107 N x3.2).bind fun x4=>(z107 N x4.2).bind fun x5=>(z107 N x5.2).bind fun x6=>(listF N (rEdge N) (400:Int) x6.2).bind fun x7=>(listF N (rTime N) (200:Int) x7.2).bind fun x8=>some (⟨x1.1,x2.1,x3.1,x4.1,x5.1,x6.1,x7.1,x8.1⟩,x8.2)
theorem ref_field (hN:100000 < N):Rds (lf (rField N)) (fun y l=>l=encF y∧okF y):=by
 have h:=(ref_text (N:=N) (by omega) 16 (by omega)).lfb fun a0=>(ref_int (N:=N) (by omega)).lfb fun a1=>(ref_int (N:=N) (by omega)).lfb fun a2=>(ref_int (N:=N) (by omega)).lfb fun a3=>Rds.lfr (⟨a0,⟨a1,a2,a3⟩⟩:T3)
 refine (show Rds (lf (rField N)) _ from h).congr ?_
 intro y l
 constructor
 ·rintro ⟨a0,_,_,rfl,⟨rfl,h0⟩,a1,_,_,rfl,⟨rfl,h1⟩,a2,_,_,rfl,⟨rfl,h2⟩,a3,_,_,rfl,⟨rfl,h3⟩,rfl,rfl⟩
  exact ⟨by simp [encF,encI],h0,h1,h2,h3⟩
 ·rintro ⟨rfl,h0,h1,h2,h3⟩
  exact ⟨y.Name,encT y.Name,vint y.Sort'.Kind++(vint y.Sort'.Lo++(vint y.Sort'.Hi++([]))),by simp [encF,encI],⟨rfl,h0⟩,y.Sort'.Kind,vint y.Sort'.Kind,vint y.Sort'.Lo++(vint y.Sort'.Hi++([])),rfl,⟨rfl,h1⟩,y.Sort'.Lo,vint y.Sort'.Lo,vint y.Sort'.Hi++([]),rfl,⟨rfl,h2⟩,y.Sort'.Hi,vint y.Sort'.Hi,[],rfl,⟨rfl,h3⟩,rfl,rfl⟩
theorem ref_diff (hN:100000 < N):Rds (lf (rDiff N)) (fun y l=>l=encDf y∧okDf y):=by
 have h:=(ref_int (N:=N) (by omega)).lfb fun a0=>(ref_int (N:=N) (by omega)).lfb fun a1=>(ref_int (N:=N) (by omega)).lfb fun a2=>Rds.lfr (⟨a0,a1,a2⟩:T1)
 refine (show Rds (lf (rDiff N)) _ from h).congr ?_
 intro y l
 constructor
 ·rintro ⟨a0,_,_,rfl,⟨rfl,h0⟩,a1,_,_,rfl,⟨rfl,h1⟩,a2,_,_,rfl,⟨rfl,h2⟩,rfl,rfl⟩
  exact ⟨by simp [encDf,encI],h0,h1,h2⟩
 ·rintro ⟨rfl,h0,h1,h2⟩
  exact ⟨y.X,vint y.X,vint y.Y++(vint y.C++([])),by simp [encDf,encI],⟨rfl,h0⟩,y.Y,vint y.Y,vint y.C++([]),rfl,⟨rfl,h1⟩,y.C,vint y.C,[],rfl,⟨rfl,h2⟩,rfl,rfl⟩
theorem ref_eq (hN:100000 < N):Rds (lf (rEq N)) (fun y l=>l=encEq y∧okEq y):=by
 have h:=(ref_int (N:=N) (by omega)).lfb fun a0=>(ref_int (N:=N) (by omega)).lfb fun a1=>Rds.lfr ((a0,a1):Int × Int)
 refine (show Rds (lf (rEq N)) _ from h).congr ?_
 intro y l
 constructor
 ·rintro ⟨a0,_,_,rfl,⟨rfl,h0⟩,a1,_,_,rfl,⟨rfl,h1⟩,rfl,rfl⟩
  exact ⟨by simp [encEq,encI],h0,h1⟩
 ·rintro ⟨rfl,h0,h1⟩
  exact ⟨y.1,vint y.1,vint y.2++([]),by simp [encEq,encI],⟨rfl,h0⟩,y.2,vint y.2,[],rfl,⟨rfl,h1⟩,rfl,rfl⟩
theorem ref_time (hN:100000 < N):Rds (lf (rTime N)) (fun y l=>l=encTm y∧okTm y):=by
 have h:=(ref_int (N:=N) (by omega)).lfb fun a0=>(ref_int (N:=N) (by omega)).lfb fun a1=>(ref_int (N:=N) (by omega)).lfb fun a2=>Rds.lfr (⟨a0,a1,a2⟩:T8)
 refine (show Rds (lf (rTime N)) _ from h).congr ?_
 intro y l
 constructor
 ·rintro ⟨a0,_,_,rfl,⟨rfl,h0⟩,a1,_,_,rfl,⟨rfl,h1⟩,a2,_,_,rfl,⟨rfl,h2⟩,rfl,rfl⟩
  exact ⟨by simp [encTm,encI],h0,h1,h2⟩
 ·rintro ⟨rfl,h0,h1,h2⟩
  exact ⟨y.State,vint y.State,vint y.Ticks++(vint y.Else++([])),by simp [encTm,encI],⟨rfl,h0⟩,y.Ticks,vint y.Ticks,vint y.Else++([]),rfl,⟨rfl,h1⟩,y.Else,vint y.Else,[],rfl,⟨rfl,h2⟩,rfl,rfl⟩
theorem ref_edge (hN:100000 < N):Rds (lf (rEdge N)) (fun y l=>l=encE y∧okEd y):=by
 have h:=(ref_int (N:=N) (by omega)).lfb fun a0=>(ref_int (N:=N) (by omega)).lfb fun a1=>(ref_int (N:=N) (by omega)).lfb fun a2=>(ref_int (N:=N) (by omega)).lfb fun a3=>(ref_int (N:=N) (by omega)).lfb fun a4=>(ref_bool (N:=N)).lfb fun a5=>Rds.lfr (⟨a0,⟨a1,a2,a3⟩,a4,a5⟩:T2)
 refine (show Rds (lf (rEdge N)) _ from h).congr ?_
 intro y l
 constructor
 ·rintro ⟨a0,_,_,rfl,⟨rfl,h0⟩,a1,_,_,rfl,⟨rfl,h1⟩,a2,_,_,rfl,⟨rfl,h2⟩,a3,_,_,rfl,⟨rfl,h3⟩,a4,_,_,rfl,⟨rfl,h4⟩,a5,_,_,rfl,rfl,rfl,rfl⟩
  exact ⟨by simp [encE,encI],h0,h1,h2,h3,h4⟩
 ·rintro ⟨rfl,h0,h1,h2,h3,h4⟩
  exact ⟨y.From,vint y.From,vint y.Act.From++(vint y.Act.To++(vint y.Act.Label++(vint y.To++([if y.Again then 1 else 0]++[])))),by simp [encE,encI],⟨rfl,h0⟩,y.Act.From,vint y.Act.From,_,rfl,⟨rfl,h1⟩,y.Act.To,vint y.Act.To,_,rfl,⟨rfl,h2⟩,y.Act.Label,vint y.Act.Label,_,rfl,⟨rfl,h3⟩,y.To,vint y.To,_,rfl,⟨rfl,h4⟩,y.Again,[if y.Again then 1 else 0],[],rfl,rfl,rfl,rfl⟩
theorem ref_decl (hN:100000 < N):Rds (lf (rDecl N)) (fun y l=>l=encD y∧okD y):=by
 have h:=(ref_text (N:=N) (by omega) 50 (by omega)).lfb fun a0=>(listF_rds hN (ref_field hN) 4 (by omega)).lfb fun a1=>(ref_int (N:=N) (by omega)).lfb fun a2=>(listF_rds hN (ref_diff hN) 20 (by omega)).lfb fun a3=>(listF_rds hN (ref_eq hN) 20 (by omega)).lfb fun a4=>Rds.lfr (⟨a0,a1,a2,⟨a3,a4⟩⟩:T0)
 refine (show Rds (lf (rDecl N)) _ from h).congr ?_
 intro y l
 constructor
 ·rintro ⟨a0,_,_,rfl,⟨rfl,h0⟩,a1,_,_,rfl,⟨rfl,h1⟩,a2,_,_,rfl,⟨rfl,h2⟩,a3,_,_,rfl,⟨rfl,h3⟩,a4,_,_,rfl,⟨rfl,h4⟩,rfl,rfl⟩
  exact ⟨by simp [encD,encI],h0,h1,h2,h3,h4⟩
 ·rintro ⟨rfl,h0,h1,h2,h3,h4⟩
  exact ⟨y.Name,encT y.Name,(vint (y.Fields.length:Int)++y.Fields.flatMap encF)++(vint y.First++((vint (y.Guard.Diffs.length:Int)++y.Guard.Diffs.flatMap encDf)++((vint (y.Guard.Equals.length:Int)++y.Guard.Equals.flatMap encEq)++([])))),by simp [encD,encI],⟨rfl,h0⟩,y.Fields,(vint (y.Fields.length:Int)++y.Fields.flatMap encF),vint y.First++((vint (y.Guard.Diffs.length:Int)++y.Guard.Diffs.flatMap encDf)++((vint (y.Guard.Equals.length:Int)++y.Guard.Equals.flatMap encEq)++([]))),rfl,⟨rfl,h1⟩,y.First,vint y.First,(vint (y.Guard.Diffs.length:Int)++y.Guard.Diffs.flatMap encDf)++((vint (y.Guard.Equals.length:Int)++y.Guard.Equals.flatMap encEq)++([])),rfl,⟨rfl,h2⟩,y.Guard.Diffs,(vint (y.Guard.Diffs.length:Int)++y.Guard.Diffs.flatMap encDf),(vint (y.Guard.Equals.length:Int)++y.Guard.Equals.flatMap encEq)++([]),rfl,⟨rfl,h3⟩,y.Guard.Equals,(vint (y.Guard.Equals.length:Int)++y.Guard.Equals.flatMap encEq),[],rfl,⟨rfl,h4⟩,rfl,rfl⟩
theorem ref_glob (hN:100000 < N):Rds (lf (rGlob N)) (fun y l=>l=encG y∧okG y):=by
 have h:=(ref_text (N:=N) (by omega) 16 (by omega)).lfb fun a0=>(listF_rds hN (ref_text (N:=N) (by omega) 16 (by omega)) 6 (by omega)).lfb fun a1=>(listF_rds hN (ref_decl hN) 40 (by omega)).lfb fun a2=>(ref_int (N:=N) (by omega)).lfb fun a3=>(ref_int (N:=N) (by omega)).lfb fun a4=>(ref_int (N:=N) (by omega)).lfb fun a5=>(listF_rds hN (ref_edge hN) 400 (by omega)).lfb fun a6=>(listF_rds hN (ref_time hN) 200 (by omega)).lfb fun a7=>Rds.lfr (⟨a0,a1,a2,a3,a4,a5,a6,a7⟩:T4)
 refine (show Rds (lf (rGlob N)) _ from h).congr ?_
 intro y l
 constructor
 ·rintro ⟨a0,_,_,rfl,⟨rfl,h0⟩,a1,_,_,rfl,⟨rfl,h1⟩,a2,_,_,rfl,⟨rfl,h2⟩,a3,_,_,rfl,⟨rfl,h3⟩,a4,_,_,rfl,⟨rfl,h4⟩,a5,_,_,rfl,⟨rfl,h5⟩,a6,_,_,rfl,⟨rfl,h6⟩,a7,_,_,rfl,⟨rfl,h7⟩,rfl,rfl⟩
  exact ⟨by simp [encG,encI],h0,h1,h2,h3,h4,h5,h6,h7⟩
 ·rintro ⟨rfl,h0,h1,h2,h3,h4,h5,h6,h7⟩
  exact ⟨y.Name,encT y.Name,(vint (y.Roles.length:Int)++y.Roles.flatMap encT)++((vint (y.Decls.length:Int)++y.Decls.flatMap encD)++(vint y.States++(vint y.Start++(vint y.End++((vint (y.Edges.length:Int)++y.Edges.flatMap encE)++((vint (y.Timeouts.length:Int)++y.Timeouts.flatMap encTm)++([]))))))),by simp [encG,encI],⟨rfl,h0⟩,y.Roles,(vint (y.Roles.length:Int)++y.Roles.flatMap encT),(vint (y.Decls.length:Int)++y.Decls.flatMap encD)++(vint y.States++(vint y.Start++(vint y.End++((vint (y.Edges.length:Int)++y.Edges.flatMap encE)++((vint (y.Timeouts.length:Int)++y.Timeouts.flatMap encTm)++([])))))),rfl,⟨rfl,h1⟩,y.Decls,(vint (y.Decls.length:Int)++y.Decls.flatMap encD),vint y.States++(vint y.Start++(vint y.End++((vint (y.Edges.length:Int)++y.Edges.flatMap encE)++((vint (y.Timeouts.length:Int)++y.Timeouts.flatMap encTm)++([]))))),rfl,⟨rfl,h2⟩,y.States,vint y.States,vint y.Start++(vint y.End++((vint (y.Edges.length:Int)++y.Edges.flatMap encE)++((vint (y.Timeouts.length:Int)++y.Timeouts.flatMap encTm)++([])))),rfl,⟨rfl,h3⟩,y.Start,vint y.Start,vint y.End++((vint (y.Edges.length:Int)++y.Edges.flatMap encE)++((vint (y.Timeouts.length:Int)++y.Timeouts.flatMap encTm)++([]))),rfl,⟨rfl,h4⟩,y.End,vint y.End,(vint (y.Edges.length:Int)++y.Edges.flatMap encE)++((vint (y.Timeouts.length:Int)++y.Timeouts.flatMap encTm)++([])),rfl,⟨rfl,h5⟩,y.Edges,(vint (y.Edges.length:Int)++y.Edges.flatMap encE),(vint (y.Timeouts.length:Int)++y.Timeouts.flatMap encTm)++([]),rfl,⟨rfl,h6⟩,y.Timeouts,(vint (y.Timeouts.length:Int)++y.Timeouts.flatMap encTm),[],rfl,⟨rfl,h7⟩,rfl,rfl⟩
end Gp
end
section
/- Plain law: the reference decodes as the program does. -/
namespace Gp
open Go Go.Kx Gx
variable {N:Nat}
theorem readDecl_l2 (x1:ByteArray × Rdf) (fs:List T3) (x23:Int × Rdf) (ds:List T1) (x41:Int × Rdf):∀ n b a fl acc i,z106_l2 N x1 fs x23 ds x41 n b a fl acc i=(Gf (rEq N) x41.1 n b a fl acc i).bind fun q=>z106_k1 x1 fs x23 ds q.2.B q.2.At q.2.Failed q.1:=by
 refine cps (fun _ _ _ _ _=>rfl) ?_
 intro n b a fl acc i
 rw [z106_l2]
 simp only [rEq,Option.bind_assoc,Option.bind_some]
theorem readDecl_l4 (x1:ByteArray × Rdf) (fs:List T3) (x23 x24:Int × Rdf):∀ n b a fl acc i,z106_l4 N x1 fs x23 x24 n b a fl acc i=(Gf (rDiff N) x24.1 n b a fl acc i).bind fun q=>z106_k3 N x1 fs x23 q.2.B q.2.At q.2.Failed q.1:=by
 refine cps (fun _ _ _ _ _=>rfl) ?_
 intro n b a fl acc i
 rw [z106_l4]
 simp only [rDiff,Option.bind_assoc,Option.bind_some]
theorem readDecl_l6 (x1:ByteArray × Rdf) (x2:Int × Rdf):∀ n b a fl acc i,z106_l6 N x1 x2 n b a fl acc i=(Gf (rField N) x2.1 n b a fl acc i).bind fun q=>z106_k5 N x1 q.2.B q.2.At q.2.Failed q.1:=by
 refine cps (fun _ _ _ _ _=>rfl) ?_
 intro n b a fl acc i
 rw [z106_l6]
 simp only [rField,Option.bind_assoc,Option.bind_some]
theorem readDecl_as (r:Rdf):z106 N r=rDecl N r:=by
 unfold z106 rDecl listF
 simp only [readDecl_l6,z106_k5,readDecl_l4,z106_k3,readDecl_l2,z106_k1,Option.bind_assoc]
theorem decode_l2 (x1:ByteArray × Rdf) (rs:List ByteArray) (ds:List T0) (x84 x85 x86:Int × Rdf) (es:List T2) (x116:Int × Rdf):∀ n b a fl acc i,z42_l2 N x1 rs ds x84 x85 x86 es x116 n b a fl acc i=(Gf (rTime N) x116.1 n b a fl acc i).bind fun q=>z42_k1 N x1 rs ds x84 x85 x86 es q.2.B q.2.At q.2.Failed q.1:=by
 refine cps (fun _ _ _ _ _=>rfl) ?_
 intro n b a fl acc i
 rw [z42_l2]
 simp only [rTime,Option.bind_assoc,Option.bind_some]
theorem decode_l4 (x1:ByteArray × Rdf) (rs:List ByteArray) (ds:List T0) (x84 x85 x86 x87:Int × Rdf):∀ n b a fl acc i,z42_l4 N x1 rs ds x84 x85 x86 x87 n b a fl acc i=(Gf (rEdge N) x87.1 n b a fl acc i).bind fun q=>z42_k3 N x1 rs ds x84 x85 x86 q.2.B q.2.At q.2.Failed q.1:=by
 refine cps (fun _ _ _ _ _=>rfl) ?_
 intro n b a fl acc i
 rw [z42_l4]
 simp only [rEdge,Option.bind_assoc,Option.bind_some]
theorem decode_l6 (x1:ByteArray × Rdf) (rs:List ByteArray) (x43:Int × Rdf):∀ n b a fl acc i,z42_l6 N x1 rs x43 n b a fl acc i=(Gf (rDecl N) x43.1 n b a fl acc i).bind fun q=>z42_k5 N x1 rs q.2.B q.2.At q.2.Failed q.1:=by
 refine cps (fun _ _ _ _ _=>rfl) ?_
 intro n b a fl acc i
 rw [z42_l6]
 simp only [readDecl_as]
theorem decode_l8 (x1:ByteArray × Rdf) (x2:Int × Rdf):∀ n b a fl acc i,z42_l8 N x1 x2 n b a fl acc i=(Gf (fun r=>z104 N r (16:Int)) x2.1 n b a fl acc i).bind fun q=>z42_k7 N x1 q.2.B q.2.At q.2.Failed q.1:=by
 refine cps (fun _ _ _ _ _=>rfl) ?_
 intro n b a fl acc i
 rw [z42_l8]
theorem refDecode_as (b:List Int):z42 N b=(rGlob N ⟨b,0,false⟩).bind fun q=>(z109 N q.2).bind fun x=>bif (x != (0:Int)) then some (noG,(4:Int)) else (z19 N q.1).bind fun v=>bif (!v) then some (noG,(4:Int)) else some (q.1,(0:Int)):=by
 unfold z42 rGlob listF
 simp only [decode_l8,z42_k7,decode_l6,z42_k5,decode_l4,z42_k3,decode_l2,z42_k1,Option.bind_assoc,Option.bind_some]
 rfl
theorem refDecode_eq (hN:4194304 < N) (b:List Int) (hb:Byt b):∃ r,z42 N b=some r∧((r.2=4∧r.1=noG)∨(r.2=0∧b=encG r.1∧okG r.1∧ValidG r.1)):=by
 rw [refDecode_as b]
 have hr:=ref_glob (N:=N) (by omega)
 rcases hr.run b 0 hb (by omega) with ⟨x,a,h⟩ | ⟨g,l,rest,h1,⟨h2,h3⟩,h4⟩
 ·have h:=lf_iff.mp h
  rw [show ((0:Nat):Int)=0 from rfl] at h
  rw [h]
  exact ⟨(noG,4),rfl,.inl ⟨rfl,rfl⟩⟩
 ·have h4:=lf_iff.mp h4
  rw [show ((0:Nat):Int)=0 from rfl] at h4
  rw [h4]
  have hl:=congrArg List.length h1
  simp only [List.length_drop,List.length_append,Nat.sub_zero] at hl
  simp only [Option.bind_some,z109,cond_false]
  by_cases hrest:rest=[]
  ·subst hrest
   have hle:(((0+l.length:Nat):Int) != (b.length:Int))=false:=by simp at hl;simp;omega
   rw [hle]
   obtain ⟨v,v1,v2,v3⟩:=Valid_both (N:=N) hN g h3.sizeG h3.sizeN h3.numE
   simp only [cond_false,Option.bind_some,show ((0:Int) != 0)=false from rfl,v2]
   cases v
   ·exact ⟨(noG,4),rfl,.inl ⟨rfl,rfl⟩⟩
   ·refine ⟨(g,0),rfl,.inr ⟨rfl,?_,h3,v3.mp rfl⟩⟩
    rw [List.drop_zero,List.append_nil] at h1
    rw [h1,h2]
  ·have:0 < rest.length:=List.length_pos_iff.mpr hrest
   have hle:(((0+l.length:Nat):Int) != (b.length:Int))=true:=by simp;omega
   rw [hle]
   exact ⟨(noG,4),rfl,.inl ⟨rfl,rfl⟩⟩
theorem refDecode_enc (hN:4194304 < N) (g:T4) (hg:okG g) (hv:ValidG g):z42 N (encG g)=some (g,0):=by
 have hlen:=encG_len hv
 have hb:Byt (encG g):=⟨by omega,encG_byt g⟩
 rw [refDecode_as]
 have hr:=ref_glob (N:=N) (by omega)
 have h4:=lf_iff.mp (hr.full (encG g) 0 g (encG g) [] hb (by omega) (by simp) ⟨rfl,hg⟩)
 rw [show ((0:Nat):Int)=0 from rfl] at h4
 rw [h4]
 simp only [Option.bind_some,z109,cond_false]
 rw [show (((0+(encG g).length:Nat):Int) != ((encG g).length:Int))=false by simp]
 obtain ⟨v,v1,v2,v3⟩:=Valid_both (N:=N) hN g hg.sizeG hg.sizeN hg.numE
 have hv1:=v3.mpr hv
 subst hv1
 simp only [cond_false,Option.bind_some,show ((0:Int) != 0)=false from rfl,v2,Bool.not_true]
/-- Both decode alike. -/
theorem Decode_both (hN:4194304 < N) (b:List Int) (hb:Byt b):∃ r,z41 N b=some r∧z42 N b=some r∧SizeG r.1∧(r.2=0→b=encG r.1∧ValidG r.1∧z22 N r.1=some true):=by
 have hz:SizeG noG:=⟨by simp [noG],by simp [noG],by simp [noG],by simp [noG],by simp [noG]⟩
 obtain ⟨r,r1,r2⟩:=decode_eq hN b hb
 obtain ⟨q,q1,q2⟩:=refDecode_eq hN b hb
 rcases r2 with ⟨r2,r3⟩ | ⟨r2,r3,r4,r5,r6⟩
 ·rcases q2 with ⟨q2,q3⟩ | ⟨q2,q3,q4,q5⟩
  ·have:q=r:=by cases q;cases r;simp at r2 r3 q2 q3;simp [r2,r3,q2,q3]
   subst this
   exact ⟨q,r1,q1,by rw [q3];exact hz,fun h=>by rw [q2] at h;cases h⟩
  ·rw [q3,decode_enc hN q.1 q4 q5] at r1
   cases r1;simp at r2
 ·have h:=refDecode_enc hN r.1 r4 r5
  rw [← r3,q1] at h
  have:q=r:=by cases h;cases r;simp at r2;simp [r2]
  subst this
  exact ⟨q,r1,q1,r4.sizeG,fun _=>⟨r3,r5,r6⟩⟩
end Gp
end
section
/- What the arguments hold that the statement reads: sizes and numbers within their kinds. -/
namespace Gx
open Go Go.Kx
end Gx
end
section
open Go Go.Kx Gx
set_option maxRecDepth 100000
theorem awake_c (n:Nat):z12 (n+300)=some true:=by kernel_rfl
end
section
/- Plain law: both decode alike, and what is accepted is the encoding. -/
namespace Gp
open Go Go.Kx Gx
variable {N:Nat}
theorem plain:∀ (x0:List Int),(x0.length≤bd∧∀ y∈x0,((Lit.int .u8 y).wf=true))→∃ N,law18_GlobalDecode N x0=some true:=by
 intro b hb0
 refine ⟨33554432+300,?_⟩
 have aw:z12 (33554432+300)=some true:=awake_c _
 generalize hN:33554432+300=N at aw ⊢
 unfold law18_GlobalDecode
 rw [aw]
 simp only [Option.bind_some,Bool.not_true,cond_false]
 by_cases hl:(b.length:Int) > 1500
 ·rw [decide_eq_true hl,cond_true]
 rw [decide_eq_false hl,cond_false]
 have hb:Byt b:=by
  refine ⟨by omega,?_⟩
  intro c hc
  have:=hb0.2 c hc
  simp [Lit.wf,IntKind.min,IntKind.max,IntKind.signed,IntKind.bits] at this
  omega
 obtain ⟨r,r1,r2,r3,r4⟩:=Decode_both (N:=N) (by omega) b hb
 rw [r1,r2]
 simp only [Option.bind_some,beq_self_eq_true,cond_true]
 rw [refEqual_eq (N:=N) (by omega) r.1 r.1 r3,eqGlobal_refl]
 simp only [Option.bind_some,cond_true]
 by_cases h0:r.2=0
 ·obtain ⟨e,hv,hV⟩:=r4 h0
  rw [show (r.2 != 0)=false by simp [h0],cond_false,encode_eq (by omega) r.1 hv hV,← e]
  simp [z38]
 ·rw [show (r.2 != 0)=true by simp [h0],cond_true]
end Gp
end
