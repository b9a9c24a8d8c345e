/- The plain law, part 3: what the functions compute answers as the statement says. -/
import Derived.Test.YtaahbojckmgghaaGreatDoorMonitorActorsPlain2
set_option linter.all false
section
section
namespace Gp
open Go Go.Kx Gx
variable {N:Nat}
structure Bd (x:T0) (L:Nat) (z:List T1):Prop where
 len:z.length≤33554432
 inn:∀ b∈z,b.X < (L:Int)∧b.Y < (L:Int)
 low:∀ (i:Nat) (f:T4),x.Fields[i]? = some f→(⟨-1,Zi (x.First+(i:Int)),Zi (0-f.Sort'.Lo)⟩:T1)∈z
end Gp
end
namespace Gp
open Go Go.Kx Gx
section
variable {N:Nat}
end
section
variable {N:Nat}
def U6 (first:Nat):Nat→List T4→List T1
 | _,[]=>[]
 | i,f::r=>⟨((first+i:Nat):Int),-1,f.Sort'.Hi⟩::⟨-1,((first+i:Nat):Int),-f.Sort'.Lo⟩::U6 first (i+1) r
def UY:List (Int × Int)→List T1
 | []=>[]
 | e::r=>⟨e.1,e.2,0⟩::⟨e.2,e.1,0⟩::UY r
theorem Zet (first:Nat):∀ (l:List T4) (i:Nat),(U6 first i l).length=2 * l.length
 | [],_=>rfl
 | f::r,i=>by show (U6 first (i+1) r).length+1+1=2 * (r.length+1);rw [Zet first r (i+1)];omega
theorem ZgA:∀ (l:List (Int × Int)),(UY l).length=2 * l.length
 | []=>rfl
 | e::r=>by show (UY r).length+1+1=2 * (r.length+1);rw [ZgA r];omega
theorem Zig (first:Nat):∀ (l:List T4) (i k:Nat) (f:T4),l[k]? = some f→(⟨((first+(i+k):Nat):Int),-1,f.Sort'.Hi⟩:T1)∈U6 first i l∧(⟨-1,((first+(i+k):Nat):Int),-f.Sort'.Lo⟩:T1)∈U6 first i l
 | [],_,_,_,h=>by simp at h
 | g::r,i,0,f,h=>by
  have:g=f:=by simpa using h
  subst this
  exact ⟨List.mem_cons_self,List.mem_cons_of_mem _ List.mem_cons_self⟩
 | g::r,i,k+1,f,h=>by
  obtain ⟨h1,h2⟩:=Zig first r (i+1) k f (by simpa using h)
  rw [show i+1+k=i+(k+1) by omega] at h1 h2
  exact ⟨List.mem_cons_of_mem _ (List.mem_cons_of_mem _ h1),List.mem_cons_of_mem _ (List.mem_cons_of_mem _ h2)⟩
theorem Zdc (first:Nat):∀ (l:List T4) (i:Nat) (b:T1),b∈U6 first i l→∃ k f,l[k]? = some f∧(b=⟨((first+(i+k):Nat):Int),-1,f.Sort'.Hi⟩∨b=⟨-1,((first+(i+k):Nat):Int),-f.Sort'.Lo⟩)
 | [],_,b,h=>by simp [U6] at h
 | g::r,i,b,h=>by
  rcases List.mem_cons.1 h with h | h
  ·exact ⟨0,g,rfl,.inl h⟩
  ·rcases List.mem_cons.1 h with h | h
   ·exact ⟨0,g,rfl,.inr h⟩
   ·obtain ⟨k,f,h1,h2⟩:=Zdc first r (i+1) b h
    rw [show i+1+k=i+(k+1) by omega] at h2
    exact ⟨k+1,f,by simpa using h1,h2⟩
theorem Zrt {l:List (Int × Int)} {e:Int × Int} (h:e∈l):(⟨e.1,e.2,0⟩:T1)∈UY l∧(⟨e.2,e.1,0⟩:T1)∈UY l:=by
 induction l with
 | nil=>simp at h
 | cons g r ih =>
  rcases List.mem_cons.1 h with h | h
  ·subst h;exact ⟨List.mem_cons_self,List.mem_cons_of_mem _ List.mem_cons_self⟩
  ·obtain ⟨h1,h2⟩:=ih h
   exact ⟨List.mem_cons_of_mem _ (List.mem_cons_of_mem _ h1),List.mem_cons_of_mem _ (List.mem_cons_of_mem _ h2)⟩
theorem Ze2 {l:List (Int × Int)} {b:T1} (h:b∈UY l):∃ e∈l,b=⟨e.1,e.2,0⟩∨b=⟨e.2,e.1,0⟩:=by
 induction l with
 | nil=>simp [UY] at h
 | cons g r ih =>
  rcases List.mem_cons.1 h with h | h
  ·exact ⟨g,List.mem_cons_self,.inl h⟩
  ·rcases List.mem_cons.1 h with h | h
   ·exact ⟨g,List.mem_cons_self,.inr h⟩
   ·obtain ⟨e,h1,h2⟩:=ih h
    exact ⟨e,List.mem_cons_of_mem _ h1,h2⟩
structure BdX (x:T0) (first L:Nat) (z:List T1):Prop where
 bd:Bd x L z
 c:∀ b∈z,-20000≤b.C∧b.C≤20000
 fld:∀ (k:Nat) (f:T4),x.Fields[k]? = some f→(⟨((first+k:Nat):Int),-1,f.Sort'.Hi⟩:T1)∈z∧(⟨-1,((first+k:Nat):Int),-f.Sort'.Lo⟩:T1)∈z
 dif:∀ b∈x.Guard.Diffs,b∈z
 eqs:∀ e∈x.Guard.Equals,(⟨e.1,e.2,0⟩:T1)∈z∧(⟨e.2,e.1,0⟩:T1)∈z
 inv:∀ b∈z,(∃ (k:Nat) (f:T4),x.Fields[k]? = some f∧(b=⟨((first+k:Nat):Int),-1,f.Sort'.Hi⟩∨b=⟨-1,((first+k:Nat):Int),-f.Sort'.Lo⟩))∨b∈x.Guard.Diffs∨∃ e∈x.Guard.Equals,b=⟨e.1,e.2,0⟩∨b=⟨e.2,e.1,0⟩
end
section
variable {N:Nat}
structure Sg (F:List T4) (x:T0) (first:Nat) (ks:List Zk):Prop where
 hx:Wk x
 hf:x.First=(first:Int)
 hfn:x.Fields.length≤4
 hle:first+x.Fields.length≤ks.length
 hk:ks.length≤24
 hin:Sv ks.length x.Guard
 so:∀ f∈F,Xm f.Sort'
 ff:∀ k,k < x.Fields.length→F[first+k]? = x.Fields[k]?
 fl:F.length=ks.length
 fits:∀ (y:Nat) (v:Zk),ks[y]? = some v→X7 v=true∨∃ f,F[y]? = some f∧Xv f.Sort' v=true
 tv:∀ e∈x.Guard.Equals,Y8 F e.1=true∧Y8 F e.2=true
 dc:∀ b∈x.Guard.Diffs,-20000≤b.C∧b.C≤20000
 sz:∀ v∈ks,v.S.size≤4194304
theorem TZ {s:Yg} {v:Zk} (hs:Xm s) (h:Xv s v=true):v.Kind=s.Kind∧s.Lo≤Ye v∧Ye v≤s.Hi∧-1000≤Ye v∧Ye v≤1000∧(v.Kind=1∨v.Kind=2):=by
 unfold Xv at h
 simp only [Zc,decide_eq_true_eq,beq_iff_eq] at h
 unfold Xm at hs
 omega
theorem Zcy {v:Zk} (h:X7 v=true):v.Kind=0∧Ye v=0∧v.N=0:=by
 unfold X7 at h
 simp only [Zc,beq_iff_eq] at h
 refine ⟨h.1,?_,h.2.1⟩
 unfold Ye
 rw [h.1]
 exact h.2.1
theorem Sg.sx {F:List T4} {x:T0} {first:Nat} {ks:List Zk} (h:Sg F x first ks) {f:T4} {k:Nat} (hf:x.Fields[k]? = some f):Xm f.Sort':=by
 have hk:=(List.getElem?_eq_some_iff.1 hf).1
 exact h.so f (Zb ((h.ff k hk).trans hf))
theorem ZlL {d:List T0} (hv:YO d=true) {i:Nat} {x:T0} (hx:d[i]? = some x) (hsx:Wk x) {ks:List Zk} (hkn:Vp (Zx d) ks=true) (hsz:∀ v∈ks,v.S.size≤4194304):∃ first,Sg (Zx d) x first ks:=by
 obtain ⟨first,f1,f2,f3,f4,hdv⟩:=Pn hv hx
 have hkl:=ZeI hkn
 have hin:Sv ks.length x.Guard:=by rw [← hkl];exact ZdB (DI hdv)
 have hg:=DI hdv
 have hdv2:=hdv
 unfold X5 at hdv2
 simp only [Zc,decide_eq_true_eq] at hdv2
 have hfirst:first=(Zx (d.take i)).length:=by have:=hdv2.2.2.1;omega
 unfold Z3 at hg
 simp only [Zc,decide_eq_true_eq] at hg
 obtain ⟨_,g1,g2⟩:=hg
 rw [Xc] at g1 g2
 refine ⟨first,hsx,f1,hdv2.2.1,by omega,by omega,hin,fun f hf=>?_,fun k hk=>?_,hkl,fun y v hy=>?_,fun e he=>?_,fun b hb=>?_,hsz⟩
 ·unfold Zx at hf
  obtain ⟨l,hl,hfl⟩:=List.mem_flatten.1 hf
  obtain ⟨x',hx',rfl⟩:=List.mem_map.1 hl
  obtain ⟨i',hi'⟩:=List.mem_iff_getElem?.1 hx'
  obtain ⟨_,_,_,_,_,h⟩:=Pn hv hi'
  unfold X5 at h
  simp only [Zc] at h
  have h:=h.2.2.2.2.1
  rw [Xc] at h
  obtain ⟨k,hk⟩:=List.mem_iff_getElem?.1 hfl
  have:=h k f hk
  unfold UK at this
  simp only [Zc,decide_eq_true_eq] at this
  exact this.2.1
 ·have hcut:Zx d=Zx (d.take i)++(x.Fields++Zx (d.drop (i+1))):=by
   have h1:d=d.take i++x::d.drop (i+1):=by
    obtain ⟨h1,h2⟩:=List.getElem?_eq_some_iff.1 hx
    rw [← h2,List.getElem_cons_drop,List.take_append_drop]
   conv=>lhs;rw [h1]
   rw [TJ,QE]
  rw [hcut,List.getElem?_append_right (by omega),hfirst,Nat.add_sub_cancel_left,List.getElem?_append_left hk]
 ·unfold Vp at hkn
  simp only [Zc,decide_eq_true_eq] at hkn
  have h2:=hkn.2
  rw [Xc] at h2
  have:=h2 y v hy
  rw [Bool.or_eq_true,Nat.zero_add] at this
  rcases this with h | h
  ·exact .inl h
  ·unfold XD at h
   right
   split at h
   ·rename_i f hf
    exact ⟨f,hf,h⟩
   ·cases h
 ·obtain ⟨j,hj⟩:=List.mem_iff_getElem?.1 he
  have:=g2 j e hj
  rwa [Zc] at this
 ·obtain ⟨j,hj⟩:=List.mem_iff_getElem?.1 hb
  have:=g1 j b hj
  rw [decide_eq_true_eq] at this
  unfold YV at this
  omega
end
section
variable {N:Nat}
def Fts (F:List T4) (W:List Zk):Prop:=∀ (y:Nat) (v:Zk),W[y]? = some v→X7 v=true∨∃ f,F[y]? = some f∧Xv f.Sort' v=true
theorem Zdt {fs:List T4} {vs:List Zk} (h:XP fs vs=true) {k:Nat} {f:T4} {v:Zk} (h1:fs[k]? = some f) (h2:vs[k]? = some v):Xv f.Sort' v=true:=by
 unfold XP at h
 rw [Zc] at h
 have h:=h.2
 rw [Xc] at h
 have:=h k v h2
 rw [Nat.zero_add] at this
 unfold XD at this
 rw [h1] at this
 exact this
theorem Zof {F:List T4} {x:T0} {first:Nat} {ks:List Zk} (g:Sg F x first ks) {V:List Zk} (hV:XP x.Fields V=true):Fts F (Yj first V ks):=fun y v hy=>by
 have hl:=fit_len' hV
 rw [PH first V ks (by have:=g.hle;omega)] at hy
 split at hy
 ·rename_i c
  obtain ⟨f,hf⟩:∃ f,x.Fields[y-first]? = some f:=⟨x.Fields[y-first]'(by omega),by simp⟩
  refine .inr ⟨f,?_,Zdt hV hf hy⟩
  have:=g.ff (y-first) (by omega)
  rw [show first+(y-first)=y by omega] at this
  rw [this,hf]
 ·exact g.fits y v hy
where
 fit_len' {fs:List T4} {vs:List Zk} (h:XP fs vs=true):vs.length=fs.length:=by
  unfold XP at h
  simp only [Zc,decide_eq_true_eq] at h
  exact h.1.symm
theorem ZiD {F:List T4} {y:Nat} (h:Y8 F (y:Int)=true) {f:T4} (hf:F[y]? = some f):f.Sort'.Kind=2:=by
 unfold Y8 at h
 rw [Zs,hf] at h
 simpa using h
theorem ZbZ {a b:ByteArray} (h:(a.toList==b.toList)=true):a=b:=by
 rw [XS,XS] at h
 exact Di (by simpa using h)
end
end Gp
section
namespace Gp
open Go Go.Kx Gx
variable {N:Nat}
theorem ZaO {l:List Zk} {e:Int × Int} (h:Uz l e=true):∃ a b:Nat,∃ v w:Zk,e.1=(a:Int)∧e.2=(b:Int)∧l[a]? = some v∧l[b]? = some w∧(v.Kind==0)=false∧(w.Kind==0)=false∧v.S=w.S:=by
 unfold Uz at h
 cases ha:Zm l e.1 with
 | none=>rw [ha] at h;cases h
 | some v =>
  cases hb:Zm l e.2 with
  | none=>rw [ha,hb] at h;cases h
  | some w =>
   rw [ha,hb] at h
   simp only [Zc,Bool.not_eq_true'] at h
   obtain ⟨a,e1,hk⟩:=MV ha
   obtain ⟨b,e2,hl⟩:=MV hb
   exact ⟨a,b,v,w,e1,e2,hk,hl,h.1,h.2.1,ZbZ h.2.2⟩
theorem ZeB {l:List Zk} {k:Nat} {v:Zk} (h:l[k]? = some v):UF l (k:Int)=(v.Kind==0)∧XZ l (k:Int)=Ye v:=by
 unfold UF XZ
 rw [dF (show ¬ (k:Int) < 0 by omega),Zs,h]
 exact ⟨rfl,rfl⟩
end Gp
end
end
namespace Gp
open Go Go.Kx Gx
section
variable {N:Nat}
theorem Zjk (x:T0) (hel:x.Guard.Equals.length≤20):∀ (r:List (Int × Int)) (n k:Nat) (a:List T1),x.Guard.Equals.drop k=r→r.length < n→a.length+2 * r.length≤33554432→Rq x n a (k:Int)=some (a++UY r,0)
 | [],n,k,a,h,hn,ha=>by
  obtain ⟨n,rfl⟩:=pS n (by simp at hn;omega)
  rw [Rq,ZJ (XF h)]
  simp [Dt,UY]
 | e::r,n,k,a,h,hn,ha=>by
  obtain ⟨n,rfl⟩:=pS n (by simp at hn;omega)
  obtain ⟨hk,he,hr⟩:=Xr h
  simp only [Zg] at hn ha
  rw [Rq,ZG hk,Zs,he]
  simp only [cT,bS]
  rw [Yl (by simp;omega),bS,ZA (by omega),Zjk x hel r n (k+1) _ hr (by omega) (by simp;omega)]
  simp [UY]
theorem ZgP (x:T0) {first:Nat} (hf:x.First=(first:Int)) (hfl:first≤1000) (hfn:x.Fields.length≤4) (hs:∀ f∈x.Fields,-1000≤f.Sort'.Lo∧f.Sort'.Lo≤1000):∀ (r:List T4) (n k:Nat) (a:List T1),x.Fields.drop k=r→r.length < n→a.length+2 * r.length≤33554432→Ri N x n a (k:Int)=MQ N x (a++U6 first k r)
 | [],n,k,a,h,hn,ha=>by
  obtain ⟨n,rfl⟩:=pS n (by simp at hn;omega)
  rw [Ri,ZJ (XF h)]
  simp [U6]
 | f::r,n,k,a,h,hn,ha=>by
  obtain ⟨n,rfl⟩:=pS n (by simp at hn;omega)
  obtain ⟨hk,he,hr⟩:=Xr h
  have:=hs f (Zb he)
  simp only [Zg] at hn ha
  rw [Ri,ZG hk,Zs,he]
  simp only [cT,bS]
  rw [Yl (by simp;omega),bS,ZA (by omega),ZgP x hf hfl hfn hs r n (k+1) _ hr (by omega) (by simp;omega),hf,Ym (n:=(first:Int)+(k:Int)) (by omega) (by omega),Ym (by omega) (by omega)]
  have e:(0:Int)-f.Sort'.Lo=-f.Sort'.Lo:=by omega
  rw [e]
  simp [U6]
def XX (first:Nat) (x:T0):List T1:=U6 first 0 x.Fields++x.Guard.Diffs++UY x.Guard.Equals
section
variable {F:List T4} {x:T0} {first:Nat} {ks:List Zk}
theorem Sg.first_le (g:Sg F x first ks):first≤1000:=by have:=g.hle;have:=g.hk;omega
theorem Sg.lohi (g:Sg F x first ks) {f:T4} (hf:f∈x.Fields):-1000≤f.Sort'.Lo∧f.Sort'.Lo≤1000∧-1000≤f.Sort'.Hi∧f.Sort'.Hi≤1000:=by
 obtain ⟨k,hk⟩:=List.mem_iff_getElem?.1 hf
 have:=g.sx hk
 unfold Xm at this
 omega
theorem ZrJ (hN:4194304 < N) (g:Sg F x first ks):Ri N x N [] 0=some (XX first x,0):=by
 have h1:=g.hin.dl
 have h2:=g.hin.el
 have h3:=g.hfn
 have:=ZgP (N:=N) x g.hf g.first_le g.hfn (fun f hf=>by have:=g.lohi hf;omega) x.Fields N 0 [] rfl (by omega) (by simp;omega)
 rw [show ((0:Nat):Int)=0 from rfl] at this
 rw [this]
 unfold MQ
 have hl:=Zet first x.Fields 0
 rw [List.nil_append,Yl (by omega),bS]
 exact Zjk x h2 x.Guard.Equals N 0 _ rfl (by omega) (by simp;omega)
theorem ZmU (g:Sg F x first ks) {b:T1} (h:b∈XX first x):((-1≤b.X∧b.X < (ks.length:Int))∧(-1≤b.Y∧b.Y < (ks.length:Int)))∨(b∈x.Guard.Diffs):=by
 have hle:=g.hle
 unfold XX at h
 rcases List.mem_append.1 h with h | h
 ·rcases List.mem_append.1 h with h | h
  ·obtain ⟨k,f,hk,rfl | rfl⟩:=Zdc first _ _ _ h
   ·have:=(List.getElem?_eq_some_iff.1 hk).1
    left;simp;omega
   ·have:=(List.getElem?_eq_some_iff.1 hk).1
    left;simp;omega
  ·exact .inr h
 ·obtain ⟨e,he,rfl | rfl⟩:=Ze2 h
  ·have:=g.hin.e e he;left;simp;omega
  ·have:=g.hin.e e he;left;simp;omega
def XE (first n:Nat) (ks:List Zk) (y:Int):Bool:=decide (0≤y) && (!(decide (first≤y.toNat∧y.toNat < first+n)) && (match ks[y.toNat]? with | some v=>v.Kind==0 | none=>false))
theorem Zhk (g:Sg F x first ks) {y:Int} (hy:y < (ks.length:Int)):HE N x ks y=some (XE first x.Fields.length ks y):=by
 unfold HE XE
 by_cases c:0≤y
 ·obtain ⟨k,rfl⟩:=Ze c
  have hv:=Za (show k < ks.length by omega)
  rw [dT (show (k:Int)≥0 by omega),My g.hf g.first_le g.hfn,show ((k:Int)).toNat=k from rfl,hv,Zs,hv]
  cases decide (first≤k∧k < first+x.Fields.length)<;>rfl
 ·rw [dF (show ¬ y≥0 by omega)];rfl
theorem ZjP (g:Sg F x first ks) (z:List T1) (hz:∀ b∈z,(-1≤b.X∧b.X < (ks.length:Int))∧(-1≤b.Y∧b.Y < (ks.length:Int))) (hzl:z.length≤1000):∀ (r:List T1) (n k:Nat),z.drop k=r→r.length < n →
  ((∃ b∈r,(XE first x.Fields.length ks b.X || XE first x.Fields.length ks b.Y)=true)∧Tj N ks x (z,0) n (k:Int)=some ([],false)) ∨
  ((∀ b∈r,XE first x.Fields.length ks b.X=false∧XE first x.Fields.length ks b.Y=false)∧Tj N ks x (z,0) n (k:Int)=Pi N ks x (z,0))
 | [],n,k,h,hn=>by
  obtain ⟨n,rfl⟩:=pS n (by simp at hn;omega)
  right
  refine ⟨fun b hb=>absurd hb List.not_mem_nil,?_⟩
  rw [Tj]
  simp only []
  rw [ZJ (XF h)];rfl
 | b::r,n,k,h,hn=>by
  obtain ⟨n,rfl⟩:=pS n (by simp at hn;omega)
  obtain ⟨hk,he,hr⟩:=Xr h
  obtain ⟨⟨_,h1⟩,_,h2⟩:=hz b (Zb he)
  rw [Tj]
  simp only []
  rw [ZG hk,Zs,he]
  simp only [cT,bS]
  rw [Zhk g h1,Zhk g h2]
  simp only [bS]
  cases e1:XE first x.Fields.length ks b.X with
  | true=>exact .inl ⟨⟨b,List.mem_cons_self,by rw [e1];rfl⟩,rfl⟩
  | false =>
   cases e2:XE first x.Fields.length ks b.Y with
   | true=>exact .inl ⟨⟨b,List.mem_cons_self,by rw [e2];simp⟩,rfl⟩
   | false =>
    simp only [cond_false]
    rw [ZA (by omega)]
    rcases ZjP g z hz hzl r n (k+1) hr (by simp at hn;omega) with ⟨⟨c,hc,hm⟩,e⟩ | ⟨h3,e⟩
    ·exact .inl ⟨⟨c,List.mem_cons_of_mem _ hc,hm⟩,e⟩
    ·refine .inr ⟨fun c hc=>?_,e⟩
     rcases List.mem_cons.1 hc with rfl | hc
     ·exact ⟨e1,e2⟩
     ·exact h3 c hc
theorem ZgV (hN:4194304 < N) (g:Sg F x first ks) (z:List T1) (hz:∀ b∈z,(-1≤b.X∧b.X < (ks.length:Int))∧(-1≤b.Y∧b.Y < (ks.length:Int))) (hzl:z.length≤1000) (q:(List ByteArray) × (List Bool) × Bool) :
  ∀ (r:List T1) (n k:Nat) (zn:Int) (B:List Int) (A:Nat→Nat→Int),z.drop k=r→r.length < n→Zr ks.length A ⟨zn,B⟩ →
  ∃ B' A',Sq N ks x (z,0) q n zn B (k:Int)=Pl N ks x q (ks.length:Int) B'∧Zr ks.length A' ⟨(ks.length:Int),B'⟩ ∧
   ∀ u,YN (ks.length+1) A' u↔YN (ks.length+1) A u∧∀ b∈r,u (b.X+1).toNat-u (b.Y+1).toNat≤ZX b.C (-20001)
 | [],n,k,zn,B,A,h,hn,hZ=>by
  obtain ⟨n,rfl⟩:=pS n (by simp at hn;omega)
  have hm:zn=(ks.length:Int):=hZ.m
  subst hm
  refine ⟨B,A,?_,hZ,fun u=>⟨fun h=>⟨h,fun b hb=>by cases hb⟩,fun h=>h.1⟩⟩
  rw [Sq]
  simp only []
  rw [ZJ (XF h)];rfl
 | b::r,n,k,zn,B,A,h,hn,hZ=>by
  obtain ⟨n,rfl⟩:=pS n (by simp at hn;omega)
  obtain ⟨hk,he,hr⟩:=Xr h
  obtain ⟨⟨a1,a2⟩,a3,a4⟩:=hz b (Zb he)
  have hkl:=g.hk
  obtain ⟨B1,e1,hZ1⟩:=ZcH hN hkl hZ (b.X+1).toNat (b.Y+1).toNat (by omega) (by omega) (d:=b) (by omega) (by omega)
  obtain ⟨B',A',e2,hZ2,hK⟩:=ZgV hN g z hz hzl q r n (k+1) (ks.length:Int) B1 _ hr (by simp at hn;omega) hZ1
  refine ⟨B',A',?_,hZ2,fun u=>(hK u).trans ?_⟩
  ·rw [Sq]
   simp only []
   rw [ZG hk,Zs,he]
   simp only [cT,bS]
   rw [e1]
   simp only [bS]
   rw [ZA (by omega)]
   exact e2
  ·rw [ZfP (by omega) (by omega)]
   constructor
   ·rintro ⟨⟨h1,h2⟩,h3⟩
    refine ⟨h1,fun c hc=>?_⟩
    rcases List.mem_cons.1 hc with rfl | hc
    ·exact h2
    ·exact h3 c hc
   ·rintro ⟨h1,h2⟩
    exact ⟨⟨h1,h2 b List.mem_cons_self⟩,fun c hc=>h2 c (List.mem_cons_of_mem _ hc)⟩
def Vy (first n:Nat) (ks:List Zk) (σ:Yo) (y:Nat):Option Int:=if first≤y∧y < first+n then (σ (y-first)).map fun t=>(t.size:Int) else match ks[y]? with
 | some v=>if v.Kind=0 then none else some (Ye v)
 | none=>none
theorem ZpC (hN:4194304 < N) {n:Nat} (hn:n≤24) {A:Nat→Nat→Int} {zn:Int} {B:List Int} (h:Zr n A ⟨zn,B⟩) (y:Nat) (hy:y < n) (c:Int) (hc:-1000000000≤c∧c≤1000000000) :
  ∃ B1 e1 B2 A2,W7 N ⟨zn,B⟩ ⟨(y:Int),-1,c⟩=some (⟨(n:Int),B1⟩,e1)∧W7 N ⟨(n:Int),B1⟩ ⟨-1,(y:Int),Zi (0-c)⟩=some (⟨(n:Int),B2⟩,0)∧Zr n A2 ⟨(n:Int),B2⟩ ∧
   ∀ u,YN (n+1) A2 u↔YN (n+1) A u∧u (y+1)-u 0≤ZX c (-20001)∧u 0-u (y+1)≤ZX (-c) (-20001):=by
 obtain ⟨B1,e1,hZ1⟩:=ZcH hN hn h (y+1) 0 (by omega) (by omega) (d:=⟨(y:Int),-1,c⟩) (by simp) (by simp)
 have hw:Zi (0-c)=-c:=by rw [Ym (by omega) (by omega)];omega
 obtain ⟨B2,e2,hZ2⟩:=ZcH hN hn hZ1 0 (y+1) (by omega) (by omega) (d:=⟨-1,(y:Int),Zi (0-c)⟩) (by simp) (by simp)
 refine ⟨B1,0,B2,_,e1,e2,hZ2,fun u=>?_⟩
 rw [ZfP (by omega) (by omega),ZfP (by omega) (by omega)]
 show ((YN (n+1) A u∧u (y+1)-u 0≤ZX c (-20001))∧u 0-u (y+1)≤ZX (Zi (0-c)) (-20001))↔_
 rw [hw,and_assoc]
theorem ZeA (hN:4194304 < N) (g:Sg F x first ks) {σ:Yo} {s:List ByteArray} {b:List Bool} (hR:Rp x.Fields.length σ s b) (hsz:∀ i t,σ i=some t→t.size≤1000) :
  ∀ (r n k:Nat) (zn:Int) (B:List Int) (A:Nat→Nat→Int),k+r=ks.length→r < n→Zr ks.length A ⟨zn,B⟩ →
  ∃ B' A',Xs N ks x (s,b,true) n zn B (k:Int)=SP N ks x (s,b,true) (ks.length:Int) B'∧Zr ks.length A' ⟨(ks.length:Int),B'⟩ ∧
   ∀ u,YN (ks.length+1) A' u↔YN (ks.length+1) A u∧∀ y,k≤y→y < ks.length→∀ c,Vy first x.Fields.length ks σ y=some c→u (y+1)-u 0≤ZX c (-20001)∧u 0-u (y+1)≤ZX (-c) (-20001)
 | 0,n,k,zn,B,A,h,hn,hZ=>by
  obtain ⟨n,rfl⟩:=pS n (by omega)
  have hm:zn=(ks.length:Int):=hZ.m
  subst hm
  refine ⟨B,A,?_,hZ,fun u=>⟨fun h=>⟨h,fun y h1 h2=>by omega⟩,fun h=>h.1⟩⟩
  rw [Xs,ZJ (by omega)];rfl
 | r+1,n,k,zn,B,A,h,hn,hZ=>by
  obtain ⟨n,rfl⟩:=pS n (by omega)
  have hkl:=g.hk
  have hk:k < ks.length:=by omega
  have hv:=Za hk
  generalize hvv:ks[k]=v at hv
  have hsm:-1000≤Ye v∧Ye v≤1000:=by
   rcases g.fits k v hv with h1 | ⟨f,h1,h2⟩
   ·have:=(Zcy h1).2.1;omega
   ·have:=TZ (g.so f (Zb h1)) h2;omega
  have hm:zn=(ks.length:Int):=hZ.m
  -- one step: with a number, or without
  have with_:∀ c,Vy first x.Fields.length ks σ k=some c→-1000000000≤c∧c≤1000000000→(∀ B1 e1 B2,W7 N ⟨zn,B⟩ ⟨(k:Int),-1,c⟩=some (⟨(ks.length:Int),B1⟩,e1)→W7 N ⟨(ks.length:Int),B1⟩ ⟨-1,(k:Int),Zi (0-c)⟩=some (⟨(ks.length:Int),B2⟩,0)→Xs N ks x (s,b,true) (n+1) zn B (k:Int)=Xs N ks x (s,b,true) n (ks.length:Int) B2 ((k+1:Nat):Int)) →
    ∃ B' A',Xs N ks x (s,b,true) (n+1) zn B (k:Int)=SP N ks x (s,b,true) (ks.length:Int) B'∧Zr ks.length A' ⟨(ks.length:Int),B'⟩ ∧
     ∀ u,YN (ks.length+1) A' u↔YN (ks.length+1) A u∧∀ y,k≤y→y < ks.length→∀ c,Vy first x.Fields.length ks σ y=some c→u (y+1)-u 0≤ZX c (-20001)∧u 0-u (y+1)≤ZX (-c) (-20001):=by
   intro c hc hcr hstep
   obtain ⟨B1,e1,B2,A2,a1,a2,hZ2,hK2⟩:=ZpC hN hkl hZ k hk c hcr
   obtain ⟨B',A',e3,hZ3,hK3⟩:=ZeA hN g hR hsz r n (k+1) (ks.length:Int) B2 A2 (by omega) (by omega) hZ2
   refine ⟨B',A',(hstep B1 e1 B2 a1 a2).trans e3,hZ3,fun u=>(hK3 u).trans ?_⟩
   rw [hK2 u]
   constructor
   ·rintro ⟨⟨h1,h2,h3⟩,h4⟩
    refine ⟨h1,fun y q1 q2 c' hc'=>?_⟩
    by_cases e:y=k
    ·subst e;rw [hc] at hc';cases hc';exact ⟨h2,h3⟩
    ·exact h4 y (by omega) q2 c' hc'
   ·rintro ⟨h1,h2⟩
    obtain ⟨q1,q2⟩:=h2 k (Nat.le_refl _) hk c hc
    exact ⟨⟨h1,q1,q2⟩,fun y q1 q2 c' hc'=>h2 y (by omega) q2 c' hc'⟩
  have without:Vy first x.Fields.length ks σ k=none→Xs N ks x (s,b,true) (n+1) zn B (k:Int)=Xs N ks x (s,b,true) n zn B ((k+1:Nat):Int) →
    ∃ B' A',Xs N ks x (s,b,true) (n+1) zn B (k:Int)=SP N ks x (s,b,true) (ks.length:Int) B'∧Zr ks.length A' ⟨(ks.length:Int),B'⟩ ∧
     ∀ u,YN (ks.length+1) A' u↔YN (ks.length+1) A u∧∀ y,k≤y→y < ks.length→∀ c,Vy first x.Fields.length ks σ y=some c→u (y+1)-u 0≤ZX c (-20001)∧u 0-u (y+1)≤ZX (-c) (-20001):=by
   intro hc hstep
   obtain ⟨B',A',e3,hZ3,hK3⟩:=ZeA hN g hR hsz r n (k+1) zn B A (by omega) (by omega) hZ
   refine ⟨B',A',hstep.trans e3,hZ3,fun u=>(hK3 u).trans ⟨fun ⟨h1,h2⟩=>⟨h1,fun y q1 q2 c' hc'=>?_⟩,fun ⟨h1,h2⟩=>⟨h1,fun y q1 q2 c' hc'=>h2 y (by omega) q2 c' hc'⟩⟩⟩
   by_cases e:y=k
   ·subst e;rw [hc] at hc';cases hc'
   ·exact h2 y (by omega) q2 c' hc'
  by_cases co:first≤k∧k < first+x.Fields.length
  ·have hi:k-first < x.Fields.length:=by omega
   have hw:Zi ((k:Int)-x.First)=((k-first:Nat):Int):=by rw [g.hf,Ym (by omega) (by omega)];omega
   cases hσ:σ (k-first) with
   | none =>
    refine without (by unfold Vy;rw [if_pos co,hσ];rfl) ?_
    rw [Xs,ZG hk,Zs,hv,My g.hf g.first_le g.hfn,dT co,hw]
    simp only [cT,cond_false,bS,Zh,PP,Zs,hR.b _ hi,hσ,Option.isSome_none]
    unfold Ps
    rw [ZA (by omega)];rfl
   | some t =>
    have hst:=hR.s _ _ hi hσ
    have hts:=hsz _ _ hσ
    refine with_ (t.size:Int) (by unfold Vy;rw [if_pos co,hσ];rfl) (by omega) fun B1 e1 B2 a1 a2=>?_
    rw [Xs,ZG hk,Zs,hv,My g.hf g.first_le g.hfn,dT co,hw]
    simp only [cT,cond_false,bS,Zh,PP,Zs,hR.b _ hi,hσ,Option.isSome_some,hst]
    unfold Ps
    simp only [cT]
    rw [a1]
    simp only [bS]
    rw [a2]
    simp only [bS]
    rw [ZA (by omega)]
  ·by_cases c0:v.Kind=0
   ·refine without (by unfold Vy;rw [if_neg co,hv];simp [c0]) ?_
    rw [Xs,ZG hk,Zs,hv,My g.hf g.first_le g.hfn,dF co]
    have e0:(v.Kind != 0)=false:=by simp [c0]
    simp only [cT,cond_false,bS,Bool.not_false,PP,e0]
    rw [ZA (by omega)]
   ·refine with_ (Ye v) (by unfold Vy;rw [if_neg co,hv];simp [c0]) (by omega) fun B1 e1 B2 a1 a2=>?_
    rw [Xs,ZG hk,Zs,hv,My g.hf g.first_le g.hfn,dF co]
    have e0:(v.Kind != 0)=true:=by simp [c0]
    simp only [cT,cond_false,bS,Bool.not_false,PP,e0]
    rw [a1]
    simp only [bS]
    rw [a2]
    simp only [bS]
    rw [ZA (by omega)]
end
end
section
variable {N:Nat}
theorem ZtF {a b:List UInt8} (h:a.length+b.length≤4611686018427387904):U7 (YA a) (YA b)=some (YA (a++b)):=by
 unfold U7
 have e:(YA a).size=a.length∧(YA b).size=b.length:=⟨by rw [YU,Vc],by rw [YU,Vc]⟩
 rw [e.1,e.2,dF (by simp only [IntKind.max];simp [IntKind.bits,IntKind.signed];omega)]
 simp only [cond_false]
 refine congrArg some (Di ?_)
 rw [show bs (YA a++YA b)=bs (YA a)++bs (YA b) from by unfold bs;rw [ByteArray.data_append,Array.toList_append],Vc,Vc,Vc]
theorem Zi8 (c:Int) (hc:c≤1000000):∀ (r n k:Nat),k+r=c.toNat→r < n→Q7 c n (YA (List.replicate k 97)) (k:Int)=some (YA (List.replicate c.toNat 97))
 | 0,n,k,h,hn=>by
  obtain ⟨n,rfl⟩:=pS n (by omega)
  rw [Q7,dF (show ¬ (k:Int) < c by omega),show c.toNat=k by omega];rfl
 | r+1,n,k,h,hn=>by
  obtain ⟨n,rfl⟩:=pS n (by omega)
  rw [Q7,dT (show (k:Int) < c by omega),show str [97]=YA [97] from rfl,ZtF (by simp;omega)]
  simp only [cT,bS]
  rw [ZA (by omega),show List.replicate k (97:UInt8)++[97]=List.replicate (k+1) 97 from by rw [List.replicate_succ']]
  exact Zi8 c hc r n (k+1) (by omega) (by omega)
theorem ZnO (hN:4194304 < N) (c:Int) (hc:c≤1000000):Zbx N c=some (YA (List.replicate c.toNat 97)) :=
 Zi8 c hc c.toNat N 0 (by omega) (by omega)
def UI (c:Int):ByteArray:=YA (List.replicate c.toNat 97)
def Wn (first:Nat) (σ:Yo) (y:Nat→Int) (k:Nat) (f:T4):Zk :=
 bif f.Sort'.Kind==1 then ⟨f.Sort'.Kind,y (first+k+1),str []⟩ else match σ k with
 | some t=>⟨f.Sort'.Kind,0,t⟩
 | none=>⟨f.Sort'.Kind,0,UI (y (first+k+1))⟩
def X6 (first:Nat) (σ:Yo) (y:Nat→Int):Nat→List T4→List Zk
 | _,[]=>[]
 | k,f::r=>Wn first σ y k f::X6 first σ y (k+1) r
theorem He (first:Nat) (σ:Yo) (y:Nat→Int):∀ (k:Nat) (l:List T4),(X6 first σ y k l).length=l.length
 | _,[]=>rfl
 | k,f::r=>by rw [X6,Zg,Zg,He first σ y (k+1) r]
theorem ZjJ (first:Nat) (σ:Yo) (y:Nat→Int):∀ (k:Nat) (l:List T4) (i:Nat) (f:T4),l[i]? = some f→(X6 first σ y k l)[i]? = some (Wn first σ y (k+i) f)
 | k,g::r,0,f,h=>by rw [List.getElem?_cons_zero] at h;cases h;rfl
 | k,g::r,i+1,f,h=>by
  rw [List.getElem?_cons_succ] at h
  rw [X6,List.getElem?_cons_succ,ZjJ first σ y (k+1) r i f h,show k+1+i=k+(i+1) by omega]
section
variable {F:List T4} {x:T0} {first:Nat} {ks:List Zk}
theorem Zhs (hN:4194304 < N) (g:Sg F x first ks) {σ:Yo} {s:List ByteArray} {b:List Bool} (hR:Rp x.Fields.length σ s b) {m:List Int} {y:Nat→Int} (hm:∀ i,i < ks.length→m[i]? = some (y (i+1))) (hy:∀ i,i < ks.length→y (i+1)≤1000000) :
  ∀ (r:List T4) (n k:Nat) (acc:List Zk),x.Fields.drop k=r→r.length < n→acc.length+r.length≤1000 →
  U1 N ks x (s,b,true) (m,true) n acc (k:Int)=PO N ks x (acc++X6 first σ y k r)
 | [],n,k,acc,h,hn,ha=>by
  obtain ⟨n,rfl⟩:=pS n (by simp at hn;omega)
  rw [U1,ZJ (XF h)]
  simp [X6]
 | f::r,n,k,acc,h,hn,ha=>by
  obtain ⟨n,rfl⟩:=pS n (by simp at hn;omega)
  obtain ⟨hk,he,hr⟩:=Xr h
  have hle:=g.hle
  have hkl:=g.hk
  simp only [Zg] at hn ha
  have hw:Zi (x.First+(k:Int))=((first+k:Nat):Int):=by rw [g.hf,Ym (by omega) (by omega)];omega
  have hmk:=hm (first+k) (by omega)
  have nxt:=fun v:Zk=>Zhs hN g hR hm hy r n (k+1) (acc++[v]) hr (by omega) (by simp;omega)
  have hnext:Zi ((k:Int)+1)=((k+1:Nat):Int):=ZA (by omega)
  rw [U1,ZG hk,Zs,he,hw,hnext]
  simp only [cT,bS,Zs,hmk,hR.b k hk]
  rw [X6]
  unfold Wn
  cases hc:(f.Sort'.Kind==1) with
  | true =>
   simp only [cT]
   rw [Yl (by simp;omega),bS,nxt]
   simp
  | false =>
   simp only [cond_false]
   cases hσ:σ k with
   | some t =>
    simp only [Option.isSome_some,cT,hR.s k t hk hσ,bS]
    rw [Yl (by simp;omega),bS,nxt]
    simp
   | none =>
    simp only [Option.isSome_none,cond_false]
    rw [ZnO hN _ (hy (first+k) (by omega)),bS,Yl (by simp;omega),bS,nxt]
    simp [UI]
structure ZK (x:T0) (first:Nat) (ks:List Zk) (σ:Yo) (u:Nat→Int):Prop where
 f:YN (ks.length+1) YP u
 b:∀ b∈XX first x,u (b.X+1).toNat-u (b.Y+1).toNat≤ZX b.C (-20001)
 k:∀ y,y < ks.length→∀ c,Vy first x.Fields.length ks σ y=some c→u (y+1)-u 0≤ZX c (-20001)∧u 0-u (y+1)≤ZX (-c) (-20001)
theorem Zr4 {M:Nat} {A:Nat→Nat→Int} {u:Nat→Int}:YN M (ZC A) u↔YN M A u∧YN M YP u:=by
 constructor
 ·intro h
  refine ⟨fun a b ha hb=>?_,fun a b ha hb=>?_⟩
  ·have:=h a b ha hb
   have:=XK (A a b) (YP a b)
   unfold ZC at *
   omega
  ·have:=h a b ha hb
   have:=XK (A a b) (YP a b)
   unfold ZC at *
   omega
 ·intro ⟨h,k⟩ a b ha hb
  have:=h a b ha hb
  have:=k a b ha hb
  have:=XK (A a b) (YP a b)
  unfold ZC
  omega
theorem Zql (hN:4194304 < N) (d:List T0) (label:Int) (g:Sg F x first ks) (hex:Tu N d label=some true) (hkn:So N d ks=some true) (hidx:Zm d label=some x) (hdx:∀ b∈x.Guard.Diffs,-1≤b.X∧-1≤b.Y) (hbad:∀ v∈ks,v.S.size≤1000) :
  (VM N d label ks=some ([],false)∧∃ b∈XX first x,(XE first x.Fields.length ks b.X || XE first x.Fields.length ks b.Y)=true) ∨
  ((∀ b∈XX first x,XE first x.Fields.length ks b.X=false∧XE first x.Fields.length ks b.Y=false) ∧
   ((VM N d label ks=some ([],false)∧Wi first x.Fields.length ks (WK x.Guard.Equals) (x.Fields.length+1) (fun _=>none)=none) ∨
   ∃ σ,Wi first x.Fields.length ks (WK x.Guard.Equals) (x.Fields.length+1) (fun _=>none)=some σ ∧
    ((VM N d label ks=some ([],false)∧∀ u,¬ ZK x first ks σ u) ∨
    ∃ y,y 0=0∧ZK x first ks σ y∧(∀ u,ZK x first ks σ u→u 0=0→∀ a,a < ks.length+1→y a≤u a) ∧
     VM N d label ks=bif W8 x.Guard (Yj first (X6 first σ y 0 x.Fields) ks) then some (X6 first σ y 0 x.Fields,true) else some ([],false)))):=by
 have hfn:=g.hfn
 have hdl:=g.hin.dl
 have hel:=g.hin.el
 have hkl:=g.hk
 have hz:∀ b∈XX first x,(-1≤b.X∧b.X < (ks.length:Int))∧(-1≤b.Y∧b.Y < (ks.length:Int)):=fun b hb=>by
  rcases ZmU g hb with h | h
  ·exact h
  ·have:=hdx b h
   have:=g.hin.d b h
   omega
 have hzl:(XX first x).length≤1000:=by
  unfold XX
  rw [lA,lA,Zet,ZgA]
  omega
 have e0:VM N d label ks=Tj N ks x (XX first x,0) N 0:=by
  unfold VM Zdi
  rw [hex,hkn,hidx]
  simp only [bS,Zh,cond_false]
  rw [ZrJ hN g];rfl
 rw [e0]
 rcases ZjP (N:=N) g (XX first x) hz hzl (XX first x) N 0 rfl (by omega) with ⟨hm,e1⟩ | ⟨hm,e1⟩
 ·exact .inl ⟨e1,hm⟩
 ·right
  refine ⟨hm,?_⟩
  have e1:Tj N ks x (XX first x,0) N 0=Pi N ks x (XX first x,0):=e1
  rw [e1]
  unfold Pi
  rcases Zs6 hN g.hf g.first_le g.hfn g.hin with ⟨h1,h2⟩ | ⟨σ,s,b,h1,hR,h2⟩
  ·rw [h2];exact .inl ⟨rfl,h1⟩
  ·right
   refine ⟨σ,h1,?_⟩
   rw [h2]
   simp only [bS,Zh,cond_false]
   obtain ⟨B0,e2,hZ0⟩:=ZsY hN ks.length hkl
   rw [e2]
   simp only [bS]
   obtain ⟨B1,A1,e3,hZ1,hK1⟩:=ZgV hN g (XX first x) hz hzl (s,b,true) (XX first x) N 0 (ks.length:Int) B0 YP rfl (by omega) hZ0
   have e3:Sq N ks x (XX first x,0) (s,b,true) N (ks.length:Int) B0 0=Pl N ks x (s,b,true) (ks.length:Int) B1:=e3
   rw [e3]
   unfold Pl
   obtain ⟨B2,A2,e4,hZ2,hK2⟩:=ZeA hN g hR (fun i t h=>ZeD (P:=fun t=>t.size≤1000) hbad _ h1 (fun i t h=>by cases h) i t h) ks.length N 0 (ks.length:Int) B1 A1 (by omega) (by omega) hZ1
   have e4:Xs N ks x (s,b,true) N (ks.length:Int) B1 0=SP N ks x (s,b,true) (ks.length:Int) B2:=e4
   rw [e4]
   have hZK:∀ u,YN (ks.length+1) (ZC A2) u↔ZK x first ks σ u:=fun u=>by
    rw [Zr4,hK2 u,hK1 u]
    constructor
    ·rintro ⟨⟨⟨p1,p2⟩,p3⟩,p4⟩
     exact ⟨p4,p2,fun y hy c hc=>p3 y (Nat.zero_le _) hy c hc⟩
    ·rintro ⟨p1,p2,p3⟩
     exact ⟨⟨⟨p1,p2⟩,fun y _ hy c hc=>p3 y hy c hc⟩,p1⟩
   unfold SP
   rcases Zl0 hN ks.length hkl A2 _ hZ2 with ⟨e5,hno⟩ | ⟨m,y,e5,hml,hmg,hy0,hyk,hyl⟩
   ·rw [e5]
    exact .inl ⟨rfl,fun u hu=>hno u ((hZK u).2 hu)⟩
   ·rw [e5]
    simp only [bS,Zh,cond_false]
    have hyZ:=(hZK y).1 hyk
    refine .inr ⟨y,hy0,hyZ,fun u hu h0 a ha=>hyl u ((hZK u).2 hu) h0 a ha,?_⟩
    have hyb:∀ i,i < ks.length→y (i+1)≤1000000:=fun i hi=>by
     have:=hyZ.f (i+1) 0 (by omega) (by omega)
     have:=Mi (i+1) 0
     omega
    have e6:=Zhs hN g hR hmg hyb x.Fields N 0 [] rfl (by omega) (by simp;omega)
    have e6:U1 N ks x (s,b,true) (m,true) N [] 0=PO N ks x ([]++X6 first σ y 0 x.Fields):=e6
    rw [e6,List.nil_append]
    unfold PO
    have hvl:=He first σ y 0 x.Fields
    have hle:=g.hle
    rw [Zjz hN x _ ks first g.hf (by rw [hvl];exact hle) (by omega)]
    simp only [bS]
    rw [Zg2 hN x.Guard _ (by rw [HX _ _ _ (by rw [hvl];exact hle)];exact g.hin)]
    simp only [bS]
    cases W8 x.Guard (Yj first (X6 first σ y 0 x.Fields) ks)<;>rfl
end
end
section
variable {N:Nat} {F:List T4} {x:T0} {first:Nat} {ks:List Zk}
def uW (W:List Zk):Nat→Int
 | 0=>0
 | a+1=>match W[a]? with | some v=>Ye v | none=>0
theorem Q0 {W:List Zk} {a:Nat} {v:Zk} (h:W[a]? = some v):uW W (a+1)=Ye v:=by show (match W[a]? with | some v=>Ye v | none=>0)=_;rw [h]
theorem Zlh {W:List Zk} {a:Nat} (h:W[a]? = none):uW W (a+1)=0:=by show (match W[a]? with | some v=>Ye v | none=>0)=_;rw [h]
theorem ZiL (W:List Zk) {z:Int} (h:-1≤z):XZ W z=uW W (z+1).toNat:=by
 unfold XZ
 by_cases c:z < 0
 ·have:z=-1:=by omega
  subst this
  rfl
 ·obtain ⟨k,rfl⟩:=Ze (show 0≤z by omega)
  rw [dF c,Zs];rfl
theorem Zqq {W:List Zk} (h:Fts F W) (hso:∀ f∈F,Xm f.Sort') (a:Nat):-1000≤uW W a∧uW W a≤1000:=by
 cases a with
 | zero=>simp [uW]
 | succ a =>
  cases hv:W[a]? with
  | none=>rw [Zlh hv];simp
  | some v =>
   rw [Q0 hv]
   rcases h a v hv with h1 | ⟨f,h1,h2⟩
   ·have:=(Zcy h1).2.1;omega
   ·have:=TZ (hso f (Zb h1)) h2;omega
structure OkV (x:T0) (first:Nat) (ks V:List Zk):Prop where
 fit:XP x.Fields V=true
 keep:W8 x.Guard (Yj first V ks)=true
theorem OkV.len {V:List Zk} (h:OkV x first ks V):V.length=x.Fields.length:=(Zew h.fit).symm
theorem OkV.dif {V:List Zk} (h:OkV x first ks V) {b:T1} (hb:b∈x.Guard.Diffs):Vz (Yj first V ks) b=true:=by
 have:=h.keep
 unfold W8 at this
 rw [Zc,Xc] at this
 obtain ⟨i,hi⟩:=List.mem_iff_getElem?.1 hb
 exact this.1 i b hi
theorem OkV.eqs {V:List Zk} (h:OkV x first ks V) {e:Int × Int} (he:e∈x.Guard.Equals):Uz (Yj first V ks) e=true:=by
 have:=h.keep
 unfold W8 at this
 rw [Zc,Xc,Xc] at this
 obtain ⟨i,hi⟩:=List.mem_iff_getElem?.1 he
 exact this.2 i e hi
theorem PA (g:Sg F x first ks) {V:List Zk} (hl:V.length=x.Fields.length) {k:Nat} (hk:k < x.Fields.length):(Yj first V ks)[first+k]? = V[k]? := by
 rw [PH first V ks (by rw [hl];exact g.hle),if_pos (by rw [hl];omega),show first+k-first=k by omega]
theorem Py (g:Sg F x first ks) {V:List Zk} (hl:V.length=x.Fields.length) {y:Nat} (hy:¬ (first≤y∧y < first+x.Fields.length)):(Yj first V ks)[y]? = ks[y]? := by
 rw [PH first V ks (by rw [hl];exact g.hle),if_neg (by rw [hl];exact hy)]
theorem Zbv (g:Sg F x first ks) {V:List Zk} (hl:V.length=x.Fields.length) {z:Int} (h:UF (Yj first V ks) z=false):XE first x.Fields.length ks z=false:=by
 unfold XE
 by_cases c:0≤z
 ·obtain ⟨k,rfl⟩:=Ze c
  rw [show ((k:Int)).toNat=k from rfl]
  by_cases co:first≤k∧k < first+x.Fields.length
  ·rw [dT co];simp
  ·unfold UF at h
   rw [dF (show ¬ (k:Int) < 0 by omega),Zs,Py g hl co] at h
   cases hv:ks[k]? with
   | none=>simp
   | some v =>
    rw [hv] at h
    have h:(v.Kind==0)=false:=h
    simp [h]
 ·rw [dF c];rfl
theorem Zgk (g:Sg F x first ks) {k:Nat} (hk:k < x.Fields.length):XE first x.Fields.length ks ((first+k:Nat):Int)=false:=by
 unfold XE
 rw [show (((first+k:Nat):Int)).toNat=first+k from rfl,dT (show first≤first+k∧first+k < first+x.Fields.length by omega)]
 simp
theorem ZgD {n:Nat}:XE first n ks (-1)=false:=rfl
theorem ZdS (g:Sg F x first ks) {V:List Zk} (h:OkV x first ks V) {b:T1} (hb:b∈XX first x):XE first x.Fields.length ks b.X=false∧XE first x.Fields.length ks b.Y=false:=by
 unfold XX at hb
 rcases List.mem_append.1 hb with hb | hb
 ·rcases List.mem_append.1 hb with hb | hb
  ·obtain ⟨k,f,hk,rfl | rfl⟩:=Zdc first _ _ _ hb
   ·have hk':=(List.getElem?_eq_some_iff.1 hk).1
    rw [show 0+k=k by omega]
    exact ⟨Zgk g hk',ZgD⟩
   ·have hk':=(List.getElem?_eq_some_iff.1 hk).1
    rw [show 0+k=k by omega]
    exact ⟨ZgD,Zgk g hk'⟩
  ·have:=h.dif hb
   unfold Vz at this
   simp only [Zc,Bool.not_eq_true'] at this
   exact ⟨Zbv g h.len this.1,Zbv g h.len this.2.1⟩
 ·obtain ⟨e,he,hb⟩:=Ze2 hb
  obtain ⟨a,c,v,w,e1,e2,hv,hw,kv,kw,hs⟩:=ZaO (h.eqs he)
  have m1:XE first x.Fields.length ks e.1=false:=Zbv g h.len (by rw [e1,(ZeB hv).1];exact kv)
  have m2:XE first x.Fields.length ks e.2=false:=Zbv g h.len (by rw [e2,(ZeB hw).1];exact kw)
  rcases hb with rfl | rfl
  ·exact ⟨m1,m2⟩
  ·exact ⟨m2,m1⟩
def wT (W:List Zk):Nat→Option ByteArray:=fun y=>(W[y]?).map (·.S)
theorem Zue (g:Sg F x first ks) {V:List Zk} (h:OkV x first ks V):Wok first x.Fields.length ks (WK x.Guard.Equals) (wT (Yj first V ks)):=by
  refine ⟨fun y hy=>by unfold wT;rw [Py g h.len hy],fun p hp=>?_⟩
  obtain ⟨e,he,hp⟩:=Ze1 hp
  obtain ⟨a,c,v,w,e1,e2,hv,hw,kv,kw,hs⟩:=ZaO (h.eqs he)
  have t1:e.1.toNat=a:=by omega
  have t2:e.2.toNat=c:=by omega
  unfold wT
  rcases hp with rfl | rfl
  · show ((Yj first V ks)[e.1.toNat]?).map (·.S)=((Yj first V ks)[e.2.toNat]?).map (·.S)
    rw [t1,t2,hv,hw]
    exact congrArg some hs
  · show ((Yj first V ks)[e.2.toNat]?).map (·.S)=((Yj first V ks)[e.1.toNat]?).map (·.S)
    rw [t1,t2,hv,hw]
    exact congrArg some hs.symm
theorem Zkq {P:Nat→Prop} {n:Nat}:∀ {l:List (Nat × Nat)} {σ σ':Yo},(∀ p∈l,first≤p.1→P (p.1-first))→Y4 first n ks l σ=some σ'→(∀ i t,σ i=some t→P i)→∀ i t,σ' i=some t→P i
 | [],σ,σ',hl,h,hσ=>by cases h;exact hσ
 | p::r,σ,σ',hl,h,hσ=>by
  rw [Y4] at h
  cases ht:Wl first n ks σ p with
  | none=>rw [ht] at h;cases h
  | some σ1 =>
   rw [ht] at h
   refine Zkq (fun q hq=>hl q (List.mem_cons_of_mem _ hq)) h ?_
   rcases Zel ht with rfl | ⟨t,h1,h2,_,rfl⟩
   ·exact hσ
   ·intro i u e
    unfold UH at e
    by_cases c:i=p.1-first
    ·rw [c];exact hl p List.mem_cons_self h1.1
    ·rw [if_neg c] at e;exact hσ i u e
theorem Zjt {P:Nat→Prop} {n:Nat} {l:List (Nat × Nat)} (hl:∀ p∈l,first≤p.1→P (p.1-first)):∀ (k:Nat) {σ σ':Yo},Wi first n ks l k σ=some σ'→(∀ i t,σ i=some t→P i)→∀ i t,σ' i=some t→P i
 | 0,σ,σ',h,hσ=>by cases h;exact hσ
 | k+1,σ,σ',h,hσ=>by
  rw [Wi] at h
  cases hp:Y4 first n ks l σ with
  | none=>rw [hp] at h;cases h
  | some σ1=>rw [hp] at h;exact Zjt hl k h (Zkq hl hp hσ)
structure Rd (F:List T4) (x:T0) (first:Nat) (ks:List Zk) (σ:Yo):Prop where
 e:Wi first x.Fields.length ks (WK x.Guard.Equals) (x.Fields.length+1) (fun _=>none)=some σ
 dom:∀ i t,σ i=some t→Y8 F ((first+i:Nat):Int)=true
 cl:HY first x.Fields.length ks (WK x.Guard.Equals) σ
theorem ZgG (g:Sg F x first ks) {σ:Yo} (e:Wi first x.Fields.length ks (WK x.Guard.Equals) (x.Fields.length+1) (fun _=>none)=some σ):Rd F x first ks σ:=by
 refine ⟨e,Zjt (P:=fun i=>Y8 F ((first+i:Nat):Int)=true) (fun p hp h0=>?_) _ e (fun i t h=>by cases h),Zj6 _ e (by have:=ZgZ x.Fields.length (fun _=>none);omega)⟩
 obtain ⟨d,hd,hp⟩:=Ze1 hp
 obtain ⟨t1,t2⟩:=g.tv d hd
 obtain ⟨⟨a1,_⟩,a2,_⟩:=g.hin.e d hd
 rcases hp with rfl | rfl
 ·rw [show (((first+(d.1.toNat-first):Nat)):Int)=d.1 by omega];exact t1
 ·rw [show (((first+(d.2.toNat-first):Nat)):Int)=d.2 by omega];exact t2
theorem Zkk (g:Sg F x first ks) {k:Nat} {f:T4} (hf:x.Fields[k]? = some f) (h:Y8 F ((first+k:Nat):Int)=true):f.Sort'.Kind=2 :=
 ZiD h ((g.ff k (List.getElem?_eq_some_iff.1 hf).1).trans hf)
theorem ZdQ {V:List Zk} (h:OkV x first ks V) {k:Nat} (hk:k < x.Fields.length):∃ f v,x.Fields[k]? = some f∧V[k]? = some v∧Xv f.Sort' v=true:=by
 have h1:=Za hk
 have h2:=Za (show k < V.length by rw [h.len];exact hk)
 exact ⟨_,_,h1,h2,Zdt h.fit h1 h2⟩
theorem ZbB {v:Zk} (h:v.Kind=2):Ye v=(v.S.size:Int):=by unfold Ye;rw [h];rfl
theorem Zdo (g:Sg F x first ks) (hdx:∀ b∈x.Guard.Diffs,-1≤b.X∧-1≤b.Y) {V:List Zk} (h:OkV x first ks V):∃ σ,Rd F x first ks σ∧PX first x.Fields.length σ (wT (Yj first V ks))∧ZK x first ks σ (uW (Yj first V ks)):=by
 obtain ⟨σ,e,hA⟩:=ZgN (Zue g h) (x.Fields.length+1) (σ:=fun _=>none) (fun i t _ h=>by cases h)
 have hR:=ZgG g e
 have hfts:=Zof g h.fit
 have hsm:=Zqq hfts g.so
 refine ⟨σ,hR,hA,fun a b ha hb=>?_,fun b hb=>?_,fun y hy c hc=>?_⟩
 ·have:=hsm a
  have:=hsm b
  unfold YP
  by_cases e:a=b
  ·subst e;rw [if_pos rfl];omega
  ·rw [if_neg e]
   split
   ·omega
   ·split<;>omega
 ·have hm:=Wg b.C (-20001)
  unfold XX at hb
  rcases List.mem_append.1 hb with hb | hb
  ·rcases List.mem_append.1 hb with hb | hb
   ·obtain ⟨k,f,hk,rfl | rfl⟩:=Zdc first _ _ _ hb
    ·have hk':=(List.getElem?_eq_some_iff.1 hk).1
     obtain ⟨f',v,q1,q2,q3⟩:=ZdQ h hk'
     rw [hk] at q1;cases q1
     have:=TZ (g.sx hk) q3
     have e1:uW (Yj first V ks) (first+k+1)=Ye v:=Q0 ((PA g h.len hk').trans q2)
     have hm:f.Sort'.Hi≤ZX f.Sort'.Hi (-20001):=(Wg _ _).1
     show uW _ ((((first+(0+k):Nat):Int)+1).toNat)-uW _ (((-1:Int)+1).toNat)≤ZX f.Sort'.Hi (-20001)
     rw [show (((first+(0+k):Nat):Int)+1).toNat=first+k+1 by omega,e1,show ((-1:Int)+1).toNat=0 from rfl]
     have:uW (Yj first V ks) 0=0:=rfl
     omega
    ·have hk':=(List.getElem?_eq_some_iff.1 hk).1
     obtain ⟨f',v,q1,q2,q3⟩:=ZdQ h hk'
     rw [hk] at q1;cases q1
     have:=TZ (g.sx hk) q3
     have e1:uW (Yj first V ks) (first+k+1)=Ye v:=Q0 ((PA g h.len hk').trans q2)
     have hm:-f.Sort'.Lo≤ZX (-f.Sort'.Lo) (-20001):=(Wg _ _).1
     show uW _ (((-1:Int)+1).toNat)-uW _ ((((first+(0+k):Nat):Int)+1).toNat)≤ZX (-f.Sort'.Lo) (-20001)
     rw [show (((first+(0+k):Nat):Int)+1).toNat=first+k+1 by omega,e1,show ((-1:Int)+1).toNat=0 from rfl]
     have:uW (Yj first V ks) 0=0:=rfl
     omega
   ·have hd:=h.dif hb
    unfold Vz at hd
    simp only [Zc,Bool.not_eq_true',decide_eq_false_iff_not] at hd
    obtain ⟨b1,b2⟩:=hdx b hb
    have d3:=hd.2.2
    rw [ZiL _ b1,ZiL _ b2] at d3
    have:=hsm (b.X+1).toNat
    have:=hsm (b.Y+1).toNat
    rw [Ym (by omega) (by omega)] at d3
    omega
  ·obtain ⟨e,he,hb⟩:=Ze2 hb
   obtain ⟨a,c,v,w,e1,e2,hv,hw,kv,kw,hs⟩:=ZaO (h.eqs he)
   obtain ⟨t1,t2⟩:=g.tv e he
   have kind:∀ (y:Nat) (v:Zk),(Yj first V ks)[y]? = some v→(v.Kind==0)=false→Y8 F (y:Int)=true→v.Kind=2:=fun y v hv kv ht=>by
    rcases hfts y v hv with q | ⟨f,q1,q2⟩
    ·have:=(Zcy q).1;rw [this] at kv;cases kv
    ·exact (TZ (g.so f (Zb q1)) q2).1.trans (ZiD ht q1)
   have k1:=kind a v hv kv (by rw [← e1];exact t1)
   have k2:=kind c w hw kw (by rw [← e2];exact t2)
   have n1:uW (Yj first V ks) (a+1)=(v.S.size:Int):=(Q0 hv).trans (ZbB k1)
   have n2:uW (Yj first V ks) (c+1)=(w.S.size:Int):=(Q0 hw).trans (ZbB k2)
   rcases hb with rfl | rfl
   ·show uW _ ((e.1+1).toNat)-uW _ ((e.2+1).toNat)≤_
    rw [show (e.1+1).toNat=a+1 by omega,show (e.2+1).toNat=c+1 by omega,n1,n2,hs]
    have hm:(0:Int)≤ZX 0 (-20001):=(Wg 0 (-20001)).1
    show (w.S.size:Int)-(w.S.size:Int)≤ZX 0 (-20001)
    omega
   ·show uW _ ((e.2+1).toNat)-uW _ ((e.1+1).toNat)≤_
    rw [show (e.1+1).toNat=a+1 by omega,show (e.2+1).toNat=c+1 by omega,n1,n2,hs]
    have hm:(0:Int)≤ZX 0 (-20001):=(Wg 0 (-20001)).1
    show (w.S.size:Int)-(w.S.size:Int)≤ZX 0 (-20001)
    omega
 ·have ZR:uW (Yj first V ks) (y+1)=c:=by
   unfold Vy at hc
   by_cases co:first≤y∧y < first+x.Fields.length
   ·rw [if_pos co] at hc
    cases hσ:σ (y-first) with
    | none=>rw [hσ] at hc;cases hc
    | some t =>
     rw [hσ] at hc
     cases hc
     have ha:=hA (y-first) t (by omega) hσ
     rw [show first+(y-first)=y by omega] at ha
     unfold wT at ha
     obtain ⟨f,v,q1,q2,q3⟩:=ZdQ h (show y-first < x.Fields.length by omega)
     have hv:(Yj first V ks)[y]? = some v:=by
      have:=PA g h.len (show y-first < x.Fields.length by omega)
      rw [show first+(y-first)=y by omega] at this
      rw [this,q2]
     rw [hv] at ha
     rw [Q0 hv]
     have hS:v.S=t:=Option.some.inj ha
     have hk2:v.Kind=2:=by
      rw [(TZ (g.sx q1) q3).1]
      exact Zkk g q1 (hR.dom _ _ hσ)
     rw [ZbB hk2,hS]
   ·rw [if_neg co] at hc
    cases hv:ks[y]? with
    | none=>rw [hv] at hc;cases hc
    | some v =>
     rw [hv] at hc
     rw [Q0 ((Py g h.len co).trans hv)]
     have hc:(if v.Kind=0 then none else some (Ye v))=some c:=hc
     split at hc
     ·cases hc
     ·cases hc;rfl
  have m1:=Wg c (-20001)
  have m2:=Wg (-c) (-20001)
  have:uW (Yj first V ks) 0=0:=rfl
  omega
end
section
variable {N:Nat} {F:List T4} {x:T0} {first:Nat} {ks:List Zk}
theorem Zt4 {c:Int} (h:0≤c):((UI c).size:Int)=c:=by
 unfold UI
 rw [YU,Vc,List.length_replicate]
 omega
theorem ZoN (c:Int):(bs (UI c)).any Yw=false:=by
 unfold UI
 rw [Vc,List.any_eq_false]
 intro b hb
 rw [List.eq_of_mem_replicate hb]
 decide
theorem Zkr (g:Sg F x first ks):∀ v∈ks,(bs v.S).any Yw=false∧v.S.size≤1000:=fun v hv=>by
 obtain ⟨i,hi⟩:=List.mem_iff_getElem?.1 hv
 rcases g.fits i v hi with h | ⟨f,h1,h2⟩
 ·unfold X7 at h
  simp only [Zc] at h
  have hs:=ZbZ h.2.2.1
  rw [hs]
  exact ⟨rfl,by decide⟩
 ·have hn:=TZ (g.so f (Zb h1)) h2
  unfold Xv at h2
  simp only [Zc] at h2
  have h3:=h2.2.2.2
  rcases hn.2.2.2.2.2 with k1 | k2
  ·have e:(v.Kind==1)=true:=by simp [k1]
   rw [e] at h3
   have hs:=ZbZ h3
   rw [hs]
   exact ⟨rfl,by decide⟩
  ·have e:(v.Kind==1)=false:=by simp [k2]
   rw [e] at h3
   simp only [cond_false,Zc,Bool.not_eq_true'] at h3
   refine ⟨h3.2,?_⟩
   have:=ZbB k2
   omega
section
variable {σ:Yo} {y:Nat→Int}
theorem Zn0 (g:Sg F x first ks) (hZ:ZK x first ks σ y) (h0:y 0=0) {k:Nat} {f:T4} (hf:x.Fields[k]? = some f):f.Sort'.Lo≤y (first+k+1)∧y (first+k+1)≤f.Sort'.Hi:=by
 obtain ⟨m1,m2⟩:=Zig first x.Fields 0 k f hf
 have hs:=g.sx hf
 have a1:=hZ.b _ (List.mem_append.2 (.inl (List.mem_append.2 (.inl m1))))
 have a2:=hZ.b _ (List.mem_append.2 (.inl (List.mem_append.2 (.inl m2))))
 have a1:y ((((first+(0+k):Nat):Int)+1).toNat)-y (((-1:Int)+1).toNat)≤ZX f.Sort'.Hi (-20001):=a1
 have a2:y (((-1:Int)+1).toNat)-y ((((first+(0+k):Nat):Int)+1).toNat)≤ZX (-f.Sort'.Lo) (-20001):=a2
 rw [show (((first+(0+k):Nat):Int)+1).toNat=first+k+1 by omega,show ((-1:Int)+1).toNat=0 from rfl,h0] at a1 a2
 have b1:=Wg f.Sort'.Hi (-20001)
 have b2:=Wg (-f.Sort'.Lo) (-20001)
 unfold Xm at hs
 omega
theorem ZhW (hZ:ZK x first ks σ y) (h0:y 0=0) {z:Nat} (hz:z < ks.length) {c:Int} (hc:Vy first x.Fields.length ks σ z=some c) (hr:-1000≤c∧c≤1000):y (z+1)=c:=by
 obtain ⟨a1,a2⟩:=hZ.k z hz c hc
 have b1:=Wg c (-20001)
 have b2:=Wg (-c) (-20001)
 omega
theorem ZdY (g:Sg F x first ks) (hR:Rd F x first ks σ) (hZ:ZK x first ks σ y) (h0:y 0=0) {k:Nat} {f:T4} (hf:x.Fields[k]? = some f):Ye (Wn first σ y k f)=y (first+k+1)∧(Wn first σ y k f).Kind=f.Sort'.Kind∧Xv f.Sort' (Wn first σ y k f)=true:=by
 have hs:=g.sx hf
 have hk:=(List.getElem?_eq_some_iff.1 hf).1
 have hle:=g.hle
 obtain ⟨l1,l2⟩:=Zn0 g hZ h0 hf
 have hgood:=fun i t h=>ZeD (P:=fun t=>(bs t).any Yw=false∧t.size≤1000) (Zkr g) _ hR.e (fun i t h=>by cases h) i t h
 rcases hs with ⟨k1,hs⟩ | ⟨k2,hs⟩
 ·have e:Wn first σ y k f=⟨1,y (first+k+1),str []⟩:=by
   unfold Wn
   have:(f.Sort'.Kind==1)=true:=by simp [k1]
   rw [this,k1];rfl
  rw [e]
  refine ⟨rfl,k1.symm,?_⟩
  unfold Xv
  have n:Ye ⟨1,y (first+k+1),str []⟩=y (first+k+1):=rfl
  rw [n,k1,dT l1,dT l2]
  simp
 ·have e1:(f.Sort'.Kind==1)=false:=by simp [k2]
  cases hσ:σ k with
  | some t =>
   have e:Wn first σ y k f=⟨2,0,t⟩:=by unfold Wn;rw [e1,hσ,k2];rfl
   obtain ⟨g1,g2⟩:=hgood k t hσ
   have hy:=ZhW hZ h0 (z:=first+k) (by omega) (c:=(t.size:Int)) (by unfold Vy;rw [if_pos (by omega),show first+k-first=k by omega,hσ];rfl) (by omega)
   have n:Ye ⟨2,0,t⟩=y (first+k+1):=by rw [hy];rfl
   rw [e]
   refine ⟨n,k2.symm,?_⟩
   unfold Xv
   rw [n,k2,dT l1,dT l2]
   simp [g1]
  | none =>
   have e:Wn first σ y k f=⟨2,0,UI (y (first+k+1))⟩:=by unfold Wn;rw [e1,hσ,k2];rfl
   have n:Ye ⟨2,0,UI (y (first+k+1))⟩=y (first+k+1):=Zt4 (by omega)
   rw [e]
   refine ⟨n,k2.symm,?_⟩
   unfold Xv
   rw [n,k2,dT l1,dT l2]
   have:=ZoN (y (first+k+1))
   simp [this]
theorem ZbV (g:Sg F x first ks) {k:Nat} {f:T4} (hf:x.Fields[k]? = some f):(X6 first σ y 0 x.Fields)[k]? = some (Wn first σ y k f):=by
 have:=ZjJ first σ y 0 x.Fields k f hf
 rw [Nat.zero_add] at this;exact this
theorem Zr1 (g:Sg F x first ks) (hR:Rd F x first ks σ) (hZ:ZK x first ks σ y) (h0:y 0=0):XP x.Fields (X6 first σ y 0 x.Fields)=true:=by
 have hl:=He first σ y 0 x.Fields
 unfold XP
 rw [dT hl.symm,Bool.true_and,Xc]
 intro i v hv
 have hi:i < x.Fields.length:=by rw [← hl];exact (List.getElem?_eq_some_iff.1 hv).1
 have hf:=Za hi
 rw [ZbV g hf] at hv
 cases hv
 unfold XD
 rw [Nat.zero_add,hf]
 exact (ZdY g hR hZ h0 hf).2.2
theorem Zft (g:Sg F x first ks) (hR:Rd F x first ks σ) (hZ:ZK x first ks σ y) (h0:y 0=0) {z:Nat} (hz:z < ks.length) (hm:XE first x.Fields.length ks (z:Int)=false):∃ v,(Yj first (X6 first σ y 0 x.Fields) ks)[z]? = some v∧(v.Kind==0)=false∧Ye v=y (z+1):=by
 have hl:=He first σ y 0 x.Fields
 by_cases co:first≤z∧z < first+x.Fields.length
 ·have hk:z-first < x.Fields.length:=by omega
  have hf:=Za hk
  obtain ⟨n1,n2,_⟩:=ZdY g hR hZ h0 hf
  have hat:=PA g hl hk
  rw [show first+(z-first)=z by omega,ZbV g hf] at hat
  rw [show first+(z-first)+1=z+1 by omega] at n1
  have hs:=g.sx hf
  refine ⟨_,hat,?_,n1⟩
  rw [n2]
  unfold Xm at hs
  rcases hs with ⟨k,_⟩ | ⟨k,_⟩<;>rw [k]<;>rfl
 ·have hv:=Za hz
  generalize ks[z]=v at hv
  unfold XE at hm
  rw [show ((z:Int)).toNat=z from rfl,dF co,dT (show 0≤(z:Int) by omega),hv] at hm
  have hm:(v.Kind==0)=false:=by simpa using hm
  have hsm:-1000≤Ye v∧Ye v≤1000:=by
   rcases g.fits z v hv with h1 | ⟨f,h1,h2⟩
   ·have:=(Zcy h1).2.1;omega
   ·have:=TZ (g.so f (Zb h1)) h2;omega
  refine ⟨v,(Py g hl co).trans hv,hm,(ZhW hZ h0 hz ?_ hsm).symm⟩
  unfold Vy
  rw [if_neg co,hv]
  have:¬ v.Kind=0:=by simpa using hm
  show (if v.Kind=0 then none else some (Ye v))=_
  rw [if_neg this]
theorem Zil (g:Sg F x first ks) (hR:Rd F x first ks σ) (hZ:ZK x first ks σ y) (h0:y 0=0) {z:Int} (hz0:-1≤z) (hz:z < (ks.length:Int)) (hm:XE first x.Fields.length ks z=false):UF (Yj first (X6 first σ y 0 x.Fields) ks) z=false∧XZ (Yj first (X6 first σ y 0 x.Fields) ks) z=y (z+1).toNat:=by
 by_cases c:z < 0
 ·have:z=-1:=by omega
  subst this
  exact ⟨rfl,h0.symm⟩
 ·obtain ⟨k,rfl⟩:=Ze (show 0≤z by omega)
  obtain ⟨v,h1,h2,h3⟩:=Zft g hR hZ h0 (show k < ks.length by omega) hm
  obtain ⟨a1,a2⟩:=ZeB h1
  exact ⟨a1.trans h2,a2.trans h3⟩
theorem Zm3 (g:Sg F x first ks) {k:Nat} {f:T4} (hf:x.Fields[k]? = some f) (ht:Y8 F ((first+k:Nat):Int)=true):(Wn first σ y k f).S=match σ k with | some t=>t | none=>UI (y (first+k+1)):=by
 have k2:=Zkk g hf ht
 have e1:(f.Sort'.Kind==1)=false:=by simp [k2]
 unfold Wn
 rw [e1]
 cases σ k<;>rfl
theorem Zpq (g:Sg F x first ks) (hdx:∀ b∈x.Guard.Diffs,-1≤b.X∧-1≤b.Y) (hR:Rd F x first ks σ) (hZ:ZK x first ks σ y) (h0:y 0=0) {V:List Zk} (hV:OkV x first ks V):W8 x.Guard (Yj first (X6 first σ y 0 x.Fields) ks)=true:=by
 have hl:=He first σ y 0 x.Fields
 have hbnd:∀ a,a < ks.length+1→-10000≤y a∧y a≤10000:=fun a ha=>by
  have h1:=hZ.f a 0 ha (by omega)
  have h2:=hZ.f 0 a (by omega) ha
  rw [h0] at h1 h2
  by_cases c:a=0
  ·subst c;omega
  ·have f1:YP a 0=10000:=by unfold YP;rw [if_neg c,if_neg c,if_pos rfl]
   have f2:YP 0 a=10000:=by unfold YP;rw [if_neg (Ne.symm c),if_pos rfl]
   omega
 unfold W8
 rw [Zc,Xc,Xc]
 refine ⟨fun i b hi=>?_,fun i e hi=>?_⟩
 ·have hb:=Zb hi
  obtain ⟨b1,b2⟩:=hdx b hb
  obtain ⟨c1,c2⟩:=g.hin.d b hb
  have hall:b∈XX first x:=List.mem_append.2 (.inl (List.mem_append.2 (.inr hb)))
  obtain ⟨m1,m2⟩:=ZdS g hV hall
  obtain ⟨u1,n1⟩:=Zil g hR hZ h0 b1 c1 m1
  obtain ⟨u2,n2⟩:=Zil g hR hZ h0 b2 c2 m2
  have hz:=hZ.b b hall
  have hm:=Wg b.C (-20001)
  have hc:=g.dc b hb
  have q1:=hbnd (b.X+1).toNat (by omega)
  have q2:=hbnd (b.Y+1).toNat (by omega)
  unfold Vz
  rw [u1,u2,n1,n2,Ym (by omega) (by omega),dF (by omega)];rfl
 ·have he:=Zb hi
  obtain ⟨⟨a0,a1⟩,b0,b1⟩:=g.hin.e e he
  obtain ⟨t1,t2⟩:=g.tv e he
  obtain ⟨p1,p2⟩:=ZgY he
  obtain ⟨q1,q2⟩:=Zrt he
  have r1:(⟨e.1,e.2,0⟩:T1)∈XX first x:=List.mem_append.2 (.inr q1)
  have r2:(⟨e.2,e.1,0⟩:T1)∈XX first x:=List.mem_append.2 (.inr q2)
  obtain ⟨m1,m2⟩:=ZdS g hV r1
  have m1:XE first x.Fields.length ks e.1=false:=m1
  have m2:XE first x.Fields.length ks e.2=false:=m2
  have z1:y ((e.1+1).toNat)-y ((e.2+1).toNat)≤ZX 0 (-20001):=hZ.b _ r1
  have z2:y ((e.2+1).toNat)-y ((e.1+1).toNat)≤ZX 0 (-20001):=hZ.b _ r2
  obtain ⟨a,ea⟩:=Ze a0
  obtain ⟨c,ec⟩:=Ze b0
  obtain ⟨v,v1,v2,v3⟩:=Zft g hR hZ h0 (show a < ks.length by omega) (by rw [← ea];exact m1)
  obtain ⟨w,w1,w2,w3⟩:=Zft g hR hZ h0 (show c < ks.length by omega) (by rw [← ec];exact m2)
  rw [ea,ec] at z1 z2 p1 p2
  have hm0:ZX 0 (-20001)=0:=rfl
  rw [hm0] at z1 z2
  rw [show (((a:Nat):Int)+1).toNat=a+1 by omega,show (((c:Nat):Int)+1).toNat=c+1 by omega] at z1 z2
  have hS:v.S=w.S:=by
   -- the text of a field, and of another variable
   have own:∀ (z:Nat) (v:Zk),first≤z∧z < first+x.Fields.length→(Yj first (X6 first σ y 0 x.Fields) ks)[z]? = some v→Y8 F (z:Int)=true→v.S=match σ (z-first) with | some t=>t | none=>UI (y (z+1)):=fun z v co hv ht=>by
    have hk:z-first < x.Fields.length:=by omega
    have hf:=Za hk
    have hat:=PA g hl hk
    rw [show first+(z-first)=z by omega,ZbV g hf,hv] at hat
    have hat:=Option.some.inj hat
    have:=Zm3 (σ:=σ) (y:=y) g hf (by rw [show first+(z-first)=z by omega];exact ht)
    rw [show first+(z-first)+1=z+1 by omega] at this
    rw [hat];exact this
   have other:∀ (z:Nat) (v:Zk),¬ (first≤z∧z < first+x.Fields.length)→(Yj first (X6 first σ y 0 x.Fields) ks)[z]? = some v→ks[z]? = some v∧XM first x.Fields.length ks σ z=some v.S:=fun z v co hv=>by
    rw [Py g hl co] at hv
    refine ⟨hv,?_⟩
    unfold XM;rw [if_neg co,hv];rfl
   have src_own:∀ z:Nat,first≤z∧z < first+x.Fields.length→XM first x.Fields.length ks σ z=σ (z-first):=fun z co=>by unfold XM;rw [if_pos co]
   have cl1:=hR.cl _ p1
   have cl2:=hR.cl _ p2
   simp only [show ((a:Nat):Int).toNat=a from rfl,show ((c:Nat):Int).toNat=c from rfl] at cl1 cl2
   by_cases co1:first≤a∧a < first+x.Fields.length
   ·have o1:=own a v co1 v1 (by rw [← ea];exact t1)
    by_cases co2:first≤c∧c < first+x.Fields.length
    ·have o2:=own c w co2 w1 (by rw [← ec];exact t2)
     rw [o1,o2]
     cases h1:σ (a-first) with
     | some t =>
      rw [cl2 co2 t (by rw [src_own a co1,h1])]
     | none =>
      cases h2:σ (c-first) with
      | some t =>
       have:=cl1 co1 t (by rw [src_own c co2,h2])
       rw [h1] at this;cases this
      | none=>rw [show y (a+1)=y (c+1) by omega]
    ·obtain ⟨_,o2⟩:=other c w co2 w1
     rw [o1,cl1 co1 _ o2]
   ·obtain ⟨k1,o1⟩:=other a v co1 v1
    by_cases co2:first≤c∧c < first+x.Fields.length
    ·have o2:=own c w co2 w1 (by rw [← ec];exact t2)
     rw [o2,cl2 co2 _ o1]
    ·obtain ⟨k2,_⟩:=other c w co2 w1
     obtain ⟨a',c',v',w',e1,e2,hv,hw,_,_,hs⟩:=ZaO (hV.eqs he)
     have:a'=a:=by omega
     subst this
     have:c'=c:=by omega
     subst this
     rw [Py g hV.len co1,k1] at hv
     rw [Py g hV.len co2,k2] at hw
     cases hv;cases hw
     exact hs
  unfold Uz
  rw [ea,ec,Zs,Zs,v1,w1]
  show (!(v.Kind==0) && (!(w.Kind==0) && (v.S.toList==w.S.toList)))=true
  rw [v2,w2,hS]
  simp
end
theorem Zto (hN:4194304 < N) (d:List T0) (label:Int) (g:Sg F x first ks) (hex:Tu N d label=some true) (hkn:So N d ks=some true) (hidx:Zm d label=some x) (hdx:∀ b∈x.Guard.Diffs,-1≤b.X∧-1≤b.Y) :
  (VM N d label ks=some ([],false)∧∀ V,¬ OkV x first ks V) ∨
  ∃ R,VM N d label ks=some (R,true)∧OkV x first ks R∧∀ V,OkV x first ks V→∀ (k:Nat) v r,V[k]? = some v→R[k]? = some r→Ye r≤Ye v∧(Ye v=Ye r→v=r∨(v.Kind=2∧r=⟨2,0,UI (Ye r)⟩)):=by
 rcases Zql hN d label g hex hkn hidx hdx (fun v hv=>(Zkr g v hv).2) with ⟨e,b,hb,hm⟩ | ⟨hmis,⟨e,hno⟩ | ⟨σ,hσ,⟨e,hno⟩ | ⟨y,h0,hZ,hleast,e⟩⟩⟩
 ·refine .inl ⟨e,fun V hV=>?_⟩
  obtain ⟨m1,m2⟩:=ZdS g hV hb
  rw [m1,m2] at hm;cases hm
 ·refine .inl ⟨e,fun V hV=>?_⟩
  obtain ⟨σ,hR,_⟩:=Zdo g hdx hV
  rw [hR.e] at hno;cases hno
 ·refine .inl ⟨e,fun V hV=>?_⟩
  obtain ⟨σ',hR,_,hz⟩:=Zdo g hdx hV
  rw [hR.e] at hσ
  cases hσ
  exact hno _ hz
 ·have hR:=ZgG g hσ
  have hl:=He first σ y 0 x.Fields
  by_cases hk:W8 x.Guard (Yj first (X6 first σ y 0 x.Fields) ks)=true
  ·rw [hk] at e
   refine .inr ⟨_,e,⟨Zr1 g hR hZ h0,hk⟩,fun V hV k v r hv hr=>?_⟩
   obtain ⟨σ',hR',hA,hz⟩:=Zdo g hdx hV
   have:=hR'.e
   rw [hσ] at this
   cases this
   have hkx:k < x.Fields.length:=by rw [← hV.len];exact (List.getElem?_eq_some_iff.1 hv).1
   have hf:=Za hkx
   rw [ZbV g hf] at hr
   cases hr
   obtain ⟨n1,n2,n3⟩:=ZdY g hR hZ h0 hf
   have hle:=g.hle
   have hu:uW (Yj first V ks) (first+k+1)=Ye v:=Q0 ((PA g hV.len hkx).trans hv)
   refine ⟨?_,fun hn=>?_⟩
   ·rw [n1,← hu]
    exact hleast _ hz rfl (first+k+1) (by omega)
   ·have hfv:=Zdt hV.fit hf hv
    have hs:=g.sx hf
    generalize hff:x.Fields[k]=f at *
    have hkv:=(TZ hs hfv).1
    unfold Xv at hfv
    simp only [Zc] at hfv
    have hfv:=hfv.2.2.2
    rcases hs with ⟨k1,_⟩ | ⟨k2,_⟩
    ·left
     have er:Wn first σ y k f=⟨1,y (first+k+1),str []⟩:=by
      unfold Wn
      have:(f.Sort'.Kind==1)=true:=by simp [k1]
      rw [this,k1];rfl
     rw [er]
     obtain ⟨kd,nn,ss⟩:=v
     have kd1:kd=1:=hkv.trans k1
     subst kd1
     have hs0:ss=str []:=ZbZ hfv
     subst hs0
     rw [n1] at hn
     have hn:nn=y (first+k+1):=hn
     rw [hn]
    ·have e1:(f.Sort'.Kind==1)=false:=by simp [k2]
     obtain ⟨kd,nn,ss⟩:=v
     have kd2:kd=2:=hkv.trans k2
     subst kd2
     have hb:((2:Int)==1)=false:=rfl
     rw [hb] at hfv
     simp only [cond_false,Zc,beq_iff_eq] at hfv
     have hn0:nn=0:=hfv.1
     subst hn0
     cases hσk:σ k with
     | some t =>
      left
      have er:Wn first σ y k f=⟨2,0,t⟩:=by unfold Wn;rw [e1,hσk,k2];rfl
      rw [er]
      have ha:=hA k t hkx hσk
      unfold wT at ha
      rw [PA g hV.len hkx,hv] at ha
      have:ss=t:=Option.some.inj ha
      rw [this]
     | none =>
      right
      have er:Wn first σ y k f=⟨2,0,UI (y (first+k+1))⟩:=by unfold Wn;rw [e1,hσk,k2];rfl
      refine ⟨rfl,?_⟩
      rw [n1,er]
  ·refine .inl ⟨?_,fun V hV=>?_⟩
   ·rw [e]
    cases hc:W8 x.Guard (Yj first (X6 first σ y 0 x.Fields) ks) with
    | false=>rfl
    | true=>exact absurd hc hk
   ·obtain ⟨σ',hR',hA,hz⟩:=Zdo g hdx hV
    exact hk (Zpq g hdx hR hZ h0 hV)
end
section
variable {N:Nat}
theorem MP {α:Type} {xs:List α} {k:Nat} (h:k≤xs.length):lsl xs none (some (k:Int))=some (xs.take k):=by
 unfold lsl X4
 simp only [Option.getD_none,Option.getD_some]
 rw [dT (Int.le_refl 0),dT (show (0:Int)≤(k:Int) by omega),dT (show (k:Int)≤(xs.length:Int) by omega)]
 simp
theorem ZhT {s:ByteArray} {j:Int} (h0:0≤j) (h1:j≤(s.size:Int)):∃ t,ssl s none (some j)=some t∧t.size≤s.size:=by
 unfold ssl X4
 simp only [Option.getD_none,Option.getD_some]
 rw [dT (Int.le_refl 0),dT h0,dT h1]
 exact ⟨_,rfl,by rw [ByteArray.size_extract];omega⟩
theorem ZfL {x y:ByteArray} (h:x.size+y.size≤4611686018427387904):U7 x y=some (x++y):=by
 unfold U7
 rw [dF (by simp only [IntKind.max];simp [IntKind.bits,IntKind.signed];omega)]
 rfl
def WC (v:Zk):Prop:=v.S.size≤1000
structure W1 (p:Z6) (m:Yh):Prop where
 s:m.stack'.length≤16
 sv:∀ v∈m.stack',WC v
 v:m.vars'.length=p.Vars.length
 vv:∀ v∈m.vars',WC v
 pv:∀ v∈m.params',WC v
 l:m.loops'.length≤4
def TP (p:Z6) (o:Option Yh):Prop:=∃ m',o=some m'∧W1 p m'
variable {p:Z6} {m:Yh}
theorem Me {p:Z6} {m:Yh} (h:W1 p m) (t:Bool):W1 p ⟨m.stack',m.vars',m.params',m.loops',t⟩:=⟨h.s,h.sv,h.v,h.vv,h.pv,h.l⟩
theorem LY (k n:Int):WC ⟨k,n,str []⟩:=by show (str []).size≤1000;decide
theorem BD (h:W1 p m) {v:Zk} (hv:WC v):TP p (SQ N m v):=by
 unfold SQ
 have hs:=h.s
 cases c:((m.stack'.length:Int)==(16:Int)) with
 | true=>exact ⟨_,rfl,Me h _⟩
 | false =>
  have hne:m.stack'.length≠16:=by
   intro e
   rw [e] at c
   exact absurd c (by decide)
  rw [cond_false,Yl (by simp;omega)]
  refine ⟨_,rfl,⟨?_,fun w hw=>?_,h.v,h.vv,h.pv,h.l⟩⟩
  ·simp;omega
  ·rcases List.mem_append.1 hw with hw | hw
   ·exact h.sv w hw
   ·obtain rfl:=List.mem_singleton.1 hw
    exact hv
theorem TA (h:W1 p m) (n:Int):TP p (Vk N m n):=by
 unfold Vk Qd
 obtain ⟨m',e,h'⟩:=BD (N:=N) h (LY 1 (ZX (-1000000) (Z1 n 1000000)))
 simp only [bS]
 rw [e]
 exact ⟨m',rfl,h'⟩
theorem Pq (h:W1 p m) (b:Bool):TP p (U4 N m b):=by
 unfold U4
 obtain ⟨m1,e1,h1⟩:=TA (N:=N) h 1
 obtain ⟨m0,e0,h0⟩:=TA (N:=N) h 0
 cases b with
 | true=>exact ⟨m1,by rw [cT,e1];rfl,h1⟩
 | false=>exact ⟨m0,by rw [cond_false,e0];rfl,h0⟩
theorem UZ (h:W1 p m) (k:Int):∃ v m',Vn N m k=some (v,m')∧WC v∧W1 p m':=by
 have bad:∃ v m',Se m k true=some (v,m')∧WC v∧W1 p m':=⟨_,_,rfl,LY _ _,Me h _⟩
 have hs:=h.s
 unfold Vn
 cases m.trap' with
 | true=>exact bad
 | false =>
 cases c:((m.stack'.length:Int)==(0:Int)) with
 | true=>exact bad
 | false =>
  have hl:0 < m.stack'.length:=by
   rcases Nat.eq_zero_or_pos m.stack'.length with e | e
   ·rw [e] at c
    exact absurd c (by decide)
   ·exact e
  have ew:Zi ((m.stack'.length:Int)-1)=((m.stack'.length-1:Nat):Int):=by rw [Ym (by omega) (by omega)];omega
  have hx:=Za (show m.stack'.length-1 < m.stack'.length by omega)
  have good:∀ b,∃ v m',Se m k b=some (v,m')∧WC v∧W1 p m':=fun b=>by
   cases b with
   | true=>exact bad
   | false =>
    unfold Se
    rw [cond_false,ew,Zs,hx,bS,MP (by omega),bS]
    exact ⟨_,_,rfl,h.sv _ (List.getElem_mem _),⟨by rw [List.length_take];omega,fun v hv=>h.sv v (List.mem_of_mem_take hv),h.v,h.vv,h.pv,h.l⟩⟩
  simp only [cond_false]
  cases (k != 0) with
  | true=>rw [cT,ew,Zs,hx,bS];exact good _
  | false=>rw [cond_false];exact good _
theorem TF {b:Bool} {x y:Option Yh} (h1:b=true→TP p x) (h2:b=false→TP p y):TP p (bif b then x else y):=by
 cases b with
 | true=>exact h1 rfl
 | false=>exact h2 rfl
theorem Tk {o:Option Yh} (h:TP p o):TP p (o.bind fun x=>some x):=by
 obtain ⟨m',e,h'⟩:=h
 exact ⟨m',by rw [e];rfl,h'⟩
theorem ZlJ (h:W1 p m) (op:Int):TP p (Dm N m op):=by
 unfold Dm
 obtain ⟨v1,m1,e1,_,h1⟩:=UZ (N:=N) h 1
 obtain ⟨v2,m2,e2,_,h2⟩:=UZ (N:=N) h1 1
 rw [e1,bS]
 dsimp only
 rw [e2,bS]
 dsimp only
 refine TF (fun _=>⟨_,rfl,h2⟩) fun _=>?_
 refine TF (fun _=>Tk (TA h2 _)) fun _=>TF (fun _=>Tk (TA h2 _)) fun _=>TF (fun _=>Tk (TA h2 _)) fun _=>TF (fun _=>Tk (Pq h2 _)) fun _=>?_
 refine TF (fun _=>TF (fun _=>Tk (Pq h2 _)) fun _=>Tk (Pq h2 _)) fun _=>TF (fun _=>TF (fun _=>Tk (Pq h2 _)) fun _=>Tk (Pq h2 _)) fun _=>?_
 refine TF (fun _=>Tk (TA h2 _)) fun hz=>TF (fun _=>?_) fun _=>?_
 ·have:WL .quo .i64 v2.N v1.N=some (Zi (v2.N.tdiv v1.N)):=by
   show (bif v1.N==0 then none else some (IntKind.i64.wrap (v2.N.tdiv v1.N)))=_
   rw [hz];rfl
  rw [this,bS]
  exact Tk (TA h2 _)
 ·have:WL .rem .i64 v2.N v1.N=some (v2.N.tmod v1.N):=by
   show (bif v1.N==0 then none else some (v2.N.tmod v1.N))=_
   rw [hz];rfl
  rw [this,bS]
  exact Tk (TA h2 _)
theorem ZjG {n:Int}:∀ (r fuel k:Nat) (acc:ByteArray),(n-(k:Int)).toNat=r→r < fuel→k+r≤4194304→acc.size+r≤4194304→∃ s,Qw n fuel acc (k:Int)=some s∧s.size=acc.size+r
 | 0,fuel,k,acc,hr,hf,hk,ha=>by
  obtain ⟨f,rfl⟩:∃ z,fuel=z+1:=⟨fuel-1,by omega⟩
  rw [Qw,dF (show ¬ (k:Int) < n by omega)]
  exact ⟨acc,rfl,rfl⟩
 | r+1,fuel,k,acc,hr,hf,hk,ha=>by
  obtain ⟨f,rfl⟩:∃ z,fuel=z+1:=⟨fuel-1,by omega⟩
  have h1:(str [97]).size=1:=by decide
  obtain ⟨s,e,hs⟩:=ZjG (n:=n) r f (k+1) (acc++str [97]) (by omega) (by omega) (by omega) (by rw [ByteArray.size_append,h1];omega)
  rw [Qw,dT (show (k:Int) < n by omega),cT,ZfL (by rw [h1];omega),bS,ZA (by omega)]
  exact ⟨s,e,by rw [hs,ByteArray.size_append,h1];omega⟩
theorem Zpt {s:Yg} (h:TB s=true) (hk:s.Kind≠1):0≤s.Lo∧s.Lo≤s.Hi∧s.Hi≤40:=by
 unfold TB at h
 rw [show (s.Kind==1)=false by simpa using hk,cond_false] at h
 cases c:(s.Kind==2) with
 | false=>rw [c] at h;cases h
 | true =>
  rw [c] at h
  simpa using h
theorem Zqn (hN:4194304 < N) (s:Yg) {v:Zk} (hv:WC v):∃ w,B5 N s v=some w∧WC w:=by
 unfold WC at hv
 unfold B5
 cases c:(s.Kind==1) with
 | true=>exact ⟨_,rfl,LY _ _⟩
 | false =>
  have hc:s.Kind≠1:=by simpa using c
  rw [cond_false]
  unfold ZbI
  rw [Zjb,Zbl hN v (by omega)]
  simp only [bS]
  cases d:TB s with
  | false=>exact ⟨_,rfl,LY _ _⟩
  | true =>
  obtain ⟨l1,l2,l3⟩:=Zpt d hc
  cases Vr v with
  | false=>exact ⟨_,rfl,LY _ _⟩
  | true =>
  cases e:(s.Kind != v.Kind) with
  | true=>exact ⟨_,rfl,LY _ _⟩
  | false =>
  have he:s.Kind=v.Kind:=by simpa using e
  rw [show (v.Kind==1)=false by rw [← he];exact c]
  simp only [Zh,cond_false]
  cases f:decide ((v.S.size:Int) > s.Hi) with
  | true =>
   have hf:(v.S.size:Int) > s.Hi:=by simpa using f
   obtain ⟨t,e1,e2⟩:=ZhT (s:=v.S) (j:=s.Hi) (by omega) (by omega)
   rw [cT,e1]
   exact ⟨_,rfl,by show t.size≤1000;omega⟩
  | false =>
   have hf:¬ (v.S.size:Int) > s.Hi:=by simpa using f
   rw [cond_false]
   unfold ZaG
   rw [Ym (by omega) (by omega)]
   have h0:(str []).size=0:=by decide
   obtain ⟨t,e1,e2⟩:=ZjG (n:=s.Lo-(v.S.size:Int)) _ N 0 (str []) rfl (by omega) (by omega) (by rw [h0];omega)
   rw [show ((0:Nat):Int)=0 from rfl] at e1 e2
   rw [e1,bS,ZfL (by rw [e2,h0];omega)]
   exact ⟨_,rfl,by show (v.S++t).size≤1000;rw [ByteArray.size_append,e2,h0];omega⟩
structure Zfb (p:Z6) (x:Wy):Prop where
 op:1≤x.Op∧x.Op≤24
 v:x.Op=3∨x.Op=5→0≤x.N∧x.N < (p.Vars.length:Int)
 pr:x.Op=4→0≤x.N
 j:x.Op=19∨x.Op=20∨x.Op=22→0≤x.N∧x.N < (p.Code.length:Int)
 s:x.S.size≤1000
structure PV (p:Z6):Prop where
 c:p.Code.length≤1000
 i:∀ x∈p.Code,Zfb p x
def L1 (p:Z6) (o:Option (Int × Yh)):Prop:=∃ (a:Nat) (m':Yh),o=some ((a:Int),m')∧a≤p.Code.length∧W1 p m'
theorem Xo {b:Bool} {x y:Option (Int × Yh)} (h1:b=true→L1 p x) (h2:b=false→L1 p y):L1 p (bif b then x else y):=by
 cases b with
 | true=>exact h1 rfl
 | false=>exact h2 rfl
theorem TV {o:Option Yh} {k:Nat} (hk:k < p.Code.length) (h:TP p o):L1 p (o.bind fun y=>some (((k+1:Nat):Int),y)):=by
 obtain ⟨m',e,h'⟩:=h
 exact ⟨k+1,m',by rw [e];rfl,hk,h'⟩
theorem Zhm (hp:PV p) (h:W1 p m) {k:Nat} {x:Wy} (hx:p.Code[k]? = some x) (b:Bool) (hb:b=true→x.Op=22∨x.Op=23):L1 p (P6 N m (k:Int) x b):=by
 have hk:=(List.getElem?_eq_some_iff.1 hx).1
 have hc:=hp.c
 have hi:=hp.i x (Zb hx)
 have hl:=h.l
 unfold P6
 rw [ZA (by omega)]
 refine Xo (fun eb=>?_) fun _=>TV hk (ZlJ h _)
 refine Xo (fun _=>⟨k,_,rfl,by omega,Me h _⟩) fun c=>?_
 have hl0:0 < m.loops'.length:=by
  rcases Nat.eq_zero_or_pos m.loops'.length with e | e
  ·rw [e] at c
   exact absurd c (by decide)
  ·exact e
 have ew:Zi ((m.loops'.length:Int)-1)=((m.loops'.length-1:Nat):Int):=by rw [Ym (by omega) (by omega)];omega
 rw [ew]
 refine Xo (fun _=>?_) fun c2=>?_
 ·rw [MP (by omega),bS]
  exact ⟨k+1,_,rfl,by omega,⟨h.s,h.sv,h.v,h.vv,h.pv,by show (m.loops'.take _).length≤4;rw [List.length_take];omega⟩⟩
 ·have hq:=Za (show m.loops'.length-1 < m.loops'.length by omega)
  rw [Zs,hq,bS,bS,WH,Zs,List.getElem?_set_self (by omega),bS]
  have h22:x.Op=22:=by
   rcases hb eb with h | h
   ·exact h
   ·rw [h] at c2
    exact absurd c2 (by decide)
  have hj:=hi.j (.inr (.inr h22))
  obtain ⟨q,hq'⟩:=Ze hj.1
  have ok:∀ z,W1 p ⟨m.stack',m.vars',m.params',m.loops'.set (m.loops'.length-1) z,m.trap'⟩:=fun z=>⟨h.s,h.sv,h.v,h.vv,h.pv,by show (m.loops'.set _ z).length≤4;rw [List.length_set];omega⟩
  refine Xo (fun _=>⟨q,_,by rw [hq'],by omega,ok _⟩) fun _=>⟨k+1,_,rfl,by omega,ok _⟩
theorem Zos (a b:Int):Z1 a b≤a∧Z1 a b≤b∧(0≤a→0≤b→0≤Z1 a b):=by
 refine ⟨?_,?_,fun _ _=>?_⟩<;>(unfold Z1;split<;>omega)
theorem Znu (hN:4194304 < N) (hp:PV p) (h:W1 p m) {k:Nat} (hk:k < p.Code.length):L1 p (DB N m p (k:Int)):=by
 have hc:=hp.c
 have hx:=Za hk
 have hi:=hp.i _ (List.getElem_mem hk)
 generalize p.Code[k]=x at hx hi
 unfold DB
 rw [Zs,hx,bS,ZA (by omega)]
 refine Xo (fun _=>TV hk (TA h _)) fun _=>?_
 refine Xo (fun _=>TV hk (BD h (v:=⟨2,0,x.S⟩) hi.s)) fun _=>?_
 refine Xo (fun c=>?_) fun _=>?_
 ·have hv:=hi.v (.inl (by simpa using c))
  obtain ⟨q,hq⟩:=Ze hv.1
  have hl:q < m.vars'.length:=by rw [h.v];omega
  rw [hq,Zs,Za hl,bS]
  exact TV hk (BD h (h.vv _ (List.getElem_mem hl)))
 refine Xo (fun c=>?_) fun _=>?_
 ·have hv:=hi.pr (by simpa using c)
  obtain ⟨q,hq⟩:=Ze hv
  refine Xo (fun _=>⟨k,_,rfl,by omega,Me h _⟩) fun d=>?_
  have hl:q < m.params'.length:=by simp at d;omega
  rw [hq,Zs,Za hl,bS]
  exact TV hk (BD h (h.pv _ (List.getElem_mem hl)))
 refine Xo (fun c=>?_) fun _=>?_
 ·have hv:=hi.v (.inr (by simpa using c))
  obtain ⟨q,hq⟩:=Ze hv.1
  have hl:q < p.Vars.length:=by omega
  rw [hq,Zs,Za hl,bS]
  obtain ⟨v1,m1,e1,z1,h1⟩:=UZ (N:=N) h (p.Vars[q]).Sort'.Kind
  rw [e1,bS]
  dsimp only
  refine Xo (fun _=>?_) fun _=>⟨k+1,_,rfl,by omega,h1⟩
  obtain ⟨w,e2,hw⟩:=Zqn hN (p.Vars[q]).Sort' z1
  have hl1:q < m1.vars'.length:=by rw [h1.v];omega
  rw [e2,bS,Zs,Za hl1,bS,WH]
  refine ⟨k+1,_,rfl,by omega,⟨h1.s,h1.sv,by show (m1.vars'.set q w).length=_;rw [List.length_set];exact h1.v,fun v hv=>?_,h1.pv,h1.l⟩⟩
  rcases List.mem_or_eq_of_mem_set hv with hv | rfl
  ·exact h1.vv v hv
  ·exact hw
 refine Xo (fun _=>?_) fun _=>?_
 ·obtain ⟨v1,m1,e1,z1,h1⟩:=UZ (N:=N) h 1
  rw [e1,bS]
  dsimp only
  exact Xo (fun _=>TV hk (TA h1 _)) fun _=>⟨k+1,_,rfl,by omega,h1⟩
 refine Xo (fun _=>?_) fun _=>?_
 ·obtain ⟨v1,m1,e1,z1,h1⟩:=UZ (N:=N) h 1
  rw [e1,bS]
  dsimp only
  exact Xo (fun _=>TV hk (Pq h1 _)) fun _=>⟨k+1,_,rfl,by omega,h1⟩
 refine Xo (fun _=>?_) fun _=>?_
 ·obtain ⟨v1,m1,e1,z1,h1⟩:=UZ (N:=N) h 0
  rw [e1,bS]
  dsimp only
  obtain ⟨v2,m2,e2,z2,h2⟩:=UZ (N:=N) h1 v1.Kind
  rw [e2,bS]
  dsimp only
  exact Xo (fun _=>TV hk (Pq h2 _)) fun _=>⟨k+1,_,rfl,by omega,h2⟩
 refine Xo (fun _=>?_) fun _=>?_
 ·obtain ⟨v1,m1,e1,z1,h1⟩:=UZ (N:=N) h 2
  rw [e1,bS]
  dsimp only
  obtain ⟨v2,m2,e2,z2,h2⟩:=UZ (N:=N) h1 2
  rw [e2,bS]
  dsimp only
  unfold WC at z1 z2
  rw [ZfL (by omega),bS]
  refine Xo (fun _=>?_) fun _=>⟨k+1,_,rfl,by omega,h2⟩
  have hm:=Zos (((v2.S++v1.S).size:Nat):Int) 40
  have hs:(v2.S++v1.S).size=v2.S.size+v1.S.size:=ByteArray.size_append
  obtain ⟨t,e3,_⟩:=ZhT (s:=v2.S++v1.S) (j:=Z1 (((v2.S++v1.S).size:Nat):Int) 40) (hm.2.2 (by omega) (by omega)) hm.1
  rw [e3,bS]
  refine TV hk (BD h2 (v:=⟨2,0,t⟩) ?_)
  show t.size≤1000
  unfold ssl X4 at e3
  simp only [Option.getD_none,Option.getD_some] at e3
  rw [dT (Int.le_refl 0),dT (hm.2.2 (by omega) (by omega)),dT hm.1] at e3
  simp only [Bool.and_self,cT,Option.map_some,Option.some.injEq] at e3
  rw [← e3,ByteArray.size_extract]
  have:=hm.2.1
  omega
 refine Xo (fun _=>?_) fun _=>?_
 ·obtain ⟨v1,m1,e1,z1,h1⟩:=UZ (N:=N) h 2
  rw [e1,bS]
  dsimp only
  exact Xo (fun _=>TV hk (TA h1 _)) fun _=>⟨k+1,_,rfl,by omega,h1⟩
 refine Xo (fun c=>?_) fun _=>?_
 ·have hv:=hi.j (.inl (by simpa using c))
  obtain ⟨q,hq⟩:=Ze hv.1
  exact ⟨q,_,by rw [hq],by omega,h⟩
 refine Xo (fun c=>?_) fun _=>?_
 ·have hv:=hi.j (.inr (.inl (by simpa using c)))
  obtain ⟨q,hq⟩:=Ze hv.1
  obtain ⟨v1,m1,e1,z1,h1⟩:=UZ (N:=N) h 1
  rw [e1,bS]
  dsimp only
  exact Xo (fun _=>Xo (fun _=>⟨q,_,by rw [hq],by omega,h1⟩) fun _=>⟨k+1,_,rfl,by omega,h1⟩) fun _=>⟨k+1,_,rfl,by omega,h1⟩
 refine Xo (fun _=>?_) fun _=>?_
 ·refine Xo (fun _=>⟨k,_,rfl,by omega,Me h _⟩) fun d=>?_
  have hl:=h.l
  have hne:m.loops'.length≠4:=by
   intro e
   rw [e] at d
   exact absurd d (by decide)
  rw [Yl (by simp;omega),bS]
  exact ⟨k+1,_,rfl,by omega,⟨h.s,h.sv,h.v,h.vv,h.pv,by show (m.loops'++[x.N]).length≤4;simp;omega⟩⟩
 exact Xo (fun c=>Zhm hp h hx _ fun _=>.inl (by simpa using c)) fun _=>Zhm hp h hx _ fun c=>.inr (by simpa using c)
end
section
variable {N:Nat} {p:Z6}
theorem Pv {F:Nat→Int→Option Bool} {len:Nat} {e:Option Bool} (P:Nat→Prop) (h1:∀ n k,k < len→F (n+1) (k:Int)=some false∨(F (n+1) (k:Int)=F n ((k+1:Nat):Int)∧P k))
  (h2:∀ n k,len≤k→F (n+1) (k:Int)=e):∀ (d n k:Nat),len-k=d→d < n→F n (k:Int)=some false∨(F n (k:Int)=e∧∀ j,k≤j→j < len→P j):=by
 intro d
 induction d with
 | zero =>
  intro n k hd hn
  obtain ⟨n,rfl⟩:=pS n (by omega)
  exact .inr ⟨h2 n k (by omega),fun j h1 h2=>by omega⟩
 | succ d ih =>
  intro n k hd hn
  obtain ⟨n,rfl⟩:=pS n (by omega)
  rcases h1 n k (by omega) with e1 | ⟨e1,e2⟩
  ·exact .inl e1
  ·rw [e1]
   rcases ih n (k+1) (by omega) (by omega) with a | ⟨a,b⟩
   ·exact .inl a
   ·refine .inr ⟨a,fun j c1 c2=>?_⟩
    by_cases h:j=k
    ·subst h;exact e2
    ·exact b j (by omega) c2
theorem Zfz {v:Zk} (h:Vr v=true):v.S.size≤40:=by
 unfold Vr at h
 cases c:(v.Kind==1) with
 | true =>
  rw [c] at h
  simp only [cT,Zc] at h
  have h:=beq_iff_eq.1 h.2.2
  rw [XS,XS,M8] at h
  rw [YU,h]
  exact Nat.zero_le _
 | false =>
  rw [c,cond_false] at h
  cases d:(v.Kind==2) with
  | false=>rw [d] at h;cases h
  | true =>
   rw [d] at h
   simp only [cT,Zc,decide_eq_true_eq] at h
   have:=h.2.1
   omega
theorem Zk9 {s:Yg} {v:Zk} (h:Wv s v=true):v.S.size≤40:=by
 unfold Wv at h
 simp only [Zc] at h
 exact Zfz h.2.1
structure UG (p:Z6):Prop where
 n:p.Name.size≤4194304
 v:p.Vars.length≤4194304
 vn:∀ x∈p.Vars,x.Name.size≤4194304∧x.Init.S.size≤4194304
 c:p.Code.length≤4194304
 cs:∀ x∈p.Code,x.S.size≤4194304
 h:p.Handlers.length≤4194304
 o:p.Offers.length≤4194304
theorem Zlr (hN:4194304 < N) (l:List Tf) (hl:l.length≤4194304) (hn:∀ x∈l,x.Name.size≤4194304∧x.Init.S.size≤4194304):∃ b,D7 N l=some b:=by
 unfold D7
 refine UU (F:=V6 N l) (len:=l.length) (fun n k hk hi=>?_) (fun n k hk=>?_) _ N 0 rfl (by omega)
 ·obtain ⟨x,hx⟩:∃ x,l[k]? = some x:=⟨_,Za hk⟩
  have hm:=hn x (Zb hx)
  rw [V6,ZG hk,Zs,hx]
  simp only [cT,bS]
  rw [(Zfh hN x.Name hm.1).2]
  simp only [bS]
  refine YC (fun _=>Yt _) fun _=>?_
  rw [Zeu hN _ _ hm.2]
  simp only [bS]
  refine YC (fun _=>Yt _) fun _=>?_
  refine UU (F:=R4 l (k:Int) (V6 N l n)) (len:=k) (fun n' j hj hi'=>?_) (fun n' j hj=>?_) _ N 0 rfl (by omega)
  ·rw [R4,ZG hj,Zs,Za (show j < l.length by omega),Zs,hx,ZA (by omega)]
   simp only [cT,bS]
   exact YC (fun _=>Yt _) fun _=>hi'
  ·rw [R4,ZJ hj,cond_false]
   unfold H9
   rw [ZA (by omega)]
   exact hi
 ·rw [V6,ZJ hk]
  exact Yt _
theorem Zgd (a b c:Int):∃ r,HF N a b c=some r∧(r=true→0≤b):=by
 unfold HF
 cases h:decide (b≥0) with
 | true =>
  have h':0≤b:=by simpa using h
  cases decide (a≥0)<;>cases decide (a < 6)<;>cases (a != c)<;>exact ⟨_,rfl,fun _=>h'⟩
 | false=>cases decide (a≥0)<;>cases decide (a < 6)<;>cases (a != c)<;>exact ⟨_,rfl,fun h=>by cases h⟩
theorem Zr9 (op:Int):∃ lo hi:Int,Gf N op=some (lo,hi)∧(op≠1→0≤lo):=by
 unfold Gf LN
 cases c:(op==1) with
 | true=>exact ⟨_,_,rfl,fun h=>absurd (by simpa using c) h⟩
 | false =>
  cases (op==3)<;>cases (op==5)<;>cases (op==4)<;>cases (op==19)<;>cases (op==20)<;>cases (op==22)<;>cases (op==21)<;>exact ⟨_,_,rfl,fun _=>by decide⟩
theorem ZpF (hN:4194304 < N) (x:Wy) (hs:x.S.size≤4194304):∃ b,Gd N x=some b∧(b=true→(1≤x.Op∧x.Op≤24)∧(x.Op≠1→0≤x.N)∧x.S.size≤1000):=by
 unfold Gd
 cases c1:decide (x.Op < 1) with
 | true=>exact ⟨false,rfl,fun h=>by cases h⟩
 | false =>
 cases c2:decide (x.Op > 24) with
 | true=>exact ⟨false,rfl,fun h=>by cases h⟩
 | false =>
 obtain ⟨lo,hi,e,hlo⟩:=Zr9 (N:=N) x.Op
 simp only [cond_false]
 rw [e,bS]
 dsimp only
 cases c3:decide (x.N < lo) with
 | true=>exact ⟨false,rfl,fun h=>by cases h⟩
 | false =>
 cases c4:decide (x.N > hi) with
 | true=>exact ⟨false,rfl,fun h=>by cases h⟩
 | false =>
 simp only [decide_eq_false_iff_not] at c1 c2 c3 c4
 have h0:x.Op≠1→0≤x.N:=fun h=>by have:=hlo h;omega
 simp only [cond_false]
 cases c5:(x.Op==2) with
 | true =>
  refine ⟨Vr ⟨2,0,x.S⟩,?_,fun h=>⟨⟨by omega,by omega⟩,h0,?_⟩⟩
  ·show ((Rh N ⟨2,0,x.S⟩).bind fun y=>some y)=_
   rw [Zbl hN _ hs];rfl
  ·have:x.S.size≤40:=Zfz h
   omega
 | false =>
  refine ⟨_,rfl,fun h=>⟨⟨by omega,by omega⟩,h0,?_⟩⟩
  have h:=beq_iff_eq.1 h
  rw [XS,XS,M8] at h
  rw [YU,h]
  exact Nat.zero_le _
theorem Ziq (op:Int):L5 N op=some (op==19 || (op==20 || op==22)):=by
 unfold L5
 cases (op==19)<;>cases (op==20)<;>rfl
theorem Zso (hN:4194304 < N) (hp:UG p) (hc:p.Code.length≤1000):∃ b,Mf N p=some b∧(b=true→PV p):=by
 have ZR:=Pv (F:=VU N p) (len:=p.Code.length) (e:=some true) (fun j=>∀ x,p.Code[j]? = some x→Zfb p x) (fun n k hk=>?_) (fun n k hk=>by rw [VU,ZJ hk];rfl) _ N 0 rfl (by omega)
 ·unfold Mf
  rcases ZR with e | ⟨e,h⟩
  ·exact ⟨false,e,fun h=>by cases h⟩
  ·refine ⟨true,e,fun _=>⟨hc,fun x hx=>?_⟩⟩
   obtain ⟨j,hj⟩:=List.getElem?_of_mem hx
   exact h j (Nat.zero_le _) (List.getElem?_eq_some_iff.1 hj).1 x hj
 ·obtain ⟨x,hx⟩:∃ x,p.Code[k]? = some x:=⟨_,Za hk⟩
  obtain ⟨b,e,hb⟩:=ZpF hN x (hp.cs x (Zb hx))
  rw [VU,ZG hk,Zs,hx,ZA (by omega)]
  simp only [cT,bS]
  rw [e,Ziq]
  simp only [bS]
  cases b with
  | false=>exact .inl rfl
  | true =>
  obtain ⟨h1,h2,h3⟩:=hb rfl
  have fin:(x.Op=3∨x.Op=5→x.N < (p.Vars.length:Int))→((x.Op==19 || (x.Op==20 || x.Op==22))=true→x.N < (p.Code.length:Int))→∀ y,some x=some y→Zfb p y:=fun a b y hy=>by
   obtain rfl:x=y:=Option.some.inj hy
   refine ⟨h1,fun h=>⟨h2 (by omega),a h⟩,fun h=>h2 (by omega),fun h=>⟨h2 (by omega),b ?_⟩,h3⟩
   simp only [Bool.or_eq_true,beq_iff_eq]
   exact h
  simp only [Zh,cond_false]
  cases L:(x.Op==19 || (x.Op==20 || x.Op==22)) with
  | true =>
   cases c:decide (x.N≥(p.Code.length:Int)) with
   | true=>exact .inl rfl
   | false =>
   have hc':x.N < (p.Code.length:Int):=by simp at c;omega
   have hn3:¬ (x.Op=3∨x.Op=5):=by
    simp only [Bool.or_eq_true,beq_iff_eq] at L
    omega
   rw [show (x.Op==3)=false by simp;omega,show (x.Op==5)=false by simp;omega]
   exact .inr ⟨rfl,fin (fun h=>absurd h hn3) fun _=>hc'⟩
  | false =>
   rw [L] at fin
   cases c3:(x.Op==3) with
   | true =>
    cases c:decide (x.N≥(p.Vars.length:Int)) with
    | true=>exact .inl rfl
    | false=>exact .inr ⟨rfl,fin (fun _=>by simp at c;omega) fun h=>by cases h⟩
   | false =>
    cases c5:(x.Op==5) with
    | true =>
     cases c:decide (x.N≥(p.Vars.length:Int)) with
     | true=>exact .inl rfl
     | false=>exact .inr ⟨rfl,fin (fun _=>by simp at c;omega) fun h=>by cases h⟩
    | false =>
     refine .inr ⟨rfl,fin (fun h=>?_) fun h=>by cases h⟩
     simp only [beq_eq_false_iff_ne] at c3 c5
     rcases h with h | h
     ·exact absurd h c3
     ·exact absurd h c5
theorem Zp4 (hN:4194304 < N) (hp:UG p) (hc:p.Code.length≤1000):∃ b,PF N p=some b∧(b=true→PV p∧∀ o∈p.Offers,0≤o.Label):=by
 have ZR:=Pv (F:=Ql N p) (len:=p.Offers.length) (e:=Mf N p) (fun j=>∀ o,p.Offers[j]? = some o→0≤o.Label) (fun n k hk=>?_) (fun n k hk=>by rw [Ql,ZJ hk];rfl) _ N 0 rfl (by have:=hp.o;omega)
 ·unfold PF
  rcases ZR with e | ⟨e,ho⟩
  ·exact ⟨false,e,fun h=>by cases h⟩
  ·obtain ⟨b,e2,hb⟩:=Zso hN hp hc
   refine ⟨b,e.trans e2,fun h=>⟨hb h,fun o hm=>?_⟩⟩
   obtain ⟨j,hj⟩:=List.getElem?_of_mem hm
   exact ho j (Nat.zero_le _) (List.getElem?_eq_some_iff.1 hj).1 o hj
 ·have ho:=hp.o
  obtain ⟨x,hx⟩:∃ x,p.Offers[k]? = some x:=⟨_,Za hk⟩
  obtain ⟨b,e,hb⟩:=Zgd (N:=N) x.Peer x.Label p.Role
  have fin:b=true→∀ o,some x=some o→0≤o.Label:=fun h o hy=>by
   obtain rfl:x=o:=Option.some.inj hy
   exact hb h
  rw [Ql,ZG hk,Zs,hx,ZA (by omega)]
  simp only [cT,bS]
  rw [e]
  simp only [bS]
  cases b with
  | false=>exact .inl rfl
  | true =>
  simp only [Zh,cond_false]
  cases decide (x.When < -1) with
  | true=>exact .inl rfl
  | false =>
  cases decide (x.When≥(p.Code.length:Int)) with
  | true=>exact .inl rfl
  | false =>
  cases decide (x.Args < 0) with
  | true=>exact .inl rfl
  | false =>
  cases decide (x.Args≥(p.Code.length:Int)) with
  | true=>exact .inl rfl
  | false=>exact .inr ⟨rfl,fin rfl⟩
theorem Zsy (hN:4194304 < N) (hp:UG p) (hc:p.Code.length≤1000):∃ b,Vl N p N 0=some b∧(b=true→PV p∧(∀ o∈p.Offers,0≤o.Label)∧∀ o∈p.Handlers,0≤o.Label):=by
 have hh:=hp.h
 have ZR:=Pv (F:=Vl N p) (len:=p.Handlers.length) (e:=PF N p) (fun j=>∀ o,p.Handlers[j]? = some o→0≤o.Label) (fun n k hk=>?_) (fun n k hk=>by rw [Vl,ZJ hk];rfl) _ N 0 rfl (by omega)
 ·rcases ZR with e | ⟨e,ho⟩
  ·exact ⟨false,e,fun h=>by cases h⟩
  ·obtain ⟨b,e2,hb⟩:=Zp4 hN hp hc
   refine ⟨b,e.trans e2,fun h=>⟨(hb h).1,(hb h).2,fun o hm=>?_⟩⟩
   obtain ⟨j,hj⟩:=List.getElem?_of_mem hm
   exact ho j (Nat.zero_le _) (List.getElem?_eq_some_iff.1 hj).1 o hj
 ·obtain ⟨x,hx⟩:∃ x,p.Handlers[k]? = some x:=⟨_,Za hk⟩
  obtain ⟨b,e,hb⟩:=Zgd (N:=N) x.Peer x.Label p.Role
  have fin:b=true→∀ o,some x=some o→0≤o.Label:=fun h o hy=>by
   obtain rfl:x=o:=Option.some.inj hy
   exact hb h
  rw [Vl,ZG hk,Zs,hx]
  simp only [cT,bS]
  rw [e]
  simp only [bS]
  cases b with
  | false=>exact .inl rfl
  | true =>
  simp only [Zh,cond_false]
  cases decide (x.Entry < 0) with
  | true=>exact .inl rfl
  | false =>
  cases decide (x.Entry≥(p.Code.length:Int)) with
  | true=>exact .inl rfl
  | false =>
  simp only [cond_false]
  have inn:=Pv (F:=SD p (k:Int) (Vl N p n) x) (len:=k) (e:=Vl N p n ((k+1:Nat):Int)) (fun _=>True) (fun n' j hj=>?_) (fun n' j hj=>by rw [SD,ZJ hj,cond_false];unfold BT;rw [ZA (by omega)]) _ N 0 rfl (by omega)
  ·rcases inn with e | ⟨e,_⟩
   ·exact .inl e
   ·exact .inr ⟨e,fin rfl⟩
  ·rw [SD,ZG hj,Zs,Za (show j < p.Handlers.length by omega),ZA (by omega)]
   simp only [cT,bS]
   cases (p.Handlers[j].Peer==x.Peer) with
   | false=>exact .inr ⟨rfl,trivial⟩
   | true =>
    cases (p.Handlers[j].Label==x.Label) with
    | false=>exact .inr ⟨rfl,trivial⟩
    | true=>exact .inl rfl
theorem Ze7 (hN:4194304 < N) (hp:UG p):∃ b,Ms N p=some b∧(b=true→PV p∧(∀ o∈p.Offers,0≤o.Label)∧∀ o∈p.Handlers,0≤o.Label):=by
 unfold Ms
 obtain ⟨b,e⟩:=Zlr hN p.Vars hp.v hp.vn
 rw [(Zfh hN p.Name hp.n).2,e]
 simp only [bS]
 have no:∃ b,some false=some b∧(b=true→PV p∧(∀ o∈p.Offers,0≤o.Label)∧∀ o∈p.Handlers,0≤o.Label):=⟨false,rfl,fun h=>by cases h⟩
 cases LF p.Name with
 | false=>exact no
 | true =>
 cases decide (p.Role < 0) with
 | true=>exact no
 | false =>
 cases decide (p.Role≥6) with
 | true=>exact no
 | false =>
 cases b with
 | false=>exact no
 | true =>
 cases decide ((p.Handlers.length:Int) > 40) with
 | true=>exact no
 | false =>
 cases decide ((p.Offers.length:Int) > 40) with
 | true=>exact no
 | false =>
 cases decide ((p.Code.length:Int) < 1) with
 | true=>exact no
 | false =>
 cases c:decide ((p.Code.length:Int) > 1000) with
 | true=>exact no
 | false =>
 simp only [Zh,cond_false]
 exact Zsy hN hp (by simp at c;omega)
structure Zcc (p:Z6) (r:X8):Prop where
 s:r.Stack.length≤16
 sv:∀ v∈r.Stack,WC v
 v:r.Vars.length=p.Vars.length
 vv:∀ v∈r.Vars,WC v
theorem ZoJ (hN:4194304 < N) (hp:PV p):∀ (r n:Nat) (m:Yh) (k j:Nat),W1 p m→k≤p.Code.length→j+r=5001→r < n →
  ∃ (R:X8) (e:Int),Q2 N p 5000 n m.stack' m.vars' m.params' m.loops' m.trap' (k:Int) (j:Int)=some (R,e)∧(e=0→Zcc p R):=by
 intro r
 induction r with
 | zero =>
  intro n m k j hm hk hj hn
  obtain ⟨n,rfl⟩:=pS n (by omega)
  rw [Q2]
  cases m.trap' with
  | true=>exact ⟨_,_,rfl,fun h=>by cases h⟩
  | false =>
  cases decide ((k:Int)≥(p.Code.length:Int)) with
  | true=>exact ⟨_,_,rfl,fun h=>by cases h⟩
  | false =>
   rw [dT (show (j:Int)≥5000 by omega)]
   exact ⟨_,_,rfl,fun h=>by cases h⟩
 | succ r ih =>
  intro n m k j hm hk hj hn
  obtain ⟨n,rfl⟩:=pS n (by omega)
  rw [Q2,ZA (by omega)]
  have hm':W1 p ⟨m.stack',m.vars',m.params',m.loops',m.trap'⟩:=Me hm _
  cases m.trap' with
  | true=>exact ⟨_,_,rfl,fun h=>by cases h⟩
  | false =>
  cases c:decide ((k:Int)≥(p.Code.length:Int)) with
  | true=>exact ⟨_,_,rfl,fun h=>by cases h⟩
  | false =>
  have hk':k < p.Code.length:=by simp at c;omega
  cases decide ((j:Int)≥5000) with
  | true=>exact ⟨_,_,rfl,fun h=>by cases h⟩
  | false =>
  simp only [cond_false]
  rw [Zs,Za hk',bS]
  cases (p.Code[k].Op==24) with
  | true=>exact ⟨_,_,rfl,fun _=>⟨hm.s,hm.sv,hm.v,hm.vv⟩⟩
  | false =>
  obtain ⟨a,m1,e1,ha,h1⟩:=Znu hN hp (Me hm false) hk'
  rw [cond_false,e1,bS]
  exact ih n m1 a (j+1) h1 ha (by omega) (by omega)
theorem Zq8 (hN:4194304 < N) (hp:UG p) (entry:Int) (vars params:List Zk) (hvl:vars.length≤4194304) (hv:∀ v∈vars,v.S.size≤4194304) (hpl:params.length≤4194304) (hpv:∀ v∈params,v.S.size≤4194304) :
  ∃ (R:X8) (e:Int),QA N p entry vars params 5000=some (R,e)∧(e=0→Zcc p R):=by
 obtain ⟨b,e,hb⟩:=Ze7 hN hp
 unfold QA ZbH
 rw [e]
 simp only [bS]
 cases b with
 | false=>exact ⟨_,_,rfl,fun h=>by cases h⟩
 | true =>
 have pv:=(hb rfl).1
 simp only [Zh,cond_false]
 cases c:((vars.length:Int) != (p.Vars.length:Int)) with
 | true=>exact ⟨_,_,rfl,fun h=>by cases h⟩
 | false =>
 have hl:vars.length=p.Vars.length:=by
  have:(vars.length:Int)=(p.Vars.length:Int):=by simpa using c
  omega
 simp only [cond_false]
 have ZR:=Pv (F:=RQ N p vars) (len:=vars.length) (e:=some true) (fun j=>∀ v,vars[j]? = some v→WC v) (fun n k hk=>by
  obtain ⟨v,hv'⟩:∃ x,vars[k]? = some x:=⟨_,Za hk⟩
  rw [RQ,ZG hk,Zs,Za (show k < p.Vars.length by omega),Zs,hv',ZA (by omega)]
  simp only [cT,bS]
  rw [Zeu hN _ _ (hv v (Zb hv'))]
  simp only [bS]
  cases d:Wv p.Vars[k].Sort' v with
  | false=>exact .inl rfl
  | true =>
   refine .inr ⟨rfl,fun w hw=>?_⟩
   have:v=w:=Option.some.inj hw
   subst this
   have:=Zk9 d
   show v.S.size≤1000
   omega) (fun n k hk=>by rw [RQ,ZJ hk];rfl) _ N 0 rfl (by omega)
 rw [show ((0:Nat):Int)=0 from rfl] at ZR
 rcases ZR with e0 | ⟨e0,hvs⟩
 ·rw [e0]
  exact ⟨_,_,rfl,fun h=>by cases h⟩
 ·rw [e0]
  simp only [bS,Zh,cond_false]
  have hvz:∀ v∈vars,WC v:=fun v hv=>by
   obtain ⟨j,hj⟩:=List.getElem?_of_mem hv
   exact hvs j (Nat.zero_le _) (List.getElem?_eq_some_iff.1 hj).1 v hj
  cases c1:decide (entry < 0) with
  | true=>exact ⟨_,_,rfl,fun h=>by cases h⟩
  | false =>
  cases c2:decide (entry≥(p.Code.length:Int)) with
  | true=>exact ⟨_,_,rfl,fun h=>by cases h⟩
  | false =>
  cases decide ((params.length:Int) > 4) with
  | true=>exact ⟨_,_,rfl,fun h=>by cases h⟩
  | false =>
  simp only [cond_false]
  simp only [decide_eq_false_iff_not] at c1 c2
  obtain ⟨q,rfl⟩:=Ze (show 0≤entry by omega)
  have lp:∀ (r n k:Nat),params.length-k=r→r < n→(∀ j v,j < k→params[j]? = some v→WC v) →
    ∃ (R:X8) (e:Int),Qv N p (q:Int) vars params 5000 n (k:Int)=some (R,e)∧(e=0→Zcc p R):=by
   intro r
   induction r with
   | zero =>
    intro n k hr hn hz
    obtain ⟨n,rfl⟩:=pS n (by omega)
    rw [Qv,ZJ (by omega),cond_false]
    unfold Gj
    rw [Yl (by simp;omega),bS,List.nil_append]
    refine ZoJ hN pv 5001 N ⟨[],vars,params,[],false⟩ q 0 ⟨by simp,by simp,hl,hvz,fun v hv=>?_,by simp⟩ (by omega) rfl (by omega)
    obtain ⟨j,hj⟩:=List.getElem?_of_mem hv
    have hj':j < params.length:=(List.getElem?_eq_some_iff.1 hj).1
    exact hz j v (by omega) hj
   | succ r ih =>
    intro n k hr hn hz
    obtain ⟨n,rfl⟩:=pS n (by omega)
    have hk:k < params.length:=by omega
    obtain ⟨v,hv'⟩:∃ x,params[k]? = some x:=⟨_,Za hk⟩
    rw [Qv,ZG hk,Zs,hv',ZA (by omega)]
    simp only [cT,bS]
    rw [Zbl hN _ (hpv v (Zb hv'))]
    simp only [bS]
    cases d:Vr v with
    | false=>exact ⟨_,_,rfl,fun h=>by cases h⟩
    | true =>
     refine ih n (k+1) (by omega) (by omega) fun j w hj hw=>?_
     by_cases h:j=k
     ·subst h
      have:v=w:=by rw [hv'] at hw;exact Option.some.inj hw
      subst this
      have:=Zfz d
      show v.S.size≤1000
      omega
     ·exact hz j w (by omega) hw
  exact lp _ N 0 rfl (by omega) fun j v hj=>by omega
end
section
variable {N:Nat} {p:Z6}
theorem Zfl (hN:4194304 < N) (a b:List Int) (ha:a.length≤4194304):∃ r,P5 N a b=some r:=by
 unfold P5
 refine YC (fun _=>Yt _) fun c=>?_
 have hl:a.length=b.length:=by
  have:(a.length:Int)=(b.length:Int):=by simpa using c
  omega
 refine UU (F:=RC a b) (len:=a.length) (fun n k hk hi=>?_) (fun n k hk=>?_) _ N 0 rfl (by omega)
 ·rw [RC,ZG hk,Zs,Za hk,Zs,Za (show k < b.length by omega),ZA (by omega)]
  simp only [cT,bS]
  exact YC (fun _=>Yt _) fun _=>hi
 ·rw [RC,ZJ hk]
  exact Yt _
theorem Zlv (d:List T0) {q:Nat} {x:T0} (hx:d[q]? = some x) (hf:x.Fields.length≤4194304):∀ (r n k:Nat) (acc:List Int),x.Fields.length-k=r→r < n→acc.length=k→k≤x.Fields.length→∃ l,S2 d (q:Int) n acc (k:Int)=some l∧l.length=x.Fields.length:=by
 have hq:=(List.getElem?_eq_some_iff.1 hx).1
 intro r
 induction r with
 | zero =>
  intro n k acc hr hn ha hk
  obtain ⟨n,rfl⟩:=pS n (by omega)
  rw [S2,ZG hq,Zs,hx]
  simp only [cT,bS]
  rw [ZJ (by omega)]
  exact ⟨acc,rfl,by omega⟩
 | succ r ih =>
  intro n k acc hr hn ha hk
  obtain ⟨n,rfl⟩:=pS n (by omega)
  have hk':k < x.Fields.length:=by omega
  rw [S2,ZG hq,Zs,hx]
  simp only [cT,bS]
  rw [ZG hk',Zs,Za hk',ZA (by omega)]
  simp only [cT,bS]
  rw [Yl (by simp;omega),bS]
  exact ih n (k+1) _ (by omega) (by omega) (by simp;omega) (by omega)
theorem ZhX (hN:4194304 < N) (d:List T0) (hd:∀ x∈d,x.Fields.length≤4194304) (label:Int) (h0:0≤label):∃ l,Hq N d label=some l∧l.length≤4194304:=by
 unfold Hq
 obtain ⟨q,rfl⟩:=Ze h0
 by_cases hq:q < d.length
 ·obtain ⟨x,hx⟩:∃ x,d[q]? = some x:=⟨_,Za hq⟩
  have hf:=hd x (Zb hx)
  obtain ⟨l,e,hl⟩:=Zlv d hx hf _ N 0 [] rfl (by omega) rfl (Nat.zero_le _)
  exact ⟨l,e,by omega⟩
 ·obtain ⟨n,rfl⟩:∃ z,N=z+1:=⟨N-1,by omega⟩
  rw [S2,ZJ (by omega)]
  exact ⟨[],rfl,by simp⟩
theorem ZlD (hN:4194304 < N) (d:List T0) (hd:∀ x∈d,x.Fields.length≤4194304) (ho:∀ o∈p.Offers,0≤o.Label) (hl:p.Offers.length≤4194304):∀ (r n k:Nat) (acc:List YI),p.Offers.length-k=r→r < n→acc.length+2 * r≤16777216 →
  ∃ l,Uu N p d n acc (k:Int)=some l∧l.length≤16777216:=by
 intro r
 induction r with
 | zero =>
  intro n k acc hr hn ha
  obtain ⟨n,rfl⟩:=pS n (by omega)
  rw [Uu,ZJ (by omega)]
  exact ⟨acc,rfl,by omega⟩
 | succ r ih =>
  intro n k acc hr hn ha
  obtain ⟨n,rfl⟩:=pS n (by omega)
  have hk:k < p.Offers.length:=by omega
  obtain ⟨x,hx⟩:∃ x,p.Offers[k]? = some x:=⟨_,Za hk⟩
  obtain ⟨q,eq,_⟩:=ZhX hN d hd x.Label (ho x (Zb hx))
  have go:∀ acc':List YI,acc'.length≤acc.length+1→∃ l,Pf N d (k:Int) (Uu N p d n) x acc'=some l∧l.length≤16777216:=fun acc' h=>by
   unfold Pf
   rw [eq,bS,Yl (by simp;omega),bS,ZA (by omega)]
   exact ih n (k+1) _ (by omega) (by omega) (by simp;omega)
  rw [Uu,ZG hk,Zs,hx]
  simp only [cT,bS]
  cases (x.When != -1) with
  | true =>
   rw [cT,Yl (by simp;omega),bS]
   exact go _ (by simp)
  | false=>exact go _ (by omega)
theorem ZtK (hN:4194304 < N) (hp:UG p) (d:List T0) (hd:∀ x∈d,x.Fields.length≤4194304) (ho:∀ o∈p.Offers,0≤o.Label) (hh:∀ o∈p.Handlers,0≤o.Label):∃ l,z68 N p d=some l∧l.length≤16777216:=by
 have hl:=hp.h
 have hl2:=hp.o
 have go:∀ (r n k:Nat) (acc:List YI),p.Handlers.length-k=r→r < n→acc.length=k→k≤p.Handlers.length→∃ l,QW N p d n acc (k:Int)=some l∧l.length≤16777216:=by
  intro r
  induction r with
  | zero =>
   intro n k acc hr hn ha hk
   obtain ⟨n,rfl⟩:=pS n (by omega)
   rw [QW,ZJ (by omega),cond_false]
   unfold Gi
   exact ZlD hN d hd ho hl2 _ N 0 acc rfl (by omega) (by omega)
  | succ r ih =>
   intro n k acc hr hn ha hk
   obtain ⟨n,rfl⟩:=pS n (by omega)
   have hk':k < p.Handlers.length:=by omega
   obtain ⟨x,hx⟩:∃ x,p.Handlers[k]? = some x:=⟨_,Za hk'⟩
   obtain ⟨q,eq,_⟩:=ZhX hN d hd x.Label (hh x (Zb hx))
   rw [QW,ZG hk',Zs,hx,ZA (by omega)]
   simp only [cT,bS]
   rw [eq,bS,Yl (by simp;omega),bS]
   exact ih n (k+1) _ (by omega) (by omega) (by simp;omega) (by omega)
 exact go _ N 0 [] rfl (by omega) rfl (Nat.zero_le _)
theorem ZtC (op:Int):∃ x:ByteArray × ByteArray,Gs N op=some x∧x.1.size≤2∧x.2.size≤1:=by
 have k1:∀ b,∃ x:ByteArray × ByteArray,Mg op b=some x∧x.1.size≤2∧x.2.size≤1:=fun b=>by
  unfold Mg
  cases b<;>cases (op==17)<;>cases (op==18)<;>cases (op==20)<;>exact ⟨_,rfl,by decide,by decide⟩
 have k2:∀ b,∃ x:ByteArray × ByteArray,VZ op b=some x∧x.1.size≤2∧x.2.size≤1:=fun b=>by
  unfold VZ
  cases b with
  | true=>exact ⟨_,rfl,by decide,by decide⟩
  | false =>
   cases (op==11) with
   | true=>simp only [cT,cond_false];exact k1 _
   | false=>simp only [cT,cond_false];exact k1 _
 unfold Gs
 cases (op==1) with
 | true=>exact ⟨_,rfl,by decide,by decide⟩
 | false =>
 cases (op==2) with
 | true=>exact ⟨_,rfl,by decide,by decide⟩
 | false =>
 cases (op==6) with
 | true=>simp only [cT,cond_false];exact k2 _
 | false =>
 cases (op==7) with
 | true=>simp only [cT,cond_false];exact k2 _
 | false =>
 cases (op==8) with
 | true=>simp only [cT,cond_false];exact k2 _
 | false =>
 cases (op==9) with
 | true=>simp only [cT,cond_false];exact k2 _
 | false =>
 cases (op==10) with
 | true=>simp only [cT,cond_false];exact k2 _
 | false =>
 cases (op==13) with
 | true=>simp only [cT,cond_false];exact k2 _
 | false =>
 cases (op==15) with
 | true=>simp only [cT,cond_false];exact k2 _
 | false=>simp only [cT,cond_false];exact k2 _
theorem ZkO (c:Int):∃ k,Hb N c=some k:=by
 unfold Hb
 exact YC (fun _=>Yt _) fun _=>Yt _
theorem Zi5 {s:ByteArray} {k:Nat} (h:k < s.size):∃ c,Xq s (k:Int)=some c:=by
 unfold Xq
 rw [dT (show (0:Int)≤(k:Int) by omega),cT,Int.toNat_natCast]
 have:s[k]? = some s[k]:=by
  rw [getElem?_pos s k h]
 rw [this]
 exact ⟨_,rfl⟩
def QN (o:Option (List Int × Bool)):Prop:=∃ r:List Int × Bool,o=some r∧(r.2=true→r.1.length≤16)
theorem V3 {b:Bool} {x y:Option (List Int × Bool)} (h1:b=true→QN x) (h2:b=false→QN y):QN (bif b then x else y):=by
 cases b with
 | true=>exact h1 rfl
 | false=>exact h2 rfl
theorem Qy:QN (some (([]:List Int),false)):=⟨_,rfl,fun h=>by cases h⟩
theorem Zs4 (x:ByteArray × ByteArray) (hN:4194304 < N) (h2:x.2.size≤1):∀ (r n k:Nat) (acc:List Int),x.2.size-k=r→r < n→acc.length+r≤1000→QN (Pb N x n acc (k:Int)):=by
 intro r
 induction r with
 | zero =>
  intro n k acc hr hn ha
  obtain ⟨n,rfl⟩:=pS n (by omega)
  rw [Pb,ZJ (by omega)]
  exact ⟨_,rfl,fun h=>by
   have h:decide ((acc.length:Int)≤16)=true:=h
   have h:=of_decide_eq_true h
   show acc.length≤16
   omega⟩
 | succ r ih =>
  intro n k acc hr hn ha
  obtain ⟨n,rfl⟩:=pS n (by omega)
  obtain ⟨c,hc⟩:=Zi5 (s:=x.2) (show k < x.2.size by omega)
  obtain ⟨q,hq⟩:=ZkO (N:=N) c
  rw [Pb,ZG (show k < x.2.size by omega),hc,cT,bS,hq,bS,Yl (by simp;omega),bS,ZA (by omega)]
  exact ih n (k+1) _ (by omega) (by omega) (by simp;omega)
theorem ZmT (x:ByteArray × ByteArray) (hN:4194304 < N) (h1:x.1.size≤2) (h2:x.2.size≤1) (l:List Int) (hl:l.length≤16):∀ (r n k:Nat),x.1.size-k=r→r < n→k≤l.length→k≤x.1.size→QN (RA N l x n (k:Int)):=by
 intro r
 induction r with
 | zero =>
  intro n k hr hn hk hk2
  obtain ⟨n,rfl⟩:=pS n (by omega)
  rw [RA,ZJ (by omega),cond_false]
  unfold GR
  have e:Zi ((l.length:Int)-(x.1.size:Int))=((l.length-x.1.size:Nat):Int):=by rw [Ym (by omega) (by omega)];omega
  rw [e,MP (by omega),bS,Yl (by simp;omega),bS,List.nil_append]
  exact Zs4 x hN h2 _ N 0 _ rfl (by omega) (by rw [List.length_take];omega)
 | succ r ih =>
  intro n k hr hn hk hk2
  obtain ⟨n,rfl⟩:=pS n (by omega)
  have hkx:k < x.1.size:=by omega
  rw [RA,ZG hkx,cT]
  refine V3 (fun _=>Qy) fun c=>?_
  have hkl:k < l.length:=by simp at c;omega
  obtain ⟨c,hc⟩:=Zi5 hkx
  obtain ⟨q,hq⟩:=ZkO (N:=N) c
  have e:Zi (Zi ((l.length:Int)-1)-(k:Int))=((l.length-1-k:Nat):Int):=by
   rw [Ym (n:=(l.length:Int)-1) (by omega) (by omega),Ym (by omega) (by omega)]
   omega
  rw [e,Zs,Za (show l.length-1-k < l.length by omega),bS,hc,bS,hq,bS,ZA (by omega)]
  exact V3 (fun _=>Qy) fun _=>ih n (k+1) (by omega) (by omega) (by omega) (by omega)
theorem Zo1 (hN:4194304 < N) (pv:PV p) {x:Wy} (hx:x∈p.Code) (l params:List Int) (hl:l.length≤16):QN (GQ N p x l params):=by
 have hi:=pv.i x hx
 have w1:0 < l.length→Zi ((l.length:Int)-1)=((l.length-1:Nat):Int):=fun h=>by rw [Ym (by omega) (by omega)];omega
 have w2:1 < l.length→Zi ((l.length:Int)-2)=((l.length-2:Nat):Int):=fun h=>by rw [Ym (by omega) (by omega)];omega
 unfold GQ
 refine V3 (fun c=>?_) fun _=>V3 (fun c=>?_) fun _=>V3 (fun c=>?_) fun _=>V3 (fun c=>?_) fun _=>?_
 ·have hv:=hi.v (.inl (by simpa using c))
  obtain ⟨q,hq⟩:=Ze hv.1
  rw [Yl (by simp;omega),bS,hq,Zs,Za (show q < p.Vars.length by omega),bS,Yl (by simp;omega),bS]
  exact ⟨_,rfl,fun h=>by simp at h ⊢;omega⟩
 ·have hv:=hi.pr (by simpa using c)
  obtain ⟨q,hq⟩:=Ze hv
  refine V3 (fun _=>Qy) fun d=>?_
  rw [hq] at d ⊢
  rw [Yl (by simp;omega),bS,Zs,Za (show q < params.length by simp at d;omega),bS,Yl (by simp;omega),bS]
  exact ⟨_,rfl,fun h=>by simp at h ⊢;omega⟩
 ·have hv:=hi.v (.inr (by simpa using c))
  obtain ⟨q,hq⟩:=Ze hv.1
  refine V3 (fun _=>Qy) fun d=>?_
  have hl0:0 < l.length:=by
   rcases Nat.eq_zero_or_pos l.length with e | e
   ·rw [e] at d
    exact absurd d (by decide)
   ·exact e
  rw [w1 hl0,Zs,Za (show l.length-1 < l.length by omega),bS,hq,Zs,Za (show q < p.Vars.length by omega),bS,MP (by omega)]
  exact V3 (fun _=>Qy) fun _=>⟨_,rfl,fun _=>by simp;omega⟩
 ·refine V3 (fun _=>Qy) fun d=>?_
  have hl0:1 < l.length:=by simp at d;omega
  have tk:QN ((lsl l none (some ((l.length-2:Nat):Int))).bind fun x14=>(Z4 ([]:List Int) x14).bind fun x15=>(Z4 x15 ([(1:Int)]:List Int)).bind fun x16=>some (x16,true)):=by
   rw [MP (by omega),bS,Yl (by simp;omega),bS,Yl (by simp;omega),bS]
   exact ⟨_,rfl,fun _=>by simp;omega⟩
  rw [w1 (by omega),w2 hl0,Zs,Za (show l.length-1 < l.length by omega),bS,Zs,Za (show l.length-2 < l.length by omega),bS]
  refine V3 (fun _=>Qy) fun _=>?_
  rw [bS]
  refine V3 (fun _=>?_) fun _=>tk
  rw [bS]
  exact V3 (fun _=>Qy) fun _=>tk
 ·obtain ⟨y,e,h1,h2⟩:=ZtC (N:=N) x.Op
  rw [e,bS]
  exact ZmT y hN h1 h2 l hl _ N 0 rfl (by omega) (Nat.zero_le _) (Nat.zero_le _)
structure Zj1 (p:Z6) (s:Yq):Prop where
 k:s.stack'.length≤16
 l:s.loops'.length≤4
 r:∀ a∈s.loops',∃ q:Nat,a=(q:Int)∧q < p.Code.length
structure Df (p:Z6) (l:List Yq):Prop where
 n:l.length=p.Code.length
 s:∀ s∈l,Zj1 p s
def SZ (p:Z6) (o:Option (Int × List Yq)):Prop:=∃ r:Int × List Yq,o=some r∧Df p r.2
theorem Tw {b:Bool} {x y:Option (Int × List Yq)} (h1:b=true→SZ p x) (h2:b=false→SZ p y):SZ p (bif b then x else y):=by
 cases b with
 | true=>exact h1 rfl
 | false=>exact h2 rfl
theorem Zkh (hN:4194304 < N) {all:List Yq} (ha:Df p all) {k:Nat} (hk:k < p.Code.length) {s:Yq} (hs:Zj1 p s):SZ p (Ll N all (k:Int) s):=by
 have hk':k < all.length:=by rw [ha.n];exact hk
 obtain ⟨x,hx⟩:∃ x,all[k]? = some x:=⟨_,Za hk'⟩
 have ho:=ha.s x (Zb hx)
 unfold Ll
 rw [Zs,hx,bS,WH]
 refine Tw (fun _=>⟨_,rfl,⟨by rw [List.length_set];exact ha.n,fun y hy=>?_⟩⟩) fun _=>?_
 ·rcases List.mem_or_eq_of_mem_set hy with hy | rfl
  ·exact ha.s y hy
  ·exact hs
 obtain ⟨b,e⟩:=Zfl hN x.stack' s.stack' (by have:=ho.k;omega)
 rw [bS,e,bS]
 refine Tw (fun _=>⟨_,rfl,ha⟩) fun _=>?_
 obtain ⟨b,e⟩:=Zfl hN x.loops' s.loops' (by have:=ho.l;omega)
 rw [bS,e,bS]
 exact Tw (fun _=>⟨_,rfl,ha⟩) fun _=>⟨_,rfl,ha⟩
theorem ZpW {k:Nat} {x:Wy} (hx:p.Code[k]? = some x) (hc:p.Code.length≤1000) (l:List Int) (hl:l.length≤4):∃ b,Gb N p (k:Int) l=some b∧(b=true→(x.Op=21→l.length < 4)∧(x.Op=23→0 < l.length)∧(x.Op≠19→x.Op≠24→k+1 < p.Code.length)):=by
 have hk:=(List.getElem?_eq_some_iff.1 hx).1
 unfold Gb
 rw [Zs,hx,bS,ZA (by omega)]
 have no:∃ b,some false=some b∧(b=true→(x.Op=21→l.length < 4)∧(x.Op=23→0 < l.length)∧(x.Op≠19→x.Op≠24→k+1 < p.Code.length)):=⟨false,rfl,fun h=>by cases h⟩
 cases c21:(x.Op==21) with
 | true =>
  have h:x.Op=21:=by simpa using c21
  cases d:decide ((l.length:Int) < 4) with
  | false=>exact no
  | true=>exact ⟨_,rfl,fun e=>⟨fun _=>by simp at d;omega,fun h'=>by omega,fun _ _=>by simp at e;omega⟩⟩
 | false =>
 have h21:x.Op≠21:=by simpa using c21
 cases c22:(x.Op==22) with
 | true =>
  have h:x.Op=22:=by simpa using c22
  cases d:decide ((l.length:Int) > 0) with
  | false=>exact no
  | true =>
   have hl0:0 < l.length:=by simp at d;omega
   have ew:Zi ((l.length:Int)-1)=((l.length-1:Nat):Int):=by rw [Ym (by omega) (by omega)];omega
   simp only [cT,cond_false]
   rw [ew,Zs,Za (show l.length-1 < l.length by omega),bS]
   cases (x.N==Zi (l[l.length-1]+1)) with
   | false=>exact no
   | true=>exact ⟨_,rfl,fun e=>⟨fun h'=>by omega,fun h'=>by omega,fun _ _=>by simp at e;omega⟩⟩
 | false =>
 have h22:x.Op≠22:=by simpa using c22
 cases c23:(x.Op==23) with
 | true =>
  have h:x.Op=23:=by simpa using c23
  cases d:decide ((l.length:Int) > 0) with
  | false=>exact no
  | true=>exact ⟨_,rfl,fun e=>⟨fun h'=>by omega,fun _=>by simp at d;omega,fun _ _=>by simp at e;omega⟩⟩
 | false =>
 have h23:x.Op≠23:=by simpa using c23
 cases c24:(x.Op==24) with
 | true=>exact ⟨_,rfl,fun e=>⟨fun h=>absurd h h21,fun h=>absurd h h23,fun _ h=>absurd (by simpa using c24) h⟩⟩
 | false =>
 cases c19:(x.Op==19) with
 | true=>exact ⟨_,rfl,fun e=>⟨fun h=>absurd h h21,fun h=>absurd h h23,fun h _=>absurd (by simpa using c19) h⟩⟩
 | false =>
 cases c20:(x.Op==20) with
 | true =>
  cases decide (x.N > (k:Int)) with
  | false=>exact no
  | true=>exact ⟨_,rfl,fun e=>⟨fun h=>absurd h h21,fun h=>absurd h h23,fun _ _=>by simp at e;omega⟩⟩
 | false=>exact ⟨_,rfl,fun e=>⟨fun h=>absurd h h21,fun h=>absurd h h23,fun _ _=>by simp at e;omega⟩⟩
theorem Zk3 (hN:4194304 < N) (pv:PV p) {all:List Yq} (ha:Df p all) {k:Nat} (hk:k < p.Code.length) (params results:List Int):SZ p (Bh N p all (k:Int) params results):=by
 have hc:=pv.c
 have hk':k < all.length:=by rw [ha.n];exact hk
 obtain ⟨x,hx⟩:∃ x,p.Code[k]? = some x:=⟨_,Za hk⟩
 obtain ⟨s,hs⟩:∃ x,all[k]? = some x:=⟨_,Za hk'⟩
 have so:=ha.s s (Zb hs)
 have hi:=pv.i x (Zb hx)
 have hsl:=so.l
 unfold Bh
 obtain ⟨r,er,hr⟩:=Zo1 hN pv (Zb hx) s.stack' params so.k
 rw [Zs,hx,bS,Zs,hs,bS,er,bS]
 have bad:SZ p (S7 N p all (k:Int) x s r true):=⟨_,rfl,ha⟩
 refine Tw (fun _=>bad) fun c=>?_
 have hr16:r.1.length≤16:=hr (by simpa using c)
 have k1:∀ (L:List Int),L.length≤4→(∀ a∈L,∃ q:Nat,a=(q:Int)∧q < p.Code.length)→∀ (al:List Yq) (e:Int),Df p al→SZ p (PR N x r L al e):=fun L hL hL2 al e hal=>by
  unfold PR
  rw [Ziq,bS]
  refine Tw (fun c=>Tw (fun _=>?_) fun _=>⟨_,rfl,hal⟩) fun _=>⟨_,rfl,hal⟩
  simp only [Bool.or_eq_true,beq_iff_eq] at c
  have hj:=hi.j c
  obtain ⟨q,hq⟩:=Ze hj.1
  obtain ⟨z,ez,hz⟩:=Zkh hN hal (show q < p.Code.length by omega) (s:=⟨true,r.1,L⟩) ⟨hr16,hL,hL2⟩
  rw [hq,ez]
  exact ⟨_,rfl,hz⟩
 have k3:(x.Op≠19→x.Op≠24→k+1 < p.Code.length)→∀ (L:List Int),L.length≤4→(∀ a∈L,∃ q:Nat,a=(q:Int)∧q < p.Code.length)→SZ p (QH N all (k:Int) x r L):=fun hn L hL hL2=>by
  unfold QH MF
  refine Tw (fun c19=>Tw (fun c24=>?_) fun _=>k1 L hL hL2 _ _ ha) fun _=>k1 L hL hL2 _ _ ha
  rw [ZA (by omega)]
  obtain ⟨z,ez,hz⟩:=Zkh hN ha (hn (by simpa using c19) (by simpa using c24)) (s:=⟨true,r.1,L⟩) ⟨hr16,hL,hL2⟩
  rw [ez,bS]
  exact k1 L hL hL2 _ _ hz
 have k4:∀ b,SZ p (S7 N p all (k:Int) x s r b):=fun b=>by
  cases b with
  | true=>exact bad
  | false =>
   obtain ⟨b,eb,hb⟩:=ZpW (N:=N) hx hc s.loops' hsl
   unfold S7
   rw [cond_false,eb,bS]
   cases b with
   | false=>exact ⟨_,rfl,ha⟩
   | true =>
   obtain ⟨b1,b2,b3⟩:=hb rfl
   simp only [Zh,cond_false]
   refine Tw (fun c=>?_) fun _=>Tw (fun c=>?_) fun _=>k3 b3 _ hsl so.r
   ·have:=b1 (by simpa using c)
    rw [Yl (by simp;omega),bS,Yl (by simp;omega),bS,List.nil_append]
    refine k3 b3 _ (by simp;omega) fun a ha'=>?_
    rcases List.mem_append.1 ha' with h | h
    ·exact so.r a h
    ·exact ⟨k,by simpa using h,hk⟩
   ·have:=b2 (by simpa using c)
    have ew:Zi ((s.loops'.length:Int)-1)=((s.loops'.length-1:Nat):Int):=by rw [Ym (by omega) (by omega)];omega
    rw [ew,MP (by omega),bS]
    exact k3 b3 _ (by rw [List.length_take];omega) fun a ha'=>so.r a (List.mem_of_mem_take ha')
 refine Tw (fun _=>?_) fun _=>k4 _
 obtain ⟨b,eb⟩:=Zfl hN s.stack' results (by have:=so.k;omega)
 rw [eb,bS]
 exact k4 _
theorem Zrm (hN:4194304 < N) (pv:PV p) (params results:List Int):∀ (r n k:Nat) (all:List Yq) (c:Int),p.Code.length-k=r→r < n→Df p all→∃ z,VK N p params results n all c (k:Int)=some z:=by
 have hc:=pv.c
 intro r
 induction r with
 | zero =>
  intro n k all c hr hn ha
  obtain ⟨n,rfl⟩:=pS n (by omega)
  rw [VK,ZJ (by omega)]
  exact Yt _
 | succ r ih =>
  intro n k all c hr hn ha
  obtain ⟨n,rfl⟩:=pS n (by omega)
  have hk:k < p.Code.length:=by omega
  have hka:k < all.length:=by rw [ha.n];exact hk
  rw [VK,ZG hk,Zs,Za hka]
  simp only [cT,bS]
  refine YC (fun _=>?_) fun _=>?_
  ·rw [ZA (by omega)]
   exact ih n (k+1) all c (by omega) (by omega) ha
  obtain ⟨q,eq,hq⟩:=Zk3 hN pv ha hk params results
  rw [eq,bS]
  refine YC (fun _=>Yt _) fun _=>?_
  have hkq:k < q.2.length:=by rw [hq.n];exact hk
  obtain ⟨s,hs⟩:∃ x,q.2[k]? = some x:=⟨_,Za hkq⟩
  have so:=hq.s s (Zb hs)
  have hsl:=so.l
  have inn:∀ (d f j:Nat) (z:Int),s.loops'.length-j=d→d < f→∃ y,RU p c (k:Int) (VK N p params results n) q f z (j:Int)=some y:=by
   intro d
   induction d with
   | zero =>
    intro f j z hd hf
    obtain ⟨f,rfl⟩:∃ z,f=z+1:=⟨f-1,by omega⟩
    rw [RU,Zs,hs,bS,ZJ (by omega),cond_false]
    unfold DJ
    rw [ZA (by omega)]
    exact ih n (k+1) q.2 _ (by omega) (by omega) hq
   | succ d ihd =>
    intro f j z hd hf
    obtain ⟨f,rfl⟩:∃ z,f=z+1:=⟨f-1,by omega⟩
    have hj:j < s.loops'.length:=by omega
    obtain ⟨a,hja⟩:∃ x,s.loops'[j]? = some x:=⟨_,Za hj⟩
    obtain ⟨u,rfl,hu⟩:=so.r a (Zb hja)
    rw [RU,Zs,hs,bS,ZG hj,cT,bS,Zs,hja,bS,Zs,Za hu,bS,ZA (by omega)]
    exact ihd f (j+1) _ (by omega) (by omega)
  exact inn _ N 0 1 rfl (by omega)
theorem Zm9 (hN:4194304 < N) (hp:UG p) (entry:Int) (params results:List Int):∃ z,GX N p entry params results=some z:=by
 obtain ⟨b,e,hb⟩:=Ze7 hN hp
 unfold GX
 rw [e]
 simp only [bS]
 cases b with
 | false=>exact Yt _
 | true =>
 have pv:=(hb rfl).1
 have hc:=pv.c
 simp only [Zh,cond_false]
 refine YC (fun _=>Yt _) fun c1=>YC (fun _=>Yt _) fun c2=>?_
 simp only [decide_eq_false_iff_not] at c1 c2
 obtain ⟨q,rfl⟩:=Ze (show 0≤entry by omega)
 have hq:q < p.Code.length:=by omega
 have em:YG (⟨false,[],[]⟩:Yq) (p.Code.length:Int) (p.Code.length:Int)=some (List.replicate p.Code.length ⟨false,[],[]⟩):=by
  unfold YG
  rw [dT (show (0:Int)≤(p.Code.length:Int) by omega),dT (Int.le_refl _),dT (show (p.Code.length:Int)≤4294967296 by omega)]
  rfl
 have hq2:(List.replicate p.Code.length (⟨false,[],[]⟩:Yq))[q]? = some ⟨false,[],[]⟩:=by
  rw [List.getElem?_replicate,if_pos hq]
 rw [em,bS,Zs,hq2,bS,WH]
 refine Zrm hN pv params results _ N q _ 0 rfl (by omega) ⟨by rw [List.length_set,List.length_replicate],fun s hs=>?_⟩
 rcases List.mem_or_eq_of_mem_set hs with hs | rfl
 ·obtain rfl:=List.eq_of_mem_replicate hs
  exact ⟨by simp,by simp,by simp⟩
 ·exact ⟨by simp,by simp,by simp⟩
theorem Zoe (hN:16777217 < N) (hp:UG p) (d:List T0) (hd:∀ x∈d,x.Fields.length≤4194304):∃ z,Dw N p d=some z:=by
 have hN':4194304 < N:=by omega
 obtain ⟨b,e,hb⟩:=Ze7 hN' hp
 unfold Dw
 rw [e]
 simp only [bS]
 cases b with
 | false=>exact Yt _
 | true =>
 obtain ⟨pv,ho,hh⟩:=hb rfl
 obtain ⟨l,el,hl⟩:=ZtK hN' hp d hd ho hh
 simp only [Zh,cond_false]
 rw [el,bS]
 refine UU (F:=R5 N p d l) (len:=l.length) (fun n k hk hi=>?_) (fun n k hk=>?_) _ N 0 rfl (by omega)
 ·obtain ⟨x,hx⟩:∃ x,l[k]? = some x:=⟨_,Za hk⟩
  obtain ⟨z,ez⟩:=Zm9 hN' hp x.At x.Params x.Results
  rw [R5,ZG hk,Zs,hx,ZA (by omega)]
  simp only [cT,bS]
  refine YC (fun _=>Yt _) fun _=>?_
  rw [ez]
  simp only [bS]
  exact YC (fun _=>Yt _) fun _=>YC (fun _=>Yt _) fun _=>hi
 ·rw [R5,ZJ hk]
  exact Yt _
end
section
variable {N:Nat} {k:Z7}
structure WQ (N:Nat) (k:Z7):Prop where
 c:TM N k.G k.M
 x:ZgJ k.G k.M
 hn:Uh k.G
 p:UG k.P
def KSz (l:List Zk):Prop:=l.length≤4194304∧∀ v∈l,v.S.size≤4194304
theorem KSz.nil:KSz []:=⟨by simp,by simp⟩
structure Ws (k:Z7) (a:ZS) (s:ZM):Prop where
 st:a.State=s.At
 kn:a.Known=s.Known
 pd:a.Pending=s.Pending
 ps:KSz s.Pending
 vl:a.Vars.length=k.P.Vars.length
 vs:∀ v∈a.Vars,v.S.size≤4194304
 hS:StM k.G k.M s
theorem Zj0 {y:T9} {s:Int} {x:T3}:Vb y s x=true↔y.From=s∧y.Send=x.Send∧y.Peer=x.Peer∧y.Label=x.Label:=by
 unfold Vb
 simp only [Zc,beq_iff_eq]
theorem ZsU (hN:4194304 < N) {m:T8} (hv:GO m):Zai m:=((Zks hN hv.n).2 hv.ap).1
theorem Zgr {m:T8} (hp:Zai m) {i j:Nat} {y z:T9} (hy:m.Moves[i]? = some y) (hz:m.Moves[j]? = some z) {s:Int} {x:T3} (h1:Vb y s x=true) (h2:Vb z s x=true):y=z:=by
 rw [Zj0] at h1 h2
 by_cases e:i=j
 ·subst e
  rw [hy] at hz
  exact Option.some.inj hz
 ·have:=(hp i j y z e hy hz (h1.1.trans h2.1.symm)).2
  exact absurd ⟨h1.2.2.1.trans h2.2.2.1.symm,h1.2.2.2.trans h2.2.2.2.symm⟩ this
theorem ZjS (h:WQ N k) {s:ZM} (hS:StM k.G k.M s) {i:Nat} {z:T9} (hz:k.M.Moves[i]? = some z) (hf:z.From=s.At) {V:List Zk} (hV:KSz V) (hc:Xa k.G.Decls z.Label V s.Known=true) (ha:z.Again=true→V=s.Pending) :
  ∃ K,XB N k.G k.M s ⟨k.M.Role,z.Send,z.Peer,z.Label,V⟩=(⟨z.To,K,bif z.Send then V else []⟩,0)∧QP N k.G.Decls z.Label V s.Known=some (K,0)∧StM k.G k.M ⟨z.To,K,bif z.Send then V else []⟩:=by
 have hN:=h.c.hN
 have hsz:Uq (⟨k.M.Role,z.Send,z.Peer,z.Label,V⟩:T3):=⟨hV.1,hV.2⟩
 obtain ⟨_,hR⟩:=ZlU h.c h.hn hS hsz
 obtain ⟨_,e2,_⟩:=Zh3 h.c hS hsz
 have hp:=ZsU hN h.x.mv
 have hdl:k.G.Decls.length≤1000:=by have:=(Sd h.c.a.v).1;omega
 have hl:=(ZdU hN k.G.Decls hdl h.c.gg.dd h.c.ss.d z.Label V s.Known hV.1 (Lz h.c hS) ⟨hV.2,PT hS.k⟩).2
 have hhit:Vb z s.At ⟨k.M.Role,z.Send,z.Peer,z.Label,V⟩=true:=Zj0.2 ⟨hf,rfl,rfl,rfl⟩
 have fits:∀ d,Zm k.G.Decls z.Label=some d→S3 d.Fields V:=fun d hd=>by
  unfold Xa at hc
  rw [hd,Zc,Zc] at hc
  obtain ⟨j,_,hj⟩:=MV hd
  exact (Ztx h.c.a.v (Zb hj) _).1 hc.2.1
 generalize XB N k.G k.M s ⟨k.M.Role,z.Send,z.Peer,z.Label,V⟩=q at hR e2 ⊢
 cases hR with
 | role h=>exact absurd rfl h
 | move _ h=>rw [h i z hz] at hhit;cases hhit
 | type _ _ _ hd hno=>exact absurd (fits _ hd) hno
 | guard _ hy hh hd _ h =>
  rcases h with h | ⟨_,ha',hne⟩
  ·rw [hc] at h;cases h
  ·obtain rfl:=Zgr hp hy hz hh hhit
   exact absurd (ha ha') hne
 | ok _ hy hh hd _ _ _ _ _ hlearn =>
  obtain rfl:=Zgr hp hy hz hh hhit
  exact ⟨_,rfl,hl.symm.trans hlearn,e2 rfl⟩
theorem ZbG (h:WQ N k) {a:ZS} {s:ZM} (hs:Ws k a s) (label:Int) {V:List Zk} (hV:KSz V):TG N k.G.Decls label V a.Known=some (Xa k.G.Decls label V s.Known):=by
 have hdl:k.G.Decls.length≤1000:=by have:=(Sd h.c.a.v).1;omega
 rw [hs.kn]
 exact (ZdU h.c.hN k.G.Decls hdl h.c.gg.dd h.c.ss.d label V s.Known hV.1 (Lz h.c hs.hS) ⟨hV.2,PT hs.hS.k⟩).1
theorem ZdC (h:WQ N k) {a:ZS} {s:ZM} (hs:Ws k a s) (entry:Int) {V:List Zk} (hV:KSz V):∃ (R:X8) (e:Int),QA N k.P entry a.Vars V 5000=some (R,e)∧(e=0→Zcc k.P R) :=
 Zq8 h.c.hN h.p entry a.Vars V (by rw [hs.vl];exact h.p.v) hs.vs hV.1 hV.2
theorem Zmf {fl:List T4} {g:T6} (h:Z3 fl g=true) {d:T1} (hd:d∈g.Diffs):YV (fl.length:Int) d:=by
 unfold Z3 at h
 simp only [Zc,decide_eq_true_eq] at h
 have h3:=h.2.1
 rw [Xc] at h3
 obtain ⟨i,hi⟩:=List.mem_iff_getElem?.1 hd
 exact of_decide_eq_true (h3 i d hi)
theorem ZtG {fs:List T4} {vs:List Zk} (hso:∀ f∈fs,Xm f.Sort') (h:XP fs vs=true):∀ v∈vs,v.S.size≤1000:=fun v hv=>by
 obtain ⟨i,hi⟩:=List.getElem?_of_mem hv
 have hl:=Zew h
 have hil:=(List.getElem?_eq_some_iff.1 hi).1
 have hf:=Za (show i < fs.length by omega)
 have hfv:=Zdt h hf hi
 obtain ⟨_,_,_,_,h1,h2⟩:=TZ (hso _ (List.getElem_mem _)) hfv
 unfold Xv at hfv
 simp only [Zc] at hfv
 have h3:=hfv.2.2.2
 rcases h2 with h2 | h2
 ·rw [h2] at h3
  have e:((1:Int)==1)=true:=rfl
  rw [e,cT] at h3
  have h4:=eq_of_beq h3
  rw [XS,XS] at h4
  rw [YU,h4]
  show (bs (str [])).length≤1000
  decide
 ·unfold Ye at h1
  rw [h2] at h1
  have e:((2:Int)==2)=true:=rfl
  simp at h1
  omega
theorem Zd6 (h:WQ N k) {a:ZS} {s:ZM} (hs:Ws k a s) (label:Int) (h0:0≤label) (h1:label < (k.G.Decls.length:Int)):∃ R ok,VM N k.G.Decls label a.Known=some (R,ok)∧KSz R∧(ok=true→Xa k.G.Decls label R s.Known=true):=by
 have hN:=h.c.hN
 have hv:=h.c.a.v
 have hks:=PT hs.hS.k
 have hkl:=Lz h.c hs.hS
 have hdl:k.G.Decls.length≤1000:=by have:=(Sd hv).1;omega
 have hd:=h.c.gg.dd
 have hn:=h.c.ss.d
 have hkv:Vp (Zx k.G.Decls) s.Known=true:=(Zjf hv s.Known).2 hs.hS.k
 have hkn:=B6 hN k.G.Decls hdl hd hv s.Known hkl hks
 have hex:=Zh6 hN k.G.Decls hdl hd hn label
 have hr:decide (0≤label∧label < (k.G.Decls.length:Int))=true:=dT ⟨h0,h1⟩
 rw [hv,hr] at hex
 rw [hkv] at hkn
 have hex:Tu N k.G.Decls label=some true:=hex
 have hp:Uj k.G.Decls label s.Known=true:=by unfold Uj;rw [hkv,hr,hv];rfl
 obtain ⟨x,hx⟩:=Y3 h0 h1
 obtain ⟨i,rfl,hi⟩:=MV hx
 have hmem:=Zb hi
 obtain ⟨first,g⟩:=ZlL hv hi (hd x hmem) hkv hks
 have hf:=g.hf
 have hcv:∀ V,Xa k.G.Decls (i:Int) V s.Known=(XP x.Fields V && W8 x.Guard (Yj first V s.Known)):=fun V=>by
  have ef:x.First.toNat=first:=by omega
  unfold Xa
  rw [hp,hx,← ef];rfl
 have hgv:Z3 (Zx k.G.Decls) x.Guard=true:=by
  obtain ⟨_,_,_,_,_,h2⟩:=Pn hv hi
  exact DI h2
 have hdx:∀ b∈x.Guard.Diffs,-1≤b.X∧-1≤b.Y:=fun b hb=>by
  have:=Zmf hgv hb
  unfold YV at this
  omega
 have hso:∀ f∈x.Fields,Xm f.Sort':=fun f hf=>Zat hv hmem hf
 rw [hs.kn]
 rcases Zto hN k.G.Decls (i:Int) g hex hkn hx hdx with ⟨e,_⟩ | ⟨R,e,hR,_⟩
 ·exact ⟨[],false,e,KSz.nil,fun h=>by cases h⟩
 ·refine ⟨R,true,e,⟨?_,fun v hv=>?_⟩,fun _=>?_⟩
  ·have:=g.hfn
   rw [hR.len];omega
  ·have:=ZtG hso hR.fit v hv
   omega
  ·rw [hcv,hR.fit,hR.keep];rfl
def Cd (k:Z7) (a:ZS) (b:Bool) (z:Int):Prop:=∃ (q:Nat) (y:T9),z=(q:Int)∧k.M.Moves[q]? = some y∧y.From=a.State∧y.Send=b
def TC (k:Z7) (a:ZS) (s:ZM) (o:Option (Int × List Zk)):Prop :=
 ∃ (z:Int) (V:List Zk),o=some (z,V)∧KSz V∧(z < 0∨∃ (q:Nat) (y:T9),z=(q:Int)∧k.M.Moves[q]? = some y∧y.From=a.State∧y.Send=true∧Xa k.G.Decls y.Label V s.Known=true∧(y.Again=true→V=s.Pending))
theorem Du {a:ZS} {s:ZM} {b:Bool} {x y:Option (Int × List Zk)} (h1:b=true→TC k a s x) (h2:b=false→TC k a s y):TC k a s (bif b then x else y):=by
 cases b with
 | true=>exact h1 rfl
 | false=>exact h2 rfl
theorem Za4 {a:ZS} {s:ZM}:TC k a s (some ((-1:Int),([]:List Zk))):=⟨_,_,rfl,KSz.nil,.inl (by decide)⟩
theorem ZrB (h:WQ N k) (a:ZS):∀ (r n i:Nat) (acc:List Int),k.M.Moves.length-i=r→r < n→acc.length≤i→(∀ z∈acc,Cd k a true z)→i≤k.M.Moves.length→∃ C,TK k a n acc (i:Int)=some C∧C.length≤400∧∀ z∈C,Cd k a true z:=by
 have hm:=h.c.a.n.n
 intro r
 induction r with
 | zero =>
  intro n i acc hr hn hl ha hi
  obtain ⟨n,rfl⟩:=pS n (by omega)
  rw [TK,ZJ (by omega)]
  exact ⟨acc,rfl,by omega,ha⟩
 | succ r ih =>
  intro n i acc hr hn hl ha hi
  obtain ⟨n,rfl⟩:=pS n (by omega)
  have hi':i < k.M.Moves.length:=by omega
  obtain ⟨y,hy⟩:∃ x,k.M.Moves[i]? = some x:=⟨_,Za hi'⟩
  rw [TK,ZG hi',Zs,hy,ZA (by omega)]
  simp only [cT,bS]
  have sk:=ih n (i+1) acc (by omega) (by omega) (by omega) ha (by omega)
  cases c:(y.From==a.State) with
  | false=>exact sk
  | true =>
   cases c2:y.Send with
   | false=>exact sk
   | true =>
    simp only [cT]
    rw [Yl (by simp;omega),bS]
    refine ih n (i+1) _ (by omega) (by omega) (by simp;omega) (fun z hz=>?_) (by omega)
    rcases List.mem_append.1 hz with hz | hz
    ·exact ha z hz
    ·exact ⟨i,y,by simpa using hz,hy,by simpa using c,c2⟩
theorem ZrP (h:WQ N k) {a:ZS} {s:ZM} (hs:Ws k a s) (o:U2):∃ (V:List Zk) (ok:Bool),Dz N k a o=some (V,ok)∧KSz V∧(ok=true→Xa k.G.Decls o.Label V s.Known=true):=by
 have no:∃ (V:List Zk) (ok:Bool),some (([]:List Zk),false)=some (V,ok)∧KSz V∧(ok=true→Xa k.G.Decls o.Label V s.Known=true):=⟨[],false,rfl,KSz.nil,fun h=>by cases h⟩
 have k1:∃ (V:List Zk) (ok:Bool),Ml N k a o=some (V,ok)∧KSz V∧(ok=true→Xa k.G.Decls o.Label V s.Known=true):=by
  unfold Ml
  obtain ⟨R,e,er,hR⟩:=ZdC h hs o.Args KSz.nil
  rw [er,bS]
  dsimp only
  cases c:(e != 0) with
  | true=>exact no
  | false =>
   have hr:=hR (by simpa using c)
   have hV:KSz R.Stack:=⟨by have:=hr.s;omega,fun v hv=>by have:=hr.sv v hv;unfold WC at this;omega⟩
   rw [cond_false,ZbG h hs o.Label hV,bS]
   cases d:Xa k.G.Decls o.Label R.Stack s.Known with
   | false=>exact no
   | true=>exact ⟨R.Stack,true,rfl,hV,fun _=>d⟩
 unfold Dz
 cases (o.When != -1) with
 | false=>exact k1
 | true =>
  obtain ⟨R,e,er,hR⟩:=ZdC h hs o.When KSz.nil
  rw [cT,er,bS]
  dsimp only
  cases (e != 0) with
  | true=>exact no
  | false =>
  cases c:((R.Stack.length:Int) != 1) with
  | true=>exact no
  | false =>
  have hl:R.Stack.length=1:=by simp at c;omega
  simp only [cond_false]
  rw [show (0:Int)=((0:Nat):Int) from rfl,Zs,Za (show 0 < R.Stack.length by omega),bS]
  cases (R.Stack[0].Kind != 1) with
  | true=>exact no
  | false =>
  rw [cond_false,bS]
  cases (R.Stack[0].N==((0:Nat):Int)) with
  | true=>exact no
  | false=>exact k1
section
variable (h:WQ N k) {a:ZS} {s:ZM} (hs:Ws k a s) {C:List Int} (hC:C.length≤400) (hCd:∀ z∈C,Cd k a true z)
include h hs hC hCd
theorem Zkt {q:Nat} {y:T9} (hy:k.M.Moves[q]? = some y):0≤y.Label∧y.Label < (k.G.Decls.length:Int):=by
 have hm:=Zb hy
 refine ⟨?_,h.c.a.l y hm⟩
 exact (h.c.a.n.mv y hm).2.2.2.2.1
theorem Zl4 (hA:∀ z∈C,∀ (q:Nat) y,z=(q:Int)→k.M.Moves[q]? = some y→y.Again=false):∀ (r n i:Nat),C.length-i=r→r < n→TC k a s (Qt N k a C n (i:Int)):=by
 intro r
 induction r with
 | zero =>
  intro n i hr hn
  obtain ⟨n,rfl⟩:=pS n (by omega)
  rw [Qt,ZJ (by omega)]
  exact Za4
 | succ r ih =>
  intro n i hr hn
  obtain ⟨n,rfl⟩:=pS n (by omega)
  have hi:i < C.length:=by omega
  obtain ⟨z,hz⟩:∃ x,C[i]? = some x:=⟨_,Za hi⟩
  obtain ⟨q,y,rfl,hy,hf,hsd⟩:=hCd z (Zb hz)
  obtain ⟨l0,l1⟩:=Zkt h hs hC hCd hy
  obtain ⟨R,ok,e,hR,hck⟩:=Zd6 h hs y.Label l0 l1
  rw [Qt,ZG hi,Zs,hz,ZA (by omega)]
  simp only [cT,bS]
  rw [Zs,hy,bS,e,bS]
  dsimp only
  cases ok with
  | false=>exact ih n (i+1) (by omega) (by omega)
  | true=>exact ⟨(q:Int),R,rfl,hR,.inr ⟨q,y,rfl,hy,hf,hsd,hck rfl,fun e=>by rw [hA _ (Zb hz) q y rfl hy] at e;cases e⟩⟩
theorem Zps (waited:Int) (t:W5) (hA:∀ z∈C,∀ (q:Nat) y,z=(q:Int)→k.M.Moves[q]? = some y→y.Again=false):∀ (r n i:Nat),C.length-i=r→r < n→TC k a s (SA N k a waited C t n (i:Int)):=by
 intro r
 induction r with
 | zero =>
  intro n i hr hn
  obtain ⟨n,rfl⟩:=pS n (by omega)
  rw [SA,ZJ (by omega)]
  exact Za4
 | succ r ih =>
  intro n i hr hn
  obtain ⟨n,rfl⟩:=pS n (by omega)
  have hi:i < C.length:=by omega
  obtain ⟨z,hz⟩:∃ x,C[i]? = some x:=⟨_,Za hi⟩
  obtain ⟨q,y,rfl,hy,hf,hsd⟩:=hCd z (Zb hz)
  obtain ⟨l0,l1⟩:=Zkt h hs hC hCd hy
  obtain ⟨R,ok,e,hR,hck⟩:=Zd6 h hs y.Label l0 l1
  have sk:=ih n (i+1) (by omega) (by omega)
  rw [SA,ZG hi,Zs,hz,ZA (by omega)]
  simp only [cT,bS]
  refine Du (fun _=>Du (fun _=>sk) fun _=>?_) fun _=>Za4
  rw [Zs,hy,bS,e,bS]
  dsimp only
  cases ok with
  | false=>exact sk
  | true=>exact ⟨(q:Int),R,rfl,hR,.inr ⟨q,y,rfl,hy,hf,hsd,hck rfl,fun e=>by rw [hA _ (Zb hz) q y rfl hy] at e;cases e⟩⟩
theorem ZmG (waited:Int) (hA:∀ z∈C,∀ (q:Nat) y,z=(q:Int)→k.M.Moves[q]? = some y→y.Again=false):∀ (r n i:Nat),k.M.Timeouts.length-i=r→r < n→TC k a s (Qm N k a waited C n (i:Int)):=by
 have hN:=h.c.hN
 have ht:=h.c.t
 intro r
 induction r with
 | zero =>
  intro n i hr hn
  obtain ⟨n,rfl⟩:=pS n (by omega)
  rw [Qm,ZJ (by omega),cond_false]
  exact Zl4 h hs hC hCd hA _ N 0 rfl (by omega)
 | succ r ih =>
  intro n i hr hn
  obtain ⟨n,rfl⟩:=pS n (by omega)
  have hi:i < k.M.Timeouts.length:=by omega
  rw [Qm,ZG hi,Zs,Za hi,ZA (by omega)]
  simp only [cT,bS]
  exact Du (fun _=>ih n (i+1) (by omega) (by omega)) fun _=>Zps h hs hC hCd waited _ hA _ N 0 rfl (by omega)
theorem Zo3 (waited:Int) (hA:∀ z∈C,∀ (q:Nat) y,z=(q:Int)→k.M.Moves[q]? = some y→y.Again=false):∀ (r n i:Nat),k.P.Offers.length-i=r→r < n→TC k a s (Ue N k a waited C n (i:Int)):=by
 have hN:=h.c.hN
 have ht:=h.c.t
 have ho:=h.p.o
 intro r
 induction r with
 | zero =>
  intro n i hr hn
  obtain ⟨n,rfl⟩:=pS n (by omega)
  rw [Ue,ZJ (by omega),cond_false]
  exact ZmG h hs hC hCd waited hA _ N 0 rfl (by omega)
 | succ r ih =>
  intro n i hr hn
  obtain ⟨n,rfl⟩:=pS n (by omega)
  have hi:i < k.P.Offers.length:=by omega
  obtain ⟨o,hoo⟩:∃ x,k.P.Offers[i]? = some x:=⟨_,Za hi⟩
  rw [Ue,ZG hi,Zs,hoo,cT,bS]
  have inn:∀ (d f j:Nat),C.length-j=d→d < f→TC k a s (TU N k a C (i:Int) (Ue N k a waited C n) o f (j:Int)):=by
   intro d
   induction d with
   | zero =>
    intro f j hd hf
    obtain ⟨f,rfl⟩:∃ z,f=z+1:=⟨f-1,by omega⟩
    rw [TU,ZJ (by omega),cond_false]
    unfold HU
    rw [ZA (by omega)]
    exact ih n (i+1) (by omega) (by omega)
   | succ d ihd =>
    intro f j hd hf
    obtain ⟨f,rfl⟩:∃ z,f=z+1:=⟨f-1,by omega⟩
    have hj:j < C.length:=by omega
    obtain ⟨z,hz⟩:∃ x,C[j]? = some x:=⟨_,Za hj⟩
    obtain ⟨q,y,rfl,hy,hfr,hsd⟩:=hCd z (Zb hz)
    have sk:=ihd f (j+1) (by omega) (by omega)
    rw [TU,ZG hj,Zs,hz,ZA (by omega)]
    simp only [cT,bS]
    rw [Zs,hy,bS]
    refine Du (fun _=>sk) fun _=>Du (fun _=>sk) fun c=>?_
    have hlab:y.Label=o.Label:=by simpa using c
    obtain ⟨V,ok,e,hV,hck⟩:=ZrP h hs o
    rw [e,bS]
    dsimp only
    cases ok with
    | false=>exact sk
    | true=>exact ⟨(q:Int),V,rfl,hV,.inr ⟨q,y,rfl,hy,hfr,hsd,by rw [hlab];exact hck rfl,fun e=>by rw [hA _ (Zb hz) q y rfl hy] at e;cases e⟩⟩
  exact inn _ N 0 rfl (by omega)
theorem ZoM (waited:Int):∀ (r n i:Nat),C.length-i=r→r < n→(∀ j z,j < i→C[j]? = some z→∀ (q:Nat) y,z=(q:Int)→k.M.Moves[q]? = some y→y.Again=false)→TC k a s (Qf N k a waited C n (i:Int)):=by
 have hN:=h.c.hN
 have ho:=h.p.o
 intro r
 induction r with
 | zero =>
  intro n i hr hn hA
  obtain ⟨n,rfl⟩:=pS n (by omega)
  rw [Qf,ZJ (by omega),cond_false]
  refine Zo3 h hs hC hCd waited (fun z hz=>?_) _ N 0 rfl (by omega)
  obtain ⟨j,hj⟩:=List.getElem?_of_mem hz
  exact hA j z (by have:=(List.getElem?_eq_some_iff.1 hj).1;omega) hj
 | succ r ih =>
  intro n i hr hn hA
  obtain ⟨n,rfl⟩:=pS n (by omega)
  have hi:i < C.length:=by omega
  obtain ⟨z,hz⟩:∃ x,C[i]? = some x:=⟨_,Za hi⟩
  obtain ⟨q,y,rfl,hy,hfr,hsd⟩:=hCd z (Zb hz)
  rw [Qf,ZG hi,Zs,hz,ZA (by omega)]
  simp only [cT,bS]
  rw [Zs,hy,bS]
  cases c:y.Again with
  | true =>
   rw [hs.pd,cT,ZbG h hs y.Label hs.ps,bS]
   cases d:Xa k.G.Decls y.Label s.Pending s.Known with
   | false=>exact Za4
   | true=>exact ⟨(q:Int),s.Pending,rfl,hs.ps,.inr ⟨q,y,rfl,hy,hfr,hsd,d,fun _=>rfl⟩⟩
  | false =>
   refine ih n (i+1) (by omega) (by omega) fun j w hj hw q' y' e' hy'=>?_
   by_cases ej:j=i
   ·subst ej
    rw [hz] at hw
    have ew:=Option.some.inj hw
    have:q'=q:=by rw [e'] at ew;omega
    subst this
    rw [hy] at hy'
    obtain rfl:=Option.some.inj hy'
    exact c
   ·exact hA j w (by omega) hw q' y' e' hy'
end
end
section
variable {N:Nat} {k:Z7}
theorem ZdN {α:Type} {xs:List α} (h:xs.length≤4294967296):Z4 ([]:List α) xs=some xs:=by
 rw [Yl (by simp;omega),List.nil_append]
theorem Zpi (h:WQ N k) {a:ZS} {s:ZM} (hs:Ws k a s) (waited:Int):TC k a s (Dq N k a waited):=by
 have hN:=h.c.hN
 have hm:=h.c.a.n.n
 unfold Dq ZaJ
 obtain ⟨C,e,hC,hCd⟩:=ZrB h a _ N 0 [] rfl (by omega) (by simp) (by simp) (Nat.zero_le _)
 rw [show ((0:Nat):Int)=0 from rfl] at e
 rw [e,bS]
 exact ZoM h hs hC hCd waited _ N 0 rfl (by omega) fun j z hj=>absurd hj (Nat.not_lt_zero _)
theorem ZhF (hN:4194304 < N) (g:T5) (hv:YO g.Decls=true):z70 N g=some ((Zx g.Decls).length:Int):=by
 have hl:=Sd hv
 have ZR:∀ (r:List T0) (n i c:Nat),g.Decls.drop i=r→r.length < n→i+r.length≤4194304→c+(Zx r).length≤4194304→Q3 g n (c:Int) (i:Int)=some ((c+(Zx r).length:Nat):Int):=by
  intro r
  induction r with
  | nil =>
   intro n i c hr hn hi hc
   obtain ⟨n,rfl⟩:=pS n (by simp at hn;omega)
   rw [Q3,ZJ (XF hr)]
   rfl
  | cons x r ih =>
   intro n i c hr hn hi hc
   obtain ⟨n,rfl⟩:=pS n (by simp at hn;omega)
   obtain ⟨hk,hx,hr'⟩:=Xr hr
   rw [QE,lA] at hc ⊢
   simp only [Zg] at hn hi
   have e:Zi ((c:Int)+(x.Fields.length:Int))=((c+x.Fields.length:Nat):Int):=by rw [Ym (by omega) (by omega)];omega
   rw [Q3,ZG hk,Zs,hx,ZA (by omega)]
   simp only [cT,bS]
   rw [e,ih n (i+1) _ hr' (by omega) (by omega) (by omega)]
   congr 2
   omega
 have:=ZR g.Decls N 0 0 rfl (by omega) (by omega) (by omega)
 rw [Nat.zero_add] at this
 exact this
theorem ZaH (h:WQ N k) {a:ZS} {s:ZM} (hs:Ws k a s):RV N k a=some true:=by
 unfold RV
 rw [ZhF h.c.hN k.G h.c.a.v,hs.st,hs.kn,hs.vl,hs.hS.k.1,dT (show s.At≥0 from hs.hS.a0),dT hs.hS.a1]
 simp only [cT,bS,beq_self_eq_true]
theorem Znj (h:WQ N k) {a:ZS} {s:ZM} (hs:Ws k a s) (waited:Int):∃ (a':ZS) (x:T3) (ok:Bool),LM N k a waited=some (a',x,ok)∧(ok=true→∃ s',XB N k.G k.M s x=(s',0)∧Ws k a' s'∧Uq x):=by
 obtain ⟨z,V,e,hV,hc⟩:=Zpi h hs waited
 unfold LM
 rw [ZaH h hs,e]
 simp only [bS,Zh,cond_false]
 rcases hc with hz | ⟨q,y,rfl,hy,hf,hsd,hck,hag⟩
 ·rw [dT hz]
  exact ⟨_,_,false,rfl,fun h=>by cases h⟩
 ·obtain ⟨K,e1,e2,e3⟩:=ZjS h hs.hS hy (hf.trans hs.st) hV hck hag
  have hvl:a.Vars.length≤4194304:=by rw [hs.vl];exact h.p.v
  have hVl:=hV.1
  rw [hsd] at e1 e3
  rw [dF (show ¬ (q:Int) < 0 by omega),cond_false,Zs,hy,bS,ZdN (by omega),bS,ZdN (by omega),bS,hs.kn,e2,bS,bS]
  exact ⟨_,_,true,rfl,fun _=>⟨_,e1,⟨rfl,rfl,rfl,hV,hs.vl,hs.vs,e3⟩,⟨hV.1,hV.2⟩⟩⟩
theorem Zpa (h:WQ N k) (st:Int) (b:Bool) (peer label:Int):∃ z,z73 N k.M st b peer label=some z∧(z=-1∨∃ (q:Nat) (y:T9),z=(q:Int)∧k.M.Moves[q]? = some y∧y.From=st∧y.Send=b∧y.Peer=peer∧y.Label=label):=by
 have hN:=h.c.hN
 have hm:=h.c.a.n.n
 obtain ⟨z,ez,hz⟩:=ZaC (fun (y:T9)=>y.From==st && (y.Send==b && (y.Peer==peer && y.Label==label))) (xs:=k.M.Moves) (F:=TE k.M st b peer label) (fun n i x hi hx=>by
  rw [TE,ZG hi,Zs,hx,ZA (by omega)]
  simp only [cT,bS]
  cases (x.From==st)<;>cases (x.Send==b)<;>cases (x.Peer==peer)<;>cases (x.Label==label)<;>rfl) (fun n i hi=>by
  rw [TE,ZJ hi];rfl) _ N 0 rfl (by omega)
 refine ⟨z,ez,?_⟩
 rcases hz with ⟨rfl,_⟩ | ⟨i,y,rfl,hy,hp⟩
 ·exact .inl rfl
 ·simp only [Zc,beq_iff_eq] at hp
  exact .inr ⟨i,y,rfl,hy,hp.1,hp.2.1,hp.2.2.1,hp.2.2.2⟩
theorem Zlp {m:T8} (hv:GO m) {i:Nat} {y:T9} (hy:m.Moves[i]? = some y) (ha:y.Again=true):y.Send=true:=by
 have h:=hv.ap
 unfold RN at h
 rw [Xc] at h
 have h:=h i y hy
 rw [Zc] at h
 have h:=h.1
 unfold QX at h
 rw [ha] at h
 simp only [Zh,Bool.false_or,Zc] at h
 exact h.1
theorem ZlV (h:WQ N k) {a:ZS} {s:ZM} (hs:Ws k a s) (peer label:Int) {V:List Zk} (hV:KSz V):∃ (a':ZS) (e:Int),Lc N k a peer label V=some (a',e)∧(e=0→∃ s',XB N k.G k.M s ⟨k.M.Role,false,peer,label,V⟩=(s',0)∧Ws k a' s'):=by
 have hN:=h.c.hN
 have hh:=h.p.h
 have hvl:a.Vars.length≤4194304:=by rw [hs.vl];exact h.p.v
 have no:∀ e:Int,e≠0→∃ (a':ZS) (e':Int),some ((⟨(0:Int),([]:List Zk),([]:List Zk),([]:List Zk)⟩:ZS),e)=some (a',e')∧(e'=0→∃ s',XB N k.G k.M s ⟨k.M.Role,false,peer,label,V⟩=(s',0)∧Ws k a' s'):=fun e he=>⟨_,e,rfl,fun h=>absurd h he⟩
 obtain ⟨z,ez,hz⟩:=Zpa h a.State false peer label
 unfold Lc
 rw [ZaH h hs,ez,ZbG h hs label hV]
 simp only [bS,Zh,cond_false]
 rcases hz with rfl | ⟨q,y,rfl,hy,hf,hsd,hpe,hla⟩
 ·exact no 23 (by decide)
 ·rw [dF (show ¬ (q:Int) < 0 by omega),cond_false]
  cases hck:Xa k.G.Decls label V s.Known with
  | false=>exact no 23 (by decide)
  | true =>
  obtain ⟨K,e1,e2,e3⟩:=ZjS h hs.hS hy (hf.trans hs.st) hV (by rw [hla];exact hck) fun ha=>by
   have:=Zlp h.x.mv hy ha
   rw [hsd] at this;cases this
  rw [hsd,hpe,hla] at e1
  rw [hsd] at e3
  rw [hla] at e2
  simp only [Zh,cond_false]
  rw [Zs,hy,bS,ZdN (by omega),bS,hs.kn,e2,bS]
  have fin:∀ vars:List Zk,vars.length=k.P.Vars.length→(∀ v∈vars,v.S.size≤4194304)→∃ (a':ZS) (e:Int),Hc y (K,0) vars=some (a',e)∧(e=0→∃ s',XB N k.G k.M s ⟨k.M.Role,false,peer,label,V⟩=(s',0)∧Ws k a' s'):=fun vars h1 h2 =>
   ⟨_,0,rfl,fun _=>⟨_,e1,⟨rfl,rfl,rfl,KSz.nil,h1,h2,e3⟩⟩⟩
  have lp:∀ (r n i:Nat),k.P.Handlers.length-i=r→r < n→∃ (a':ZS) (e:Int),SK N k a peer label V y a.Vars (K,0) n (i:Int)=some (a',e)∧(e=0→∃ s',XB N k.G k.M s ⟨k.M.Role,false,peer,label,V⟩=(s',0)∧Ws k a' s'):=by
   intro r
   induction r with
   | zero =>
    intro n i hr hn
    obtain ⟨n,rfl⟩:=pS n (by omega)
    rw [SK,ZJ (by omega)]
    exact fin a.Vars hs.vl hs.vs
   | succ r ih =>
    intro n i hr hn
    obtain ⟨n,rfl⟩:=pS n (by omega)
    have hi:i < k.P.Handlers.length:=by omega
    obtain ⟨x,hx⟩:∃ x,k.P.Handlers[i]? = some x:=⟨_,Za hi⟩
    have sk:=ih n (i+1) (by omega) (by omega)
    rw [SK,ZG hi,Zs,hx,ZA (by omega)]
    simp only [cT,bS]
    cases (x.Peer != peer) with
    | true=>exact sk
    | false =>
    cases (x.Label != label) with
    | true=>exact sk
    | false =>
    obtain ⟨R,e,er,hR⟩:=ZdC h hs x.Entry hV
    simp only [cond_false]
    rw [er,bS]
    dsimp only
    cases c:(e != 0) with
    | true=>exact no 25 (by decide)
    | false =>
     have hr:=hR (by simpa using c)
     exact fin R.Vars hr.v fun v hv=>by have:=hr.vv v hv;unfold WC at this;omega
  exact lp _ N 0 rfl (by omega)
structure G6 (x:XA):Prop where
 p0:0≤x.Pick
 p1:x.Pick≤255
 v:KSz x.Values
theorem ZnM {a:Int} {n:Nat} (h0:0≤a) (h1:a≤255) (hn:0 < n):∃ q:Nat,q < n∧WL .rem .i64 (Zi a) (n:Int)=some (q:Int):=by
 obtain ⟨b,rfl⟩:=Ze h0
 refine ⟨b % n,Nat.mod_lt _ hn,?_⟩
 rw [Ym (by omega) (by omega)]
 show (bif (n:Int)==0 then none else some ((b:Int).tmod (n:Int)))=_
 rw [show ((n:Int)==0)=false by simp;omega,cond_false,Int.tmod_eq_emod_of_nonneg (by omega)]
 rw [Int.natCast_emod]
theorem ZsF (h:WQ N k) {a:ZS} {s:ZM} (hs:Ws k a s) {x:XA} (hx:G6 x):∃ (p l:Int) (V:List Zk) (ok:Bool),G9 N k a x=some (p,l,V,ok)∧KSz V:=by
 have hN:=h.c.hN
 have hm:=h.c.a.n.n
 have no:∃ (p l:Int) (V:List Zk) (ok:Bool),some ((0:Int),(0:Int),([]:List Zk),false)=some (p,l,V,ok)∧KSz V:=⟨_,_,_,_,rfl,KSz.nil⟩
 have k1:∀ C:List Int,(∀ z∈C,Cd k a false z)→∃ (p l:Int) (V:List Zk) (ok:Bool),LV N k a x C=some (p,l,V,ok)∧KSz V:=fun C hC=>by
  unfold LV
  cases c:((C.length:Int)==0) with
  | true=>exact no
  | false =>
  have hl:0 < C.length:=by
   rcases Nat.eq_zero_or_pos C.length with e | e
   ·rw [e] at c
    exact absurd c (by decide)
   ·exact e
  rw [cond_false,ZaH h hs]
  simp only [bS,Zh,cond_false]
  obtain ⟨q,hq,eq⟩:=ZnM hx.p0 hx.p1 hl
  obtain ⟨z,hz⟩:∃ x,C[q]? = some x:=⟨_,Za hq⟩
  obtain ⟨i,y,rfl,hy,_,_⟩:=hC z (Zb hz)
  have hym:=Zb hy
  obtain ⟨R,ok,e,hR,_⟩:=Zd6 h hs y.Label (h.c.a.n.mv y hym).2.2.2.2.1 (h.c.a.l y hym)
  rw [eq,bS,Zs,hz,bS,Zs,hy,bS,ZbG h hs y.Label hx.v,bS]
  cases Xa k.G.Decls y.Label x.Values s.Known with
  | true=>exact ⟨_,_,_,_,rfl,hx.v⟩
  | false =>
   rw [cond_false,e]
   exact ⟨_,_,_,_,rfl,hR⟩
 have lp:∀ (r n i:Nat) (C:List Int),k.M.Moves.length-i=r→r < n→C.length≤i→i≤k.M.Moves.length→(∀ z∈C,Cd k a false z)→∃ (p l:Int) (V:List Zk) (ok:Bool),Sf N k a x n C (i:Int)=some (p,l,V,ok)∧KSz V:=by
  intro r
  induction r with
  | zero =>
   intro n i C hr hn hl hi hC
   obtain ⟨n,rfl⟩:=pS n (by omega)
   rw [Sf,ZJ (by omega)]
   exact k1 C hC
  | succ r ih =>
   intro n i C hr hn hl hi hC
   obtain ⟨n,rfl⟩:=pS n (by omega)
   have hi':i < k.M.Moves.length:=by omega
   obtain ⟨y,hy⟩:∃ x,k.M.Moves[i]? = some x:=⟨_,Za hi'⟩
   have sk:=ih n (i+1) C (by omega) (by omega) (by omega) (by omega) hC
   rw [Sf,ZG hi',Zs,hy,ZA (by omega)]
   simp only [cT,bS]
   cases c:(y.From==a.State) with
   | false=>exact sk
   | true =>
    cases c2:y.Send with
    | true=>exact sk
    | false =>
     simp only [cT,Bool.not_false]
     rw [Yl (by simp;omega),bS]
     refine ih n (i+1) _ (by omega) (by omega) (by simp;omega) (by omega) fun z hz=>?_
     rcases List.mem_append.1 hz with hz | hz
     ·exact hC z hz
     ·exact ⟨i,y,by simpa using hz,hy,by simpa using c,c2⟩
 exact lp _ N 0 [] rfl (by omega) (by simp) (Nat.zero_le _) (by simp)
theorem ZgO {f:ZM→T3→ZM × Int} {x:T3} {s s':ZM} (hx:f s x=(s',0)):∀ (acc:List T3) (s0:ZM) (c:Nat),Ud f acc s0 c=(s,((c+acc.length:Nat):Int),0)→Ud f (acc++[x]) s0 c=(s',((c+acc.length+1:Nat):Int),0)
  | [],s0,c,h=>by
    have h0:s0=s:=congrArg (·.1) h
    subst h0
    show Ud f [x] s0 c=_
    rw [Ud,hx]
    rfl
  | y::acc,s0,c,h=>by
    show Ud f (y::(acc++[x])) s0 c=_
    rw [Ud] at h ⊢
    cases e:((f s0 y).2 != 0) with
    | true =>
      rw [e] at h
      have h1:(f s0 y).2=0:=congrArg (·.2.2) h
      rw [h1] at e;cases e
    | false =>
      rw [e] at h
      simp only [cond_false] at h ⊢
      rw [Zg] at h ⊢
      rw [show c+(acc.length+1)=c+1+acc.length by omega] at h ⊢
      exact ZgO hx acc _ (c+1) h
theorem ZnS (h:WQ N k) (l:List XA) (hl:l.length≤4194304) (hx:∀ x∈l,G6 x):∀ (r:List XA) (n i:Nat) (a:ZS) (s:ZM) (acc:List T3),l.drop i=r→r.length < n→Ws k a s→Ud (XB N k.G k.M) acc (TY k.G k.M) 0=(s,(acc.length:Int),0)→(∀ x∈acc,Uq x)→acc.length≤i→i≤l.length →
  ∃ (a':ZS) (ev:List T3) (s':ZM),Uc N k l n a.State a.Known a.Vars a.Pending acc (i:Int)=some (a',ev)∧Ws k a' s'∧Ud (XB N k.G k.M) ev (TY k.G k.M) 0=(s',(ev.length:Int),0)∧(∀ x∈ev,Uq x)∧ev.length≤l.length:=by
 intro r
 induction r with
 | nil =>
  intro n i a s acc hr hn hs hrun he ha hi
  obtain ⟨n,rfl⟩:=pS n (by simp at hn;omega)
  rw [Uc,ZJ (XF hr)]
  exact ⟨a,acc,s,rfl,hs,hrun,he,by omega⟩
 | cons x r ih =>
  intro n i a s acc hr hn hs hrun he ha hi
  obtain ⟨n,rfl⟩:=pS n (by simp at hn;omega)
  obtain ⟨hk,hxx,hr'⟩:=Xr hr
  have hxo:=hx x (Zb hxx)
  simp only [Zg] at hn
  have sk:=ih n (i+1) a s acc hr' (by omega) hs hrun he (by omega) (by omega)
  have go:∀ (a':ZS) (s':ZM) (y:T3),XB N k.G k.M s y=(s',0)→Ws k a' s'→Uq y→∃ (a2:ZS) (ev:List T3) (s2:ZM),((Z4 acc [y]).bind fun z=>Uc N k l n a'.State a'.Known a'.Vars a'.Pending z ((i+1:Nat):Int))=some (a2,ev)∧Ws k a2 s2∧Ud (XB N k.G k.M) ev (TY k.G k.M) 0=(s2,(ev.length:Int),0)∧(∀ x∈ev,Uq x)∧ev.length≤l.length:=fun a' s' y h1 h2 h3=>by
   rw [Yl (by simp;omega),bS]
   have hrun':=ZgO h1 acc (TY k.G k.M) 0 (by rw [Nat.zero_add];exact hrun)
   refine ih n (i+1) a' s' (acc++[y]) hr' (by omega) h2 ?_ (fun z hz=>?_) (by simp;omega) (by omega)
   ·rw [hrun',lA]
    simp
   ·rcases List.mem_append.1 hz with hz | hz
    ·exact he z hz
    ·obtain rfl:=List.mem_singleton.1 hz
     exact h3
  rw [Uc,ZG hk,Zs,hxx,ZA (by omega)]
  simp only [cT,bS]
  cases x.Send with
  | true =>
   obtain ⟨a',y,ok,e,hok⟩:=Znj h hs x.Waited
   have e':LM N k ⟨a.State,a.Known,a.Vars,a.Pending⟩ x.Waited=some (a',y,ok):=e
   rw [cT,e',bS]
   dsimp only
   cases ok with
   | false=>exact sk
   | true =>
    obtain ⟨s',h1,h2,h3⟩:=hok rfl
    exact go a' s' y h1 h2 h3
  | false =>
   obtain ⟨p,lb,V,ok,e,hV⟩:=ZsF h hs hxo
   have e':G9 N k ⟨a.State,a.Known,a.Vars,a.Pending⟩ x=some (p,lb,V,ok):=e
   rw [cond_false,e',bS]
   dsimp only
   cases ok with
   | false=>exact sk
   | true =>
    obtain ⟨a',er,e2,h2⟩:=ZlV h hs p lb hV
    have e2':Lc N k ⟨a.State,a.Known,a.Vars,a.Pending⟩ p lb V=some (a',er):=e2
    simp only [Zh,cond_false]
    rw [e2',bS]
    dsimp only
    cases c:(er==0) with
    | false=>exact sk
    | true =>
     obtain ⟨s',h1,h3⟩:=h2 (by simpa using c)
     exact go a' s' _ h1 h3 ⟨hV.1,hV.2⟩
theorem ZqY (h:WQ N k):∃ a,BO N k=some a∧Ws k a (TY k.G k.M):=by
 have hN:=h.c.hN
 have hv:=h.p.v
 have hl:=(Sd h.c.a.v).2
 unfold BO
 have em:YG (⟨0,0,str []⟩:Zk) ((Zx k.G.Decls).length:Int) ((Zx k.G.Decls).length:Int)=some (List.replicate (Zx k.G.Decls).length ⟨0,0,str []⟩):=by
  unfold YG
  rw [dT (show (0:Int)≤((Zx k.G.Decls).length:Int) by omega),dT (Int.le_refl _),dT (show ((Zx k.G.Decls).length:Int)≤4294967296 by omega)]
  rfl
 rw [ZhF hN k.G h.c.a.v,bS,em,bS]
 have lp:∀ (r:List Tf) (n i:Nat) (acc:List Zk),k.P.Vars.drop i=r→r.length < n→acc.length=i→i≤k.P.Vars.length→(∀ v∈acc,v.S.size≤4194304)→∃ vars,Qu k (List.replicate (Zx k.G.Decls).length ⟨0,0,str []⟩) n acc (i:Int)=some ⟨k.M.Start,List.replicate (Zx k.G.Decls).length ⟨0,0,str []⟩,vars,[]⟩∧vars.length=k.P.Vars.length∧∀ v∈vars,v.S.size≤4194304:=by
  intro r
  induction r with
  | nil =>
   intro n i acc hr hn ha hi hz
   obtain ⟨n,rfl⟩:=pS n (by simp at hn;omega)
   have:=XF hr
   rw [Qu,ZJ this]
   exact ⟨acc,rfl,by omega,hz⟩
  | cons x r ih =>
   intro n i acc hr hn ha hi hz
   obtain ⟨n,rfl⟩:=pS n (by simp at hn;omega)
   obtain ⟨hk,hxx,hr'⟩:=Xr hr
   simp only [Zg] at hn
   rw [Qu,ZG hk,Zs,hxx,ZA (by omega)]
   simp only [cT,bS]
   rw [Yl (by simp;omega),bS]
   refine ih n (i+1) _ hr' (by omega) (by simp;omega) (by omega) fun v hv'=>?_
   rcases List.mem_append.1 hv' with hv' | hv'
   ·exact hz v hv'
   ·obtain rfl:=List.mem_singleton.1 hv'
    exact (h.p.vn x (Zb hxx)).2
 obtain ⟨vars,e,h1,h2⟩:=lp k.P.Vars N 0 [] rfl (by omega) rfl (Nat.zero_le _) (by simp)
 exact ⟨_,e,⟨rfl,rfl,rfl,KSz.nil,h1,h2,Zek h.c⟩⟩
theorem Zro (hN:4194304 < N) (l:List Zk) (hl:l.length≤4194304):TO N l l=some true:=by
 unfold TO
 rw [show ((l.length:Int) != (l.length:Int))=false by simp,cond_false]
 have ZR:=Pv (F:=VP l l) (len:=l.length) (e:=some true) (fun _=>True) (fun n i hi=>by
  rw [VP,ZG hi,Zs,Za hi,ZA (by omega)]
  simp only [cT,bS,beq_self_eq_true,Bool.and_self,Zh,cond_false]
  exact .inr ⟨trivial,trivial⟩) (fun n i hi=>by rw [VP,ZJ hi];rfl)
 have tr:∀ (d n i:Nat),l.length-i=d→d < n→VP l l n (i:Int)=some true:=by
  intro d
  induction d with
  | zero =>
   intro n i hd hn
   obtain ⟨n,rfl⟩:=pS n (by omega)
   rw [VP,ZJ (by omega)];rfl
  | succ d ih =>
   intro n i hd hn
   obtain ⟨n,rfl⟩:=pS n (by omega)
   rw [VP,ZG (show i < l.length by omega),Zs,Za (show i < l.length by omega),ZA (by omega)]
   simp only [cT,bS,beq_self_eq_true,Bool.and_self,Zh,cond_false]
   exact ih n (i+1) (by omega) (by omega)
 exact tr _ N 0 rfl (by omega)
theorem Zl6 (h:WQ N k) (l:List XA) (hl:l.length≤4194304) (hx:∀ x∈l,G6 x):M3 N k l=some true:=by
 have hN:=h.c.hN
 obtain ⟨a0,e0,hs0⟩:=ZqY h
 obtain ⟨a,ev,s,e1,hs,hrun,he,hel⟩:=ZnS h l hl hx l N 0 a0 _ [] rfl (by omega) hs0 rfl (by simp) (by simp) (Nat.zero_le _)
 rw [show ((0:Nat):Int)=0 from rfl] at e1
 unfold M3 z13
 rw [e0,bS,e1,bS,ZqB h.c ev (by omega) he,hrun,bS]
 have hkl:=Lz h.c hs.hS
 have b0:((0:Int)==0)=true:=rfl
 dsimp only
 rw [b0,beq_self_eq_true,hs.st,beq_self_eq_true,hs.kn,Zro hN _ hkl]
 simp only [cT,bS]
 unfold Bf z16
 have hfl:=h.c.a.n.f
 obtain ⟨c,hc⟩:=Ze hs.hS.a0
 have h1:=hs.hS.a1
 rw [Zg5 h.c hs.hS,ZaH h hs,hs.st]
 simp only [bS,cT]
 rw [dT (show s.At < (k.M.Finals.length:Int) by omega),hc,Zs,Za (show c < k.M.Finals.length by omega)]
 simp only [bS,cT,beq_self_eq_true]
theorem Zoc (hN:4194304 < N) (p:Z6) (hp:UG p):∃ b,Ds N p=some b:=by
 have hv:=hp.v
 have hc:=hp.c
 unfold Ds
 refine UU (F:=Qo N p) (len:=p.Code.length) (fun n i hi ih=>?_) (fun n i hi=>?_) _ N 0 rfl (by omega)
 ·rw [Qo,ZG hi,Zs,Za hi,ZA (by omega)]
  simp only [cT,bS]
  exact YC (fun _=>Yt _) fun _=>ih
 ·rw [Qo,ZJ hi,cond_false]
  unfold DY
  refine UU (F:=Qb p) (len:=p.Vars.length) (fun n i hi ih=>?_) (fun n i hi=>?_) _ N 0 rfl (by omega)
  ·rw [Qb,ZG hi,Zs,Za hi,ZA (by omega)]
   simp only [cT,bS]
   exact YC (fun _=>Yt _) fun _=>YC (fun _=>Yt _) fun _=>ih
  ·rw [Qb,ZJ hi,cond_false]
   unfold G7
   exact YC (fun _=>YC (fun _=>YC (fun _=>YC (fun _=>Yt _) fun _=>Yt _) fun _=>Yt _) fun _=>Yt _) fun _=>Yt _
structure Zep (k:Z7):Prop where
 g:Ua k.G
 n:VX k.G
 e:Uh k.G
 t:k.M.Timeouts.length≤4194304
 p:UG k.P
theorem Zrp (hN:4194304 < N) (h:Zep k):∃ b,HT N k=some b:=by
 unfold HT z22 z23 z45
 obtain ⟨b1,e1,_⟩:=Zsb k.G.Decls h.g.d k.G.Decls N 0 0 rfl (by have:=h.g.d;omega)
 rw [show ((0:Nat):Int)=0 from rfl] at e1
 obtain ⟨b2,e2⟩:=Zoc hN k.P h.p
 rw [e1,e2]
 simp only [bS]
 cases decide (k.G.States≤40)<;>cases decide ((k.G.Edges.length:Int)≤80)<;>cases decide ((k.G.Timeouts.length:Int)≤40)<;>cases decide ((k.G.Roles.length:Int)≤10)<;>cases b1 <;>
  cases decide (k.M.States≤40)<;>cases decide ((k.M.Finals.length:Int)≤45)<;>cases decide ((k.M.Moves.length:Int)≤80)<;>cases decide ((k.M.Timeouts.length:Int)≤45)<;>exact ⟨_,rfl⟩
theorem ZtY (hN:16777217 < N) (h:Zep k):∃ b,GC N k=some b∧(b=true→WQ N k):=by
 have hN':4194304 < N:=by omega
 obtain ⟨b0,e0,f0,h0⟩:=ZjN hN' k.G h.g h.n h.e k.M h.t
 obtain ⟨z,ez⟩:=Zoe hN h.p k.G.Decls fun x hx=>(h.g.dd x hx).f
 obtain ⟨b1,_,f1,_⟩:=Zg4 hN' k.G h.g h.n h.e
 obtain ⟨b2,_,f2,h2⟩:=Zj7 hN' k.M h.t
 have no:∃ b,some false=some b∧(b=true→WQ N k):=⟨false,rfl,fun h=>by cases h⟩
 unfold ZcC at f0
 unfold GC
 rw [f1,f2] at f0 ⊢
 simp only [bS] at f0 ⊢
 cases b1 with
 | false=>exact no
 | true =>
 cases b2 with
 | false=>exact no
 | true =>
 have hm:=(h2 rfl).n.n
 simp only [Zh,cond_false] at f0 ⊢
 cases c:decide (k.M.Role≥(k.G.Roles.length:Int)) with
 | true=>exact no
 | false =>
 rw [c] at f0
 cases (k.P.Role != k.M.Role) with
 | true=>exact no
 | false =>
 simp only [cond_false] at f0 ⊢
 have ZR:=Pv (F:=Rk N k) (len:=k.M.Moves.length) (e:=Lh N k) (fun i=>∀ x,k.M.Moves[i]? = some x→decide (x.Peer≥(k.G.Roles.length:Int))=false∧decide (x.Label≥(k.G.Decls.length:Int))=false) (fun n i hi=>by
  obtain ⟨x,hx⟩:∃ x,k.M.Moves[i]? = some x:=⟨_,Za hi⟩
  rw [Rk,ZG hi,Zs,hx,ZA (by omega)]
  simp only [cT,bS]
  cases d1:decide (x.Peer≥(k.G.Roles.length:Int)) with
  | true=>exact .inl rfl
  | false =>
  cases d2:decide (x.Label≥(k.G.Decls.length:Int)) with
  | true=>exact .inl rfl
  | false=>exact .inr ⟨rfl,fun y hy=>by
    obtain rfl:=Option.some.inj hy
    exact ⟨d1,d2⟩⟩) (fun n i hi=>by rw [Rk,ZJ hi];rfl) _ N 0 rfl (by omega)
 rw [show ((0:Nat):Int)=0 from rfl] at ZR
 rcases ZR with e | ⟨e,hall⟩
 ·exact ⟨false,e,fun h=>by cases h⟩
 ·have tr:∀ (d n i:Nat),k.M.Moves.length-i=d→d < n→SL k.G k.M n (i:Int)=some true:=by
   intro d
   induction d with
   | zero =>
    intro n i hd hn
    obtain ⟨n,rfl⟩:=pS n (by omega)
    rw [SL,ZJ (by omega)];rfl
   | succ d ih =>
    intro n i hd hn
    obtain ⟨n,rfl⟩:=pS n (by omega)
    have hi:i < k.M.Moves.length:=by omega
    obtain ⟨x,hx⟩:∃ x,k.M.Moves[i]? = some x:=⟨_,Za hi⟩
    obtain ⟨d1,d2⟩:=hall i (Nat.zero_le _) hi x hx
    rw [SL,ZG hi,Zs,hx,ZA (by omega)]
    simp only [cT,bS]
    rw [d1,d2]
    exact ih n (i+1) (by omega) (by omega)
  have t0:=tr _ N 0 rfl (by omega)
  rw [show ((0:Nat):Int)=0 from rfl] at t0
  rw [t0] at f0
  obtain rfl:=Option.some.inj f0
  refine ⟨z.2==0,?_,fun _=>⟨⟨hN',h.g,h.n,h.t,(h0 rfl).a,e0⟩,h0 rfl,h.e,h.p⟩⟩
  rw [e]
  unfold Lh
  rw [ez];rfl
theorem ZlX (hN:16777217 < N) (ha:z5 N=some true) (hk:Zep k) (l:List XA) (hl:l.length≤4194304) (hx:∀ x∈l,G6 x):SX N k l=some true:=by
 have hN':4194304 < N:=by omega
 obtain ⟨b1,e1⟩:=Zrp hN' hk
 obtain ⟨b2,e2,h2⟩:=ZtY hN hk
 unfold SX
 rw [ha,e1]
 simp only [bS,Zh,cond_false]
 cases b1 with
 | false=>rfl
 | true =>
 simp only [Zh,cond_false]
 cases decide ((l.length:Int) > 30) with
 | true=>rfl
 | false =>
 rw [cond_false,e2,bS]
 cases b2 with
 | false=>rfl
 | true =>
 have hK:=h2 rfl
 simp only [Zh,cond_false]
 have lp:∀ (d n i:Nat),l.length-i=d→d < n→RD N k l n (i:Int)=some true:=by
  intro d
  induction d with
  | zero =>
   intro n i hd hn
   obtain ⟨n,rfl⟩:=pS n (by omega)
   rw [RD,ZJ (by omega)]
   exact Zl6 hK l hl hx
  | succ d ih =>
   intro n i hd hn
   obtain ⟨n,rfl⟩:=pS n (by omega)
   have hi:i < l.length:=by omega
   obtain ⟨x,hxx⟩:∃ x,l[i]? = some x:=⟨_,Za hi⟩
   obtain ⟨b,e⟩:=Zqp hN' x.Values (hx x (Zb hxx)).v.1
   rw [RD,ZG hi,Zs,hxx,ZA (by omega)]
   simp only [cT,bS]
   rw [e]
   simp only [bS]
   cases b with
   | false=>rfl
   | true=>exact ih n (i+1) (by omega) (by omega)
 exact lp _ N 0 rfl (by omega)
end
end Gp
section
namespace Gx
open Go Go.Kx
def ZfQ (x:Yg):Prop:=((Lit.int .i64 x.Kind).wf=true)∧((Lit.int .i64 x.Lo).wf=true)∧((Lit.int .i64 x.Hi).wf=true)
def Zfs (x:T4):Prop:=(x.Name.size≤bd)∧(ZfQ x.Sort')
def Zex (x:T1):Prop:=((Lit.int .i64 x.X).wf=true)∧((Lit.int .i64 x.Y).wf=true)∧((Lit.int .i64 x.C).wf=true)
def Ziu (x:T6):Prop:=(x.Diffs.length≤bd∧∀ y∈x.Diffs,Zex y)∧(x.Equals.length≤bd∧∀ y∈x.Equals,((Lit.int .i64 y.1).wf=true)∧((Lit.int .i64 y.2).wf=true))
def Gy (x:T0):Prop:=(x.Name.size≤bd)∧(x.Fields.length≤bd∧∀ y∈x.Fields,Zfs y)∧((Lit.int .i64 x.First).wf=true)∧(Ziu x.Guard)
def Zkw (x:T7):Prop:=((Lit.int .i64 x.From).wf=true)∧((Lit.int .i64 x.To).wf=true)∧((Lit.int .i64 x.Label).wf=true)
def ZfU (x:T2):Prop:=((Lit.int .i64 x.From).wf=true)∧(Zkw x.Act)∧((Lit.int .i64 x.To).wf=true)∧(True)
def Zbq (x:W5):Prop:=((Lit.int .i64 x.State).wf=true)∧((Lit.int .i64 x.Ticks).wf=true)∧((Lit.int .i64 x.Else).wf=true)
def DQ (x:T5):Prop:=(x.Name.size≤bd)∧(x.Roles.length≤bd∧∀ y∈x.Roles,y.size≤bd)∧(x.Decls.length≤bd∧∀ y∈x.Decls,Gy y)∧((Lit.int .i64 x.States).wf=true)∧((Lit.int .i64 x.Start).wf=true)∧((Lit.int .i64 x.End).wf=true)∧(x.Edges.length≤bd∧∀ y∈x.Edges,ZfU y)∧(x.Timeouts.length≤bd∧∀ y∈x.Timeouts,Zbq y)
def ZeH (x:T9):Prop:=((Lit.int .i64 x.From).wf=true)∧(True)∧((Lit.int .i64 x.Peer).wf=true)∧((Lit.int .i64 x.Label).wf=true)∧((Lit.int .i64 x.To).wf=true)∧(True)
def ZdM (x:T8):Prop:=((Lit.int .i64 x.Role).wf=true)∧((Lit.int .i64 x.States).wf=true)∧((Lit.int .i64 x.Start).wf=true)∧(x.Finals.length≤bd∧∀ y∈x.Finals,True)∧(x.Moves.length≤bd∧∀ y∈x.Moves,ZeH y)∧(x.Timeouts.length≤bd∧∀ y∈x.Timeouts,Zbq y)
def Zbm (x:Zk):Prop:=((Lit.int .i64 x.Kind).wf=true)∧((Lit.int .i64 x.N).wf=true)∧(x.S.size≤bd)
def Zfx (x:Tf):Prop:=(x.Name.size≤bd)∧(ZfQ x.Sort')∧(Zbm x.Init)
def Zfj (x:L9):Prop:=((Lit.int .i64 x.Peer).wf=true)∧((Lit.int .i64 x.Label).wf=true)∧((Lit.int .i64 x.Entry).wf=true)
def ZfD (x:U2):Prop:=((Lit.int .i64 x.Peer).wf=true)∧((Lit.int .i64 x.Label).wf=true)∧((Lit.int .i64 x.When).wf=true)∧((Lit.int .i64 x.Args).wf=true)
def Zfe (x:Wy):Prop:=((Lit.int .i64 x.Op).wf=true)∧((Lit.int .i64 x.N).wf=true)∧(x.S.size≤bd)
def ZeW (x:Z6):Prop:=(x.Name.size≤bd)∧((Lit.int .i64 x.Role).wf=true)∧(x.Vars.length≤bd∧∀ y∈x.Vars,Zfx y)∧(x.Handlers.length≤bd∧∀ y∈x.Handlers,Zfj y)∧(x.Offers.length≤bd∧∀ y∈x.Offers,ZfD y)∧(x.Code.length≤bd∧∀ y∈x.Code,Zfe y)
def LB (x:Z7):Prop:=(DQ x.G)∧(ZdM x.M)∧(ZeW x.P)
def RL (x:XA):Prop:=(True)∧((Lit.int .i64 x.Waited).wf=true)∧((Lit.int .u8 x.Pick).wf=true)∧(x.Values.length≤bd∧∀ y∈x.Values,Zbm y)
end Gx
end
section
namespace Gp
open Go Go.Kx Gx
set_option maxRecDepth 100000
theorem Zmo (k:Nat):z5 (k+300)=some true:=by kernel_rfl
theorem ZqL {x:T0} (h:Gy x):Wk x:=by
 obtain ⟨_,h1,_,h2⟩:=h
 exact ⟨by have:=h1.1;unfold bd at this;omega,by have:=h2.1.1;unfold bd at this;omega,by have:=h2.2.1;unfold bd at this;omega⟩
theorem ZpI {x:T0} (h:Gy x):TN x:=by
 obtain ⟨h0,h1,_,h2⟩:=h
 exact ⟨by unfold bd at h0;omega,fun f hf=>by have:=(h1.2 f hf).1;unfold bd at this;omega⟩
theorem Zjv {n:Int} (h:(Lit.int .i64 n).wf=true):I64 n:=by
 simp [Lit.wf,IntKind.min,IntKind.max,IntKind.signed,IntKind.bits] at h
 constructor<;>omega
theorem Zj3 {n:Int} (h:(Lit.int .u8 n).wf=true):0≤n∧n≤255:=by
 simp [Lit.wf,IntKind.min,IntKind.max,IntKind.signed,IntKind.bits] at h
 constructor<;>omega
theorem ZmD {x:T5} (h:DQ x):Uh x:=by
 obtain ⟨_,h1,h2,_,_,_,h3,h4⟩:=h
 intro e he
 have:=(h3.2 e he).2.1
 exact ⟨Zjv this.2.1,Zjv this.2.2⟩
theorem Zoi {g:T5} (h:DQ g):Ua g:=by
 obtain ⟨g1,g2,g3,_,_,_,g4,g5⟩:=h
 refine ⟨?_,?_,fun x hx=>ZqL (g3.2 x hx),?_,?_⟩
 ·have:=g2.1;unfold bd at this;omega
 ·have:=g3.1;unfold bd at this;omega
 ·have:=g4.1;unfold bd at this;omega
 ·have:=g5.1;unfold bd at this;omega
theorem Zth {g:T5} (h:DQ g):VX g:=by
 obtain ⟨g1,g2,g3,_,_,_,g4,g5⟩:=h
 refine ⟨?_,fun s hs=>?_,fun x hx=>ZpI (g3.2 x hx)⟩
 ·unfold bd at g1;omega
 ·have:=g2.2 s hs;unfold bd at this;omega
theorem Zmj {m:T8} (h:ZdM m):m.Timeouts.length≤4194304:=by
 obtain ⟨_,_,_,_,_,m1⟩:=h
 have:=m1.1;unfold bd at this;omega
theorem ZrG {p:Z6} (h:ZeW p):UG p:=by
 obtain ⟨p1,_,p2,p3,p4,p5⟩:=h
 refine ⟨?_,?_,fun x hx=>?_,?_,fun x hx=>?_,?_,?_⟩
 ·unfold bd at p1;omega
 ·have:=p2.1;unfold bd at this;omega
 ·obtain ⟨a,_,b⟩:=p2.2 x hx
  have c:=b.2.2
  unfold bd at a c
  exact ⟨by omega,by omega⟩
 ·have:=p5.1;unfold bd at this;omega
 ·have:=(p5.2 x hx).2.2;unfold bd at this;omega
 ·have:=p3.1;unfold bd at this;omega
 ·have:=p4.1;unfold bd at this;omega
theorem Zli {x:XA} (h:RL x):G6 x:=by
 obtain ⟨_,_,h1,h2⟩:=h
 refine ⟨(Zj3 h1).1,(Zj3 h1).2,?_,fun v hv=>?_⟩
 ·have:=h2.1;unfold bd at this;omega
 ·have:=(h2.2 v hv).2.2;unfold bd at this;omega
theorem plain:∀ (x0:Z7) (x1:(List XA)),LB x0→(x1.length≤bd∧∀ y∈x1,RL y)→∃ N,SX N x0 x1=some true:=by
 intro k l hk hl
 obtain ⟨h1,h2,h3⟩:=hk
 exact ⟨33554432+300,ZlX (by omega) (Zmo _) ⟨Zoi h1,Zth h1,ZmD h1,Zmj h2,ZrG h3⟩ l (by have:=hl.1;unfold bd at this;omega) fun x hx=>Zli (hl.2 x hx)⟩
end Gp
end
