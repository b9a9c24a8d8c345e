/- Aids for the walks, part 1: a symbolic state of the machine, and that each step of the machine keeps it. -/
import Derived.Calls
import Derived.Laws.Sem
import Derived.Laws.Cells
import Derived.Laws.Rows
set_option linter.all false
section
namespace Go.Kx
universe u
def look {α:Type u}:List (Nat × α)→Nat→Option α
 | [],_=>none
 | (k,v)::t,d=>bif Nat.beq k d then some v else look t d
theorem look_cons {α:Type u} (k:Nat) (v:α) (t:List (Nat × α)) (d:Nat):look ((k,v)::t) d=if k=d then some v else look t d:=by
 show (bif Nat.beq k d then some v else look t d)=_
 by_cases h:k=d
 ·subst h;simp
 ·have:Nat.beq k d=false:=by
   cases hb:Nat.beq k d
   ·rfl
   ·exact absurd (Nat.eq_of_beq_eq_true hb) h
  rw [this,if_neg h];rfl
abbrev FSet:=Nat→Prop
inductive SC where
 | i (k:IntKind) (n:Int)
 | b (t:Bool)
 | s (x:ByteArray)
 | v (x:Value)
 | sl (k:Nat)
 | nil
 | bp (k off:Nat)
 | px (k off:Nat)
 | cl (f:FuncId) (fs ks:List Nat)
 | sp (k i len es:Nat)
inductive SV where
 | c (x:SC)
 | a (cs:List SC)
 | t (vs:List (SC ⊕ List SC))
 | u
structure Env where
 ρ:Nat→Value
 β:Nat→Nat
def Env.setρ (E:Env) (k:Nat) (v:Value):Env:={ E with ρ:=fun j=>if j=k then v else E.ρ j }
def Env.setβ (E:Env) (k:Nat) (b:Nat):Env:={ E with β:=fun j=>if j=k then b else E.β j }
def addP (v:Value) (n:Nat):Value :=
 match v with
 | .pointer (some a)=>.pointer (some ⟨a.block,a.off+n,none⟩)
 | .slice (some a) _ _=>.pointer (some ⟨a.block,a.off+n,none⟩)
 | x=>x
def denB (E:Env) (ks:List Nat):Array Value:=(ks.map fun k=>Value.pointer (some ⟨E.β k,0,none⟩)).toArray
def capOf:Value→Nat
 | .slice _ _ c=>c
 | _=>0
def den (E:Env):SC→Value
 | .i k n=>.int k n
 | .b t=>.bool t
 | .s x=>.string x
 | .v x=>x
 | .sl k=>E.ρ k
 | .nil=>.slice none 0 0
 | .bp k off=>.pointer (some ⟨E.β k,off,none⟩)
 | .px k off=>addP (E.ρ k) off
 | .cl f fs ks=>.func (.func f) (denB E fs) (denB E ks)
 | .sp k i len es=>.slice (some ⟨E.β k,i * es,none⟩) len (capOf (E.ρ k)-i)
def denS (E:Env):SC ⊕ List SC→Value
 | .inl x=>den E x
 | .inr cs=>.agg (cs.map (den E)).toArray
def denV (E:Env):SV→Value
 | .c x=>den E x
 | .a cs=>.agg (cs.map (den E)).toArray
 | .t vs=>.tuple (vs.map (denS E)).toArray
 | .u=>undef
def SC.kb (n:Nat):SC→Prop
 | .sl k | .bp k _ | .px k _ | .sp k _ _ _=>k < n
 | .cl _ fs ks=>(∀ k∈fs,k < n)∧∀ k∈ks,k < n
 | .v x=>x.oneCell'=true
 | _=>True
def SV.kb (n:Nat):SV→Prop
 | .c x=>x.kb n
 | .a cs=>∀ x∈cs,SC.kb n x
 | .t vs=>∀ v∈vs,match v with | .inl x=>SC.kb n x | .inr cs=>∀ x∈cs,SC.kb n x
 | .u=>True
theorem SC.kb.mono {n m:Nat} (h:n≤m):∀ {x:SC},x.kb n→x.kb m
 | .sl _,hx | .bp _ _,hx | .px _ _,hx | .sp _ _ _ _,hx=>Nat.lt_of_lt_of_le hx h
 | .v _,hx=>hx
 | .cl _ _ _,hx=>⟨fun k hk=>Nat.lt_of_lt_of_le (hx.1 k hk) h,fun k hk=>Nat.lt_of_lt_of_le (hx.2 k hk) h⟩
 | .i _ _,_ | .b _,_ | .s _,_ | .nil,_=>trivial
theorem SV.kb.mono {n m:Nat} (h:n≤m):∀ {x:SV},x.kb n→x.kb m
 | .c _,hx=>SC.kb.mono h hx
 | .a _,hx=>fun y hy=>(hx y hy).mono h
 | .t _,hx=>fun v hv=>by
  have:=hx v hv
  cases v with
  | inl x=>exact SC.kb.mono h this
  | inr cs=>exact fun y hy=>SC.kb.mono h (this y hy)
 | .u,_=>trivial
def Env.Eqb (n:Nat) (E E':Env):Prop:=∀ k,k < n→E'.ρ k=E.ρ k∧E'.β k=E.β k
theorem Env.Eqb.refl (n:Nat) (E:Env):E.Eqb n E:=fun _ _=>⟨rfl,rfl⟩
theorem Env.Eqb.trans {n:Nat} {A B C:Env} (h:A.Eqb n B) (g:B.Eqb n C):A.Eqb n C :=
 fun k hk=>⟨(g k hk).1.trans (h k hk).1,(g k hk).2.trans (h k hk).2⟩
theorem Env.Eqb.mono {n m:Nat} {A B:Env} (h:A.Eqb m B) (hn:n≤m):A.Eqb n B:=fun k hk=>h k (Nat.lt_of_lt_of_le hk hn)
theorem Env.eqb_setρ (E:Env) (n k:Nat) (v:Value) (h:n≤k):E.Eqb n (E.setρ k v) :=
 fun j hj=>⟨by simp [Env.setρ,Nat.ne_of_lt (Nat.lt_of_lt_of_le hj h)],rfl⟩
theorem Env.eqb_setβ (E:Env) (n k b:Nat) (h:n≤k):E.Eqb n (E.setβ k b) :=
 fun j hj=>⟨rfl,by simp [Env.setβ,Nat.ne_of_lt (Nat.lt_of_lt_of_le hj h)]⟩
theorem denB_eqb {n:Nat} {E E':Env} (h:E.Eqb n E') {ks:List Nat} (hk:∀ k∈ks,k < n):denB E' ks=denB E ks:=by
 unfold denB
 rw [List.map_congr_left fun k hm=>by rw [(h k (hk k hm)).2]]
theorem den_eqb {n:Nat} {E E':Env} (h:E.Eqb n E'):∀ {x:SC},x.kb n→den E' x=den E x
 | .sl k,hx=>(h k hx).1
 | .bp k o,hx=>by simp [den,(h k hx).2]
 | .px k o,hx=>by simp [den,(h k hx).1]
 | .cl f fs ks,hx=>by simp only [den,denB_eqb h hx.1,denB_eqb h hx.2]
 | .sp k i len es,hx=>by simp only [den,(h k hx).1,(h k hx).2]
 | .i _ _,_ | .b _,_ | .s _,_ | .v _,_ | .nil,_=>rfl
theorem den_map_eqb {n:Nat} {E E':Env} (h:E.Eqb n E') {cs:List SC} (hc:∀ x∈cs,SC.kb n x):cs.map (den E')=cs.map (den E) :=
 List.map_congr_left fun x hx=>den_eqb h (hc x hx)
theorem denV_eqb {n:Nat} {E E':Env} (h:E.Eqb n E'):∀ {x:SV},x.kb n→denV E' x=denV E x
 | .c _,hx=>den_eqb h hx
 | .a cs,hx=>by simp only [denV,den_map_eqb h hx]
 | .t vs,hx=>by
  simp only [denV]
  have:vs.map (denS E')=vs.map (denS E):=List.map_congr_left fun v hv=>by
   have hk:=hx v hv
   cases v with
   | inl x=>exact den_eqb h hk
   | inr cs=>simp only [denS,den_map_eqb h hk]
  rw [this]
 | .u,_=>rfl
structure Grow (F:FSet) (w:World) (F':FSet) (w':World):Prop where
 sub:∀ b,F b→F' b
 same:∀ b,F b→w'.heap[b]? = w.heap[b]?
theorem Grow.refl (F:FSet) (w:World):Grow F w F w:=⟨fun _ h=>h,fun _ _=>rfl⟩
theorem Grow.trans {F w F' w' F'' w''} (h:Grow F w F' w') (g:Grow F' w' F'' w''):Grow F w F'' w'' :=
 ⟨fun b hb=>g.sub b (h.sub b hb),fun b hb=>(g.same b (h.sub b hb)).trans (h.same b hb)⟩
structure TRep (α:Type) where
 sz:Nat
 pos:0 < sz
 rep:FSet→World→α→List Value→Prop
 len:∀ {F w x vs},rep F w x vs→vs.length=sz
 mono:∀ {F w F' w' x vs},Grow F w F' w'→rep F w x vs→rep F' w' x vs
 one:∀ {F w x vs},rep F w x vs→∀ v∈vs,v.oneCell'=true
def Row {α:Type} (R:TRep α) (F:FSet) (w:World) (xs:List α) (arr:Array Value) (off:Nat):Prop :=
 ∀ (i:Nat) (x:α),xs[i]? = some x→∃ vs,R.rep F w x vs∧∀ (j:Nat) (v:Value),vs[j]? = some v→arr[off+i * R.sz+j]? = some v
theorem Row.mono {α:Type} {R:TRep α} {F w F' w' xs arr off} (g:Grow F w F' w') (h:Row R F w xs arr off):Row R F' w' xs arr off :=
 fun i x hx=>let ⟨vs,hr,hv⟩:=h i x hx;⟨vs,R.mono g hr,hv⟩
def SlR {α:Type} (R:TRep α) (F:FSet) (w:World) (xs:List α) (v:Value):Prop :=
 (xs=[]∧∃ a c,v=.slice a 0 c)∨∃ (b off cap:Nat) (arr:Array Value) (el:TypeId) (fz:Nat × Nat),v=.slice (some ⟨b,off,none⟩) xs.length cap∧xs.length≤cap∧F b ∧
  w.heap[b]? = some (.cells arr el fz)∧Row R F w xs arr off
theorem SlR.mono {α:Type} {R:TRep α} {F w F' w' xs v} (g:Grow F w F' w') (h:SlR R F w xs v):SlR R F' w' xs v:=by
 rcases h with h | ⟨b,off,cap,arr,el,fz,hv,hc,hF,hh,hr⟩
 ·exact .inl h
 ·exact .inr ⟨b,off,cap,arr,el,fz,hv,hc,g.sub b hF,by rw [g.same b hF];exact hh,hr.mono g⟩
def ThawAt (fz:Nat × Nat) (n:Nat):Prop:=∀ j,j < n→(decide (fz.1≤j) && decide (j < fz.2))=false
def OwnR {α:Type} (R:TRep α) (F:FSet) (w:World) (xs:List α) (v:Value):Prop :=
 (xs=[]∧v=.slice none 0 0)∨∃ (b off cap:Nat) (arr:Array Value) (el:TypeId) (fz:Nat × Nat),v=.slice (some ⟨b,off,none⟩) xs.length cap∧xs.length≤cap ∧
  off+cap * R.sz≤arr.size∧ThawAt fz arr.size∧w.heap[b]? = some (.cells arr el fz)∧Row R F w xs arr off
def blockOf:Value→Option Nat
 | .slice (some a) _ _=>some a.block
 | .map (some b)=>some b
 | _=>none
theorem OwnR.mono {α:Type} {R:TRep α} {F w F' w' xs v} (g:Grow F w F' w') (hb:∀ b,blockOf v=some b→w'.heap[b]? = w.heap[b]?)
  (h:OwnR R F w xs v):OwnR R F' w' xs v:=by
 rcases h with h | ⟨b,off,cap,arr,el,fz,hv,hc,ha,ht,hh,hr⟩
 ·exact .inl h
 ·exact .inr ⟨b,off,cap,arr,el,fz,hv,hc,ha,ht,by rw [hb b (by rw [hv];rfl)];exact hh,hr.mono g⟩
inductive VF:Type 1 where
 | sl {α:Type} (R:TRep α) (xs:List α)
 | pl (cs:List SC)
 | el (k j:Nat)
 | vw (k:Nat) (l h:Option Int) (sz:Nat)
 | fn (Φ:Value→Prop)
def vwf (l h:Option Int) (sz:Nat):Value→Value
  | .slice b len cap=>.slice (if cap=(l.getD 0).toNat then b else b.map (·.add ((l.getD 0).toNat * sz))) ((match h with | some h=>h.toNat | none=>len)-(l.getD 0).toNat) (cap-(l.getD 0).toNat)
  | x=>x
def VF.ok (E:Env) (F:FSet) (w:World) (v:Value):VF→Prop
 | .sl R xs=>SlR R F w xs v
 | .pl cs=>∃ (b off:Nat) (arr:Array Value) (el:TypeId) (fz:Nat × Nat),v=.pointer (some ⟨b,off,none⟩)∧F b∧w.heap[b]? = some (.cells arr el fz) ∧
   ∀ (j:Nat) (x:SC),cs[j]? = some x→arr[off+j]? = some (den E x)
 | .el k j=>v=addP (E.ρ k) j∧∃ (b off:Nat),v=.pointer (some ⟨b,off,none⟩)
 | .vw k l h sz=>v=vwf l h sz (E.ρ k)
 | .fn Φ=>Φ v
def VF.kb (n:Nat):VF→Prop
 | .pl cs=>∀ x∈cs,SC.kb n x
 | .el k _ | .vw k _ _ _=>k < n
 | _=>True
theorem VF.kb.mono {n m:Nat} (h:n≤m):∀ {f:VF},f.kb n→f.kb m
 | .pl _,hf=>fun x hx=>(hf x hx).mono h
 | .el _ _,hf | .vw _ _ _ _,hf=>Nat.lt_of_lt_of_le hf h
 | .sl _ _,_ | .fn _,_=>trivial
theorem VF.ok.mono {E:Env} {F w F' w' v} (g:Grow F w F' w'):∀ {f:VF},f.ok E F w v→f.ok E F' w' v
 | .sl _ _,h=>SlR.mono g h
 | .pl _,⟨b,off,arr,ty,fz,hv,hF,hh,hx⟩=>⟨b,off,arr,ty,fz,hv,g.sub b hF,by rw [g.same b hF];exact hh,hx⟩
 | .el _ _,h | .vw _ _ _ _,h=>h
 | .fn _,h=>h
theorem VF.ok.eqb {n:Nat} {E E':Env} (h:E.Eqb n E') {F w v}:∀ {f:VF},f.kb n→f.ok E F w v→f.ok E' F w v
 | .sl _ _,_,hf=>hf
 | .pl cs,hk,⟨b,off,arr,ty,fz,hv,hF,hh,hx⟩=>⟨b,off,arr,ty,fz,hv,hF,hh,fun j x hj=>by
   rw [den_eqb h (hk x (List.mem_of_getElem? hj))];exact hx j x hj⟩
 | .el k j,hk,hf=>by show _=addP (E'.ρ k) j∧_;rw [(h k hk).1];exact hf
 | .vw k l h' sz,hk,hf=>by show _=vwf l h' sz (E'.ρ k);rw [(h k hk).1];exact hf
 | .fn _,_,hf=>hf
def BufR (ty:TypeId) (w:World) (s:ByteArray) (v:Value):Prop :=
 (s.size=0∧v=.slice none 0 0)∨∃ (b cap:Nat) (arr:Array Value) (fz:Nat × Nat),v=.slice (some ⟨b,0,none⟩) s.size cap∧s.size≤cap∧cap≤arr.size∧ThawAt fz arr.size ∧
  w.heap[b]? = some (.cells arr ty fz)∧∀ (i:Nat) (x:UInt8),s.data.toList[i]? = some x→arr[i]? = some (.int .u8 x.toNat)
theorem BufR.mono {ty:TypeId} {w w':World} {s:ByteArray} {v:Value} (hb:∀ b,blockOf v=some b→w'.heap[b]? = w.heap[b]?) (h:BufR ty w s v):BufR ty w' s v:=by
 rcases h with h | ⟨b,cap,arr,fz,hv,h1,h2,h3,h4,h5⟩
 ·exact .inl h
 ·exact .inr ⟨b,cap,arr,fz,hv,h1,h2,h3,by rw [hb b (by rw [hv];rfl)];exact h4,h5⟩
structure AbsR where
 fp:Nat→Prop
 ok:FSet→World→Prop
 mono:∀ {F w F' w'},Grow F w F' w'→(∀ b,fp b→w'.heap[b]? = w.heap[b]?)→ok F w→ok F' w'
structure AbsV where
 ok:FSet→World→Value→Prop
 mono:∀ {F w F' w' v},Grow F w F' w'→(∀ b,blockOf v=some b→w'.heap[b]? = w.heap[b]?)→ok F w v→ok F' w' v
 one:∀ {F w v},ok F w v→v.oneCell'=true
inductive MO:Type 1 where
 | box (cs:List SC) (t:TypeId)
 | own {α:Type} (R:TRep α) (xs:List α) (fresh:Bool)
 | abs (A:AbsR)
 | buf (s:ByteArray) (ty:TypeId)
 | av (A:AbsV)
 | gone
def MO.fp (E:Env) (k:Nat):MO→Nat→Prop
 | .box _ _,b=>b=E.β k
 | .own _ _ _,b=>blockOf (E.ρ k)=some b
 | .abs A,b=>A.fp b
 | .buf _ _,b=>blockOf (E.ρ k)=some b
 | .av _,b=>blockOf (E.ρ k)=some b
 | .gone,_=>False
def MO.ok (E:Env) (F:FSet) (w:World) (k:Nat):MO→Prop
 | .box cs t=>w.heap[E.β k]? = some (.cells (cs.map (den E)).toArray t (0,0))
 | .own R xs _=>OwnR R F w xs (E.ρ k)
 | .abs A=>A.ok F w
 | .buf s ty=>BufR ty w s (E.ρ k)
 | .av A=>A.ok F w (E.ρ k)
 | .gone=>True
def MO.kb (n:Nat):MO→Prop
 | .box cs _=>∀ x∈cs,SC.kb n x
 | _=>True
def MO.isFresh:MO→Bool
 | .own _ _ f=>f
 | _=>false
theorem MO.kb.mono {n m:Nat} (h:n≤m):∀ {f:MO},f.kb n→f.kb m
 | .box _ _,hf=>fun x hx=>(hf x hx).mono h
 | .own _ _ _,_ | .abs _,_ | .buf _ _,_ | .av _,_ | .gone,_=>trivial
theorem MO.ok.mono {E:Env} {F w F' w'} {k:Nat} (g:Grow F w F' w'):∀ {m:MO},(∀ b,m.fp E k b→w'.heap[b]? = w.heap[b]?)→m.ok E F w k→m.ok E F' w' k
 | .box _ _,hb,h=>by show w'.heap[E.β k]? = _;rw [hb _ rfl];exact h
 | .own _ _ _,hb,h=>OwnR.mono g (fun b hv=>hb b hv) h
 | .abs A,hb,h=>A.mono g hb h
 | .buf _ _,hb,h=>BufR.mono (fun b hv=>hb b hv) h
 | .av A,hb,h=>A.mono g (fun b hv=>hb b hv) h
 | .gone,_,_=>trivial
theorem MO.ok.eqb {n:Nat} {E E':Env} (h:E.Eqb n E') {F w} {k:Nat} (hk:k < n):∀ {m:MO},m.kb n→m.ok E F w k→m.ok E' F w k
 | .box cs t,hm,h'=>by
  show w.heap[E'.β k]? = _
  rw [(h k hk).2,den_map_eqb h hm];exact h'
 | .own _ _ _,_,h'=>by show OwnR _ _ _ _ (E'.ρ k);rw [(h k hk).1];exact h'
 | .abs _,_,h'=>h'
 | .buf _ _,_,h'=>by show BufR _ _ _ (E'.ρ k);rw [(h k hk).1];exact h'
 | .av A,_,h'=>by show A.ok _ _ (E'.ρ k);rw [(h k hk).1];exact h'
 | .gone,_,_=>trivial
theorem MO.fp_eqb {n:Nat} {E E':Env} (h:E.Eqb n E') {k:Nat} (hk:k < n):∀ {m:MO} {b:Nat},m.fp E' k b↔m.fp E k b
 | .box _ _,b=>by simp only [MO.fp];rw [(h k hk).2]
 | .own _ _ _,b=>by simp only [MO.fp];rw [(h k hk).1]
 | .abs _,_=>Iff.rfl
 | .buf _ _,b=>by simp only [MO.fp];rw [(h k hk).1]
 | .av _,b=>by simp only [MO.fp];rw [(h k hk).1]
 | .gone,_=>Iff.rfl
structure St where
 L:List (Nat × SV)
 M:List (Nat × MO)
 V:List (Nat × VF)
 nx:Nat
structure St.Wf (s:St):Prop where
 hL:∀ d v,look s.L d=some v→v.kb s.nx
 hM:∀ k m,look s.M k=some m→k < s.nx∧m.kb s.nx
 hV:∀ k f,look s.V k=some f→k < s.nx∧f.kb s.nx
class LxP where
 p:Prop
variable [LxP]
structure Oq (w0 w:World):Prop where
 out:w.output=w0.output
 drawn:LxP.p∨w0.drawn≤w.drawn
theorem Oq.m {w w':World} (h:w'.output=w.output:=by rfl) (hd:w.drawn≤w'.drawn:=by first | exact Nat.le_refl _ | exact Nat.le_succ _ | exact Nat.le_trans (Nat.le_succ _) (Nat.le_succ _) | exact Nat.le_add_right _ _):Oq w w':=⟨h,.inr hd⟩
theorem Oq.trans {a b c:World} (h:Oq a b) (k:Oq b c):Oq a c:=⟨k.out.trans h.out,h.drawn.elim .inl fun h1=>k.drawn.elim .inl fun h2=>.inr (Nat.le_trans h1 h2)⟩
structure Ext (Z:FSet) (w0 w:World):Prop where
 os:w.os=w0.os
 tape:w.tape=w0.tape
 output:Oq w0 w
 size:w0.heap.size≤w.heap.size
 block:∀ b,Z b→w.heap[b]? = w0.heap[b]?
theorem Ext.refl (Z:FSet) (w:World):Ext Z w w:=⟨rfl,rfl,.m,Nat.le_refl _,fun _ _=>rfl⟩
theorem Ext.trans {Z:FSet} {a b c:World} (h:Ext Z a b) (k:Ext Z b c):Ext Z a c :=
 ⟨k.os.trans h.os,k.tape.trans h.tape,h.output.trans k.output,Nat.le_trans h.size k.size,fun i hi=>(k.block i hi).trans (h.block i hi)⟩
theorem Ext.mono {Z Z':FSet} {a b:World} (h:Ext Z a b) (hz:∀ k,Z' k→Z k):Ext Z' a b:=⟨h.os,h.tape,h.output,h.size,fun k hk=>h.block k (hz k hk)⟩
structure Ctx where
 P:Program
 f:FuncId
 fn:Func
 nk:Nat
 E0:Env
 F0:FSet
 w0:World
 n0:Nat
 Z:FSet
 post:Value→World→Prop
structure Sat (X:Ctx) (s:St) (E:Env) (F:FSet) (w:World) (a:Act):Prop where
 wf:s.Wf
 nk:X.nk≤s.nx
 defers:a.defers=[]
 size:a.tmps.size=X.fn.ntmps
 hL:∀ d v,look s.L d=some v→a.tmps[d]? = some (denV E v)
 hV:∀ k f,look s.V k=some f→f.ok E F w (E.ρ k)
 hM:∀ k m,look s.M k=some m→m.ok E F w k
 dis:∀ k k' m m',look s.M k=some m→look s.M k'=some m'→k≠k'→∀ b,m.fp E k b→¬ m'.fp E k' b
 mF:∀ k m,look s.M k=some m→∀ b,m.fp E k b→¬ F b∧¬ X.Z b∧b < w.heap.size
 fresh:∀ k m,look s.M k=some m→m.isFresh=true→∀ b,m.fp E k b→X.n0≤b
 hF:∀ b,F b→b < w.heap.size
 hF0:∀ b,X.F0 b→F b
 hn0:X.n0≤X.w0.heap.size
 hF1:∀ b,F b→X.F0 b∨(X.n0≤b∧¬ X.Z b)
 hZ:∀ b,X.Z b→b < X.w0.heap.size
 ext:Ext X.Z X.w0 w
 link:X.E0.Eqb X.nk E
 one:∀ k,(E.ρ k).oneCell'=true
def Runs (P:Program) (f:FuncId) (R:Value→World→Prop) (a:Act) (todo:List Item) (w:World):Prop :=
 ∀ (b:Frame) (cs:List Frame),b.fn=f→b.kind=.normal →
  ∃ v w' fr,R v w'∧Steps P (lone (b.at a todo) cs w) (lone fr cs w')∧fr.fn=f∧fr.leaving P w' (.returned v)
def WP (X:Ctx) (todo:List Item) (s:St):Prop :=
 ∀ E F w a,Sat X s E F w a→Runs X.P X.f X.post a todo w
section control
variable {X:Ctx} {s:St} {k:List Item}
theorem Runs.head {P f R a a' todo todo' w w'} (h:∀ (b:Frame) (cs:List Frame),b.fn=f→b.kind=.normal→Steps P (lone (b.at a todo) cs w) (lone (b.at a' todo') cs w'))
  (k:Runs P f R a' todo' w'):Runs P f R a todo w:=fun b cs hb hk=>by
 obtain ⟨v,w2,fr,hR,hs,hf,hl⟩:=k b cs hb hk
 exact ⟨v,w2,fr,hR,(h b cs hb hk).trans hs,hf,hl⟩
theorem WP.seq {x y:Code} (h:WP X (.code x::.code y::k) s):WP X (.code (.seq x y)::k) s :=
 fun E F w a hs=>Runs.head (fun _ _ _ _=>.one step_seq) (h E F w a hs)
theorem WP.skip (h:WP X k s):WP X (.code .skip::k) s :=
 fun E F w a hs=>Runs.head (fun _ _ _ _=>.one step_skip) (h E F w a hs)
theorem WP.label {l:Nat} (h:WP X k s):WP X (.code (.label l)::k) s :=
 fun E F w a hs=>Runs.head (fun _ _ _ _=>.one step_label) (h E F w a hs)
theorem WP.block {id:Nat} {c:Code} (h:WP X (.code c::.inBlock id::k) s):WP X (.code (.block id c)::k) s :=
 fun E F w a hs=>Runs.head (fun _ _ _ _=>.one step_block) (h E F w a hs)
theorem WP.inBlock {id:Nat} (h:WP X k s):WP X (.inBlock id::k) s :=
 fun E F w a hs=>Runs.head (fun _ _ _ _=>.one step_inBlock) (h E F w a hs)
theorem WP.exit {id:Nat} {k':List Item} (he:exitTo id k=some k') (h:WP X k' s):WP X (.code (.exit id)::k) s :=
 fun E F w a hs=>Runs.head (fun _ _ _ _=>.one (step_exit he)) (h E F w a hs)
theorem WP.loop {c:Code} (h:WP X (.code c::.inLoop c::k) s):WP X (.code (.loop c)::k) s :=
 fun E F w a hs=>Runs.head (fun _ _ _ _=>.one step_loop) (h E F w a hs)
theorem WP.inLoop {c:Code} (h:WP X (.code c::.inLoop c::k) s):WP X (.inLoop c::k) s :=
 fun E F w a hs=>Runs.head (fun _ _ _ _=>.one step_inLoop) (h E F w a hs)
theorem getD_of {a:Array Value} {d:Nat} {v:Value} (h:a[d]? = some v):a.getD d undef=v:=by
 rw [Array.getD_eq_getD_getElem?,h];rfl
theorem WP.cond {d:Nat} {t:Bool} {x y:Code} (hd:look s.L d=some (.c (.b t))) (h:WP X (.code (bif t then x else y)::k) s) :
  WP X (.code (.cond (.tmp d) x y)::k) s:=fun E F w a hs =>
 Runs.head (fun b cs _ _=>.one (step_cond (t:=t) (getD_of (hs.hL d _ hd)))) (by
  have:=h E F w a hs
  cases t<;>exact this)
theorem WP.condT {d:Nat} {t:Bool} {x y:Code} (ht:t=true) (hd:look s.L d=some (.c (.b t))) (h:WP X (.code x::k) s) :
  WP X (.code (.cond (.tmp d) x y)::k) s:=WP.cond hd (by rw [ht];exact h)
theorem WP.condF {d:Nat} {t:Bool} {x y:Code} (ht:t=false) (hd:look s.L d=some (.c (.b t))) (h:WP X (.code y::k) s) :
  WP X (.code (.cond (.tmp d) x y)::k) s:=WP.cond hd (by rw [ht];exact h)
end control
end Go.Kx
end
section
namespace Go.Kx
variable [LxP]
universe u
structure TD where
 sz:Nat
 byt:Nat
 ag:Bool
 z:List SC
 fo:List (Nat × Nat × Bool):=[]
 es:Nat:=0
 eb:Nat:=0
 n:Nat:=0
 ik:Option IntKind:=none
 kd:Nat:=0
 el:Nat:=0
def E00:Env:=⟨fun _=>.bool false,fun _=>0⟩
def aggOf (P:Program) (t:TypeId):Bool:=match P.underlying t with
 | some (.struct _) | some (.array _ _)=>true
 | _=>false
def fieldsOk (P:Program):List Field→List (Nat × Nat × Bool)→Bool
 | [],[]=>true
 | f::fs,(o,s,g)::r=>f.offset==o && ((P.info? f.type).any fun i=>i.size==s) && s != 0 && aggOf P f.type==g && (P.underlying f.type).isSome && fieldsOk P fs r
 | _,_=>false
def kindOk (P:Program) (t:TypeId) (d:TD):Bool:=match P.underlying t with
 | some (.struct fs)=>d.ag && fieldsOk P fs.toList d.fo && d.ik.isNone && d.kd==4
 | some (.array n e)=>d.ag && d.fo.isEmpty && d.n==n && ((P.info? e).any fun i=>i.size==d.es && i.size != 0) && d.ik.isNone && d.kd==5 && d.el==e
 | some (.slice e) => !d.ag && d.fo.isEmpty && ((P.info? e).any fun i=>i.size==d.es && i.bytes==d.eb && i.size != 0 && (i.zero.any fun z=>z.cells.size==i.size)) && d.ik.isNone && d.kd==6 && d.el==e
 | some (.int k) => !d.ag && d.fo.isEmpty && d.ik==some k && d.kd==3
 | some .bool => !d.ag && d.fo.isEmpty && d.ik.isNone && d.kd==1
 | some .string => !d.ag && d.fo.isEmpty && d.ik.isNone && d.kd==2
 | some _ => !d.ag && d.fo.isEmpty && d.ik.isNone && d.kd==0
 | none=>false
def SC.closed:SC→Bool
 | .sl _ | .bp _ _ | .px _ _ | .sp _ _ _ _=>false
 | .cl _ fs ks=>fs.isEmpty && ks.isEmpty
 | .v x=>x.oneCell'
 | _=>true
def TD.Ok (P:Program) (t:TypeId) (d:TD):Prop :=
 (P.info? t).map (fun i=>(i.size,i.bytes,i.zero.map fun z=>z.cells.toList))=some (d.sz,d.byt,some (d.z.map (den E00))) ∧
 kindOk P t d=true∧d.z.all SC.closed=true∧d.z.length=d.sz
def TTOk (P:Program):List (Nat × TD)→Prop
 | []=>True
 | (t,d)::r=>TD.Ok P t d∧TTOk P r
theorem TTOk.get {P:Program}:∀ {tt:List (Nat × TD)},TTOk P tt→∀ {t d},look tt t=some d→TD.Ok P t d
 | [],_,_,_,h=>by cases h
 | (t',d')::r,⟨h1,h2⟩,t,d,h=>by
  rw [look_cons] at h
  split at h
  ·rename_i e;cases h;subst e;exact h1
  ·exact TTOk.get h2 h
theorem den_closed {E E':Env}:∀ {x:SC},x.closed=true→den E x=den E' x
 | .cl _ fs ks,h=>by
  simp only [SC.closed,Bool.and_eq_true,List.isEmpty_iff] at h
  obtain ⟨rfl,rfl⟩:=h
  rfl
 | .i _ _,_ | .b _,_ | .s _,_ | .v _,_ | .nil,_=>rfl
theorem kb_closed {n:Nat}:∀ {x:SC},x.closed=true→x.kb n
 | .i _ _,_ | .b _,_ | .s _,_ | .nil,_=>trivial
 | .v _,h=>h
 | .cl _ fs ks,h=>by
  simp only [SC.closed,Bool.and_eq_true,List.isEmpty_iff] at h
  simp [SC.kb,h.1,h.2]
section td
variable {P:Program} {t:TypeId} {d:TD}
theorem TD.Ok.info (h:TD.Ok P t d):∃ i z,P.info? t=some i∧i.size=d.sz∧i.bytes=d.byt∧i.zero=some z∧(∀ E,z.cells=(d.z.map (den E)).toArray):=by
 obtain ⟨h1,_,h3,_⟩:=h
 rw [Option.map_eq_some_iff] at h1
 obtain ⟨i,hi,he⟩:=h1
 simp only [Prod.mk.injEq] at he
 obtain ⟨e1,e2,e3⟩:=he
 rw [Option.map_eq_some_iff] at e3
 obtain ⟨z,hz,ez⟩:=e3
 refine ⟨i,z,hi,e1,e2,hz,fun E=>?_⟩
 apply Array.ext'
 rw [ez]
 simp only []
 exact List.map_congr_left fun x hx=>den_closed (List.all_eq_true.1 h3 x hx)
theorem TD.Ok.und (h:TD.Ok P t d):∃ ds,P.underlying t=some ds:=by
 have h2:=h.2.1
 unfold kindOk at h2
 cases hu:P.underlying t with
 | none=>rw [hu] at h2;cases h2
 | some ds=>exact ⟨ds,rfl⟩
theorem run_underlying' {d:TypeDesc} (h:P.underlying t=some d) (w:World):(underlying t).run P w=.ok d w:=by
 simp [underlying,h]
theorem run_isAgg' (w:World) {ds:TypeDesc} (h:P.underlying t=some ds):(isAgg t).run P w=.ok (aggOf P t) w:=by
 simp only [isAgg,Sem.run_bind,run_underlying' h,Result.andThen_ok,aggOf,h]
 cases ds<;>rfl
theorem TD.Ok.agg (h:TD.Ok P t d):aggOf P t=d.ag:=by
 have h2:=h.2.1
 unfold kindOk at h2
 unfold aggOf
 split at h2<;>simp_all
theorem run_sizeOf' (w:World) (h:TD.Ok P t d):(sizeOf t).run P w=.ok d.sz w:=by
 obtain ⟨i,z,hi,hs,_⟩:=h.info
 simp [sizeOf,typeInfo,hi,hs]
theorem run_zeroValue' (w:World) (h:TD.Ok P t d):∃ z,(zeroValue t).run P w=.ok z w∧∀ E,z.cells=(d.z.map (den E)).toArray:=by
 obtain ⟨i,z,hi,_,_,hz,hc⟩:=h.info
 exact ⟨z,by simp [zeroValue,typeInfo,hi,hz],hc⟩
theorem fieldsOk_get:∀ {fs:List Field} {fo:List (Nat × Nat × Bool)},fieldsOk P fs fo=true→∀ {j:Nat} {x:Nat × Nat × Bool},fo[j]? = some x →
  ∃ f i ds,fs[j]? = some f∧f.offset=x.1∧P.info? f.type=some i∧i.size=x.2.1∧x.2.1≠0∧aggOf P f.type=x.2.2∧P.underlying f.type=some ds
 | [],[],_,j,x,hx=>by simp at hx
 | [],_::_,h,_,_,_=>by simp [fieldsOk] at h
 | _::_,[],h,_,_,_=>by simp [fieldsOk] at h
 | f::fs,(o,s,g)::r,h,0,x,hx=>by
  simp only [List.getElem?_cons_zero,Option.some.injEq] at hx
  subst hx
  simp only [fieldsOk,Bool.and_eq_true,beq_iff_eq,bne_iff_ne,ne_eq] at h
  obtain ⟨⟨⟨⟨⟨h1,h2⟩,h3⟩,h4⟩,h5⟩,_⟩:=h
  rw [Option.any_eq_true_iff_get] at h2
  obtain ⟨hs,h2⟩:=h2
  obtain ⟨ds,hd⟩:=Option.isSome_iff_exists.1 h5
  exact ⟨f,_,ds,rfl,h1,(Option.some_get hs).symm,by simpa using h2,h3,h4,hd⟩
 | f::fs,(o,s,g)::r,h,j+1,x,hx=>by
  simp only [List.getElem?_cons_succ] at hx
  simp only [fieldsOk,Bool.and_eq_true] at h
  obtain ⟨f',i,ds,h1,h2⟩:=fieldsOk_get h.2 hx
  exact ⟨f',i,ds,by simpa using h1,h2⟩
theorem TD.Ok.field (h:TD.Ok P t d) {j:Nat} {x:Nat × Nat × Bool} (hx:d.fo[j]? = some x):∃ fs f i ds,P.underlying t=some (.struct fs)∧fs[j]? = some f∧f.offset=x.1 ∧
  P.info? f.type=some i∧i.size=x.2.1∧x.2.1≠0∧aggOf P f.type=x.2.2∧P.underlying f.type=some ds:=by
 have h2:=h.2.1
 unfold kindOk at h2
 split at h2
 ·rename_i fs hu
  simp only [Bool.and_eq_true] at h2
  obtain ⟨f,i,ds,h3,h4⟩:=fieldsOk_get h2.1.1.2 hx
  exact ⟨fs,f,i,ds,hu,by simpa using h3,h4⟩
 all_goals (simp_all)
end td
def cSC:Value→SC
 | .int k n=>.i k n
 | .bool b=>.b b
 | .string s=>.s s
 | .slice none 0 0=>.nil
 | x=>.v x
theorem den_cSC (E:Env) (v:Value):den E (cSC v)=v:=by
 unfold cSC;split<;>rfl
theorem kb_cSC {n:Nat} {v:Value} (h:v.oneCell'=true):(cSC v).kb n:=by
 unfold cSC;split<;>first | trivial | exact h
def cSV:Value→Option SV
 | .agg cs=>bif cs.toList.all Value.oneCell' then some (.a (cs.toList.map cSC)) else none
 | .tuple _=>none
 | x=>some (.c (cSC x))
theorem cSV_ok {v:Value} {x:SV} (h:cSV v=some x) (E:Env) (n:Nat):denV E x=v∧x.kb n:=by
 unfold cSV at h
 split at h
 ·rename_i cs
  cases hb:cs.toList.all Value.oneCell' with
  | false=>rw [hb] at h;cases h
  | true =>
   rw [hb] at h
   cases h
   refine ⟨?_,?_⟩
   ·simp only [denV,List.map_map]
    have:(cs.toList.map (den E ∘ cSC))=cs.toList:=by
     rw [show (den E ∘ cSC)=id from funext fun v=>den_cSC E v];simp
    rw [this]
   ·intro y hy
    obtain ⟨v,hv,rfl⟩:=List.mem_map.1 hy
    exact kb_cSC (List.all_eq_true.1 hb v hv)
 ·cases h
 ·rename_i h1 h2
  cases h
  refine ⟨den_cSC E v,kb_cSC ?_⟩
  cases v<;>first | rfl | exact absurd rfl (h1 _) | exact absurd rfl (h2 _)
def evalO (L:List (Nat × SV)):Operand→Option SV
 | .tmp t=>look L t
 | .const v=>cSV v
 | .global g=>some (.c (.v (.pointer (some ⟨g,0,none⟩))))
 | .func f=>some (.c (.cl f [] []))
theorem Sat.eval {X s E F w a} (hs:Sat X s E F w a) {x:Operand} {v:SV} (h:evalO s.L x=some v):a.eval x=denV E v∧v.kb s.nx:=by
 cases x with
 | tmp t=>exact ⟨getD_of (hs.hL t v h),hs.wf.hL t v h⟩
 | const c=>exact ⟨(cSV_ok h E s.nx).1.symm,(cSV_ok h E s.nx).2⟩
 | global g=>cases h;exact ⟨rfl,rfl⟩
 | func f=>cases h;exact ⟨rfl,by simp [SV.kb,SC.kb]⟩
theorem den_one {E:Env} (ho:∀ k,(E.ρ k).oneCell'=true) {n:Nat}:∀ {x:SC},x.kb n→(den E x).oneCell'=true
 | .i _ _,_ | .b _,_ | .s _,_ | .nil,_ | .bp _ _,_ | .cl _ _ _,_ | .sp _ _ _ _,_=>rfl
 | .v _,h=>h
 | .sl k,_=>ho k
 | .px k j,_=>by
  show (addP (E.ρ k) j).oneCell'=true
  unfold addP;split<;>first | rfl | exact ho k
theorem denV_c_cells {E:Env} (ho:∀ k,(E.ρ k).oneCell'=true) {n:Nat} {x:SC} (h:x.kb n):(den E x).cells=#[den E x]:=by
 have:=den_one ho h
 revert this
 cases den E x<;>simp [Value.oneCell',Value.cells]
end Go.Kx
end
section
namespace Go.Kx
variable [LxP]
def loadC (d:TD) (off:Nat) (cs:List SC):Option SV :=
 bif d.ag then (bif Nat.beq ((cs.drop off).take d.sz).length d.sz then some (.a ((cs.drop off).take d.sz)) else none)
 else match cs[off]? with
  | some c=>some (.c c)
  | none=>none
def ibin (op:BinOp) (k:IntKind) (a b:Int) (yo:Operand):Option SC :=
 match op with
 | .add=>some (.i k (k.wrap (a+b)))
 | .sub=>some (.i k (k.wrap (a-b)))
 | .mul=>some (.i k (k.wrap (a * b)))
 | .eql=>some (.b (a==b))
 | .neq=>some (.b (a != b))
 | .lss=>some (.b (decide (a < b)))
 | .leq=>some (.b (decide (a≤b)))
 | .gtr=>some (.b (decide (a > b)))
 | .geq=>some (.b (decide (a≥b)))
 | .quo=>match yo with
  | .const (.int _ n)=>bif n==0 then none else some (.i k (k.wrap (a.tdiv n)))
  | _=>none
 | .rem=>match yo with
  | .const (.int _ n)=>bif n==0 then none else some (.i k (a.tmod n))
  | _=>none
 | _=>none
def sbin (tt:List (Nat × TD)) (op:BinOp) (t:TypeId) (x y:SV) (yo:Operand):Option SV :=
 match x,y with
 | .c (.i k a),.c (.i k' b)=>bif decide (k=k') then (match ibin op k a b yo with | some c=>some (.c c) | none=>none) else none
 | .c (.b a),.c (.b b)=>match look tt t with
  | some d=>bif Nat.beq d.kd 1 then (match op with
   | .eql=>some (.c (.b (a==b)))
   | .neq=>some (.c (.b (!(a==b))))
   | _=>none) else none
  | none=>none
 | .c (.s a),.c (.s b)=>match op with
  | .eql=>some (.c (.b (a.toList==b.toList)))
  | .neq=>some (.c (.b (!(a.toList==b.toList))))
  | .lss=>some (.c (.b (Op.bytesLess a.toList b.toList)))
  | .leq=>some (.c (.b (Op.bytesLess a.toList b.toList || a.toList==b.toList)))
  | .gtr=>some (.c (.b (!(Op.bytesLess a.toList b.toList || a.toList==b.toList))))
  | .geq=>some (.c (.b (!(Op.bytesLess a.toList b.toList))))
  | _=>none
 | _,_=>none
def faddr (V:List (Nat × VF)) (d:TD) (x:SV) (f:Nat):Option SV :=
 match d.fo[f]? with
 | some (o,_,_)=>match x with
  | .c (.bp k off)=>some (.c (.bp k (off+o)))
  | .c (.px k off)=>match look V k with
   | some (.pl _)=>some (.c (.px k (off+o)))
   | some (.el _ _)=>some (.c (.px k (off+o)))
   | _=>none
  | _=>none
 | none=>none
def lenS (kd:Nat) (s:St):SV→Option SV
 | .c (.s x)=>bif Nat.beq kd 2 then some (.c (.i .i64 x.size)) else none
 | .c .nil=>bif Nat.beq kd 6 then some (.c (.i .i64 0)) else none
 | .c (.sl k)=>bif Nat.beq kd 6 then (match look s.M k with
  | some (.own _ xs _)=>some (.c (.i .i64 xs.length))
  | _=>match look s.V k with
   | some (.sl _ xs)=>some (.c (.i .i64 xs.length))
   | _=>none) else none
 | _=>none
def minI (a b:Int):Int:=if b < a then b else a
def maxI (a b:Int):Int:=if b > a then b else a
def minmaxF (f:Int→Int→Int) (k:IntKind):Int→List SV→Option Int
 | acc,[]=>some acc
 | acc,.c (.i k' m)::r=>bif decide (k=k') then minmaxF f k (f acc m) r else none
 | _,_::_=>none
def minmax (f:Int→Int→Int):List SV→Option SV
 | .c (.i k n)::r=>match minmaxF f k n r with
  | some m=>some (.c (.i k m))
  | none=>none
 | _=>none
def evalL (L:List (Nat × SV)):List Operand→Option (List SV)
 | []=>some []
 | x::r=>match evalO L x with
  | some v=>match evalL L r with
   | some vs=>some (v::vs)
   | none=>none
  | none=>none
def svCells:SV→Option (List SC)
 | .c x=>some [x]
 | .a cs=>some cs
 | .t _=>none
 | .u=>none
def fillS (fo:List (Nat × Nat × Bool)) (L:List (Nat × SV)):List (Nat × Operand)→List SC→Option (List SC)
 | [],cs=>some cs
 | (i,x)::r,cs=>match fo[i]? with
  | some (o,sz,_)=>match evalO L x with
   | some v=>match svCells v with
    | some ps=>bif (Nat.beq ps.length sz && Nat.ble (o+sz) cs.length) then fillS fo L r (cs.take o++ps++cs.drop (o+sz)) else none
    | none=>none
   | none=>none
  | none=>none
def elemsFo (es:Nat):Nat→List (Nat × Nat × Bool)
 | 0=>[]
 | n+1=>elemsFo es n++[(n * es,es,false)]
def scall (tt:List (Nat × TD)) (s:St) (c:Call):Option SV :=
 match c.callee with
 | .builtin .len=>match c.args.toList with
  | [x]=>match c.argTypes.toList with
   | [t]=>match look tt t with
    | some d=>match evalO s.L x with
     | some v=>lenS d.kd s v
     | none=>none
    | none=>none
   | _=>none
  | _=>none
 | .builtin .min=>match evalL s.L c.args.toList with
  | some vs=>minmax minI vs
  | none=>none
 | .builtin .max=>match evalL s.L c.args.toList with
  | some vs=>minmax maxI vs
  | none=>none
 | _=>none
def boxesL (L:List (Nat × SV)):List Operand→Option (List Nat)
 | []=>some []
 | x::r=>match evalO L x with
  | some (.c (.bp k 0))=>match boxesL L r with
   | some ks=>some (k::ks)
   | none=>none
  | _=>none
def sval (tt:List (Nat × TD)) (s:St) (op:Op):Option SV :=
 match op with
 | .move x | .assign x=>evalO s.L x
 | .pick c x y=>match evalO s.L c with
  | some (.c (.b true))=>evalO s.L x
  | some (.c (.b false))=>evalO s.L y
  | _=>none
 | .load t ad=>match look tt t with
  | some d=>match evalO s.L ad with
   | some (.c (.bp k off))=>match look s.M k with
    | some (.box cs _)=>loadC d off cs
    | _=>none
   | some (.c (.px k off))=>match look s.V k with
    | some (.pl cs)=>loadC d off cs
    | _=>none
   | _=>none
  | none=>none
 | .nilCheck x=>match evalO s.L x with
  | some (.c (.bp k off))=>some (.c (.bp k off))
  | some (.c (.v (.func (.func f) b c)))=>some (.c (.v (.func (.func f) b c)))
  | some (.c (.cl f b c))=>some (.c (.cl f b c))
  | _=>none
 | .binOp bop t x y _=>match evalO s.L x with
  | some vx=>match evalO s.L y with
   | some vy=>sbin tt bop t vx vy y
   | none=>none
  | none=>none
 | .unOp uop _ x=>match evalO s.L x with
  | some (.c (.b t))=>match uop with
   | .not=>some (.c (.b (!t)))
   | _=>none
  | some (.c (.i k n))=>match uop with
   | .neg=>some (.c (.i k (k.wrap (0-n))))
   | _=>none
  | _=>none
 | .convert src dst x=>match look tt src with
  | some _=>match look tt dst with
   | some d=>match evalO s.L x with
    | some (.c (.i _ n))=>match d.ik with
     | some k'=>some (.c (.i k' (k'.wrap n)))
     | none=>none
    | some (.c (.s y))=>bif Nat.beq d.kd 2 then some (.c (.s y)) else none
    | _=>none
   | none=>none
  | none=>none
 | .fieldAddr t x f=>match look tt t with
  | some d=>match evalO s.L x with
   | some v=>faddr s.V d v f
   | none=>none
  | none=>none
 | .field t x f=>match look tt t with
  | some d=>match evalO s.L x with
   | some (.a cs)=>match d.fo[f]? with
    | some (o,sz,g)=>bif g then (bif Nat.ble (o+sz) cs.length then some (.a ((cs.drop o).take sz)) else none) else (match cs[o]? with
     | some c=>some (.c c)
     | none=>none)
    | none=>none
   | _=>none
  | none=>none
 | .extract x j=>match evalO s.L x with
  | some (.t vs)=>match vs[j]? with
   | some (.inl c)=>some (.c c)
   | some (.inr cs)=>some (.a cs)
   | none=>none
  | _=>none
 | .build t parts=>match look tt t with
  | some d=>bif Nat.beq d.kd 4 then (match fillS d.fo s.L parts.toList d.z with
    | some cs=>some (.a cs)
    | none=>none)
   else (bif Nat.beq d.kd 5 then (match fillS (elemsFo d.es d.n) s.L parts.toList d.z with
    | some cs=>some (.a cs)
    | none=>none) else none)
  | none=>none
 | .makeFunc (.func f) first captured=>match boxesL s.L first.toList with
  | some fs=>match boxesL s.L captured.toList with
   | some ks=>some (.c (.cl f fs ks))
   | none=>none
  | none=>none
 | .call c=>scall tt s c
 | _=>none
end Go.Kx
end
section
namespace Go.Kx
variable [LxP]
theorem addr_add (b n j:Nat):(⟨b,n,none⟩:Addr).add j=⟨b,n+j,none⟩:=by
 unfold Addr.add;split<;>simp_all
theorem cell_at {w:World} {b:Nat} {arr:Array Value} {el:TypeId} {fz:Nat × Nat} (h:w.heap[b]? = some (.cells arr el fz)) (j:Nat) :
  w.cell? ⟨b,j,none⟩=arr[j]? := by simp [World.cell?,h]
theorem exec_v {P:Program} {s:Sem Value} {v:Value} {w w':World} (h:s.run P w=.ok v w') :
  (do pure (Next.value (← s)):Sem Next).run P w=.ok (.value v) w':=by
 simp only [Sem.run_bind,h,Result.andThen_ok,Sem.run_pure]
section
variable {P:Program} {X:Ctx} {s:St} {E:Env} {F:FSet} {w:World} {a:Act} {tt:List (Nat × TD)}
theorem run_loadVar_cells {t:TypeId} {d:TD} (htd:TD.Ok P t d) {b base off:Nat} {arr:Array Value} {el:TypeId} {fz:Nat × Nat}
  (hh:w.heap[b]? = some (.cells arr el fz)) {cs:List SC} (hc:∀ (j:Nat) x,cs[j]? = some x→arr[base+j]? = some (den E x)) {v:SV} (hl:loadC d off cs=some v) :
  (loadVar t ⟨b,base+off,none⟩).run P w=.ok (denV E v) w:=by
 obtain ⟨ds,hu⟩:=htd.und
 unfold loadC at hl
 simp only [loadVar,Sem.run_bind,run_isAgg' w hu,htd.agg,Result.andThen_ok]
 cases hg:d.ag with
 | true =>
  rw [hg] at hl
  simp only [cond_true] at hl
  cases hn:Nat.beq ((cs.drop off).take d.sz).length d.sz with
  | false=>rw [hn] at hl;cases hl
  | true =>
   rw [hn] at hl
   simp only [cond_true,Option.some.injEq] at hl
   subst hl
   have hlen:=Nat.eq_of_beq_eq_true hn
   simp only [if_true,Sem.run_bind,run_sizeOf' w htd,Result.andThen_ok,Sem.run_pure]
   have hr:=run_loadCells_list (P:=P) w ⟨b,base+off,none⟩ (((cs.drop off).take d.sz).map (den E)) (fun j v hj=>by
    rw [List.getElem?_map,Option.map_eq_some_iff] at hj
    obtain ⟨x,hx,rfl⟩:=hj
    rw [addr_add,cell_at hh]
    rw [List.getElem?_take] at hx
    split at hx
    ·rw [List.getElem?_drop] at hx
     have:=hc _ _ hx
     rw [show base+off+j=base+(off+j) by omega]
     exact this
    ·cases hx)
   rw [List.length_map,hlen] at hr
   rw [hr]
   rfl
 | false =>
  rw [hg] at hl
  simp only [cond_false] at hl
  cases hx:cs[off]? with
  | none=>rw [hx] at hl;cases hl
  | some x =>
   rw [hx] at hl
   simp only [Option.some.injEq] at hl
   subst hl
   simp only [Bool.false_eq_true,if_false,run_load,cell_at hh,hc _ _ hx]
   rfl
theorem loadC_kb {d:TD} {off:Nat} {cs:List SC} {v:SV} {n:Nat} (hl:loadC d off cs=some v) (h:∀ x∈cs,SC.kb n x):v.kb n:=by
 unfold loadC at hl
 cases hg:d.ag<;>rw [hg] at hl
 ·simp only [cond_false] at hl
  cases hx:cs[off]? with
  | none=>rw [hx] at hl;cases hl
  | some x=>rw [hx] at hl;simp only [Option.some.injEq] at hl;subst hl;exact h x (List.mem_of_getElem? hx)
 ·simp only [cond_true] at hl
  cases hn:Nat.beq ((cs.drop off).take d.sz).length d.sz with
  | false=>rw [hn] at hl;cases hl
  | true =>
   rw [hn] at hl
   simp only [cond_true,Option.some.injEq] at hl
   subst hl
   exact fun x hx=>h x (List.mem_of_mem_drop (List.mem_of_mem_take hx))
theorem binOp_int (op:BinOp) (t:TypeId) (x y:Operand) (k:IntKind) (m n:Int) {c:SC} (h:ibin op k m n y=some c) (hy:∀ k' n',y=.const (.int k' n')→n'=n) :
  (do eqGuard op t x y (.int k m) (.int k n);binOp op t (.int k m) (.int k n):Sem Value).run P w=.ok (den E c) w∧c.kb s.nx:=by
 cases op<;>simp only [ibin] at h<;>(try (cases h;done))<;>(try (cases h;exact ⟨by simp [eqGuard,binOp,Op.intArith,Op.intCmp,den],trivial⟩))
 ·split at h
  ·rename_i k' n'
   obtain rfl:=hy k' n' rfl
   cases hn:(n'==0) with
   | true=>rw [hn] at h;cases h
   | false =>
    rw [hn] at h
    cases h
    have:¬ n'=0:=by simpa using hn
    exact ⟨by simp [eqGuard,binOp,Op.intDiv,den,this],trivial⟩
  ·cases h
 ·split at h
  ·rename_i k' n'
   obtain rfl:=hy k' n' rfl
   cases hn:(n'==0) with
   | true=>rw [hn] at h;cases h
   | false =>
    rw [hn] at h
    cases h
    have:¬ n'=0:=by simpa using hn
    exact ⟨by simp [eqGuard,binOp,Op.intDiv,den,this],trivial⟩
  ·cases h
theorem TD.Ok.bool {t:TypeId} {d:TD} (h:TD.Ok P t d) (hk:d.kd=1):P.underlying t=some .bool:=by
 have h2:=h.2.1
 unfold kindOk at h2
 split at h2<;>simp_all
theorem equal_bool {t:TypeId} (hu:P.underlying t=some .bool) (m n:Bool):(Op.equal t (.bool m) (.bool n)).run P w=.ok (m==n) w:=by
 show (Op.equalIn (9999+1) t (.bool m) (.bool n)).run P w=_
 generalize 9999=d
 simp only [Op.equalIn,Sem.run_bind,run_underlying' hu,Result.andThen_ok,Sem.run_pure]
theorem sbin_ok (htt:TTOk P tt) (op:BinOp) (t:TypeId) (x y:Operand) {vx vy v:SV} (h:sbin tt op t vx vy y=some v) (hy:evalO s.L y=some vy) :
  (do eqGuard op t x y (denV E vx) (denV E vy);binOp op t (denV E vx) (denV E vy):Sem Value).run P w=.ok (denV E v) w∧v.kb s.nx:=by
 unfold sbin at h
 split at h
 ·rename_i k m k' n
  cases hk:decide (k=k') with
  | false=>rw [hk] at h;cases h
  | true =>
   rw [hk] at h
   obtain rfl:=of_decide_eq_true hk
   simp only [cond_true] at h
   cases hi:ibin op k m n y with
   | none=>rw [hi] at h;cases h
   | some c =>
    rw [hi] at h
    cases h
    refine binOp_int (s:=s) (E:=E) op t x y k m n hi (fun k' n' e=>?_)
    subst e
    simp only [evalO,cSV,cSC] at hy
    cases hy;rfl
 ·rename_i m n
  cases hd:look tt t with
  | none=>rw [hd] at h;cases h
  | some d =>
   rw [hd] at h
   simp only [] at h
   cases hk:Nat.beq d.kd 1 with
   | false=>rw [hk] at h;cases h
   | true =>
    rw [hk] at h
    have hu:=(htt.get hd).bool (Nat.eq_of_beq_eq_true hk)
    have he:(Op.equal t (.bool m) (.bool n)).run P w=.ok (m==n) w:=equal_bool hu m n
    cases op<;>simp only [cond_true] at h<;>(try (cases h;done))<;>cases h
    ·refine ⟨?_,trivial⟩
     show (do pure (Value.bool (← Op.equal t (.bool m) (.bool n))):Sem Value).run P w=_
     simp only [Sem.run_bind,he,Result.andThen_ok,Sem.run_pure];rfl
    ·refine ⟨?_,trivial⟩
     show (do pure (Value.bool (!(← Op.equal t (.bool m) (.bool n)))):Sem Value).run P w=_
     simp only [Sem.run_bind,he,Result.andThen_ok,Sem.run_pure];rfl
 ·cases op<;>simp only [] at h<;>(try (cases h;done))<;>cases h <;>
   exact ⟨by simp [eqGuard,binOp,Op.stringOp,denV,den],trivial⟩
 ·cases h
theorem px_ptr (hs:Sat X s E F w a) {k:Nat} (h:(∃ cs,look s.V k=some (.pl cs))∨∃ q j,look s.V k=some (.el q j)):∃ b off,E.ρ k=.pointer (some ⟨b,off,none⟩):=by
 rcases h with ⟨cs,h⟩ | ⟨q,j,h⟩
 ·obtain ⟨b,off,_,_,_,hv,_⟩:=hs.hV k _ h
  exact ⟨b,off,hv⟩
 ·exact (hs.hV k _ h).2
theorem faddr_ok (htt:TTOk P tt) (hs:Sat X s E F w a) {t:TypeId} {d:TD} (hd:look tt t=some d) {x v:SV} {f:Nat} (h:faddr s.V d x f=some v) (hx:x.kb s.nx) :
  (Instr.fieldAt t (denV E x) f).run P w=.ok (denV E v) w∧v.kb s.nx:=by
 unfold faddr at h
 cases hf:d.fo[f]? with
 | none=>rw [hf] at h;cases h
 | some q =>
  obtain ⟨o,sz,g⟩:=q
  rw [hf] at h
  simp only [] at h
  obtain ⟨fs,fl,i,ds,hu,hfl,ho,hi,hsz,hne,_,_⟩:=(htt.get hd).field hf
  simp only [] at ho hsz hne
  have hz:(sizeOf fl.type).run P w=.ok sz w:=by simp [sizeOf,typeInfo,hi,hsz]
  have key:∀ b off,(Instr.fieldAt t (.pointer (some ⟨b,off,none⟩)) f).run P w=.ok (.pointer (some ⟨b,off+o,none⟩)) w:=by
   intro b off
   simp [Instr.fieldAt,run_underlying' hu,hfl,Instr.sureAddr,fieldPlace,hz,hne,ho,addr_add]
  have key2:∀ k off,(∃ b o',E.ρ k=.pointer (some ⟨b,o',none⟩))→(Instr.fieldAt t (denV E (.c (.px k off))) f).run P w=.ok (denV E (.c (.px k (off+o)))) w:=by
   rintro k off ⟨b,o',hb⟩
   simp only [denV,den,hb,addP,key,Nat.add_assoc]
  split at h
  ·cases h
   exact ⟨key _ _,hx⟩
  ·rename_i k off
   split at h
   ·rename_i hk;cases h;exact ⟨key2 _ _ (px_ptr hs (.inl ⟨_,hk⟩)),hx⟩
   ·rename_i hk;cases h;exact ⟨key2 _ _ (px_ptr hs (.inr ⟨_,_,hk⟩)),hx⟩
   ·cases h
  ·cases h
end
end Go.Kx
end
section
namespace Go.Kx
variable [LxP]
section
variable {P:Program} {X:Ctx} {s:St} {E:Env} {F:FSet} {w:World} {a:Act} {tt:List (Nat × TD)}
theorem TD.Ok.str {t:TypeId} {d:TD} (h:TD.Ok P t d) (hk:Nat.beq d.kd 2=true):P.underlying t=some .string:=by
 have hk:=Nat.eq_of_beq_eq_true hk
 have h2:=h.2.1
 unfold kindOk at h2
 split at h2<;>simp_all
theorem TD.Ok.slc {t:TypeId} {d:TD} (h:TD.Ok P t d) (hk:Nat.beq d.kd 6=true):∃ i,P.underlying t=some (.slice d.el)∧P.info? d.el=some i∧i.size=d.es∧i.bytes=d.eb∧i.size≠0 ∧
  ∃ z,i.zero=some z∧z.cells.size=i.size:=by
 have hk:=Nat.eq_of_beq_eq_true hk
 have h2:=h.2.1
 unfold kindOk at h2
 split at h2<;>(try simp_all;done)
 rename_i e hu
 simp only [Bool.and_eq_true] at h2
 have h3:=h2.1.1.1.2
 have he:d.el=e:=by simpa using h2.2
 rw [he]
 rw [Option.any_eq_true_iff_get] at h3
 obtain ⟨hs,h3⟩:=h3
 simp only [Bool.and_eq_true,beq_iff_eq,bne_iff_ne,ne_eq] at h3
 obtain ⟨⟨⟨h4,h5⟩,h6⟩,h7⟩:=h3
 rw [Option.any_eq_true_iff_get] at h7
 obtain ⟨hz,h7⟩:=h7
 exact ⟨_,hu,(Option.some_get hs).symm,h4,h5,h6,_,(Option.some_get hz).symm,by simpa using h7⟩
theorem SlR_len {α:Type} {R:TRep α} {F w} {xs:List α} {v:Value} (h:SlR R F w xs v):∃ b c,v=.slice b xs.length c:=by
 rcases h with ⟨rfl,_,_,rfl⟩ | ⟨b,off,cap,_,_,_,rfl,_⟩
 ·exact ⟨_,_,rfl⟩
 ·exact ⟨_,_,rfl⟩
theorem OwnR_len {α:Type} {R:TRep α} {F w} {xs:List α} {v:Value} (h:OwnR R F w xs v):∃ b c,v=.slice b xs.length c:=by
 rcases h with ⟨rfl,rfl⟩ | ⟨b,off,cap,_,_,_,rfl,_⟩
 ·exact ⟨_,_,rfl⟩
 ·exact ⟨_,_,rfl⟩
theorem lenS_ok (htt:TTOk P tt) (hs:Sat X s E F w a) {t ty:TypeId} {d:TD} (hd:look tt t=some d) {x v:SV} (h:lenS d.kd s x=some v) :
  (Builtin.len_ #[t] ty #[denV E x]).run P w=.ok (denV E v) w∧v.kb s.nx:=by
 unfold lenS at h
 split at h
 ·cases hk:Nat.beq d.kd 2<;>rw [hk] at h<;>cases h
  exact ⟨by simp [Builtin.len_,run_underlying' ((htt.get hd).str hk),denV,den,goInt],trivial⟩
 ·cases hk:Nat.beq d.kd 6<;>rw [hk] at h<;>cases h
  obtain ⟨_,he,_⟩:=(htt.get hd).slc hk
  exact ⟨by simp [Builtin.len_,run_underlying' he,denV,den,goInt],trivial⟩
 ·rename_i k
  cases hk:Nat.beq d.kd 6<;>rw [hk] at h<;>(try (cases h;done))
  simp only [cond_true] at h
  obtain ⟨_,he,_⟩:=(htt.get hd).slc hk
  split at h
  ·rename_i hm
   cases h
   obtain ⟨b,c,hv⟩:=OwnR_len (hs.hM k _ hm)
   exact ⟨by simp [Builtin.len_,run_underlying' he,denV,den,goInt,hv],trivial⟩
  ·split at h
   ·rename_i hm
    cases h
    obtain ⟨b,c,hv⟩:=SlR_len (hs.hV k _ hm)
    exact ⟨by simp [Builtin.len_,run_underlying' he,denV,den,goInt,hv],trivial⟩
   ·cases h
 ·cases h
theorem evalL_ok (hs:Sat X s E F w a):∀ {xs:List Operand} {vs:List SV},evalL s.L xs=some vs→xs.map a.eval=vs.map (denV E)∧∀ v∈vs,v.kb s.nx
 | [],vs,h=>by cases h;exact ⟨rfl,by simp⟩
 | x::r,vs,h=>by
  unfold evalL at h
  cases hx:evalO s.L x with
  | none=>rw [hx] at h;cases h
  | some v =>
   rw [hx] at h
   simp only [] at h
   cases hr:evalL s.L r with
   | none=>rw [hr] at h;cases h
   | some us =>
    rw [hr] at h
    cases h
    obtain ⟨h1,h2⟩:=evalL_ok hs hr
    obtain ⟨h3,h4⟩:=hs.eval hx
    refine ⟨by simp [h1,h3],?_⟩
    intro u hu
    rcases List.mem_cons.1 hu with rfl | hu
    ·exact h4
    ·exact h2 u hu
theorem minmaxF_ok (f:Int→Int→Int) (g:Value→Value→Sem Value) (hg:∀ k m n,g (.int k m) (.int k n)=pure (.int k (f m n))) (k:IntKind) :
  ∀ (r:List SV) (acc m:Int),minmaxF f k acc r=some m→(List.foldlM g (Value.int k acc) (r.map (denV E))).run P w=.ok (.int k m) w
 | [],acc,m,h=>by cases h;rfl
 | v::r,acc,m,h=>by
  unfold minmaxF at h
  split at h
  ·rename_i heq;cases heq
  ·rename_i heq
   cases heq
   rename_i _ k' n
   cases hk:decide (k=k') with
   | false=>rw [hk] at h;cases h
   | true =>
    rw [hk] at h
    obtain rfl:=of_decide_eq_true hk
    simp only [List.map_cons,List.foldlM_cons,denV,den,hg,Sem.run_bind,Sem.run_pure,Result.andThen_ok]
    exact minmaxF_ok f g hg k r _ m h
  ·cases h
theorem minmax_ok (f:Int→Int→Int) (g:Value→Value→Sem Value) (hg:∀ k m n,g (.int k m) (.int k n)=pure (.int k (f m n))) {vs:List SV} {v:SV} (h:minmax f vs=some v) :
  ∃ x rest,vs.map (denV E)=x::rest∧(List.foldlM g x rest).run P w=.ok (denV E v) w∧v.kb s.nx:=by
 unfold minmax at h
 split at h
 ·rename_i k n r
  cases hm:minmaxF f k n r with
  | none=>rw [hm] at h;cases h
  | some m =>
   rw [hm] at h
   cases h
   exact ⟨_,_,rfl,minmaxF_ok f g hg k r n m hm,trivial⟩
 ·cases h
theorem foldl_set_eq (ps:List Value):∀ (o:Nat) (arr:Array Value),o+ps.length≤arr.size →
  ((ps.toArray.zipIdx 0).foldl (fun cs (c,j)=>cs.setIfInBounds (o+j) c) arr).toList=arr.toList.take o++ps++arr.toList.drop (o+ps.length):=by
 intro o arr hle
 have key:∀ (qs:List Value) (i:Nat) (arr:Array Value),o+i+qs.length≤arr.size →
   ((qs.zipIdx i).foldl (fun cs (c,j)=>cs.setIfInBounds (o+j) c) arr).toList=arr.toList.take (o+i)++qs++arr.toList.drop (o+i+qs.length):=by
  intro qs
  induction qs with
  | nil=>intro i arr _;simp
  | cons q qs ih =>
   intro i arr hl
   simp only [List.length_cons] at hl
   simp only [List.zipIdx_cons,List.foldl_cons]
   rw [ih (i+1) _ (by simp;omega)]
   apply List.ext_getElem?
   intro n
   simp only [Array.toList_setIfInBounds,List.length_cons,List.append_assoc,List.getElem?_append,List.length_take,List.length_set,Array.length_toList,List.getElem?_take,List.getElem?_set,
    List.getElem?_drop,List.getElem?_cons,List.cons_append]
   have h1:min (o+(i+1)) arr.size=o+i+1:=by omega
   have h2:min (o+i) arr.size=o+i:=by omega
   rw [h1,h2]
   by_cases c1:n < o+i
   ·simp only [show n < o+i+1 by omega,show n < o+(i+1) by omega,c1,if_true,if_false,show ¬ o+i=n by omega]
   ·by_cases c2:n=o+i
    ·subst c2
     simp only [show o+i < o+i+1 by omega,show o+i < o+(i+1) by omega,if_true,if_false,Nat.lt_irrefl,Nat.sub_self]
     simp [show o+i < arr.size by omega]
    ·simp only [show ¬ n < o+i+1 by omega,c1,if_false,show ¬ n-(o+i)=0 by omega]
     rw [show n-(o+i)-1=n-(o+i+1) by omega]
     split
     ·rfl
     ·have:¬ o+i=o+(i+1)+qs.length+(n-(o+i+1)-qs.length):=by omega
      rw [if_neg (by omega)]
      congr 1
      omega
 have:=key ps 0 arr (by simpa using hle)
 rw [← Array.foldl_toList,Array.toList_zipIdx]
 simpa using this
theorem svCells_ok (ho:∀ k,(E.ρ k).oneCell'=true) {v:SV} {ps:List SC} (h:svCells v=some ps) (hk:v.kb s.nx):(denV E v).cells=(ps.map (den E)).toArray∧∀ x∈ps,x.kb s.nx:=by
 unfold svCells at h
 split at h
 ·cases h
  exact ⟨by simpa [denV] using denV_c_cells ho hk,by intro x hx;rw [List.mem_singleton.1 hx];exact hk⟩
 ·cases h
  exact ⟨rfl,hk⟩
 ·cases h
 ·cases h
theorem fillS_ok (hs:Sat X s E F w a) (fo:List (Nat × Nat × Bool)) (place:Nat→Option (Nat × Nat)) (hp:∀ (i o sz:Nat) (g:Bool),fo[i]? = some (o,sz,g)→place i=some (o,sz)) :
  ∀ (parts:List (Nat × Operand)) (cs cs':List SC) (arr:Array Value),fillS fo s.L parts cs=some cs'→(∀ x∈cs,x.kb s.nx)→arr.toList=cs.map (den E) →
   ∃ arr',Instr.fill place arr (parts.map fun (i,x)=>(i,a.eval x))=some arr'∧arr'.toList=cs'.map (den E)∧∀ x∈cs',x.kb s.nx
 | [],cs,cs',arr,h,hk,ha=>by
  cases h
  exact ⟨arr,rfl,ha,hk⟩
 | (i,x)::r,cs,cs',arr,h,hk,ha=>by
  unfold fillS at h
  cases hf:fo[i]? with
  | none=>rw [hf] at h;cases h
  | some q =>
   obtain ⟨o,sz,g⟩:=q
   rw [hf] at h
   simp only [] at h
   cases hx:evalO s.L x with
   | none=>rw [hx] at h;cases h
   | some v =>
    rw [hx] at h
    simp only [] at h
    cases hc:svCells v with
    | none=>rw [hc] at h;cases h
    | some ps =>
     rw [hc] at h
     simp only [] at h
     cases hb:(Nat.beq ps.length sz && Nat.ble (o+sz) cs.length) with
     | false=>rw [hb] at h;cases h
     | true =>
      rw [hb] at h
      simp only [cond_true] at h
      simp only [Bool.and_eq_true] at hb
      have e1:=Nat.eq_of_beq_eq_true hb.1
      have e2:=Nat.le_of_ble_eq_true hb.2
      obtain ⟨ev,ek⟩:=hs.eval hx
      obtain ⟨ec,ekk⟩:=svCells_ok hs.one hc ek
      have hsz:arr.size=cs.length:=by rw [← Array.length_toList,ha,List.length_map]
      have hlen:(denV E v).cells.size=sz:=by rw [ec];simp [e1]
      have hfold:=foldl_set_eq (ps.map (den E)) o arr (by simp;omega)
      have hstep:Instr.fill place arr ((i,a.eval x)::(r.map fun (i,x)=>(i,a.eval x))) =
        Instr.fill place ((denV E v).cells.zipIdx.foldl (fun cs (c,j)=>cs.setIfInBounds (o+j) c) arr) (r.map fun (i,x)=>(i,a.eval x)):=by
       rw [Instr.fill,hp _ _ _ _ hf,ev]
       simp only [hlen,ne_eq,not_true_eq_false,decide_false,Bool.false_or]
       rw [if_neg (by simp;omega)]
      simp only [List.map_cons]
      rw [hstep,ec]
      refine fillS_ok hs fo place hp r _ cs' _ h ?_ ?_
      ·intro y hy
       simp only [List.mem_append] at hy
       rcases hy with (hy | hy) | hy
       ·exact hk y (List.mem_of_mem_take hy)
       ·exact ekk y hy
       ·exact hk y (List.mem_of_mem_drop hy)
      ·rw [hfold,ha]
       simp [List.map_take,List.map_drop,e1]
theorem elemsFo_get (es:Nat):∀ (n i:Nat) (q:Nat × Nat × Bool),(elemsFo es n)[i]? = some q→q=(i * es,es,false)
 | 0,i,q,h=>by simp [elemsFo] at h
 | n+1,i,q,h=>by
  have hl:∀ n,(elemsFo es n).length=n:=by intro n;induction n with
   | zero=>rfl
   | succ n ih=>simp [elemsFo,ih]
  rw [elemsFo,List.getElem?_append,hl] at h
  split at h
  ·exact elemsFo_get es n i q h
  ·rename_i hn
   have:i-n=0:=by
    rcases Nat.eq_zero_or_pos (i-n) with e | e
    ·exact e
    ·rw [List.getElem?_eq_none (by simp;omega)] at h;cases h
   rw [this] at h
   simp only [List.getElem?_cons_zero,Option.some.injEq] at h
   rw [← h]
   have:i=n:=by omega
   rw [this]
theorem kb_zero {t:TypeId} {d:TD} (h:TD.Ok P t d) {n:Nat}:∀ x∈d.z,SC.kb n x:=fun x hx=>kb_closed (List.all_eq_true.1 h.2.2.1 x hx)
theorem build_ok (htt:TTOk P tt) (hs:Sat X s E F w a) {t:TypeId} {d:TD} (hd:look tt t=some d) {parts:Array (Nat × Operand)} {cs:List SC} :
    (Nat.beq d.kd 4=true∧fillS d.fo s.L parts.toList d.z=some cs∨Nat.beq d.kd 5=true∧fillS (elemsFo d.es d.n) s.L parts.toList d.z=some cs) →
    (Instr.build t (parts.map fun (i,x)=>(i,a.eval x))).run P w=.ok (denV E (.a cs)) w∧(SV.a cs).kb s.nx:=by
  intro h
  have ok:=htt.get hd
  obtain ⟨z,hz,hzc⟩:=run_zeroValue' w ok
  have hzl:z.cells.toList=d.z.map (den E):=by rw [hzc E]
  have hpar:(parts.map fun (i,x)=>(i,a.eval x)).toList=parts.toList.map fun (i,x)=>(i,a.eval x):=by simp
  rcases h with ⟨hk,h⟩ | ⟨hk,h⟩
  · have hu:∃ fs,P.underlying t=some (.struct fs)∧fieldsOk P fs.toList d.fo=true:=by
      have hk:=Nat.eq_of_beq_eq_true hk
      have h2:=ok.2.1
      unfold kindOk at h2
      split at h2<;>simp_all
    obtain ⟨fs,hu,hfo⟩:=hu
    have hpl:∃ places:Array (Nat × Nat),(fs.mapM (m:=Sem) fun (f:Field)=>do pure (f.offset,← sizeOf f.type)).run P w=.ok places w∧∀ (i o sz:Nat) (g:Bool),d.fo[i]? = some (o,sz,g)→places[i]? = some (o,sz):=by
      have key:∀ (fl:List Field) (fo:List (Nat × Nat × Bool)),fieldsOk P fl fo=true →
          ∃ pl:List (Nat × Nat),(fl.mapM (m:=Sem) fun (f:Field)=>do pure (f.offset,← sizeOf f.type)).run P w=.ok pl w∧∀ (i o sz:Nat) (g:Bool),fo[i]? = some (o,sz,g)→pl[i]? = some (o,sz):=by
        intro fl
        induction fl with
        | nil =>
          intro fo hf
          cases fo with
          | nil=>exact ⟨[],rfl,by simp⟩
          | cons _ _=>simp [fieldsOk] at hf
        | cons f fl ih =>
          intro fo hf
          cases fo with
          | nil=>simp [fieldsOk] at hf
          | cons q r =>
            obtain ⟨o,sz,g⟩:=q
            obtain ⟨f',i,ds,h1,h2,h3,h4,_⟩:=fieldsOk_get (j:=0) (x:=(o,sz,g)) hf rfl
            simp only [List.getElem?_cons_zero,Option.some.injEq] at h1
            subst h1
            simp only [fieldsOk,Bool.and_eq_true] at hf
            obtain ⟨pl,hr,hg⟩:=ih r hf.2
            refine ⟨(o,sz)::pl,?_,?_⟩
            · have hz:(sizeOf f.type).run P w=.ok sz w:=by simp [sizeOf,typeInfo,h3,h4]
              simp only [List.mapM_cons,Sem.run_bind,hz,Result.andThen_ok,Sem.run_pure,hr,h2]
            · intro i o' sz' g' hi
              cases i with
              | zero=>simp at hi ⊢;exact ⟨hi.1,hi.2.1⟩
              | succ i=>simpa using hg i o' sz' g' (by simpa using hi)
      obtain ⟨pl,hr,hg⟩:=key fs.toList d.fo hfo
      refine ⟨pl.toArray,?_,by simpa using hg⟩
      rw [← Array.toArray_toList (xs:=fs),List.mapM_toArray]
      simp only [Sem.run_map,hr,Result.andThen_ok]
    obtain ⟨places,hpr,hpg⟩:=hpl
    obtain ⟨arr',hfl,harr,hkb⟩:=fillS_ok hs d.fo (places[·]?) hpg parts.toList d.z cs z.cells h (kb_zero ok) hzl
    refine ⟨?_,hkb⟩
    have he:arr'=(cs.map (den E)).toArray:=by apply Array.ext';rw [harr]
    unfold Instr.build
    simp only [Sem.run_bind,hz,Result.andThen_ok,run_underlying' hu,hpr,hpar,hfl,he]
    rfl
  · have hu:∃ n e i,P.underlying t=some (.array n e)∧d.n=n∧P.info? e=some i∧i.size=d.es:=by
      have hk:=Nat.eq_of_beq_eq_true hk
      have h2:=ok.2.1
      unfold kindOk at h2
      split at h2<;>(try simp_all;done)
      rename_i n e hu
      simp only [Bool.and_eq_true,beq_iff_eq] at h2
      have h3:=h2.1.1.1.2
      rw [Option.any_eq_true_iff_get] at h3
      obtain ⟨hs,h3⟩:=h3
      simp only [Bool.and_eq_true,beq_iff_eq] at h3
      exact ⟨n,e,_,hu,h2.1.1.1.1.2,(Option.some_get hs).symm,h3.1⟩
    obtain ⟨n,e,i,hu,hn,hi,hsz⟩:=hu
    have hze:(sizeOf e).run P w=.ok d.es w:=by simp [sizeOf,typeInfo,hi,hsz]
    obtain ⟨arr',hfl,harr,hkb⟩:=fillS_ok hs (elemsFo d.es d.n) (fun i=>some (i * d.es,d.es)) (fun i o sz g hi=>by
      have:=elemsFo_get _ _ _ _ hi;simp only [Prod.mk.injEq] at this;rw [this.1,this.2.1]) parts.toList d.z cs z.cells h (kb_zero ok) hzl
    refine ⟨?_,hkb⟩
    have he:arr'=(cs.map (den E)).toArray:=by apply Array.ext';rw [harr]
    unfold Instr.build
    simp only [Sem.run_bind,hz,Result.andThen_ok,run_underlying' hu,hze,hpar,hfl,he]
    rfl
end
end Go.Kx
end
section
namespace Go.Kx
variable [LxP]
section
variable {P:Program} {X:Ctx} {s:St} {E:Env} {F:FSet} {w:World} {a:Act} {tt:List (Nat × TD)}
theorem exec_call_builtin {o:Oper} {b:Builtin} {args:Array Operand} {ts:Array TypeId} (ho:o.op=.call { callee:=.builtin b,args:=args,argTypes:=ts }) {v:Value} {w':World}
  (h:(builtin b ts o.type (args.map fun | .const _=>true | _=>false) (args.map a.eval)).run P w=.ok (.value v) w'):(execOp a.eval o).run P w=.ok (.value v) w':=by
 unfold execOp
 simp only [ho,resolve,invoke,Sem.run_bind,Sem.run_pure,Result.andThen_ok]
 exact h
theorem scall_ok (htt:TTOk P tt) (hs:Sat X s E F w a) {o:Oper} {c:Call} (ho:o.op=.call c) {v:SV} (h:scall tt s c=some v) :
  (execOp a.eval o).run P w=.ok (.value (denV E v)) w∧v.kb s.nx:=by
 obtain ⟨callee,args,ts⟩:=c
 unfold scall at h
 simp only [] at h
 split at h
 ·split at h
  ·rename_i x hargs
   split at h
   ·rename_i t hts
    cases hd:look tt t with
    | none=>rw [hd] at h;cases h
    | some d =>
     rw [hd] at h
     simp only [] at h
     cases hx:evalO s.L x with
     | none=>rw [hx] at h;cases h
     | some vx =>
      rw [hx] at h
      simp only [] at h
      obtain ⟨h1,_⟩:=hs.eval hx
      obtain ⟨h3,h4⟩:=lenS_ok (ty:=o.type) htt hs hd h
      refine ⟨exec_call_builtin ho ?_,h4⟩
      have e1:args=#[x]:=by apply Array.ext';rw [hargs]
      have e2:ts=#[t]:=by apply Array.ext';rw [hts]
      subst e1 e2
      simp only [List.map_toArray,List.map_cons,List.map_nil,h1]
      exact exec_v h3
   ·cases h
  ·cases h
 ·cases hx:evalL s.L args.toList with
  | none=>rw [hx] at h;cases h
  | some vs =>
   rw [hx] at h
   simp only [] at h
   obtain ⟨h1,_⟩:=evalL_ok hs hx
   obtain ⟨x,rest,h3,h4,h5⟩:=minmax_ok (P:=P) (s:=s) (E:=E) (w:=w) minI Builtin.min2 (fun _ _ _=>rfl) h
   refine ⟨exec_call_builtin ho ?_,h5⟩
   have:(Builtin.min_ ts o.type (args.map a.eval)).run P w=.ok (denV E v) w:=by
    unfold Builtin.min_
    rw [Array.toList_map,h1,h3]
    exact h4
   exact exec_v this
 ·cases hx:evalL s.L args.toList with
  | none=>rw [hx] at h;cases h
  | some vs =>
   rw [hx] at h
   simp only [] at h
   obtain ⟨h1,_⟩:=evalL_ok hs hx
   obtain ⟨x,rest,h3,h4,h5⟩:=minmax_ok (P:=P) (s:=s) (E:=E) (w:=w) maxI Builtin.max2 (fun _ _ _=>rfl) h
   refine ⟨exec_call_builtin ho ?_,h5⟩
   have:(Builtin.max_ ts o.type (args.map a.eval)).run P w=.ok (denV E v) w:=by
    unfold Builtin.max_
    rw [Array.toList_map,h1,h3]
    exact h4
   exact exec_v this
 ·cases h
theorem boxesL_ok {X:Ctx} {s:St} {E:Env} {F:FSet} {w:World} {a:Act} (hs:Sat X s E F w a):∀ {xs:List Operand} {ks:List Nat},boxesL s.L xs=some ks →
  xs.map a.eval=ks.map (fun k=>Value.pointer (some ⟨E.β k,0,none⟩))∧∀ k∈ks,k < s.nx
 | [],ks,h=>by cases h;exact ⟨rfl,by simp⟩
 | x::r,ks,h=>by
  unfold boxesL at h
  split at h
  ·rename_i k hx
   cases hr:boxesL s.L r with
   | none=>rw [hr] at h;cases h
   | some us =>
    rw [hr] at h
    cases h
    obtain ⟨h1,h2⟩:=boxesL_ok hs hr
    obtain ⟨h3,h4⟩:=hs.eval hx
    refine ⟨by simp [h1,h3,denV,den],fun j hj=>?_⟩
    rcases List.mem_cons.1 hj with rfl | hj
    ·exact h4
    ·exact h2 j hj
  ·cases h
theorem sval_ok (htt:TTOk P tt) (hs:Sat X s E F w a) {o:Oper} {v:SV} (h:sval tt s o.op=some v) :
  (execOp a.eval o).run P w=.ok (.value (denV E v)) w∧v.kb s.nx:=by
 unfold sval at h
 split at h
 ·rename_i x ho
  obtain ⟨h1,h2⟩:=hs.eval h
  exact ⟨by simp [execOp,ho,h1],h2⟩
 ·rename_i x ho
  obtain ⟨h1,h2⟩:=hs.eval h
  exact ⟨by simp [execOp,ho,h1],h2⟩
 ·rename_i c x y ho
  split at h
  ·rename_i hc
   obtain ⟨h1,h2⟩:=hs.eval h
   obtain ⟨h3,_⟩:=hs.eval hc
   exact ⟨by simp [execOp,ho,h3,h1,denV,den,asBool],h2⟩
  ·rename_i hc
   obtain ⟨h1,h2⟩:=hs.eval h
   obtain ⟨h3,_⟩:=hs.eval hc
   exact ⟨by simp [execOp,ho,h3,h1,denV,den,asBool],h2⟩
  ·cases h
 ·rename_i t ad ho
  cases hd:look tt t with
  | none=>rw [hd] at h;cases h
  | some d =>
   rw [hd] at h
   simp only [] at h
   split at h
   ·rename_i k off hx
    split at h
    ·rename_i cs t' hm
     obtain ⟨h3,_⟩:=hs.eval hx
     have hb:w.heap[E.β k]? = some (.cells (cs.map (den E)).toArray t' (0,0)):=hs.hM k _ hm
     have hl:=run_loadVar_cells (E:=E) (base:=0) (htt.get hd) hb (cs:=cs) (fun j x hj=>by simp [hj]) h
     rw [Nat.zero_add] at hl
     refine ⟨?_,loadC_kb h (hs.wf.hM k _ hm).2⟩
     have:(Instr.loadAt t (a.eval ad)).run P w=.ok (denV E v) w:=by
      rw [h3];simp only [Instr.loadAt,Instr.sureAddr,denV,den,Sem.run_bind,Sem.run_pure,Result.andThen_ok,hl]
     simp only [execOp,ho]
     exact exec_v this
    ·cases h
   ·rename_i k off hx
    split at h
    ·rename_i cs hm
     obtain ⟨h3,_⟩:=hs.eval hx
     obtain ⟨b,o',arr,ty,fz,hv,hF,hh,hc⟩:=hs.hV k _ hm
     have hl:=run_loadVar_cells (E:=E) (base:=o') (htt.get hd) hh (cs:=cs) hc h
     refine ⟨?_,loadC_kb h (hs.wf.hV k _ hm).2⟩
     have:(Instr.loadAt t (a.eval ad)).run P w=.ok (denV E v) w:=by
      rw [h3];simp only [Instr.loadAt,Instr.sureAddr,denV,den,hv,addP,Sem.run_bind,Sem.run_pure,Result.andThen_ok,hl]
     simp only [execOp,ho]
     exact exec_v this
    ·cases h
   ·cases h
 ·rename_i x ho
  split at h
  ·rename_i hx
   obtain ⟨h3,h4⟩:=hs.eval hx
   cases h
   exact ⟨by simp [execOp,ho,h3,denV,den],h4⟩
  ·rename_i hx
   obtain ⟨h3,h4⟩:=hs.eval hx
   cases h
   exact ⟨by simp [execOp,ho,h3,denV,den],h4⟩
  ·rename_i hx
   obtain ⟨h3,h4⟩:=hs.eval hx
   cases h
   exact ⟨by simp [execOp,ho,h3,denV,den],h4⟩
  ·cases h
 ·rename_i bop t x y _ ho
  cases hx:evalO s.L x with
  | none=>rw [hx] at h;cases h
  | some vx =>
   rw [hx] at h
   simp only [] at h
   cases hy:evalO s.L y with
   | none=>rw [hy] at h;cases h
   | some vy =>
    rw [hy] at h
    simp only [] at h
    obtain ⟨h1,_⟩:=hs.eval hx
    obtain ⟨h2,_⟩:=hs.eval hy
    obtain ⟨h3,h4⟩:=sbin_ok (P:=P) (s:=s) (E:=E) (w:=w) htt bop t x y h hy
    refine ⟨?_,h4⟩
    simp only [execOp,ho]
    rw [h1,h2]
    exact exec_v h3
 ·rename_i uop _ x ho
  split at h
  ·rename_i t hx
   obtain ⟨h3,_⟩:=hs.eval hx
   split at h
   ·cases h
    exact ⟨by simp [execOp,ho,h3,denV,den,Op.unary],trivial⟩
   ·cases h
  ·rename_i k n hx
   obtain ⟨h3,_⟩:=hs.eval hx
   split at h
   ·cases h
    exact ⟨by simp [execOp,ho,h3,denV,den,Op.unary,Op.intArith],trivial⟩
   ·cases h
  ·cases h
 ·rename_i src dst x ho
  cases hd0:look tt src with
  | none=>rw [hd0] at h;cases h
  | some d0 =>
   rw [hd0] at h
   simp only [] at h
   cases hd:look tt dst with
   | none=>rw [hd] at h;cases h
   | some d =>
    rw [hd] at h
    simp only [] at h
    obtain ⟨ds0,hu0⟩:=(htt.get hd0).und
    split at h
    ·rename_i k n hx
     obtain ⟨h3,_⟩:=hs.eval hx
     split at h
     ·rename_i k' hk
      cases h
      have hu:P.underlying dst=some (.int k'):=by
       have h2:=(htt.get hd).2.1
       unfold kindOk at h2
       split at h2<;>simp_all
      exact ⟨by simp [execOp,ho,h3,denV,den,convert,run_underlying' hu0,run_underlying' hu,Conv.intToInt],trivial⟩
     ·cases h
    ·rename_i y hx
     obtain ⟨h3,_⟩:=hs.eval hx
     cases hk:Nat.beq d.kd 2 with
     | false=>rw [hk] at h;cases h
     | true =>
      rw [hk] at h
      cases h
      have hu:=(htt.get hd).str hk
      exact ⟨by simp [execOp,ho,h3,denV,den,convert,run_underlying' hu0,run_underlying' hu],trivial⟩
    ·cases h
 ·rename_i t x f ho
  cases hd:look tt t with
  | none=>rw [hd] at h;cases h
  | some d =>
   rw [hd] at h
   simp only [] at h
   cases hx:evalO s.L x with
   | none=>rw [hx] at h;cases h
   | some vx =>
    rw [hx] at h
    simp only [] at h
    obtain ⟨h1,h2⟩:=hs.eval hx
    obtain ⟨h3,h4⟩:=faddr_ok htt hs hd h h2
    refine ⟨?_,h4⟩
    simp only [execOp,ho]
    rw [h1]
    exact exec_v h3
 ·rename_i t x f ho
  cases hd:look tt t with
  | none=>rw [hd] at h;cases h
  | some d =>
   rw [hd] at h
   simp only [] at h
   split at h
   ·rename_i cs hx
    obtain ⟨h1,h2⟩:=hs.eval hx
    split at h
    ·rename_i o' sz g hf
     obtain ⟨fs,fl,i,ds,hu,hfl,ho',hi,hsz,hne,hag,hud⟩:=(htt.get hd).field hf
     simp only [] at ho' hsz hne hag
     have hz:(sizeOf fl.type).run P w=.ok sz w:=by simp [sizeOf,typeInfo,hi,hsz]
     have hia:=run_isAgg' w hud
     have hpart:(Instr.field t (denV E (.a cs)) f).run P w=.ok (denV E v) w∧v.kb s.nx:=by
      cases hg:g with
      | true =>
       rw [hg] at h
       simp only [cond_true] at h
       cases hb:Nat.ble (o'+sz) cs.length with
       | false=>rw [hb] at h;cases h
       | true =>
        rw [hb] at h
        cases h
        refine ⟨?_,fun y hy=>h2 y (List.mem_of_mem_drop (List.mem_of_mem_take hy))⟩
        simp only [Instr.field,Sem.run_bind,run_underlying' hu,Result.andThen_ok,hfl,denV,asAgg,Sem.run_pure,part,hia,hag,hg,if_true,hz,ho']
        congr 2
        apply Array.ext'
        simp [List.map_drop,List.map_take,List.take_drop]
      | false =>
       rw [hg] at h
       simp only [cond_false] at h
       cases hc:cs[o']? with
       | none=>rw [hc] at h;cases h
       | some c =>
        rw [hc] at h
        cases h
        refine ⟨?_,h2 c (List.mem_of_getElem? hc)⟩
        simp only [Instr.field,Sem.run_bind,run_underlying' hu,Result.andThen_ok,hfl,denV,asAgg,Sem.run_pure,part,hia,hag,hg,if_false,ho',Bool.false_eq_true]
        simp [hc]
     refine ⟨?_,hpart.2⟩
     simp only [execOp,ho]
     rw [h1]
     exact exec_v hpart.1
    ·cases h
   ·cases h
 ·rename_i x j ho
  split at h
  ·rename_i vs hx
   obtain ⟨h1,h2⟩:=hs.eval hx
   split at h
   ·rename_i c hj
    cases h
    have:=h2 _ (List.mem_of_getElem? hj)
    exact ⟨by simp [execOp,ho,h1,denV,Instr.extract,hj,denS],this⟩
   ·rename_i cs hj
    cases h
    have:=h2 _ (List.mem_of_getElem? hj)
    exact ⟨by simp [execOp,ho,h1,denV,Instr.extract,hj,denS],this⟩
   ·cases h
  ·cases h
 ·rename_i t parts ho
  cases hd:look tt t with
  | none=>rw [hd] at h;cases h
  | some d =>
   rw [hd] at h
   simp only [] at h
   have key:∀ cs,(Nat.beq d.kd 4=true∧fillS d.fo s.L parts.toList d.z=some cs∨Nat.beq d.kd 5=true∧fillS (elemsFo d.es d.n) s.L parts.toList d.z=some cs) →
     (execOp a.eval o).run P w=.ok (.value (denV E (.a cs))) w∧(SV.a cs).kb s.nx:=by
    intro cs hc
    obtain ⟨h3,h4⟩:=build_ok htt hs hd hc
    refine ⟨?_,h4⟩
    simp only [execOp,ho]
    exact exec_v h3
   cases hk:Nat.beq d.kd 4 with
   | true =>
    rw [hk] at h
    simp only [cond_true] at h
    split at h
    ·rename_i cs hf
     cases h
     exact key cs (.inl ⟨hk,hf⟩)
    ·cases h
   | false =>
    rw [hk] at h
    simp only [cond_false] at h
    cases hk5:Nat.beq d.kd 5 with
    | false=>rw [hk5] at h;cases h
    | true =>
     rw [hk5] at h
     simp only [cond_true] at h
     split at h
     ·rename_i cs hf
      cases h
      exact key cs (.inr ⟨hk5,hf⟩)
     ·cases h
 ·rename_i f first captured ho
  cases h1:boxesL s.L first.toList with
  | none=>rw [h1] at h;cases h
  | some fs =>
   rw [h1] at h
   simp only [] at h
   cases h2:boxesL s.L captured.toList with
   | none=>rw [h2] at h;cases h
   | some ks =>
    rw [h2] at h
    cases h
    obtain ⟨e1,k1⟩:=boxesL_ok hs h1
    obtain ⟨e2,k2⟩:=boxesL_ok hs h2
    refine ⟨?_,k1,k2⟩
    have q1:first.map a.eval=denB E fs:=by apply Array.ext';rw [Array.toList_map,e1];simp [denB]
    have q2:captured.map a.eval=denB E ks:=by apply Array.ext';rw [Array.toList_map,e2];simp [denB]
    simp only [execOp,ho]
    refine exec_v ?_
    simp only [Instr.makeFunc,q1,q2,denV,den,Sem.run_pure]
 ·rename_i c ho
  exact scall_ok htt hs ho h
 ·cases h
end
end Go.Kx
end
section
namespace Go.Kx
variable [LxP]
theorem Oper.wp_imp {P:Program} {o:Oper} {a:Act} {w:World} {K K':Act→World→Prop} {Q':Exit→Act→World→Prop} (h:∀ a w,K a w→K' a w)
  (hh:o.wp P a w K (fun _ _ _=>False)):o.wp P a w K' Q':=by
 unfold Oper.wp at *
 unfold Oper.upon at *
 split at hh
 ·exact h _ _ hh
 ·exact h _ _ hh
 ·exact h _ _ hh
 ·refine Calls.mono hh fun e w' hr=>?_
  split at hr
  ·exact h _ _ hr
  ·exact hr.elim
  ·obtain ⟨_,_,hf⟩:=hr;exact hf.elim
 ·exact Rows.mono hh fun v w' hr=>h _ _ hr
 ·exact hh.elim
 ·exact hh.elim
section
variable {X:Ctx} {s:St} {E:Env} {F:FSet} {w:World} {a:Act}
theorem getElem?_put {a:Act} {d:Tmp} {v:Value} (h:d < a.tmps.size) (j:Nat):(a.put (some d) v).tmps[j]? = if d=j then some v else a.tmps[j]? := by
 simp only [Act.put]
 by_cases e:d=j
 ·subst e;simp [h]
 ·simp [e]
theorem put_size (a:Act) (d:Option Tmp) (v:Value):(a.put d v).tmps.size=a.tmps.size:=by cases d<;>simp [Act.put]
theorem put_defers (a:Act) (d:Option Tmp) (v:Value):(a.put d v).defers=a.defers:=by cases d<;>simp [Act.put]
theorem Sat.setL (hs:Sat X s E F w a) {d:Nat} {v:SV} (hk:v.kb s.nx) (hd:d < X.fn.ntmps):Sat X ⟨(d,v)::s.L,s.M,s.V,s.nx⟩ E F w (a.put (some d) (denV E v)) where
 wf:=⟨fun d' v' h=>by
   rw [look_cons] at h
   split at h
   ·cases h;exact hk
   ·exact hs.wf.hL _ _ h,hs.wf.hM,hs.wf.hV⟩
 nk:=hs.nk
 defers:=by rw [put_defers];exact hs.defers
 size:=by rw [put_size];exact hs.size
 hL:=fun d' v' h=>by
  rw [getElem?_put (by rw [hs.size];exact hd)]
  rw [look_cons] at h
  split at h
  ·rename_i e;cases h;rw [if_pos e]
  ·rename_i e;rw [if_neg e];exact hs.hL _ _ h
 hV:=hs.hV
 hM:=hs.hM
 dis:=hs.dis
 mF:=hs.mF
 fresh:=hs.fresh
 hF:=hs.hF
 hF0:=hs.hF0
 hF1:=hs.hF1
 hn0:=hs.hn0
 hZ:=hs.hZ
 ext:=hs.ext
 link:=hs.link
 one:=hs.one
theorem Sat.world {w':World} (hs:Sat X s E F w a) (ho:w'.os=w.os) (ht:w'.tape=w.tape) (hu:Oq w w') (hsz:w.heap.size≤w'.heap.size)
  (hb:∀ b,b < w.heap.size→w'.heap[b]? = w.heap[b]?):Sat X s E F w' a where
 wf:=hs.wf
 nk:=hs.nk
 defers:=hs.defers
 size:=hs.size
 hL:=hs.hL
 hV:=fun k f h=>(hs.hV k f h).mono ⟨fun _ h=>h,fun b hF=>hb b (hs.hF b hF)⟩
 hM:=fun k m h=>(hs.hM k m h).mono ⟨fun _ h=>h,fun b hF=>hb b (hs.hF b hF)⟩ fun b hf=>hb b (hs.mF k m h b hf).2.2
 dis:=hs.dis
 mF:=fun k m h b hf=>⟨(hs.mF k m h b hf).1,(hs.mF k m h b hf).2.1,Nat.lt_of_lt_of_le (hs.mF k m h b hf).2.2 hsz⟩
 fresh:=hs.fresh
 hF:=fun b hF=>Nat.lt_of_lt_of_le (hs.hF b hF) hsz
 hF0:=hs.hF0
 hF1:=hs.hF1
 hn0:=hs.hn0
 hZ:=hs.hZ
 ext:=hs.ext.trans ⟨ho,ht,hu,hsz,fun b hz=>hb b (Nat.lt_of_lt_of_le (hs.hZ b hz) hs.ext.size)⟩
 link:=hs.link
 one:=hs.one
theorem Sat.env {E':Env} (hs:Sat X s E F w a) (hE:E.Eqb s.nx E') (h1:∀ k,(E'.ρ k).oneCell'=true):Sat X s E' F w a where
 wf:=hs.wf
 nk:=hs.nk
 defers:=hs.defers
 size:=hs.size
 hL:=fun d v h=>by rw [denV_eqb hE (hs.wf.hL d v h)];exact hs.hL d v h
 hV:=fun k f h=>by
  have:=(hs.hV k f h).eqb hE (hs.wf.hV k f h).2
  rw [(hE k (hs.wf.hV k f h).1).1];exact this
 hM:=fun k m h=>(hs.hM k m h).eqb hE (hs.wf.hM k m h).1 (hs.wf.hM k m h).2
 dis:=fun k k' m m' h h' hne b hb=>by
  rw [MO.fp_eqb hE (hs.wf.hM k m h).1] at hb
  rw [MO.fp_eqb hE (hs.wf.hM k' m' h').1]
  exact hs.dis k k' m m' h h' hne b hb
 mF:=fun k m h b hb=>hs.mF k m h b ((MO.fp_eqb hE (hs.wf.hM k m h).1).1 hb)
 fresh:=fun k m h hf b hb=>hs.fresh k m h hf b ((MO.fp_eqb hE (hs.wf.hM k m h).1).1 hb)
 hF:=hs.hF
 hF0:=hs.hF0
 hF1:=hs.hF1
 hn0:=hs.hn0
 hZ:=hs.hZ
 ext:=hs.ext
 link:=hs.link.trans (hE.mono hs.nk)
 one:=h1
theorem St.Wf.grow {s:St} (h:s.Wf) {n:Nat} (hn:s.nx≤n):St.Wf ⟨s.L,s.M,s.V,n⟩ :=
 ⟨fun d v g=>(h.hL d v g).mono hn,fun k m g=>⟨Nat.lt_of_lt_of_le (h.hM k m g).1 hn,(h.hM k m g).2.mono hn⟩,fun k f g=>⟨Nat.lt_of_lt_of_le (h.hV k f g).1 hn,(h.hV k f g).2.mono hn⟩⟩
theorem Sat.nxt (hs:Sat X s E F w a) {n:Nat} (hn:s.nx≤n):Sat X ⟨s.L,s.M,s.V,n⟩ E F w a :=
 { hs with wf:=hs.wf.grow hn,nk:=Nat.le_trans hs.nk hn }
theorem Sat.addM {m:MO} (hs:Sat X s E F w a) (hm:m.ok E F w s.nx) (hk:m.kb (s.nx+1))
  (hfp:∀ b,m.fp E s.nx b→¬ F b∧X.w0.heap.size≤b∧b < w.heap.size∧∀ k m',look s.M k=some m'→¬ m'.fp E k b) :
  Sat X ⟨s.L,(s.nx,m)::s.M,s.V,s.nx+1⟩ E F w a where
 wf:=⟨(hs.wf.grow (Nat.le_succ _)).hL,fun k m' h=>by
   rw [look_cons] at h
   split at h
   ·rename_i e;cases h;subst e;exact ⟨Nat.lt_succ_self _,hk⟩
   ·exact (hs.wf.grow (Nat.le_succ _)).hM k m' h,(hs.wf.grow (Nat.le_succ _)).hV⟩
 nk:=Nat.le_succ_of_le hs.nk
 defers:=hs.defers
 size:=hs.size
 hL:=hs.hL
 hV:=hs.hV
 hM:=fun k m' h=>by
  rw [look_cons] at h
  split at h
  ·rename_i e;cases h;subst e;exact hm
  ·exact hs.hM k m' h
 dis:=fun k k' m1 m2 h1 h2 hne b hb=>by
  rw [look_cons] at h1 h2
  split at h1
  ·rename_i e1
   cases h1;subst e1
   split at h2
   ·rename_i e2;exact absurd e2 hne
   ·exact (hfp b hb).2.2.2 k' m2 h2
  ·split at h2
   ·rename_i e2
    cases h2;subst e2
    exact fun hb'=>(hfp b hb').2.2.2 k m1 h1 hb
   ·exact hs.dis k k' m1 m2 h1 h2 hne b hb
 mF:=fun k m' h b hb=>by
  rw [look_cons] at h
  split at h
  ·rename_i e;cases h;subst e
   exact ⟨(hfp b hb).1,fun hz=>absurd (hs.hZ b hz) (Nat.not_lt.2 (hfp b hb).2.1),(hfp b hb).2.2.1⟩
  ·exact hs.mF k m' h b hb
 fresh:=fun k m' h hf b hb=>by
  rw [look_cons] at h
  split at h
  ·rename_i e;cases h;subst e;exact Nat.le_trans hs.hn0 (hfp b hb).2.1
  ·exact hs.fresh k m' h hf b hb
 hF:=hs.hF
 hF0:=hs.hF0
 hF1:=hs.hF1
 hn0:=hs.hn0
 hZ:=hs.hZ
 ext:=hs.ext
 link:=hs.link
 one:=hs.one
theorem Sat.addV {f:VF} (hs:Sat X s E F w a) (hf:f.ok E F w (E.ρ s.nx)) (hk:f.kb (s.nx+1)) :
  Sat X ⟨s.L,s.M,(s.nx,f)::s.V,s.nx+1⟩ E F w a :=
 { hs with
  wf:=⟨(hs.wf.grow (Nat.le_succ _)).hL,(hs.wf.grow (Nat.le_succ _)).hM,fun k f' h=>by
   rw [look_cons] at h
   split at h
   ·rename_i e;cases h;subst e;exact ⟨Nat.lt_succ_self _,hk⟩
   ·exact (hs.wf.grow (Nat.le_succ _)).hV k f' h⟩
  nk:=Nat.le_succ_of_le hs.nk
  hV:=fun k f' h=>by
   rw [look_cons] at h
   split at h
   ·rename_i e;cases h;subst e;exact hf
   ·exact hs.hV k f' h }
theorem Sat.setM {m m':MO} {k:Nat} {w':World} (hs:Sat X s E F w a) (hm:look s.M k=some m) (ho:w'.os=w.os) (ht:w'.tape=w.tape) (hu:Oq w w')
  (hsz:w.heap.size≤w'.heap.size) (hb:∀ b,b < w.heap.size→¬ m.fp E k b→w'.heap[b]? = w.heap[b]?) (hfp:∀ b,m'.fp E k b→m.fp E k b) (hok:m'.ok E F w' k)
  (hkb:m'.kb s.nx) (hfr:m'.isFresh=true→m.isFresh=true):Sat X ⟨s.L,(k,m')::s.M,s.V,s.nx⟩ E F w' a where
 wf:=⟨hs.wf.hL,fun j m2 h=>by
   rw [look_cons] at h
   split at h
   ·rename_i e;cases h;subst e;exact ⟨(hs.wf.hM k m hm).1,hkb⟩
   ·exact hs.wf.hM j m2 h,hs.wf.hV⟩
 nk:=hs.nk
 defers:=hs.defers
 size:=hs.size
 hL:=hs.hL
 hV:=fun j f h=>(hs.hV j f h).mono ⟨fun _ h=>h,fun b hF=>hb b (hs.hF b hF) fun hf=>(hs.mF k m hm b hf).1 hF⟩
 hM:=fun j m2 h=>by
  rw [look_cons] at h
  split at h
  ·rename_i e;cases h;subst e;exact hok
  ·rename_i e
   exact (hs.hM j m2 h).mono ⟨fun _ h=>h,fun b hF=>hb b (hs.hF b hF) fun hf=>(hs.mF k m hm b hf).1 hF⟩
    fun b hf=>hb b (hs.mF j m2 h b hf).2.2 fun hf'=>hs.dis k j m m2 hm h e b hf' hf
 dis:=fun j j' m1 m2 h1 h2 hne b hb=>by
  rw [look_cons] at h1 h2
  split at h1
  ·rename_i e1
   cases h1;subst e1
   split at h2
   ·rename_i e2;exact absurd e2 hne
   ·exact hs.dis k j' m m2 hm h2 hne b (hfp b hb)
  ·split at h2
   ·rename_i e2
    cases h2;subst e2
    exact fun hb'=>hs.dis j k m1 m h1 hm hne b hb (hfp b hb')
   ·exact hs.dis j j' m1 m2 h1 h2 hne b hb
 mF:=fun j m2 h b hb=>by
  rw [look_cons] at h
  split at h
  ·rename_i e;cases h;subst e
   have:=hs.mF k m hm b (hfp b hb)
   exact ⟨this.1,this.2.1,Nat.lt_of_lt_of_le this.2.2 hsz⟩
  ·have:=hs.mF j m2 h b hb
   exact ⟨this.1,this.2.1,Nat.lt_of_lt_of_le this.2.2 hsz⟩
 fresh:=fun j m2 h hf b hb=>by
  rw [look_cons] at h
  split at h
  ·rename_i e;cases h;subst e;exact hs.fresh k m hm (hfr hf) b (hfp b hb)
  ·exact hs.fresh j m2 h hf b hb
 hF:=fun b hF=>Nat.lt_of_lt_of_le (hs.hF b hF) hsz
 hF0:=hs.hF0
 hF1:=hs.hF1
 hn0:=hs.hn0
 hZ:=hs.hZ
 ext:=hs.ext.trans ⟨ho,ht,hu,hsz,fun b hz=>hb b (Nat.lt_of_lt_of_le (hs.hZ b hz) hs.ext.size) fun hf=>(hs.mF k m hm b hf).2.1 hz⟩
 link:=hs.link
 one:=hs.one
theorem Sat.drop {k:Nat} {m:MO} (hs:Sat X s E F w a) (hm:look s.M k=some m):Sat X ⟨s.L,(k,.gone)::s.M,s.V,s.nx⟩ E F w a :=
 hs.setM hm rfl rfl .m (Nat.le_refl _) (fun _ _ _=>rfl) (fun _ h=>h.elim) trivial trivial (fun h=>by cases h)
theorem run_storeCells_thaw {P:Program} (g o:Nat) (t:TypeId) (fz:Nat × Nat):∀ (vs:List Value) (i:Nat) (cur:Array Value) (w:World),w.heap[g]? = some (.cells cur t fz)→ThawAt fz cur.size →
  o+i+vs.length≤cur.size→(∀ v∈vs,v.oneCell'=true) →
  (storeCells ⟨g,o,none⟩ vs i).run P w=.ok () (w.setRow g (cur.toList.take (o+i)++vs++cur.toList.drop (o+i+vs.length)).toArray)
 | [],i,cur,w,hg,_,_,_=>by
  simp only [storeCells,List.append_nil,List.length_nil,Nat.add_zero,List.take_append_drop,Array.toArray_toList]
  have:w.setRow g cur=w:=by
   have hlt:g < w.heap.size:=(Array.getElem?_eq_some_iff.1 hg).1
   have hv:w.heap[g]=.cells cur t fz:=(Array.getElem?_eq_some_iff.1 hg).2
   unfold World.setRow
   cases w with
   | mk heap tape drawn os output =>
    congr 1
    apply Array.ext
    ·simp
    ·intro k h1 h2
     simp only [Array.getElem_modify]
     split
     ·rename_i hk;subst hk;simp at hv;simp [hv]
     ·rfl
  rw [this]
  rfl
 | v::rest,i,cur,w,hg,ht,hl,h1=>by
  have hi:o+i < cur.size:=by simp at hl;omega
  have hcell:w.cell? ⟨g,o+i,none⟩=some cur[o+i]:=by simp [World.cell?,hg,hi]
  have hfro:w.frozen? ⟨g,o+i,none⟩=false:=by
   have:=ht (o+i) hi
   obtain ⟨lo,hi'⟩:=fz
   simpa [World.frozen?,hg] using this
  have hset:w.setCell ⟨g,o+i,none⟩ v=w.setRow g (cur.setIfInBounds (o+i) v):=by
   have hlt:g < w.heap.size:=(Array.getElem?_eq_some_iff.1 hg).1
   have hv:w.heap[g]=.cells cur t fz:=(Array.getElem?_eq_some_iff.1 hg).2
   unfold World.setCell World.setRow
   congr 1
   apply Array.ext
   ·simp
   ·intro k h1 h2
    simp only [Array.getElem_modify]
    split
    ·rename_i hk;subst hk;simp [hv]
    ·rfl
  have hst:(store ((⟨g,o,none⟩:Addr).add i) v).run P w=.ok () (w.setRow g (cur.setIfInBounds (o+i) v)):=by
   rw [addr_add,run_store P w _ v _ (h1 v (by simp)),hcell]
   simp [hfro,hset]
  have ih:=run_storeCells_thaw (P:=P) g o t fz rest (i+1) (cur.setIfInBounds (o+i) v) (w.setRow g (cur.setIfInBounds (o+i) v)) (setRow_heap w g cur _ t _ hg)
   (by rw [Array.size_setIfInBounds];exact ht) (by simp at hl ⊢;omega) (fun x hx=>h1 x (by simp [hx]))
  have hrr:∀ (cs1 cs2:Array Value),(w.setRow g cs1).setRow g cs2=w.setRow g cs2:=by
   intro cs1 cs2
   unfold World.setRow
   congr 1
   apply Array.ext
   ·simp
   ·intro k h1 h2
    simp only [Array.getElem_modify]
    split
    ·rename_i hk;subst hk;cases w.heap[g]'(by simpa using h1)<;>rfl
    ·rfl
  simp only [storeCells,Sem.run_bind,hst,Result.andThen_ok,ih,hrr]
  congr 3
  apply List.ext_getElem?
  intro n
  simp only [Array.toList_setIfInBounds,List.length_cons,List.append_assoc,List.getElem?_append,List.length_take,List.length_set,Array.length_toList,List.getElem?_take,List.getElem?_set,
   List.getElem?_drop,List.getElem?_cons,List.cons_append]
  simp only [List.length_cons] at hl
  have h1':min (o+(i+1)) cur.size=o+i+1:=by omega
  have h2':min (o+i) cur.size=o+i:=by omega
  rw [h1',h2']
  by_cases c1:n < o+i
  ·simp only [show n < o+i+1 by omega,show n < o+(i+1) by omega,c1,if_true,if_false,show ¬ o+i=n by omega]
  ·by_cases c2:n=o+i
   ·subst c2
    simp only [show o+i < o+i+1 by omega,show o+i < o+(i+1) by omega,if_true,if_false,Nat.lt_irrefl,Nat.sub_self]
    simp [show o+i < cur.size by omega]
   ·simp only [show ¬ n < o+i+1 by omega,c1,if_false,show ¬ n-(o+i)=0 by omega]
    rw [show n-(o+i)-1=n-(o+i+1) by omega]
    split
    ·rfl
    ·rw [if_neg (by omega)]
     congr 1
     omega
end
end Go.Kx
end
section
namespace Go.Kx
variable [LxP]
def WPr (X:Ctx) (ops:Array Oper) (idx:List Nat) (todo:Act→World→Prop) (s:St):Prop :=
 ∀ E F w a,Sat X s E F w a→wpOps X.P ops (fun e a' w'=>e=.normal∧todo a' w') idx a w
abbrev rk (X:Ctx) (k:List Item):Act→World→Prop:=fun a w=>Runs X.P X.f X.post a k w
section
variable {X:Ctx} {s s':St} {ops:Array Oper} {todo:Act→World→Prop} {k':List Item} {tt:List (Nat × TD)}
theorem WPr.nil (h:WP X k' s):WPr X ops [] (rk X k') s:=fun E F w a hs=>⟨rfl,h E F w a hs⟩
theorem runs_of_wp {c:Code} {a:Act} {w:World} (h:c.wp X.P (fun e a' w'=>e=.normal∧Runs X.P X.f X.post a' k' w') a w) :
  Runs X.P X.f X.post a (.code c::k') w:=fun b cs hb hk=>by
 obtain ⟨e,a',w',⟨he,hr⟩,harr⟩:=h b k' cs
 subst he
 obtain ⟨v,w2,fr,hR,hs,hf,hl⟩:=hr b cs hb hk
 exact ⟨v,w2,fr,hR,harr.trans hs,hf,hl⟩
theorem WP.region {id:Nat} (h:WPr X ops (List.range ops.size) (rk X k') s):WP X (.code (.region id ops false)::k') s :=
 fun E F w a hs=>runs_of_wp (wp_region (h E F w a hs))
def guardV (ops:Array Oper) (L:List (Nat × SV)) (o:Oper):Option Bool :=
 match o.guard with
 | none=>some true
 | some (j,want)=>match ops[j]? with
  | some oj=>match oj.dst with
   | some d=>match look L d with
    | some (.c (.b t))=>match t with
     | true=>some want
     | false=>some (!want)
    | some .u=>some false
    | _=>none
   | none=>none
  | none=>none
theorem guardV_ok {E F w a} (hs:Sat X s E F w a) {o:Oper} {t:Bool} (h:guardV ops s.L o=some t):Region.wanted o (yielded ops a.tmps)=t:=by
 unfold guardV at h
 unfold Region.wanted
 split at h
 ·rename_i hg;rw [hg];cases h;rfl
 ·rename_i j want hg
  rw [hg]
  simp only []
  split at h
  ·rename_i oj hj
   split at h
   ·rename_i d hd
    split at h
    ·rename_i t' hl
     have hv:=hs.hL d _ hl
     have:yielded ops a.tmps j=some t':=by
      unfold yielded;simp [hj,hd,hv,denV,den]
     rw [this]
     cases t'<;>simp only [Option.some.injEq] at h<;>subst h<;>cases want<;>rfl
    ·rename_i hl
     have hv:=hs.hL d _ hl
     have:yielded ops a.tmps j=none:=by
      unfold yielded;simp [hj,hd,hv,denV,undef]
     rw [this]
     cases h;cases want<;>rfl
    ·cases h
   ·cases h
  ·cases h
theorem WPr.op {i:Nat} {rest:List Nat} {o:Oper} (ho:ops[i]? = some o) (hg:guardV ops s.L o=some true)
  (h:∀ E F w a,Sat X s E F w a→o.wp X.P a w (fun a' w'=>∃ E' F',Sat X s' E' F' w' a') (fun _ _ _=>False)) (k:WPr X ops rest todo s'):WPr X ops (i::rest) todo s:=by
 intro E F w a hs
 simp only [wpOps,ho,guardV_ok hs hg,if_true]
 exact .inl (Oper.wp_imp (fun a' w' ⟨E',F',hs'⟩=>k E' F' w' a' hs') (h E F w a hs))
theorem WPr.skip {i:Nat} {rest:List Nat} {o:Oper} {d:Nat} (ho:ops[i]? = some o) (hg:guardV ops s.L o=some false) (hd:o.dst=some d) (hn:d < X.fn.ntmps)
  (k:WPr X ops rest todo ⟨(d,.u)::s.L,s.M,s.V,s.nx⟩):WPr X ops (i::rest) todo s:=by
 intro E F w a hs
 simp only [wpOps,ho,guardV_ok hs hg,Bool.false_eq_true,if_false,hd]
 exact k E F w _ (hs.setL (v:=.u) trivial hn)
theorem wp_value {P:Program} {o:Oper} {a:Act} {w w':World} {v:Value} {K:Act→World→Prop} {Q:Exit→Act→World→Prop}
  (h:(execOp a.eval o).run P w=.ok (.value v) w') (k:K (a.put o.dst v) w'):o.wp P a w K Q:=by
 unfold Oper.wp;rw [h];exact k
theorem wp_skip' {P:Program} {o:Oper} {a:Act} {w w':World} {K:Act→World→Prop} {Q:Exit→Act→World→Prop}
  (h:(execOp a.eval o).run P w=.ok .skip w') (k:K (a.put o.dst undef) w'):o.wp P a w K Q:=by
 unfold Oper.wp;rw [h];exact k
theorem Sat.allocBox {E F w a} (hs:Sat X s E F w a) {cs:List SC} {t:TypeId} (hk:∀ x∈cs,SC.kb s.nx x) :
  ∃ E',E'.β s.nx=w.heap.size∧Sat X ⟨s.L,(s.nx,.box cs t)::s.M,s.V,s.nx+1⟩ E' F (w.alloc (.cells (cs.map (den E)).toArray t)) a:=by
 have hsz:w.heap.size≤(w.alloc (.cells (cs.map (den E)).toArray t)).heap.size:=by simp
 have h1:=hs.world (w':=w.alloc (.cells (cs.map (den E)).toArray t)) rfl rfl .m hsz (fun b hb=>heap_alloc_old w _ b hb)
 have hE:E.Eqb s.nx (E.setβ s.nx w.heap.size):=E.eqb_setβ _ _ _ (Nat.le_refl _)
 have h2:=h1.env hE (by intro k;exact hs.one k)
 refine ⟨_,by simp [Env.setβ],h2.addM ?_ (fun x hx=>(hk x hx).mono (Nat.le_succ _)) ?_⟩
 ·show (w.alloc _).heap[(E.setβ s.nx w.heap.size).β s.nx]? = _
  have:(E.setβ s.nx w.heap.size).β s.nx=w.heap.size:=by simp [Env.setβ]
  rw [this,den_map_eqb hE hk]
  exact heap_alloc_new w _
 ·intro b hb
  have e:b=w.heap.size:=by
   have:b=(E.setβ s.nx w.heap.size).β s.nx:=hb
   simpa [Env.setβ] using this
  subst e
  refine ⟨fun hF=>absurd (hs.hF _ hF) (Nat.lt_irrefl _),hs.ext.size,by simp,fun k m' hm hf=>?_⟩
  have:=(h1.mF k m' hm w.heap.size ((MO.fp_eqb hE (hs.wf.hM k m' hm).1).1 hf))
  have h4:=(hs.mF k m' hm w.heap.size ((MO.fp_eqb hE (hs.wf.hM k m' hm).1).1 hf)).2.2
  exact absurd h4 (Nat.lt_irrefl _)
theorem Sat.storeBox {E F w a} (hs:Sat X s E F w a) {k:Nat} {cs ps:List SC} {t:TypeId} (hm:look s.M k=some (.box cs t)) {off:Nat} (hle:off+ps.length≤cs.length)
  (hk:∀ x∈ps,SC.kb s.nx x):∃ w',(storeCells ⟨E.β k,off,none⟩ (ps.map (den E))).run X.P w=.ok () w' ∧
   Sat X ⟨s.L,(k,.box (cs.take off++ps++cs.drop (off+ps.length)) t)::s.M,s.V,s.nx⟩ E F w' a:=by
 have hb:w.heap[E.β k]? = some (.cells (cs.map (den E)).toArray t (0,0)):=hs.hM k _ hm
 have hr:=run_storeCells_thaw (P:=X.P) (E.β k) off t (0,0) (ps.map (den E)) 0 _ w hb (by intro j _;simp) (by simp;omega)
  (by intro v hv;obtain ⟨x,hx,rfl⟩:=List.mem_map.1 hv;exact den_one hs.one (hk x hx))
 refine ⟨_,hr,hs.setM hm rfl rfl .m (by simp) (fun b _ hne=>setRow_other w _ b _ (fun e=>hne e)) (fun _ h=>h) ?_ ?_ (fun h=>by cases h)⟩
 ·have:=setRow_heap w (E.β k) _ ((List.take (off+0) (List.map (den E) cs).toArray.toList++List.map (den E) ps++List.drop (off+0+(List.map (den E) ps).length) (List.map (den E) cs).toArray.toList).toArray) t (0,0) hb
  show (w.setRow _ _).heap[E.β k]? = _
  rw [this]
  congr 3
  simp [List.map_take,List.map_drop]
 ·intro x hx
  simp only [List.mem_append] at hx
  rcases hx with (hx | hx) | hx
  ·exact (hs.wf.hM k _ hm).2 x (List.mem_of_mem_take hx)
  ·exact hk x hx
  ·exact (hs.wf.hM k _ hm).2 x (List.mem_of_mem_drop hx)
def sil1 (tt:List (Nat × TD)) (n:Nat) (o:Oper):St→Option St
 | ⟨L,M,V,nx⟩=>match o.op with
  | .alloc t=>match look tt t with
   | some d=>match o.dst with
    | some x=>bif Nat.blt x n then some ⟨(x,.c (.bp nx 0))::L,(nx,.box d.z t)::M,V,nx+1⟩ else none
    | none=>none
   | none=>none
  | .box t v=>match evalO L v with
   | some sv=>match svCells sv with
    | some cs=>match o.dst with
     | some x=>bif Nat.blt x n then some ⟨(x,.c (.bp nx 0))::L,(nx,.box cs t)::M,V,nx+1⟩ else none
     | none=>none
    | none=>none
   | none=>none
  | .store t ad v=>match look tt t with
   | some d=>match evalO L ad with
    | some (.c (.bp k off))=>match evalO L v with
     | some sv=>match svCells sv with
      | some ps=>match look M k with
       | some (.box cs t')=>bif (Nat.beq ps.length d.sz && Nat.ble (off+ps.length) cs.length) then (match o.dst with
        | none=>some ⟨L,(k,.box (cs.take off++ps++cs.drop (off+ps.length)) t')::M,V,nx⟩
        | some _=>none) else none
       | _=>none
      | none=>none
     | none=>none
    | _=>none
   | none=>none
  | op=>match sval tt ⟨L,M,V,nx⟩ op with
   | some v=>match o.dst with
    | some x=>bif Nat.blt x n then some ⟨(x,v)::L,M,V,nx⟩ else none
    | none=>none
   | none=>none
theorem blt_lt {a b:Nat} (h:Nat.blt a b=true):a < b:=by
 unfold Nat.blt at h;exact Nat.le_of_ble_eq_true h
theorem sil1_ok (htt:TTOk X.P tt) {o:Oper} (h:sil1 tt X.fn.ntmps o s=some s'):∀ E F w a,Sat X s E F w a→o.wp X.P a w (fun a' w'=>∃ E' F',Sat X s' E' F' w' a') (fun _ _ _=>False):=by
 intro E F w a hs
 obtain ⟨L,M,V,nx⟩:=s
 unfold sil1 at h
 simp only [] at h
 split at h
 ·rename_i t ho
  cases hd:look tt t with
  | none=>rw [hd] at h;cases h
  | some d =>
   rw [hd] at h
   simp only [] at h
   split at h
   ·rename_i x hx
    cases hb:Nat.blt x X.fn.ntmps with
    | false=>rw [hb] at h;cases h
    | true =>
     rw [hb] at h
     cases h
     obtain ⟨z,hz,hzc⟩:=run_zeroValue' w (htt.get hd)
     have hal:=hs.allocBox (cs:=d.z) (t:=t) (kb_zero (htt.get hd))
     obtain ⟨E',hE',hs'⟩:=hal
     refine wp_value (w':=w.alloc (.cells (d.z.map (den E)).toArray t)) (v:=.pointer (some ⟨w.heap.size,0,none⟩)) ?_ ⟨E',F,?_⟩
     ·simp only [execOp,ho]
      refine exec_v ?_
      simp only [Instr.alloc,Sem.run_bind,hz,Result.andThen_ok,newVar,newRow,run_newObj,Sem.run_pure,hzc E]
      rfl
     ·have:=hs'.setL (d:=x) (v:=.c (.bp nx 0)) (Nat.lt_succ_self nx) (blt_lt hb)
      simp only [denV,den] at this
      rw [hx]
      rw [show E'.β nx=w.heap.size from hE'] at this
      exact this
   ·cases h
 ·rename_i t v ho
  cases hv:evalO L v with
  | none=>rw [hv] at h;cases h
  | some sv =>
   rw [hv] at h
   simp only [] at h
   cases hc:svCells sv with
   | none=>rw [hc] at h;cases h
   | some cs =>
    rw [hc] at h
    simp only [] at h
    split at h
    ·rename_i x hx
     cases hb:Nat.blt x X.fn.ntmps with
     | false=>rw [hb] at h;cases h
     | true =>
      rw [hb] at h
      cases h
      obtain ⟨ev,ek⟩:=hs.eval hv
      obtain ⟨ec,ekk⟩:=svCells_ok (s:=⟨L,M,V,nx⟩) hs.one hc ek
      obtain ⟨E',hE',hs'⟩:=hs.allocBox (cs:=cs) (t:=t) ekk
      refine wp_value (w':=w.alloc (.cells (cs.map (den E)).toArray t)) (v:=.pointer (some ⟨w.heap.size,0,none⟩)) ?_ ⟨E',F,?_⟩
      ·simp only [execOp,ho]
       refine exec_v ?_
       simp only [Instr.box,newVar,newRow,Sem.run_bind,run_newObj,Result.andThen_ok,Sem.run_pure,ev,ec]
       rfl
      ·have:=hs'.setL (d:=x) (v:=.c (.bp nx 0)) (Nat.lt_succ_self nx) (blt_lt hb)
       simp only [denV,den] at this
       rw [hx]
       rw [show E'.β nx=w.heap.size from hE'] at this
       exact this
    ·cases h
 ·rename_i t ad v ho
  cases hd:look tt t with
  | none=>rw [hd] at h;cases h
  | some d =>
   rw [hd] at h
   simp only [] at h
   split at h
   ·rename_i k off had
    cases hv:evalO L v with
    | none=>rw [hv] at h;cases h
    | some sv =>
     rw [hv] at h
     simp only [] at h
     cases hc:svCells sv with
     | none=>rw [hc] at h;cases h
     | some ps =>
      rw [hc] at h
      simp only [] at h
      split at h
      ·rename_i cs t' hm
       cases hb:(Nat.beq ps.length d.sz && Nat.ble (off+ps.length) cs.length) with
       | false=>rw [hb] at h;cases h
       | true =>
        rw [hb] at h
        simp only [cond_true] at h
        split at h
        ·rename_i hx
         cases h
         simp only [Bool.and_eq_true] at hb
         have e1:=Nat.eq_of_beq_eq_true hb.1
         have e2:=Nat.le_of_ble_eq_true hb.2
         obtain ⟨ev,ek⟩:=hs.eval hv
         obtain ⟨ea,_⟩:=hs.eval had
         obtain ⟨ec,ekk⟩:=svCells_ok (s:=⟨L,M,V,nx⟩) hs.one hc ek
         obtain ⟨w',hr,hs'⟩:=hs.storeBox hm e2 ekk
         refine wp_skip' (w':=w') ?_ ⟨E,F,by rw [hx];exact hs'⟩
         have hsv:(Instr.storeAt t (denV E (.c (.bp k off))) (denV E sv)).run X.P w=.ok () w':=by
          have:(denV E sv).cells.size=d.sz:=by rw [ec];simp [e1]
          show (Instr.storeAt t (.pointer (some ⟨E.β k,off,none⟩)) (denV E sv)).run X.P w=.ok () w'
          simp only [Instr.storeAt,Instr.sureAddr,Sem.run_bind,Sem.run_pure,Result.andThen_ok,storeVar,run_sizeOf' w (htt.get hd),this,ne_eq,not_true_eq_false,if_false]
          rw [ec]
          exact hr
         simp only [execOp,ho,ev,ea,Sem.run_bind,hsv,Result.andThen_ok,Sem.run_pure]
        ·cases h
      ·cases h
   ·cases h
 ·split at h
  ·rename_i v hv
   split at h
   ·rename_i x hx
    cases hb:Nat.blt x X.fn.ntmps with
    | false=>rw [hb] at h;cases h
    | true =>
     rw [hb] at h
     cases h
     obtain ⟨h1,h2⟩:=sval_ok htt hs hv
     refine wp_value h1 ⟨E,F,?_⟩
     rw [hx]
     exact hs.setL h2 (blt_lt hb)
   ·cases h
  ·cases h
end
end Go.Kx
end
section
namespace Go.Kx
variable [LxP]
structure Ren where
 l:List (Nat × SC)
 a:Nat:=0
 b:Nat:=0
def Ren.sh (κ:Ren) (k:Nat):Nat:=bif Nat.ble κ.a k then κ.b+(k-κ.a) else k
def Ren.sl (κ:Ren) (k:Nat):SC:=match look κ.l k with
 | some c=>c
 | none=>.sl (κ.sh k)
def Ren.bk (κ:Ren) (k:Nat):Nat:=match look κ.l k with
 | some (.bp k' 0)=>k'
 | some _=>0
 | none=>κ.sh k
def Ren.okB (κ:Ren) (k:Nat):Bool:=match look κ.l k with
 | some (.bp _ 0)=>true
 | some _=>false
 | none=>true
def renC (κ:Ren):SC→SC
 | .cl f fs ks=>bif fs.all κ.okB && ks.all κ.okB then .cl f (fs.map κ.bk) (ks.map κ.bk) else .nil
 | .sl k=>κ.sl k
 | .px k off=>match κ.sl k with
  | .sl k'=>.px k' off
  | _=>.nil
 | .bp k off=>match look κ.l k with
  | some (.bp k' 0)=>.bp k' off
  | some _=>.nil
  | none=>.bp (κ.sh k) off
 | .sp _ _ _ _=>.nil
 | c=>c
def renS (κ:Ren):SC ⊕ List SC→SC ⊕ List SC
 | .inl c=>.inl (renC κ c)
 | .inr cs=>.inr (cs.map (renC κ))
def renV (κ:Ren):SV→SV
 | .c x=>.c (renC κ x)
 | .a cs=>.a (cs.map (renC κ))
 | .t vs=>.t (vs.map (renS κ))
 | .u=>.u
def Ren.env (κ:Ren) (E:Env):Env where
 ρ k:=den E (κ.sl k)
 β k:=match look κ.l k with
  | some (.bp k' _)=>E.β k'
  | some _=>0
  | none=>E.β (κ.sh k)
def okC (κ:Ren):SC→Bool
 | .cl _ fs ks=>fs.all κ.okB && ks.all κ.okB
 | .px k _=>match κ.sl k with
  | .sl _=>true
  | _=>false
 | .bp k _=>match look κ.l k with
  | some (.bp _ 0)=>true
  | some _=>false
  | none=>true
 | .sp _ _ _ _=>false
 | _=>true
def okS (κ:Ren):SC ⊕ List SC→Bool
 | .inl c=>okC κ c
 | .inr cs=>cs.all (okC κ)
def okV (κ:Ren):SV→Bool
 | .c x=>okC κ x
 | .a cs=>cs.all (okC κ)
 | .t vs=>vs.all (okS κ)
 | .u=>true
theorem denB_ren (κ:Ren) (E:Env) {ks:List Nat} (h:ks.all κ.okB=true):denB (κ.env E) ks=denB E (ks.map κ.bk):=by
 unfold denB
 rw [List.map_map]
 congr 1
 refine List.map_congr_left fun k hk=>?_
 have hk:=List.all_eq_true.1 h k hk
 unfold Ren.okB at hk
 simp only [Function.comp,Ren.bk,Ren.env]
 split at hk
 ·rename_i k' hl;rw [hl]
 ·cases hk
 ·rename_i hl;rw [hl]
theorem den_ren (κ:Ren) (E:Env):∀ {c:SC},okC κ c=true→den (κ.env E) c=den E (renC κ c)
 | .sl k,_=>rfl
 | .px k off,h=>by
  simp only [okC] at h
  split at h
  ·rename_i k' hk
   simp only [renC,den,Ren.env,hk]
  ·cases h
 | .bp k off,h=>by
  simp only [okC] at h
  split at h
  ·rename_i k' hk
   simp only [renC,den,Ren.env,hk]
  ·cases h
  ·rename_i hk
   simp only [renC,den,Ren.env,hk]
 | .cl f fs ks,h=>by
  simp only [okC] at h
  simp only [renC,h,cond_true]
  simp only [Bool.and_eq_true] at h
  simp only [den,denB_ren κ E h.1,denB_ren κ E h.2]
 | .sp _ _ _ _,h=>by cases h
 | .i _ _,_ | .b _,_ | .s _,_ | .v _,_ | .nil,_=>rfl
theorem den_ren_map (κ:Ren) (E:Env) {cs:List SC} (h:cs.all (okC κ)=true):cs.map (den (κ.env E))=(cs.map (renC κ)).map (den E):=by
 rw [List.map_map]
 exact List.map_congr_left fun x hx=>den_ren κ E (List.all_eq_true.1 h x hx)
theorem denV_ren (κ:Ren) (E:Env):∀ {v:SV},okV κ v=true→denV (κ.env E) v=denV E (renV κ v)
 | .c x,h=>den_ren κ E h
 | .a cs,h=>by simp only [denV,renV,den_ren_map κ E h]
 | .t vs,h=>by
  simp only [denV,renV,List.map_map]
  congr 2
  refine List.map_congr_left fun v hv=>?_
  have:=List.all_eq_true.1 h v hv
  cases v with
  | inl c=>exact den_ren κ E this
  | inr cs=>simp only [denS,Function.comp,renS,den_ren_map κ E this]
 | .u,_=>rfl
def SC.kbb (n:Nat):SC→Bool
  | .sl k | .bp k _ | .px k _ | .sp k _ _ _=>Nat.blt k n
  | .cl _ fs ks=>fs.all (Nat.blt · n) && ks.all (Nat.blt · n)
  | .v x=>x.oneCell'
  | _=>true
theorem SC.kbb_ok {n:Nat}:∀ {x:SC},x.kbb n=true→x.kb n
 | .sl _,h | .bp _ _,h | .px _ _,h | .sp _ _ _ _,h=>blt_lt h
 | .cl _ fs ks,h=>by
  simp only [SC.kbb,Bool.and_eq_true] at h
  exact ⟨fun k hk=>blt_lt (List.all_eq_true.1 h.1 k hk),fun k hk=>blt_lt (List.all_eq_true.1 h.2 k hk)⟩
 | .v _,h=>h
 | .i _ _,_ | .b _,_ | .s _,_ | .nil,_=>trivial
def SV.kbb (n:Nat):SV→Bool
 | .c x=>x.kbb n
 | .a cs=>cs.all (SC.kbb n)
 | .t vs=>vs.all fun | .inl x=>x.kbb n | .inr cs=>cs.all (SC.kbb n)
 | .u=>true
theorem SV.kbb_ok {n:Nat}:∀ {x:SV},x.kbb n=true→x.kb n
 | .c _,h=>SC.kbb_ok h
 | .a _,h=>fun y hy=>SC.kbb_ok (List.all_eq_true.1 h y hy)
 | .t _,h=>fun v hv=>by
  have:=List.all_eq_true.1 h v hv
  cases v with
  | inl x=>exact SC.kbb_ok this
  | inr cs=>exact fun y hy=>SC.kbb_ok (List.all_eq_true.1 this y hy)
 | .u,_=>trivial
def VF.kbb (n:Nat):VF→Bool
 | .pl cs=>cs.all (SC.kbb n)
 | .el k _ | .vw k _ _ _=>Nat.blt k n
 | _=>true
theorem VF.kbb_ok {n:Nat}:∀ {x:VF},x.kbb n=true→x.kb n
 | .pl _,h=>fun y hy=>SC.kbb_ok (List.all_eq_true.1 h y hy)
 | .el _ _,h | .vw _ _ _ _,h=>blt_lt h
 | .sl _ _,_ | .fn _,_=>trivial
def MO.kbb (n:Nat):MO→Bool
 | .box cs _=>cs.all (SC.kbb n)
 | _=>true
theorem MO.kbb_ok {n:Nat}:∀ {x:MO},x.kbb n=true→x.kb n
 | .box _ _,h=>fun y hy=>SC.kbb_ok (List.all_eq_true.1 h y hy)
 | .own _ _ _,_ | .abs _,_ | .buf _ _,_ | .av _,_ | .gone,_=>trivial
theorem look_mem {α:Type _}:∀ {l:List (Nat × α)} {k:Nat} {v:α},look l k=some v→(k,v)∈l
 | [],_,_,h=>by cases h
 | (k',v')::t,k,v,h=>by
  rw [look_cons] at h
  split at h
  ·rename_i e;cases h;subst e;exact List.mem_cons_self
  ·exact List.mem_cons_of_mem _ (look_mem h)
def wfb (L:List (Nat × SV)) (M:List (Nat × MO)) (V:List (Nat × VF)) (nx:Nat):Bool :=
 L.all (fun p=>p.2.kbb nx) && M.all (fun p=>Nat.blt p.1 nx && p.2.kbb nx) && V.all (fun p=>Nat.blt p.1 nx && p.2.kbb nx)
theorem wfb_ok {L M V nx} (h:wfb L M V nx=true):St.Wf ⟨L,M,V,nx⟩:=by
 simp only [wfb,Bool.and_eq_true,List.all_eq_true] at h
 obtain ⟨⟨h1,h2⟩,h3⟩:=h
 exact ⟨fun d v hl=>SV.kbb_ok (h1 _ (look_mem hl)),fun k m hl=>⟨blt_lt (h2 _ (look_mem hl)).1,MO.kbb_ok (h2 _ (look_mem hl)).2⟩,
  fun k f hl=>⟨blt_lt (h3 _ (look_mem hl)).1,VF.kbb_ok (h3 _ (look_mem hl)).2⟩⟩
def findV (s:St) (κ:Ren) (k:Nat):VF→Option VF
 | .sl R xs=>match κ.sl k with
  | .nil=>some (.sl R [])
  | .sl k'=>match look s.V k' with
   | some (.sl R' xs')=>some (.sl R' xs')
   | _=>none
  | _=>let _:=xs;none
 | .fn _=>match κ.sl k with
  | .sl k'=>look s.V k'
  | _=>none
 | _=>none
def renM (κ:Ren):MO→MO
 | .box cs t=>.box (cs.map (renC κ)) t
 | m=>m
def findM (s:St) (κ:Ren) (k:Nat):MO→Option MO
 | .box cs _=>match cs.all (okC κ) with
  | true=>match renC κ (.bp k 0) with
   | .bp k' 0=>look s.M k'
   | _=>none
  | false=>none
 | .own R _ fr=>match κ.sl k with
  | .nil=>some (.own R [] fr)
  | .sl k'=>match look s.M k' with
   | some (.own R' xs' fr')=>match fr with
    | false=>some (.own R' xs' false)
    | true=>some (.own R' xs' fr')
   | _=>none
  | _=>none
 | .abs _=>match κ.sl k with
  | .sl k'=>look s.M k'
  | _=>none
 | .buf _ ty=>match κ.sl k with
  | .nil=>some (.buf .empty ty)
  | .sl k'=>look s.M k'
  | _=>none
 | .av _=>match κ.sl k with
  | .sl k'=>look s.M k'
  | _=>none
 | .gone=>some .gone
def keyM (κ:Ren) (k:Nat):MO→Option Nat
 | .box _ _=>match renC κ (.bp k 0) with
  | .bp k' _=>some k'
  | _=>none
 | .own _ _ _ | .abs _ | .buf _ _ | .av _=>match κ.sl k with
  | .sl k'=>some k'
  | _=>none
 | .gone=>none
def notIn (x:Nat):List Nat→Bool
 | []=>true
 | y::r => !(Nat.beq x y) && notIn x r
def nodupB:List Nat→Bool
 | []=>true
 | x::r=>notIn x r && nodupB r
theorem notIn_ok {x:Nat}:∀ {l:List Nat},notIn x l=true→x ∉ l
 | [],_=>by simp
 | y::r,h=>by
  simp only [notIn,Bool.and_eq_true,Bool.not_eq_true'] at h
  have hne:x≠y:=fun e=>by subst e;simp at h
  simp only [List.mem_cons,not_or]
  exact ⟨hne,notIn_ok h.2⟩
theorem nodupB_ok:∀ {l:List Nat},nodupB l=true→l.Nodup
 | [],_=>.nil
 | x::r,h=>by
  simp only [nodupB,Bool.and_eq_true] at h
  exact List.nodup_cons.2 ⟨notIn_ok h.1,nodupB_ok h.2⟩
structure Emb (s:St) (κ:Ren) (V:List (Nat × VF)) (M:List (Nat × MO)):Prop where
  hV:V.map (fun p=>findV s κ p.1 p.2)=V.map (fun p=>some p.2)
  hM:M.map (fun p=>findM s κ p.1 p.2)=M.map (fun p=>some (renM κ p.2))
  hd:nodupB (M.filterMap fun p=>keyM κ p.1 p.2)=true
  hk:nodupB (M.map (·.1))=true
theorem map_eq_mem {α β:Type _} {f g:α→β}:∀ {l:List α},l.map f=l.map g→∀ x∈l,f x=g x
 | [],_,x,hx=>by cases hx
 | y::r,h,x,hx=>by
  simp only [List.map_cons,List.cons.injEq] at h
  rcases List.mem_cons.1 hx with rfl | hx
  ·exact h.1
  ·exact map_eq_mem h.2 x hx
section
variable {X:Ctx} {s:St} {E:Env} {F:FSet} {w:World} {a:Act} {κ:Ren} {V:List (Nat × VF)} {M:List (Nat × MO)}
theorem Emb.factV (he:Emb s κ V M) (hs:Sat X s E F w a) {k:Nat} {f:VF} (hf:(k,f)∈V):f.ok (κ.env E) F w ((κ.env E).ρ k):=by
 have h:=map_eq_mem he.hV _ hf
 simp only [] at h
 show f.ok _ F w (den E (κ.sl k))
 cases f with
 | sl R xs =>
  simp only [findV] at h
  split at h
  ·rename_i hk
   simp only [Option.some.injEq,VF.sl.injEq] at h
   obtain ⟨_,_,h2⟩:=h
   cases h2
   rw [hk]
   exact .inl ⟨rfl,_,_,rfl⟩
  ·rename_i k' hk
   split at h
   ·rename_i hl
    rw [h] at hl
    rw [hk]
    exact hs.hV k' _ hl
   ·cases h
  ·cases h
 | fn Φ =>
  simp only [findV] at h
  split at h
  ·rename_i k' hk
   rw [hk]
   exact hs.hV k' _ h
  ·cases h
 | pl _=>cases h
 | el _ _=>cases h
 | vw _ _ _ _=>cases h
theorem box_key {k:Nat} {c:SC} (h:renC κ (.bp k 0)=c):(∃ k',c=.bp k' 0∧(κ.env E).β k=E.β k')∨c=.nil:=by
 subst h
 simp only [renC]
 split
 ·rename_i k' hk;exact .inl ⟨k',rfl,by simp only [Ren.env,hk]⟩
 ·exact .inr rfl
 ·rename_i hk;exact .inl ⟨κ.sh k,rfl,by simp only [Ren.env,hk]⟩
theorem Emb.memM (he:Emb s κ V M) (hs:Sat X s E F w a) {k:Nat} {m:MO} (hm:(k,m)∈M) :
  m.ok (κ.env E) F w k∧((∀ b,¬ m.fp (κ.env E) k b)∨∃ k' m',keyM κ k m=some k'∧look s.M k'=some m'∧(∀ b,m.fp (κ.env E) k b→m'.fp E k' b)∧(m.isFresh=true→m'.isFresh=true)):=by
 have h:=map_eq_mem he.hM _ hm
 simp only [] at h
 cases m with
 | box cs t =>
  simp only [findM] at h
  cases hok:cs.all (okC κ) with
  | false=>rw [hok] at h;cases h
  | true =>
   rw [hok] at h
   simp only [] at h
   split at h
   ·rename_i k' hk
    rcases box_key (E:=E) hk with ⟨k2,e,hβ⟩ | e
    ·cases e
     have hb:w.heap[E.β k']? = some (.cells ((cs.map (renC κ)).map (den E)).toArray t (0,0)):=hs.hM k' _ h
     refine ⟨?_,.inr ⟨k',_,by simp [keyM,hk],h,?_,fun hf=>by cases hf⟩⟩
     ·show w.heap[(κ.env E).β k]? = _
      rw [hβ,den_ren_map κ E hok];exact hb
     ·intro b hb'
      show b=E.β k'
      rw [← hβ];exact hb'
    ·cases e
   ·cases h
 | own R xs fr =>
  simp only [findM] at h
  split at h
  ·rename_i hk
   simp only [renM,Option.some.injEq,MO.own.injEq] at h
   obtain ⟨_,_,h2,_⟩:=h
   cases h2
   refine ⟨?_,.inl ?_⟩
   ·show OwnR _ _ _ _ (den E (κ.sl k));rw [hk];exact .inl ⟨rfl,rfl⟩
   ·intro b hb
    have:blockOf (den E (κ.sl k))=some b:=hb
    rw [hk] at this;cases this
  ·rename_i k' hk
   split at h
   ·rename_i R' xs' fr' hl
    have h':MO.own R' xs' (match fr with | false=>false | true=>fr')=MO.own R xs fr:=by
     cases fr<;>simpa [renM] using h
    simp only [MO.own.injEq] at h'
    obtain ⟨rfl,h1,h2,h3⟩:=h'
    cases h1
    cases h2
    refine ⟨?_,.inr ⟨k',_,by simp [keyM,hk],hl,?_,?_⟩⟩
    ·show OwnR _ _ _ _ (den E (κ.sl k));rw [hk];exact hs.hM k' _ hl
    ·intro b hb
     have:blockOf (den E (κ.sl k))=some b:=hb
     rw [hk] at this;exact this
    ·intro hf
     have hf:fr=true:=hf
     subst hf
     exact h3
   ·cases h
  ·cases h
 | abs A =>
  simp only [findM] at h
  split at h
  ·rename_i k' hk
   exact ⟨hs.hM k' _ h,.inr ⟨k',_,by simp [keyM,hk],h,fun b hb=>hb,fun hf=>by cases hf⟩⟩
  ·cases h
 | av A =>
  simp only [findM] at h
  split at h
  ·rename_i k' hk
   refine ⟨?_,.inr ⟨k',_,by simp [keyM,hk],h,?_,fun hf=>by cases hf⟩⟩
   ·show A.ok _ _ (den E (κ.sl k));rw [hk];exact hs.hM k' _ h
   ·intro b hb
    have:blockOf (den E (κ.sl k))=some b:=hb
    rw [hk] at this
    exact this
  ·cases h
 | buf sb ty =>
  simp only [findM] at h
  split at h
  ·rename_i hk
   simp only [renM,Option.some.injEq,MO.buf.injEq] at h
   obtain ⟨h1,_⟩:=h
   subst h1
   refine ⟨?_,.inl ?_⟩
   ·show BufR _ _ _ (den E (κ.sl k));rw [hk];exact .inl ⟨rfl,rfl⟩
   ·intro b hb
    have:blockOf (den E (κ.sl k))=some b:=hb
    rw [hk] at this;cases this
  ·rename_i k' hk
   refine ⟨?_,.inr ⟨k',_,by simp [keyM,hk],h,?_,fun hf=>by cases hf⟩⟩
   ·show BufR _ _ _ (den E (κ.sl k));rw [hk];exact hs.hM k' _ h
   ·intro b hb
    have:blockOf (den E (κ.sl k))=some b:=hb
    rw [hk] at this;exact this
  ·cases h
 | gone=>exact ⟨trivial,.inl fun b hb=>hb⟩
theorem nodup_filterMap {α:Type _} {f:α→Option Nat}:∀ {l:List α},(l.filterMap f).Nodup→∀ x∈l,∀ y∈l,∀ j,f x=some j→f y=some j→x=y
 | [],_,x,hx,_,_,_,_,_=>by cases hx
 | z::r,h,x,hx,y,hy,j,h1,h2=>by
  cases hz:f z with
  | none =>
   rw [List.filterMap_cons_none hz] at h
   rcases List.mem_cons.1 hx with rfl | hx
   ·rw [hz] at h1;cases h1
   ·rcases List.mem_cons.1 hy with rfl | hy
    ·rw [hz] at h2;cases h2
    ·exact nodup_filterMap h x hx y hy j h1 h2
  | some i =>
   rw [List.filterMap_cons_some hz,List.nodup_cons] at h
   obtain ⟨h5,h6⟩:=h
   rcases List.mem_cons.1 hx with e1 | hx'
   ·rcases List.mem_cons.1 hy with e2 | hy'
    ·rw [e1,e2]
    ·rw [e1,hz] at h1
     exact absurd (List.mem_filterMap.2 ⟨y,hy',h2.trans h1.symm⟩) h5
   ·rcases List.mem_cons.1 hy with e2 | hy'
    ·rw [e2,hz] at h2
     exact absurd (List.mem_filterMap.2 ⟨x,hx',h1.trans h2.symm⟩) h5
    ·exact nodup_filterMap h6 x hx' y hy' j h1 h2
theorem nodup_keys {α:Type _}:∀ {l:List (Nat × α)},(l.map (·.1)).Nodup→∀ {k:Nat} {v:α},(k,v)∈l→look l k=some v
  | [],_,_,_,h=>by cases h
  | (k',v')::r,hn,k,v,h=>by
    simp only [List.map_cons,List.nodup_cons] at hn
    rw [look_cons]
    rcases List.mem_cons.1 h with e | h
    · cases e;simp
    · have:k'≠k:=fun e=>hn.1 (by rw [e];exact List.mem_map.2 ⟨_,h,rfl⟩)
      rw [if_neg this]
      exact nodup_keys hn.2 h
theorem Emb.disj (he:Emb s κ V M) (hs:Sat X s E F w a) {k k':Nat} {m m':MO} (h1:(k,m)∈M) (h2:(k',m')∈M) (hne:k≠k') (b:Nat) (hb:m.fp (κ.env E) k b) :
  ¬ m'.fp (κ.env E) k' b:=by
 intro hb'
 obtain ⟨_,g1⟩:=he.memM hs h1
 obtain ⟨_,g2⟩:=he.memM hs h2
 rcases g1 with g1 | ⟨j,n,hj,hn,hf,_⟩
 ·exact g1 b hb
 ·rcases g2 with g2 | ⟨j',n',hj',hn',hf',_⟩
  ·exact g2 b hb'
  ·by_cases e:j=j'
   ·subst e
    have:=nodup_filterMap (nodupB_ok he.hd) _ h1 _ h2 j hj hj'
    simp only [Prod.mk.injEq] at this
    exact hne this.1
   ·exact hs.dis j j' n n' hn hn' e b (hf b hb) (hf' b hb')
theorem WP.sub {todo:List Item} {t:St} (l:List (Nat × SC)) (k:WP X todo t)
    (hL:t.L.map (fun p=>look s.L p.1)=t.L.map (fun p=>some (renV ⟨l,0,0⟩ p.2)))
    (hV:t.V.map (fun p=>findV s ⟨l,0,0⟩ p.1 p.2)=t.V.map (fun p=>some p.2))
    (hM:t.M.map (fun p=>findM s ⟨l,0,0⟩ p.1 p.2)=t.M.map (fun p=>some (renM ⟨l,0,0⟩ p.2)))
    (hc:(t.L.all (fun p=>okV ⟨l,0,0⟩ p.2) && nodupB (t.M.filterMap fun p=>keyM ⟨l,0,0⟩ p.1 p.2) && nodupB (t.M.map (·.1)) && wfb t.L t.M t.V t.nx && l.all (fun p=>Nat.ble X.nk p.1 && p.2.kbb s.nx) && Nat.ble X.nk t.nx)=true) :
    WP X todo s:=by
  simp only [Bool.and_eq_true] at hc
  obtain ⟨⟨⟨⟨⟨c1,c2⟩,c3⟩,c4⟩,c5⟩,c6⟩:=hc
  generalize hκ:(⟨l,0,0⟩:Ren)=κ at *
  have hsh:∀ j,κ.sh j=j:=by intro j;subst hκ;simp [Ren.sh]
  have hl:κ.l=l:=by subst hκ;rfl
  have he:Emb s κ t.V t.M:=⟨hV,hM,c2,c3⟩
  intro E F w a hs
  refine k (κ.env E) F w a ?_
  exact {
    wf:=wfb_ok c4
    nk:=Nat.le_of_ble_eq_true c6
    defers:=hs.defers
    size:=hs.size
    hL:=fun d v h=>by
      have hm:=look_mem h
      have e:=map_eq_mem hL _ hm
      simp only [] at e
      rw [denV_ren κ E (List.all_eq_true.1 c1 _ hm)]
      exact hs.hL d _ e
    hV:=fun j f h=>he.factV hs (look_mem h)
    hM:=fun j m h=>(he.memM hs (look_mem h)).1
    dis:=fun j j' m m' h h' hne b hb=>he.disj hs (look_mem h) (look_mem h') hne b hb
    mF:=fun j m h b hb=>by
      obtain ⟨_,g⟩:=he.memM hs (look_mem h)
      rcases g with g | ⟨j',n,_,hn,hf,_⟩
      · exact absurd hb (g b)
      · exact hs.mF j' n hn b (hf b hb)
    fresh:=fun j m h hfr b hb=>by
      obtain ⟨_,g⟩:=he.memM hs (look_mem h)
      rcases g with g | ⟨j',n,_,hn,hf,hff⟩
      · exact absurd hb (g b)
      · exact hs.fresh j' n hn (hff hfr) b (hf b hb)
    hF:=hs.hF
    hF0:=hs.hF0
    hF1:=hs.hF1
    hn0:=hs.hn0
    hZ:=hs.hZ
    ext:=hs.ext
    link:=fun j hj=>by
      have hnone:look κ.l j=none:=by
        rw [hl]
        cases hl:look l j with
        | none=>rfl
        | some c =>
          have:=List.all_eq_true.1 c5 _ (look_mem hl)
          simp only [Bool.and_eq_true] at this
          exact absurd (Nat.le_of_ble_eq_true this.1) (Nat.not_le.2 hj)
      have:=hs.link j hj
      exact ⟨by simp [Ren.env,Ren.sl,hnone,den,this.1,hsh],by simp [Ren.env,hnone,this.2,hsh]⟩
    one:=fun j=>by
      show (den E (κ.sl j)).oneCell'=true
      unfold Ren.sl
      rw [hl]
      cases hl:look l j with
      | none=>exact hs.one _
      | some c =>
        have:=List.all_eq_true.1 c5 _ (look_mem hl)
        simp only [Bool.and_eq_true] at this
        exact den_one hs.one (SC.kbb_ok this.2) }
end
end Go.Kx
end
section
namespace Go.Kx
variable [LxP]
structure Ct where
 nk:Nat
 args:List SV
 V0:List (Nat × VF)
 M0:List (Nat × MO)
 nr:Nat
 res:SV
 V1:List (Nat × VF)
 M1:List (Nat × MO)
structure Ct.Pre (c:Ct) (E:Env) (F:FSet) (w:World):Prop where
 one:∀ k,(E.ρ k).oneCell'=true
 hF:∀ b,F b→b < w.heap.size
 V:∀ k f,look c.V0 k=some f→f.ok E F w (E.ρ k)
 M:∀ k m,look c.M0 k=some m→m.ok E F w k
 dis:∀ k k' m m',look c.M0 k=some m→look c.M0 k'=some m'→k≠k'→∀ b,m.fp E k b→¬ m'.fp E k' b
 mF:∀ k m,look c.M0 k=some m→∀ b,m.fp E k b→¬ F b∧b < w.heap.size
def Ct.fp0 (c:Ct) (E:Env) (b:Nat):Prop:=∃ k m,look c.M0 k=some m∧m.fp E k b
structure Ct.Post (c:Ct) (E:Env) (F:FSet) (w:World) (E':Env) (F':FSet) (w':World):Prop where
 env:E.Eqb c.nk E'
 one:∀ k,(E'.ρ k).oneCell'=true
 V:∀ k f,look c.V1 k=some f→f.ok E' F' w' (E'.ρ k)
 M:∀ k m,look c.M1 k=some m→m.ok E' F' w' k
 dis:∀ k k' m m',look c.M1 k=some m→look c.M1 k'=some m'→k≠k'→∀ b,m.fp E' k b→¬ m'.fp E' k' b
 mF:∀ k m,look c.M1 k=some m→∀ b,m.fp E' k b→¬ F' b∧b < w'.heap.size∧(c.fp0 E b∨w.heap.size≤b)
 fresh:∀ k m,look c.M1 k=some m→m.isFresh=true→∀ b,m.fp E' k b→w.heap.size≤b
 F0:∀ b,F b→F' b
 F1:∀ b,F' b→F b∨w.heap.size≤b
 Fs:∀ b,F' b→b < w'.heap.size
 ext:Ext (fun b=>b < w.heap.size∧¬ c.fp0 E b) w w'
def Callable (P:Program) (f:FuncId):Prop:=∃ fn,P.funcs[f]? = some fn∧(fn.name == "runtime.NumGoroutine")=false∧fn.body.isNone=false
structure Fn (P:Program) (f:FuncId) (c:Ct):Prop where
 callable:Callable P f
 calls:∀ E F w,c.Pre E F w→Calls P f (c.args.map (denV E)).toArray w fun e w'=>∃ E' F',e=.returned (denV E' c.res)∧c.Post E F w E' F' w'
def Ct.ctx (c:Ct) (P:Program) (f:FuncId) (fn:Func) (E:Env) (F:FSet) (w:World):Ctx where
 P:=P
 f:=f
 fn:=fn
 nk:=c.nk
 E0:=E
 F0:=F
 w0:=w
 n0:=w.heap.size
 Z:=fun b=>b < w.heap.size∧¬ c.fp0 E b
 post:=fun v w'=>∃ E' F',v=denV E' c.res∧c.Post E F w E' F' w'
def numL (n:Nat):List SV→List (Nat × SV)
 | []=>[]
 | v::r=>(n,v)::numL (n+1) r
theorem look_numL:∀ (l:List SV) (n d:Nat) (v:SV),look (numL n l) d=some v→∃ i,d=n+i∧l[i]? = some v
 | [],n,d,v,h=>by cases h
 | x::r,n,d,v,h=>by
  rw [numL,look_cons] at h
  split at h
  ·rename_i e;cases h;exact ⟨0,by omega,rfl⟩
  ·obtain ⟨i,hi,hv⟩:=look_numL r (n+1) d v h
   exact ⟨i+1,by omega,by simpa using hv⟩
theorem Fn.intro {P:Program} {f:FuncId} {c:Ct} (fn:Func) (body:Code) (hf:P.funcs[f]? = some fn) (hb:fn.body=some body) (hn:(fn.name == "runtime.NumGoroutine")=false)
  (hw:(wfb (numL 0 c.args) c.M0 c.V0 c.nk && c.M0.all (fun p => !p.2.isFresh) && Nat.ble c.args.length fn.ntmps)=true)
  (h:∀ E F w,WP (c.ctx P f fn E F w) [.code body] ⟨numL 0 c.args,c.M0,c.V0,c.nk⟩):Fn P f c:=by
 simp only [Bool.and_eq_true] at hw
 obtain ⟨⟨w1,w2⟩,w3⟩:=hw
 refine ⟨⟨fn,hf,hn,by rw [hb];rfl⟩,fun E F w hp=>?_⟩
 intro cs
 let b:Frame:={ (default:Frame) with fn:=f,kind:=.normal }
 let a:Act:={ tmps:=(c.args.map (denV E)).toArray++Array.replicate (fn.ntmps-(c.args.map (denV E)).toArray.size) undef,defers:=[] }
 have henter:Frame.enter P f (c.args.map (denV E)).toArray .normal=b.at a [.code body]:=by
  simp [Frame.enter,Frame.at,hf,hb,b,a]
 have hle:=Nat.le_of_ble_eq_true w3
 have hs:Sat (c.ctx P f fn E F w) ⟨numL 0 c.args,c.M0,c.V0,c.nk⟩ E F w a:={
  wf:=wfb_ok w1
  nk:=Nat.le_refl _
  defers:=rfl
  size:=by show (_++_:Array Value).size=fn.ntmps;simp;omega
  hL:=fun d v hl=>by
   obtain ⟨i,rfl,hi⟩:=look_numL _ _ _ _ hl
   show (_++_:Array Value)[0+i]? = _
   have hlt:i < c.args.length:=(List.getElem?_eq_some_iff.1 hi).1
   rw [Nat.zero_add,Array.getElem?_append_left (by simpa using hlt)]
   simp [hi]
  hV:=hp.V
  hM:=hp.M
  dis:=hp.dis
  mF:=fun k m hm b' hb'=>⟨(hp.mF k m hm b' hb').1,fun hz=>hz.2 ⟨k,m,hm,hb'⟩,(hp.mF k m hm b' hb').2⟩
  fresh:=fun k m hm hfr=>by
   have:=List.all_eq_true.1 w2 _ (look_mem hm)
   simp [hfr] at this
  hF:=hp.hF
  hF0:=fun _ h=>h
  hF1:=fun _ h=>.inl h
  hn0:=Nat.le_refl _
  hZ:=fun b' hz=>hz.1
  ext:=Ext.refl _ _
  link:=Env.Eqb.refl _ _
  one:=hp.one }
 obtain ⟨v,w',fr,hR,hst,hfn,hl⟩:=h E F w E F w a hs b cs rfl rfl
 rw [← henter] at hst
 obtain ⟨E',F',hv,hpost⟩:=hR
 exact ⟨.returned v,w',fr,⟨E',F',by rw [hv],hpost⟩,hst,hfn,hl⟩
def resOne (tt:List (Nat × TD)) (s:St):ResultVar→Option SV
 | .tmp t=>look s.L t
 | .cell a t=>match look tt t with
  | some d=>match look s.L a with
   | some (.c (.bp k off))=>match look s.M k with
    | some (.box cs _)=>loadC d off cs
    | _=>none
   | _=>none
  | none=>none
def svSum:SV→Option (SC ⊕ List SC)
 | .c x=>some (.inl x)
 | .a cs=>some (.inr cs)
 | _=>none
def resAll (tt:List (Nat × TD)) (s:St):List ResultVar→Option (List SV)
 | []=>some []
 | r::rs=>match resOne tt s r with
  | some v=>match resAll tt s rs with
   | some vs=>some (v::vs)
   | none=>none
  | none=>none
def sumAll:List SV→Option (List (SC ⊕ List SC))
 | []=>some []
 | v::vs=>match svSum v with
  | some x=>match sumAll vs with
   | some xs=>some (x::xs)
   | none=>none
  | none=>none
def resV (tt:List (Nat × TD)) (s:St) (rs:List ResultVar):Option SV :=
 match resAll tt s rs with
 | some [v]=>some v
 | some vs=>match sumAll vs with
  | some xs=>some (.t xs)
  | none=>none
 | none=>none
section
variable {X:Ctx} {s:St} {E:Env} {F:FSet} {w:World} {a:Act} {tt:List (Nat × TD)} {k:List Item}
def resSem (tmps:Array Value):ResultVar→Sem Value
 | .tmp t=>pure (tmps.getD t undef)
 | .cell ad t=>do loadVar t (← asAddr (tmps.getD ad undef))
theorem results_eq (fn:Func) (tmps:Array Value):results fn tmps=(do
  let vs ← fn.results.mapM (resSem tmps)
  pure (if h:vs.size=1 then vs[0] else .tuple vs)):=by
 unfold results
 congr 1
theorem resOne_ok (htt:TTOk X.P tt) (hs:Sat X s E F w a) {r:ResultVar} {v:SV} (h:resOne tt s r=some v) :
  (resSem a.tmps r).run X.P w=.ok (denV E v) w:=by
 cases r with
 | tmp t =>
  simp only [resOne] at h
  simp only [resSem,getD_of (hs.hL t v h),Sem.run_pure]
 | cell ad t =>
  simp only [resOne] at h
  cases hd:look tt t with
  | none=>rw [hd] at h;cases h
  | some d =>
   rw [hd] at h
   simp only [] at h
   split at h
   ·rename_i j off hl
    split at h
    ·rename_i cs t' hm
     have hb:w.heap[E.β j]? = some (.cells (cs.map (den E)).toArray t' (0,0)):=hs.hM j _ hm
     have hld:=run_loadVar_cells (E:=E) (base:=0) (htt.get hd) hb (cs:=cs) (fun i x hj=>by simp [hj]) h
     rw [Nat.zero_add] at hld
     simp only [resSem,getD_of (hs.hL ad _ hl),denV,den,asAddr,Sem.run_bind,Sem.run_pure,Result.andThen_ok,hld]
    ·cases h
   ·cases h
theorem resAll_ok (htt:TTOk X.P tt) (hs:Sat X s E F w a):∀ {rs:List ResultVar} {vs:List SV},resAll tt s rs=some vs →
  (rs.mapM (resSem a.tmps)).run X.P w=.ok (vs.map (denV E)) w
 | [],vs,h=>by cases h;rfl
 | r::rs,vs,h=>by
  unfold resAll at h
  cases hr:resOne tt s r with
  | none=>rw [hr] at h;cases h
  | some v =>
   rw [hr] at h
   simp only [] at h
   cases ha:resAll tt s rs with
   | none=>rw [ha] at h;cases h
   | some us =>
    rw [ha] at h
    cases h
    rw [List.mapM_cons]
    simp only [Sem.run_bind,resOne_ok htt hs hr,Result.andThen_ok,resAll_ok htt hs ha,Sem.run_pure,List.map_cons]
theorem sumAll_ok:∀ {vs:List SV} {xs:List (SC ⊕ List SC)},sumAll vs=some xs→vs.map (denV E)=xs.map (denS E)
 | [],xs,h=>by cases h;rfl
 | v::vs,xs,h=>by
  unfold sumAll at h
  cases hv:svSum v with
  | none=>rw [hv] at h;cases h
  | some x =>
   rw [hv] at h
   simp only [] at h
   cases hr:sumAll vs with
   | none=>rw [hr] at h;cases h
   | some ys =>
    rw [hr] at h
    cases h
    simp only [List.map_cons,sumAll_ok hr]
    congr 1
    unfold svSum at hv
    split at hv<;>cases hv<;>rfl
theorem resV_ok (htt:TTOk X.P tt) (hs:Sat X s E F w a) {fn:Func} {v:SV} (h:resV tt s fn.results.toList=some v) :
  (results fn a.tmps).run X.P w=.ok (denV E v) w:=by
 unfold resV at h
 rw [results_eq]
 have key:∀ vs,resAll tt s fn.results.toList=some vs →
   (fn.results.mapM (resSem a.tmps)).run X.P w=.ok (vs.map (denV E)).toArray w:=by
  intro vs hv
  have:=resAll_ok htt hs hv
  rw [← Array.toArray_toList (xs:=fn.results),List.mapM_toArray]
  simp only [Sem.run_map,this,Result.andThen_ok]
 split at h
 ·rename_i v' hr
  cases h
  simp only [Sem.run_bind]
  rw [key _ hr]
  rfl
 ·rename_i vs hne hr
  cases hsum:sumAll vs with
  | none=>rw [hsum] at h;cases h
  | some xs =>
   rw [hsum] at h
   cases h
   simp only [Sem.run_bind]
   rw [key _ hr]
   simp only [Result.andThen_ok,Sem.run_pure]
   rw [dif_neg]
   ·simp only [denV,sumAll_ok hsum]
   ·simp only [List.size_toArray,List.length_map]
    intro hl
    obtain ⟨v',rfl⟩:=List.length_eq_one_iff.1 hl
    exact hne v' rfl
 ·cases h
theorem runs_ret {v:Value} (hf:X.P.funcs[X.f]? = some X.fn) (hr:(results X.fn a.tmps).run X.P w=.ok v w) (hd:a.defers=[]) (hp:X.post v w) :
  Runs X.P X.f X.post a (.code .ret::k) w:=fun b cs hb hk =>
 ⟨v,w,{ b.at a (.code .ret::k) with mode:=.returning },hp,.one step_ret,hb,rfl,hd,hk,X.fn,by show X.P.funcs[b.fn]? = _;rw [hb];exact hf,hr⟩
theorem runs_end {v:Value} (hf:X.P.funcs[X.f]? = some X.fn) (hr:(results X.fn a.tmps).run X.P w=.ok v w) (hd:a.defers=[]) (hp:X.post v w) :
  Runs X.P X.f X.post a [] w:=fun b cs hb hk =>
 ⟨v,w,{ b.at a [] with mode:=.returning },hp,.one step_end,hb,rfl,hd,hk,X.fn,by show X.P.funcs[b.fn]? = _;rw [hb];exact hf,hr⟩
end
section
variable {c:Ct} {P:Program} {f:FuncId} {fn:Func} {E0:Env} {F0:FSet} {w0:World} {s:St} {tt:List (Nat × TD)}
theorem retPost {E:Env} {F:FSet} {w:World} {a:Act} (hs:Sat (c.ctx P f fn E0 F0 w0) s E F w a) (l:List (Nat × SC)) {v:SV}
    (hv:some v=some (renV ⟨l,0,0⟩ c.res))
    (hV:c.V1.map (fun p=>findV s ⟨l,0,0⟩ p.1 p.2)=c.V1.map (fun p=>some p.2))
    (hM:c.M1.map (fun p=>findM s ⟨l,0,0⟩ p.1 p.2)=c.M1.map (fun p=>some (renM ⟨l,0,0⟩ p.2)))
    (hc:(okV ⟨l,0,0⟩ c.res && nodupB (c.M1.filterMap fun p=>keyM ⟨l,0,0⟩ p.1 p.2) && nodupB (c.M1.map (·.1)) && l.all (fun p=>Nat.ble c.nk p.1 && p.2.kbb s.nx))=true) :
    (c.ctx P f fn E0 F0 w0).post (denV E v) w:=by
  simp only [Bool.and_eq_true] at hc
  obtain ⟨⟨⟨c1,c2⟩,c3⟩,c4⟩:=hc
  have hl:(⟨l,0,0⟩:Ren).l=l:=rfl
  generalize hκ:(⟨l,0,0⟩:Ren)=κ at *
  have hsh:∀ j,κ.sh j=j:=by intro j;subst hκ;simp [Ren.sh]
  have he:Emb s κ c.V1 c.M1:=⟨hV,hM,c2,c3⟩
  refine ⟨κ.env E,F,?_,?_⟩
  · simp only [Option.some.injEq] at hv
    rw [hv,denV_ren κ E c1]
  · exact {
      env:=fun j hj=>by
        have hnone:look κ.l j=none:=by
          rw [hl]
          cases hl:look l j with
          | none=>rfl
          | some x =>
            have:=List.all_eq_true.1 c4 _ (look_mem hl)
            simp only [Bool.and_eq_true] at this
            exact absurd (Nat.le_of_ble_eq_true this.1) (Nat.not_le.2 hj)
        have:=hs.link j hj
        exact ⟨by simp [Ren.env,Ren.sl,hnone,den,hsh];exact this.1,by simp [Ren.env,hnone,hsh];exact this.2⟩
      one:=fun j=>by
        show (den E (κ.sl j)).oneCell'=true
        unfold Ren.sl
        rw [hl]
        cases hl:look l j with
        | none=>exact hs.one _
        | some x =>
          have:=List.all_eq_true.1 c4 _ (look_mem hl)
          simp only [Bool.and_eq_true] at this
          exact den_one hs.one (SC.kbb_ok this.2)
      V:=fun j g h=>he.factV hs (look_mem h)
      M:=fun j m h=>(he.memM hs (look_mem h)).1
      dis:=fun j j' m m' h h' hne b hb=>he.disj hs (look_mem h) (look_mem h') hne b hb
      mF:=fun j m h b hb=>by
        obtain ⟨_,g⟩:=he.memM hs (look_mem h)
        rcases g with g | ⟨j',n,_,hn,hf,_⟩
        · exact absurd hb (g b)
        · have:=hs.mF j' n hn b (hf b hb)
          refine ⟨this.1,this.2.2,?_⟩
          by_cases hz:b < w0.heap.size
          · left
            exact Classical.byContradiction fun hnz=>this.2.1 ⟨hz,hnz⟩
          · exact .inr (Nat.not_lt.1 hz)
      fresh:=fun j m h hfr b hb=>by
        obtain ⟨_,g⟩:=he.memM hs (look_mem h)
        rcases g with g | ⟨j',n,_,hn,hf,hff⟩
        · exact absurd hb (g b)
        · exact hs.fresh j' n hn (hff hfr) b (hf b hb)
      F0:=hs.hF0
      F1:=fun b hb=>(hs.hF1 b hb).imp id And.left
      Fs:=hs.hF
      ext:=hs.ext }
theorem WP.ret {k:List Item} (htt:TTOk P tt) (hf:P.funcs[f]? = some fn) (l:List (Nat × SC)) (hv:resV tt s fn.results.toList=some (renV ⟨l,0,0⟩ c.res))
    (hV:c.V1.map (fun p=>findV s ⟨l,0,0⟩ p.1 p.2)=c.V1.map (fun p=>some p.2))
    (hM:c.M1.map (fun p=>findM s ⟨l,0,0⟩ p.1 p.2)=c.M1.map (fun p=>some (renM ⟨l,0,0⟩ p.2)))
    (hc:(okV ⟨l,0,0⟩ c.res && nodupB (c.M1.filterMap fun p=>keyM ⟨l,0,0⟩ p.1 p.2) && nodupB (c.M1.map (·.1)) && l.all (fun p=>Nat.ble c.nk p.1 && p.2.kbb s.nx))=true) :
    WP (c.ctx P f fn E0 F0 w0) (.code .ret::k) s:=fun _ _ _ _ hs =>
  runs_ret hf (resV_ok (X:=c.ctx P f fn E0 F0 w0) htt hs hv) hs.defers (retPost hs l rfl hV hM hc)
theorem WP.fin (htt:TTOk P tt) (hf:P.funcs[f]? = some fn) (l:List (Nat × SC)) (hv:resV tt s fn.results.toList=some (renV ⟨l,0,0⟩ c.res))
    (hV:c.V1.map (fun p=>findV s ⟨l,0,0⟩ p.1 p.2)=c.V1.map (fun p=>some p.2))
    (hM:c.M1.map (fun p=>findM s ⟨l,0,0⟩ p.1 p.2)=c.M1.map (fun p=>some (renM ⟨l,0,0⟩ p.2)))
    (hc:(okV ⟨l,0,0⟩ c.res && nodupB (c.M1.filterMap fun p=>keyM ⟨l,0,0⟩ p.1 p.2) && nodupB (c.M1.map (·.1)) && l.all (fun p=>Nat.ble c.nk p.1 && p.2.kbb s.nx))=true) :
    WP (c.ctx P f fn E0 F0 w0) [] s:=fun _ _ _ _ hs =>
  runs_end hf (resV_ok (X:=c.ctx P f fn E0 F0 w0) htt hs hv) hs.defers (retPost hs l rfl hV hM hc)
end
end Go.Kx
end
section
namespace Go.Kx
variable [LxP]
def TRep.Flat {α:Type} (R:TRep α):Prop:=∀ F w F' w' x vs,R.rep F w x vs→R.rep F' w' x vs
def FlatM:List (Nat × MO)→Prop
 | []=>True
 | (_,.own R _ _)::r=>R.Flat∧FlatM r
 | (_,.box _ _)::r=>FlatM r
 | (_,.gone)::r=>FlatM r
 | (_,.abs _)::_ | (_,.buf _ _)::_ | (_,.av _)::_=>False
theorem look_append {α:Type _} (l1 l2:List (Nat × α)) (k:Nat):look (l1++l2) k=match look l1 k with | some v=>some v | none=>look l2 k:=by
 induction l1 with
 | nil=>rfl
 | cons p l1 ih =>
  obtain ⟨j,v⟩:=p
  rw [List.cons_append,look_cons,look_cons]
  split
  ·rfl
  ·exact ih
theorem look_none_of {α:Type _}:∀ {l:List (Nat × α)} {k:Nat},look l k=none→∀ v,(k,v) ∉ l
 | [],_,_,_=>by simp
 | (j,u)::r,k,h,v=>by
  rw [look_cons] at h
  split at h
  ·cases h
  ·rename_i hne
   intro hm
   rcases List.mem_cons.1 hm with e | hm
   ·cases e;exact hne rfl
   ·exact look_none_of h v hm
def memB (k:Nat) (l:List Nat):Bool:=l.any (Nat.beq k)
theorem memB_iff {k:Nat} {l:List Nat}:memB k l=true↔k∈l:=by
 simp only [memB,List.any_eq_true]
 constructor
 ·rintro ⟨x,hx,h⟩;rw [Nat.eq_of_beq_eq_true h];exact hx
 ·intro h;exact ⟨k,h,by simp⟩
def findVb (s:St) (κ:Ren) (bor:List Nat) (k:Nat):VF→Option VF
 | .sl R xs=>match κ.sl k with
  | .nil=>some (.sl R [])
  | .sl k'=>bif memB k' bor then (match look s.M k' with
    | some (.own R' xs' _)=>some (.sl R' xs')
    | _=>none)
   else (match look s.V k' with
    | some (.sl R' xs')=>some (.sl R' xs')
    | _=>none)
  | _=>let _:=xs;none
 | .fn _=>match κ.sl k with
  | .sl k'=>look s.V k'
  | _=>none
 | _=>none
def flagOf (s:St) (j:Nat):Bool:=match look s.M j with
 | some (.own _ _ fr)=>fr
 | _=>false
def keyMc (κ:Ren) (k:Nat):MO→Option Nat
 | .gone=>match κ.sl k with
  | .sl k'=>some k'
  | _=>none
 | m=>keyM κ k m
def allFr (s:St) (κ:Ren) (c:Ct):Bool:=c.M0.all fun p=>match p.2 with
 | .own _ _ _=>match κ.sl p.1 with
  | .sl j=>flagOf s j
  | .nil=>true
  | _=>false
 | .box _ _=>match look c.M1 p.1 with
  | some (.box _ _)=>Nat.blt p.1 c.nk
  | _=>false
 | .av _=>match look c.M1 p.1 with
  | some (.av _)=>Nat.blt p.1 c.nk
  | _=>false
 | _=>false
def backM (s:St) (κ:Ren) (af:Bool) (nk k:Nat):MO→MO
 | .box cs t=>.box (cs.map (renC κ)) t
 | .own R xs fr=>.own R xs (bif Nat.blt k nk then (match κ.sl k with | .sl j=>flagOf s j | _=>false) else (fr || af))
 | m=>m
def MO.isGone:MO→Bool
 | .gone=>true
 | _=>false
def optEqB:Option Nat→Option Nat→Bool
 | some a,some b=>Nat.beq a b
 | none,none=>true
 | _,_=>false
theorem optEqB_ok {a b:Option Nat} (h:optEqB a b=true):a=b:=by
 cases a<;>cases b<;>simp only [optEqB] at h
 ·rfl
 ·cases h
 ·cases h
 ·rw [Nat.eq_of_beq_eq_true h]
def VF.plain:VF→Bool
 | .sl _ _ | .fn _=>true
 | _=>false
def okM (κ:Ren):MO→Bool
 | .box cs _=>cs.all (okC κ)
 | _=>true
def callB (s:St) (c:Ct) (l:List (Nat × SC)) (bor:List Nat):Bool :=
  (List.range c.nk).all (fun k=>(look l k).isSome) && l.all (fun p=>Nat.blt p.1 c.nk && p.2.kbb s.nx) &&
  nodupB ((c.M0.filterMap fun p=>keyM ⟨l,c.nk,s.nx⟩ p.1 p.2)++bor) && nodupB (c.M0.map (·.1)) &&
  c.M0.all (fun p=>match look c.M1 p.1 with | some m=>optEqB (keyMc ⟨l,c.nk,s.nx⟩ p.1 m) (keyM ⟨l,c.nk,s.nx⟩ p.1 p.2) | none=>false) &&
  c.M1.all (fun p=>((keyMc ⟨l,c.nk,s.nx⟩ p.1 p.2).isSome || p.2.isGone) && Nat.blt p.1 c.nr && p.2.kbb c.nr && okM ⟨l,c.nk,s.nx⟩ p.2 && (Nat.ble c.nk p.1 || memB p.1 (c.M0.map (·.1)))) && nodupB (c.M1.map (·.1)) &&
  nodupB (c.M1.filterMap fun p=>keyMc ⟨l,c.nk,s.nx⟩ p.1 p.2) &&
  c.V1.all (fun p=>Nat.ble c.nk p.1 && Nat.blt p.1 c.nr && p.2.plain) && nodupB (c.V1.map (·.1)) &&
  okV ⟨l,c.nk,s.nx⟩ c.res && c.res.kbb c.nr && Nat.ble c.nk c.nr && c.args.all (okV ⟨l,c.nk,s.nx⟩)
def callS (s:St) (c:Ct) (l:List (Nat × SC)) (d:Nat):St :=
 ⟨(d,renV ⟨l,c.nk,s.nx⟩ c.res)::s.L,(c.M1.filterMap fun p=>(keyMc ⟨l,c.nk,s.nx⟩ p.1 p.2).map fun j=>(j,backM s ⟨l,c.nk,s.nx⟩ (allFr s ⟨l,c.nk,s.nx⟩ c) c.nk p.1 p.2))++s.M,
  (c.V1.map fun p=>((⟨l,c.nk,s.nx⟩:Ren).sh p.1,p.2))++s.V,s.nx+(c.nr-c.nk)⟩
theorem SC.ren_kb {κ:Ren} {n nx m:Nat} (hl:∀ k c,look κ.l k=some c→SC.kb nx c) (hnx:nx≤m) (hsh:∀ k,k < n→look κ.l k=none→κ.sh k < m):∀ {c:SC},c.kb n→(renC κ c).kb m
 | .sl k,h=>by
  show (κ.sl k).kb m
  unfold Ren.sl
  cases hk:look κ.l k with
  | some c=>exact (hl k c hk).mono hnx
  | none=>exact hsh k h hk
 | .px k off,h=>by
  have:(κ.sl k).kb m:=by
   unfold Ren.sl
   cases hk:look κ.l k with
   | some c=>exact (hl k c hk).mono hnx
   | none=>exact hsh k h hk
  simp only [renC]
  split
  ·rename_i k' hk;rw [hk] at this;exact this
  ·trivial
 | .bp k off,h=>by
  simp only [renC]
  split
  ·rename_i k' hk;exact SC.kb.mono hnx (show SC.kb nx (.bp k' off) from hl k (.bp k' 0) hk)
  ·trivial
  ·rename_i hk;exact hsh k h hk
 | .cl f fs ks,h=>by
  have key:∀ k,k < n→κ.okB k=true→κ.bk k < m:=fun k hk ho=>by
   unfold Ren.okB at ho
   unfold Ren.bk
   split at ho
   ·rename_i k' hl'
    exact SC.kb.mono hnx (show SC.kb nx (.bp k' 0) from hl k (.bp k' 0) hl')
   ·cases ho
   ·rename_i hk'
    exact hsh k hk hk'
  simp only [renC]
  cases hb:(fs.all κ.okB && ks.all κ.okB) with
  | false=>trivial
  | true =>
   simp only [Bool.and_eq_true] at hb
   refine ⟨fun k hk=>?_,fun k hk=>?_⟩
   ·obtain ⟨j,hj,rfl⟩:=List.mem_map.1 hk;exact key j (h.1 j hj) (List.all_eq_true.1 hb.1 j hj)
   ·obtain ⟨j,hj,rfl⟩:=List.mem_map.1 hk;exact key j (h.2 j hj) (List.all_eq_true.1 hb.2 j hj)
 | .v _,h=>h
 | .sp _ _ _ _,_=>trivial
 | .i _ _,_ | .b _,_ | .s _,_ | .nil,_=>trivial
section
variable {X:Ctx} {s:St} {E:Env} {F:FSet} {w:World} {a:Act}
theorem factVb (hs:Sat X s E F w a) {κ:Ren} {bor:List Nat} {V:List (Nat × VF)} (hV:V.map (fun p=>findVb s κ bor p.1 p.2)=V.map (fun p=>some p.2)) {k:Nat} {f:VF} (hf:(k,f)∈V)
  {Fc:FSet} (hF:∀ b,F b→Fc b) (hB:∀ k' m,k'∈bor→look s.M k'=some m→∀ b,m.fp E k' b→Fc b):f.ok (κ.env E) Fc w ((κ.env E).ρ k):=by
 have h:=map_eq_mem hV _ hf
 simp only [] at h
 have hg:Grow F w Fc w:=⟨hF,fun _ _=>rfl⟩
 show f.ok _ Fc w (den E (κ.sl k))
 cases f with
 | sl R xs =>
  simp only [findVb] at h
  split at h
  ·rename_i hk
   simp only [Option.some.injEq,VF.sl.injEq] at h
   obtain ⟨_,_,h2⟩:=h
   cases h2
   rw [hk]
   exact .inl ⟨rfl,_,_,rfl⟩
  ·rename_i k' hk
   cases hm:memB k' bor with
   | true =>
    rw [hm] at h
    simp only [cond_true] at h
    split at h
    ·rename_i R' xs' fr hl
     simp only [Option.some.injEq,VF.sl.injEq] at h
     obtain ⟨rfl,h1,h2⟩:=h
     cases h1
     cases h2
     rw [hk]
     have ho:=hs.hM k' _ hl
     simp only [MO.ok] at ho
     rcases ho with ho | ⟨b,off,cap,arr,ty,fz,hv,hc,_,_,hh,hr⟩
     ·exact .inl ⟨ho.1,_,_,ho.2⟩
     ·refine .inr ⟨b,off,cap,arr,ty,fz,hv,hc,?_,hh,hr.mono hg⟩
      refine hB k' _ (memB_iff.1 hm) hl b ?_
      show blockOf (E.ρ k')=some b
      rw [hv];rfl
    ·cases h
   | false =>
    rw [hm] at h
    simp only [cond_false] at h
    split at h
    ·rename_i hl
     rw [h] at hl
     rw [hk]
     exact (hs.hV k' _ hl).mono hg
    ·cases h
  ·cases h
 | fn Φ =>
  simp only [findVb] at h
  split at h
  ·rename_i k' hk
   rw [hk]
   exact hs.hV k' _ h
  ·cases h
 | pl _=>cases h
 | el _ _=>cases h
 | vw _ _ _ _=>cases h
end
section
variable {X:Ctx} {s:St} {E E2:Env} {F:FSet} {w:World} {a:Act} {κ:Ren}
theorem key_ok {k j:Nat} {m:MO} (hk:keyM κ k m=some j):(∀ cs t,m=.box cs t→(κ.env E2).β k=E2.β j)∧((∀ cs t,m≠.box cs t)→(κ.env E2).ρ k=E2.ρ j):=by
 refine ⟨?_,?_⟩
 ·rintro cs t rfl
  simp only [keyM] at hk
  split at hk
  ·rename_i k' o hr
   cases hk
   simp only [renC] at hr
   split at hr
   ·rename_i k2 hl;cases hr;simp only [Ren.env,hl]
   ·cases hr
   ·rename_i hl;cases hr;simp only [Ren.env,hl]
  ·cases hk
 ·intro hne
  cases m with
  | box cs t=>exact absurd rfl (hne cs t)
  | own R xs fr =>
   simp only [keyM] at hk
   split at hk
   ·rename_i k' hr;cases hk;simp only [Ren.env,hr,den]
   ·cases hk
  | abs A =>
   simp only [keyM] at hk
   split at hk
   ·rename_i k' hr;cases hk;simp only [Ren.env,hr,den]
   ·cases hk
  | av _ =>
   simp only [keyM] at hk
   split at hk
   ·rename_i k' hr;cases hk;simp only [Ren.env,hr,den]
   ·cases hk
  | buf _ _ =>
   simp only [keyM] at hk
   split at hk
   ·rename_i k' hr;cases hk;simp only [Ren.env,hr,den]
   ·cases hk
  | gone=>cases hk
theorem backM_ok {nk k j:Nat} {af:Bool} {m:MO} (hk:keyMc κ k m=some j) (ho:okM κ m=true) (hm:m.ok (κ.env E2) F w k):(backM s κ af nk k m).ok E2 F w j:=by
 cases m with
 | box cs t =>
  have:=(key_ok (E2:=E2) (m:=.box cs t) hk).1 cs t rfl
  show w.heap[E2.β j]? = _
  rw [← this,← den_ren_map κ E2 ho]
  exact hm
 | own R xs fr =>
  have:=(key_ok (E2:=E2) (m:=.own R xs fr) hk).2 (fun _ _ h=>by cases h)
  show OwnR R F w xs (E2.ρ j)
  rw [← this]
  exact hm
 | abs A=>exact hm
 | buf sb ty =>
  have:=(key_ok (E2:=E2) (m:=.buf sb ty) hk).2 (fun _ _ h=>by cases h)
  show BufR ty w sb (E2.ρ j)
  rw [← this]
  exact hm
 | av A =>
  have:=(key_ok (E2:=E2) (m:=.av A) hk).2 (fun _ _ h=>by cases h)
  show A.ok F w (E2.ρ j)
  rw [← this]
  exact hm
 | gone=>trivial
theorem backM_fp {nk k j:Nat} {af:Bool} {m:MO} (hk:keyMc κ k m=some j) {b:Nat}:(backM s κ af nk k m).fp E2 j b↔m.fp (κ.env E2) k b:=by
 cases m with
 | box cs t =>
  have:=(key_ok (E2:=E2) (m:=.box cs t) hk).1 cs t rfl
  show b=E2.β j↔b=(κ.env E2).β k
  rw [this]
 | own R xs fr =>
  have:=(key_ok (E2:=E2) (m:=.own R xs fr) hk).2 (fun _ _ h=>by cases h)
  show blockOf (E2.ρ j)=some b↔blockOf ((κ.env E2).ρ k)=some b
  rw [this]
 | abs A=>exact Iff.rfl
 | buf sb ty =>
  have:=(key_ok (E2:=E2) (m:=.buf sb ty) hk).2 (fun _ _ h=>by cases h)
  show blockOf (E2.ρ j)=some b↔blockOf ((κ.env E2).ρ k)=some b
  rw [this]
 | av A =>
  have:=(key_ok (E2:=E2) (m:=.av A) hk).2 (fun _ _ h=>by cases h)
  show blockOf (E2.ρ j)=some b↔blockOf ((κ.env E2).ρ k)=some b
  rw [this]
 | gone=>exact Iff.rfl
end
section
variable {X:Ctx} {s:St} {E:Env} {F:FSet} {w:World} {a:Act}
def Ct.Bor (s:St) (E:Env) (F:FSet) (bor:List Nat) (b:Nat):Prop:=F b∨∃ k m,k∈bor∧look s.M k=some m∧m.fp E k b
theorem nodup_app {l1 l2:List Nat} (h:(l1++l2).Nodup):l1.Nodup∧∀ x∈l1,x ∉ l2:=by
 rw [List.nodup_append] at h
 exact ⟨h.1,fun x hx hy=>h.2.2 x hx x hy rfl⟩
theorem notIn_of {x:Nat}:∀ {l:List Nat},x ∉ l→notIn x l=true
 | [],_=>rfl
 | y::r,h=>by
  simp only [List.mem_cons,not_or] at h
  simp only [notIn,Bool.and_eq_true,Bool.not_eq_true']
  refine ⟨?_,notIn_of h.2⟩
  cases hb:Nat.beq x y with
  | false=>rfl
  | true=>exact absurd (Nat.eq_of_beq_eq_true hb) h.1
theorem nodupB_of:∀ {l:List Nat},l.Nodup→nodupB l=true
 | [],_=>rfl
 | x::r,h=>by
  rw [List.nodup_cons] at h
  simp only [nodupB,Bool.and_eq_true]
  exact ⟨notIn_of h.1,nodupB_of h.2⟩
theorem flat_ok {E:Env} {F F':FSet} {w:World} {k:Nat} {m:MO}:∀ {M:List (Nat × MO)},FlatM M→(k,m)∈M→m.ok E F w k→m.ok E F' w k
 | [],_,h,_=>by cases h
 | (k0,m0)::r,hf,hmem,hok=>by
  rcases List.mem_cons.1 hmem with e | hm2
  ·cases e
   cases m with
   | box _ _=>exact hok
   | own R xs fr =>
    have hfl:R.Flat:=hf.1
    rcases hok with hok | ⟨b,off,cap,arr,ty,fz,h1,h2,h3,h4,h5,h6⟩
    ·exact .inl hok
    ·exact .inr ⟨b,off,cap,arr,ty,fz,h1,h2,h3,h4,h5,fun i x hx=>let ⟨vs,hr,hv⟩:=h6 i x hx;⟨vs,hfl _ _ _ _ _ _ hr,hv⟩⟩
   | abs _=>exact absurd hf (by simp [FlatM])
   | av _=>exact absurd hf (by simp [FlatM])
   | buf _ _=>exact absurd hf (by simp [FlatM])
   | gone=>trivial
  ·cases m0 with
   | box _ _=>exact flat_ok (M:=r) hf hm2 hok
   | own R xs fr=>exact flat_ok (M:=r) hf.2 hm2 hok
   | abs _=>exact absurd hf (by simp [FlatM])
   | av _=>exact absurd hf (by simp [FlatM])
   | buf _ _=>exact absurd hf (by simp [FlatM])
   | gone=>exact flat_ok (M:=r) hf hm2 hok
theorem called (hs:Sat X s E F w a) {c:Ct} {l:List (Nat × SC)} {bor:List Nat} {d:Nat} (hd:d < X.fn.ntmps)
  (hV:c.V0.map (fun p=>findVb s ⟨l,c.nk,s.nx⟩ bor p.1 p.2)=c.V0.map (fun p=>some p.2))
  (hM:c.M0.map (fun p=>findM s ⟨l,c.nk,s.nx⟩ p.1 p.2)=c.M0.map (fun p=>some (renM ⟨l,c.nk,s.nx⟩ p.2)))
  (hflat:bor=[]∨(c.V1=[]∧FlatM c.M1)) (hc:callB s c l bor=true) :
  c.Pre ((⟨l,c.nk,s.nx⟩:Ren).env E) (Ct.Bor s E F bor) w ∧
  (∀ E' F' w',c.Post ((⟨l,c.nk,s.nx⟩:Ren).env E) (Ct.Bor s E F bor) w E' F' w'→∃ E2 G,Sat X (callS s c l d) E2 G w' (a.put (some d) (denV E' c.res))):=by
 simp only [callB,Bool.and_eq_true] at hc
 obtain ⟨⟨⟨⟨⟨⟨⟨⟨⟨⟨⟨⟨⟨c1,c2⟩,c3⟩,c4⟩,c5⟩,c6⟩,c7⟩,c8⟩,c9⟩,c10⟩,c11⟩,c12⟩,c13⟩,_c14⟩:=hc
 unfold callS
 have hlk:∀ k x,look l k=some x→k < c.nk∧x.kb s.nx:=fun k x h=>by
  have:=List.all_eq_true.1 c2 _ (look_mem h)
  simp only [Bool.and_eq_true] at this
  exact ⟨blt_lt this.1,SC.kbb_ok this.2⟩
 have hall:∀ k,k < c.nk→∃ x,look l k=some x:=fun k h=>by
  have:=List.all_eq_true.1 c1 k (List.mem_range.2 h)
  exact Option.isSome_iff_exists.1 this
 have hle:c.nk≤c.nr:=Nat.le_of_ble_eq_true c13
 generalize hκ:(⟨l,c.nk,s.nx⟩:Ren)=κ at *
 have el:κ.l=l:=by subst hκ;rfl
 have esh:∀ k,c.nk≤k→κ.sh k=s.nx+(k-c.nk):=by
  intro k hk;subst hκ;simp [Ren.sh,Nat.ble_eq_true_of_le hk]
 have hnone:∀ k,c.nk≤k→look κ.l k=none:=fun k hk=>by
  rw [el]
  cases h:look l k with
  | none=>rfl
  | some x=>exact absurd (hlk k x h).1 (Nat.not_lt.2 hk)
 obtain ⟨n0,nb⟩:=nodup_app (nodupB_ok c3)
 have heM:Emb s κ [] c.M0:=⟨rfl,hM,nodupB_of n0,c4⟩
 -- the blocks of what goes in
 have hin:∀ k m b,look c.M0 k=some m→m.fp (κ.env E) k b→∃ k' m',keyM κ k m=some k'∧look s.M k'=some m'∧m'.fp E k' b:=by
  intro k m b hm hb
  obtain ⟨_,g⟩:=heM.memM hs (look_mem hm)
  rcases g with g | ⟨k',m',h1,h2,h3,_⟩
  ·exact absurd hb (g b)
  ·exact ⟨k',m',h1,h2,h3 b hb⟩
 have hpre:c.Pre (κ.env E) (Ct.Bor s E F bor) w:={
  one:=fun k=>by
   show (den E (κ.sl k)).oneCell'=true
   unfold Ren.sl
   rw [el]
   cases h:look l k with
   | none=>exact hs.one _
   | some x=>exact den_one hs.one (hlk k x h).2
  hF:=fun b hb=>by
   rcases hb with hb | ⟨k,m,_,hm,hf⟩
   ·exact hs.hF b hb
   ·exact (hs.mF k m hm b hf).2.2
  V:=fun k f h=>factVb hs hV (look_mem h) (fun b hb=>.inl hb) (fun k' m hk hm b hb=>.inr ⟨k',m,hk,hm,hb⟩)
  M:=fun k m h=>by
   have:=(heM.memM hs (look_mem h)).1
   exact this.mono ⟨fun b hb=>.inl hb,fun _ _=>rfl⟩ (fun _ _=>rfl)
  dis:=fun k k' m m' h h' hne b hb=>heM.disj hs (look_mem h) (look_mem h') hne b hb
  mF:=fun k m h b hb=>by
   obtain ⟨k',m',h1,h2,h3⟩:=hin k m b h hb
   have:=hs.mF k' m' h2 b h3
   refine ⟨?_,this.2.2⟩
   rintro (hF | ⟨j,m2,hj,hm2,hf⟩)
   ·exact this.1 hF
   ·have hne:k'≠j:=fun e=>by
     subst e
     exact nb k' (List.mem_filterMap.2 ⟨_,look_mem h,h1⟩) hj
    exact hs.dis k' j m' m2 h2 hm2 hne b h3 hf }
 refine ⟨hpre,fun E' F' w' hp=>?_⟩
 -- the environment behind
 let E2:Env:=⟨fun k=>if k < s.nx then E.ρ k else E'.ρ (c.nk+(k-s.nx)),fun k=>if k < s.nx then E.β k else E'.β (c.nk+(k-s.nx))⟩
 have hE2:E.Eqb s.nx E2:=fun k hk=>⟨by simp [E2,hk],by simp [E2,hk]⟩
 have hE':E'.Eqb c.nr (κ.env E2):=fun k _=>by
  rcases Nat.lt_or_ge k c.nk with hk | hk
  ·obtain ⟨x,hx⟩:=hall k hk
   have hkb:=(hlk k x hx).2
   have hpe:=hp.env k hk
   have hx':look κ.l k=some x:=by rw [el];exact hx
   constructor
   ·rw [hpe.1]
    show den E2 (κ.sl k)=den E (κ.sl k)
    unfold Ren.sl
    rw [hx']
    exact den_eqb hE2 hkb
   ·rw [hpe.2]
    simp only [Ren.env,hx']
    split
    ·rename_i k' o he
     cases he
     have:k' < s.nx:=hkb
     simp [E2,this]
    ·rfl
    ·rename_i he;cases he
  ·have h1:=esh k hk
   have h2:=hnone k hk
   have h3:c.nk+(k-c.nk)=k:=by omega
   have h4:¬ s.nx+(k-c.nk) < s.nx:=by omega
   exact ⟨by simp [Ren.env,Ren.sl,h2,h1,den,E2,h4,h3],by simp [Ren.env,h2,h1,E2,h4,h3]⟩
 have hone2:∀ k,(E2.ρ k).oneCell'=true:=fun k=>by
  show (if k < s.nx then E.ρ k else E'.ρ (c.nk+(k-s.nx))).oneCell'=true
  split
  ·exact hs.one k
  ·exact hp.one _
 -- which blocks are new
 have hfp0:∀ b,c.fp0 (κ.env E) b→∃ k' m',look s.M k'=some m'∧m'.fp E k' b∧∃ k m,(k,m)∈c.M1∧keyMc κ k m=some k':=by
  rintro b ⟨k,m,hm,hb⟩
  obtain ⟨k',m',h1,h2,h3⟩:=hin k m b hm hb
  have:=List.all_eq_true.1 c5 _ (look_mem hm)
  simp only [] at this
  split at this
  ·rename_i m1 hm1
   refine ⟨k',m',h2,h3,k,m1,look_mem hm1,?_⟩
   rw [optEqB_ok this,h1]
  ·cases this
 have hbF:∀ b,c.fp0 (κ.env E) b→¬ F b∧¬ X.Z b∧b < w.heap.size:=fun b hb=>by
  obtain ⟨k',m',h1,h2,_⟩:=hfp0 b hb
  exact hs.mF k' m' h1 b h2
 have hsame:∀ b,b < w.heap.size→¬ c.fp0 (κ.env E) b→w'.heap[b]? = w.heap[b]? := fun b h1 h2=>hp.ext.block b ⟨h1,h2⟩
 have hM1:∀ k m,(k,m)∈c.M1→∃ _j:Nat,True∧k < c.nr∧m.kb c.nr∧okM κ m=true∧look c.M1 k=some m∧(c.nk≤k∨∃ m0,look c.M0 k=some m0):=fun k m h=>by
  have:=List.all_eq_true.1 c6 _ h
  simp only [Bool.and_eq_true,Bool.or_eq_true] at this
  obtain ⟨⟨⟨⟨h1,h2⟩,h3⟩,h4⟩,h5⟩:=this
  refine ⟨0,trivial,blt_lt h2,MO.kbb_ok h3,h4,nodup_keys (nodupB_ok c7) h,h5.imp Nat.le_of_ble_eq_true fun h=>?_⟩
  obtain ⟨⟨k0,m0⟩,hm0,e⟩:=List.mem_map.1 (memB_iff.1 h)
  simp only [] at e
  subst e
  exact ⟨m0,nodup_keys (nodupB_ok c4) hm0⟩
 generalize hML:(c.M1.filterMap fun p=>(keyMc κ p.1 p.2).map fun j=>(j,backM s κ (allFr s κ c) c.nk p.1 p.2))=ML at *
 have hlookM:∀ j m',look ML j=some m'→∃ k m,(k,m)∈c.M1∧keyMc κ k m=some j∧m'=backM s κ (allFr s κ c) c.nk k m:=fun j m' h=>by
  subst hML
  obtain ⟨⟨k,m⟩,hm,e⟩:=List.mem_filterMap.1 (look_mem h)
  obtain ⟨j',hj,e⟩:=Option.map_eq_some_iff.1 e
  simp only [Prod.mk.injEq] at e
  exact ⟨k,m,hm,by rw [hj,e.1],e.2.symm⟩
 have hlookN:∀ j,look ML j=none→∀ k m,(k,m)∈c.M1→keyMc κ k m≠some j:=fun j h k m hm hk=>by
  subst hML
  refine look_none_of h (backM s κ (allFr s κ c) c.nk k m) (List.mem_filterMap.2 ⟨(k,m),hm,?_⟩)
  simp only [hk,Option.map_some]
 -- G
 have hG:∃ G:FSet,(∀ b,F b→G b)∧(∀ b,G b→F b∨w.heap.size≤b)∧(∀ b,G b→F' b)∧(∀ k f,look c.V1 k=some f→f.ok E' G w' (E'.ρ k))∧(∀ k m,look c.M1 k=some m→m.ok E' G w' k):=by
  rcases hflat with hb | ⟨hv,hf⟩
  ·subst hb
   refine ⟨F',fun b h=>hp.F0 b (.inl h),fun b h=>?_,fun _ h=>h,hp.V,hp.M⟩
   rcases hp.F1 b h with (h | ⟨_,_,h,_⟩) | h
   ·exact .inl h
   ·cases h
   ·exact .inr h
  ·refine ⟨F,fun _ h=>h,fun _ h=>.inl h,fun b h=>hp.F0 b (.inl h),(fun k f h=>by rw [hv] at h;cases h),fun k m h=>?_⟩
   exact flat_ok hf (look_mem h) (hp.M k m h)
 obtain ⟨G,g0,g1,g2,gV,gM⟩:=hG
 have hgrow:Grow F w G w':=⟨g0,fun b hb=>hsame b (hs.hF b hb) fun h=>(hbF b h).1 hb⟩
 -- what is left of the caller's own memory
 have hold:∀ j m,look ML j=none→look s.M j=some m→∀ b,m.fp E j b→b < w.heap.size∧¬ c.fp0 (κ.env E) b:=by
  intro j m hn hm b hb
  refine ⟨(hs.mF j m hm b hb).2.2,fun h0=>?_⟩
  obtain ⟨k',m',h1,h2,k,m1,h3,h4⟩:=hfp0 b h0
  have hne:k'≠j:=fun e=>by subst e;exact hlookN k' hn k m1 h3 h4
  exact hs.dis k' j m' m h1 hm hne b h2 hb
 have hnewfp:∀ j k m b,(k,m)∈c.M1→keyMc κ k m=some j→(backM s κ (allFr s κ c) c.nk k m).fp E2 j b→¬ F' b∧b < w'.heap.size∧(c.fp0 (κ.env E) b∨w.heap.size≤b)∧m.fp E' k b:=by
  intro j k m b hm hk hb
  obtain ⟨_,_,h1,h2,_,h4,_⟩:=hM1 k m hm
  have hb':m.fp E' k b:=by
   have:=(backM_fp (s:=s) (E2:=E2) (nk:=c.nk) hk).1 hb
   exact (MO.fp_eqb hE' h1).1 this
  have:=hp.mF k m h4 b hb'
  exact ⟨this.1,this.2.1,this.2.2,hb'⟩
 refine ⟨E2,G,?_⟩
 have hkbR:∀ {x:SC},x.kb c.nr→(renC κ x).kb (s.nx+(c.nr-c.nk)):=fun hx =>
  SC.ren_kb (κ:=κ) (n:=c.nr) (nx:=s.nx) (fun k y h=>(hlk k y (by rw [← el];exact h)).2) (Nat.le_add_right _ _) (fun k hk hn=>by
   rcases Nat.lt_or_ge k c.nk with h | h
   ·obtain ⟨y,hy⟩:=hall k h;rw [el,hy] at hn;cases hn
   ·rw [esh k h];omega) hx
 have hres:denV E' c.res=denV E2 (renV κ c.res):=by
  rw [← denV_ren κ E2 c11]
  exact (denV_eqb hE' (SV.kbb_ok c12)).symm
 have hwf:St.Wf ⟨(d,renV κ c.res)::s.L,ML++s.M,(c.V1.map fun p=>(κ.sh p.1,p.2))++s.V,s.nx+(c.nr-c.nk)⟩:=by
  refine ⟨fun d' v h=>?_,fun j m h=>?_,fun j f h=>?_⟩
  ·rw [look_cons] at h
   split at h
   ·cases h
    have:=SV.kbb_ok c12
    cases hr:c.res with
    | c x=>rw [hr] at this;exact hkbR this
    | a cs=>rw [hr] at this;intro y hy;obtain ⟨x,hx,rfl⟩:=List.mem_map.1 hy;exact hkbR (this x hx)
    | t vs =>
     rw [hr] at this
     intro y hy
     obtain ⟨x,hx,rfl⟩:=List.mem_map.1 hy
     have:=this x hx
     cases x with
     | inl x=>exact hkbR this
     | inr cs=>intro z hz;obtain ⟨q,hq,rfl⟩:=List.mem_map.1 hz;exact hkbR (this q hq)
    | u=>trivial
   ·exact (hs.wf.hL d' v h).mono (Nat.le_add_right _ _)
  ·rw [look_append] at h
   split at h
   ·rename_i m' hm'
    cases h
    obtain ⟨k,m1,h1,h2,rfl⟩:=hlookM j m hm'
    obtain ⟨_,h3,h4,h5,_,_,h6⟩:=hM1 k m1 h1
    have hj:j < s.nx+(c.nr-c.nk):=by
     have:(renC κ (.bp k 0)).kb (s.nx+(c.nr-c.nk)):=hkbR (x:=.bp k 0) h4
     have h':(renC κ (.sl k)).kb (s.nx+(c.nr-c.nk)):=hkbR (x:=.sl k) h4
     cases m1 with
     | box cs t =>
      simp only [keyMc,keyM] at h2
      split at h2
      ·rename_i k' o hr;cases h2;rw [hr] at this;exact this
      ·cases h2
     | own R xs fr =>
      simp only [keyMc,keyM] at h2
      split at h2
      ·rename_i k' hr;cases h2;have e:renC κ (.sl k)=κ.sl k:=rfl;rw [e,hr] at h';exact h'
      ·cases h2
     | av _ =>
      simp only [keyMc,keyM] at h2
      split at h2
      ·rename_i k' hr;cases h2;have e:renC κ (.sl k)=κ.sl k:=rfl;rw [e,hr] at h';exact h'
      ·cases h2
     | buf _ _ =>
      simp only [keyMc,keyM] at h2
      split at h2
      ·rename_i k' hr;cases h2;have e:renC κ (.sl k)=κ.sl k:=rfl;rw [e,hr] at h';exact h'
      ·cases h2
     | abs A =>
      simp only [keyMc,keyM] at h2
      split at h2
      ·rename_i k' hr;cases h2;have e:renC κ (.sl k)=κ.sl k:=rfl;rw [e,hr] at h';exact h'
      ·cases h2
     | gone =>
      simp only [keyMc] at h2
      split at h2
      ·rename_i k' hr;cases h2;have e:renC κ (.sl k)=κ.sl k:=rfl;rw [e,hr] at h';exact h'
      ·cases h2
    refine ⟨hj,?_⟩
    cases m1 with
    | box cs t=>intro y hy;obtain ⟨x,hx,rfl⟩:=List.mem_map.1 hy;exact hkbR (h5 x hx)
    | own R xs fr=>trivial
    | abs A=>trivial
    | av _=>trivial
    | buf _ _=>trivial
    | gone=>trivial
   ·exact ⟨Nat.lt_of_lt_of_le (hs.wf.hM j m h).1 (Nat.le_add_right _ _),(hs.wf.hM j m h).2.mono (Nat.le_add_right _ _)⟩
  ·rw [look_append] at h
   split at h
   ·rename_i f' hf'
    cases h
    obtain ⟨⟨k,f1⟩,h1,e⟩:=List.mem_map.1 (look_mem hf')
    simp only [Prod.mk.injEq] at e
    obtain ⟨e1,rfl⟩:=e
    have:=List.all_eq_true.1 c9 _ h1
    simp only [Bool.and_eq_true] at this
    obtain ⟨⟨h3,h4⟩,h5⟩:=this
    have h3:=Nat.le_of_ble_eq_true h3
    have h4:=blt_lt h4
    rw [esh k h3] at e1
    refine ⟨(show j < s.nx+(c.nr-c.nk) by omega),?_⟩
    cases f1<;>first | trivial | cases h5
   ·exact ⟨Nat.lt_of_lt_of_le (hs.wf.hV j f h).1 (Nat.le_add_right _ _),(hs.wf.hV j f h).2.mono (Nat.le_add_right _ _)⟩
 exact {
  wf:=hwf
  nk:=Nat.le_trans hs.nk (Nat.le_add_right _ _)
  defers:=by rw [put_defers];exact hs.defers
  size:=by rw [put_size];exact hs.size
  hL:=fun d' v h=>by
   rw [getElem?_put (by rw [hs.size];exact hd)]
   rw [look_cons] at h
   split at h
   ·rename_i e;cases h;rw [if_pos e,hres]
   ·rename_i e;rw [if_neg e,denV_eqb hE2 (hs.wf.hL d' v h)];exact hs.hL d' v h
  hV:=fun j f h=>by
   rw [look_append] at h
   split at h
   ·rename_i f' hf'
    cases h
    obtain ⟨⟨k,f1⟩,h1,e⟩:=List.mem_map.1 (look_mem hf')
    simp only [Prod.mk.injEq] at e
    obtain ⟨e1,rfl⟩:=e
    have:=List.all_eq_true.1 c9 _ h1
    simp only [Bool.and_eq_true] at this
    obtain ⟨⟨h3,h4⟩,h5⟩:=this
    have h3:=Nat.le_of_ble_eq_true h3
    have hok:=gV k f1 (nodup_keys (nodupB_ok c10) h1)
    have hρ:E2.ρ j=E'.ρ k:=by
     rw [← e1,esh k h3]
     have h6:¬ s.nx+(k-c.nk) < s.nx:=by omega
     have h7:c.nk+(k-c.nk)=k:=by omega
     simp [E2,h6,h7]
    rw [hρ]
    cases f1<;>first | exact hok | cases h5
   ·have:=((hs.hV j f h).mono hgrow).eqb hE2 (hs.wf.hV j f h).2
    rw [(hE2 j (hs.wf.hV j f h).1).1];exact this
  hM:=fun j m h=>by
   rw [look_append] at h
   split at h
   ·rename_i m' hm'
    cases h
    obtain ⟨k,m1,h1,h2,rfl⟩:=hlookM j m hm'
    obtain ⟨_,_,h4,h5,h6,h7,_⟩:=hM1 k m1 h1
    exact backM_ok h2 h6 ((gM k m1 h7).eqb hE' h4 h5)
   ·rename_i hn
    refine MO.ok.eqb hE2 (hs.wf.hM j m h).1 (hs.wf.hM j m h).2 ((hs.hM j m h).mono hgrow fun b hb=>?_)
    have:=hold j m hn h b hb
    exact hsame b this.1 this.2
  dis:=fun j j' m m' h h' hne b hb=>by
   rw [look_append] at h h'
   split at h
   ·rename_i m1 hm1
    cases h
    obtain ⟨k,n,h1,h2,rfl⟩:=hlookM j m hm1
    have hf:=hnewfp j k n b h1 h2 hb
    split at h'
    ·rename_i m2 hm2
     cases h'
     obtain ⟨k',n',h1',h2',rfl⟩:=hlookM j' m' hm2
     intro hb'
     have hf':=hnewfp j' k' n' b h1' h2' hb'
     obtain ⟨_,_,_,_,_,h7,_⟩:=hM1 k n h1
     obtain ⟨_,_,_,_,_,h7',_⟩:=hM1 k' n' h1'
     have hkk:k≠k':=fun e=>by
      subst e
      rw [h7] at h7'
      cases h7'
      rw [h2] at h2'
      cases h2'
      exact hne rfl
     exact hp.dis k k' n n' h7 h7' hkk b hf.2.2.2 hf'.2.2.2
    ·rename_i hn
     intro hb'
     have hb'':m'.fp E j' b:=(MO.fp_eqb hE2 (hs.wf.hM j' m' h').1).1 hb'
     have:=hold j' m' hn h' b hb''
     rcases hf.2.2.1 with h0 | h0
     ·exact this.2 h0
     ·omega
   ·rename_i hn
    have hb1:m.fp E j b:=(MO.fp_eqb hE2 (hs.wf.hM j m h).1).1 hb
    have ho:=hold j m hn h b hb1
    split at h'
    ·rename_i m2 hm2
     cases h'
     obtain ⟨k',n',h1',h2',rfl⟩:=hlookM j' m' hm2
     intro hb'
     have hf':=hnewfp j' k' n' b h1' h2' hb'
     rcases hf'.2.2.1 with h0 | h0
     ·exact ho.2 h0
     ·omega
    ·intro hb'
     exact hs.dis j j' m m' h h' hne b hb1 ((MO.fp_eqb hE2 (hs.wf.hM j' m' h').1).1 hb')
  mF:=fun j m h b hb=>by
   rw [look_append] at h
   split at h
   ·rename_i m1 hm1
    cases h
    obtain ⟨k,n,h1,h2,rfl⟩:=hlookM j m hm1
    have hf:=hnewfp j k n b h1 h2 hb
    refine ⟨fun hg=>hf.1 (g2 b hg),fun hz=>?_,hf.2.1⟩
    rcases hf.2.2.1 with h0 | h0
    ·exact (hbF b h0).2.1 hz
    ·have:=hs.hZ b hz;have:=hs.ext.size;omega
   ·rename_i hn
    have hb1:m.fp E j b:=(MO.fp_eqb hE2 (hs.wf.hM j m h).1).1 hb
    have ho:=hold j m hn h b hb1
    have hmf:=hs.mF j m h b hb1
    refine ⟨fun hg=>?_,hmf.2.1,Nat.lt_of_lt_of_le ho.1 hp.ext.size⟩
    rcases g1 b hg with h0 | h0
    ·exact hmf.1 h0
    ·omega
  fresh:=fun j m h hfr b hb=>by
   rw [look_append] at h
   split at h
   ·rename_i m1 hm1
    cases h
    obtain ⟨k,n,h1,h2,rfl⟩:=hlookM j m hm1
    have hf:=hnewfp j k n b h1 h2 hb
    obtain ⟨_,_,h4,_,_,h7,h8⟩:=hM1 k n h1
    have hsz:=hs.ext.size
    rcases Nat.lt_or_ge k c.nk with hk | hk
    ·cases n with
     | own R xs fr =>
      have hj:κ.sl k=.sl j:=by
       simp only [keyMc,keyM] at h2
       split at h2
       ·rename_i hr;cases h2;exact hr
       ·cases h2
      have hfr':flagOf s j=true:=by
       have e:(backM s κ (allFr s κ c) c.nk k (.own R xs fr)).isFresh=flagOf s j:=by
        have hb:Nat.blt k c.nk=true:=by unfold Nat.blt;exact Nat.ble_eq_true_of_le hk
        simp only [backM,MO.isFresh,hb,cond_true,hj]
       rw [e] at hfr;exact hfr
      unfold flagOf at hfr'
      split at hfr'
      ·rename_i R0 xs0 fr0 hl0
       have hjn:j < s.nx:=(hs.wf.hM j _ hl0).1
       refine hs.fresh j _ hl0 hfr' b ?_
       show blockOf (E.ρ j)=some b
       have:blockOf (E2.ρ j)=some b:=hb
       rw [(hE2 j hjn).1] at this
       exact this
      ·cases hfr'
     | box _ _=>cases hfr
     | abs _=>cases hfr
     | av _=>cases hfr
     | buf _ _=>cases hfr
     | gone=>cases hfr
    ·cases n with
     | own R xs fr =>
      have hb:Nat.blt k c.nk=false:=by
       cases hb:Nat.blt k c.nk with
       | false=>rfl
       | true=>exact absurd (blt_lt hb) (Nat.not_lt.2 hk)
      have e:(backM s κ (allFr s κ c) c.nk k (.own R xs fr)).isFresh=(fr || allFr s κ c):=by simp only [backM,MO.isFresh,hb,cond_false]
      rw [e,Bool.or_eq_true] at hfr
      have hn0:=hs.hn0
      rcases hfr with hfr' | hfr'
      ·have:=hp.fresh k _ h7 hfr' b hf.2.2.2
       omega
      ·rcases hf.2.2.1 with h0 | h0
       ·obtain ⟨k0,m0,hm0,hb0⟩:=h0
        have ha:=List.all_eq_true.1 hfr' _ (look_mem hm0)
        obtain ⟨k',m',g1',g2',g3'⟩:=hin k0 m0 b hm0 hb0
        cases m0 with
        | own R0 xs0 fr0 =>
         simp only [keyM] at g1'
         split at g1'
         ·rename_i j0 hr0
          simp only [Option.some.injEq] at g1'
          subst g1'
          simp only [hr0] at ha
          unfold flagOf at ha
          rw [g2'] at ha
          cases m' with
          | own R1 xs1 fr1=>exact hs.fresh _ _ g2' ha b g3'
          | box _ _=>cases ha
          | abs _=>cases ha
          | av _=>cases ha
          | buf _ _=>cases ha
          | gone=>cases ha
         ·cases g1'
        | box cs0 t0 =>
         exfalso
         simp only [] at ha
         split at ha
         ·rename_i cs1 t1 hm1
          have hk0:=blt_lt ha
          have hb0:b=(κ.env E).β k0:=hb0
          exact hp.dis k k0 _ _ h7 hm1 (fun e=>by omega) b hf.2.2.2 (hb0.trans (hp.env k0 hk0).2.symm)
         ·cases ha
        | abs _=>cases ha
        | av A0 =>
         exfalso
         simp only [] at ha
         split at ha
         ·rename_i A1 hm1
          have hk0:=blt_lt ha
          have hb0:blockOf ((κ.env E).ρ k0)=some b:=hb0
          exact hp.dis k k0 _ _ h7 hm1 (fun e=>by omega) b hf.2.2.2 (by show blockOf (E'.ρ k0)=some b;rw [(hp.env k0 hk0).1];exact hb0)
         ·cases ha
        | buf _ _=>cases ha
        | gone=>cases ha
       ·omega
     | box _ _=>cases hfr
     | abs _=>cases hfr
     | av _=>cases hfr
     | buf _ _=>cases hfr
     | gone=>cases hfr
   ·exact hs.fresh j m h hfr b ((MO.fp_eqb hE2 (hs.wf.hM j m h).1).1 hb)
  hF:=fun b hb=>hp.Fs b (g2 b hb)
  hF0:=fun b hb=>g0 b (hs.hF0 b hb)
  hF1:=fun b hb=>by
   rcases g1 b hb with h | h
   ·exact hs.hF1 b h
   ·have h1:=hs.ext.size;have h2:=hs.hn0;exact .inr ⟨by omega,fun hz=>by have:=hs.hZ b hz;omega⟩
  hn0:=hs.hn0
  hZ:=hs.hZ
  ext:=hs.ext.trans ⟨hp.ext.os,hp.ext.tape,hp.ext.output,hp.ext.size,fun b hz=>hsame b (Nat.lt_of_lt_of_le (hs.hZ b hz) hs.ext.size) fun h0=>(hbF b h0).2.1 hz⟩
  link:=hs.link.trans (hE2.mono hs.nk)
  one:=hone2 }
theorem callFunc_run {P:Program} {f:FuncId} (h:Callable P f) (args:Array Value) (w:World):(callFunc f args).run P w=.ok (.enter f args) w:=by
 obtain ⟨fn,h1,h2,h3⟩:=h
 simp only [callFunc,Sem.run_bind,run_program,Result.andThen_ok,h1,h2,h3,Bool.false_eq_true,if_false,Sem.run_pure]
theorem WPr.call {ops:Array Oper} {todo:Act→World→Prop} {i:Nat} {rest:List Nat} {o:Oper} {f:FuncId} {args:Array Operand} {ts:Array TypeId} {c:Ct} {d:Nat}
  (ct:Fn X.P f c) (l:List (Nat × SC)) (bor:List Nat) (ho:ops[i]? = some o) (hg:guardV ops s.L o=some true)
  (hop:o.op=.call { callee:=.value (.func f),args:=args,argTypes:=ts }) (hd:o.dst=some d) (hdn:Nat.blt d X.fn.ntmps=true)
  (hargs:evalL s.L args.toList=some (c.args.map (renV ⟨l,c.nk,s.nx⟩)))
  (hV:c.V0.map (fun p=>findVb s ⟨l,c.nk,s.nx⟩ bor p.1 p.2)=c.V0.map (fun p=>some p.2))
  (hM:c.M0.map (fun p=>findM s ⟨l,c.nk,s.nx⟩ p.1 p.2)=c.M0.map (fun p=>some (renM ⟨l,c.nk,s.nx⟩ p.2)))
  (hflat:bor=[]∨(c.V1=[]∧FlatM c.M1)) (hc:callB s c l bor=true) (k:WPr X ops rest todo (callS s c l d)):WPr X ops (i::rest) todo s:=by
 refine WPr.op ho hg (fun E F w a hs=>?_) k
 obtain ⟨hpre,hpost⟩:=called hs (d:=d) (blt_lt hdn) hV hM hflat hc
 have hall:c.args.all (okV ⟨l,c.nk,s.nx⟩)=true:=by simp only [callB,Bool.and_eq_true] at hc;exact hc.2
 have hev:=(evalL_ok hs hargs).1
 have hargv:args.map a.eval=(c.args.map (denV ((⟨l,c.nk,s.nx⟩:Ren).env E))).toArray:=by
  apply Array.ext'
  rw [Array.toList_map,hev,List.map_map]
  exact List.map_congr_left fun v hv=>(denV_ren _ E (List.all_eq_true.1 hall v hv)).symm
 have hrun:(execOp a.eval o).run X.P w=.ok (.enter f (args.map a.eval)) w:=by
  unfold execOp
  simp only [hop,resolve,Deferred.ofValue,Act.eval,invoke,Sem.run_bind,Sem.run_pure,Result.andThen_ok]
  have:=callFunc_run ct.callable (#[]++args.map a.eval++#[]) w
  simpa using this
 unfold Oper.wp
 rw [hrun]
 show Calls _ _ _ _ _
 rw [hargv]
 refine (ct.calls _ _ _ hpre).mono ?_
 rintro e w' ⟨E',F',rfl,hp⟩
 obtain ⟨E2,G,hs'⟩:=hpost E' F' w' hp
 show ∃ E' F',Sat X _ E' F' w' _
 rw [hd]
 exact ⟨E2,G,hs'⟩
def boxA (ks:List Nat):List SV:=ks.map fun k=>.c (.bp k 0)
theorem WPr.callc {ops:Array Oper} {todo:Act→World→Prop} {i:Nat} {rest:List Nat} {o:Oper} {f:FuncId} {fs ks:List Nat} {cal:Operand} {args:Array Operand} {ts:Array TypeId} {c:Ct} {d:Nat}
  (ct:Fn X.P f c) (l:List (Nat × SC)) (bor:List Nat) (ho:ops[i]? = some o) (hg:guardV ops s.L o=some true)
  (hop:o.op=.call { callee:=.value cal,args:=args,argTypes:=ts }) (hd:o.dst=some d) (hdn:Nat.blt d X.fn.ntmps=true) (hcal:evalO s.L cal=some (.c (.cl f fs ks)))
  (hargs:(evalL s.L args.toList).map (fun vs=>boxA fs++vs++boxA ks)=some (c.args.map (renV ⟨l,c.nk,s.nx⟩)))
  (hV:c.V0.map (fun p=>findVb s ⟨l,c.nk,s.nx⟩ bor p.1 p.2)=c.V0.map (fun p=>some p.2))
  (hM:c.M0.map (fun p=>findM s ⟨l,c.nk,s.nx⟩ p.1 p.2)=c.M0.map (fun p=>some (renM ⟨l,c.nk,s.nx⟩ p.2)))
  (hflat:bor=[]∨(c.V1=[]∧FlatM c.M1)) (hc:callB s c l bor=true) (k:WPr X ops rest todo (callS s c l d)):WPr X ops (i::rest) todo s:=by
 refine WPr.op ho hg (fun E F w a hs=>?_) k
 obtain ⟨hpre,hpost⟩:=called hs (d:=d) (blt_lt hdn) hV hM hflat hc
 have hall:c.args.all (okV ⟨l,c.nk,s.nx⟩)=true:=by simp only [callB,Bool.and_eq_true] at hc;exact hc.2
 cases hvs:evalL s.L args.toList with
 | none=>rw [hvs] at hargs;cases hargs
 | some vs =>
  rw [hvs] at hargs
  simp only [Option.map_some,Option.some.injEq] at hargs
  have hev:=(evalL_ok hs hvs).1
  obtain ⟨hcv,_⟩:=hs.eval hcal
  have hbox:∀ ks:List Nat,(boxA ks).map (denV E)=(denB E ks).toList:=fun ks=>by simp [boxA,denB,denV,den,Function.comp_def]
  have hargv:denB E fs++args.map a.eval++denB E ks=(c.args.map (denV ((⟨l,c.nk,s.nx⟩:Ren).env E))).toArray:=by
   apply Array.ext'
   rw [Array.toList_append,Array.toList_append,Array.toList_map,hev,← hbox,← hbox,← List.map_append,← List.map_append,hargs,List.map_map]
   exact List.map_congr_left fun v hv=>(denV_ren _ E (List.all_eq_true.1 hall v hv)).symm
  have hrun:(execOp a.eval o).run X.P w=.ok (.enter f (denB E fs++args.map a.eval++denB E ks)) w:=by
   unfold execOp
   simp only [hop,resolve,hcv,denV,den,Deferred.ofValue,invoke,Sem.run_bind,Sem.run_pure,Result.andThen_ok]
   exact callFunc_run ct.callable _ w
  unfold Oper.wp
  rw [hrun]
  show Calls _ _ _ _ _
  rw [hargv]
  refine (ct.calls _ _ _ hpre).mono ?_
  rintro e w' ⟨E',F',rfl,hp⟩
  obtain ⟨E2,G,hs'⟩:=hpost E' F' w' hp
  show ∃ E' F',Sat X _ E' F' w' _
  rw [hd]
  exact ⟨E2,G,hs'⟩
end
end Go.Kx
end
section
namespace Go.Kx
variable [LxP]
def rI (k:IntKind):TRep Int where
 sz:=1
 pos:=Nat.one_pos
 rep _ _ n vs:=vs=[.int k n]
 len h:=by rw [h];rfl
 mono _ h:=h
 one h:=by rw [h];intro v hv;rw [List.mem_singleton.1 hv];rfl
def rB:TRep Bool where
 sz:=1
 pos:=Nat.one_pos
 rep _ _ b vs:=vs=[.bool b]
 len h:=by rw [h];rfl
 mono _ h:=h
 one h:=by rw [h];intro v hv;rw [List.mem_singleton.1 hv];rfl
def rS:TRep ByteArray where
 sz:=1
 pos:=Nat.one_pos
 rep _ _ b vs:=vs=[.string b]
 len h:=by rw [h];rfl
 mono _ h:=h
 one h:=by rw [h];intro v hv;rw [List.mem_singleton.1 hv];rfl
theorem SlR_one {α:Type} {R:TRep α} {F w} {xs:List α} {v:Value} (h:SlR R F w xs v):v.oneCell'=true:=by
 rcases h with ⟨_,_,_,rfl⟩ | ⟨_,_,_,_,_,_,rfl,_⟩<;>rfl
def rSl {α:Type} (R:TRep α):TRep (List α) where
 sz:=1
 pos:=Nat.one_pos
 rep F w xs vs:=∃ v,vs=[v]∧SlR R F w xs v
 len h:=by obtain ⟨v,h,_⟩:=h;rw [h];rfl
 mono g h:=let ⟨v,e,hs⟩:=h;⟨v,e,hs.mono g⟩
 one h:=by obtain ⟨v,e,hs⟩:=h;rw [e];intro u hu;rw [List.mem_singleton.1 hu];exact SlR_one hs
def rP {α β:Type} (R1:TRep α) (R2:TRep β):TRep (α × β) where
 sz:=R1.sz+R2.sz
 pos:=Nat.add_pos_left R1.pos _
 rep F w x vs:=∃ us ws,vs=us++ws∧R1.rep F w x.1 us∧R2.rep F w x.2 ws
 len h:=by obtain ⟨us,ws,rfl,h1,h2⟩:=h;rw [List.length_append,R1.len h1,R2.len h2]
 mono g h:=let ⟨us,ws,e,h1,h2⟩:=h;⟨us,ws,e,R1.mono g h1,R2.mono g h2⟩
 one h:=by
  obtain ⟨us,ws,rfl,h1,h2⟩:=h
  intro v hv
  rcases List.mem_append.1 hv with hv | hv
  ·exact R1.one h1 v hv
  ·exact R2.one h2 v hv
def rM {α β:Type} (f:α→β) (R:TRep β):TRep α where
 sz:=R.sz
 pos:=R.pos
 rep F w x vs:=R.rep F w (f x) vs
 len h:=R.len h
 mono g h:=R.mono g h
 one h:=R.one h
theorem rS_flat:rS.Flat:=fun _ _ _ _ _ _ h=>h
structure Opn {α:Type} (R:TRep α) where
 nk:Nat
 cells:Nat→α→List SC
 facts:Nat→α→List (Nat × VF)
 ok:∀ {F w x vs},R.rep F w x vs→∀ (k:Nat) (E:Env),(∀ j,(E.ρ j).oneCell'=true)→∃ E',E.Eqb k E'∧(∀ j,E'.β j=E.β j)∧(∀ j,k+nk≤j→E'.ρ j=E.ρ j)∧(∀ j,(E'.ρ j).oneCell'=true)∧vs=(cells k x).map (den E') ∧
  (∀ p∈facts k x,k≤p.1∧p.1 < k+nk∧p.2.plain=true∧p.2.ok E' F w (E'.ρ p.1))∧∀ c∈cells k x,SC.kb (k+nk) c
 chk:(Nat→Option VF)→α→List SC→Prop
 cok:∀ {V:Nat→Option VF} {x cs},chk V x cs→∀ (E:Env) F w,(∀ k f,V k=some f→f.ok E F w (E.ρ k))→R.rep F w x (cs.map (den E))
 T:Type 1
 lq:(Nat→Option VF)→α→List SC→T
 rq:(Nat→Option VF)→α→List SC→T
 eqn:∀ {V x cs},lq V x cs=rq V x cs→chk V x cs
def oI (k:IntKind):Opn (rI k) where
 nk:=0
 cells _ n:=[.i k n]
 facts _ _:=[]
 ok h j E ho:=⟨E,Env.Eqb.refl _ _,fun _=>rfl,fun _ _=>rfl,ho,h,by simp,by simp [SC.kb]⟩
 chk _ n cs:=cs=[.i k n]
 cok h E F w _:=by rw [h];rfl
 T:=ULift.{1,0} (List SC)
 lq _ _ cs:=⟨cs⟩
 rq _ n _:=⟨[.i k n]⟩
 eqn h:=congrArg ULift.down h
def oB:Opn rB where
 nk:=0
 cells _ n:=[.b n]
 facts _ _:=[]
 ok h j E ho:=⟨E,Env.Eqb.refl _ _,fun _=>rfl,fun _ _=>rfl,ho,h,by simp,by simp [SC.kb]⟩
 chk _ n cs:=cs=[.b n]
 cok h E F w _:=by rw [h];rfl
 T:=ULift.{1,0} (List SC)
 lq _ _ cs:=⟨cs⟩
 rq _ n _:=⟨[.b n]⟩
 eqn h:=congrArg ULift.down h
def oS:Opn rS where
 nk:=0
 cells _ n:=[.s n]
 facts _ _:=[]
 ok h j E ho:=⟨E,Env.Eqb.refl _ _,fun _=>rfl,fun _ _=>rfl,ho,h,by simp,by simp [SC.kb]⟩
 chk _ n cs:=cs=[.s n]
 cok h E F w _:=by rw [h];rfl
 T:=ULift.{1,0} (List SC)
 lq _ _ cs:=⟨cs⟩
 rq _ n _:=⟨[.s n]⟩
 eqn h:=congrArg ULift.down h
def chkSl {α:Type} (R:TRep α) (V:Nat→Option VF) (xs:List α):List SC→Prop
 | [.sl k]=>V k=some (.sl R xs)
 | [.nil]=>xs=[]
 | _=>False
def slL {α:Type} (V:Nat→Option VF) (xs:List α):List SC→Option VF × ULift.{1,0} (Bool × List α)
 | [.sl k]=>(V k,⟨(true,[])⟩)
 | [.nil]=>(none,⟨(true,xs)⟩)
 | _=>(none,⟨(false,[])⟩)
def slQ {α:Type} (R:TRep α) (xs:List α):List SC→Option VF × ULift.{1,0} (Bool × List α)
 | [.sl _]=>(some (.sl R xs),⟨(true,[])⟩)
 | _=>(none,⟨(true,[])⟩)
theorem slL_ok {α:Type} {R:TRep α} {V:Nat→Option VF} {xs:List α} {cs:List SC} (h:slL V xs cs=slQ R xs cs):chkSl R V xs cs:=by
 unfold slL at h
 split at h
 ·exact (Prod.mk.inj h).1
 ·have:=congrArg ULift.down (Prod.mk.inj h).2
  exact (Prod.mk.inj this).2
 ·rename_i h1 h2
  unfold slQ at h
  split at h
  ·exact (h1 _ rfl).elim
  ·have:=congrArg ULift.down (Prod.mk.inj h).2
   cases this
def oSl {α:Type} (R:TRep α):Opn (rSl R) where
 nk:=1
 cells k _:=[.sl k]
 facts k xs:=[(k,.sl R xs)]
 ok h k E ho:=by
  obtain ⟨v,e,hs⟩:=h
  refine ⟨E.setρ k v,E.eqb_setρ _ _ _ (Nat.le_refl _),fun _=>rfl,fun j hj=>?_,fun j=>?_,?_,?_,?_⟩
  ·have:¬ j=k:=by omega
   simp [Env.setρ,this]
  ·simp only [Env.setρ];split
   ·exact SlR_one hs
   ·exact ho j
  ·rw [e];simp [den,Env.setρ]
  ·intro p hp
   rw [List.mem_singleton.1 hp]
   exact ⟨Nat.le_refl _,Nat.lt_succ_self _,rfl,by simpa [Env.setρ,VF.ok] using hs⟩
  ·intro c hc
   rw [List.mem_singleton.1 hc]
   exact Nat.lt_succ_self _
 chk V xs cs:=chkSl R V xs cs
 cok h E F w hV:=by
  unfold chkSl at h
  split at h
  ·rename_i k
   exact ⟨E.ρ k,rfl,hV k _ h⟩
  ·subst h;exact ⟨_,rfl,.inl ⟨rfl,_,_,rfl⟩⟩
  ·exact h.elim
 T:=Option VF × ULift.{1,0} (Bool × List α)
 lq V xs cs:=slL V xs cs
 rq _ xs cs:=slQ R xs cs
 eqn h:=slL_ok h
def oP {α β:Type} {R1:TRep α} {R2:TRep β} (o1:Opn R1) (o2:Opn R2):Opn (rP R1 R2) where
 nk:=o1.nk+o2.nk
 cells k x:=o1.cells k x.1++o2.cells (k+o1.nk) x.2
 facts k x:=o1.facts k x.1++o2.facts (k+o1.nk) x.2
 ok h k E ho:=by
  obtain ⟨us,ws,rfl,h1,h2⟩:=h
  obtain ⟨E1,a1,a0,a2,a3,a4,a5,a6⟩:=o1.ok h1 k E ho
  obtain ⟨E2,b1,b0,b2,b3,b4,b5,b6⟩:=o2.ok h2 (k+o1.nk) E1 a3
  refine ⟨E2,a1.trans (b1.mono (Nat.le_add_right _ _)),fun j=>(b0 j).trans (a0 j),fun j hj=>(b2 j (by omega)).trans (a2 j (by omega)),b3,?_,?_,?_⟩
  ·rw [List.map_append,a4,b4,den_map_eqb b1 a6]
  ·intro p hp
   rcases List.mem_append.1 hp with hp | hp
   ·obtain ⟨c1,c2,c3,c4⟩:=a5 p hp
    refine ⟨c1,by omega,c3,?_⟩
    rw [(b1 p.1 c2).1]
    revert c3 c4
    cases p.2<;>intro c3 c4<;>first | exact c4 | cases c3
   ·obtain ⟨c1,c2,c3,c4⟩:=b5 p hp
    exact ⟨by omega,by omega,c3,c4⟩
  ·intro c hc
   rcases List.mem_append.1 hc with hc | hc
   ·exact (a6 c hc).mono (by omega)
   ·exact (b6 c hc).mono (by omega)
 chk V x cs:=o1.chk V x.1 (cs.take R1.sz)∧o2.chk V x.2 (cs.drop R1.sz)
 cok {V x cs} h E F w hV:=by
  have h1:=o1.cok h.1 E F w hV
  have h2:=o2.cok h.2 E F w hV
  exact ⟨_,_,by rw [← List.map_append,List.take_append_drop],h1,h2⟩
 T:=o1.T × o2.T
 lq V x cs:=(o1.lq V x.1 (cs.take R1.sz),o2.lq V x.2 (cs.drop R1.sz))
 rq V x cs:=(o1.rq V x.1 (cs.take R1.sz),o2.rq V x.2 (cs.drop R1.sz))
 eqn h:=⟨o1.eqn (Prod.mk.inj h).1,o2.eqn (Prod.mk.inj h).2⟩
def oM {α β:Type} {R:TRep β} (f:α→β) (o:Opn R):Opn (rM f R) where
 nk:=o.nk
 cells k x:=o.cells k (f x)
 facts k x:=o.facts k (f x)
 ok h k E ho:=o.ok h k E ho
 chk V x cs:=o.chk V (f x) cs
 cok h E F w hV:=o.cok h E F w hV
 T:=o.T
 lq V x cs:=o.lq V (f x) cs
 rq V x cs:=o.rq V (f x) cs
 eqn h:=o.eqn h
def idx {α:Type} (xs:List α) (n:Int):Option α:=bif decide (0≤n) then xs[n.toNat]? else none
theorem idx_ok {α:Type} {xs:List α} {n:Int} {x:α} (h:idx xs n=some x):0≤n∧n < (xs.length:Int)∧xs[n.toNat]? = some x:=by
 unfold idx at h
 cases hd:decide (0≤n) with
 | false=>rw [hd] at h;cases h
 | true =>
  rw [hd] at h
  have h0:=of_decide_eq_true hd
  have:=(List.getElem?_eq_some_iff.1 h).1
  exact ⟨h0,by omega,h⟩
theorem Sat.addF {X:Ctx} {s:St} {E:Env} {F:FSet} {w:World} {a:Act} (hs:Sat X s E F w a) {fs:List (Nat × VF)} {n:Nat}
  (h:∀ p∈fs,s.nx≤p.1∧p.1 < s.nx+n∧p.2.plain=true∧p.2.ok E F w (E.ρ p.1)):Sat X ⟨s.L,s.M,fs++s.V,s.nx+n⟩ E F w a:=by
 have hn:=hs.nxt (n:=s.nx+n) (Nat.le_add_right _ _)
 exact { hn with
  wf:=⟨hn.wf.hL,hn.wf.hM,fun k f hl=>by
   simp only [look_append] at hl
   split at hl
   ·rename_i f' hf
    cases hl
    obtain ⟨_,h2,h3,_⟩:=h _ (look_mem hf)
    refine ⟨h2,?_⟩
    cases f<;>first | trivial | cases h3
   ·exact hn.wf.hV k f hl⟩
  hV:=fun k f hl=>by
   simp only [look_append] at hl
   split at hl
   ·rename_i f' hf
    cases hl
    exact (h _ (look_mem hf)).2.2.2
   ·exact hs.hV k f hl }
section
variable {X:Ctx} {s:St} {tt:List (Nat × TD)} {ops:Array Oper} {todo:Act→World→Prop}
theorem TD.Ok.sliceOf {P:Program} {t:TypeId} {d:TD} (h:TD.Ok P t d) (hk:Nat.beq d.kd 6=true):∃ e,P.underlying t=some (.slice e)∧∀ w,(sizeOf e).run P w=.ok d.es w:=by
 obtain ⟨i,hu,hi,hs,_⟩:=h.slc hk
 exact ⟨_,hu,fun w=>by simp [sizeOf,typeInfo,hi,hs]⟩
theorem run_indexAt_ok {P:Program} {t e:TypeId} (w:World) {b off len cap es:Nat} {k:IntKind} {n:Int} (hu:P.underlying t=some (.slice e)) (hz:(sizeOf e).run P w=.ok es w) (h0:0≤n) (h1:n < len) :
  (Instr.indexAt t (.slice (some ⟨b,off,none⟩) len cap) (.int k n)).run P w=.ok (.pointer (some ⟨b,off+n.toNat * es,none⟩)) w:=by
 simp only [Instr.indexAt,asIntOf,Sem.run_bind,Sem.run_pure,Result.andThen_ok,run_underlying' hu]
 rw [if_pos ⟨h0,h1⟩]
 simp only [Sem.run_bind,hz,Result.andThen_ok,Sem.run_pure,addr_add]
theorem WPr.ix {α:Type} {R:TRep α} (O:Opn R) (htt:TTOk X.P tt) {i:Nat} {rest:List Nat} {o:Oper} {t:TypeId} {td:TD} {x iO:Operand} {d k:Nat} {ik:IntKind} {n:Int} {xs:List α} {e:α}
  (hi:idx xs n=some e) (ho:ops[i]? = some o) (hg:guardV ops s.L o=some true) (hop:o.op=.indexAddr t x iO) (hd:o.dst=some d)
  (hx:evalO s.L x=some (.c (.sl k))) (hV:look s.V k=some (.sl R xs)) (hn:evalO s.L iO=some (.c (.i ik n))) (ht:look tt t=some td)
  (hc:(Nat.blt d X.fn.ntmps && Nat.beq td.kd 6 && Nat.beq td.es R.sz)=true)
  (k:WPr X ops rest todo ⟨(d,.c (.px s.nx 0))::s.L,s.M,O.facts (s.nx+1) e++(s.nx,.pl (O.cells (s.nx+1) e))::s.V,s.nx+1+O.nk⟩):WPr X ops (i::rest) todo s:=by
 refine WPr.op ho hg (fun E F w a hs=>?_) k
 rename_i k0
 simp only [Bool.and_eq_true] at hc
 obtain ⟨⟨c1,c2⟩,c3⟩:=hc
 have c3:=Nat.eq_of_beq_eq_true c3
 obtain ⟨h0,h1,hxs⟩:=idx_ok hi
 obtain ⟨el,hu,hz⟩:=(htt.get ht).sliceOf c2
 have hsl:SlR R F w xs (E.ρ k0):=hs.hV k0 _ hV
 rcases hsl with ⟨rfl,_⟩ | ⟨b,off,cap,arr,ty,fz,hv,hcap,hF,hh,hr⟩
 ·simp at hxs
 obtain ⟨vs,hrep,hvs⟩:=hr n.toNat e hxs
 obtain ⟨e1,e2⟩:=hs.eval hx
 obtain ⟨e3,_⟩:=hs.eval hn
 have hrun:(execOp a.eval o).run X.P w=.ok (.value (.pointer (some ⟨b,off+n.toNat * R.sz,none⟩))) w:=by
  simp only [execOp,hop,e1,e3,denV,den,hv]
  refine exec_v ?_
  rw [← c3]
  exact run_indexAt_ok w hu (hz w) h0 h1
 refine wp_value hrun ?_
 -- the environment: the place, then the element's slices
 have hE1:E.Eqb s.nx (E.setρ s.nx (.pointer (some ⟨b,off+n.toNat * R.sz,none⟩))):=E.eqb_setρ _ _ _ (Nat.le_refl _)
 have ho1:∀ j,((E.setρ s.nx (.pointer (some ⟨b,off+n.toNat * R.sz,none⟩))).ρ j).oneCell'=true:=fun j=>by
  simp only [Env.setρ];split
  ·rfl
  ·exact hs.one j
 obtain ⟨E2,a1,_,_,a3,a4,a5,a6⟩:=O.ok hrep (s.nx+1) _ ho1
 have hE2:E.Eqb s.nx E2:=hE1.trans (a1.mono (Nat.le_succ _))
 have hρ:E2.ρ s.nx=.pointer (some ⟨b,off+n.toNat * R.sz,none⟩):=by
  rw [(a1 s.nx (Nat.lt_succ_self _)).1];simp [Env.setρ]
 have s1:=hs.env hE2 a3
 -- facts first, then the place
 have s2:Sat X ⟨s.L,s.M,O.facts (s.nx+1) e++(s.nx,.pl (O.cells (s.nx+1) e))::s.V,s.nx+1+O.nk⟩ E2 F w a:=by
  have hb:=s1.nxt (n:=s.nx+1+O.nk) (by omega)
  have hpl:(VF.pl (O.cells (s.nx+1) e)).ok E2 F w (E2.ρ s.nx):=by
   refine ⟨b,off+n.toNat * R.sz,arr,ty,fz,hρ,hF,hh,fun j c hj=>?_⟩
   refine hvs j _ ?_
   rw [a4,List.getElem?_map,hj];rfl
  exact { hb with
   wf:=⟨hb.wf.hL,hb.wf.hM,fun q f hl=>by
    simp only [look_append] at hl
    split at hl
    ·rename_i f' hf
     cases hl
     obtain ⟨_,h2,h3,_⟩:=a5 _ (look_mem hf)
     refine ⟨h2,?_⟩
     cases f<;>first | trivial | cases h3
    ·rw [look_cons] at hl
     split at hl
     ·rename_i eq;cases hl;subst eq
      exact ⟨(show s.nx < s.nx+1+O.nk by omega),a6⟩
     ·exact hb.wf.hV q f hl⟩
   hV:=fun q f hl=>by
    simp only [look_append] at hl
    split at hl
    ·rename_i f' hf
     cases hl
     exact (a5 _ (look_mem hf)).2.2.2
    ·rw [look_cons] at hl
     split at hl
     ·rename_i eq;cases hl;subst eq;exact hpl
     ·exact s1.hV q f hl }
 refine ⟨E2,F,?_⟩
 have s3:=s2.setL (d:=d) (v:=.c (.px s.nx 0)) (show s.nx < s.nx+1+O.nk by omega) (blt_lt c1)
 simp only [denV,den,hρ,addP,Nat.add_zero] at s3
 rw [hd]
 exact s3
end
section
variable {X:Ctx} {s:St} {ρ:Type}
theorem WP.cut {σ:Type} {x:Item} {k:List Item} (J:σ→St) (Q:σ→Prop) (hk:∀ st,Q st→WP X k (J st)) (h:(∀ st,Q st→WP X k (J st))→WP X (x::k) s):WP X (x::k) s:=h hk
theorem ob {α β:Type} {x:Option α} {f:α→Option β} {r:β} (h:x.bind f=some r):∃ a,x=some a∧f a=some r:=Option.bind_eq_some_iff.1 h
theorem oc {α:Type} {c:Bool} {x y:Option α} {r:α} (h:(bif c then x else y)=some r):(c=true∧x=some r)∨(c=false∧y=some r):=by
 cases c
 ·exact .inr ⟨rfl,h⟩
 ·exact .inl ⟨rfl,h⟩
theorem WPr.kb {ops:Array Oper} {idx:List Nat} {todo:Act→World→Prop} {c b:Bool} (d:Nat) (hc:c=b) (hd:look s.L d=some (.c (.b c))) (h:WPr X ops idx todo ⟨(d,.c (.b b))::s.L,s.M,s.V,s.nx⟩) :
  WPr X ops idx todo s:=fun E F w a hs=>h E F w a { hs with
   wf:=⟨fun j v hl=>by
    simp only [look_cons] at hl
    split at hl
    ·cases hl;trivial
    ·exact hs.wf.hL j v hl,hs.wf.hM,hs.wf.hV⟩
   hL:=fun j v hl=>by
    simp only [look_cons] at hl
    split at hl
    ·rename_i e;cases hl;subst e;subst hc;exact hs.hL d _ hd
    ·exact hs.hL j v hl }
end
end Go.Kx
end
section
namespace Go.Kx
variable [LxP]
section
variable {X:Ctx} {s:St} {ops:Array Oper} {todo:Act→World→Prop}
theorem WPr.eqa {i:Nat} {rest:List Nat} {o:Oper} {t yt:TypeId} {x y:Operand} {d:Nat} {cs cs':List SC} {b:Bool} {neg:Bool}
  (hq:∀ E w,(Op.equal t (.agg (cs.map (den E)).toArray) (.agg (cs'.map (den E)).toArray)).run X.P w=.ok b w) (hgt:X.P.eqGuardType X.P.depth t=false)
  (ho:ops[i]? = some o) (hg:guardV ops s.L o=some true) (hop:o.op=.binOp (bif neg then .neq else .eql) t x y yt) (hd:o.dst=some d)
  (hx:evalO s.L x=some (.a cs)) (hy:evalO s.L y=some (.a cs')) (hn:Nat.blt d X.fn.ntmps=true)
  (k:WPr X ops rest todo ⟨(d,.c (.b (bif neg then !b else b)))::s.L,s.M,s.V,s.nx⟩):WPr X ops (i::rest) todo s:=by
 refine WPr.op ho hg (fun E F w a hs=>?_) k
 obtain ⟨e1,_⟩:=hs.eval hx
 obtain ⟨e2,_⟩:=hs.eval hy
 have hrun:(execOp a.eval o).run X.P w=.ok (.value (.bool (bif neg then !b else b))) w:=by
  simp only [execOp,hop,e1,e2,denV]
  refine exec_v ?_
  have hgu:∀ op,(eqGuard op t x y (.agg (cs.map (den E)).toArray) (.agg (cs'.map (den E)).toArray)).run X.P w=.ok () w:=by
   intro op
   unfold eqGuard
   cases op<;>simp [hgt]
  cases neg with
  | false =>
   simp only [cond_false,Sem.run_bind,hgu,Result.andThen_ok]
   show (do pure (Value.bool (← Op.equal t _ _)):Sem Value).run X.P w=_
   simp only [Sem.run_bind,hq E w,Result.andThen_ok,Sem.run_pure]
  | true =>
   simp only [cond_true,Sem.run_bind,hgu,Result.andThen_ok]
   show (do pure (Value.bool (!(← Op.equal t _ _))):Sem Value).run X.P w=_
   simp only [Sem.run_bind,hq E w,Result.andThen_ok,Sem.run_pure]
 refine wp_value hrun ⟨E,F,?_⟩
 rw [hd]
 exact hs.setL (v:=.c (.b (bif neg then !b else b))) trivial (blt_lt hn)
end
end Go.Kx
end
