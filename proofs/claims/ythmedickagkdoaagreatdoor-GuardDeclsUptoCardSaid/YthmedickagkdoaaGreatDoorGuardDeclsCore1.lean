/- Aids for the walks, part 1: a symbolic state of the machine, and that each step of the machine keeps it. -/
import Derived.Calls
import Derived.Laws.Sem
import Derived.Laws.Cells
import Derived.Laws.Rows
set_option linter.all false
namespace Go.Kx
theorem Za {α : Type} {l : List α} {i : Nat} (h : i < l.length) : l[i]? = some l[i] := List.getElem?_eq_getElem h
theorem Zb {α : Type _} {l : List α} {i : Nat} {a : α} (h : l[i]? = some a) : a ∈ l := List.mem_of_getElem? h
theorem Zc (a b : Bool) : ((a && b) = true) = (a = true /\ b = true) := Bool.and_eq_true a b
theorem Zd {a b : Nat} (h : Nat.beq a b = true) : a = b := Nat.eq_of_beq_eq_true h
theorem Ze {a b : Nat} (h : Nat.ble a b = true) : a <= b := Nat.le_of_ble_eq_true h
theorem Zf {α : Type _} {a : α} {l : List α} : (a :: l).length = l.length + 1 := List.length_cons
theorem Zg : (!true) = false := rfl
theorem Zh {a b c : Nat} (h : a < b) (k : b <= c) : a < c := Nat.lt_of_lt_of_le h k
theorem Zi {α : Type _} (y : α) {a : α} {l : List α} (h : a ∈ l) : a ∈ y :: l := List.mem_cons_of_mem y h
theorem Zj {α : Type _} {a : α} {l : List α} : a ∈ a :: l := List.mem_cons_self
theorem Zk {α : Type _} {a b : α} (h : some a = some b) : a = b := Option.some.inj h
theorem Zl {α β : Type _} {f : α -> β} {x : Option α} {b : β} : x.map f = some b ↔ ∃ a, x = some a /\ f a = b := Option.map_eq_some_iff
theorem Zm {α : Type _} {l m : List α} {i : Nat} (h : i < l.length) : (l ++ m)[i]? = l[i]? := List.getElem?_append_left h
theorem Zn {α : Type _} {l m : List α} {i : Nat} (h : l.length <= i) : (l ++ m)[i]? = m[i - l.length]? := List.getElem?_append_right h
theorem Zo (n : Nat) : n <= n := Nat.le_refl n
theorem Zp {α β : Type _} (a : α) (b : β) (c : α) (d : β) : ((a, b) = (c, d)) = (a = c /\ b = d) := Prod.mk.injEq a b c d
theorem pS (n : Nat) (h : 0 < n) : ∃ z, n = z + 1 := ⟨n - 1, by omega⟩
section
universe u
def ZQ {α:Type u}:List (Nat × α)->Nat->Option α
 | [],_=>none
 | (k,v)::t,d=>bif Nat.beq k d then some v else ZQ t d
theorem YG {α:Type u} (k:Nat) (v:α) (t:List (Nat × α)) (d:Nat):ZQ ((k,v)::t) d=if k=d then some v else ZQ t d:=by
 show (bif Nat.beq k d then some v else ZQ t d)=_
 by_cases h:k=d
 ·subst h;simp
 ·have:Nat.beq k d=false:=by
   cases b:Nat.beq k d
   ·rfl
   ·exact absurd (Zd b) h
  rw [this,if_neg h];rfl
abbrev YB:=Nat->Prop
inductive SC where
 | i (k:IntKind) (n:Int)
 | b (t:Bool)
 | s (x:ByteArray)
 | v (x:Value)
 | sl (k:Nat)
 | nil
 | bp (k off:Nat)
 | px (k off:Nat)
 | cl (f:FuncId) (fs ks:List Nat)
 | sp (k i len es:Nat)
inductive SV where
 | c (x:SC)
 | a (cs:List SC)
 | t (vs:List (SC ⊕ List SC))
 | u
structure Env where
 ρ:Nat->Value
 β:Nat->Nat
def Env.setρ (E:Env) (k:Nat) (v:Value):Env:={ E with ρ:=fun j=>if j=k then v else E.ρ j }
def Env.setβ (E:Env) (k:Nat) (b:Nat):Env:={ E with β:=fun j=>if j=k then b else E.β j }
def WC (v:Value) (n:Nat):Value :=
 match v with
 | .pointer (some a)=>.pointer (some ⟨a.block,a.off+n,none⟩)
 | .slice (some a) _ _=>.pointer (some ⟨a.block,a.off+n,none⟩)
 | x=>x
def WD (E:Env) (ks:List Nat):Array Value:=(ks.map fun k=>Value.pointer (some ⟨E.β k,0,none⟩)).toArray
def ZnN:Value->Nat
 | .slice _ _ c=>c
 | _=>0
def ZZ (E:Env):SC->Value
 | .i k n=>.int k n
 | .b t=>.bool t
 | .s x=>.string x
 | .v x=>x
 | .sl k=>E.ρ k
 | .nil=>.slice none 0 0
 | .bp k off=>.pointer (some ⟨E.β k,off,none⟩)
 | .px k off=>WC (E.ρ k) off
 | .cl f fs ks=>.func (.func f) (WD E fs) (WD E ks)
 | .sp k i len es=>.slice (some ⟨E.β k,i * es,none⟩) len (ZnN (E.ρ k)-i)
def Tl (E:Env):SC ⊕ List SC->Value
 | .inl x=>ZZ E x
 | .inr cs=>.agg (cs.map (ZZ E)).toArray
def Yc (E:Env):SV->Value
 | .c x=>ZZ E x
 | .a cs=>.agg (cs.map (ZZ E)).toArray
 | .t vs=>.tuple (vs.map (Tl E)).toArray
 | .u=>undef
def SC.kb (n:Nat):SC->Prop
 | .sl k | .bp k _ | .px k _ | .sp k _ _ _=>k < n
 | .cl _ fs ks=>(∀ k∈fs,k < n)/\∀ k∈ks,k < n
 | .v x=>x.oneCell'=true
 | _=>True
def SV.kb (n:Nat):SV->Prop
 | .c x=>x.kb n
 | .a cs=>∀ x∈cs,SC.kb n x
 | .t vs=>∀ v∈vs,match v with | .inl x=>SC.kb n x | .inr cs=>∀ x∈cs,SC.kb n x
 | .u=>True
theorem SC.kb.mono {n m:Nat} (h:n<=m):∀ {x:SC},x.kb n->x.kb m
 | .sl _,hx | .bp _ _,hx | .px _ _,hx | .sp _ _ _ _,hx=>Zh hx h
 | .v _,hx=>hx
 | .cl _ _ _,hx=>⟨fun k e=>Zh (hx.1 k e) h,fun k e=>Zh (hx.2 k e) h⟩
 | .i _ _,_ | .b _,_ | .s _,_ | .nil,_=>trivial
theorem SV.kb.mono {n m:Nat} (h:n<=m):∀ {x:SV},x.kb n->x.kb m
 | .c _,hx=>SC.kb.mono h hx
 | .a _,hx=>fun y b=>(hx y b).mono h
 | .t _,hx=>fun v e=>by
  have:=hx v e
  cases v with
  | inl x=>exact SC.kb.mono h this
  | inr cs=>exact fun y b=>SC.kb.mono h (this y b)
 | .u,_=>trivial
def Env.Eqb (n:Nat) (E E':Env):Prop:=∀ k,k < n->E'.ρ k=E.ρ k/\E'.β k=E.β k
theorem Env.Eqb.refl (n:Nat) (E:Env):E.Eqb n E:=fun _ _=>⟨rfl,rfl⟩
theorem Env.Eqb.trans {n:Nat} {A B C:Env} (h:A.Eqb n B) (g:B.Eqb n C):A.Eqb n C :=
 fun k b=>⟨(g k b).1.trans (h k b).1,(g k b).2.trans (h k b).2⟩
theorem Env.Eqb.mono {n m:Nat} {A B:Env} (h:A.Eqb m B) (b:n<=m):A.Eqb n B:=fun k e=>h k (Zh e b)
theorem Env.eqb_setρ (E:Env) (n k:Nat) (v:Value) (h:n<=k):E.Eqb n (E.setρ k v) :=
 fun j b=>⟨by simp [Env.setρ,Nat.ne_of_lt (Zh b h)],rfl⟩
theorem Env.eqb_setβ (E:Env) (n k b:Nat) (h:n<=k):E.Eqb n (E.setβ k b) :=
 fun j e=>⟨rfl,by simp [Env.setβ,Nat.ne_of_lt (Zh e h)]⟩
theorem Zi1 {n:Nat} {E e:Env} (h:E.Eqb n e) {b:List Nat} (g:∀ k∈b,k < n):WD e b=WD E b:=by
 unfold WD
 rw [List.map_congr_left fun k i=>by rw [(h k (g k i)).2]]
theorem MT {n:Nat} {E e:Env} (h:E.Eqb n e):∀ {x:SC},x.kb n->ZZ e x=ZZ E x
 | .sl k,hx=>(h k hx).1
 | .bp k o,hx=>by simp [ZZ,(h k hx).2]
 | .px k o,hx=>by simp [ZZ,(h k hx).1]
 | .cl f fs ks,hx=>by simp only [ZZ,Zi1 h hx.1,Zi1 h hx.2]
 | .sp k i len es,hx=>by simp only [ZZ,(h k hx).1,(h k hx).2]
 | .i _ _,_ | .b _,_ | .s _,_ | .v _,_ | .nil,_=>rfl
theorem MU {n:Nat} {E b:Env} (h:E.Eqb n b) {cs:List SC} (e:∀ x∈cs,SC.kb n x):cs.map (ZZ b)=cs.map (ZZ E) :=
 List.map_congr_left fun x g=>MT h (e x g)
theorem Zab {n:Nat} {E b:Env} (h:E.Eqb n b):∀ {x:SV},x.kb n->Yc b x=Yc E x
 | .c _,hx=>MT h hx
 | .a cs,hx=>by simp only [Yc,MU h hx]
 | .t vs,hx=>by
  simp only [Yc]
  have:vs.map (Tl b)=vs.map (Tl E):=List.map_congr_left fun v g=>by
   have e:=hx v g
   cases v with
   | inl x=>exact MT h e
   | inr cs=>simp only [Tl,MU h e]
  rw [this]
 | .u,_=>rfl
structure Wt (F:YB) (w:World) (F':YB) (w':World):Prop where
 sub:∀ b,F b->F' b
 same:∀ b,F b->w'.heap[b]? = w.heap[b]?
structure TRep (α:Type) where
 sz:Nat
 pos:0 < sz
 rep:YB->World->α->List Value->Prop
 len:∀ {F w x vs},rep F w x vs->vs.length=sz
 mono:∀ {F w F' w' x vs},Wt F w F' w'->rep F w x vs->rep F' w' x vs
 one:∀ {F w x vs},rep F w x vs->∀ v∈vs,v.oneCell'=true
def Row {α:Type} (R:TRep α) (F:YB) (w:World) (xs:List α) (arr:Array Value) (off:Nat):Prop :=
 ∀ (i:Nat) (x:α),xs[i]? = some x->∃ vs,R.rep F w x vs/\∀ (j:Nat) (v:Value),vs[j]? = some v->arr[off+i * R.sz+j]? = some v
theorem Row.mono {α:Type} {R:TRep α} {F w F' w' xs arr off} (g:Wt F w F' w') (h:Row R F w xs arr off):Row R F' w' xs arr off :=
 fun i x b=>let ⟨vs,hr,hv⟩:=h i x b;⟨vs,R.mono g hr,hv⟩
def SlR {α:Type} (R:TRep α) (F:YB) (w:World) (xs:List α) (v:Value):Prop :=
 (xs=[]/\∃ a c,v=.slice a 0 c)\/∃ (b off cap:Nat) (arr:Array Value) (el:TypeId) (fz:Nat × Nat),v=.slice (some ⟨b,off,none⟩) xs.length cap/\xs.length<=cap/\F b /\
  w.heap[b]? = some (.cells arr el fz)/\Row R F w xs arr off
theorem SlR.mono {α:Type} {R:TRep α} {F w F' w' xs v} (g:Wt F w F' w') (h:SlR R F w xs v):SlR R F' w' xs v:=by
 rcases h with h | ⟨b,off,cap,arr,el,fz,e,i,hF,j,l⟩
 ·exact .inl h
 ·exact .inr ⟨b,off,cap,arr,el,fz,e,i,g.sub b hF,by rw [g.same b hF];exact j,l.mono g⟩
def RC (fz:Nat × Nat) (n:Nat):Prop:=∀ j,j < n->(decide (fz.1<=j) && decide (j < fz.2))=false
def OwnR {α:Type} (R:TRep α) (F:YB) (w:World) (xs:List α) (v:Value):Prop :=
 (xs=[]/\v=.slice none 0 0)\/∃ (b off cap:Nat) (arr:Array Value) (el:TypeId) (fz:Nat × Nat),v=.slice (some ⟨b,off,none⟩) xs.length cap/\xs.length<=cap /\
  off+cap * R.sz<=arr.size/\RC fz arr.size/\w.heap[b]? = some (.cells arr el fz)/\Row R F w xs arr off
def YH:Value->Option Nat
 | .slice (some a) _ _=>some a.block
 | .map (some b)=>some b
 | _=>none
theorem OwnR.mono {α:Type} {R:TRep α} {F w F' w' xs v} (g:Wt F w F' w') (i:∀ b,YH v=some b->w'.heap[b]? = w.heap[b]?)
  (h:OwnR R F w xs v):OwnR R F' w' xs v:=by
 rcases h with h | ⟨b,off,cap,arr,el,fz,e,j,l,m,n,o⟩
 ·exact .inl h
 ·exact .inr ⟨b,off,cap,arr,el,fz,e,j,l,m,by rw [i b (by rw [e];rfl)];exact n,o.mono g⟩
inductive VF:Type 1 where
 | sl {α:Type} (R:TRep α) (xs:List α)
 | pl (cs:List SC)
 | el (k j:Nat)
 | vw (k:Nat) (l h:Option Int) (sz:Nat)
 | fn (Φ:Value->Prop)
def Wn (l h:Option Int) (sz:Nat):Value->Value
  | .slice b len cap=>.slice (if cap=(l.getD 0).toNat then b else b.map (·.add ((l.getD 0).toNat * sz))) ((match h with | some h=>h.toNat | none=>len)-(l.getD 0).toNat) (cap-(l.getD 0).toNat)
  | x=>x
def VF.ok (E:Env) (F:YB) (w:World) (v:Value):VF->Prop
 | .sl R xs=>SlR R F w xs v
 | .pl cs=>∃ (b off:Nat) (arr:Array Value) (el:TypeId) (fz:Nat × Nat),v=.pointer (some ⟨b,off,none⟩)/\F b/\w.heap[b]? = some (.cells arr el fz) /\
   ∀ (j:Nat) (x:SC),cs[j]? = some x->arr[off+j]? = some (ZZ E x)
 | .el k j=>v=WC (E.ρ k) j/\∃ (b off:Nat),v=.pointer (some ⟨b,off,none⟩)
 | .vw k l h sz=>v=Wn l h sz (E.ρ k)
 | .fn Φ=>Φ v
def VF.kb (n:Nat):VF->Prop
 | .pl cs=>∀ x∈cs,SC.kb n x
 | .el k _ | .vw k _ _ _=>k < n
 | _=>True
theorem VF.kb.mono {n m:Nat} (h:n<=m):∀ {f:VF},f.kb n->f.kb m
 | .pl _,hf=>fun x b=>(hf x b).mono h
 | .el _ _,hf | .vw _ _ _ _,hf=>Zh hf h
 | .sl _ _,_ | .fn _,_=>trivial
theorem VF.ok.mono {E:Env} {F w F' w' v} (g:Wt F w F' w'):∀ {f:VF},f.ok E F w v->f.ok E F' w' v
 | .sl _ _,h=>SlR.mono g h
 | .pl _,⟨b,off,arr,ty,fz,hv,hF,hh,hx⟩=>⟨b,off,arr,ty,fz,hv,g.sub b hF,by rw [g.same b hF];exact hh,hx⟩
 | .el _ _,h | .vw _ _ _ _,h=>h
 | .fn _,h=>h
theorem VF.ok.eqb {n:Nat} {E e:Env} (h:E.Eqb n e) {F w v}:∀ {f:VF},f.kb n->f.ok E F w v->f.ok e F w v
 | .sl _ _,_,hf=>hf
 | .pl cs,hk,⟨b,off,arr,ty,fz,hv,hF,hh,hx⟩=>⟨b,off,arr,ty,fz,hv,hF,hh,fun j x g=>by
   rw [MT h (hk x (Zb g))];exact hx j x g⟩
 | .el k j,hk,hf=>by show _=WC (e.ρ k) j/\_;rw [(h k hk).1];exact hf
 | .vw k l h' sz,hk,hf=>by show _=Wn l h' sz (e.ρ k);rw [(h k hk).1];exact hf
 | .fn _,_,hf=>hf
def BufR (ty:TypeId) (w:World) (s:ByteArray) (v:Value):Prop :=
 (s.size=0/\v=.slice none 0 0)\/∃ (b cap:Nat) (arr:Array Value) (fz:Nat × Nat),v=.slice (some ⟨b,0,none⟩) s.size cap/\s.size<=cap/\cap<=arr.size/\RC fz arr.size /\
  w.heap[b]? = some (.cells arr ty fz)/\∀ (i:Nat) (x:UInt8),s.data.toList[i]? = some x->arr[i]? = some (.int .u8 x.toNat)
theorem BufR.mono {ty:TypeId} {w w':World} {s:ByteArray} {v:Value} (g:∀ b,YH v=some b->w'.heap[b]? = w.heap[b]?) (h:BufR ty w s v):BufR ty w' s v:=by
 rcases h with h | ⟨b,cap,arr,fz,e,i,j,l,m,n⟩
 ·exact .inl h
 ·exact .inr ⟨b,cap,arr,fz,e,i,j,l,by rw [g b (by rw [e];rfl)];exact m,n⟩
structure MC where
 fp:Nat->Prop
 ok:YB->World->Prop
 mono:∀ {F w F' w'},Wt F w F' w'->(∀ b,fp b->w'.heap[b]? = w.heap[b]?)->ok F w->ok F' w'
structure Zm9 where
 ok:YB->World->Value->Prop
 mono:∀ {F w F' w' v},Wt F w F' w'->(∀ b,YH v=some b->w'.heap[b]? = w.heap[b]?)->ok F w v->ok F' w' v
 one:∀ {F w v},ok F w v->v.oneCell'=true
inductive MO:Type 1 where
 | box (cs:List SC) (t:TypeId)
 | own {α:Type} (R:TRep α) (xs:List α) (fresh:Bool)
 | abs (A:MC)
 | buf (s:ByteArray) (ty:TypeId)
 | av (A:Zm9)
 | gone
def MO.fp (E:Env) (k:Nat):MO->Nat->Prop
 | .box _ _,b=>b=E.β k
 | .own _ _ _,b=>YH (E.ρ k)=some b
 | .abs A,b=>A.fp b
 | .buf _ _,b=>YH (E.ρ k)=some b
 | .av _,b=>YH (E.ρ k)=some b
 | .gone,_=>False
def MO.ok (E:Env) (F:YB) (w:World) (k:Nat):MO->Prop
 | .box cs t=>w.heap[E.β k]? = some (.cells (cs.map (ZZ E)).toArray t (0,0))
 | .own R xs _=>OwnR R F w xs (E.ρ k)
 | .abs A=>A.ok F w
 | .buf s ty=>BufR ty w s (E.ρ k)
 | .av A=>A.ok F w (E.ρ k)
 | .gone=>True
def MO.kb (n:Nat):MO->Prop
 | .box cs _=>∀ x∈cs,SC.kb n x
 | _=>True
def MO.isFresh:MO->Bool
 | .own _ _ f=>f
 | _=>false
theorem MO.kb.mono {n m:Nat} (h:n<=m):∀ {f:MO},f.kb n->f.kb m
 | .box _ _,hf=>fun x b=>(hf x b).mono h
 | .own _ _ _,_ | .abs _,_ | .buf _ _,_ | .av _,_ | .gone,_=>trivial
theorem MO.ok.mono {E:Env} {F w F' w'} {k:Nat} (g:Wt F w F' w'):∀ {m:MO},(∀ b,m.fp E k b->w'.heap[b]? = w.heap[b]?)->m.ok E F w k->m.ok E F' w' k
 | .box _ _,hb,h=>by show w'.heap[E.β k]? = _;rw [hb _ rfl];exact h
 | .own _ _ _,hb,h=>OwnR.mono g (fun b e=>hb b e) h
 | .abs A,hb,h=>A.mono g hb h
 | .buf _ _,hb,h=>BufR.mono (fun b e=>hb b e) h
 | .av A,hb,h=>A.mono g (fun b e=>hb b e) h
 | .gone,_,_=>trivial
theorem MO.ok.eqb {n:Nat} {E b:Env} (h:E.Eqb n b) {F w} {k:Nat} (e:k < n):∀ {m:MO},m.kb n->m.ok E F w k->m.ok b F w k
 | .box cs t,hm,h'=>by
  show w.heap[b.β k]? = _
  rw [(h k e).2,MU h hm];exact h'
 | .own _ _ _,_,h'=>by show OwnR _ _ _ _ (b.ρ k);rw [(h k e).1];exact h'
 | .abs _,_,h'=>h'
 | .buf _ _,_,h'=>by show BufR _ _ _ (b.ρ k);rw [(h k e).1];exact h'
 | .av A,_,h'=>by show A.ok _ _ (b.ρ k);rw [(h k e).1];exact h'
 | .gone,_,_=>trivial
theorem MO.fp_eqb {n:Nat} {E g:Env} (h:E.Eqb n g) {k:Nat} (e:k < n):∀ {m:MO} {b:Nat},m.fp g k b↔m.fp E k b
 | .box _ _,b=>by simp only [MO.fp];rw [(h k e).2]
 | .own _ _ _,b=>by simp only [MO.fp];rw [(h k e).1]
 | .abs _,_=>Iff.rfl
 | .buf _ _,b=>by simp only [MO.fp];rw [(h k e).1]
 | .av _,b=>by simp only [MO.fp];rw [(h k e).1]
 | .gone,_=>Iff.rfl
structure St where
 L:List (Nat × SV)
 M:List (Nat × MO)
 V:List (Nat × VF)
 nx:Nat
structure St.Wf (s:St):Prop where
 hL:∀ d v,ZQ s.L d=some v->v.kb s.nx
 hM:∀ k m,ZQ s.M k=some m->k < s.nx/\m.kb s.nx
 hV:∀ k f,ZQ s.V k=some f->k < s.nx/\f.kb s.nx
class LxP where
 p:Prop
variable [LxP]
structure Oq (w0 w:World):Prop where
 out:w.output=w0.output
 drawn:LxP.p\/w0.drawn<=w.drawn
theorem Oq.m {w w':World} (h:w'.output=w.output:=by rfl) (b:w.drawn<=w'.drawn:=by first | exact Zo _ | exact Nat.le_succ _ | exact Nat.le_trans (Nat.le_succ _) (Nat.le_succ _) | exact Nat.le_add_right _ _):Oq w w':=⟨h,.inr b⟩
theorem Oq.trans {a b c:World} (h:Oq a b) (k:Oq b c):Oq a c:=⟨k.out.trans h.out,h.drawn.elim .inl fun e=>k.drawn.elim .inl fun g=>.inr (Nat.le_trans e g)⟩
structure Ext (Z:YB) (w0 w:World):Prop where
 os:w.os=w0.os
 tape:w.tape=w0.tape
 output:Oq w0 w
 size:w0.heap.size<=w.heap.size
 block:∀ b,Z b->w.heap[b]? = w0.heap[b]?
theorem Ext.refl (Z:YB) (w:World):Ext Z w w:=⟨rfl,rfl,.m,Zo _,fun _ _=>rfl⟩
theorem Ext.trans {Z:YB} {a b c:World} (h:Ext Z a b) (k:Ext Z b c):Ext Z a c :=
 ⟨k.os.trans h.os,k.tape.trans h.tape,h.output.trans k.output,Nat.le_trans h.size k.size,fun i hi=>(k.block i hi).trans (h.block i hi)⟩
theorem Ext.mono {Z e:YB} {a b:World} (h:Ext Z a b) (g:∀ k,e k->Z k):Ext e a b:=⟨h.os,h.tape,h.output,h.size,fun k i=>h.block k (g k i)⟩
structure Ctx where
 P:Program
 f:FuncId
 fn:Func
 nk:Nat
 E0:Env
 F0:YB
 w0:World
 n0:Nat
 Z:YB
 post:Value->World->Prop
structure Sat (X:Ctx) (s:St) (E:Env) (F:YB) (w:World) (a:Act):Prop where
 wf:s.Wf
 nk:X.nk<=s.nx
 defers:a.defers=[]
 size:a.tmps.size=X.fn.ntmps
 hL:∀ d v,ZQ s.L d=some v->a.tmps[d]? = some (Yc E v)
 hV:∀ k f,ZQ s.V k=some f->f.ok E F w (E.ρ k)
 hM:∀ k m,ZQ s.M k=some m->m.ok E F w k
 dis:∀ k k' m m',ZQ s.M k=some m->ZQ s.M k'=some m'->k≠k'->∀ b,m.fp E k b->¬ m'.fp E k' b
 mF:∀ k m,ZQ s.M k=some m->∀ b,m.fp E k b->¬ F b/\¬ X.Z b/\b < w.heap.size
 fresh:∀ k m,ZQ s.M k=some m->m.isFresh=true->∀ b,m.fp E k b->X.n0<=b
 hF:∀ b,F b->b < w.heap.size
 hF0:∀ b,X.F0 b->F b
 hn0:X.n0<=X.w0.heap.size
 hF1:∀ b,F b->X.F0 b\/(X.n0<=b/\¬ X.Z b)
 hZ:∀ b,X.Z b->b < X.w0.heap.size
 ext:Ext X.Z X.w0 w
 link:X.E0.Eqb X.nk E
 one:∀ k,(E.ρ k).oneCell'=true
def Runs (P:Program) (f:FuncId) (R:Value->World->Prop) (a:Act) (todo:List Item) (w:World):Prop :=
 ∀ (b:Frame) (cs:List Frame),b.fn=f->b.kind=.normal ->
  ∃ v w' fr,R v w'/\Steps P (lone (b.at a todo) cs w) (lone fr cs w')/\fr.fn=f/\fr.leaving P w' (.returned v)
def WP (X:Ctx) (todo:List Item) (s:St):Prop :=
 ∀ E F w a,Sat X s E F w a->Runs X.P X.f X.post a todo w
section control
variable {X:Ctx} {s:St} {k:List Item}
theorem Runs.head {P f R a a' todo todo' w w'} (h:∀ (b:Frame) (cs:List Frame),b.fn=f->b.kind=.normal->Steps P (lone (b.at a todo) cs w) (lone (b.at a' todo') cs w'))
  (k:Runs P f R a' todo' w'):Runs P f R a todo w:=fun b cs e g=>by
 have ⟨v,w2,fr,i,j,l,m⟩:=k b cs e g
 exact ⟨v,w2,fr,i,(h b cs e g).trans j,l,m⟩
theorem WP.seq {x y:Code} (h:WP X (.code x::.code y::k) s):WP X (.code (.seq x y)::k) s :=
 fun E F w a b=>Runs.head (fun _ _ _ _=>.one step_seq) (h E F w a b)
theorem WP.skip (h:WP X k s):WP X (.code .skip::k) s :=
 fun E F w a b=>Runs.head (fun _ _ _ _=>.one step_skip) (h E F w a b)
theorem WP.label {l:Nat} (h:WP X k s):WP X (.code (.label l)::k) s :=
 fun E F w a b=>Runs.head (fun _ _ _ _=>.one step_label) (h E F w a b)
theorem WP.block {id:Nat} {c:Code} (h:WP X (.code c::.inBlock id::k) s):WP X (.code (.block id c)::k) s :=
 fun E F w a b=>Runs.head (fun _ _ _ _=>.one step_block) (h E F w a b)
theorem WP.inBlock {id:Nat} (h:WP X k s):WP X (.inBlock id::k) s :=
 fun E F w a b=>Runs.head (fun _ _ _ _=>.one step_inBlock) (h E F w a b)
theorem WP.exit {id:Nat} {k':List Item} (b:exitTo id k=some k') (h:WP X k' s):WP X (.code (.exit id)::k) s :=
 fun E F w a e=>Runs.head (fun _ _ _ _=>.one (step_exit b)) (h E F w a e)
theorem WP.loop {c:Code} (h:WP X (.code c::.inLoop c::k) s):WP X (.code (.loop c)::k) s :=
 fun E F w a b=>Runs.head (fun _ _ _ _=>.one step_loop) (h E F w a b)
theorem WP.inLoop {c:Code} (h:WP X (.code c::.inLoop c::k) s):WP X (.inLoop c::k) s :=
 fun E F w a b=>Runs.head (fun _ _ _ _=>.one step_inLoop) (h E F w a b)
theorem Zat {a:Array Value} {d:Nat} {v:Value} (h:a[d]? = some v):a.getD d undef=v:=by
 rw [Array.getD_eq_getD_getElem?,h];rfl
theorem WP.cond {d:Nat} {t:Bool} {x y:Code} (g:ZQ s.L d=some (.c (.b t))) (h:WP X (.code (bif t then x else y)::k) s) :
  WP X (.code (.cond (.tmp d) x y)::k) s:=fun E F w a e =>
 Runs.head (fun b cs _ _=>.one (step_cond (t:=t) (Zat (e.hL d _ g)))) (by
  have:=h E F w a e
  cases t<;>exact this)
theorem WP.condT {d:Nat} {t:Bool} {x y:Code} (e:t=true) (g:ZQ s.L d=some (.c (.b t))) (h:WP X (.code x::k) s) :
  WP X (.code (.cond (.tmp d) x y)::k) s:=WP.cond g (by rw [e];exact h)
theorem WP.condF {d:Nat} {t:Bool} {x y:Code} (e:t=false) (g:ZQ s.L d=some (.c (.b t))) (h:WP X (.code y::k) s) :
  WP X (.code (.cond (.tmp d) x y)::k) s:=WP.cond g (by rw [e];exact h)
end control
end
section
variable [LxP]
universe u
structure TD where
 sz:Nat
 byt:Nat
 ag:Bool
 z:List SC
 fo:List (Nat × Nat × Bool):=[]
 es:Nat:=0
 eb:Nat:=0
 n:Nat:=0
 ik:Option IntKind:=none
 kd:Nat:=0
 el:Nat:=0
def E00:Env:=⟨fun _=>.bool false,fun _=>0⟩
def XY (P:Program) (t:TypeId):Bool:=match P.underlying t with
 | some (.struct _) | some (.array _ _)=>true
 | _=>false
def UJ (P:Program):List Field->List (Nat × Nat × Bool)->Bool
 | [],[]=>true
 | f::fs,(o,s,g)::r=>f.offset==o && ((P.info? f.type).any fun i=>i.size==s) && s != 0 && XY P f.type==g && (P.underlying f.type).isSome && UJ P fs r
 | _,_=>false
def Uq (P:Program) (t:TypeId) (d:TD):Bool:=match P.underlying t with
 | some (.struct fs)=>d.ag && UJ P fs.toList d.fo && d.ik.isNone && d.kd==4
 | some (.array n e)=>d.ag && d.fo.isEmpty && d.n==n && ((P.info? e).any fun i=>i.size==d.es && i.size != 0) && d.ik.isNone && d.kd==5 && d.el==e
 | some (.slice e) => !d.ag && d.fo.isEmpty && ((P.info? e).any fun i=>i.size==d.es && i.bytes==d.eb && i.size != 0 && (i.zero.any fun z=>z.cells.size==i.size)) && d.ik.isNone && d.kd==6 && d.el==e
 | some (.int k) => !d.ag && d.fo.isEmpty && d.ik==some k && d.kd==3
 | some .bool => !d.ag && d.fo.isEmpty && d.ik.isNone && d.kd==1
 | some .string => !d.ag && d.fo.isEmpty && d.ik.isNone && d.kd==2
 | some _ => !d.ag && d.fo.isEmpty && d.ik.isNone && d.kd==0
 | none=>false
def SC.closed:SC->Bool
 | .sl _ | .bp _ _ | .px _ _ | .sp _ _ _ _=>false
 | .cl _ fs ks=>fs.isEmpty && ks.isEmpty
 | .v x=>x.oneCell'
 | _=>true
def TD.Ok (P:Program) (t:TypeId) (d:TD):Prop :=
 (P.info? t).map (fun i=>(i.size,i.bytes,i.zero.map fun z=>z.cells.toList))=some (d.sz,d.byt,some (d.z.map (ZZ E00))) /\
 Uq P t d=true/\d.z.all SC.closed=true/\d.z.length=d.sz
def TTOk (P:Program):List (Nat × TD)->Prop
 | []=>True
 | (t,d)::r=>TD.Ok P t d/\TTOk P r
theorem TTOk.get {P:Program}:∀ {tt:List (Nat × TD)},TTOk P tt->∀ {t d},ZQ tt t=some d->TD.Ok P t d
 | [],_,_,_,h=>by cases h
 | (t',d')::r,⟨h1,h2⟩,t,d,h=>by
  rw [YG] at h
  split at h
  ·rename_i e;cases h;subst e;exact h1
  ·exact TTOk.get h2 h
theorem Zoe {E e:Env}:∀ {x:SC},x.closed=true->ZZ E x=ZZ e x
 | .cl _ fs ks,h=>by
  simp only [SC.closed,Zc,List.isEmpty_iff] at h
  obtain ⟨rfl,rfl⟩:=h
  rfl
 | .i _ _,_ | .b _,_ | .s _,_ | .v _,_ | .nil,_=>rfl
theorem ZpO {n:Nat}:∀ {x:SC},x.closed=true->x.kb n
 | .i _ _,_ | .b _,_ | .s _,_ | .nil,_=>trivial
 | .v _,h=>h
 | .cl _ fs ks,h=>by
  simp only [SC.closed,Zc,List.isEmpty_iff] at h
  simp [SC.kb,h.1,h.2]
section td
variable {P:Program} {t:TypeId} {d:TD}
theorem TD.Ok.info (h:TD.Ok P t d):∃ i z,P.info? t=some i/\i.size=d.sz/\i.bytes=d.byt/\i.zero=some z/\(∀ E,z.cells=(d.z.map (ZZ E)).toArray):=by
 have ⟨b,_,l,_⟩:=h
 rw [Zl] at b
 have ⟨i,hi,e⟩:=b
 simp only [Zp] at e
 have ⟨m,n,g⟩:=e
 rw [Zl] at g
 have ⟨z,o,p⟩:=g
 refine ⟨i,z,hi,m,n,o,fun E=>?_⟩
 apply Array.ext'
 rw [p]
 simp only []
 exact List.map_congr_left fun x j=>Zoe (List.all_eq_true.1 l x j)
theorem TD.Ok.und (h:TD.Ok P t d):∃ e,P.underlying t=some e:=by
 have b:=h.2.1
 unfold Uq at b
 cases g:P.underlying t with
 | none=>rw [g] at b;cases b
 | some e=>exact ⟨e,rfl⟩
theorem Xb {d:TypeDesc} (h:P.underlying t=some d) (w:World):(underlying t).run P w=.ok d w:=by
 simp [underlying,h]
theorem ZaQ (w:World) {b:TypeDesc} (h:P.underlying t=some b):(isAgg t).run P w=.ok (XY P t) w:=by
 simp only [isAgg,Sem.run_bind,Xb h,Result.andThen_ok,XY,h]
 cases b<;>rfl
theorem TD.Ok.agg (h:TD.Ok P t d):XY P t=d.ag:=by
 have b:=h.2.1
 unfold Uq at b
 unfold XY
 split at b<;>simp_all
theorem ZaR (w:World) (h:TD.Ok P t d):(sizeOf t).run P w=.ok d.sz w:=by
 have ⟨i,z,hi,b,_⟩:=h.info
 simp [sizeOf,typeInfo,hi,b]
theorem ZaS (w:World) (h:TD.Ok P t d):∃ z,(zeroValue t).run P w=.ok z w/\∀ E,z.cells=(d.z.map (ZZ E)).toArray:=by
 have ⟨i,z,hi,_,_,b,e⟩:=h.info
 exact ⟨z,by simp [zeroValue,typeInfo,hi,b],e⟩
theorem ZeF:∀ {fs:List Field} {fo:List (Nat × Nat × Bool)},UJ P fs fo=true->∀ {j:Nat} {x:Nat × Nat × Bool},fo[j]? = some x ->
  ∃ f i e,fs[j]? = some f/\f.offset=x.1/\P.info? f.type=some i/\i.size=x.2.1/\x.2.1≠0/\XY P f.type=x.2.2/\P.underlying f.type=some e
 | [],[],_,j,x,hx=>by simp at hx
 | [],_::_,h,_,_,_=>by simp [UJ] at h
 | _::_,[],h,_,_,_=>by simp [UJ] at h
 | f::fs,(o,s,g)::r,h,0,x,hx=>by
  simp only [List.getElem?_cons_zero,Option.some.injEq] at hx
  subst hx
  simp only [UJ,Zc,beq_iff_eq,bne_iff_ne,ne_eq] at h
  obtain ⟨⟨⟨⟨⟨l,b⟩,m⟩,n⟩,p⟩,_⟩:=h
  rw [Option.any_eq_true_iff_get] at b
  have ⟨q,b⟩:=b
  have ⟨e,v⟩:=Option.isSome_iff_exists.1 p
  exact ⟨f,_,e,rfl,l,(Option.some_get q).symm,by simpa using b,m,n,v⟩
 | f::fs,(o,s,g)::r,h,j+1,x,hx=>by
  simp only [List.getElem?_cons_succ] at hx
  simp only [UJ,Zc] at h
  have ⟨y,i,e,l,b⟩:=ZeF h.2 hx
  exact ⟨y,i,e,by simpa using l,b⟩
theorem TD.Ok.field (h:TD.Ok P t d) {j:Nat} {x:Nat × Nat × Bool} (g:d.fo[j]? = some x):∃ fs f i e,P.underlying t=some (.struct fs)/\fs[j]? = some f/\f.offset=x.1 /\
  P.info? f.type=some i/\i.size=x.2.1/\x.2.1≠0/\XY P f.type=x.2.2/\P.underlying f.type=some e:=by
 have b:=h.2.1
 unfold Uq at b
 split at b
 ·rename_i fs n
  simp only [Zc] at b
  have ⟨f,i,e,l,m⟩:=ZeF b.1.1.2 g
  exact ⟨fs,f,i,e,n,by simpa using l,m⟩
 all_goals (simp_all)
end td
def SQ:Value->SC
 | .int k n=>.i k n
 | .bool b=>.b b
 | .string s=>.s s
 | .slice none 0 0=>.nil
 | x=>.v x
theorem Zi4 (E:Env) (v:Value):ZZ E (SQ v)=v:=by
 unfold SQ;split<;>rfl
theorem Zj0 {n:Nat} {v:Value} (h:v.oneCell'=true):(SQ v).kb n:=by
 unfold SQ;split<;>first | trivial | exact h
def BZ:Value->Option SV
 | .agg cs=>bif cs.toList.all Value.oneCell' then some (.a (cs.toList.map SQ)) else none
 | .tuple _=>none
 | x=>some (.c (SQ x))
theorem Zid {v:Value} {x:SV} (h:BZ v=some x) (E:Env) (n:Nat):Yc E x=v/\x.kb n:=by
 unfold BZ at h
 split at h
 ·rename_i cs
  cases b:cs.toList.all Value.oneCell' with
  | false=>rw [b] at h;cases h
  | true =>
   rw [b] at h
   cases h
   refine ⟨?_,?_⟩
   ·simp only [Yc,List.map_map]
    have:(cs.toList.map (ZZ E ∘ SQ))=cs.toList:=by
     rw [show (ZZ E ∘ SQ)=id from funext fun v=>Zi4 E v];simp
    rw [this]
   ·intro y g
    obtain ⟨v,e,rfl⟩:=List.mem_map.1 g
    exact Zj0 (List.all_eq_true.1 b v e)
 ·cases h
 ·rename_i i j
  cases h
  refine ⟨Zi4 E v,Zj0 ?_⟩
  cases v<;>first | rfl | exact absurd rfl (i _) | exact absurd rfl (j _)
def Yd (L:List (Nat × SV)):Operand->Option SV
 | .tmp t=>ZQ L t
 | .const v=>BZ v
 | .global g=>some (.c (.v (.pointer (some ⟨g,0,none⟩))))
 | .func f=>some (.c (.cl f [] []))
theorem Sat.eval {X s E F w a} (b:Sat X s E F w a) {x:Operand} {v:SV} (h:Yd s.L x=some v):a.eval x=Yc E v/\v.kb s.nx:=by
 cases x with
 | tmp t=>exact ⟨Zat (b.hL t v h),b.wf.hL t v h⟩
 | const c=>exact ⟨(Zid h E s.nx).1.symm,(Zid h E s.nx).2⟩
 | global g=>cases h;exact ⟨rfl,rfl⟩
 | func f=>cases h;exact ⟨rfl,by simp [SV.kb,SC.kb]⟩
theorem QP {E:Env} (e:∀ k,(E.ρ k).oneCell'=true) {n:Nat}:∀ {x:SC},x.kb n->(ZZ E x).oneCell'=true
 | .i _ _,_ | .b _,_ | .s _,_ | .nil,_ | .bp _ _,_ | .cl _ _ _,_ | .sp _ _ _ _,_=>rfl
 | .v _,h=>h
 | .sl k,_=>e k
 | .px k j,_=>by
  show (WC (E.ρ k) j).oneCell'=true
  unfold WC;split<;>first | rfl | exact e k
theorem Zoc {E:Env} (b:∀ k,(E.ρ k).oneCell'=true) {n:Nat} {x:SC} (h:x.kb n):(ZZ E x).cells=#[ZZ E x]:=by
 have:=QP b h
 revert this
 cases ZZ E x<;>simp [Value.oneCell',Value.cells]
end
section
variable [LxP]
def WO (d:TD) (off:Nat) (cs:List SC):Option SV :=
 bif d.ag then (bif Nat.beq ((cs.drop off).take d.sz).length d.sz then some (.a ((cs.drop off).take d.sz)) else none)
 else match cs[off]? with
  | some c=>some (.c c)
  | none=>none
def Zav (op:BinOp) (k:IntKind) (a b:Int) (yo:Operand):Option SC :=
 match op with
 | .add=>some (.i k (k.wrap (a+b)))
 | .sub=>some (.i k (k.wrap (a-b)))
 | .mul=>some (.i k (k.wrap (a * b)))
 | .eql=>some (.b (a==b))
 | .neq=>some (.b (a != b))
 | .lss=>some (.b (decide (a < b)))
 | .leq=>some (.b (decide (a<=b)))
 | .gtr=>some (.b (decide (a > b)))
 | .geq=>some (.b (decide (a>=b)))
 | .quo=>match yo with
  | .const (.int _ n)=>bif n==0 then none else some (.i k (k.wrap (a.tdiv n)))
  | _=>none
 | .rem=>match yo with
  | .const (.int _ n)=>bif n==0 then none else some (.i k (a.tmod n))
  | _=>none
 | _=>none
def ZfB (tt:List (Nat × TD)) (op:BinOp) (t:TypeId) (x y:SV) (yo:Operand):Option SV :=
 match x,y with
 | .c (.i k a),.c (.i k' b)=>bif decide (k=k') then (match Zav op k a b yo with | some c=>some (.c c) | none=>none) else none
 | .c (.b a),.c (.b b)=>match ZQ tt t with
  | some d=>bif Nat.beq d.kd 1 then (match op with
   | .eql=>some (.c (.b (a==b)))
   | .neq=>some (.c (.b (!(a==b))))
   | _=>none) else none
  | none=>none
 | .c (.s a),.c (.s b)=>match op with
  | .eql=>some (.c (.b (a.toList==b.toList)))
  | .neq=>some (.c (.b (!(a.toList==b.toList))))
  | .lss=>some (.c (.b (Op.bytesLess a.toList b.toList)))
  | .leq=>some (.c (.b (Op.bytesLess a.toList b.toList || a.toList==b.toList)))
  | .gtr=>some (.c (.b (!(Op.bytesLess a.toList b.toList || a.toList==b.toList))))
  | .geq=>some (.c (.b (!(Op.bytesLess a.toList b.toList))))
  | _=>none
 | _,_=>none
def ZeE (V:List (Nat × VF)) (d:TD) (x:SV) (f:Nat):Option SV :=
 match d.fo[f]? with
 | some (o,_,_)=>match x with
  | .c (.bp k off)=>some (.c (.bp k (off+o)))
  | .c (.px k off)=>match ZQ V k with
   | some (.pl _)=>some (.c (.px k (off+o)))
   | some (.el _ _)=>some (.c (.px k (off+o)))
   | _=>none
  | _=>none
 | none=>none
def ZeX (kd:Nat) (s:St):SV->Option SV
 | .c (.s x)=>bif Nat.beq kd 2 then some (.c (.i .i64 x.size)) else none
 | .c .nil=>bif Nat.beq kd 6 then some (.c (.i .i64 0)) else none
 | .c (.sl k)=>bif Nat.beq kd 6 then (match ZQ s.M k with
  | some (.own _ xs _)=>some (.c (.i .i64 xs.length))
  | _=>match ZQ s.V k with
   | some (.sl _ xs)=>some (.c (.i .i64 xs.length))
   | _=>none) else none
 | _=>none
def XJ (a b:Int):Int:=if b < a then b else a
def Wy (a b:Int):Int:=if b > a then b else a
def Gr (f:Int->Int->Int) (k:IntKind):Int->List SV->Option Int
 | acc,[]=>some acc
 | acc,.c (.i k' m)::r=>bif decide (k=k') then Gr f k (f acc m) r else none
 | _,_::_=>none
def ZaF (f:Int->Int->Int):List SV->Option SV
 | .c (.i k n)::r=>match Gr f k n r with
  | some m=>some (.c (.i k m))
  | none=>none
 | _=>none
def V7 (L:List (Nat × SV)):List Operand->Option (List SV)
 | []=>some []
 | x::r=>match Yd L x with
  | some v=>match V7 L r with
   | some vs=>some (v::vs)
   | none=>none
  | none=>none
def Ve:SV->Option (List SC)
 | .c x=>some [x]
 | .a cs=>some cs
 | .t _=>none
 | .u=>none
def VE (fo:List (Nat × Nat × Bool)) (L:List (Nat × SV)):List (Nat × Operand)->List SC->Option (List SC)
 | [],cs=>some cs
 | (i,x)::r,cs=>match fo[i]? with
  | some (o,sz,_)=>match Yd L x with
   | some v=>match Ve v with
    | some ps=>bif (Nat.beq ps.length sz && Nat.ble (o+sz) cs.length) then VE fo L r (cs.take o++ps++cs.drop (o+sz)) else none
    | none=>none
   | none=>none
  | none=>none
def W9 (es:Nat):Nat->List (Nat × Nat × Bool)
 | 0=>[]
 | n+1=>W9 es n++[(n * es,es,false)]
def ZfC (tt:List (Nat × TD)) (s:St) (c:Call):Option SV :=
 match c.callee with
 | .builtin .len=>match c.args.toList with
  | [x]=>match c.argTypes.toList with
   | [t]=>match ZQ tt t with
    | some d=>match Yd s.L x with
     | some v=>ZeX d.kd s v
     | none=>none
    | none=>none
   | _=>none
  | _=>none
 | .builtin .min=>match V7 s.L c.args.toList with
  | some vs=>ZaF XJ vs
  | none=>none
 | .builtin .max=>match V7 s.L c.args.toList with
  | some vs=>ZaF Wy vs
  | none=>none
 | _=>none
def RI (L:List (Nat × SV)):List Operand->Option (List Nat)
 | []=>some []
 | x::r=>match Yd L x with
  | some (.c (.bp k 0))=>match RI L r with
   | some ks=>some (k::ks)
   | none=>none
  | _=>none
def GM (tt:List (Nat × TD)) (s:St) (op:Op):Option SV :=
 match op with
 | .move x | .assign x=>Yd s.L x
 | .pick c x y=>match Yd s.L c with
  | some (.c (.b true))=>Yd s.L x
  | some (.c (.b false))=>Yd s.L y
  | _=>none
 | .load t ad=>match ZQ tt t with
  | some d=>match Yd s.L ad with
   | some (.c (.bp k off))=>match ZQ s.M k with
    | some (.box cs _)=>WO d off cs
    | _=>none
   | some (.c (.px k off))=>match ZQ s.V k with
    | some (.pl cs)=>WO d off cs
    | _=>none
   | _=>none
  | none=>none
 | .nilCheck x=>match Yd s.L x with
  | some (.c (.bp k off))=>some (.c (.bp k off))
  | some (.c (.v (.func (.func f) b c)))=>some (.c (.v (.func (.func f) b c)))
  | some (.c (.cl f b c))=>some (.c (.cl f b c))
  | _=>none
 | .binOp bop t x y _=>match Yd s.L x with
  | some vx=>match Yd s.L y with
   | some vy=>ZfB tt bop t vx vy y
   | none=>none
  | none=>none
 | .unOp uop _ x=>match Yd s.L x with
  | some (.c (.b t))=>match uop with
   | .not=>some (.c (.b (!t)))
   | _=>none
  | some (.c (.i k n))=>match uop with
   | .neg=>some (.c (.i k (k.wrap (0-n))))
   | _=>none
  | _=>none
 | .convert src dst x=>match ZQ tt src with
  | some _=>match ZQ tt dst with
   | some d=>match Yd s.L x with
    | some (.c (.i _ n))=>match d.ik with
     | some k'=>some (.c (.i k' (k'.wrap n)))
     | none=>none
    | some (.c (.s y))=>bif Nat.beq d.kd 2 then some (.c (.s y)) else none
    | _=>none
   | none=>none
  | none=>none
 | .fieldAddr t x f=>match ZQ tt t with
  | some d=>match Yd s.L x with
   | some v=>ZeE s.V d v f
   | none=>none
  | none=>none
 | .field t x f=>match ZQ tt t with
  | some d=>match Yd s.L x with
   | some (.a cs)=>match d.fo[f]? with
    | some (o,sz,g)=>bif g then (bif Nat.ble (o+sz) cs.length then some (.a ((cs.drop o).take sz)) else none) else (match cs[o]? with
     | some c=>some (.c c)
     | none=>none)
    | none=>none
   | _=>none
  | none=>none
 | .extract x j=>match Yd s.L x with
  | some (.t vs)=>match vs[j]? with
   | some (.inl c)=>some (.c c)
   | some (.inr cs)=>some (.a cs)
   | none=>none
  | _=>none
 | .build t parts=>match ZQ tt t with
  | some d=>bif Nat.beq d.kd 4 then (match VE d.fo s.L parts.toList d.z with
    | some cs=>some (.a cs)
    | none=>none)
   else (bif Nat.beq d.kd 5 then (match VE (W9 d.es d.n) s.L parts.toList d.z with
    | some cs=>some (.a cs)
    | none=>none) else none)
  | none=>none
 | .makeFunc (.func f) first captured=>match RI s.L first.toList with
  | some fs=>match RI s.L captured.toList with
   | some ks=>some (.c (.cl f fs ks))
   | none=>none
  | none=>none
 | .call c=>ZfC tt s c
 | _=>none
end
section
variable [LxP]
theorem WS (b n j:Nat):(⟨b,n,none⟩:Addr).add j=⟨b,n+j,none⟩:=by
 unfold Addr.add;split<;>simp_all
theorem QL {w:World} {b:Nat} {arr:Array Value} {el:TypeId} {fz:Nat × Nat} (h:w.heap[b]? = some (.cells arr el fz)) (j:Nat) :
  w.cell? ⟨b,j,none⟩=arr[j]? := by simp [World.cell?,h]
theorem Y3 {P:Program} {s:Sem Value} {v:Value} {w w':World} (h:s.run P w=.ok v w') :
  (do pure (Next.value (<- s)):Sem Next).run P w=.ok (.value v) w':=by
 simp only [Sem.run_bind,h,Result.andThen_ok,Sem.run_pure]
section
variable {P:Program} {X:Ctx} {s:St} {E:Env} {F:YB} {w:World} {a:Act} {tt:List (Nat × TD)}
theorem GF {t:TypeId} {d:TD} (h:TD.Ok P t d) {b base off:Nat} {arr:Array Value} {el:TypeId} {fz:Nat × Nat}
  (m:w.heap[b]? = some (.cells arr el fz)) {cs:List SC} (n:∀ (j:Nat) x,cs[j]? = some x->arr[base+j]? = some (ZZ E x)) {v:SV} (e:WO d off cs=some v) :
  (loadVar t ⟨b,base+off,none⟩).run P w=.ok (Yc E v) w:=by
 have ⟨y,r⟩:=h.und
 unfold WO at e
 simp only [loadVar,Sem.run_bind,ZaQ w r,h.agg,Result.andThen_ok]
 cases q:d.ag with
 | true =>
  rw [q] at e
  simp only [cond_true] at e
  cases l:Nat.beq ((cs.drop off).take d.sz).length d.sz with
  | false=>rw [l] at e;cases e
  | true =>
   rw [l] at e
   simp only [cond_true,Option.some.injEq] at e
   subst e
   have i:=Zd l
   simp only [if_true,Sem.run_bind,ZaR w h,Result.andThen_ok,Sem.run_pure]
   have p:=run_loadCells_list (P:=P) w ⟨b,base+off,none⟩ (((cs.drop off).take d.sz).map (ZZ E)) (fun j v o=>by
    rw [List.getElem?_map,Zl] at o
    obtain ⟨x,g,rfl⟩:=o
    rw [WS,QL m]
    rw [List.getElem?_take] at g
    split at g
    ·rw [List.getElem?_drop] at g
     have:=n _ _ g
     rw [show base+off+j=base+(off+j) by omega]
     exact this
    ·cases g)
   rw [List.length_map,i] at p
   rw [p]
   rfl
 | false =>
  rw [q] at e
  simp only [cond_false] at e
  cases g:cs[off]? with
  | none=>rw [g] at e;cases e
  | some x =>
   rw [g] at e
   simp only [Option.some.injEq] at e
   subst e
   simp only [Bool.false_eq_true,if_false,run_load,QL m,n _ _ g]
   rfl
theorem Ze1 {d:TD} {off:Nat} {cs:List SC} {v:SV} {n:Nat} (b:WO d off cs=some v) (h:∀ x∈cs,SC.kb n x):v.kb n:=by
 unfold WO at b
 cases i:d.ag<;>rw [i] at b
 ·simp only [cond_false] at b
  cases e:cs[off]? with
  | none=>rw [e] at b;cases b
  | some x=>rw [e] at b;simp only [Option.some.injEq] at b;subst b;exact h x (Zb e)
 ·simp only [cond_true] at b
  cases g:Nat.beq ((cs.drop off).take d.sz).length d.sz with
  | false=>rw [g] at b;cases b
  | true =>
   rw [g] at b
   simp only [cond_true,Option.some.injEq] at b
   subst b
   exact fun x e=>h x (List.mem_of_mem_drop (List.mem_of_mem_take e))
theorem Zny (g:BinOp) (t:TypeId) (x y:Operand) (k:IntKind) (m n:Int) {c:SC} (h:Zav g k m n y=some c) (i:∀ k' b,y=.const (.int k' b)->b=n) :
  (do eqGuard g t x y (.int k m) (.int k n);binOp g t (.int k m) (.int k n):Sem Value).run P w=.ok (ZZ E c) w/\c.kb s.nx:=by
 cases g<;>simp only [Zav] at h<;>(try (cases h;done))<;>(try (cases h;exact ⟨by simp [eqGuard,binOp,Op.intArith,Op.intCmp,ZZ],trivial⟩))
 ·split at h
  ·rename_i k' b
   obtain rfl:=i k' b rfl
   cases e:(b==0) with
   | true=>rw [e] at h;cases h
   | false =>
    rw [e] at h
    cases h
    have:¬ b=0:=by simpa using e
    exact ⟨by simp [eqGuard,binOp,Op.intDiv,ZZ,this],trivial⟩
  ·cases h
 ·split at h
  ·rename_i k' b
   obtain rfl:=i k' b rfl
   cases e:(b==0) with
   | true=>rw [e] at h;cases h
   | false =>
    rw [e] at h
    cases h
    have:¬ b=0:=by simpa using e
    exact ⟨by simp [eqGuard,binOp,Op.intDiv,ZZ,this],trivial⟩
  ·cases h
theorem TD.Ok.bool {t:TypeId} {d:TD} (h:TD.Ok P t d) (e:d.kd=1):P.underlying t=some .bool:=by
 have b:=h.2.1
 unfold Uq at b
 split at b<;>simp_all
theorem ZoH {t:TypeId} (b:P.underlying t=some .bool) (m n:Bool):(Op.equal t (.bool m) (.bool n)).run P w=.ok (m==n) w:=by
 show (Op.equalIn (9999+1) t (.bool m) (.bool n)).run P w=_
 generalize 9999=d
 simp only [Op.equalIn,Sem.run_bind,Xb b,Result.andThen_ok,Sem.run_pure]
theorem Zr4 (htt:TTOk P tt) (b:BinOp) (t:TypeId) (x y:Operand) {j i v:SV} (h:ZfB tt b t j i y=some v) (o:Yd s.L y=some i) :
  (do eqGuard b t x y (Yc E j) (Yc E i);binOp b t (Yc E j) (Yc E i):Sem Value).run P w=.ok (Yc E v) w/\v.kb s.nx:=by
 unfold ZfB at h
 split at h
 ·rename_i k m k' n
  cases g:decide (k=k') with
  | false=>rw [g] at h;cases h
  | true =>
   rw [g] at h
   obtain rfl:=of_decide_eq_true g
   simp only [cond_true] at h
   cases hi:Zav b k m n y with
   | none=>rw [hi] at h;cases h
   | some c =>
    rw [hi] at h
    cases h
    refine Zny (s:=s) (E:=E) b t x y k m n hi (fun k' r e=>?_)
    subst e
    simp only [Yd,BZ,SQ] at o
    cases o;rfl
 ·rename_i m n
  cases l:ZQ tt t with
  | none=>rw [l] at h;cases h
  | some d =>
   rw [l] at h
   simp only [] at h
   cases g:Nat.beq d.kd 1 with
   | false=>rw [g] at h;cases h
   | true =>
    rw [g] at h
    have q:=(htt.get l).bool (Zd g)
    have p:(Op.equal t (.bool m) (.bool n)).run P w=.ok (m==n) w:=ZoH q m n
    cases b<;>simp only [cond_true] at h<;>(try (cases h;done))<;>cases h
    ·refine ⟨?_,trivial⟩
     show (do pure (Value.bool (<- Op.equal t (.bool m) (.bool n))):Sem Value).run P w=_
     simp only [Sem.run_bind,p,Result.andThen_ok,Sem.run_pure];rfl
    ·refine ⟨?_,trivial⟩
     show (do pure (Value.bool (!(<- Op.equal t (.bool m) (.bool n)))):Sem Value).run P w=_
     simp only [Sem.run_bind,p,Result.andThen_ok,Sem.run_pure];rfl
 ·cases b<;>simp only [] at h<;>(try (cases h;done))<;>cases h <;>
   exact ⟨by simp [eqGuard,binOp,Op.stringOp,Yc,ZZ],trivial⟩
 ·cases h
theorem ZkM (e:Sat X s E F w a) {k:Nat} (h:(∃ cs,ZQ s.V k=some (.pl cs))\/∃ q j,ZQ s.V k=some (.el q j)):∃ b off,E.ρ k=.pointer (some ⟨b,off,none⟩):=by
 rcases h with ⟨cs,h⟩ | ⟨q,j,h⟩
 ·have ⟨b,off,_,_,_,g,_⟩:=e.hV k _ h
  exact ⟨b,off,g⟩
 ·exact (e.hV k _ h).2
theorem ZoM (htt:TTOk P tt) (y:Sat X s E F w a) {t:TypeId} {d:TD} (B:ZQ tt t=some d) {x v:SV} {f:Nat} (h:ZeE s.V d x f=some v) (m:x.kb s.nx) :
  (Instr.fieldAt t (Yc E x) f).run P w=.ok (Yc E v) w/\v.kb s.nx:=by
 unfold ZeE at h
 cases r:d.fo[f]? with
 | none=>rw [r] at h;cases h
 | some q =>
  have ⟨o,sz,g⟩:=q
  rw [r] at h
  simp only [] at h
  have ⟨fs,C,i,I,D,n,z,hi,j,l,_,_⟩:=(htt.get B).field r
  simp only [] at z j l
  have H:(sizeOf C.type).run P w=.ok sz w:=by simp [sizeOf,typeInfo,hi,j]
  have key:∀ b off,(Instr.fieldAt t (.pointer (some ⟨b,off,none⟩)) f).run P w=.ok (.pointer (some ⟨b,off+o,none⟩)) w:=by
   intro b off
   simp [Instr.fieldAt,Xb D,n,Instr.sureAddr,fieldPlace,H,l,z,WS]
  have e:∀ k off,(∃ b A,E.ρ k=.pointer (some ⟨b,A,none⟩))->(Instr.fieldAt t (Yc E (.c (.px k off))) f).run P w=.ok (Yc E (.c (.px k (off+o)))) w:=by
   rintro k off ⟨b,A,G⟩
   simp only [Yc,ZZ,G,WC,key,Nat.add_assoc]
  split at h
  ·cases h
   exact ⟨key _ _,m⟩
  ·rename_i k off
   split at h
   ·rename_i p;cases h;exact ⟨e _ _ (ZkM y (.inl ⟨_,p⟩)),m⟩
   ·rename_i p;cases h;exact ⟨e _ _ (ZkM y (.inr ⟨_,_,p⟩)),m⟩
   ·cases h
  ·cases h
end
end
section
variable [LxP]
section
variable {P:Program} {X:Ctx} {s:St} {E:Env} {F:YB} {w:World} {a:Act} {tt:List (Nat × TD)}
theorem TD.Ok.str {t:TypeId} {d:TD} (h:TD.Ok P t d) (b:Nat.beq d.kd 2=true):P.underlying t=some .string:=by
 have b:=Zd b
 have e:=h.2.1
 unfold Uq at e
 split at e<;>simp_all
theorem TD.Ok.slc {t:TypeId} {d:TD} (h:TD.Ok P t d) (l:Nat.beq d.kd 6=true):∃ i,P.underlying t=some (.slice d.el)/\P.info? d.el=some i/\i.size=d.es/\i.bytes=d.eb/\i.size≠0 /\
  ∃ z,i.zero=some z/\z.cells.size=i.size:=by
 have l:=Zd l
 have g:=h.2.1
 unfold Uq at g
 split at g<;>(try simp_all;done)
 rename_i e r
 simp only [Zc] at g
 have b:=g.1.1.1.2
 have v:d.el=e:=by simpa using g.2
 rw [v]
 rw [Option.any_eq_true_iff_get] at b
 have ⟨m,b⟩:=b
 simp only [Zc,beq_iff_eq,bne_iff_ne,ne_eq] at b
 obtain ⟨⟨⟨n,o⟩,p⟩,j⟩:=b
 rw [Option.any_eq_true_iff_get] at j
 have ⟨q,j⟩:=j
 exact ⟨_,r,(Option.some_get m).symm,n,o,p,_,(Option.some_get q).symm,by simpa using j⟩
theorem Zd7 {α:Type} {R:TRep α} {F w} {xs:List α} {v:Value} (h:SlR R F w xs v):∃ b c,v=.slice b xs.length c:=by
 rcases h with ⟨rfl,_,_,rfl⟩ | ⟨b,off,cap,_,_,_,rfl,_⟩
 ·exact ⟨_,_,rfl⟩
 ·exact ⟨_,_,rfl⟩
theorem HZ {α:Type} {R:TRep α} {F w} {xs:List α} {v:Value} (h:OwnR R F w xs v):∃ b c,v=.slice b xs.length c:=by
 rcases h with ⟨rfl,rfl⟩ | ⟨b,off,cap,_,_,_,rfl,_⟩
 ·exact ⟨_,_,rfl⟩
 ·exact ⟨_,_,rfl⟩
theorem ZpZ (htt:TTOk P tt) (m:Sat X s E F w a) {t ty:TypeId} {d:TD} (i:ZQ tt t=some d) {x v:SV} (h:ZeX d.kd s x=some v) :
  (Builtin.len_ #[t] ty #[Yc E x]).run P w=.ok (Yc E v) w/\v.kb s.nx:=by
 unfold ZeX at h
 split at h
 ·cases e:Nat.beq d.kd 2<;>rw [e] at h<;>cases h
  exact ⟨by simp [Builtin.len_,Xb ((htt.get i).str e),Yc,ZZ,goInt],trivial⟩
 ·cases e:Nat.beq d.kd 6<;>rw [e] at h<;>cases h
  have ⟨_,g,_⟩:=(htt.get i).slc e
  exact ⟨by simp [Builtin.len_,Xb g,Yc,ZZ,goInt],trivial⟩
 ·rename_i k
  cases e:Nat.beq d.kd 6<;>rw [e] at h<;>(try (cases h;done))
  simp only [cond_true] at h
  have ⟨_,g,_⟩:=(htt.get i).slc e
  split at h
  ·rename_i l
   cases h
   have ⟨b,c,j⟩:=HZ (m.hM k _ l)
   exact ⟨by simp [Builtin.len_,Xb g,Yc,ZZ,goInt,j],trivial⟩
  ·split at h
   ·rename_i l
    cases h
    have ⟨b,c,j⟩:=Zd7 (m.hV k _ l)
    exact ⟨by simp [Builtin.len_,Xb g,Yc,ZZ,goInt,j],trivial⟩
   ·cases h
 ·cases h
theorem Gj (j:Sat X s E F w a):∀ {xs:List Operand} {b:List SV},V7 s.L xs=some b->xs.map a.eval=b.map (Yc E)/\∀ v∈b,v.kb s.nx
 | [],b,h=>by cases h;exact ⟨rfl,by simp⟩
 | x::r,b,h=>by
  unfold V7 at h
  cases g:Yd s.L x with
  | none=>rw [g] at h;cases h
  | some v =>
   rw [g] at h
   simp only [] at h
   cases i:V7 s.L r with
   | none=>rw [i] at h;cases h
   | some p =>
    rw [i] at h
    cases h
    have ⟨l,m⟩:=Gj j i
    have ⟨n,o⟩:=j.eval g
    refine ⟨by simp [l,n],?_⟩
    intro u e
    rcases List.mem_cons.1 e with rfl | e
    ·exact o
    ·exact m u e
theorem Zkc (f:Int->Int->Int) (g:Value->Value->Sem Value) (j:∀ k m n,g (.int k m) (.int k n)=pure (.int k (f m n))) (k:IntKind) :
  ∀ (r:List SV) (b m:Int),Gr f k b r=some m->(List.foldlM g (Value.int k b) (r.map (Yc E))).run P w=.ok (.int k m) w
 | [],b,m,h=>by cases h;rfl
 | v::r,b,m,h=>by
  unfold Gr at h
  split at h
  ·rename_i e;cases e
  ·rename_i e
   cases e
   rename_i _ k' n
   cases i:decide (k=k') with
   | false=>rw [i] at h;cases h
   | true =>
    rw [i] at h
    obtain rfl:=of_decide_eq_true i
    simp only [List.map_cons,List.foldlM_cons,Yc,ZZ,j,Sem.run_bind,Sem.run_pure,Result.andThen_ok]
    exact Zkc f g j k r _ m h
  ·cases h
theorem Zkd (f:Int->Int->Int) (g:Value->Value->Sem Value) (i:∀ k m n,g (.int k m) (.int k n)=pure (.int k (f m n))) {e:List SV} {v:SV} (h:ZaF f e=some v) :
  ∃ x rest,e.map (Yc E)=x::rest/\(List.foldlM g x rest).run P w=.ok (Yc E v) w/\v.kb s.nx:=by
 unfold ZaF at h
 split at h
 ·rename_i k n r
  cases b:Gr f k n r with
  | none=>rw [b] at h;cases h
  | some m =>
   rw [b] at h
   cases h
   exact ⟨_,_,rfl,Zkc f g i k r n m b,trivial⟩
 ·cases h
theorem ZoY (e:List Value):∀ (o:Nat) (arr:Array Value),o+e.length<=arr.size ->
  ((e.toArray.zipIdx 0).foldl (fun cs (c,j)=>cs.setIfInBounds (o+j) c) arr).toList=arr.toList.take o++e++arr.toList.drop (o+e.length):=by
 intro o arr g
 have key:∀ (b:List Value) (i:Nat) (arr:Array Value),o+i+b.length<=arr.size ->
   ((b.zipIdx i).foldl (fun cs (c,j)=>cs.setIfInBounds (o+j) c) arr).toList=arr.toList.take (o+i)++b++arr.toList.drop (o+i+b.length):=by
  intro b
  induction b with
  | nil=>intro i arr _;simp
  | cons q b v =>
   intro i arr l
   simp only [Zf] at l
   simp only [List.zipIdx_cons,List.foldl_cons]
   rw [v (i+1) _ (by simp;omega)]
   apply List.ext_getElem?
   intro n
   simp only [Array.toList_setIfInBounds,Zf,List.append_assoc,List.getElem?_append,List.length_take,List.length_set,Array.length_toList,List.getElem?_take,List.getElem?_set,
    List.getElem?_drop,List.getElem?_cons,List.cons_append]
   have m:min (o+(i+1)) arr.size=o+i+1:=by omega
   have p:min (o+i) arr.size=o+i:=by omega
   rw [m,p]
   by_cases h:n < o+i
   ·simp only [show n < o+i+1 by omega,show n < o+(i+1) by omega,h,if_true,if_false,show ¬ o+i=n by omega]
   ·by_cases r:n=o+i
    ·subst r
     simp only [show o+i < o+i+1 by omega,show o+i < o+(i+1) by omega,if_true,if_false,Nat.lt_irrefl,Nat.sub_self]
     simp [show o+i < arr.size by omega]
    ·simp only [show ¬ n < o+i+1 by omega,h,if_false,show ¬ n-(o+i)=0 by omega]
     rw [show n-(o+i)-1=n-(o+i+1) by omega]
     split
     ·rfl
     ·have:¬ o+i=o+(i+1)+b.length+(n-(o+i+1)-b.length):=by omega
      rw [if_neg (by omega)]
      congr 1
      omega
 have:=key e 0 arr (by simpa using g)
 rw [<- Array.foldl_toList,Array.toList_zipIdx]
 simpa using this
theorem GL (g:∀ k,(E.ρ k).oneCell'=true) {v:SV} {b:List SC} (h:Ve v=some b) (e:v.kb s.nx):(Yc E v).cells=(b.map (ZZ E)).toArray/\∀ x∈b,x.kb s.nx:=by
 unfold Ve at h
 split at h
 ·cases h
  exact ⟨by simpa [Yc] using Zoc g e,by intro x i;rw [List.mem_singleton.1 i];exact e⟩
 ·cases h
  exact ⟨rfl,e⟩
 ·cases h
 ·cases h
theorem Zao (C:Sat X s E F w a) (fo:List (Nat × Nat × Bool)) (b:Nat->Option (Nat × Nat)) (K:∀ (i o sz:Nat) (g:Bool),fo[i]? = some (o,sz,g)->b i=some (o,sz)) :
  ∀ (l:List (Nat × Operand)) (cs e:List SC) (arr:Array Value),VE fo s.L l cs=some e->(∀ x∈cs,x.kb s.nx)->arr.toList=cs.map (ZZ E) ->
   ∃ n,Instr.fill b arr (l.map fun (i,x)=>(i,a.eval x))=some n/\n.toList=e.map (ZZ E)/\∀ x∈e,x.kb s.nx
 | [],cs,e,arr,h,hk,ha=>by
  cases h
  exact ⟨arr,rfl,ha,hk⟩
 | (i,x)::r,cs,e,arr,h,hk,ha=>by
  unfold VE at h
  cases G:fo[i]? with
  | none=>rw [G] at h;cases h
  | some q =>
   have ⟨o,sz,g⟩:=q
   rw [G] at h
   simp only [] at h
   cases H:Yd s.L x with
   | none=>rw [H] at h;cases h
   | some v =>
    rw [H] at h
    simp only [] at h
    cases I:Ve v with
    | none=>rw [I] at h;cases h
    | some R =>
     rw [I] at h
     simp only [] at h
     cases B:(Nat.beq R.length sz && Nat.ble (o+sz) cs.length) with
     | false=>rw [B] at h;cases h
     | true =>
      rw [B] at h
      simp only [cond_true] at h
      simp only [Zc] at B
      have O:=Zd B.1
      have W:=Ze B.2
      have ⟨S,T⟩:=C.eval H
      have ⟨N,D⟩:=GL C.one I T
      have U:arr.size=cs.length:=by rw [<- Array.length_toList,ha,List.length_map]
      have A:(Yc E v).cells.size=sz:=by rw [N];simp [O]
      have p:=ZoY (R.map (ZZ E)) o arr (by simp;omega)
      have z:Instr.fill b arr ((i,a.eval x)::(r.map fun (i,x)=>(i,a.eval x))) =
        Instr.fill b ((Yc E v).cells.zipIdx.foldl (fun cs (c,j)=>cs.setIfInBounds (o+j) c) arr) (r.map fun (i,x)=>(i,a.eval x)):=by
       rw [Instr.fill,K _ _ _ _ G,S]
       simp only [A,ne_eq,not_true_eq_false,decide_false,Bool.false_or]
       rw [if_neg (by simp;omega)]
      simp only [List.map_cons]
      rw [z,N]
      refine Zao C fo b K r _ e _ h ?_ ?_
      ·intro y m
       simp only [List.mem_append] at m
       rcases m with (m | m) | m
       ·exact hk y (List.mem_of_mem_take m)
       ·exact D y m
       ·exact hk y (List.mem_of_mem_drop m)
      ·rw [p,ha]
       simp [List.map_take,List.map_drop,O]
theorem ZeA (es:Nat):∀ (n i:Nat) (q:Nat × Nat × Bool),(W9 es n)[i]? = some q->q=(i * es,es,false)
 | 0,i,q,h=>by simp [W9] at h
 | n+1,i,q,h=>by
  have b:∀ n,(W9 es n).length=n:=by intro n;induction n with
   | zero=>rfl
   | succ n g=>simp [W9,g]
  rw [W9,List.getElem?_append,b] at h
  split at h
  ·exact ZeA es n i q h
  ·rename_i j
   have:i-n=0:=by
    rcases Nat.eq_zero_or_pos (i-n) with e | e
    ·exact e
    ·rw [List.getElem?_eq_none (by simp;omega)] at h;cases h
   rw [this] at h
   simp only [List.getElem?_cons_zero,Option.some.injEq] at h
   rw [<- h]
   have:i=n:=by omega
   rw [this]
theorem Zay {t:TypeId} {d:TD} (h:TD.Ok P t d) {n:Nat}:∀ x∈d.z,SC.kb n x:=fun x b=>ZpO (List.all_eq_true.1 h.2.2.1 x b)
theorem ZnD (htt:TTOk P tt) (R:Sat X s E F w a) {t:TypeId} {d:TD} (hd:ZQ tt t=some d) {b:Array (Nat × Operand)} {cs:List SC} :
    (Nat.beq d.kd 4=true/\VE d.fo s.L b.toList d.z=some cs\/Nat.beq d.kd 5=true/\VE (W9 d.es d.n) s.L b.toList d.z=some cs) ->
    (Instr.build t (b.map fun (i,x)=>(i,a.eval x))).run P w=.ok (Yc E (.a cs)) w/\(SV.a cs).kb s.nx:=by
  intro h
  have ok:=htt.get hd
  have ⟨z,S,T⟩:=ZaS w ok
  have O:z.cells.toList=d.z.map (ZZ E):=by rw [T E]
  have B:(b.map fun (i,x)=>(i,a.eval x)).toList=b.toList.map fun (i,x)=>(i,a.eval x):=by simp
  rcases h with ⟨N,h⟩ | ⟨N,h⟩
  · have A:∃ fs,P.underlying t=some (.struct fs)/\UJ P fs.toList d.fo=true:=by
      have N:=Zd N
      have y:=ok.2.1
      unfold Uq at y
      split at y<;>simp_all
    have ⟨fs,A,U⟩:=A
    have hpl:∃ l:Array (Nat × Nat),(fs.mapM (m:=Sem) fun (f:Field)=>do pure (f.offset,<- sizeOf f.type)).run P w=.ok l w/\∀ (i o sz:Nat) (g:Bool),d.fo[i]? = some (o,sz,g)->l[i]? = some (o,sz):=by
      have key:∀ (K:List Field) (fo:List (Nat × Nat × Bool)),UJ P K fo=true ->
          ∃ H:List (Nat × Nat),(K.mapM (m:=Sem) fun (f:Field)=>do pure (f.offset,<- sizeOf f.type)).run P w=.ok H w/\∀ (i o sz:Nat) (g:Bool),fo[i]? = some (o,sz,g)->H[i]? = some (o,sz):=by
        intro K
        induction K with
        | nil =>
          intro fo I
          cases fo with
          | nil=>exact ⟨[],rfl,by simp⟩
          | cons _ _=>simp [UJ] at I
        | cons f K ih =>
          intro fo I
          cases fo with
          | nil=>simp [UJ] at I
          | cons q r =>
            have ⟨o,sz,g⟩:=q
            have ⟨f',i,ds,h1,y,C,h4,_⟩:=ZeF (j:=0) (x:=(o,sz,g)) I rfl
            simp only [List.getElem?_cons_zero,Option.some.injEq] at h1
            subst h1
            simp only [UJ,Zc] at I
            have ⟨H,W,Y⟩:=ih r I.2
            refine ⟨(o,sz)::H,?_,?_⟩
            · have S:(sizeOf f.type).run P w=.ok sz w:=by simp [sizeOf,typeInfo,C,h4]
              simp only [List.mapM_cons,Sem.run_bind,S,Result.andThen_ok,Sem.run_pure,W,y]
            · intro i o' sz' g' hi
              cases i with
              | zero=>simp at hi ⊢;exact ⟨hi.1,hi.2.1⟩
              | succ i=>simpa using Y i o' sz' g' (by simpa using hi)
      have ⟨H,W,Y⟩:=key fs.toList d.fo U
      refine ⟨H.toArray,?_,by simpa using Y⟩
      rw [<- Array.toArray_toList (xs:=fs),List.mapM_toArray]
      simp only [Sem.run_map,W,Result.andThen_ok]
    have ⟨l,Z,hpg⟩:=hpl
    have ⟨p,D,v,G⟩:=Zao R d.fo (l[·]?) hpg b.toList d.z cs z.cells h (Zay ok) O
    refine ⟨?_,G⟩
    have he:p=(cs.map (ZZ E)).toArray:=by apply Array.ext';rw [v]
    unfold Instr.build
    simp only [Sem.run_bind,S,Result.andThen_ok,Xb A,Z,B,D,he]
    rfl
  · have A:∃ n e i,P.underlying t=some (.array n e)/\d.n=n/\P.info? e=some i/\i.size=d.es:=by
      have N:=Zd N
      have y:=ok.2.1
      unfold Uq at y
      split at y<;>(try simp_all;done)
      rename_i n e A
      simp only [Zc,beq_iff_eq] at y
      have C:=y.1.1.1.2
      rw [Option.any_eq_true_iff_get] at C
      have ⟨R,C⟩:=C
      simp only [Zc,beq_iff_eq] at C
      exact ⟨n,e,_,A,y.1.1.1.1.2,(Option.some_get R).symm,C.1⟩
    have ⟨n,e,i,A,hn,hi,hsz⟩:=A
    have hze:(sizeOf e).run P w=.ok d.es w:=by simp [sizeOf,typeInfo,hi,hsz]
    have ⟨p,D,v,G⟩:=Zao R (W9 d.es d.n) (fun i=>some (i * d.es,d.es)) (fun i o sz g hi=>by
      have:=ZeA _ _ _ _ hi;simp only [Zp] at this;rw [this.1,this.2.1]) b.toList d.z cs z.cells h (Zay ok) O
    refine ⟨?_,G⟩
    have he:p=(cs.map (ZZ E)).toArray:=by apply Array.ext';rw [v]
    unfold Instr.build
    simp only [Sem.run_bind,S,Result.andThen_ok,Xb A,hze,B,D,he]
    rfl
end
end
section
variable [LxP]
section
variable {P:Program} {X:Ctx} {s:St} {E:Env} {F:YB} {w:World} {a:Act} {tt:List (Nat × TD)}
theorem Un {o:Oper} {b:Builtin} {args:Array Operand} {e:Array TypeId} (g:o.op=.call { callee:=.builtin b,args:=args,argTypes:=e }) {v:Value} {w':World}
  (h:(builtin b e o.type (args.map fun | .const _=>true | _=>false) (args.map a.eval)).run P w=.ok (.value v) w'):(execOp a.eval o).run P w=.ok (.value v) w':=by
 unfold execOp
 simp only [g,resolve,invoke,Sem.run_bind,Sem.run_pure,Result.andThen_ok]
 exact h
theorem Zr5 (htt:TTOk P tt) (l:Sat X s E F w a) {o:Oper} {c:Call} (m:o.op=.call c) {v:SV} (h:ZfC tt s c=some v) :
  (execOp a.eval o).run P w=.ok (.value (Yc E v)) w/\v.kb s.nx:=by
 have ⟨callee,args,n⟩:=c
 unfold ZfC at h
 simp only [] at h
 split at h
 ·split at h
  ·rename_i x e
   split at h
   ·rename_i t q
    cases r:ZQ tt t with
    | none=>rw [r] at h;cases h
    | some d =>
     rw [r] at h
     simp only [] at h
     cases b:Yd s.L x with
     | none=>rw [b] at h;cases h
     | some B =>
      rw [b] at h
      simp only [] at h
      have ⟨g,_⟩:=l.eval b
      have ⟨i,j⟩:=ZpZ (ty:=o.type) htt l r h
      refine ⟨Un m ?_,j⟩
      have y:args=#[x]:=by apply Array.ext';rw [e]
      have z:n=#[t]:=by apply Array.ext';rw [q]
      subst y z
      simp only [List.map_toArray,List.map_cons,List.map_nil,g]
      exact Y3 i
   ·cases h
  ·cases h
 ·cases b:V7 s.L args.toList with
  | none=>rw [b] at h;cases h
  | some A =>
   rw [b] at h
   simp only [] at h
   have ⟨g,_⟩:=Gj l b
   have ⟨x,rest,i,j,p⟩:=Zkd (P:=P) (s:=s) (E:=E) (w:=w) XJ Builtin.min2 (fun _ _ _=>rfl) h
   refine ⟨Un m ?_,p⟩
   have:(Builtin.min_ n o.type (args.map a.eval)).run P w=.ok (Yc E v) w:=by
    unfold Builtin.min_
    rw [Array.toList_map,g,i]
    exact j
   exact Y3 this
 ·cases b:V7 s.L args.toList with
  | none=>rw [b] at h;cases h
  | some A =>
   rw [b] at h
   simp only [] at h
   have ⟨g,_⟩:=Gj l b
   have ⟨x,rest,i,j,p⟩:=Zkd (P:=P) (s:=s) (E:=E) (w:=w) Wy Builtin.max2 (fun _ _ _=>rfl) h
   refine ⟨Un m ?_,p⟩
   have:(Builtin.max_ n o.type (args.map a.eval)).run P w=.ok (Yc E v) w:=by
    unfold Builtin.max_
    rw [Array.toList_map,g,i]
    exact j
   exact Y3 this
 ·cases h
theorem Zee {X:Ctx} {s:St} {E:Env} {F:YB} {w:World} {a:Act} (i:Sat X s E F w a):∀ {xs:List Operand} {b:List Nat},RI s.L xs=some b ->
  xs.map a.eval=b.map (fun k=>Value.pointer (some ⟨E.β k,0,none⟩))/\∀ k∈b,k < s.nx
 | [],b,h=>by cases h;exact ⟨rfl,by simp⟩
 | x::r,b,h=>by
  unfold RI at h
  split at h
  ·rename_i k p
   cases g:RI s.L r with
   | none=>rw [g] at h;cases h
   | some q =>
    rw [g] at h
    cases h
    have ⟨l,m⟩:=Zee i g
    have ⟨n,o⟩:=i.eval p
    refine ⟨by simp [l,n,Yc,ZZ],fun j e=>?_⟩
    rcases List.mem_cons.1 e with rfl | e
    ·exact o
    ·exact m j e
  ·cases h
theorem Zsv (htt:TTOk P tt) (l:Sat X s E F w a) {o:Oper} {v:SV} (h:GM tt s o.op=some v) :
  (execOp a.eval o).run P w=.ok (.value (Yc E v)) w/\v.kb s.nx:=by
 unfold GM at h
 split at h
 ·rename_i x e
  have ⟨A,q⟩:=l.eval h
  exact ⟨by simp [execOp,e,A],q⟩
 ·rename_i x e
  have ⟨A,q⟩:=l.eval h
  exact ⟨by simp [execOp,e,A],q⟩
 ·rename_i c x y e
  split at h
  ·rename_i C
   have ⟨A,q⟩:=l.eval h
   have ⟨p,_⟩:=l.eval C
   exact ⟨by simp [execOp,e,p,A,Yc,ZZ,asBool],q⟩
  ·rename_i C
   have ⟨A,q⟩:=l.eval h
   have ⟨p,_⟩:=l.eval C
   exact ⟨by simp [execOp,e,p,A,Yc,ZZ,asBool],q⟩
  ·cases h
 ·rename_i t ad e
  cases r:ZQ tt t with
  | none=>rw [r] at h;cases h
  | some d =>
   rw [r] at h
   simp only [] at h
   split at h
   ·rename_i k off m
    split at h
    ·rename_i cs t' hm
     have ⟨p,_⟩:=l.eval m
     have hb:w.heap[E.β k]? = some (.cells (cs.map (ZZ E)).toArray t' (0,0)):=l.hM k _ hm
     have hl:=GF (E:=E) (base:=0) (htt.get r) hb (cs:=cs) (fun j x K=>by simp [K]) h
     rw [Nat.zero_add] at hl
     refine ⟨?_,Ze1 h (l.wf.hM k _ hm).2⟩
     have:(Instr.loadAt t (a.eval ad)).run P w=.ok (Yc E v) w:=by
      rw [p];simp only [Instr.loadAt,Instr.sureAddr,Yc,ZZ,Sem.run_bind,Sem.run_pure,Result.andThen_ok,hl]
     simp only [execOp,e]
     exact Y3 this
    ·cases h
   ·rename_i k off m
    split at h
    ·rename_i cs hm
     have ⟨p,_⟩:=l.eval m
     have ⟨b,o',arr,ty,fz,hv,hF,hh,C⟩:=l.hV k _ hm
     have hl:=GF (E:=E) (base:=o') (htt.get r) hh (cs:=cs) C h
     refine ⟨?_,Ze1 h (l.wf.hV k _ hm).2⟩
     have:(Instr.loadAt t (a.eval ad)).run P w=.ok (Yc E v) w:=by
      rw [p];simp only [Instr.loadAt,Instr.sureAddr,Yc,ZZ,hv,WC,Sem.run_bind,Sem.run_pure,Result.andThen_ok,hl]
     simp only [execOp,e]
     exact Y3 this
    ·cases h
   ·cases h
 ·rename_i x e
  split at h
  ·rename_i m
   have ⟨p,D⟩:=l.eval m
   cases h
   exact ⟨by simp [execOp,e,p,Yc,ZZ],D⟩
  ·rename_i m
   have ⟨p,D⟩:=l.eval m
   cases h
   exact ⟨by simp [execOp,e,p,Yc,ZZ],D⟩
  ·rename_i m
   have ⟨p,D⟩:=l.eval m
   cases h
   exact ⟨by simp [execOp,e,p,Yc,ZZ],D⟩
  ·cases h
 ·rename_i bop t x y _ e
  cases m:Yd s.L x with
  | none=>rw [m] at h;cases h
  | some vx =>
   rw [m] at h
   simp only [] at h
   cases T:Yd s.L y with
   | none=>rw [T] at h;cases h
   | some vy =>
    rw [T] at h
    simp only [] at h
    have ⟨A,_⟩:=l.eval m
    have ⟨q,_⟩:=l.eval T
    have ⟨p,D⟩:=Zr4 (P:=P) (s:=s) (E:=E) (w:=w) htt bop t x y h T
    refine ⟨?_,D⟩
    simp only [execOp,e]
    rw [A,q]
    exact Y3 p
 ·rename_i uop _ x e
  split at h
  ·rename_i t m
   have ⟨p,_⟩:=l.eval m
   split at h
   ·cases h
    exact ⟨by simp [execOp,e,p,Yc,ZZ,Op.unary],trivial⟩
   ·cases h
  ·rename_i k n m
   have ⟨p,_⟩:=l.eval m
   split at h
   ·cases h
    exact ⟨by simp [execOp,e,p,Yc,ZZ,Op.unary,Op.intArith],trivial⟩
   ·cases h
  ·cases h
 ·rename_i src dst x e
  cases R:ZQ tt src with
  | none=>rw [R] at h;cases h
  | some d0 =>
   rw [R] at h
   simp only [] at h
   cases r:ZQ tt dst with
   | none=>rw [r] at h;cases h
   | some d =>
    rw [r] at h
    simp only [] at h
    have ⟨ds0,W⟩:=(htt.get R).und
    split at h
    ·rename_i k n m
     have ⟨p,_⟩:=l.eval m
     split at h
     ·rename_i k' I
      cases h
      have U:P.underlying dst=some (.int k'):=by
       have q:=(htt.get r).2.1
       unfold Uq at q
       split at q<;>simp_all
      exact ⟨by simp [execOp,e,p,Yc,ZZ,convert,Xb W,Xb U,Conv.intToInt],trivial⟩
     ·cases h
    ·rename_i y m
     have ⟨p,_⟩:=l.eval m
     cases I:Nat.beq d.kd 2 with
     | false=>rw [I] at h;cases h
     | true =>
      rw [I] at h
      cases h
      have U:=(htt.get r).str I
      exact ⟨by simp [execOp,e,p,Yc,ZZ,convert,Xb W,Xb U],trivial⟩
    ·cases h
 ·rename_i t x f e
  cases r:ZQ tt t with
  | none=>rw [r] at h;cases h
  | some d =>
   rw [r] at h
   simp only [] at h
   cases m:Yd s.L x with
   | none=>rw [m] at h;cases h
   | some vx =>
    rw [m] at h
    simp only [] at h
    have ⟨A,q⟩:=l.eval m
    have ⟨p,D⟩:=ZoM htt l r h q
    refine ⟨?_,D⟩
    simp only [execOp,e]
    rw [A]
    exact Y3 p
 ·rename_i t x f e
  cases r:ZQ tt t with
  | none=>rw [r] at h;cases h
  | some d =>
   rw [r] at h
   simp only [] at h
   split at h
   ·rename_i cs m
    have ⟨A,q⟩:=l.eval m
    split at h
    ·rename_i o' sz g hf
     have ⟨fs,fl,i,ds,U,Y,N,hi,Z,hne,O,hud⟩:=(htt.get r).field hf
     simp only [] at N Z hne O
     have hz:(sizeOf fl.type).run P w=.ok sz w:=by simp [sizeOf,typeInfo,hi,Z]
     have hia:=ZaQ w hud
     have H:(Instr.field t (Yc E (.a cs)) f).run P w=.ok (Yc E v) w/\v.kb s.nx:=by
      cases hg:g with
      | true =>
       rw [hg] at h
       simp only [cond_true] at h
       cases hb:Nat.ble (o'+sz) cs.length with
       | false=>rw [hb] at h;cases h
       | true =>
        rw [hb] at h
        cases h
        refine ⟨?_,fun y T=>q y (List.mem_of_mem_drop (List.mem_of_mem_take T))⟩
        simp only [Instr.field,Sem.run_bind,Xb U,Result.andThen_ok,Y,Yc,asAgg,Sem.run_pure,part,hia,O,hg,if_true,hz,N]
        congr 2
        apply Array.ext'
        simp [List.map_drop,List.map_take,List.take_drop]
      | false =>
       rw [hg] at h
       simp only [cond_false] at h
       cases C:cs[o']? with
       | none=>rw [C] at h;cases h
       | some c =>
        rw [C] at h
        cases h
        refine ⟨?_,q c (Zb C)⟩
        simp only [Instr.field,Sem.run_bind,Xb U,Result.andThen_ok,Y,Yc,asAgg,Sem.run_pure,part,hia,O,hg,if_false,N,Bool.false_eq_true]
        simp [C]
     refine ⟨?_,H.2⟩
     simp only [execOp,e]
     rw [A]
     exact Y3 H.1
    ·cases h
   ·cases h
 ·rename_i x j e
  split at h
  ·rename_i vs m
   have ⟨A,q⟩:=l.eval m
   split at h
   ·rename_i c K
    cases h
    have:=q _ (Zb K)
    exact ⟨by simp [execOp,e,A,Yc,Instr.extract,K,Tl],this⟩
   ·rename_i cs K
    cases h
    have:=q _ (Zb K)
    exact ⟨by simp [execOp,e,A,Yc,Instr.extract,K,Tl],this⟩
   ·cases h
  ·cases h
 ·rename_i t G e
  cases r:ZQ tt t with
  | none=>rw [r] at h;cases h
  | some d =>
   rw [r] at h
   simp only [] at h
   have key:∀ cs,(Nat.beq d.kd 4=true/\VE d.fo s.L G.toList d.z=some cs\/Nat.beq d.kd 5=true/\VE (W9 d.es d.n) s.L G.toList d.z=some cs) ->
     (execOp a.eval o).run P w=.ok (.value (Yc E (.a cs))) w/\(SV.a cs).kb s.nx:=by
    intro cs C
    have ⟨p,D⟩:=ZnD htt l r C
    refine ⟨?_,D⟩
    simp only [execOp,e]
    exact Y3 p
   cases I:Nat.beq d.kd 4 with
   | true =>
    rw [I] at h
    simp only [cond_true] at h
    split at h
    ·rename_i cs hf
     cases h
     exact key cs (.inl ⟨I,hf⟩)
    ·cases h
   | false =>
    rw [I] at h
    simp only [cond_false] at h
    cases S:Nat.beq d.kd 5 with
    | false=>rw [S] at h;cases h
    | true =>
     rw [S] at h
     simp only [cond_true] at h
     split at h
     ·rename_i cs hf
      cases h
      exact key cs (.inr ⟨S,hf⟩)
     ·cases h
 ·rename_i f first B e
  cases A:RI s.L first.toList with
  | none=>rw [A] at h;cases h
  | some fs =>
   rw [A] at h
   simp only [] at h
   cases q:RI s.L B.toList with
   | none=>rw [q] at h;cases h
   | some ks =>
    rw [q] at h
    cases h
    have ⟨e1,k1⟩:=Zee l A
    have ⟨e2,k2⟩:=Zee l q
    refine ⟨?_,k1,k2⟩
    have q1:first.map a.eval=WD E fs:=by apply Array.ext';rw [Array.toList_map,e1];simp [WD]
    have q2:B.map a.eval=WD E ks:=by apply Array.ext';rw [Array.toList_map,e2];simp [WD]
    simp only [execOp,e]
    refine Y3 ?_
    simp only [Instr.makeFunc,q1,q2,Yc,ZZ,Sem.run_pure]
 ·rename_i c e
  exact Zr5 htt l e h
 ·cases h
end
end
section
variable [LxP]
theorem Oper.wp_imp {P:Program} {o:Oper} {a:Act} {w:World} {K i:Act->World->Prop} {j:Exit->Act->World->Prop} (h:∀ a w,K a w->i a w)
  (b:o.wp P a w K (fun _ _ _=>False)):o.wp P a w i j:=by
 unfold Oper.wp at *
 unfold Oper.upon at *
 split at b
 ·exact h _ _ b
 ·exact h _ _ b
 ·exact h _ _ b
 ·refine Calls.mono b fun e w' g=>?_
  split at g
  ·exact h _ _ g
  ·exact g.elim
  ·have ⟨_,_,l⟩:=g;exact l.elim
 ·exact Rows.mono b fun v w' g=>h _ _ g
 ·exact b.elim
 ·exact b.elim
section
variable {X:Ctx} {s:St} {E:Env} {F:YB} {w:World} {a:Act}
theorem getElem?_put {a:Act} {d:Tmp} {v:Value} (h:d < a.tmps.size) (j:Nat):(a.put (some d) v).tmps[j]? = if d=j then some v else a.tmps[j]? := by
 simp only [Act.put]
 by_cases e:d=j
 ·subst e;simp [h]
 ·simp [e]
theorem ZkL (a:Act) (d:Option Tmp) (v:Value):(a.put d v).tmps.size=a.tmps.size:=by cases d<;>simp [Act.put]
theorem Zfl (a:Act) (d:Option Tmp) (v:Value):(a.put d v).defers=a.defers:=by cases d<;>simp [Act.put]
theorem Sat.setL (b:Sat X s E F w a) {d:Nat} {v:SV} (g:v.kb s.nx) (i:d < X.fn.ntmps):Sat X ⟨(d,v)::s.L,s.M,s.V,s.nx⟩ E F w (a.put (some d) (Yc E v)) where
 wf:=⟨fun j l h=>by
   rw [YG] at h
   split at h
   ·cases h;exact g
   ·exact b.wf.hL _ _ h,b.wf.hM,b.wf.hV⟩
 nk:=b.nk
 defers:=by rw [Zfl];exact b.defers
 size:=by rw [ZkL];exact b.size
 hL:=fun j l h=>by
  rw [getElem?_put (by rw [b.size];exact i)]
  rw [YG] at h
  split at h
  ·rename_i e;cases h;rw [if_pos e]
  ·rename_i e;rw [if_neg e];exact b.hL _ _ h
 hV:=b.hV
 hM:=b.hM
 dis:=b.dis
 mF:=b.mF
 fresh:=b.fresh
 hF:=b.hF
 hF0:=b.hF0
 hF1:=b.hF1
 hn0:=b.hn0
 hZ:=b.hZ
 ext:=b.ext
 link:=b.link
 one:=b.one
theorem Sat.world {w':World} (e:Sat X s E F w a) (l:w'.os=w.os) (n:w'.tape=w.tape) (o:Oq w w') (g:w.heap.size<=w'.heap.size)
  (j:∀ b,b < w.heap.size->w'.heap[b]? = w.heap[b]?):Sat X s E F w' a where
 wf:=e.wf
 nk:=e.nk
 defers:=e.defers
 size:=e.size
 hL:=e.hL
 hV:=fun k f h=>(e.hV k f h).mono ⟨fun _ h=>h,fun b hF=>j b (e.hF b hF)⟩
 hM:=fun k m h=>(e.hM k m h).mono ⟨fun _ h=>h,fun b hF=>j b (e.hF b hF)⟩ fun b i=>j b (e.mF k m h b i).2.2
 dis:=e.dis
 mF:=fun k m h b i=>⟨(e.mF k m h b i).1,(e.mF k m h b i).2.1,Zh (e.mF k m h b i).2.2 g⟩
 fresh:=e.fresh
 hF:=fun b hF=>Zh (e.hF b hF) g
 hF0:=e.hF0
 hF1:=e.hF1
 hn0:=e.hn0
 hZ:=e.hZ
 ext:=e.ext.trans ⟨l,n,o,g,fun b p=>j b (Zh (e.hZ b p) e.ext.size)⟩
 link:=e.link
 one:=e.one
theorem Sat.env {j:Env} (e:Sat X s E F w a) (g:E.Eqb s.nx j) (o:∀ k,(j.ρ k).oneCell'=true):Sat X s j F w a where
 wf:=e.wf
 nk:=e.nk
 defers:=e.defers
 size:=e.size
 hL:=fun d v h=>by rw [Zab g (e.wf.hL d v h)];exact e.hL d v h
 hV:=fun k f h=>by
  have:=(e.hV k f h).eqb g (e.wf.hV k f h).2
  rw [(g k (e.wf.hV k f h).1).1];exact this
 hM:=fun k m h=>(e.hM k m h).eqb g (e.wf.hM k m h).1 (e.wf.hM k m h).2
 dis:=fun k k' m m' h n l b i=>by
  rw [MO.fp_eqb g (e.wf.hM k m h).1] at i
  rw [MO.fp_eqb g (e.wf.hM k' m' n).1]
  exact e.dis k k' m m' h n l b i
 mF:=fun k m h b i=>e.mF k m h b ((MO.fp_eqb g (e.wf.hM k m h).1).1 i)
 fresh:=fun k m h p b i=>e.fresh k m h p b ((MO.fp_eqb g (e.wf.hM k m h).1).1 i)
 hF:=e.hF
 hF0:=e.hF0
 hF1:=e.hF1
 hn0:=e.hn0
 hZ:=e.hZ
 ext:=e.ext
 link:=e.link.trans (g.mono e.nk)
 one:=o
theorem St.Wf.grow {s:St} (h:s.Wf) {n:Nat} (b:s.nx<=n):St.Wf ⟨s.L,s.M,s.V,n⟩ :=
 ⟨fun d v g=>(h.hL d v g).mono b,fun k m g=>⟨Zh (h.hM k m g).1 b,(h.hM k m g).2.mono b⟩,fun k f g=>⟨Zh (h.hV k f g).1 b,(h.hV k f g).2.mono b⟩⟩
theorem Sat.nxt (b:Sat X s E F w a) {n:Nat} (e:s.nx<=n):Sat X ⟨s.L,s.M,s.V,n⟩ E F w a :=
 { b with wf:=b.wf.grow e,nk:=Nat.le_trans b.nk e }
theorem Sat.addM {m:MO} (g:Sat X s E F w a) (x:m.ok E F w s.nx) (y:m.kb (s.nx+1))
  (i:∀ b,m.fp E s.nx b->¬ F b/\X.w0.heap.size<=b/\b < w.heap.size/\∀ k m',ZQ s.M k=some m'->¬ m'.fp E k b) :
  Sat X ⟨s.L,(s.nx,m)::s.M,s.V,s.nx+1⟩ E F w a where
 wf:=⟨(g.wf.grow (Nat.le_succ _)).hL,fun k m' h=>by
   rw [YG] at h
   split at h
   ·rename_i e;cases h;subst e;exact ⟨Nat.lt_succ_self _,y⟩
   ·exact (g.wf.grow (Nat.le_succ _)).hM k m' h,(g.wf.grow (Nat.le_succ _)).hV⟩
 nk:=Nat.le_succ_of_le g.nk
 defers:=g.defers
 size:=g.size
 hL:=g.hL
 hV:=g.hV
 hM:=fun k m' h=>by
  rw [YG] at h
  split at h
  ·rename_i e;cases h;subst e;exact x
  ·exact g.hM k m' h
 dis:=fun k k' r v n l o b j=>by
  rw [YG] at n l
  split at n
  ·rename_i B
   cases n;subst B
   split at l
   ·rename_i q;exact absurd q o
   ·exact (i b j).2.2.2 k' v l
  ·split at l
   ·rename_i q
    cases l;subst q
    exact fun p=>(i b p).2.2.2 k r n j
   ·exact g.dis k k' r v n l o b j
 mF:=fun k m' h b j=>by
  rw [YG] at h
  split at h
  ·rename_i e;cases h;subst e
   exact ⟨(i b j).1,fun z=>absurd (g.hZ b z) (Nat.not_lt.2 (i b j).2.1),(i b j).2.2.1⟩
  ·exact g.mF k m' h b j
 fresh:=fun k m' h A b j=>by
  rw [YG] at h
  split at h
  ·rename_i e;cases h;subst e;exact Nat.le_trans g.hn0 (i b j).2.1
  ·exact g.fresh k m' h A b j
 hF:=g.hF
 hF0:=g.hF0
 hF1:=g.hF1
 hn0:=g.hn0
 hZ:=g.hZ
 ext:=g.ext
 link:=g.link
 one:=g.one
theorem Sat.addV {f:VF} (b:Sat X s E F w a) (i:f.ok E F w (E.ρ s.nx)) (j:f.kb (s.nx+1)) :
  Sat X ⟨s.L,s.M,(s.nx,f)::s.V,s.nx+1⟩ E F w a :=
 { b with
  wf:=⟨(b.wf.grow (Nat.le_succ _)).hL,(b.wf.grow (Nat.le_succ _)).hM,fun k g h=>by
   rw [YG] at h
   split at h
   ·rename_i e;cases h;subst e;exact ⟨Nat.lt_succ_self _,j⟩
   ·exact (b.wf.grow (Nat.le_succ _)).hV k g h⟩
  nk:=Nat.le_succ_of_le b.nk
  hV:=fun k g h=>by
   rw [YG] at h
   split at h
   ·rename_i e;cases h;subst e;exact i
   ·exact b.hV k g h }
theorem Sat.setM {m m':MO} {k:Nat} {w':World} (g:Sat X s E F w a) (o:ZQ s.M k=some m) (K:w'.os=w.os) (N:w'.tape=w.tape) (O:Oq w w')
  (p:w.heap.size<=w'.heap.size) (i:∀ b,b < w.heap.size->¬ m.fp E k b->w'.heap[b]? = w.heap[b]?) (q:∀ b,m'.fp E k b->m.fp E k b) (y:m'.ok E F w' k)
  (z:m'.kb s.nx) (A:m'.isFresh=true->m.isFresh=true):Sat X ⟨s.L,(k,m')::s.M,s.V,s.nx⟩ E F w' a where
 wf:=⟨g.wf.hL,fun j l h=>by
   rw [YG] at h
   split at h
   ·rename_i e;cases h;subst e;exact ⟨(g.wf.hM k m o).1,z⟩
   ·exact g.wf.hM j l h,g.wf.hV⟩
 nk:=g.nk
 defers:=g.defers
 size:=g.size
 hL:=g.hL
 hV:=fun j f h=>(g.hV j f h).mono ⟨fun _ h=>h,fun b hF=>i b (g.hF b hF) fun n=>(g.mF k m o b n).1 hF⟩
 hM:=fun j l h=>by
  rw [YG] at h
  split at h
  ·rename_i e;cases h;subst e;exact y
  ·rename_i e
   exact (g.hM j l h).mono ⟨fun _ h=>h,fun b hF=>i b (g.hF b hF) fun n=>(g.mF k m o b n).1 hF⟩
    fun b n=>i b (g.mF j l h b n).2.2 fun B=>g.dis k j m l o h e b B n
 dis:=fun j G H l x v r b i=>by
  rw [YG] at x v
  split at x
  ·rename_i R
   cases x;subst R
   split at v
   ·rename_i D;exact absurd D r
   ·exact g.dis k G m l o v r b (q b i)
  ·split at v
   ·rename_i D
    cases v;subst D
    exact fun C=>g.dis j k H m x o r b i (q b C)
   ·exact g.dis j G H l x v r b i
 mF:=fun j l h b i=>by
  rw [YG] at h
  split at h
  ·rename_i e;cases h;subst e
   have:=g.mF k m o b (q b i)
   exact ⟨this.1,this.2.1,Zh this.2.2 p⟩
  ·have:=g.mF j l h b i
   exact ⟨this.1,this.2.1,Zh this.2.2 p⟩
 fresh:=fun j l h n b i=>by
  rw [YG] at h
  split at h
  ·rename_i e;cases h;subst e;exact g.fresh k m o (A n) b (q b i)
  ·exact g.fresh j l h n b i
 hF:=fun b hF=>Zh (g.hF b hF) p
 hF0:=g.hF0
 hF1:=g.hF1
 hn0:=g.hn0
 hZ:=g.hZ
 ext:=g.ext.trans ⟨K,N,O,p,fun b I=>i b (Zh (g.hZ b I) g.ext.size) fun n=>(g.mF k m o b n).2.1 I⟩
 link:=g.link
 one:=g.one
theorem Sat.drop {k:Nat} {m:MO} (b:Sat X s E F w a) (e:ZQ s.M k=some m):Sat X ⟨s.L,(k,.gone)::s.M,s.V,s.nx⟩ E F w a :=
 b.setM e rfl rfl .m (Zo _) (fun _ _ _=>rfl) (fun _ h=>h.elim) trivial trivial (fun h=>by cases h)
theorem Q7 {P:Program} (g o:Nat) (t:TypeId) (fz:Nat × Nat):∀ (l:List Value) (i:Nat) (b:Array Value) (w:World),w.heap[g]? = some (.cells b t fz)->RC fz b.size ->
  o+i+l.length<=b.size->(∀ v∈l,v.oneCell'=true) ->
  (storeCells ⟨g,o,none⟩ l i).run P w=.ok () (w.setRow g (b.toList.take (o+i)++l++b.toList.drop (o+i+l.length)).toArray)
 | [],i,b,w,hg,_,_,_=>by
  simp only [storeCells,List.append_nil,List.length_nil,Nat.add_zero,List.take_append_drop,Array.toArray_toList]
  have:w.setRow g b=w:=by
   have A:g < w.heap.size:=(Array.getElem?_eq_some_iff.1 hg).1
   have y:w.heap[g]=.cells b t fz:=(Array.getElem?_eq_some_iff.1 hg).2
   unfold World.setRow
   cases w with
   | mk heap L H T z =>
    congr 1
    apply Array.ext
    ·simp
    ·intro k j I
     simp only [Array.getElem_modify]
     split
     ·rename_i p;subst p;simp at y;simp [y]
     ·rfl
  rw [this]
  rfl
 | v::rest,i,b,w,hg,ht,hl,j=>by
  have hi:o+i < b.size:=by simp at hl;omega
  have h:w.cell? ⟨g,o+i,none⟩=some b[o+i]:=by simp [World.cell?,hg,hi]
  have q:w.frozen? ⟨g,o+i,none⟩=false:=by
   have:=ht (o+i) hi
   have ⟨lo,O⟩:=fz
   simpa [World.frozen?,hg] using this
  have r:w.setCell ⟨g,o+i,none⟩ v=w.setRow g (b.setIfInBounds (o+i) v):=by
   have A:g < w.heap.size:=(Array.getElem?_eq_some_iff.1 hg).1
   have y:w.heap[g]=.cells b t fz:=(Array.getElem?_eq_some_iff.1 hg).2
   unfold World.setCell World.setRow
   congr 1
   apply Array.ext
   ·simp
   ·intro k j I
    simp only [Array.getElem_modify]
    split
    ·rename_i p;subst p;simp [y]
    ·rfl
  have B:(store ((⟨g,o,none⟩:Addr).add i) v).run P w=.ok () (w.setRow g (b.setIfInBounds (o+i) v)):=by
   rw [WS,run_store P w _ v _ (j v (by simp)),h]
   simp [q,r]
  have R:=Q7 (P:=P) g o t fz rest (i+1) (b.setIfInBounds (o+i) v) (w.setRow g (b.setIfInBounds (o+i) v)) (setRow_heap w g b _ t _ hg)
   (by rw [Array.size_setIfInBounds];exact ht) (by simp at hl ⊢;omega) (fun x N=>j x (by simp [N]))
  have C:∀ (m e:Array Value),(w.setRow g m).setRow g e=w.setRow g e:=by
   intro m e
   unfold World.setRow
   congr 1
   apply Array.ext
   ·simp
   ·intro k j I
    simp only [Array.getElem_modify]
    split
    ·rename_i p;subst p;cases w.heap[g]'(by simpa using j)<;>rfl
    ·rfl
  simp only [storeCells,Sem.run_bind,B,Result.andThen_ok,R,C]
  congr 3
  apply List.ext_getElem?
  intro n
  simp only [Array.toList_setIfInBounds,Zf,List.append_assoc,List.getElem?_append,List.length_take,List.length_set,Array.length_toList,List.getElem?_take,List.getElem?_set,
   List.getElem?_drop,List.getElem?_cons,List.cons_append]
  simp only [Zf] at hl
  have D:min (o+(i+1)) b.size=o+i+1:=by omega
  have G:min (o+i) b.size=o+i:=by omega
  rw [D,G]
  by_cases K:n < o+i
  ·simp only [show n < o+i+1 by omega,show n < o+(i+1) by omega,K,if_true,if_false,show ¬ o+i=n by omega]
  ·by_cases S:n=o+i
   ·subst S
    simp only [show o+i < o+i+1 by omega,show o+i < o+(i+1) by omega,if_true,if_false,Nat.lt_irrefl,Nat.sub_self]
    simp [show o+i < b.size by omega]
   ·simp only [show ¬ n < o+i+1 by omega,K,if_false,show ¬ n-(o+i)=0 by omega]
    rw [show n-(o+i)-1=n-(o+i+1) by omega]
    split
    ·rfl
    ·rw [if_neg (by omega)]
     congr 1
     omega
end
end
section
variable [LxP]
def WPr (X:Ctx) (ops:Array Oper) (ZW:List Nat) (todo:Act->World->Prop) (s:St):Prop :=
 ∀ E F w a,Sat X s E F w a->wpOps X.P ops (fun e a' w'=>e=.normal/\todo a' w') ZW a w
abbrev rk (X:Ctx) (k:List Item):Act->World->Prop:=fun a w=>Runs X.P X.f X.post a k w
section
variable {X:Ctx} {s s':St} {ops:Array Oper} {todo:Act->World->Prop} {k':List Item} {tt:List (Nat × TD)}
theorem WPr.nil (h:WP X k' s):WPr X ops [] (rk X k') s:=fun E F w a b=>⟨rfl,h E F w a b⟩
theorem Zfz {c:Code} {a:Act} {w:World} (h:c.wp X.P (fun e i w'=>e=.normal/\Runs X.P X.f X.post i k' w') a w) :
  Runs X.P X.f X.post a (.code c::k') w:=fun b cs j l=>by
 obtain ⟨e,i,w',⟨m,n⟩,g⟩:=h b k' cs
 subst m
 have ⟨v,w2,fr,o,p,q,r⟩:=n b cs j l
 exact ⟨v,w2,fr,o,g.trans p,q,r⟩
theorem WP.region {id:Nat} (h:WPr X ops (List.range ops.size) (rk X k') s):WP X (.code (.region id ops false)::k') s :=
 fun E F w a b=>Zfz (wp_region (h E F w a b))
def YO (ops:Array Oper) (L:List (Nat × SV)) (o:Oper):Option Bool :=
 match o.guard with
 | none=>some true
 | some (j,want)=>match ops[j]? with
  | some oj=>match oj.dst with
   | some d=>match ZQ L d with
    | some (.c (.b t))=>match t with
     | true=>some want
     | false=>some (!want)
    | some .u=>some false
    | _=>none
   | none=>none
  | none=>none
theorem QV {E F w a} (l:Sat X s E F w a) {o:Oper} {t:Bool} (h:YO ops s.L o=some t):Region.wanted o (yielded ops a.tmps)=t:=by
 unfold YO at h
 unfold Region.wanted
 split at h
 ·rename_i e;rw [e];cases h;rfl
 ·rename_i j b e
  rw [e]
  simp only []
  split at h
  ·rename_i q m
   split at h
   ·rename_i d n
    split at h
    ·rename_i p g
     have i:=l.hL d _ g
     have:yielded ops a.tmps j=some p:=by
      unfold yielded;simp [m,n,i,Yc,ZZ]
     rw [this]
     cases p<;>simp only [Option.some.injEq] at h<;>subst h<;>cases b<;>rfl
    ·rename_i g
     have i:=l.hL d _ g
     have:yielded ops a.tmps j=none:=by
      unfold yielded;simp [m,n,i,Yc,undef]
     rw [this]
     cases h;cases b<;>rfl
    ·cases h
   ·cases h
  ·cases h
theorem WPr.op {i:Nat} {rest:List Nat} {o:Oper} (m:ops[i]? = some o) (n:YO ops s.L o=some true)
  (h:∀ E F w a,Sat X s E F w a->o.wp X.P a w (fun b w'=>∃ e g,Sat X s' e g w' b) (fun _ _ _=>False)) (k:WPr X ops rest todo s'):WPr X ops (i::rest) todo s:=by
 intro E F w a l
 simp only [wpOps,m,QV l n,if_true]
 exact .inl (Oper.wp_imp (fun b w' ⟨e,g,j⟩=>k e g w' b j) (h E F w a l))
theorem WPr.skip {i:Nat} {rest:List Nat} {o:Oper} {d:Nat} (e:ops[i]? = some o) (g:YO ops s.L o=some false) (h:o.dst=some d) (j:d < X.fn.ntmps)
  (k:WPr X ops rest todo ⟨(d,.u)::s.L,s.M,s.V,s.nx⟩):WPr X ops (i::rest) todo s:=by
 intro E F w a b
 simp only [wpOps,e,QV b g,Bool.false_eq_true,if_false,h]
 exact k E F w _ (b.setL (v:=.u) trivial j)
theorem XW {P:Program} {o:Oper} {a:Act} {w w':World} {v:Value} {K:Act->World->Prop} {Q:Exit->Act->World->Prop}
  (h:(execOp a.eval o).run P w=.ok (.value v) w') (k:K (a.put o.dst v) w'):o.wp P a w K Q:=by
 unfold Oper.wp;rw [h];exact k
theorem ZfZ {P:Program} {o:Oper} {a:Act} {w w':World} {K:Act->World->Prop} {Q:Exit->Act->World->Prop}
  (h:(execOp a.eval o).run P w=.ok .skip w') (k:K (a.put o.dst undef) w'):o.wp P a w K Q:=by
 unfold Oper.wp;rw [h];exact k
theorem Sat.allocBox {E F w a} (g:Sat X s E F w a) {cs:List SC} {t:TypeId} (n:∀ x∈cs,SC.kb s.nx x) :
  ∃ q,q.β s.nx=w.heap.size/\Sat X ⟨s.L,(s.nx,.box cs t)::s.M,s.V,s.nx+1⟩ q F (w.alloc (.cells (cs.map (ZZ E)).toArray t)) a:=by
 have l:w.heap.size<=(w.alloc (.cells (cs.map (ZZ E)).toArray t)).heap.size:=by simp
 have p:=g.world (w':=w.alloc (.cells (cs.map (ZZ E)).toArray t)) rfl rfl .m l (fun b j=>heap_alloc_old w _ b j)
 have i:E.Eqb s.nx (E.setβ s.nx w.heap.size):=E.eqb_setβ _ _ _ (Zo _)
 have v:=p.env i (by intro k;exact g.one k)
 refine ⟨_,by simp [Env.setβ],v.addM ?_ (fun x r=>(n x r).mono (Nat.le_succ _)) ?_⟩
 ·show (w.alloc _).heap[(E.setβ s.nx w.heap.size).β s.nx]? = _
  have:(E.setβ s.nx w.heap.size).β s.nx=w.heap.size:=by simp [Env.setβ]
  rw [this,MU i n]
  exact heap_alloc_new w _
 ·intro b j
  have e:b=w.heap.size:=by
   have:b=(E.setβ s.nx w.heap.size).β s.nx:=j
   simpa [Env.setβ] using this
  subst e
  refine ⟨fun hF=>absurd (g.hF _ hF) (Nat.lt_irrefl _),g.ext.size,by simp,fun k m' h o=>?_⟩
  have:=(p.mF k m' h w.heap.size ((MO.fp_eqb i (g.wf.hM k m' h).1).1 o))
  have y:=(g.mF k m' h w.heap.size ((MO.fp_eqb i (g.wf.hM k m' h).1).1 o)).2.2
  exact absurd y (Nat.lt_irrefl _)
theorem Sat.storeBox {E F w a} (l:Sat X s E F w a) {k:Nat} {cs i:List SC} {t:TypeId} (n:ZQ s.M k=some (.box cs t)) {off:Nat} (r:off+i.length<=cs.length)
  (p:∀ x∈i,SC.kb s.nx x):∃ w',(storeCells ⟨E.β k,off,none⟩ (i.map (ZZ E))).run X.P w=.ok () w' /\
   Sat X ⟨s.L,(k,.box (cs.take off++i++cs.drop (off+i.length)) t)::s.M,s.V,s.nx⟩ E F w' a:=by
 have q:w.heap[E.β k]? = some (.cells (cs.map (ZZ E)).toArray t (0,0)):=l.hM k _ n
 have z:=Q7 (P:=X.P) (E.β k) off t (0,0) (i.map (ZZ E)) 0 _ w q (by intro j _;simp) (by simp;omega)
  (by intro v y;obtain ⟨x,g,rfl⟩:=List.mem_map.1 y;exact QP l.one (p x g))
 refine ⟨_,z,l.setM n rfl rfl .m (by simp) (fun b _ o=>setRow_other w _ b _ (fun e=>o e)) (fun _ h=>h) ?_ ?_ (fun h=>by cases h)⟩
 ·have:=setRow_heap w (E.β k) _ ((List.take (off+0) (List.map (ZZ E) cs).toArray.toList++List.map (ZZ E) i++List.drop (off+0+(List.map (ZZ E) i).length) (List.map (ZZ E) cs).toArray.toList).toArray) t (0,0) q
  show (w.setRow _ _).heap[E.β k]? = _
  rw [this]
  congr 3
  simp [List.map_take,List.map_drop]
 ·intro x g
  simp only [List.mem_append] at g
  rcases g with (g | g) | g
  ·exact (l.wf.hM k _ n).2 x (List.mem_of_mem_take g)
  ·exact p x g
  ·exact (l.wf.hM k _ n).2 x (List.mem_of_mem_drop g)
def ZaW (tt:List (Nat × TD)) (n:Nat) (o:Oper):St->Option St
 | ⟨L,M,V,nx⟩=>match o.op with
  | .alloc t=>match ZQ tt t with
   | some d=>match o.dst with
    | some x=>bif Nat.blt x n then some ⟨(x,.c (.bp nx 0))::L,(nx,.box d.z t)::M,V,nx+1⟩ else none
    | none=>none
   | none=>none
  | .box t v=>match Yd L v with
   | some sv=>match Ve sv with
    | some cs=>match o.dst with
     | some x=>bif Nat.blt x n then some ⟨(x,.c (.bp nx 0))::L,(nx,.box cs t)::M,V,nx+1⟩ else none
     | none=>none
    | none=>none
   | none=>none
  | .store t ad v=>match ZQ tt t with
   | some d=>match Yd L ad with
    | some (.c (.bp k off))=>match Yd L v with
     | some sv=>match Ve sv with
      | some ps=>match ZQ M k with
       | some (.box cs t')=>bif (Nat.beq ps.length d.sz && Nat.ble (off+ps.length) cs.length) then (match o.dst with
        | none=>some ⟨L,(k,.box (cs.take off++ps++cs.drop (off+ps.length)) t')::M,V,nx⟩
        | some _=>none) else none
       | _=>none
      | none=>none
     | none=>none
    | _=>none
   | none=>none
  | op=>match GM tt ⟨L,M,V,nx⟩ op with
   | some v=>match o.dst with
    | some x=>bif Nat.blt x n then some ⟨(x,v)::L,M,V,nx⟩ else none
    | none=>none
   | none=>none
theorem YT {a b:Nat} (h:Nat.blt a b=true):a < b:=by
 unfold Nat.blt at h;exact Ze h
theorem Zsb (htt:TTOk X.P tt) {o:Oper} (h:ZaW tt X.fn.ntmps o s=some s'):∀ E F w a,Sat X s E F w a->o.wp X.P a w (fun N w'=>∃ l F',Sat X s' l F' w' N) (fun _ _ _=>False):=by
 intro E F w a g
 have ⟨L,M,V,nx⟩:=s
 unfold ZaW at h
 simp only [] at h
 split at h
 ·rename_i t y
  cases j:ZQ tt t with
  | none=>rw [j] at h;cases h
  | some d =>
   rw [j] at h
   simp only [] at h
   split at h
   ·rename_i x p
    cases b:Nat.blt x X.fn.ntmps with
    | false=>rw [b] at h;cases h
    | true =>
     rw [b] at h
     cases h
     have ⟨z,O,B⟩:=ZaS w (htt.get j)
     have H:=g.allocBox (cs:=d.z) (t:=t) (Zay (htt.get j))
     have ⟨l,m,e⟩:=H
     refine XW (w':=w.alloc (.cells (d.z.map (ZZ E)).toArray t)) (v:=.pointer (some ⟨w.heap.size,0,none⟩)) ?_ ⟨l,F,?_⟩
     ·simp only [execOp,y]
      refine Y3 ?_
      simp only [Instr.alloc,Sem.run_bind,O,Result.andThen_ok,newVar,newRow,run_newObj,Sem.run_pure,B E]
      rfl
     ·have:=e.setL (d:=x) (v:=.c (.bp nx 0)) (Nat.lt_succ_self nx) (YT b)
      simp only [Yc,ZZ] at this
      rw [p]
      rw [show l.β nx=w.heap.size from m] at this
      exact this
   ·cases h
 ·rename_i t v y
  cases i:Yd L v with
  | none=>rw [i] at h;cases h
  | some r =>
   rw [i] at h
   simp only [] at h
   cases q:Ve r with
   | none=>rw [q] at h;cases h
   | some cs =>
    rw [q] at h
    simp only [] at h
    split at h
    ·rename_i x p
     cases b:Nat.blt x X.fn.ntmps with
     | false=>rw [b] at h;cases h
     | true =>
      rw [b] at h
      cases h
      have ⟨C,D⟩:=g.eval i
      have ⟨A,n⟩:=GL (s:=⟨L,M,V,nx⟩) g.one q D
      have ⟨l,m,e⟩:=g.allocBox (cs:=cs) (t:=t) n
      refine XW (w':=w.alloc (.cells (cs.map (ZZ E)).toArray t)) (v:=.pointer (some ⟨w.heap.size,0,none⟩)) ?_ ⟨l,F,?_⟩
      ·simp only [execOp,y]
       refine Y3 ?_
       simp only [Instr.box,newVar,newRow,Sem.run_bind,run_newObj,Result.andThen_ok,Sem.run_pure,C,A]
       rfl
      ·have:=e.setL (d:=x) (v:=.c (.bp nx 0)) (Nat.lt_succ_self nx) (YT b)
       simp only [Yc,ZZ] at this
       rw [p]
       rw [show l.β nx=w.heap.size from m] at this
       exact this
    ·cases h
 ·rename_i t ad v y
  cases j:ZQ tt t with
  | none=>rw [j] at h;cases h
  | some d =>
   rw [j] at h
   simp only [] at h
   split at h
   ·rename_i k off G
    cases i:Yd L v with
    | none=>rw [i] at h;cases h
    | some r =>
     rw [i] at h
     simp only [] at h
     cases q:Ve r with
     | none=>rw [q] at h;cases h
     | some K =>
      rw [q] at h
      simp only [] at h
      split at h
      ·rename_i cs t' W
       cases b:(Nat.beq K.length d.sz && Nat.ble (off+K.length) cs.length) with
       | false=>rw [b] at h;cases h
       | true =>
        rw [b] at h
        simp only [cond_true] at h
        split at h
        ·rename_i p
         cases h
         simp only [Zc] at b
         have Y:=Zd b.1
         have Z:=Ze b.2
         have ⟨C,D⟩:=g.eval i
         have ⟨R,_⟩:=g.eval G
         have ⟨A,n⟩:=GL (s:=⟨L,M,V,nx⟩) g.one q D
         have ⟨w',S,e⟩:=g.storeBox W Z n
         refine ZfZ (w':=w') ?_ ⟨E,F,by rw [p];exact e⟩
         have I:(Instr.storeAt t (Yc E (.c (.bp k off))) (Yc E r)).run X.P w=.ok () w':=by
          have:(Yc E r).cells.size=d.sz:=by rw [A];simp [Y]
          show (Instr.storeAt t (.pointer (some ⟨E.β k,off,none⟩)) (Yc E r)).run X.P w=.ok () w'
          simp only [Instr.storeAt,Instr.sureAddr,Sem.run_bind,Sem.run_pure,Result.andThen_ok,storeVar,ZaR w (htt.get j),this,ne_eq,not_true_eq_false,if_false]
          rw [A]
          exact S
         simp only [execOp,y,C,R,Sem.run_bind,I,Result.andThen_ok,Sem.run_pure]
        ·cases h
      ·cases h
   ·cases h
 ·split at h
  ·rename_i v i
   split at h
   ·rename_i x p
    cases b:Nat.blt x X.fn.ntmps with
    | false=>rw [b] at h;cases h
    | true =>
     rw [b] at h
     cases h
     have ⟨T,U⟩:=Zsv htt g i
     refine XW T ⟨E,F,?_⟩
     rw [p]
     exact g.setL U (YT b)
   ·cases h
  ·cases h
end
end
section
variable [LxP]
structure Ren where
 l:List (Nat × SC)
 a:Nat:=0
 b:Nat:=0
def Ren.sh (κ:Ren) (k:Nat):Nat:=bif Nat.ble κ.a k then κ.b+(k-κ.a) else k
def Ren.sl (κ:Ren) (k:Nat):SC:=match ZQ κ.l k with
 | some c=>c
 | none=>.sl (κ.sh k)
def Ren.bk (κ:Ren) (k:Nat):Nat:=match ZQ κ.l k with
 | some (.bp k' 0)=>k'
 | some _=>0
 | none=>κ.sh k
def Ren.okB (κ:Ren) (k:Nat):Bool:=match ZQ κ.l k with
 | some (.bp _ 0)=>true
 | some _=>false
 | none=>true
def XM (κ:Ren):SC->SC
 | .cl f fs ks=>bif fs.all κ.okB && ks.all κ.okB then .cl f (fs.map κ.bk) (ks.map κ.bk) else .nil
 | .sl k=>κ.sl k
 | .px k off=>match κ.sl k with
  | .sl k'=>.px k' off
  | _=>.nil
 | .bp k off=>match ZQ κ.l k with
  | some (.bp k' 0)=>.bp k' off
  | some _=>.nil
  | none=>.bp (κ.sh k) off
 | .sp _ _ _ _=>.nil
 | c=>c
def ZkV (κ:Ren):SC ⊕ List SC->SC ⊕ List SC
 | .inl c=>.inl (XM κ c)
 | .inr cs=>.inr (cs.map (XM κ))
def Vd (κ:Ren):SV->SV
 | .c x=>.c (XM κ x)
 | .a cs=>.a (cs.map (XM κ))
 | .t vs=>.t (vs.map (ZkV κ))
 | .u=>.u
def Ren.env (κ:Ren) (E:Env):Env where
 ρ k:=ZZ E (κ.sl k)
 β k:=match ZQ κ.l k with
  | some (.bp k' _)=>E.β k'
  | some _=>0
  | none=>E.β (κ.sh k)
def UT (κ:Ren):SC->Bool
 | .cl _ fs ks=>fs.all κ.okB && ks.all κ.okB
 | .px k _=>match κ.sl k with
  | .sl _=>true
  | _=>false
 | .bp k _=>match ZQ κ.l k with
  | some (.bp _ 0)=>true
  | some _=>false
  | none=>true
 | .sp _ _ _ _=>false
 | _=>true
def okS (κ:Ren):SC ⊕ List SC->Bool
 | .inl c=>UT κ c
 | .inr cs=>cs.all (UT κ)
def Ts (κ:Ren):SV->Bool
 | .c x=>UT κ x
 | .a cs=>cs.all (UT κ)
 | .t vs=>vs.all (okS κ)
 | .u=>true
theorem Zi3 (κ:Ren) (E:Env) {e:List Nat} (h:e.all κ.okB=true):WD (κ.env E) e=WD E (e.map κ.bk):=by
 unfold WD
 rw [List.map_map]
 congr 1
 refine List.map_congr_left fun k b=>?_
 have b:=List.all_eq_true.1 h k b
 unfold Ren.okB at b
 simp only [Function.comp,Ren.bk,Ren.env]
 split at b
 ·rename_i k' g;rw [g]
 ·cases b
 ·rename_i g;rw [g]
theorem Zer (κ:Ren) (E:Env):∀ {c:SC},UT κ c=true->ZZ (κ.env E) c=ZZ E (XM κ c)
 | .sl k,_=>rfl
 | .px k off,h=>by
  simp only [UT] at h
  split at h
  ·rename_i k' e
   simp only [XM,ZZ,Ren.env,e]
  ·cases h
 | .bp k off,h=>by
  simp only [UT] at h
  split at h
  ·rename_i k' e
   simp only [XM,ZZ,Ren.env,e]
  ·cases h
  ·rename_i e
   simp only [XM,ZZ,Ren.env,e]
 | .cl f fs ks,h=>by
  simp only [UT] at h
  simp only [XM,h,cond_true]
  simp only [Zc] at h
  simp only [ZZ,Zi3 κ E h.1,Zi3 κ E h.2]
 | .sp _ _ _ _,h=>by cases h
 | .i _ _,_ | .b _,_ | .s _,_ | .v _,_ | .nil,_=>rfl
theorem Zae (κ:Ren) (E:Env) {cs:List SC} (h:cs.all (UT κ)=true):cs.map (ZZ (κ.env E))=(cs.map (XM κ)).map (ZZ E):=by
 rw [List.map_map]
 exact List.map_congr_left fun x b=>Zer κ E (List.all_eq_true.1 h x b)
theorem Zac (κ:Ren) (E:Env):∀ {v:SV},Ts κ v=true->Yc (κ.env E) v=Yc E (Vd κ v)
 | .c x,h=>Zer κ E h
 | .a cs,h=>by simp only [Yc,Vd,Zae κ E h]
 | .t vs,h=>by
  simp only [Yc,Vd,List.map_map]
  congr 2
  refine List.map_congr_left fun v b=>?_
  have:=List.all_eq_true.1 h v b
  cases v with
  | inl c=>exact Zer κ E this
  | inr cs=>simp only [Tl,Function.comp,ZkV,Zae κ E this]
 | .u,_=>rfl
def SC.kbb (n:Nat):SC->Bool
  | .sl k | .bp k _ | .px k _ | .sp k _ _ _=>Nat.blt k n
  | .cl _ fs ks=>fs.all (Nat.blt · n) && ks.all (Nat.blt · n)
  | .v x=>x.oneCell'
  | _=>true
theorem SC.kbb_ok {n:Nat}:∀ {x:SC},x.kbb n=true->x.kb n
 | .sl _,h | .bp _ _,h | .px _ _,h | .sp _ _ _ _,h=>YT h
 | .cl _ fs ks,h=>by
  simp only [SC.kbb,Zc] at h
  exact ⟨fun k e=>YT (List.all_eq_true.1 h.1 k e),fun k e=>YT (List.all_eq_true.1 h.2 k e)⟩
 | .v _,h=>h
 | .i _ _,_ | .b _,_ | .s _,_ | .nil,_=>trivial
def SV.kbb (n:Nat):SV->Bool
 | .c x=>x.kbb n
 | .a cs=>cs.all (SC.kbb n)
 | .t vs=>vs.all fun | .inl x=>x.kbb n | .inr cs=>cs.all (SC.kbb n)
 | .u=>true
theorem SV.kbb_ok {n:Nat}:∀ {x:SV},x.kbb n=true->x.kb n
 | .c _,h=>SC.kbb_ok h
 | .a _,h=>fun y b=>SC.kbb_ok (List.all_eq_true.1 h y b)
 | .t _,h=>fun v e=>by
  have:=List.all_eq_true.1 h v e
  cases v with
  | inl x=>exact SC.kbb_ok this
  | inr cs=>exact fun y b=>SC.kbb_ok (List.all_eq_true.1 this y b)
 | .u,_=>trivial
def VF.kbb (n:Nat):VF->Bool
 | .pl cs=>cs.all (SC.kbb n)
 | .el k _ | .vw k _ _ _=>Nat.blt k n
 | _=>true
theorem VF.kbb_ok {n:Nat}:∀ {x:VF},x.kbb n=true->x.kb n
 | .pl _,h=>fun y b=>SC.kbb_ok (List.all_eq_true.1 h y b)
 | .el _ _,h | .vw _ _ _ _,h=>YT h
 | .sl _ _,_ | .fn _,_=>trivial
def MO.kbb (n:Nat):MO->Bool
 | .box cs _=>cs.all (SC.kbb n)
 | _=>true
theorem MO.kbb_ok {n:Nat}:∀ {x:MO},x.kbb n=true->x.kb n
 | .box _ _,h=>fun y b=>SC.kbb_ok (List.all_eq_true.1 h y b)
 | .own _ _ _,_ | .abs _,_ | .buf _ _,_ | .av _,_ | .gone,_=>trivial
theorem YY {α:Type _}:∀ {l:List (Nat × α)} {k:Nat} {v:α},ZQ l k=some v->(k,v)∈l
 | [],_,_,h=>by cases h
 | (k',v')::t,k,v,h=>by
  rw [YG] at h
  split at h
  ·rename_i e;cases h;subst e;exact Zj
  ·exact Zi _ (YY h)
def Pd (L:List (Nat × SV)) (M:List (Nat × MO)) (V:List (Nat × VF)) (nx:Nat):Bool :=
 L.all (fun p=>p.2.kbb nx) && M.all (fun p=>Nat.blt p.1 nx && p.2.kbb nx) && V.all (fun p=>Nat.blt p.1 nx && p.2.kbb nx)
theorem ZfT {L M V nx} (h:Pd L M V nx=true):St.Wf ⟨L,M,V,nx⟩:=by
 simp only [Pd,Zc,List.all_eq_true] at h
 obtain ⟨⟨i,e⟩,g⟩:=h
 exact ⟨fun d v b=>SV.kbb_ok (i _ (YY b)),fun k m b=>⟨YT (e _ (YY b)).1,MO.kbb_ok (e _ (YY b)).2⟩,
  fun k f b=>⟨YT (g _ (YY b)).1,VF.kbb_ok (g _ (YY b)).2⟩⟩
def TU (s:St) (κ:Ren) (k:Nat):VF->Option VF
 | .sl R xs=>match κ.sl k with
  | .nil=>some (.sl R [])
  | .sl k'=>match ZQ s.V k' with
   | some (.sl R' xs')=>some (.sl R' xs')
   | _=>none
  | _=>let _:=xs;none
 | .fn _=>match κ.sl k with
  | .sl k'=>ZQ s.V k'
  | _=>none
 | _=>none
def VM (κ:Ren):MO->MO
 | .box cs t=>.box (cs.map (XM κ)) t
 | m=>m
def Va (s:St) (κ:Ren) (k:Nat):MO->Option MO
 | .box cs _=>match cs.all (UT κ) with
  | true=>match XM κ (.bp k 0) with
   | .bp k' 0=>ZQ s.M k'
   | _=>none
  | false=>none
 | .own R _ fr=>match κ.sl k with
  | .nil=>some (.own R [] fr)
  | .sl k'=>match ZQ s.M k' with
   | some (.own R' xs' fr')=>match fr with
    | false=>some (.own R' xs' false)
    | true=>some (.own R' xs' fr')
   | _=>none
  | _=>none
 | .abs _=>match κ.sl k with
  | .sl k'=>ZQ s.M k'
  | _=>none
 | .buf _ ty=>match κ.sl k with
  | .nil=>some (.buf .empty ty)
  | .sl k'=>ZQ s.M k'
  | _=>none
 | .av _=>match κ.sl k with
  | .sl k'=>ZQ s.M k'
  | _=>none
 | .gone=>some .gone
def XG (κ:Ren) (k:Nat):MO->Option Nat
 | .box _ _=>match XM κ (.bp k 0) with
  | .bp k' _=>some k'
  | _=>none
 | .own _ _ _ | .abs _ | .buf _ _ | .av _=>match κ.sl k with
  | .sl k'=>some k'
  | _=>none
 | .gone=>none
def La (x:Nat):List Nat->Bool
 | []=>true
 | y::r => !(Nat.beq x y) && La x r
def XT:List Nat->Bool
 | []=>true
 | x::r=>La x r && XT r
theorem Zkr {x:Nat}:∀ {l:List Nat},La x l=true->x ∉ l
 | [],_=>by simp
 | y::r,h=>by
  simp only [La,Zc,Bool.not_eq_true'] at h
  have b:x≠y:=fun e=>by subst e;simp at h
  simp only [List.mem_cons,not_or]
  exact ⟨b,Zkr h.2⟩
theorem Q1:∀ {l:List Nat},XT l=true->l.Nodup
 | [],_=>.nil
 | x::r,h=>by
  simp only [XT,Zc] at h
  exact List.nodup_cons.2 ⟨Zkr h.1,Q1 h.2⟩
structure Emb (s:St) (κ:Ren) (V:List (Nat × VF)) (M:List (Nat × MO)):Prop where
  hV:V.map (fun p=>TU s κ p.1 p.2)=V.map (fun p=>some p.2)
  hM:M.map (fun p=>Va s κ p.1 p.2)=M.map (fun p=>some (VM κ p.2))
  hd:XT (M.filterMap fun p=>XG κ p.1 p.2)=true
  hk:XT (M.map (·.1))=true
theorem S5 {α β:Type _} {f g:α->β}:∀ {l:List α},l.map f=l.map g->∀ x∈l,f x=g x
 | [],_,x,b=>by cases b
 | y::r,h,x,b=>by
  simp only [List.map_cons,List.cons.injEq] at h
  rcases List.mem_cons.1 b with rfl | b
  ·exact h.1
  ·exact S5 h.2 x b
section
variable {X:Ctx} {s:St} {E:Env} {F:YB} {w:World} {a:Act} {κ:Ren} {V:List (Nat × VF)} {M:List (Nat × MO)}
theorem Emb.factV (i:Emb s κ V M) (e:Sat X s E F w a) {k:Nat} {f:VF} (j:(k,f)∈V):f.ok (κ.env E) F w ((κ.env E).ρ k):=by
 have h:=S5 i.hV _ j
 simp only [] at h
 show f.ok _ F w (ZZ E (κ.sl k))
 cases f with
 | sl R xs =>
  simp only [TU] at h
  split at h
  ·rename_i b
   simp only [Option.some.injEq,VF.sl.injEq] at h
   have ⟨_,_,l⟩:=h
   cases l
   rw [b]
   exact .inl ⟨rfl,_,_,rfl⟩
  ·rename_i k' b
   split at h
   ·rename_i g
    rw [h] at g
    rw [b]
    exact e.hV k' _ g
   ·cases h
  ·cases h
 | fn Φ =>
  simp only [TU] at h
  split at h
  ·rename_i k' b
   rw [b]
   exact e.hV k' _ h
  ·cases h
 | pl _=>cases h
 | el _ _=>cases h
 | vw _ _ _ _=>cases h
theorem ZnB {k:Nat} {c:SC} (h:XM κ (.bp k 0)=c):(∃ k',c=.bp k' 0/\(κ.env E).β k=E.β k')\/c=.nil:=by
 subst h
 simp only [XM]
 split
 ·rename_i k' b;exact .inl ⟨k',rfl,by simp only [Ren.env,b]⟩
 ·exact .inr rfl
 ·rename_i b;exact .inl ⟨κ.sh k,rfl,by simp only [Ren.env,b]⟩
theorem Emb.memM (B:Emb s κ V M) (n:Sat X s E F w a) {k:Nat} {m:MO} (C:(k,m)∈M) :
  m.ok (κ.env E) F w k/\((∀ b,¬ m.fp (κ.env E) k b)\/∃ k' m',XG κ k m=some k'/\ZQ s.M k'=some m'/\(∀ b,m.fp (κ.env E) k b->m'.fp E k' b)/\(m.isFresh=true->m'.isFresh=true)):=by
 have h:=S5 B.hM _ C
 simp only [] at h
 cases m with
 | box cs t =>
  simp only [Va] at h
  cases l:cs.all (UT κ) with
  | false=>rw [l] at h;cases h
  | true =>
   rw [l] at h
   simp only [] at h
   split at h
   ·rename_i k' g
    rcases ZnB (E:=E) g with ⟨G,e,x⟩ | e
    ·cases e
     have i:w.heap[E.β k']? = some (.cells ((cs.map (XM κ)).map (ZZ E)).toArray t (0,0)):=n.hM k' _ h
     refine ⟨?_,.inr ⟨k',_,by simp [XG,g],h,?_,fun j=>by cases j⟩⟩
     ·show w.heap[(κ.env E).β k]? = _
      rw [x,Zae κ E l];exact i
     ·intro b q
      show b=E.β k'
      rw [<- x];exact q
    ·cases e
   ·cases h
 | own R xs fr =>
  simp only [Va] at h
  split at h
  ·rename_i g
   simp only [VM,Option.some.injEq,MO.own.injEq] at h
   have ⟨_,_,o,_⟩:=h
   cases o
   refine ⟨?_,.inl ?_⟩
   ·show OwnR _ _ _ _ (ZZ E (κ.sl k));rw [g];exact .inl ⟨rfl,rfl⟩
   ·intro b i
    have:YH (ZZ E (κ.sl k))=some b:=i
    rw [g] at this;cases this
  ·rename_i k' g
   split at h
   ·rename_i R' r v y
    have z:MO.own R' r (match fr with | false=>false | true=>v)=MO.own R xs fr:=by
     cases fr<;>simpa [VM] using h
    simp only [MO.own.injEq] at z
    obtain ⟨rfl,p,o,D⟩:=z
    cases p
    cases o
    refine ⟨?_,.inr ⟨k',_,by simp [XG,g],y,?_,?_⟩⟩
    ·show OwnR _ _ _ _ (ZZ E (κ.sl k));rw [g];exact n.hM k' _ y
    ·intro b i
     have:YH (ZZ E (κ.sl k))=some b:=i
     rw [g] at this;exact this
    ·intro j
     have j:fr=true:=j
     subst j
     exact D
   ·cases h
  ·cases h
 | abs A =>
  simp only [Va] at h
  split at h
  ·rename_i k' g
   exact ⟨n.hM k' _ h,.inr ⟨k',_,by simp [XG,g],h,fun b i=>i,fun j=>by cases j⟩⟩
  ·cases h
 | av A =>
  simp only [Va] at h
  split at h
  ·rename_i k' g
   refine ⟨?_,.inr ⟨k',_,by simp [XG,g],h,?_,fun j=>by cases j⟩⟩
   ·show A.ok _ _ (ZZ E (κ.sl k));rw [g];exact n.hM k' _ h
   ·intro b i
    have:YH (ZZ E (κ.sl k))=some b:=i
    rw [g] at this
    exact this
  ·cases h
 | buf sb ty =>
  simp only [Va] at h
  split at h
  ·rename_i g
   simp only [VM,Option.some.injEq,MO.buf.injEq] at h
   have ⟨p,_⟩:=h
   subst p
   refine ⟨?_,.inl ?_⟩
   ·show BufR _ _ _ (ZZ E (κ.sl k));rw [g];exact .inl ⟨rfl,rfl⟩
   ·intro b i
    have:YH (ZZ E (κ.sl k))=some b:=i
    rw [g] at this;cases this
  ·rename_i k' g
   refine ⟨?_,.inr ⟨k',_,by simp [XG,g],h,?_,fun j=>by cases j⟩⟩
   ·show BufR _ _ _ (ZZ E (κ.sl k));rw [g];exact n.hM k' _ h
   ·intro b i
    have:YH (ZZ E (κ.sl k))=some b:=i
    rw [g] at this;exact this
  ·cases h
 | gone=>exact ⟨trivial,.inl fun b i=>i⟩
theorem Ze9 {α:Type _} {f:α->Option Nat}:∀ {l:List α},(l.filterMap f).Nodup->∀ x∈l,∀ y∈l,∀ j,f x=some j->f y=some j->x=y
 | [],_,x,e,_,_,_,_,_=>by cases e
 | z::r,h,x,e,y,m,j,h1,h2=>by
  cases g:f z with
  | none =>
   rw [List.filterMap_cons_none g] at h
   rcases List.mem_cons.1 e with rfl | e
   ·rw [g] at h1;cases h1
   ·rcases List.mem_cons.1 m with rfl | m
    ·rw [g] at h2;cases h2
    ·exact Ze9 h x e y m j h1 h2
  | some i =>
   rw [List.filterMap_cons_some g,List.nodup_cons] at h
   have ⟨p,v⟩:=h
   rcases List.mem_cons.1 e with q | n
   ·rcases List.mem_cons.1 m with o | b
    ·rw [q,o]
    ·rw [q,g] at h1
     exact absurd (List.mem_filterMap.2 ⟨y,b,h2.trans h1.symm⟩) p
   ·rcases List.mem_cons.1 m with o | b
    ·rw [o,g] at h2
     exact absurd (List.mem_filterMap.2 ⟨x,n,h1.trans h2.symm⟩) p
    ·exact Ze9 v x n y b j h1 h2
theorem ZaJ {α:Type _}:∀ {l:List (Nat × α)},(l.map (·.1)).Nodup->∀ {k:Nat} {v:α},(k,v)∈l->ZQ l k=some v
  | [],_,_,_,h=>by cases h
  | (k',v')::r,hn,k,v,h=>by
    simp only [List.map_cons,List.nodup_cons] at hn
    rw [YG]
    rcases List.mem_cons.1 h with e | h
    · cases e;simp
    · have:k'≠k:=fun e=>hn.1 (by rw [e];exact List.mem_map.2 ⟨_,h,rfl⟩)
      rw [if_neg this]
      exact ZaJ hn.2 h
theorem Emb.disj (h:Emb s κ V M) (i:Sat X s E F w a) {k k':Nat} {m m':MO} (x:(k,m)∈M) (y:(k',m')∈M) (l:k≠k') (b:Nat) (z:m.fp (κ.env E) k b) :
  ¬ m'.fp (κ.env E) k' b:=by
 intro g
 have ⟨_,o⟩:=h.memM i x
 have ⟨_,p⟩:=h.memM i y
 rcases o with o | ⟨j,n,B,C,D,_⟩
 ·exact o b z
 ·rcases p with p | ⟨A,G,q,r,v,_⟩
  ·exact p b g
  ·by_cases e:j=A
   ·subst e
    have:=Ze9 (Q1 h.hd) _ x _ y j B q
    simp only [Zp] at this
    exact l this.1
   ·exact i.dis j A n G C r e b (D b z) (v b g)
theorem WP.sub {todo:List Item} {t:St} (l:List (Nat × SC)) (k:WP X todo t)
    (hL:t.L.map (fun p=>ZQ s.L p.1)=t.L.map (fun p=>some (Vd ⟨l,0,0⟩ p.2)))
    (hV:t.V.map (fun p=>TU s ⟨l,0,0⟩ p.1 p.2)=t.V.map (fun p=>some p.2))
    (hM:t.M.map (fun p=>Va s ⟨l,0,0⟩ p.1 p.2)=t.M.map (fun p=>some (VM ⟨l,0,0⟩ p.2)))
    (H:(t.L.all (fun p=>Ts ⟨l,0,0⟩ p.2) && XT (t.M.filterMap fun p=>XG ⟨l,0,0⟩ p.1 p.2) && XT (t.M.map (·.1)) && Pd t.L t.M t.V t.nx && l.all (fun p=>Nat.ble X.nk p.1 && p.2.kbb s.nx) && Nat.ble X.nk t.nx)=true) :
    WP X todo s:=by
  simp only [Zc] at H
  obtain ⟨⟨⟨⟨⟨R,S⟩,T⟩,U⟩,K⟩,W⟩:=H
  generalize hκ:(⟨l,0,0⟩:Ren)=κ at *
  have x:∀ j,κ.sh j=j:=by intro j;subst hκ;simp [Ren.sh]
  have r:κ.l=l:=by subst hκ;rfl
  have y:Emb s κ t.V t.M:=⟨hV,hM,S,T⟩
  intro E F w a i
  refine k (κ.env E) F w a ?_
  exact {
    wf:=ZfT U
    nk:=Ze W
    defers:=i.defers
    size:=i.size
    hL:=fun d v h=>by
      have N:=YY h
      have e:=S5 hL _ N
      simp only [] at e
      rw [Zac κ E (List.all_eq_true.1 R _ N)]
      exact i.hL d _ e
    hV:=fun j f h=>y.factV i (YY h)
    hM:=fun j m h=>(y.memM i (YY h)).1
    dis:=fun j z m m' h O A b q=>y.disj i (YY h) (YY O) A b q
    mF:=fun j m h b q=>by
      have ⟨_,g⟩:=y.memM i (YY h)
      rcases g with g | ⟨z,n,_,C,D,_⟩
      · exact absurd q (g b)
      · exact i.mF z n C b (D b q)
    fresh:=fun j m h B b q=>by
      have ⟨_,g⟩:=y.memM i (YY h)
      rcases g with g | ⟨z,n,_,C,D,G⟩
      · exact absurd q (g b)
      · exact i.fresh z n C (G B) b (D b q)
    hF:=i.hF
    hF0:=i.hF0
    hF1:=i.hF1
    hn0:=i.hn0
    hZ:=i.hZ
    ext:=i.ext
    link:=fun j I=>by
      have o:ZQ κ.l j=none:=by
        rw [r]
        cases r:ZQ l j with
        | none=>rfl
        | some c =>
          have:=List.all_eq_true.1 K _ (YY r)
          simp only [Zc] at this
          exact absurd (Ze this.1) (Nat.not_le.2 I)
      have:=i.link j I
      exact ⟨by simp [Ren.env,Ren.sl,o,ZZ,this.1,x],by simp [Ren.env,o,this.2,x]⟩
    one:=fun j=>by
      show (ZZ E (κ.sl j)).oneCell'=true
      unfold Ren.sl
      rw [r]
      cases r:ZQ l j with
      | none=>exact i.one _
      | some c =>
        have:=List.all_eq_true.1 K _ (YY r)
        simp only [Zc] at this
        exact QP i.one (SC.kbb_ok this.2) }
end
end
end Go.Kx
section
namespace Go.Kx
variable [LxP]
structure Ct where
 nk:Nat
 args:List SV
 V0:List (Nat × VF)
 M0:List (Nat × MO)
 nr:Nat
 res:SV
 V1:List (Nat × VF)
 M1:List (Nat × MO)
structure Ct.Pre (c:Ct) (E:Env) (F:YB) (w:World):Prop where
 one:∀ k,(E.ρ k).oneCell'=true
 hF:∀ b,F b->b < w.heap.size
 V:∀ k f,ZQ c.V0 k=some f->f.ok E F w (E.ρ k)
 M:∀ k m,ZQ c.M0 k=some m->m.ok E F w k
 dis:∀ k k' m m',ZQ c.M0 k=some m->ZQ c.M0 k'=some m'->k≠k'->∀ b,m.fp E k b->¬ m'.fp E k' b
 mF:∀ k m,ZQ c.M0 k=some m->∀ b,m.fp E k b->¬ F b/\b < w.heap.size
def Ct.fp0 (c:Ct) (E:Env) (b:Nat):Prop:=∃ k m,ZQ c.M0 k=some m/\m.fp E k b
structure Ct.Post (c:Ct) (E:Env) (F:YB) (w:World) (E':Env) (F':YB) (w':World):Prop where
 env:E.Eqb c.nk E'
 one:∀ k,(E'.ρ k).oneCell'=true
 V:∀ k f,ZQ c.V1 k=some f->f.ok E' F' w' (E'.ρ k)
 M:∀ k m,ZQ c.M1 k=some m->m.ok E' F' w' k
 dis:∀ k k' m m',ZQ c.M1 k=some m->ZQ c.M1 k'=some m'->k≠k'->∀ b,m.fp E' k b->¬ m'.fp E' k' b
 mF:∀ k m,ZQ c.M1 k=some m->∀ b,m.fp E' k b->¬ F' b/\b < w'.heap.size/\(c.fp0 E b\/w.heap.size<=b)
 fresh:∀ k m,ZQ c.M1 k=some m->m.isFresh=true->∀ b,m.fp E' k b->w.heap.size<=b
 F0:∀ b,F b->F' b
 F1:∀ b,F' b->F b\/w.heap.size<=b
 Fs:∀ b,F' b->b < w'.heap.size
 ext:Ext (fun b=>b < w.heap.size/\¬ c.fp0 E b) w w'
def BM (P:Program) (f:FuncId):Prop:=∃ fn,P.funcs[f]? = some fn/\(fn.name == "runtime.NumGoroutine")=false/\fn.body.isNone=false
structure Fn (P:Program) (f:FuncId) (c:Ct):Prop where
 callable:BM P f
 calls:∀ E F w,c.Pre E F w->Calls P f (c.args.map (Yc E)).toArray w fun e w'=>∃ E' F',e=.returned (Yc E' c.res)/\c.Post E F w E' F' w'
def Ct.ctx (c:Ct) (P:Program) (f:FuncId) (fn:Func) (E:Env) (F:YB) (w:World):Ctx where
 P:=P
 f:=f
 fn:=fn
 nk:=c.nk
 E0:=E
 F0:=F
 w0:=w
 n0:=w.heap.size
 Z:=fun b=>b < w.heap.size/\¬ c.fp0 E b
 post:=fun v w'=>∃ E' F',v=Yc E' c.res/\c.Post E F w E' F' w'
def RS (n:Nat):List SV->List (Nat × SV)
 | []=>[]
 | v::r=>(n,v)::RS (n+1) r
theorem Zj5:∀ (l:List SV) (n d:Nat) (v:SV),ZQ (RS n l) d=some v->∃ i,d=n+i/\l[i]? = some v
 | [],n,d,v,h=>by cases h
 | x::r,n,d,v,h=>by
  rw [RS,YG] at h
  split at h
  ·rename_i e;cases h;exact ⟨0,by omega,rfl⟩
  ·have ⟨i,hi,b⟩:=Zj5 r (n+1) d v h
   exact ⟨i+1,by omega,by simpa using b⟩
theorem Fn.intro {P:Program} {f:FuncId} {c:Ct} (fn:Func) (body:Code) (B:P.funcs[f]? = some fn) (C:fn.body=some body) (G:(fn.name == "runtime.NumGoroutine")=false)
  (D:(Pd (RS 0 c.args) c.M0 c.V0 c.nk && c.M0.all (fun p => !p.2.isFresh) && Nat.ble c.args.length fn.ntmps)=true)
  (h:∀ E F w,WP (c.ctx P f fn E F w) [.code body] ⟨RS 0 c.args,c.M0,c.V0,c.nk⟩):Fn P f c:=by
 simp only [Zc] at D
 obtain ⟨⟨H,w2⟩,I⟩:=D
 refine ⟨⟨fn,B,G,by rw [C];rfl⟩,fun E F w g=>?_⟩
 intro cs
 let b:Frame:={ (default:Frame) with fn:=f,kind:=.normal }
 let a:Act:={ tmps:=(c.args.map (Yc E)).toArray++Array.replicate (fn.ntmps-(c.args.map (Yc E)).toArray.size) undef,defers:=[] }
 have e:Frame.enter P f (c.args.map (Yc E)).toArray .normal=b.at a [.code body]:=by
  simp [Frame.enter,Frame.at,B,C,b,a]
 have R:=Ze I
 have S:Sat (c.ctx P f fn E F w) ⟨RS 0 c.args,c.M0,c.V0,c.nk⟩ E F w a:={
  wf:=ZfT H
  nk:=Zo _
  defers:=rfl
  size:=by show (_++_:Array Value).size=fn.ntmps;simp;omega
  hL:=fun d v q=>by
   obtain ⟨i,rfl,hi⟩:=Zj5 _ _ _ _ q
   show (_++_:Array Value)[0+i]? = _
   have A:i < c.args.length:=(List.getElem?_eq_some_iff.1 hi).1
   rw [Nat.zero_add,Array.getElem?_append_left (by simpa using A)]
   simp [hi]
  hV:=g.V
  hM:=g.M
  dis:=g.dis
  mF:=fun k m n r j=>⟨(g.mF k m n r j).1,fun x=>x.2 ⟨k,m,n,j⟩,(g.mF k m n r j).2⟩
  fresh:=fun k m n y=>by
   have:=List.all_eq_true.1 w2 _ (YY n)
   simp [y] at this
  hF:=g.hF
  hF0:=fun _ h=>h
  hF1:=fun _ h=>.inl h
  hn0:=Zo _
  hZ:=fun r x=>x.1
  ext:=Ext.refl _ _
  link:=Env.Eqb.refl _ _
  one:=g.one }
 have ⟨v,w',fr,K,o,z,q⟩:=h E F w E F w a S b cs rfl rfl
 rw [<- e] at o
 have ⟨L,N,O,l⟩:=K
 exact ⟨.returned v,w',fr,⟨L,N,by rw [O],l⟩,o,z,q⟩
def GA (tt:List (Nat × TD)) (s:St):ResultVar->Option SV
 | .tmp t=>ZQ s.L t
 | .cell a t=>match ZQ tt t with
  | some d=>match ZQ s.L a with
   | some (.c (.bp k off))=>match ZQ s.M k with
    | some (.box cs _)=>WO d off cs
    | _=>none
   | _=>none
  | none=>none
def ZfN:SV->Option (SC ⊕ List SC)
 | .c x=>some (.inl x)
 | .a cs=>some (.inr cs)
 | _=>none
def Li (tt:List (Nat × TD)) (s:St):List ResultVar->Option (List SV)
 | []=>some []
 | r::rs=>match GA tt s r with
  | some v=>match Li tt s rs with
   | some vs=>some (v::vs)
   | none=>none
  | none=>none
def Lu:List SV->Option (List (SC ⊕ List SC))
 | []=>some []
 | v::vs=>match ZfN v with
  | some x=>match Lu vs with
   | some xs=>some (x::xs)
   | none=>none
  | none=>none
def Lk (tt:List (Nat × TD)) (s:St) (rs:List ResultVar):Option SV :=
 match Li tt s rs with
 | some [v]=>some v
 | some vs=>match Lu vs with
  | some xs=>some (.t xs)
  | none=>none
 | none=>none
section
variable {X:Ctx} {s:St} {E:Env} {F:YB} {w:World} {a:Act} {tt:List (Nat × TD)} {k:List Item}
def Lj (tmps:Array Value):ResultVar->Sem Value
 | .tmp t=>pure (tmps.getD t undef)
 | .cell ad t=>do loadVar t (<- asAddr (tmps.getD ad undef))
theorem ZrO (fn:Func) (tmps:Array Value):results fn tmps=(do
  let vs <- fn.results.mapM (Lj tmps)
  pure (if h:vs.size=1 then vs[0] else .tuple vs)):=by
 unfold results
 congr 1
theorem ZrN (htt:TTOk X.P tt) (e:Sat X s E F w a) {r:ResultVar} {v:SV} (h:GA tt s r=some v) :
  (Lj a.tmps r).run X.P w=.ok (Yc E v) w:=by
 cases r with
 | tmp t =>
  simp only [GA] at h
  simp only [Lj,Zat (e.hL t v h),Sem.run_pure]
 | cell q t =>
  simp only [GA] at h
  cases g:ZQ tt t with
  | none=>rw [g] at h;cases h
  | some d =>
   rw [g] at h
   simp only [] at h
   split at h
   ·rename_i j off m
    split at h
    ·rename_i cs n o
     have p:w.heap[E.β j]? = some (.cells (cs.map (ZZ E)).toArray n (0,0)):=e.hM j _ o
     have b:=GF (E:=E) (base:=0) (htt.get g) p (cs:=cs) (fun i x l=>by simp [l]) h
     rw [Nat.zero_add] at b
     simp only [Lj,Zat (e.hL q _ m),Yc,ZZ,asAddr,Sem.run_bind,Sem.run_pure,Result.andThen_ok,b]
    ·cases h
   ·cases h
theorem ZkY (htt:TTOk X.P tt) (j:Sat X s E F w a):∀ {b:List ResultVar} {e:List SV},Li tt s b=some e ->
  (b.mapM (Lj a.tmps)).run X.P w=.ok (e.map (Yc E)) w
 | [],e,h=>by cases h;rfl
 | r::b,e,h=>by
  unfold Li at h
  cases g:GA tt s r with
  | none=>rw [g] at h;cases h
  | some v =>
   rw [g] at h
   simp only [] at h
   cases i:Li tt s b with
   | none=>rw [i] at h;cases h
   | some l =>
    rw [i] at h
    cases h
    rw [List.mapM_cons]
    simp only [Sem.run_bind,ZrN htt j g,Result.andThen_ok,ZkY htt j i,Sem.run_pure,List.map_cons]
theorem Zlx:∀ {e:List SV} {xs:List (SC ⊕ List SC)},Lu e=some xs->e.map (Yc E)=xs.map (Tl E)
 | [],xs,h=>by cases h;rfl
 | v::e,xs,h=>by
  unfold Lu at h
  cases b:ZfN v with
  | none=>rw [b] at h;cases h
  | some x =>
   rw [b] at h
   simp only [] at h
   cases g:Lu e with
   | none=>rw [g] at h;cases h
   | some ys =>
    rw [g] at h
    cases h
    simp only [List.map_cons,Zlx g]
    congr 1
    unfold ZfN at b
    split at b<;>cases b<;>rfl
theorem ZkZ (htt:TTOk X.P tt) (l:Sat X s E F w a) {fn:Func} {v:SV} (h:Lk tt s fn.results.toList=some v) :
  (results fn a.tmps).run X.P w=.ok (Yc E v) w:=by
 unfold Lk at h
 rw [ZrO]
 have key:∀ e,Li tt s fn.results.toList=some e ->
   (fn.results.mapM (Lj a.tmps)).run X.P w=.ok (e.map (Yc E)).toArray w:=by
  intro e m
  have:=ZkY htt l m
  rw [<- Array.toArray_toList (xs:=fn.results),List.mapM_toArray]
  simp only [Sem.run_map,this,Result.andThen_ok]
 split at h
 ·rename_i j g
  cases h
  simp only [Sem.run_bind]
  rw [key _ g]
  rfl
 ·rename_i e i g
  cases b:Lu e with
  | none=>rw [b] at h;cases h
  | some xs =>
   rw [b] at h
   cases h
   simp only [Sem.run_bind]
   rw [key _ g]
   simp only [Result.andThen_ok,Sem.run_pure]
   rw [dif_neg]
   ·simp only [Yc,Zlx b]
   ·simp only [List.size_toArray,List.length_map]
    intro n
    obtain ⟨j,rfl⟩:=List.length_eq_one_iff.1 n
    exact i j rfl
 ·cases h
theorem Zr1 {v:Value} (g:X.P.funcs[X.f]? = some X.fn) (h:(results X.fn a.tmps).run X.P w=.ok v w) (i:a.defers=[]) (j:X.post v w) :
  Runs X.P X.f X.post a (.code .ret::k) w:=fun b cs e l =>
 ⟨v,w,{ b.at a (.code .ret::k) with mode:=.returning },j,.one step_ret,e,rfl,i,l,X.fn,by show X.P.funcs[b.fn]? = _;rw [e];exact g,h⟩
theorem Zr0 {v:Value} (g:X.P.funcs[X.f]? = some X.fn) (h:(results X.fn a.tmps).run X.P w=.ok v w) (i:a.defers=[]) (j:X.post v w) :
  Runs X.P X.f X.post a [] w:=fun b cs e l =>
 ⟨v,w,{ b.at a [] with mode:=.returning },j,.one step_end,e,rfl,i,l,X.fn,by show X.P.funcs[b.fn]? = _;rw [e];exact g,h⟩
end
section
variable {c:Ct} {P:Program} {f:FuncId} {fn:Func} {E0:Env} {F0:YB} {w0:World} {s:St} {tt:List (Nat × TD)}
theorem Zk0 {E:Env} {F:YB} {w:World} {a:Act} (e:Sat (c.ctx P f fn E0 F0 w0) s E F w a) (l:List (Nat × SC)) {v:SV}
    (I:some v=some (Vd ⟨l,0,0⟩ c.res))
    (hV:c.V1.map (fun p=>TU s ⟨l,0,0⟩ p.1 p.2)=c.V1.map (fun p=>some p.2))
    (hM:c.M1.map (fun p=>Va s ⟨l,0,0⟩ p.1 p.2)=c.M1.map (fun p=>some (VM ⟨l,0,0⟩ p.2)))
    (K:(Ts ⟨l,0,0⟩ c.res && XT (c.M1.filterMap fun p=>XG ⟨l,0,0⟩ p.1 p.2) && XT (c.M1.map (·.1)) && l.all (fun p=>Nat.ble c.nk p.1 && p.2.kbb s.nx))=true) :
    (c.ctx P f fn E0 F0 w0).post (Yc E v) w:=by
  simp only [Zc] at K
  obtain ⟨⟨⟨S,T⟩,U⟩,N⟩:=K
  have q:(⟨l,0,0⟩:Ren).l=l:=rfl
  generalize hκ:(⟨l,0,0⟩:Ren)=κ at *
  have r:∀ j,κ.sh j=j:=by intro j;subst hκ;simp [Ren.sh]
  have y:Emb s κ c.V1 c.M1:=⟨hV,hM,T,U⟩
  refine ⟨κ.env E,F,?_,?_⟩
  · simp only [Option.some.injEq] at I
    rw [I,Zac κ E S]
  · exact {
      env:=fun j L=>by
        have i:ZQ κ.l j=none:=by
          rw [q]
          cases q:ZQ l j with
          | none=>rfl
          | some x =>
            have:=List.all_eq_true.1 N _ (YY q)
            simp only [Zc] at this
            exact absurd (Ze this.1) (Nat.not_le.2 L)
        have:=e.link j L
        exact ⟨by simp [Ren.env,Ren.sl,i,ZZ,r];exact this.1,by simp [Ren.env,i,r];exact this.2⟩
      one:=fun j=>by
        show (ZZ E (κ.sl j)).oneCell'=true
        unfold Ren.sl
        rw [q]
        cases q:ZQ l j with
        | none=>exact e.one _
        | some x =>
          have:=List.all_eq_true.1 N _ (YY q)
          simp only [Zc] at this
          exact QP e.one (SC.kbb_ok this.2)
      V:=fun j g h=>y.factV e (YY h)
      M:=fun j m h=>(y.memM e (YY h)).1
      dis:=fun j z m m' h R A b o=>y.disj e (YY h) (YY R) A b o
      mF:=fun j m h b o=>by
        have ⟨_,g⟩:=y.memM e (YY h)
        rcases g with g | ⟨z,n,_,D,G,_⟩
        · exact absurd o (g b)
        · have:=e.mF z n D b (G b o)
          refine ⟨this.1,this.2.2,?_⟩
          by_cases O:b < w0.heap.size
          · left
            exact Classical.byContradiction fun B=>this.2.1 ⟨O,B⟩
          · exact .inr (Nat.not_lt.1 O)
      fresh:=fun j m h C b o=>by
        have ⟨_,g⟩:=y.memM e (YY h)
        rcases g with g | ⟨z,n,_,D,G,H⟩
        · exact absurd o (g b)
        · exact e.fresh z n D (H C) b (G b o)
      F0:=e.hF0
      F1:=fun b o=>(e.hF1 b o).imp id And.left
      Fs:=e.hF
      ext:=e.ext }
theorem WP.ret {k:List Item} (htt:TTOk P tt) (e:P.funcs[f]? = some fn) (l:List (Nat × SC)) (g:Lk tt s fn.results.toList=some (Vd ⟨l,0,0⟩ c.res))
    (hV:c.V1.map (fun p=>TU s ⟨l,0,0⟩ p.1 p.2)=c.V1.map (fun p=>some p.2))
    (hM:c.M1.map (fun p=>Va s ⟨l,0,0⟩ p.1 p.2)=c.M1.map (fun p=>some (VM ⟨l,0,0⟩ p.2)))
    (h:(Ts ⟨l,0,0⟩ c.res && XT (c.M1.filterMap fun p=>XG ⟨l,0,0⟩ p.1 p.2) && XT (c.M1.map (·.1)) && l.all (fun p=>Nat.ble c.nk p.1 && p.2.kbb s.nx))=true) :
    WP (c.ctx P f fn E0 F0 w0) (.code .ret::k) s:=fun _ _ _ _ b =>
  Zr1 e (ZkZ (X:=c.ctx P f fn E0 F0 w0) htt b g) b.defers (Zk0 b l rfl hV hM h)
theorem WP.fin (htt:TTOk P tt) (e:P.funcs[f]? = some fn) (l:List (Nat × SC)) (g:Lk tt s fn.results.toList=some (Vd ⟨l,0,0⟩ c.res))
    (hV:c.V1.map (fun p=>TU s ⟨l,0,0⟩ p.1 p.2)=c.V1.map (fun p=>some p.2))
    (hM:c.M1.map (fun p=>Va s ⟨l,0,0⟩ p.1 p.2)=c.M1.map (fun p=>some (VM ⟨l,0,0⟩ p.2)))
    (h:(Ts ⟨l,0,0⟩ c.res && XT (c.M1.filterMap fun p=>XG ⟨l,0,0⟩ p.1 p.2) && XT (c.M1.map (·.1)) && l.all (fun p=>Nat.ble c.nk p.1 && p.2.kbb s.nx))=true) :
    WP (c.ctx P f fn E0 F0 w0) [] s:=fun _ _ _ _ b =>
  Zr0 e (ZkZ (X:=c.ctx P f fn E0 F0 w0) htt b g) b.defers (Zk0 b l rfl hV hM h)
end
end Go.Kx
end
section
namespace Go.Kx
variable [LxP]
def TRep.Flat {α:Type} (R:TRep α):Prop:=∀ F w F' w' x vs,R.rep F w x vs->R.rep F' w' x vs
def Uh:List (Nat × MO)->Prop
 | []=>True
 | (_,.own R _ _)::r=>R.Flat/\Uh r
 | (_,.box _ _)::r=>Uh r
 | (_,.gone)::r=>Uh r
 | (_,.abs _)::_ | (_,.buf _ _)::_ | (_,.av _)::_=>False
theorem XS {α:Type _} (b e:List (Nat × α)) (k:Nat):ZQ (b++e) k=match ZQ b k with | some v=>some v | none=>ZQ e k:=by
 induction b with
 | nil=>rfl
 | cons p b g =>
  have ⟨j,v⟩:=p
  rw [List.cons_append,YG,YG]
  split
  ·rfl
  ·exact g
theorem ZaE {α:Type _}:∀ {l:List (Nat × α)} {k:Nat},ZQ l k=none->∀ v,(k,v) ∉ l
 | [],_,_,_=>by simp
 | (j,u)::r,k,h,v=>by
  rw [YG] at h
  split at h
  ·cases h
  ·rename_i g
   intro b
   rcases List.mem_cons.1 b with e | b
   ·cases e;exact g rfl
   ·exact ZaE h v b
def RR (k:Nat) (l:List Nat):Bool:=l.any (Nat.beq k)
theorem Zkb {k:Nat} {l:List Nat}:RR k l=true↔k∈l:=by
 simp only [RR,List.any_eq_true]
 constructor
 ·rintro ⟨x,b,h⟩;rw [Zd h];exact b
 ·intro h;exact ⟨k,h,by simp⟩
def QS (s:St) (κ:Ren) (bor:List Nat) (k:Nat):VF->Option VF
 | .sl R xs=>match κ.sl k with
  | .nil=>some (.sl R [])
  | .sl k'=>bif RR k' bor then (match ZQ s.M k' with
    | some (.own R' xs' _)=>some (.sl R' xs')
    | _=>none)
   else (match ZQ s.V k' with
    | some (.sl R' xs')=>some (.sl R' xs')
    | _=>none)
  | _=>let _:=xs;none
 | .fn _=>match κ.sl k with
  | .sl k'=>ZQ s.V k'
  | _=>none
 | _=>none
def M3 (s:St) (j:Nat):Bool:=match ZQ s.M j with
 | some (.own _ _ fr)=>fr
 | _=>false
def WU (κ:Ren) (k:Nat):MO->Option Nat
 | .gone=>match κ.sl k with
  | .sl k'=>some k'
  | _=>none
 | m=>XG κ k m
def SO (s:St) (κ:Ren) (c:Ct):Bool:=c.M0.all fun p=>match p.2 with
 | .own _ _ _=>match κ.sl p.1 with
  | .sl j=>M3 s j
  | .nil=>true
  | _=>false
 | .box _ _=>match ZQ c.M1 p.1 with
  | some (.box _ _)=>Nat.blt p.1 c.nk
  | _=>false
 | .av _=>match ZQ c.M1 p.1 with
  | some (.av _)=>Nat.blt p.1 c.nk
  | _=>false
 | _=>false
def UG (s:St) (κ:Ren) (af:Bool) (nk k:Nat):MO->MO
 | .box cs t=>.box (cs.map (XM κ)) t
 | .own R xs fr=>.own R xs (bif Nat.blt k nk then (match κ.sl k with | .sl j=>M3 s j | _=>false) else (fr || af))
 | m=>m
def MO.isGone:MO->Bool
 | .gone=>true
 | _=>false
def Zff:Option Nat->Option Nat->Bool
 | some a,some b=>Nat.beq a b
 | none,none=>true
 | _,_=>false
theorem Zrc {a b:Option Nat} (h:Zff a b=true):a=b:=by
 cases a<;>cases b<;>simp only [Zff] at h
 ·rfl
 ·cases h
 ·cases h
 ·rw [Zd h]
def VF.plain:VF->Bool
 | .sl _ _ | .fn _=>true
 | _=>false
def okM (κ:Ren):MO->Bool
 | .box cs _=>cs.all (UT κ)
 | _=>true
def MM (s:St) (c:Ct) (l:List (Nat × SC)) (bor:List Nat):Bool :=
  (List.range c.nk).all (fun k=>(ZQ l k).isSome) && l.all (fun p=>Nat.blt p.1 c.nk && p.2.kbb s.nx) &&
  XT ((c.M0.filterMap fun p=>XG ⟨l,c.nk,s.nx⟩ p.1 p.2)++bor) && XT (c.M0.map (·.1)) &&
  c.M0.all (fun p=>match ZQ c.M1 p.1 with | some m=>Zff (WU ⟨l,c.nk,s.nx⟩ p.1 m) (XG ⟨l,c.nk,s.nx⟩ p.1 p.2) | none=>false) &&
  c.M1.all (fun p=>((WU ⟨l,c.nk,s.nx⟩ p.1 p.2).isSome || p.2.isGone) && Nat.blt p.1 c.nr && p.2.kbb c.nr && okM ⟨l,c.nk,s.nx⟩ p.2 && (Nat.ble c.nk p.1 || RR p.1 (c.M0.map (·.1)))) && XT (c.M1.map (·.1)) &&
  XT (c.M1.filterMap fun p=>WU ⟨l,c.nk,s.nx⟩ p.1 p.2) &&
  c.V1.all (fun p=>Nat.ble c.nk p.1 && Nat.blt p.1 c.nr && p.2.plain) && XT (c.V1.map (·.1)) &&
  Ts ⟨l,c.nk,s.nx⟩ c.res && c.res.kbb c.nr && Nat.ble c.nk c.nr && c.args.all (Ts ⟨l,c.nk,s.nx⟩)
def Zeg (s:St) (c:Ct) (l:List (Nat × SC)) (d:Nat):St :=
 ⟨(d,Vd ⟨l,c.nk,s.nx⟩ c.res)::s.L,(c.M1.filterMap fun p=>(WU ⟨l,c.nk,s.nx⟩ p.1 p.2).map fun j=>(j,UG s ⟨l,c.nk,s.nx⟩ (SO s ⟨l,c.nk,s.nx⟩ c) c.nk p.1 p.2))++s.M,
  (c.V1.map fun p=>((⟨l,c.nk,s.nx⟩:Ren).sh p.1,p.2))++s.V,s.nx+(c.nr-c.nk)⟩
theorem SC.ren_kb {κ:Ren} {n nx m:Nat} (q:∀ k c,ZQ κ.l k=some c->SC.kb nx c) (g:nx<=m) (o:∀ k,k < n->ZQ κ.l k=none->κ.sh k < m):∀ {c:SC},c.kb n->(XM κ c).kb m
 | .sl k,h=>by
  show (κ.sl k).kb m
  unfold Ren.sl
  cases e:ZQ κ.l k with
  | some c=>exact (q k c e).mono g
  | none=>exact o k h e
 | .px k off,h=>by
  have:(κ.sl k).kb m:=by
   unfold Ren.sl
   cases e:ZQ κ.l k with
   | some c=>exact (q k c e).mono g
   | none=>exact o k h e
  simp only [XM]
  split
  ·rename_i k' e;rw [e] at this;exact this
  ·trivial
 | .bp k off,h=>by
  simp only [XM]
  split
  ·rename_i k' e;exact SC.kb.mono g (show SC.kb nx (.bp k' off) from q k (.bp k' 0) e)
  ·trivial
  ·rename_i e;exact o k h e
 | .cl f fs ks,h=>by
  have key:∀ k,k < n->κ.okB k=true->κ.bk k < m:=fun k e r=>by
   unfold Ren.okB at r
   unfold Ren.bk
   split at r
   ·rename_i k' x
    exact SC.kb.mono g (show SC.kb nx (.bp k' 0) from q k (.bp k' 0) x)
   ·cases r
   ·rename_i y
    exact o k e y
  simp only [XM]
  cases z:(fs.all κ.okB && ks.all κ.okB) with
  | false=>trivial
  | true =>
   simp only [Zc] at z
   refine ⟨fun k e=>?_,fun k e=>?_⟩
   ·obtain ⟨j,p,rfl⟩:=List.mem_map.1 e;exact key j (h.1 j p) (List.all_eq_true.1 z.1 j p)
   ·obtain ⟨j,p,rfl⟩:=List.mem_map.1 e;exact key j (h.2 j p) (List.all_eq_true.1 z.2 j p)
 | .v _,h=>h
 | .sp _ _ _ _,_=>trivial
 | .i _ _,_ | .b _,_ | .s _,_ | .nil,_=>trivial
section
variable {X:Ctx} {s:St} {E:Env} {F:YB} {w:World} {a:Act}
theorem ZoL (n:Sat X s E F w a) {κ:Ren} {e:List Nat} {V:List (Nat × VF)} (hV:V.map (fun p=>QS s κ e p.1 p.2)=V.map (fun p=>some p.2)) {k:Nat} {f:VF} (x:(k,f)∈V)
  {i:YB} (hF:∀ b,F b->i b) (hB:∀ k' m,k'∈e->ZQ s.M k'=some m->∀ b,m.fp E k' b->i b):f.ok (κ.env E) i w ((κ.env E).ρ k):=by
 have h:=S5 hV _ x
 simp only [] at h
 have v:Wt F w i w:=⟨hF,fun _ _=>rfl⟩
 show f.ok _ i w (ZZ E (κ.sl k))
 cases f with
 | sl R xs =>
  simp only [QS] at h
  split at h
  ·rename_i g
   simp only [Option.some.injEq,VF.sl.injEq] at h
   have ⟨_,_,o⟩:=h
   cases o
   rw [g]
   exact .inl ⟨rfl,_,_,rfl⟩
  ·rename_i k' g
   cases q:RR k' e with
   | true =>
    rw [q] at h
    simp only [cond_true] at h
    split at h
    ·rename_i R' C fr l
     simp only [Option.some.injEq,VF.sl.injEq] at h
     obtain ⟨rfl,y,o⟩:=h
     cases y
     cases o
     rw [g]
     have j:=n.hM k' _ l
     simp only [MO.ok] at j
     rcases j with j | ⟨b,off,cap,arr,ty,fz,r,z,_,_,A,B⟩
     ·exact .inl ⟨j.1,_,_,j.2⟩
     ·refine .inr ⟨b,off,cap,arr,ty,fz,r,z,?_,A,B.mono v⟩
      refine hB k' _ (Zkb.1 q) l b ?_
      show YH (E.ρ k')=some b
      rw [r];rfl
    ·cases h
   | false =>
    rw [q] at h
    simp only [cond_false] at h
    split at h
    ·rename_i l
     rw [h] at l
     rw [g]
     exact (n.hV k' _ l).mono v
    ·cases h
  ·cases h
 | fn Φ =>
  simp only [QS] at h
  split at h
  ·rename_i k' g
   rw [g]
   exact n.hV k' _ h
  ·cases h
 | pl _=>cases h
 | el _ _=>cases h
 | vw _ _ _ _=>cases h
end
section
variable {X:Ctx} {s:St} {E E2:Env} {F:YB} {w:World} {a:Act} {κ:Ren}
theorem RN {k j:Nat} {m:MO} (b:XG κ k m=some j):(∀ cs t,m=.box cs t->(κ.env E2).β k=E2.β j)/\((∀ cs t,m≠.box cs t)->(κ.env E2).ρ k=E2.ρ j):=by
 refine ⟨?_,?_⟩
 ·rintro cs t rfl
  simp only [XG] at b
  split at b
  ·rename_i k' o e
   cases b
   simp only [XM] at e
   split at e
   ·rename_i i g;cases e;simp only [Ren.env,g]
   ·cases e
   ·rename_i g;cases e;simp only [Ren.env,g]
  ·cases b
 ·intro h
  cases m with
  | box cs t=>exact absurd rfl (h cs t)
  | own R xs fr =>
   simp only [XG] at b
   split at b
   ·rename_i k' e;cases b;simp only [Ren.env,e,ZZ]
   ·cases b
  | abs A =>
   simp only [XG] at b
   split at b
   ·rename_i k' e;cases b;simp only [Ren.env,e,ZZ]
   ·cases b
  | av _ =>
   simp only [XG] at b
   split at b
   ·rename_i k' e;cases b;simp only [Ren.env,e,ZZ]
   ·cases b
  | buf _ _ =>
   simp only [XG] at b
   split at b
   ·rename_i k' e;cases b;simp only [Ren.env,e,ZZ]
   ·cases b
  | gone=>cases b
theorem Znw {nk k j:Nat} {g:Bool} {m:MO} (e:WU κ k m=some j) (i:okM κ m=true) (b:m.ok (κ.env E2) F w k):(UG s κ g nk k m).ok E2 F w j:=by
 cases m with
 | box cs t =>
  have:=(RN (E2:=E2) (m:=.box cs t) e).1 cs t rfl
  show w.heap[E2.β j]? = _
  rw [<- this,<- Zae κ E2 i]
  exact b
 | own R xs fr =>
  have:=(RN (E2:=E2) (m:=.own R xs fr) e).2 (fun _ _ h=>by cases h)
  show OwnR R F w xs (E2.ρ j)
  rw [<- this]
  exact b
 | abs A=>exact b
 | buf sb ty =>
  have:=(RN (E2:=E2) (m:=.buf sb ty) e).2 (fun _ _ h=>by cases h)
  show BufR ty w sb (E2.ρ j)
  rw [<- this]
  exact b
 | av A =>
  have:=(RN (E2:=E2) (m:=.av A) e).2 (fun _ _ h=>by cases h)
  show A.ok F w (E2.ρ j)
  rw [<- this]
  exact b
 | gone=>trivial
theorem Znv {nk k j:Nat} {g:Bool} {m:MO} (e:WU κ k m=some j) {b:Nat}:(UG s κ g nk k m).fp E2 j b↔m.fp (κ.env E2) k b:=by
 cases m with
 | box cs t =>
  have:=(RN (E2:=E2) (m:=.box cs t) e).1 cs t rfl
  show b=E2.β j↔b=(κ.env E2).β k
  rw [this]
 | own R xs fr =>
  have:=(RN (E2:=E2) (m:=.own R xs fr) e).2 (fun _ _ h=>by cases h)
  show YH (E2.ρ j)=some b↔YH ((κ.env E2).ρ k)=some b
  rw [this]
 | abs A=>exact Iff.rfl
 | buf sb ty =>
  have:=(RN (E2:=E2) (m:=.buf sb ty) e).2 (fun _ _ h=>by cases h)
  show YH (E2.ρ j)=some b↔YH ((κ.env E2).ρ k)=some b
  rw [this]
 | av A =>
  have:=(RN (E2:=E2) (m:=.av A) e).2 (fun _ _ h=>by cases h)
  show YH (E2.ρ j)=some b↔YH ((κ.env E2).ρ k)=some b
  rw [this]
 | gone=>exact Iff.rfl
end
section
variable {X:Ctx} {s:St} {E:Env} {F:YB} {w:World} {a:Act}
def Ct.Bor (s:St) (E:Env) (F:YB) (bor:List Nat) (b:Nat):Prop:=F b\/∃ k m,k∈bor/\ZQ s.M k=some m/\m.fp E k b
theorem Zq5 {b e:List Nat} (h:(b++e).Nodup):b.Nodup/\∀ x∈b,x ∉ e:=by
 rw [List.nodup_append] at h
 exact ⟨h.1,fun x g i=>h.2.2 x g x i rfl⟩
theorem Zkq {x:Nat}:∀ {l:List Nat},x ∉ l->La x l=true
 | [],_=>rfl
 | y::r,h=>by
  simp only [List.mem_cons,not_or] at h
  simp only [La,Zc,Bool.not_eq_true']
  refine ⟨?_,Zkq h.2⟩
  cases b:Nat.beq x y with
  | false=>rfl
  | true=>exact absurd (Zd b) h.1
theorem Zkp:∀ {l:List Nat},l.Nodup->XT l=true
 | [],_=>rfl
 | x::r,h=>by
  rw [List.nodup_cons] at h
  simp only [XT,Zc]
  exact ⟨Zkq h.1,Zkp h.2⟩
theorem Zar {E:Env} {F n:YB} {w:World} {k:Nat} {m:MO}:∀ {M:List (Nat × MO)},Uh M->(k,m)∈M->m.ok E F w k->m.ok E n w k
 | [],_,h,_=>by cases h
 | (k0,m0)::r,hf,hmem,g=>by
  rcases List.mem_cons.1 hmem with e | j
  ·cases e
   cases m with
   | box _ _=>exact g
   | own R xs fr =>
    have l:R.Flat:=hf.1
    rcases g with g | ⟨b,off,cap,arr,ty,fz,p,q,v,y,z,A⟩
    ·exact .inl g
    ·exact .inr ⟨b,off,cap,arr,ty,fz,p,q,v,y,z,fun i x o=>let ⟨vs,hr,hv⟩:=A i x o;⟨vs,l _ _ _ _ _ _ hr,hv⟩⟩
   | abs _=>exact absurd hf (by simp [Uh])
   | av _=>exact absurd hf (by simp [Uh])
   | buf _ _=>exact absurd hf (by simp [Uh])
   | gone=>trivial
  ·cases m0 with
   | box _ _=>exact Zar (M:=r) hf j g
   | own R xs fr=>exact Zar (M:=r) hf.2 j g
   | abs _=>exact absurd hf (by simp [Uh])
   | av _=>exact absurd hf (by simp [Uh])
   | buf _ _=>exact absurd hf (by simp [Uh])
   | gone=>exact Zar (M:=r) hf j g
theorem ZnM (i:Sat X s E F w a) {c:Ct} {l:List (Nat × SC)} {bor:List Nat} {d:Nat} (hd:d < X.fn.ntmps)
  (hV:c.V0.map (fun p=>QS s ⟨l,c.nk,s.nx⟩ bor p.1 p.2)=c.V0.map (fun p=>some p.2))
  (hM:c.M0.map (fun p=>Va s ⟨l,c.nk,s.nx⟩ p.1 p.2)=c.M0.map (fun p=>some (VM ⟨l,c.nk,s.nx⟩ p.2)))
  (hflat:bor=[]\/(c.V1=[]/\Uh c.M1)) (hc:MM s c l bor=true) :
  c.Pre ((⟨l,c.nk,s.nx⟩:Ren).env E) (Ct.Bor s E F bor) w /\
  (∀ E' F' w',c.Post ((⟨l,c.nk,s.nx⟩:Ren).env E) (Ct.Bor s E F bor) w E' F' w'->∃ E2 G,Sat X (Zeg s c l d) E2 G w' (a.put (some d) (Yc E' c.res))):=by
 simp only [MM,Zc] at hc
 obtain ⟨⟨⟨⟨⟨⟨⟨⟨⟨⟨⟨⟨⟨c1,c2⟩,c3⟩,c4⟩,c5⟩,c6⟩,c7⟩,c8⟩,c9⟩,c10⟩,c11⟩,c12⟩,c13⟩,_c14⟩:=hc
 unfold Zeg
 have hlk:∀ k x,ZQ l k=some x->k < c.nk/\x.kb s.nx:=fun k x h=>by
  have:=List.all_eq_true.1 c2 _ (YY h)
  simp only [Zc] at this
  exact ⟨YT this.1,SC.kbb_ok this.2⟩
 have hall:∀ k,k < c.nk->∃ x,ZQ l k=some x:=fun k h=>by
  have:=List.all_eq_true.1 c1 k (List.mem_range.2 h)
  exact Option.isSome_iff_exists.1 this
 have hle:c.nk<=c.nr:=Ze c13
 generalize hκ:(⟨l,c.nk,s.nx⟩:Ren)=κ at *
 have el:κ.l=l:=by subst hκ;rfl
 have esh:∀ k,c.nk<=k->κ.sh k=s.nx+(k-c.nk):=by
  intro k O;subst hκ;simp [Ren.sh,Nat.ble_eq_true_of_le O]
 have hnone:∀ k,c.nk<=k->ZQ κ.l k=none:=fun k O=>by
  rw [el]
  cases h:ZQ l k with
  | none=>rfl
  | some x=>exact absurd (hlk k x h).1 (Nat.not_lt.2 O)
 have ⟨n0,nb⟩:=Zq5 (Q1 c3)
 have heM:Emb s κ [] c.M0:=⟨rfl,hM,Zkp n0,c4⟩
 -- the blocks of what goes in
 have hin:∀ k m b,ZQ c.M0 k=some m->m.fp (κ.env E) k b->∃ k' m',XG κ k m=some k'/\ZQ s.M k'=some m'/\m'.fp E k' b:=by
  intro k m b hm B
  have ⟨_,g⟩:=heM.memM i (YY hm)
  rcases g with g | ⟨k',m',D,r,Y,_⟩
  ·exact absurd B (g b)
  ·exact ⟨k',m',D,r,Y b B⟩
 have hpre:c.Pre (κ.env E) (Ct.Bor s E F bor) w:={
  one:=fun k=>by
   show (ZZ E (κ.sl k)).oneCell'=true
   unfold Ren.sl
   rw [el]
   cases h:ZQ l k with
   | none=>exact i.one _
   | some x=>exact QP i.one (hlk k x h).2
  hF:=fun b B=>by
   rcases B with B | ⟨k,m,_,hm,hf⟩
   ·exact i.hF b B
   ·exact (i.mF k m hm b hf).2.2
  V:=fun k f h=>ZoL i hV (YY h) (fun b B=>.inl B) (fun k' m O hm b B=>.inr ⟨k',m,O,hm,B⟩)
  M:=fun k m h=>by
   have:=(heM.memM i (YY h)).1
   exact this.mono ⟨fun b B=>.inl B,fun _ _=>rfl⟩ (fun _ _=>rfl)
  dis:=fun k k' m m' h U hne b B=>heM.disj i (YY h) (YY U) hne b B
  mF:=fun k m h b B=>by
   have ⟨k',m',D,r,Y⟩:=hin k m b h B
   have:=i.mF k' m' r b Y
   refine ⟨?_,this.2.2⟩
   rintro (hF | ⟨j,m2,hj,hm2,hf⟩)
   ·exact this.1 hF
   ·have hne:k'≠j:=fun e=>by
     subst e
     exact nb k' (List.mem_filterMap.2 ⟨_,YY h,D⟩) hj
    exact i.dis k' j m' m2 r hm2 hne b Y hf }
 refine ⟨hpre,fun E' F' w' W=>?_⟩
 -- the environment behind
 let E2:Env:=⟨fun k=>if k < s.nx then E.ρ k else E'.ρ (c.nk+(k-s.nx)),fun k=>if k < s.nx then E.β k else E'.β (c.nk+(k-s.nx))⟩
 have N:E.Eqb s.nx E2:=fun k O=>⟨by simp [E2,O],by simp [E2,O]⟩
 have hE':E'.Eqb c.nr (κ.env E2):=fun k _=>by
  rcases Nat.lt_or_ge k c.nk with O | O
  ·have ⟨x,hx⟩:=hall k O
   have hkb:=(hlk k x hx).2
   have hpe:=W.env k O
   have hx':ZQ κ.l k=some x:=by rw [el];exact hx
   constructor
   ·rw [hpe.1]
    show ZZ E2 (κ.sl k)=ZZ E (κ.sl k)
    unfold Ren.sl
    rw [hx']
    exact MT N hkb
   ·rw [hpe.2]
    simp only [Ren.env,hx']
    split
    ·rename_i k' o he
     cases he
     have:k' < s.nx:=hkb
     simp [E2,this]
    ·rfl
    ·rename_i he;cases he
  ·have D:=esh k O
   have r:=hnone k O
   have Y:c.nk+(k-c.nk)=k:=by omega
   have h4:¬ s.nx+(k-c.nk) < s.nx:=by omega
   exact ⟨by simp [Ren.env,Ren.sl,r,D,ZZ,E2,h4,Y],by simp [Ren.env,r,D,E2,h4,Y]⟩
 have hone2:∀ k,(E2.ρ k).oneCell'=true:=fun k=>by
  show (if k < s.nx then E.ρ k else E'.ρ (c.nk+(k-s.nx))).oneCell'=true
  split
  ·exact i.one k
  ·exact W.one _
 -- which blocks are new
 have hfp0:∀ b,c.fp0 (κ.env E) b->∃ k' m',ZQ s.M k'=some m'/\m'.fp E k' b/\∃ k m,(k,m)∈c.M1/\WU κ k m=some k':=by
  rintro b ⟨k,m,hm,B⟩
  have ⟨k',m',D,r,Y⟩:=hin k m b hm B
  have:=List.all_eq_true.1 c5 _ (YY hm)
  simp only [] at this
  split at this
  ·rename_i m1 S
   refine ⟨k',m',r,Y,k,m1,YY S,?_⟩
   rw [Zrc this,D]
  ·cases this
 have hbF:∀ b,c.fp0 (κ.env E) b->¬ F b/\¬ X.Z b/\b < w.heap.size:=fun b B=>by
  have ⟨k',m',D,r,_⟩:=hfp0 b B
  exact i.mF k' m' D b r
 have hsame:∀ b,b < w.heap.size->¬ c.fp0 (κ.env E) b->w'.heap[b]? = w.heap[b]? := fun b D r=>W.ext.block b ⟨D,r⟩
 have hM1:∀ k m,(k,m)∈c.M1->∃ _j:Nat,True/\k < c.nr/\m.kb c.nr/\okM κ m=true/\ZQ c.M1 k=some m/\(c.nk<=k\/∃ m0,ZQ c.M0 k=some m0):=fun k m h=>by
  have:=List.all_eq_true.1 c6 _ h
  simp only [Zc,Bool.or_eq_true] at this
  obtain ⟨⟨⟨⟨D,r⟩,Y⟩,h4⟩,h5⟩:=this
  refine ⟨0,trivial,YT r,MO.kbb_ok Y,h4,ZaJ (Q1 c7) h,h5.imp Ze fun h=>?_⟩
  obtain ⟨⟨k0,m0⟩,hm0,e⟩:=List.mem_map.1 (Zkb.1 h)
  simp only [] at e
  subst e
  exact ⟨m0,ZaJ (Q1 c4) hm0⟩
 generalize hML:(c.M1.filterMap fun p=>(WU κ p.1 p.2).map fun j=>(j,UG s κ (SO s κ c) c.nk p.1 p.2))=ML at *
 have C:∀ j m',ZQ ML j=some m'->∃ k m,(k,m)∈c.M1/\WU κ k m=some j/\m'=UG s κ (SO s κ c) c.nk k m:=fun j m' h=>by
  subst hML
  obtain ⟨⟨k,m⟩,hm,e⟩:=List.mem_filterMap.1 (YY h)
  have ⟨j',hj,e⟩:=Option.map_eq_some_iff.1 e
  simp only [Zp] at e
  exact ⟨k,m,hm,by rw [hj,e.1],e.2.symm⟩
 have hlookN:∀ j,ZQ ML j=none->∀ k m,(k,m)∈c.M1->WU κ k m≠some j:=fun j h k m hm O=>by
  subst hML
  refine ZaE h (UG s κ (SO s κ c) c.nk k m) (List.mem_filterMap.2 ⟨(k,m),hm,?_⟩)
  simp only [O,Option.map_some]
 -- G
 have hG:∃ G:YB,(∀ b,F b->G b)/\(∀ b,G b->F b\/w.heap.size<=b)/\(∀ b,G b->F' b)/\(∀ k f,ZQ c.V1 k=some f->f.ok E' G w' (E'.ρ k))/\(∀ k m,ZQ c.M1 k=some m->m.ok E' G w' k):=by
  rcases hflat with B | ⟨hv,hf⟩
  ·subst B
   refine ⟨F',fun b h=>W.F0 b (.inl h),fun b h=>?_,fun _ h=>h,W.V,W.M⟩
   rcases W.F1 b h with (h | ⟨_,_,h,_⟩) | h
   ·exact .inl h
   ·cases h
   ·exact .inr h
  ·refine ⟨F,fun _ h=>h,fun _ h=>.inl h,fun b h=>W.F0 b (.inl h),(fun k f h=>by rw [hv] at h;cases h),fun k m h=>?_⟩
   exact Zar hf (YY h) (W.M k m h)
 have ⟨G,g0,g1,g2,gV,gM⟩:=hG
 have hgrow:Wt F w G w':=⟨g0,fun b B=>hsame b (i.hF b B) fun h=>(hbF b h).1 B⟩
 -- what is left of the caller's own memory
 have hold:∀ j m,ZQ ML j=none->ZQ s.M j=some m->∀ b,m.fp E j b->b < w.heap.size/\¬ c.fp0 (κ.env E) b:=by
  intro j m hn hm b B
  refine ⟨(i.mF j m hm b B).2.2,fun h0=>?_⟩
  have ⟨k',m',D,r,k,m1,Y,h4⟩:=hfp0 b h0
  have hne:k'≠j:=fun e=>by subst e;exact hlookN k' hn k m1 Y h4
  exact i.dis k' j m' m D hm hne b r B
 have I:∀ j k m b,(k,m)∈c.M1->WU κ k m=some j->(UG s κ (SO s κ c) c.nk k m).fp E2 j b->¬ F' b/\b < w'.heap.size/\(c.fp0 (κ.env E) b\/w.heap.size<=b)/\m.fp E' k b:=by
  intro j k m b hm O B
  have ⟨_,_,D,r,_,h4,_⟩:=hM1 k m hm
  have hb':m.fp E' k b:=by
   have:=(Znv (s:=s) (E2:=E2) (nk:=c.nk) O).1 B
   exact (MO.fp_eqb hE' D).1 this
  have:=W.mF k m h4 b hb'
  exact ⟨this.1,this.2.1,this.2.2,hb'⟩
 refine ⟨E2,G,?_⟩
 have T:∀ {x:SC},x.kb c.nr->(XM κ x).kb (s.nx+(c.nr-c.nk)):=fun hx =>
  SC.ren_kb (κ:=κ) (n:=c.nr) (nx:=s.nx) (fun k y h=>(hlk k y (by rw [<- el];exact h)).2) (Nat.le_add_right _ _) (fun k O hn=>by
   rcases Nat.lt_or_ge k c.nk with h | h
   ·have ⟨y,hy⟩:=hall k h;rw [el,hy] at hn;cases hn
   ·rw [esh k h];omega) hx
 have hres:Yc E' c.res=Yc E2 (Vd κ c.res):=by
  rw [<- Zac κ E2 c11]
  exact (Zab hE' (SV.kbb_ok c12)).symm
 have hwf:St.Wf ⟨(d,Vd κ c.res)::s.L,ML++s.M,(c.V1.map fun p=>(κ.sh p.1,p.2))++s.V,s.nx+(c.nr-c.nk)⟩:=by
  refine ⟨fun d' v h=>?_,fun j m h=>?_,fun j f h=>?_⟩
  ·rw [YG] at h
   split at h
   ·cases h
    have:=SV.kbb_ok c12
    cases hr:c.res with
    | c x=>rw [hr] at this;exact T this
    | a cs=>rw [hr] at this;intro y hy;obtain ⟨x,hx,rfl⟩:=List.mem_map.1 hy;exact T (this x hx)
    | t vs =>
     rw [hr] at this
     intro y hy
     obtain ⟨x,hx,rfl⟩:=List.mem_map.1 hy
     have:=this x hx
     cases x with
     | inl x=>exact T this
     | inr cs=>intro z hz;obtain ⟨q,hq,rfl⟩:=List.mem_map.1 hz;exact T (this q hq)
    | u=>trivial
   ·exact (i.wf.hL d' v h).mono (Nat.le_add_right _ _)
  ·rw [XS] at h
   split at h
   ·rename_i m' hm'
    cases h
    obtain ⟨k,m1,D,r,rfl⟩:=C j m hm'
    have ⟨_,Y,h4,h5,_,_,h6⟩:=hM1 k m1 D
    have hj:j < s.nx+(c.nr-c.nk):=by
     have:(XM κ (.bp k 0)).kb (s.nx+(c.nr-c.nk)):=T (x:=.bp k 0) h4
     have U:(XM κ (.sl k)).kb (s.nx+(c.nr-c.nk)):=T (x:=.sl k) h4
     cases m1 with
     | box cs t =>
      simp only [WU,XG] at r
      split at r
      ·rename_i k' o hr;cases r;rw [hr] at this;exact this
      ·cases r
     | own R xs fr =>
      simp only [WU,XG] at r
      split at r
      ·rename_i k' hr;cases r;have e:XM κ (.sl k)=κ.sl k:=rfl;rw [e,hr] at U;exact U
      ·cases r
     | av _ =>
      simp only [WU,XG] at r
      split at r
      ·rename_i k' hr;cases r;have e:XM κ (.sl k)=κ.sl k:=rfl;rw [e,hr] at U;exact U
      ·cases r
     | buf _ _ =>
      simp only [WU,XG] at r
      split at r
      ·rename_i k' hr;cases r;have e:XM κ (.sl k)=κ.sl k:=rfl;rw [e,hr] at U;exact U
      ·cases r
     | abs A =>
      simp only [WU,XG] at r
      split at r
      ·rename_i k' hr;cases r;have e:XM κ (.sl k)=κ.sl k:=rfl;rw [e,hr] at U;exact U
      ·cases r
     | gone =>
      simp only [WU] at r
      split at r
      ·rename_i k' hr;cases r;have e:XM κ (.sl k)=κ.sl k:=rfl;rw [e,hr] at U;exact U
      ·cases r
    refine ⟨hj,?_⟩
    cases m1 with
    | box cs t=>intro y hy;obtain ⟨x,hx,rfl⟩:=List.mem_map.1 hy;exact T (h5 x hx)
    | own R xs fr=>trivial
    | abs A=>trivial
    | av _=>trivial
    | buf _ _=>trivial
    | gone=>trivial
   ·exact ⟨Zh (i.wf.hM j m h).1 (Nat.le_add_right _ _),(i.wf.hM j m h).2.mono (Nat.le_add_right _ _)⟩
  ·rw [XS] at h
   split at h
   ·rename_i f' hf'
    cases h
    obtain ⟨⟨k,f1⟩,D,e⟩:=List.mem_map.1 (YY hf')
    simp only [Zp] at e
    obtain ⟨e1,rfl⟩:=e
    have:=List.all_eq_true.1 c9 _ D
    simp only [Zc] at this
    obtain ⟨⟨Y,h4⟩,h5⟩:=this
    have Y:=Ze Y
    have h4:=YT h4
    rw [esh k Y] at e1
    refine ⟨(show j < s.nx+(c.nr-c.nk) by omega),?_⟩
    cases f1<;>first | trivial | cases h5
   ·exact ⟨Zh (i.wf.hV j f h).1 (Nat.le_add_right _ _),(i.wf.hV j f h).2.mono (Nat.le_add_right _ _)⟩
 exact {
  wf:=hwf
  nk:=Nat.le_trans i.nk (Nat.le_add_right _ _)
  defers:=by rw [Zfl];exact i.defers
  size:=by rw [ZkL];exact i.size
  hL:=fun d' v h=>by
   rw [getElem?_put (by rw [i.size];exact hd)]
   rw [YG] at h
   split at h
   ·rename_i e;cases h;rw [if_pos e,hres]
   ·rename_i e;rw [if_neg e,Zab N (i.wf.hL d' v h)];exact i.hL d' v h
  hV:=fun j f h=>by
   rw [XS] at h
   split at h
   ·rename_i f' hf'
    cases h
    obtain ⟨⟨k,f1⟩,D,e⟩:=List.mem_map.1 (YY hf')
    simp only [Zp] at e
    obtain ⟨e1,rfl⟩:=e
    have:=List.all_eq_true.1 c9 _ D
    simp only [Zc] at this
    obtain ⟨⟨Y,h4⟩,h5⟩:=this
    have Y:=Ze Y
    have hok:=gV k f1 (ZaJ (Q1 c10) D)
    have hρ:E2.ρ j=E'.ρ k:=by
     rw [<- e1,esh k Y]
     have h6:¬ s.nx+(k-c.nk) < s.nx:=by omega
     have h7:c.nk+(k-c.nk)=k:=by omega
     simp [E2,h6,h7]
    rw [hρ]
    cases f1<;>first | exact hok | cases h5
   ·have:=((i.hV j f h).mono hgrow).eqb N (i.wf.hV j f h).2
    rw [(N j (i.wf.hV j f h).1).1];exact this
  hM:=fun j m h=>by
   rw [XS] at h
   split at h
   ·rename_i m' hm'
    cases h
    obtain ⟨k,m1,D,r,rfl⟩:=C j m hm'
    have ⟨_,_,h4,h5,h6,h7,_⟩:=hM1 k m1 D
    exact Znw r h6 ((gM k m1 h7).eqb hE' h4 h5)
   ·rename_i hn
    refine MO.ok.eqb N (i.wf.hM j m h).1 (i.wf.hM j m h).2 ((i.hM j m h).mono hgrow fun b B=>?_)
    have:=hold j m hn h b B
    exact hsame b this.1 this.2
  dis:=fun j j' m m' h U hne b B=>by
   rw [XS] at h U
   split at h
   ·rename_i m1 S
    cases h
    obtain ⟨k,n,D,r,rfl⟩:=C j m S
    have hf:=I j k n b D r B
    split at U
    ·rename_i m2 hm2
     cases U
     obtain ⟨k',n',h1',h2',rfl⟩:=C j' m' hm2
     intro hb'
     have hf':=I j' k' n' b h1' h2' hb'
     have ⟨_,_,_,_,_,h7,_⟩:=hM1 k n D
     have ⟨_,_,_,_,_,h7',_⟩:=hM1 k' n' h1'
     have hkk:k≠k':=fun e=>by
      subst e
      rw [h7] at h7'
      cases h7'
      rw [r] at h2'
      cases h2'
      exact hne rfl
     exact W.dis k k' n n' h7 h7' hkk b hf.2.2.2 hf'.2.2.2
    ·rename_i hn
     intro hb'
     have hb'':m'.fp E j' b:=(MO.fp_eqb N (i.wf.hM j' m' U).1).1 hb'
     have:=hold j' m' hn U b hb''
     rcases hf.2.2.1 with h0 | h0
     ·exact this.2 h0
     ·omega
   ·rename_i hn
    have hb1:m.fp E j b:=(MO.fp_eqb N (i.wf.hM j m h).1).1 B
    have ho:=hold j m hn h b hb1
    split at U
    ·rename_i m2 hm2
     cases U
     obtain ⟨k',n',h1',h2',rfl⟩:=C j' m' hm2
     intro hb'
     have hf':=I j' k' n' b h1' h2' hb'
     rcases hf'.2.2.1 with h0 | h0
     ·exact ho.2 h0
     ·omega
    ·intro hb'
     exact i.dis j j' m m' h U hne b hb1 ((MO.fp_eqb N (i.wf.hM j' m' U).1).1 hb')
  mF:=fun j m h b B=>by
   rw [XS] at h
   split at h
   ·rename_i m1 S
    cases h
    obtain ⟨k,n,D,r,rfl⟩:=C j m S
    have hf:=I j k n b D r B
    refine ⟨fun hg=>hf.1 (g2 b hg),fun hz=>?_,hf.2.1⟩
    rcases hf.2.2.1 with h0 | h0
    ·exact (hbF b h0).2.1 hz
    ·have:=i.hZ b hz;have:=i.ext.size;omega
   ·rename_i hn
    have hb1:m.fp E j b:=(MO.fp_eqb N (i.wf.hM j m h).1).1 B
    have ho:=hold j m hn h b hb1
    have hmf:=i.mF j m h b hb1
    refine ⟨fun hg=>?_,hmf.2.1,Zh ho.1 W.ext.size⟩
    rcases g1 b hg with h0 | h0
    ·exact hmf.1 h0
    ·omega
  fresh:=fun j m h H b B=>by
   rw [XS] at h
   split at h
   ·rename_i m1 S
    cases h
    obtain ⟨k,n,D,r,rfl⟩:=C j m S
    have hf:=I j k n b D r B
    have ⟨_,_,h4,_,_,h7,h8⟩:=hM1 k n D
    have hsz:=i.ext.size
    rcases Nat.lt_or_ge k c.nk with O | O
    ·cases n with
     | own R xs fr =>
      have hj:κ.sl k=.sl j:=by
       simp only [WU,XG] at r
       split at r
       ·rename_i hr;cases r;exact hr
       ·cases r
      have K:M3 s j=true:=by
       have e:(UG s κ (SO s κ c) c.nk k (.own R xs fr)).isFresh=M3 s j:=by
        have B:Nat.blt k c.nk=true:=by unfold Nat.blt;exact Nat.ble_eq_true_of_le O
        simp only [UG,MO.isFresh,B,cond_true,hj]
       rw [e] at H;exact H
      unfold M3 at K
      split at K
      ·rename_i R0 xs0 fr0 hl0
       have hjn:j < s.nx:=(i.wf.hM j _ hl0).1
       refine i.fresh j _ hl0 K b ?_
       show YH (E.ρ j)=some b
       have:YH (E2.ρ j)=some b:=B
       rw [(N j hjn).1] at this
       exact this
      ·cases K
     | box _ _=>cases H
     | abs _=>cases H
     | av _=>cases H
     | buf _ _=>cases H
     | gone=>cases H
    ·cases n with
     | own R xs fr =>
      have B:Nat.blt k c.nk=false:=by
       cases B:Nat.blt k c.nk with
       | false=>rfl
       | true=>exact absurd (YT B) (Nat.not_lt.2 O)
      have e:(UG s κ (SO s κ c) c.nk k (.own R xs fr)).isFresh=(fr || SO s κ c):=by simp only [UG,MO.isFresh,B,cond_false]
      rw [e,Bool.or_eq_true] at H
      have hn0:=i.hn0
      rcases H with K | K
      ·have:=W.fresh k _ h7 K b hf.2.2.2
       omega
      ·rcases hf.2.2.1 with h0 | h0
       ·have ⟨k0,m0,hm0,hb0⟩:=h0
        have ha:=List.all_eq_true.1 K _ (YY hm0)
        have ⟨k',m',g1',g2',g3'⟩:=hin k0 m0 b hm0 hb0
        cases m0 with
        | own R0 xs0 fr0 =>
         simp only [XG] at g1'
         split at g1'
         ·rename_i j0 hr0
          simp only [Option.some.injEq] at g1'
          subst g1'
          simp only [hr0] at ha
          unfold M3 at ha
          rw [g2'] at ha
          cases m' with
          | own R1 xs1 fr1=>exact i.fresh _ _ g2' ha b g3'
          | box _ _=>cases ha
          | abs _=>cases ha
          | av _=>cases ha
          | buf _ _=>cases ha
          | gone=>cases ha
         ·cases g1'
        | box cs0 t0 =>
         exfalso
         simp only [] at ha
         split at ha
         ·rename_i cs1 t1 S
          have hk0:=YT ha
          have hb0:b=(κ.env E).β k0:=hb0
          exact W.dis k k0 _ _ h7 S (fun e=>by omega) b hf.2.2.2 (hb0.trans (W.env k0 hk0).2.symm)
         ·cases ha
        | abs _=>cases ha
        | av A0 =>
         exfalso
         simp only [] at ha
         split at ha
         ·rename_i A1 S
          have hk0:=YT ha
          have hb0:YH ((κ.env E).ρ k0)=some b:=hb0
          exact W.dis k k0 _ _ h7 S (fun e=>by omega) b hf.2.2.2 (by show YH (E'.ρ k0)=some b;rw [(W.env k0 hk0).1];exact hb0)
         ·cases ha
        | buf _ _=>cases ha
        | gone=>cases ha
       ·omega
     | box _ _=>cases H
     | abs _=>cases H
     | av _=>cases H
     | buf _ _=>cases H
     | gone=>cases H
   ·exact i.fresh j m h H b ((MO.fp_eqb N (i.wf.hM j m h).1).1 B)
  hF:=fun b B=>W.Fs b (g2 b B)
  hF0:=fun b B=>g0 b (i.hF0 b B)
  hF1:=fun b B=>by
   rcases g1 b B with h | h
   ·exact i.hF1 b h
   ·have D:=i.ext.size;have r:=i.hn0;exact .inr ⟨by omega,fun hz=>by have:=i.hZ b hz;omega⟩
  hn0:=i.hn0
  hZ:=i.hZ
  ext:=i.ext.trans ⟨W.ext.os,W.ext.tape,W.ext.output,W.ext.size,fun b hz=>hsame b (Zh (i.hZ b hz) i.ext.size) fun h0=>(hbF b h0).2.1 hz⟩
  link:=i.link.trans (N.mono i.nk)
  one:=hone2 }
theorem ZnJ {P:Program} {f:FuncId} (h:BM P f) (args:Array Value) (w:World):(callFunc f args).run P w=.ok (.enter f args) w:=by
 have ⟨fn,b,e,g⟩:=h
 simp only [callFunc,Sem.run_bind,run_program,Result.andThen_ok,b,e,g,Bool.false_eq_true,if_false,Sem.run_pure]
def RG (ks:List Nat):List SV:=ks.map fun k=>.c (.bp k 0)
theorem WPr.callc {ops:Array Oper} {todo:Act->World->Prop} {i:Nat} {rest:List Nat} {o:Oper} {f:FuncId} {fs g:List Nat} {x:Operand} {args:Array Operand} {W:Array TypeId} {c:Ct} {d:Nat}
  (T:Fn X.P f c) (l:List (Nat × SC)) (j:List Nat) (Y:ops[i]? = some o) (Z:YO ops s.L o=some true)
  (C:o.op=.call { callee:=.value x,args:=args,argTypes:=W }) (hd:o.dst=some d) (D:Nat.blt d X.fn.ntmps=true) (y:Yd s.L x=some (.c (.cl f fs g)))
  (b:(V7 s.L args.toList).map (fun U=>RG fs++U++RG g)=some (c.args.map (Vd ⟨l,c.nk,s.nx⟩)))
  (hV:c.V0.map (fun p=>QS s ⟨l,c.nk,s.nx⟩ j p.1 p.2)=c.V0.map (fun p=>some p.2))
  (hM:c.M0.map (fun p=>Va s ⟨l,c.nk,s.nx⟩ p.1 p.2)=c.M0.map (fun p=>some (VM ⟨l,c.nk,s.nx⟩ p.2)))
  (m:j=[]\/(c.V1=[]/\Uh c.M1)) (H:MM s c l j=true) (k:WPr X ops rest todo (Zeg s c l d)):WPr X ops (i::rest) todo s:=by
 refine WPr.op Y Z (fun E F w a I=>?_) k
 have ⟨z,n⟩:=ZnM I (d:=d) (YT D) hV hM m H
 have A:c.args.all (Ts ⟨l,c.nk,s.nx⟩)=true:=by simp only [MM,Zc] at H;exact H.2
 cases r:V7 s.L args.toList with
 | none=>rw [r] at b;cases b
 | some U =>
  rw [r] at b
  simp only [Option.map_some,Option.some.injEq] at b
  have S:=(Gj I r).1
  have ⟨K,_⟩:=I.eval y
  have h:∀ g:List Nat,(RG g).map (Yc E)=(WD E g).toList:=fun g=>by simp [RG,WD,Yc,ZZ,Function.comp_def]
  have q:WD E fs++args.map a.eval++WD E g=(c.args.map (Yc ((⟨l,c.nk,s.nx⟩:Ren).env E))).toArray:=by
   apply Array.ext'
   rw [Array.toList_append,Array.toList_append,Array.toList_map,S,<- h,<- h,<- List.map_append,<- List.map_append,b,List.map_map]
   exact List.map_congr_left fun v hv=>(Zac _ E (List.all_eq_true.1 A v hv)).symm
  have B:(execOp a.eval o).run X.P w=.ok (.enter f (WD E fs++args.map a.eval++WD E g)) w:=by
   unfold execOp
   simp only [C,resolve,K,Yc,ZZ,Deferred.ofValue,invoke,Sem.run_bind,Sem.run_pure,Result.andThen_ok]
   exact ZnJ T.callable _ w
  unfold Oper.wp
  rw [B]
  show Calls _ _ _ _ _
  rw [q]
  refine (T.calls _ _ _ z).mono ?_
  rintro e w' ⟨N,O,rfl,hp⟩
  have ⟨E2,G,R⟩:=n N O w' hp
  show ∃ N O,Sat X _ N O w' _
  rw [hd]
  exact ⟨E2,G,R⟩
end
end Go.Kx
end
section
namespace Go.Kx
variable [LxP]
def rI (k:IntKind):TRep Int where
 sz:=1
 pos:=Nat.one_pos
 rep _ _ n vs:=vs=[.int k n]
 len h:=by rw [h];rfl
 mono _ h:=h
 one h:=by rw [h];intro v hv;rw [List.mem_singleton.1 hv];rfl
def rB:TRep Bool where
 sz:=1
 pos:=Nat.one_pos
 rep _ _ b vs:=vs=[.bool b]
 len h:=by rw [h];rfl
 mono _ h:=h
 one h:=by rw [h];intro v hv;rw [List.mem_singleton.1 hv];rfl
def rS:TRep ByteArray where
 sz:=1
 pos:=Nat.one_pos
 rep _ _ b vs:=vs=[.string b]
 len h:=by rw [h];rfl
 mono _ h:=h
 one h:=by rw [h];intro v hv;rw [List.mem_singleton.1 hv];rfl
theorem ZhQ {α:Type} {R:TRep α} {F w} {xs:List α} {v:Value} (h:SlR R F w xs v):v.oneCell'=true:=by
 rcases h with ⟨_,_,_,rfl⟩ | ⟨_,_,_,_,_,_,rfl,_⟩<;>rfl
def Yx {α:Type} (R:TRep α):TRep (List α) where
 sz:=1
 pos:=Nat.one_pos
 rep F w xs vs:=∃ v,vs=[v]/\SlR R F w xs v
 len h:=by have ⟨v,h,_⟩:=h;rw [h];rfl
 mono g h:=let ⟨v,e,hs⟩:=h;⟨v,e,hs.mono g⟩
 one h:=by have ⟨v,e,hs⟩:=h;rw [e];intro u hu;rw [List.mem_singleton.1 hu];exact ZhQ hs
def rP {α β:Type} (R1:TRep α) (R2:TRep β):TRep (α × β) where
 sz:=R1.sz+R2.sz
 pos:=Nat.add_pos_left R1.pos _
 rep F w x vs:=∃ us ws,vs=us++ws/\R1.rep F w x.1 us/\R2.rep F w x.2 ws
 len h:=by obtain ⟨us,ws,rfl,h1,h2⟩:=h;rw [List.length_append,R1.len h1,R2.len h2]
 mono g h:=let ⟨us,ws,e,h1,h2⟩:=h;⟨us,ws,e,R1.mono g h1,R2.mono g h2⟩
 one h:=by
  obtain ⟨us,ws,rfl,h1,h2⟩:=h
  intro v hv
  rcases List.mem_append.1 hv with hv | hv
  ·exact R1.one h1 v hv
  ·exact R2.one h2 v hv
def rM {α β:Type} (f:α->β) (R:TRep β):TRep α where
 sz:=R.sz
 pos:=R.pos
 rep F w x vs:=R.rep F w (f x) vs
 len h:=R.len h
 mono g h:=R.mono g h
 one h:=R.one h
theorem Q5 (k:IntKind):(rI k).Flat:=fun _ _ _ _ _ _ h=>h
theorem Zfs:rS.Flat:=fun _ _ _ _ _ _ h=>h
theorem Lf {α β:Type} {b:TRep α} {g:TRep β} (h:b.Flat) (i:g.Flat):(rP b g).Flat :=
 fun _ _ _ _ _ _ ⟨j,l,e,m,n⟩=>⟨j,l,e,h _ _ _ _ _ _ m,i _ _ _ _ _ _ n⟩
theorem Zfn {α β:Type} {f:α->β} {R:TRep β} (h:R.Flat):(rM f R).Flat:=fun _ _ _ _ _ _ g=>h _ _ _ _ _ _ g
structure Opn {α:Type} (R:TRep α) where
 nk:Nat
 cells:Nat->α->List SC
 facts:Nat->α->List (Nat × VF)
 ok:∀ {F w x vs},R.rep F w x vs->∀ (k:Nat) (E:Env),(∀ j,(E.ρ j).oneCell'=true)->∃ E',E.Eqb k E'/\(∀ j,E'.β j=E.β j)/\(∀ j,k+nk<=j->E'.ρ j=E.ρ j)/\(∀ j,(E'.ρ j).oneCell'=true)/\vs=(cells k x).map (ZZ E') /\
  (∀ p∈facts k x,k<=p.1/\p.1 < k+nk/\p.2.plain=true/\p.2.ok E' F w (E'.ρ p.1))/\∀ c∈cells k x,SC.kb (k+nk) c
 chk:(Nat->Option VF)->α->List SC->Prop
 cok:∀ {V:Nat->Option VF} {x cs},chk V x cs->∀ (E:Env) F w,(∀ k f,V k=some f->f.ok E F w (E.ρ k))->R.rep F w x (cs.map (ZZ E))
 T:Type 1
 lq:(Nat->Option VF)->α->List SC->T
 rq:(Nat->Option VF)->α->List SC->T
 eqn:∀ {V x cs},lq V x cs=rq V x cs->chk V x cs
def oI (k:IntKind):Opn (rI k) where
 nk:=0
 cells _ n:=[.i k n]
 facts _ _:=[]
 ok h j E ho:=⟨E,Env.Eqb.refl _ _,fun _=>rfl,fun _ _=>rfl,ho,h,by simp,by simp [SC.kb]⟩
 chk _ n cs:=cs=[.i k n]
 cok h E F w _:=by rw [h];rfl
 T:=ULift.{1,0} (List SC)
 lq _ _ cs:=⟨cs⟩
 rq _ n _:=⟨[.i k n]⟩
 eqn h:=congrArg ULift.down h
def oB:Opn rB where
 nk:=0
 cells _ n:=[.b n]
 facts _ _:=[]
 ok h j E ho:=⟨E,Env.Eqb.refl _ _,fun _=>rfl,fun _ _=>rfl,ho,h,by simp,by simp [SC.kb]⟩
 chk _ n cs:=cs=[.b n]
 cok h E F w _:=by rw [h];rfl
 T:=ULift.{1,0} (List SC)
 lq _ _ cs:=⟨cs⟩
 rq _ n _:=⟨[.b n]⟩
 eqn h:=congrArg ULift.down h
def oS:Opn rS where
 nk:=0
 cells _ n:=[.s n]
 facts _ _:=[]
 ok h j E ho:=⟨E,Env.Eqb.refl _ _,fun _=>rfl,fun _ _=>rfl,ho,h,by simp,by simp [SC.kb]⟩
 chk _ n cs:=cs=[.s n]
 cok h E F w _:=by rw [h];rfl
 T:=ULift.{1,0} (List SC)
 lq _ _ cs:=⟨cs⟩
 rq _ n _:=⟨[.s n]⟩
 eqn h:=congrArg ULift.down h
def Zei {α:Type} (R:TRep α) (V:Nat->Option VF) (xs:List α):List SC->Prop
 | [.sl k]=>V k=some (.sl R xs)
 | [.nil]=>xs=[]
 | _=>False
def slL {α:Type} (V:Nat->Option VF) (xs:List α):List SC->Option VF × ULift.{1,0} (Bool × List α)
 | [.sl k]=>(V k,⟨(true,[])⟩)
 | [.nil]=>(none,⟨(true,xs)⟩)
 | _=>(none,⟨(false,[])⟩)
def slQ {α:Type} (R:TRep α) (xs:List α):List SC->Option VF × ULift.{1,0} (Bool × List α)
 | [.sl _]=>(some (.sl R xs),⟨(true,[])⟩)
 | _=>(none,⟨(true,[])⟩)
theorem Zsf {α:Type} {R:TRep α} {V:Nat->Option VF} {xs:List α} {cs:List SC} (h:slL V xs cs=slQ R xs cs):Zei R V xs cs:=by
 unfold slL at h
 split at h
 ·exact (Prod.mk.inj h).1
 ·have:=congrArg ULift.down (Prod.mk.inj h).2
  exact (Prod.mk.inj this).2
 ·rename_i b e
  unfold slQ at h
  split at h
  ·exact (b _ rfl).elim
  ·have:=congrArg ULift.down (Prod.mk.inj h).2
   cases this
def Y8 {α:Type} (R:TRep α):Opn (Yx R) where
 nk:=1
 cells k _:=[.sl k]
 facts k xs:=[(k,.sl R xs)]
 ok h k E ho:=by
  have ⟨v,e,hs⟩:=h
  refine ⟨E.setρ k v,E.eqb_setρ _ _ _ (Zo _),fun _=>rfl,fun j hj=>?_,fun j=>?_,?_,?_,?_⟩
  ·have:¬ j=k:=by omega
   simp [Env.setρ,this]
  ·simp only [Env.setρ];split
   ·exact ZhQ hs
   ·exact ho j
  ·rw [e];simp [ZZ,Env.setρ]
  ·intro p hp
   rw [List.mem_singleton.1 hp]
   exact ⟨Zo _,Nat.lt_succ_self _,rfl,by simpa [Env.setρ,VF.ok] using hs⟩
  ·intro c hc
   rw [List.mem_singleton.1 hc]
   exact Nat.lt_succ_self _
 chk V xs cs:=Zei R V xs cs
 cok h E F w hV:=by
  unfold Zei at h
  split at h
  ·rename_i k
   exact ⟨E.ρ k,rfl,hV k _ h⟩
  ·subst h;exact ⟨_,rfl,.inl ⟨rfl,_,_,rfl⟩⟩
  ·exact h.elim
 T:=Option VF × ULift.{1,0} (Bool × List α)
 lq V xs cs:=slL V xs cs
 rq _ xs cs:=slQ R xs cs
 eqn h:=Zsf h
def oP {α β:Type} {R1:TRep α} {R2:TRep β} (o1:Opn R1) (o2:Opn R2):Opn (rP R1 R2) where
 nk:=o1.nk+o2.nk
 cells k x:=o1.cells k x.1++o2.cells (k+o1.nk) x.2
 facts k x:=o1.facts k x.1++o2.facts (k+o1.nk) x.2
 ok h k E ho:=by
  obtain ⟨us,ws,rfl,h1,h2⟩:=h
  have ⟨E1,a1,a0,a2,a3,a4,a5,a6⟩:=o1.ok h1 k E ho
  have ⟨E2,b1,b0,b2,b3,b4,b5,b6⟩:=o2.ok h2 (k+o1.nk) E1 a3
  refine ⟨E2,a1.trans (b1.mono (Nat.le_add_right _ _)),fun j=>(b0 j).trans (a0 j),fun j hj=>(b2 j (by omega)).trans (a2 j (by omega)),b3,?_,?_,?_⟩
  ·rw [List.map_append,a4,b4,MU b1 a6]
  ·intro p hp
   rcases List.mem_append.1 hp with hp | hp
   ·have ⟨c1,c2,c3,c4⟩:=a5 p hp
    refine ⟨c1,by omega,c3,?_⟩
    rw [(b1 p.1 c2).1]
    revert c3 c4
    cases p.2<;>intro c3 c4<;>first | exact c4 | cases c3
   ·have ⟨c1,c2,c3,c4⟩:=b5 p hp
    exact ⟨by omega,by omega,c3,c4⟩
  ·intro c hc
   rcases List.mem_append.1 hc with hc | hc
   ·exact (a6 c hc).mono (by omega)
   ·exact (b6 c hc).mono (by omega)
 chk V x cs:=o1.chk V x.1 (cs.take R1.sz)/\o2.chk V x.2 (cs.drop R1.sz)
 cok {V x cs} h E F w hV:=by
  have h1:=o1.cok h.1 E F w hV
  have h2:=o2.cok h.2 E F w hV
  exact ⟨_,_,by rw [<- List.map_append,List.take_append_drop],h1,h2⟩
 T:=o1.T × o2.T
 lq V x cs:=(o1.lq V x.1 (cs.take R1.sz),o2.lq V x.2 (cs.drop R1.sz))
 rq V x cs:=(o1.rq V x.1 (cs.take R1.sz),o2.rq V x.2 (cs.drop R1.sz))
 eqn h:=⟨o1.eqn (Prod.mk.inj h).1,o2.eqn (Prod.mk.inj h).2⟩
def oM {α β:Type} {R:TRep β} (f:α->β) (o:Opn R):Opn (rM f R) where
 nk:=o.nk
 cells k x:=o.cells k (f x)
 facts k x:=o.facts k (f x)
 ok h k E ho:=o.ok h k E ho
 chk V x cs:=o.chk V (f x) cs
 cok h E F w hV:=o.cok h E F w hV
 T:=o.T
 lq V x cs:=o.lq V (f x) cs
 rq V x cs:=o.rq V (f x) cs
 eqn h:=o.eqn h
def ZW {α:Type} (xs:List α) (n:Int):Option α:=bif decide (0<=n) then xs[n.toNat]? else none
theorem SX {α:Type} {xs:List α} {n:Int} {x:α} (h:ZW xs n=some x):0<=n/\n < (xs.length:Int)/\xs[n.toNat]? = some x:=by
 unfold ZW at h
 cases b:decide (0<=n) with
 | false=>rw [b] at h;cases h
 | true =>
  rw [b] at h
  have e:=of_decide_eq_true b
  have:=(List.getElem?_eq_some_iff.1 h).1
  exact ⟨e,by omega,h⟩
theorem Sat.addF {X:Ctx} {s:St} {E:Env} {F:YB} {w:World} {a:Act} (i:Sat X s E F w a) {fs:List (Nat × VF)} {n:Nat}
  (h:∀ p∈fs,s.nx<=p.1/\p.1 < s.nx+n/\p.2.plain=true/\p.2.ok E F w (E.ρ p.1)):Sat X ⟨s.L,s.M,fs++s.V,s.nx+n⟩ E F w a:=by
 have e:=i.nxt (n:=s.nx+n) (Nat.le_add_right _ _)
 exact { e with
  wf:=⟨e.wf.hL,e.wf.hM,fun k f b=>by
   simp only [XS] at b
   split at b
   ·rename_i m g
    cases b
    have ⟨_,j,l,_⟩:=h _ (YY g)
    refine ⟨j,?_⟩
    cases f<;>first | trivial | cases l
   ·exact e.wf.hV k f b⟩
  hV:=fun k f b=>by
   simp only [XS] at b
   split at b
   ·rename_i m g
    cases b
    exact (h _ (YY g)).2.2.2
   ·exact i.hV k f b }
section
variable {X:Ctx} {s:St} {tt:List (Nat × TD)} {ops:Array Oper} {todo:Act->World->Prop}
theorem TD.Ok.sliceOf {P:Program} {t:TypeId} {d:TD} (h:TD.Ok P t d) (b:Nat.beq d.kd 6=true):∃ e,P.underlying t=some (.slice e)/\∀ w,(sizeOf e).run P w=.ok d.es w:=by
 have ⟨i,g,hi,j,_⟩:=h.slc b
 exact ⟨_,g,fun w=>by simp [sizeOf,typeInfo,hi,j]⟩
theorem Zlc {P:Program} {t e:TypeId} (w:World) {b off len cap es:Nat} {k:IntKind} {n:Int} (g:P.underlying t=some (.slice e)) (h:(sizeOf e).run P w=.ok es w) (i:0<=n) (j:n < len) :
  (Instr.indexAt t (.slice (some ⟨b,off,none⟩) len cap) (.int k n)).run P w=.ok (.pointer (some ⟨b,off+n.toNat * es,none⟩)) w:=by
 simp only [Instr.indexAt,asIntOf,Sem.run_bind,Sem.run_pure,Result.andThen_ok,Xb g]
 rw [if_pos ⟨i,j⟩]
 simp only [Sem.run_bind,h,Result.andThen_ok,Sem.run_pure,WS]
theorem WPr.ix {α:Type} {R:TRep α} (O:Opn R) (htt:TTOk X.P tt) {i:Nat} {rest:List Nat} {o:Oper} {t:TypeId} {y:TD} {x S:Operand} {d k:Nat} {ik:IntKind} {n:Int} {xs:List α} {e:α}
  (hi:ZW xs n=some e) (ho:ops[i]? = some o) (hg:YO ops s.L o=some true) (z:o.op=.indexAddr t x S) (hd:o.dst=some d)
  (hx:Yd s.L x=some (.c (.sl k))) (hV:ZQ s.V k=some (.sl R xs)) (hn:Yd s.L S=some (.c (.i ik n))) (ht:ZQ tt t=some y)
  (T:(Nat.blt d X.fn.ntmps && Nat.beq y.kd 6 && Nat.beq y.es R.sz)=true)
  (k:WPr X ops rest todo ⟨(d,.c (.px s.nx 0))::s.L,s.M,O.facts (s.nx+1) e++(s.nx,.pl (O.cells (s.nx+1) e))::s.V,s.nx+1+O.nk⟩):WPr X ops (i::rest) todo s:=by
 refine WPr.op ho hg (fun E F w a h=>?_) k
 rename_i W
 simp only [Zc] at T
 obtain ⟨⟨c1,c2⟩,A⟩:=T
 have A:=Zd A
 have ⟨h0,h1,l⟩:=SX hi
 have ⟨el,hu,hz⟩:=(htt.get ht).sliceOf c2
 have G:SlR R F w xs (E.ρ W):=h.hV W _ hV
 rcases G with ⟨rfl,_⟩ | ⟨b,off,cap,arr,ty,fz,hv,U,hF,hh,hr⟩
 ·simp at l
 have ⟨vs,m,B⟩:=hr n.toNat e l
 have ⟨e1,e2⟩:=h.eval hx
 have ⟨e3,_⟩:=h.eval hn
 have p:(execOp a.eval o).run X.P w=.ok (.value (.pointer (some ⟨b,off+n.toNat * R.sz,none⟩))) w:=by
  simp only [execOp,z,e1,e3,Yc,ZZ,hv]
  refine Y3 ?_
  rw [<- A]
  exact Zlc w hu (hz w) h0 h1
 refine XW p ?_
 -- the environment: the place, then the element's slices
 have H:E.Eqb s.nx (E.setρ s.nx (.pointer (some ⟨b,off+n.toNat * R.sz,none⟩))):=E.eqb_setρ _ _ _ (Zo _)
 have I:∀ j,((E.setρ s.nx (.pointer (some ⟨b,off+n.toNat * R.sz,none⟩))).ρ j).oneCell'=true:=fun j=>by
  simp only [Env.setρ];split
  ·rfl
  ·exact h.one j
 have ⟨E2,a1,_,_,a3,a4,a5,a6⟩:=O.ok m (s.nx+1) _ I
 have K:E.Eqb s.nx E2:=H.trans (a1.mono (Nat.le_succ _))
 have Y:E2.ρ s.nx=.pointer (some ⟨b,off+n.toNat * R.sz,none⟩):=by
  rw [(a1 s.nx (Nat.lt_succ_self _)).1];simp [Env.setρ]
 have Z:=h.env K a3
 -- facts first, then the place
 have s2:Sat X ⟨s.L,s.M,O.facts (s.nx+1) e++(s.nx,.pl (O.cells (s.nx+1) e))::s.V,s.nx+1+O.nk⟩ E2 F w a:=by
  have r:=Z.nxt (n:=s.nx+1+O.nk) (by omega)
  have N:(VF.pl (O.cells (s.nx+1) e)).ok E2 F w (E2.ρ s.nx):=by
   refine ⟨b,off+n.toNat * R.sz,arr,ty,fz,Y,hF,hh,fun j c hj=>?_⟩
   refine B j _ ?_
   rw [a4,List.getElem?_map,hj];rfl
  exact { r with
   wf:=⟨r.wf.hL,r.wf.hM,fun q f g=>by
    simp only [XS] at g
    split at g
    ·rename_i f' C
     cases g
     have ⟨_,h2,h3,_⟩:=a5 _ (YY C)
     refine ⟨h2,?_⟩
     cases f<;>first | trivial | cases h3
    ·rw [YG] at g
     split at g
     ·rename_i D;cases g;subst D
      exact ⟨(show s.nx < s.nx+1+O.nk by omega),a6⟩
     ·exact r.wf.hV q f g⟩
   hV:=fun q f g=>by
    simp only [XS] at g
    split at g
    ·rename_i f' C
     cases g
     exact (a5 _ (YY C)).2.2.2
    ·rw [YG] at g
     split at g
     ·rename_i D;cases g;subst D;exact N
     ·exact Z.hV q f g }
 refine ⟨E2,F,?_⟩
 have s3:=s2.setL (d:=d) (v:=.c (.px s.nx 0)) (show s.nx < s.nx+1+O.nk by omega) (YT c1)
 simp only [Yc,ZZ,Y,WC,Nat.add_zero] at s3
 rw [hd]
 exact s3
end
section
variable {X:Ctx} {s:St} {ρ:Type}
theorem ob {α β:Type} {x:Option α} {f:α->Option β} {r:β} (h:x.bind f=some r):∃ a,x=some a/\f a=some r:=Option.bind_eq_some_iff.1 h
theorem oc {α:Type} {c:Bool} {x y:Option α} {r:α} (h:(bif c then x else y)=some r):(c=true/\x=some r)\/(c=false/\y=some r):=by
 cases c
 ·exact .inr ⟨rfl,h⟩
 ·exact .inl ⟨rfl,h⟩
theorem WPr.kb {ops:Array Oper} {ZW:List Nat} {todo:Act->World->Prop} {c b:Bool} (d:Nat) (l:c=b) (m:ZQ s.L d=some (.c (.b c))) (h:WPr X ops ZW todo ⟨(d,.c (.b b))::s.L,s.M,s.V,s.nx⟩) :
  WPr X ops ZW todo s:=fun E F w a i=>h E F w a { i with
   wf:=⟨fun j v g=>by
    simp only [YG] at g
    split at g
    ·cases g;trivial
    ·exact i.wf.hL j v g,i.wf.hM,i.wf.hV⟩
   hL:=fun j v g=>by
    simp only [YG] at g
    split at g
    ·rename_i e;cases g;subst e;subst l;exact i.hL d _ m
    ·exact i.hL j v g }
end
end Go.Kx
end
section
namespace Go.Kx
variable [LxP]
section
variable {X:Ctx} {s:St} {ops:Array Oper} {todo:Act->World->Prop}
theorem WPr.eqa {i:Nat} {rest:List Nat} {o:Oper} {t q:TypeId} {x y:Operand} {d:Nat} {cs g:List SC} {b:Bool} {e:Bool}
  (p:∀ E w,(Op.equal t (.agg (cs.map (ZZ E)).toArray) (.agg (g.map (ZZ E)).toArray)).run X.P w=.ok b w) (l:X.P.eqGuardType X.P.depth t=false)
  (r:ops[i]? = some o) (z:YO ops s.L o=some true) (m:o.op=.binOp (bif e then .neq else .eql) t x y q) (A:o.dst=some d)
  (B:Yd s.L x=some (.a cs)) (C:Yd s.L y=some (.a g)) (D:Nat.blt d X.fn.ntmps=true)
  (k:WPr X ops rest todo ⟨(d,.c (.b (bif e then !b else b)))::s.L,s.M,s.V,s.nx⟩):WPr X ops (i::rest) todo s:=by
 refine WPr.op r z (fun E F w a n=>?_) k
 have ⟨G,_⟩:=n.eval B
 have ⟨H,_⟩:=n.eval C
 have h:(execOp a.eval o).run X.P w=.ok (.value (.bool (bif e then !b else b))) w:=by
  simp only [execOp,m,G,H,Yc]
  refine Y3 ?_
  have j:∀ op,(eqGuard op t x y (.agg (cs.map (ZZ E)).toArray) (.agg (g.map (ZZ E)).toArray)).run X.P w=.ok () w:=by
   intro op
   unfold eqGuard
   cases op<;>simp [l]
  cases e with
  | false =>
   simp only [cond_false,Sem.run_bind,j,Result.andThen_ok]
   show (do pure (Value.bool (<- Op.equal t _ _)):Sem Value).run X.P w=_
   simp only [Sem.run_bind,p E w,Result.andThen_ok,Sem.run_pure]
  | true =>
   simp only [cond_true,Sem.run_bind,j,Result.andThen_ok]
   show (do pure (Value.bool (!(<- Op.equal t _ _))):Sem Value).run X.P w=_
   simp only [Sem.run_bind,p E w,Result.andThen_ok,Sem.run_pure]
 refine XW h ⟨E,F,?_⟩
 rw [A]
 exact n.setL (v:=.c (.b (bif e then !b else b))) trivial (YT D)
end
end Go.Kx
end
