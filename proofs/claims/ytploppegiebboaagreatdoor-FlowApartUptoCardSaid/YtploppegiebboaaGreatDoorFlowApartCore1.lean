/- Aids for the walks, part 1: a symbolic state of the machine, and that each step of the machine keeps it. -/
import Derived.CallsIn
import Derived.RangeFuncCalls
import Derived.Laws.Sem
import Derived.Laws.Cells
import Derived.Laws.Rows
import Derived.Orders
set_option linter.all false
abbrev l8:=@decide_eq_true_eq
abbrev l9:=@cond_true
abbrev lf:=@cond_false
abbrev lg:=@decide_eq_false_iff_not
abbrev lh:=@decide_eq_true
abbrev lj:=@of_decide_eq_true
abbrev lk:=@beq_iff_eq
abbrev lp:=@beq_eq_false_iff_ne
abbrev lu:=@not_true_eq_false
abbrev ly:=@beq_self_eq_true
abbrev lz:=@eq_of_beq
abbrev mA:=@if_true
abbrev mC:=@if_false
abbrev mD:=@if_pos
abbrev mE:=@if_neg
abbrev mG:=@congrArg
open Go renaming World→lQ,Value→lR,TypeId→lS,execOp→lT,Program→lU,Operand→lV,Oper→lW,FuncId→lX,IntKind→lY,Act→lZ,Frame→l7
abbrev be:=ByteArray
open List renaming mem_singleton→aC,getElem?_eq_some_iff→aE,all_eq_true→aH,map_cons→aI,getElem?_map→aK,length_take→aL,mem_map→aM,length_map→aN,mem_append→aS,append_assoc→aU,mem_cons→aV,getElem?_cons_zero→aX,getElem?_take→aj,getElem?_set→bB,cons_append→bJ,map_congr_left→bK,getElem?_drop→bO,map→bm,map_append→bn,length_set→bz,take_append_drop→cE,map_map→cG,getElem?_append→cJ,range→cO,nodup_cons→cR,ext_getElem?→cw,mem_of_mem_drop→dB,mem_of_mem_take→dC,mem_filterMap→eo,map_take→fW,getElem?_cons→kH
open Go.Result renaming andThen_ok→aD
open Nat renaming beq→aF,blt→aO,ble→aY,lt_succ_self→ab,ble_eq_true_of_le→ai,zero_add→aw,lt_or_ge→ay,le_add_right→bR,le_trans→bV,lt_irrefl→bj,sub_self→br,add_zero→bu,le_succ→cD,not_lt→cv,one_pos→ef,ne_of_lt→gw
open Go.Sem renaming run_bind→aG,run_pure→aJ
open Option.some renaming injEq→aR
open Array renaming getElem?_eq_some_iff→aW,length_toList→aq,replicate→cQ,toList_map→dY,toArray_toList→dc,ext'→eC,getElem_modify→gY,toList_setIfInBounds→iI
open Option renaming isSome_iff_exists→bC,map_some→bb,any_eq_true_iff_get→eD,some_get→gb,map_eq_some_iff→jT
open List.cons renaming injEq→bH
open Classical renaming byContradiction→bx
open Bool renaming or_eq_true→b7,false_eq_true→cM,not_eq_true'→fF
open Prod.mk renaming inj→cC
open Go.Instr renaming sureAddr→cx,storeAt→dz,loadAt→ej,fieldAt→iT,fill→kI,build→kU,field→kV
open Go.Op renaming equal→dp,equalIn→eQ,bytesLess→jU
open Go.Builtin renaming len_→dt
open ULift renaming down→eE
open Go.Value renaming bool→eh,oneCell'→jt
open Go.Deferred renaming ofValue→fR
open Iff renaming rfl→fv
open Go.Steps renaming one→gN
open Go.Region renaming wanted→iU
open Go.World renaming setRow→kM
open Go.Fence renaming wide→ka
namespace Go.Kx
theorem Za{α : Type}{l : List α}{i : Nat}(h : i<l.length) : l[i]?=some l[i]:= List.getElem?_eq_getElem h
variable {α:Type _}
theorem Zb{l : List α}{i : Nat}{a : α}(h : l[i]?=some a) : a ∈ l:= List.mem_of_getElem? h
theorem Zc(a b : Bool) : ((a && b)=true)=(a=true /\ b=true):= Bool.and_eq_true a b
theorem Zd{a b : Nat}(h : aF a b=true) : a=b:= Nat.eq_of_beq_eq_true h
theorem Ze{a b : Nat}(h : aY a b=true) : a <= b:= Nat.le_of_ble_eq_true h
theorem Zf{a : α}{l : List α} : (a :: l).length=l.length + 1:= List.length_cons
theorem Zg : (!true)=false:= rfl
theorem Zh{a b c : Nat}(h : a<b)(k : b <= c) : a<c:= Nat.lt_of_lt_of_le h k
theorem Zi(y : α){a : α}{l : List α}(h : a ∈ l) : a ∈ y :: l:= List.mem_cons_of_mem y h
theorem Zj{a : α}{l : List α} : a ∈ a :: l:= List.mem_cons_self
theorem Zk{a : α}{s t : List α} : a ∈ s ++ t ↔ a ∈ s \/ a ∈ t:= aS
theorem Zl{a b : α}{l : List α} : a ∈ b :: l ↔ a=b \/ a ∈ l:= aV
theorem Zm{a b : α}(h : some a=some b) : a=b:= Option.some.inj h
theorem Zn{β:Type _}{f : α -> β}{x : Option α}{b : β} : x.map f=some b ↔ ∃a, x=some a /\ f a=b:= jT
theorem Zo{l m : List α}{i : Nat}(h : i<l.length) : (l ++ m)[i]?=l[i]?:= List.getElem?_append_left h
theorem Zp{l m : List α}{i : Nat}(h : l.length <= i) : (l ++ m)[i]?=m[i - l.length]?:= List.getElem?_append_right h
theorem Zq(n : Nat) : n <= n:= Nat.le_refl n
theorem Zr{β:Type _}(a : α)(b : β)(c : α)(d : β) : ((a, b)=(c, d))=(a=c /\ b=d):= Prod.mk.injEq a b c d
theorem pS(n : Nat)(h : 0<n) : ∃z, n=z + 1:= ⟨n - 1, by omega⟩
section
universe u
def Yg{α:Type u}:List (Nat×α)->Nat->Option α
 | [],_=>none
 | (k,v)::t,d=>bif aF k d then some v else Yg t d
theorem YF{α:Type u}(k:Nat)(v:α)(t:List (Nat×α))(d:Nat):Yg ((k,v)::t) d=if k=d then some v else Yg t d:=by
 show (bif aF k d then some v else Yg t d)=_;by_cases h:k=d
 ·subst h;simp
 ·have:aF k d=false:=by
   cases b:aF k d
   ·rfl
   ·exact absurd (Zd b) h
  rw[this,mE h];rfl
abbrev YJ:=Nat->Prop
inductive SC where
 |i (k:lY) (n:Int)
 |b (t:Bool)
 |s (x:be)
 |v (x:lR)
 |sl (k:Nat)
 |nil
 |bp (k off:Nat)
 |px (k off:Nat)
 |cl (f:lX) (fs ks:List Nat)
 |sp (k i len es:Nat)
inductive SV where
 |c (x:SC)
 |a (cs:List SC)
 |t (vs:List (SC⊕List SC))
 |u
structure lC where
 ρ:Nat->lR
 β:Nat->Nat
def lC.setρ(E:lC)(k:Nat)(v:lR):lC:={ E with ρ:=fun j=>if j=k then v else E.ρ j }
def lC.setβ(E:lC)(k:Nat)(b:Nat):lC:={ E with β:=fun j=>if j=k then b else E.β j }
def WW(v:lR)(n:Nat):lR:=
 match v with
 | .pointer (some a)=>.pointer (some ⟨a.block,a.off+n,none⟩)
 | .slice (some a) _ _=>.pointer (some ⟨a.block,a.off+n,none⟩)
 |x=>x
def WX(E:lC)(ks:List Nat):Array lR:=(ks.map fun k=>Value.pointer (some ⟨E.β k,0,none⟩)).toArray
def ZoG:lR->Nat
 | .slice _ _ c=>c
 |_=>0
def Yn(E:lC):SC->lR
 | .i k n=>.int k n
 | .b t=>.bool t
 | .s x=>.string x
 | .v x=>x
 | .sl k=>E.ρ k
 | .nil=>.slice none 0 0
 | .bp k off=>.pointer (some ⟨E.β k,off,none⟩)
 | .px k off=>WW (E.ρ k) off
 | .cl f fs ks=>.func (.func f) (WX E fs) (WX E ks)
 | .sp k i len es=>.slice (some ⟨E.β k,i*es,none⟩) len (ZoG (E.ρ k)-i)
def Sh(E:lC):SC⊕List SC->lR
 | .inl x=>Yn E x
 | .inr cs=>.agg (cs.map (Yn E)).toArray
def Yt(E:lC):SV->lR
 | .c x=>Yn E x
 | .a cs=>.agg (cs.map (Yn E)).toArray
 | .t vs=>.tuple (vs.map (Sh E)).toArray
 | .u=>undef
def SC.kb(n:Nat):SC->Prop
 | .sl k | .bp k _ | .px k _ | .sp k _ _ _=>k<n
 | .cl _ fs ks=>(∀k∈fs,k<n)/\∀k∈ks,k<n
 | .v x=>x.oneCell'=true
 |_=>True
def SV.kb(n:Nat):SV->Prop
 | .c x=>x.kb n
 | .a cs=>∀x∈cs,SC.kb n x
 | .t vs=>∀v∈vs,match v with | .inl x=>SC.kb n x | .inr cs=>∀x∈cs,SC.kb n x
 | .u=>True
theorem SC.kb.mono{n m:Nat}(h:n<=m):∀ {x:SC},x.kb n->x.kb m
 | .sl _,hx | .bp _ _,hx | .px _ _,hx | .sp _ _ _ _,hx=>Zh hx h
 | .v _,hx=>hx
 | .cl _ _ _,hx=>⟨fun k e=>Zh (hx.1 k e) h,fun k e=>Zh (hx.2 k e) h⟩
 | .i _ _,_ | .b _,_ | .s _,_ | .nil,_=>trivial
theorem SV.kb.mono{n m:Nat}(h:n<=m):∀ {x:SV},x.kb n->x.kb m
 | .c _,hx=>SC.kb.mono h hx
 | .a _,hx=>fun y b=>(hx y b).mono h
 | .t _,hx=>fun v e=>by
  have:=hx v e;cases v with
  |inl x=>exact SC.kb.mono h this
  |inr cs=>exact fun y b=>SC.kb.mono h (this y b)
 | .u,_=>trivial
def lC.Eqb(n:Nat)(E E':lC):Prop:=∀k,k<n->E'.ρ k=E.ρ k/\E'.β k=E.β k
theorem lC.Eqb.refl(n:Nat)(E:lC):E.Eqb n E:=fun _ _=>⟨rfl,rfl⟩
theorem lC.Eqb.trans{n:Nat}{A B C:lC}(h:A.Eqb n B)(g:B.Eqb n C):A.Eqb n C:=
 fun k b=>⟨(g k b).1.trans (h k b).1,(g k b).2.trans (h k b).2⟩
theorem lC.Eqb.mono{n m:Nat}{A B:lC}(h:A.Eqb m B)(b:n<=m):A.Eqb n B:=fun k e=>h k (Zh e b)
theorem lC.eqb_setρ(E:lC)(n k:Nat)(v:lR)(h:n<=k):E.Eqb n (E.setρ k v):=
 fun j b=>⟨by simp[lC.setρ,gw (Zh b h)],rfl⟩
theorem lC.eqb_setβ(E:lC)(n k b:Nat)(h:n<=k):E.Eqb n (E.setβ k b):=
 fun j e=>⟨rfl,by simp[lC.setβ,gw (Zh e h)]⟩
variable {E e:lC}
theorem Zja{n:Nat}(h:E.Eqb n e){b:List Nat}(g:∀k∈b,k<n):WX e b=WX E b:=by unfold WX;rw[bK fun k i=>by rw[(h k (g k i)).2]]
theorem LZ{n:Nat}(h:E.Eqb n e):∀ {x:SC},x.kb n->Yn e x=Yn E x
 | .sl k,hx=>(h k hx).1
 | .bp k o,hx=>by simp[Yn,(h k hx).2]
 | .px k o,hx=>by simp[Yn,(h k hx).1]
 | .cl f fs ks,hx=>by simp only[Yn,Zja h hx.1,Zja h hx.2]
 | .sp k i len es,hx=>by simp only[Yn,(h k hx).1,(h k hx).2]
 | .i _ _,_ | .b _,_ | .s _,_ | .v _,_ | .nil,_=>rfl
theorem L2{n:Nat}{b:lC}(h:E.Eqb n b){cs:List SC}(e:∀x∈cs,SC.kb n x):cs.map (Yn b)=cs.map (Yn E):=
 bK fun x g=>LZ h (e x g)
theorem Dh{n:Nat}{b:lC}(h:E.Eqb n b):∀ {x:SV},x.kb n->Yt b x=Yt E x
 | .c _,hx=>LZ h hx
 | .a cs,hx=>by simp only[Yt,L2 h hx]
 | .t vs,hx=>by
  simp only[Yt];have:vs.map (Sh b)=vs.map (Sh E):=bK fun v g=>by
   have e:=hx v g;cases v with
   |inl x=>exact LZ h e
   |inr cs=>simp only[Sh,L2 h e]
  rw[this]
 | .u,_=>rfl
structure X3 (F:YJ) (w:lQ) (F':YJ) (w':lQ):Prop where
 sub:∀b,F b->F' b
 same:∀b,F b->w'.heap[b]?=w.heap[b]?
structure k6 (α:Type) where
 sz:Nat
 pos:0<sz
 rep:YJ->lQ->α->List lR->Prop
 len:∀ {F w x vs},rep F w x vs->vs.length=sz
 mono:∀ {F w F' w' x vs},X3 F w F' w'->rep F w x vs->rep F' w' x vs
 one:∀ {F w x vs},rep F w x vs->∀v∈vs,v.oneCell'=true
variable {α:Type}
def Row(R:k6 α)(F:YJ)(w:lQ)(xs:List α)(arr:Array lR)(off:Nat):Prop:=
 ∀(i:Nat) (x:α),xs[i]?=some x->∃vs,R.rep F w x vs/\∀(j:Nat) (v:lR),vs[j]?=some v->arr[off+i*R.sz+j]?=some v
variable {R:k6 α}
theorem Row.mono{F w F' w' xs arr off}(g:X3 F w F' w')(h:Row R F w xs arr off):Row R F' w' xs arr off:=
 fun i x b=>let ⟨vs,hr,hv⟩:=h i x b;⟨vs,R.mono g hr,hv⟩
def SlR(R:k6 α)(F:YJ)(w:lQ)(xs:List α)(v:lR):Prop:=
 (xs=[]/\∃a c,v=.slice a 0 c)\/∃(b off cap:Nat) (arr:Array lR) (el:lS) (fz:Nat×Nat),v=.slice (some ⟨b,off,none⟩) xs.length cap/\xs.length<=cap/\F b /\
  w.heap[b]?=some (.cells arr el fz)/\Row R F w xs arr off
theorem SlR.mono{F w F' w' xs v}(g:X3 F w F' w')(h:SlR R F w xs v):SlR R F' w' xs v:=by
 rcases h with h|⟨b,off,cap,arr,el,fz,e,i,hF,j,l⟩
 ·exact .inl h
 ·exact .inr ⟨b,off,cap,arr,el,fz,e,i,g.sub b hF,by rw[g.same b hF];exact j,l.mono g⟩
def TZ(fz:Nat×Nat)(n:Nat):Prop:=∀j,j<n->(decide (fz.1<=j) && decide (j<fz.2))=false
def kh(R:k6 α)(F:YJ)(w:lQ)(xs:List α)(v:lR):Prop:=
 (xs=[]/\v=.slice none 0 0)\/∃(b off cap:Nat) (arr:Array lR) (el:lS) (fz:Nat×Nat),v=.slice (some ⟨b,off,none⟩) xs.length cap/\xs.length<=cap /\
  off+cap*R.sz<=arr.size/\TZ fz arr.size/\w.heap[b]?=some (.cells arr el fz)/\Row R F w xs arr off
def YV:lR->Option Nat
 | .slice (some a) _ _=>some a.block
 | .map (some b)=>some b
 |_=>none
theorem kh.mono{F w F' w' xs v}(g:X3 F w F' w')(i:∀b,YV v=some b->w'.heap[b]?=w.heap[b]?)
  (h:kh R F w xs v):kh R F' w' xs v:=by
 rcases h with h|⟨b,off,cap,arr,el,fz,e,j,l,m,n,o⟩
 ·exact .inl h
 ·exact .inr ⟨b,off,cap,arr,el,fz,e,j,l,m,by rw[i b (by rw[e];rfl)];exact n,o.mono g⟩
inductive VF:Type 1 where
 |sl {α:Type} (R:k6 α) (xs:List α)
 |pl (cs:List SC)
 |el (k j:Nat)
 |vw (k:Nat) (l h:Option Int) (sz:Nat)
 |fn (Φ:lR->Prop)
def XN(l h:Option Int)(sz:Nat):lR->lR
  | .slice b len cap=>.slice (if cap=(l.getD 0).toNat then b else b.map (·.add ((l.getD 0).toNat*sz))) ((match h with|some h=>h.toNat|none=>len)-(l.getD 0).toNat) (cap-(l.getD 0).toNat)
  |x=>x
def VF.ok(E:lC)(F:YJ)(w:lQ)(v:lR):VF->Prop
 | .sl R xs=>SlR R F w xs v
 | .pl cs=>∃(b off:Nat) (arr:Array lR) (el:lS) (fz:Nat×Nat),v=.pointer (some ⟨b,off,none⟩)/\F b/\w.heap[b]?=some (.cells arr el fz) /\
   ∀(j:Nat) (x:SC),cs[j]?=some x->arr[off+j]?=some (Yn E x)
 | .el k j=>v=WW (E.ρ k) j/\∃(b off:Nat),v=.pointer (some ⟨b,off,none⟩)
 | .vw k l h sz=>v=XN l h sz (E.ρ k)
 | .fn Φ=>Φ v
def VF.kb(n:Nat):VF->Prop
 | .pl cs=>∀x∈cs,SC.kb n x
 | .el k _ | .vw k _ _ _=>k<n
 |_=>True
theorem VF.kb.mono{n m:Nat}(h:n<=m):∀ {f:VF},f.kb n->f.kb m
 | .pl _,hf=>fun x b=>(hf x b).mono h
 | .el _ _,hf | .vw _ _ _ _,hf=>Zh hf h
 | .sl _ _,_ | .fn _,_=>trivial
theorem VF.ok.mono{F w F' w' v}(g:X3 F w F' w'):∀ {f:VF},f.ok E F w v->f.ok E F' w' v
 | .sl _ _,h=>SlR.mono g h
 | .pl _,⟨b,off,arr,ty,fz,hv,hF,hh,hx⟩=>⟨b,off,arr,ty,fz,hv,g.sub b hF,by rw[g.same b hF];exact hh,hx⟩
 | .el _ _,h | .vw _ _ _ _,h=>h
 | .fn _,h=>h
theorem VF.ok.eqb{n:Nat}(h:E.Eqb n e){F w v}:∀ {f:VF},f.kb n->f.ok E F w v->f.ok e F w v
 | .sl _ _,_,hf=>hf
 | .pl cs,hk,⟨b,off,arr,ty,fz,hv,hF,hh,hx⟩=>⟨b,off,arr,ty,fz,hv,hF,hh,fun j x g=>by
   rw[LZ h (hk x (Zb g))];exact hx j x g⟩
 | .el k j,hk,hf=>by show _=WW (e.ρ k) j/\_;rw[(h k hk).1];exact hf
 | .vw k l h' sz,hk,hf=>by show _=XN l h' sz (e.ρ k);rw[(h k hk).1];exact hf
 | .fn _,_,hf=>hf
def kq(ty:lS)(w:lQ)(s:be)(v:lR):Prop:=
 (s.size=0/\v=.slice none 0 0)\/∃(b cap:Nat) (arr:Array lR) (fz:Nat×Nat),v=.slice (some ⟨b,0,none⟩) s.size cap/\s.size<=cap/\cap<=arr.size/\TZ fz arr.size /\
  w.heap[b]?=some (.cells arr ty fz)/\∀(i:Nat) (x:UInt8),s.data.toList[i]?=some x->arr[i]?=some (.int .u8 x.toNat)
theorem kq.mono{ty:lS}{w w':lQ}{s:be}{v:lR}(g:∀b,YV v=some b->w'.heap[b]?=w.heap[b]?)(h:kq ty w s v):kq ty w' s v:=by
 rcases h with h|⟨b,cap,arr,fz,e,i,j,l,m,n⟩
 ·exact .inl h
 ·exact .inr ⟨b,cap,arr,fz,e,i,j,l,by rw[g b (by rw[e];rfl)];exact m,n⟩
structure SH where
 fp:Nat->Prop
 ok:YJ->lQ->Prop
 mono:∀ {F w F' w'},X3 F w F' w'->(∀b,fp b->w'.heap[b]?=w.heap[b]?)->ok F w->ok F' w'
structure Lx where
 ok:YJ->lQ->lR->Prop
 mono:∀ {F w F' w' v},X3 F w F' w'->(∀b,YV v=some b->w'.heap[b]?=w.heap[b]?)->ok F w v->ok F' w' v
 one:∀ {F w v},ok F w v->v.oneCell'=true
inductive MO:Type 1 where
 |box (cs:List SC) (t:lS)
 |own {α:Type} (R:k6 α) (xs:List α) (fresh:Bool)
 |abs (A:SH)
 |buf (s:be) (ty:lS)
 |av (A:Lx)
 |gone
def MO.fp(E:lC)(k:Nat):MO->Nat->Prop
 | .box _ _,b=>b=E.β k
 | .own _ _ _,b=>YV (E.ρ k)=some b
 | .abs A,b=>A.fp b
 | .buf _ _,b=>YV (E.ρ k)=some b
 | .av _,b=>YV (E.ρ k)=some b
 | .gone,_=>False
def MO.ok(E:lC)(F:YJ)(w:lQ)(k:Nat):MO->Prop
 | .box cs t=>w.heap[E.β k]?=some (.cells (cs.map (Yn E)).toArray t (0,0))
 | .own R xs _=>kh R F w xs (E.ρ k)
 | .abs A=>A.ok F w
 | .buf s ty=>kq ty w s (E.ρ k)
 | .av A=>A.ok F w (E.ρ k)
 | .gone=>True
def MO.kb(n:Nat):MO->Prop
 | .box cs _=>∀x∈cs,SC.kb n x
 |_=>True
def MO.isFresh:MO->Bool
 | .own _ _ f=>f
 |_=>false
theorem MO.kb.mono{n m:Nat}(h:n<=m):∀ {f:MO},f.kb n->f.kb m
 | .box _ _,hf=>fun x b=>(hf x b).mono h
 | .own _ _ _,_ | .abs _,_ | .buf _ _,_ | .av _,_ | .gone,_=>trivial
variable {k:Nat}
theorem MO.ok.mono{F w F' w'}(g:X3 F w F' w'):∀ {m:MO},(∀b,m.fp E k b->w'.heap[b]?=w.heap[b]?)->m.ok E F w k->m.ok E F' w' k
 | .box _ _,hb,h=>by show w'.heap[E.β k]?=_;rw[hb _ rfl];exact h
 | .own _ _ _,hb,h=>kh.mono g (fun b e=>hb b e) h
 | .abs A,hb,h=>A.mono g hb h
 | .buf _ _,hb,h=>kq.mono (fun b e=>hb b e) h
 | .av A,hb,h=>A.mono g (fun b e=>hb b e) h
 | .gone,_,_=>trivial
theorem MO.ok.eqb{n:Nat}{b:lC}(h:E.Eqb n b){F w}(e:k<n):∀ {m:MO},m.kb n->m.ok E F w k->m.ok b F w k
 | .box cs t,hm,h'=>by
  show w.heap[b.β k]?=_;rw[(h k e).2,L2 h hm];exact h'
 | .own _ _ _,_,h'=>by show kh _ _ _ _ (b.ρ k);rw[(h k e).1];exact h'
 | .abs _,_,h'=>h'
 | .buf _ _,_,h'=>by show kq _ _ _ (b.ρ k);rw[(h k e).1];exact h'
 | .av A,_,h'=>by show A.ok _ _ (b.ρ k);rw[(h k e).1];exact h'
 | .gone,_,_=>trivial
theorem MO.fp_eqb{n:Nat}{g:lC}(h:E.Eqb n g)(e:k<n):∀ {m:MO} {b:Nat},m.fp g k b↔m.fp E k b
 | .box _ _,b=>by simp only[MO.fp];rw[(h k e).2]
 | .own _ _ _,b=>by simp only[MO.fp];rw[(h k e).1]
 | .abs _,_=>fv
 | .buf _ _,b=>by simp only[MO.fp];rw[(h k e).1]
 | .av _,b=>by simp only[MO.fp];rw[(h k e).1]
 | .gone,_=>fv
structure St where
 L:List (Nat×SV)
 M:List (Nat×MO)
 V:List (Nat×VF)
 nx:Nat
structure St.Wf (s:St):Prop where
 hL:∀d v,Yg s.L d=some v->v.kb s.nx
 hM:∀k m,Yg s.M k=some m->k<s.nx/\m.kb s.nx
 hV:∀k f,Yg s.V k=some f->k<s.nx/\f.kb s.nx
class kv where
 p:Prop
variable [kv]
structure Oq (w0 w:lQ):Prop where
 out:w.output=w0.output
 drawn:kv.p\/w0.drawn<=w.drawn
theorem Oq.m{w w':lQ}(h:w'.output=w.output:=by rfl)(b:w.drawn<=w'.drawn:=by first|exact Zq _|exact cD _|exact bV (cD _) (cD _)|exact bR _ _):Oq w w':=⟨h,.inr b⟩
theorem Oq.trans{a b c:lQ}(h:Oq a b)(k:Oq b c):Oq a c:=⟨k.out.trans h.out,h.drawn.elim .inl fun e=>k.drawn.elim .inl fun g=>.inr (bV e g)⟩
structure Ext (Z:YJ) (w0 w:lQ):Prop where
 os:w.os=w0.os
 tape:w.tape=w0.tape
 output:Oq w0 w
 size:w0.heap.size<=w.heap.size
 block:∀b,Z b->w.heap[b]?=w0.heap[b]?
theorem Ext.refl(Z:YJ)(w:lQ):Ext Z w w:=⟨rfl,rfl,.m,Zq _,fun _ _=>rfl⟩
theorem Ext.trans{Z:YJ}{a b c:lQ}(h:Ext Z a b)(k:Ext Z b c):Ext Z a c:=
 ⟨k.os.trans h.os,k.tape.trans h.tape,h.output.trans k.output,bV h.size k.size,fun i hi=>(k.block i hi).trans (h.block i hi)⟩
theorem Ext.mono{Z Z':YJ}{a b:lQ}(h:Ext Z a b)(e:∀k,Z' k->Z k):Ext Z' a b:=⟨h.os,h.tape,h.output,h.size,fun k g=>h.block k (e k g)⟩
structure lB where
 P:lU
 f:lX
 fn:Func
 nk:Nat
 E0:lC
 F0:YJ
 w0:lQ
 n0:Nat
 Z:YJ
 post:lR->lQ->Prop
 dfs:List Deferred:=[]
 rd:Option Nat:=none
structure ky (X:lB) (s:St) (E:lC) (F:YJ) (w:lQ) (a:lZ):Prop where
 wf:s.Wf
 nk:X.nk<=s.nx
 defers:a.defers=X.dfs
 size:a.tmps.size=X.fn.ntmps
 hL:∀d v,Yg s.L d=some v->a.tmps[d]?=some (Yt E v)
 hV:∀k f,Yg s.V k=some f->f.ok E F w (E.ρ k)
 hM:∀k m,Yg s.M k=some m->m.ok E F w k
 dis:∀k k' m m',Yg s.M k=some m->Yg s.M k'=some m'->k≠k'->∀b,m.fp E k b->¬ m'.fp E k' b
 mF:∀k m,Yg s.M k=some m->∀b,m.fp E k b->¬ F b/\¬ X.Z b/\b<w.heap.size
 fresh:∀k m,Yg s.M k=some m->m.isFresh=true->∀b,m.fp E k b->X.n0<=b
 hF:∀b,F b->b<w.heap.size
 hF0:∀b,X.F0 b->F b
 hn0:X.n0<=X.w0.heap.size
 hF1:∀b,F b->X.F0 b\/(X.n0<=b/\¬ X.Z b)
 hZ:∀b,X.Z b->b<X.w0.heap.size
 ext:Ext X.Z X.w0 w
 link:X.E0.Eqb X.nk E
 one:∀k,(E.ρ k).oneCell'=true
def ku(P:lU)(f:lX)(rd:Option Nat)(R:lR->lQ->Prop)(a:lZ)(lL:List Item)(w:lQ):Prop:=
 match rd with
 |none=>∀(b:l7) (cs:List l7),b.fn=f->b.kind=.normal->b.roundOf=none ->
  ∃v w' fr,R v w'/\Steps P (lone (b.atR a lL) cs w) (lone fr cs w')/\fr.fn=f/\fr.leaving P w' (.returned v)
 |some l=>∀(b c:l7) (cs:List l7),b.fn=f->b.kind=.normal->b.roundOf=some l ->
  ∃v w',R v w'/\Steps P (lone (b.atR a lL) (c::cs) w) (lone (c.finish v) cs w')
def WP(X:lB)(lL:List Item)(s:St):Prop:=
 ∀E F w a,ky X s E F w a->ku X.P X.f X.rd X.post a lL w
section control
variable {X:lB}{s:St}{k:List Item}
theorem ku.head{P f rd R a a' lL todo' w w'}(h:∀(b:l7) (cs:List l7),b.fn=f->b.kind=.normal->b.roundOf=rd->Steps P (lone (b.atR a lL) cs w) (lone (b.atR a' todo') cs w'))
  (k:ku P f rd R a' todo' w'):ku P f rd R a lL w:=by
 cases rd with
 |none=>
  intro b cs e g i;have⟨v,w2,fr,j,m,n,o⟩:=k b cs e g i;exact⟨v,w2,fr,j,(h b cs e g i).trans m,n,o⟩
 |some l=>
  intro b c cs e g i;have⟨v,w2,j,m⟩:=k b c cs e g i;exact⟨v,w2,j,(h b (c::cs) e g i).trans m⟩
variable {x y:Code}
theorem WP.seq(h:WP X (.code x::.code y::k) s):WP X (.code (.seq x y)::k) s:=
 fun E F w a b=>ku.head (fun _ _ _ _ _=>.one stepR_seq) (h E F w a b)
theorem WP.skip(h:WP X k s):WP X (.code .skip::k) s:=
 fun E F w a b=>ku.head (fun _ _ _ _ _=>.one stepR_skip) (h E F w a b)
theorem WP.label{l:Nat}(h:WP X k s):WP X (.code (.label l)::k) s:=
 fun E F w a b=>ku.head (fun _ _ _ _ _=>.one stepR_label) (h E F w a b)
variable {id:Nat}
theorem WP.block{c:Code}(h:WP X (.code c::.inBlock id::k) s):WP X (.code (.block id c)::k) s:=
 fun E F w a b=>ku.head (fun _ _ _ _ _=>.one stepR_block) (h E F w a b)
theorem WP.inBlock(h:WP X k s):WP X (.inBlock id::k) s:=
 fun E F w a b=>ku.head (fun _ _ _ _ _=>.one stepR_inBlock) (h E F w a b)
theorem WP.exit{k':List Item}(b:exitTo id k=some k')(h:WP X k' s):WP X (.code (.exit id)::k) s:=
 fun E F w a e=>ku.head (fun _ _ _ _ _=>.one (stepR_exit b)) (h E F w a e)
theorem WP.loop{c:Code}(h:WP X (.code c::.inLoop c::k) s):WP X (.code (.loop c)::k) s:=
 fun E F w a b=>ku.head (fun _ _ _ _ _=>.one stepR_loop) (h E F w a b)
theorem WP.inLoop{c:Code}(h:WP X (.code c::.inLoop c::k) s):WP X (.inLoop c::k) s:=
 fun E F w a b=>ku.head (fun _ _ _ _ _=>.one stepR_inLoop) (h E F w a b)
variable {d:Nat}
theorem Zbe{a:Array lR}{v:lR}(h:a[d]?=some v):a.getD d undef=v:=by rw[Array.getD_eq_getD_getElem?,h];rfl
theorem WP.cond{t:Bool}(g:Yg s.L d=some (.c (.b t)))(h:WP X (.code (bif t then x else y)::k) s) :
  WP X (.code (.cond (.tmp d) x y)::k) s:=fun E F w a e=>
 ku.head (fun b cs _ _ _=>.one (stepR_cond (t:=t) (Zbe (e.hL d _ g)))) (by have:=h E F w a e;cases t<;>exact this)
theorem WP.condT{t:Bool}(e:t=true)(g:Yg s.L d=some (.c (.b t)))(h:WP X (.code x::k) s) :
  WP X (.code (.cond (.tmp d) x y)::k) s:=WP.cond g (by rw[e];exact h)
theorem WP.condF{t:Bool}(e:t=false)(g:Yg s.L d=some (.c (.b t)))(h:WP X (.code y::k) s) :
  WP X (.code (.cond (.tmp d) x y)::k) s:=WP.cond g (by rw[e];exact h)
end control
end
section
variable [kv]
universe u
structure TD where
 sz:Nat
 byt:Nat
 ag:Bool
 z:List SC
 fo:List (Nat×Nat×Bool):=[]
 es:Nat:=0
 eb:Nat:=0
 n:Nat:=0
 ik:Option lY:=none
 kd:Nat:=0
 el:Nat:=0
def QA:lC:=⟨fun _=>.bool false,fun _=>0⟩
def Wh(P:lU)(t:lS):Bool:=match P.underlying t with
 |some (.struct _)|some (.array _ _)=>true
 |_=>false
def Ts(P:lU):List Field->List (Nat×Nat×Bool)->Bool
 | [],[]=>true
 |f::fs,(o,s,g)::r=>f.offset==o && ((P.info? f.type).any fun i=>i.size==s) && s != 0 && Wh P f.type==g && (P.underlying f.type).isSome && Ts P fs r
 |_,_=>false
def U2(P:lU)(t:lS)(d:TD):Bool:=match P.underlying t with
 |some (.struct fs)=>d.ag && Ts P fs.toList d.fo && d.ik.isNone && d.kd==4
 |some (.array n e)=>d.ag && d.fo.isEmpty && d.n==n && ((P.info? e).any fun i=>i.size==d.es && i.size != 0) && d.ik.isNone && d.kd==5 && d.el==e
 |some (.slice e)=> !d.ag && d.fo.isEmpty && ((P.info? e).any fun i=>i.size==d.es && i.bytes==d.eb && i.size != 0 && (i.zero.any fun z=>z.cells.size==i.size)) && d.ik.isNone && d.kd==6 && d.el==e
 |some (.int k)=> !d.ag && d.fo.isEmpty && d.ik==some k && d.kd==3
 |some .bool=> !d.ag && d.fo.isEmpty && d.ik.isNone && d.kd==1
 |some .string=> !d.ag && d.fo.isEmpty && d.ik.isNone && d.kd==2
 |some _=> !d.ag && d.fo.isEmpty && d.ik.isNone && d.kd==0
 |none=>false
def SC.closed:SC->Bool
 | .sl _ | .bp _ _ | .px _ _ | .sp _ _ _ _=>false
 | .cl _ fs ks=>fs.isEmpty && ks.isEmpty
 | .v x=>x.oneCell'
 |_=>true
def TD.Ok(P:lU)(t:lS)(d:TD):Prop:=
 (P.info? t).map (fun i=>(i.size,i.bytes,i.zero.map fun z=>z.cells.toList))=some (d.sz,d.byt,some (d.z.map (Yn QA))) /\
 U2 P t d=true/\d.z.all SC.closed=true/\d.z.length=d.sz
def kf(P:lU):List (Nat×TD)->Prop
 | []=>True
 | (t,d)::r=>TD.Ok P t d/\kf P r
theorem kf.get{P:lU}:∀ {tt:List (Nat×TD)},kf P tt->∀ {t d},Yg tt t=some d->TD.Ok P t d
 | [],_,_,_,h=>by cases h
 | (t',d')::r,⟨h1,h2⟩,t,d,h=>by
  rw[YF]at h;split at h
  ·rename_i e;cases h;subst e;exact h1
  ·exact kf.get h2 h
variable {E:lC}
theorem Zpd{e:lC}:∀ {x:SC},x.closed=true->Yn E x=Yn e x
 | .cl _ fs ks,h=>by
  simp only[SC.closed,Zc,List.isEmpty_iff]at h;obtain⟨rfl,rfl⟩:=h;rfl
 | .i _ _,_ | .b _,_ | .s _,_ | .v _,_ | .nil,_=>rfl
theorem Zrg{n:Nat}:∀ {x:SC},x.closed=true->x.kb n
 | .i _ _,_ | .b _,_ | .s _,_ | .nil,_=>trivial
 | .v _,h=>h
 | .cl _ fs ks,h=>by simp only[SC.closed,Zc,List.isEmpty_iff]at h;simp[SC.kb,h.1,h.2]
section td
variable {P:lU}{t:lS}{d:TD}
theorem TD.Ok.info(h:TD.Ok P t d):∃i z,P.info? t=some i/\i.size=d.sz/\i.bytes=d.byt/\i.zero=some z/\(∀E,z.cells=(d.z.map (Yn E)).toArray):=by have⟨b,_,l,_⟩:=h;rw[Zn]at b;have⟨i,hi,e⟩:=b;simp only[Zr]at e;have⟨m,n,g⟩:=e;rw[Zn]at g;have⟨z,o,p⟩:=g;refine⟨i,z,hi,m,n,o,fun E=>?_⟩;apply eC;rw[p];simp only[];exact bK fun x j=>Zpd (aH.1 l x j)
theorem TD.Ok.und(h:TD.Ok P t d):∃ds,P.underlying t=some ds:=by
 have b:=h.2.1;unfold U2 at b;cases e:P.underlying t with
 |none=>rw[e]at b;cases b
 |some ds=>exact⟨ds,rfl⟩
theorem Xl{d:TypeDesc}(h:P.underlying t=some d)(w:lQ):(underlying t).run P w=.ok d w:=by simp[underlying,h]
theorem ZbJ(w:lQ){ds:TypeDesc}(h:P.underlying t=some ds):(isAgg t).run P w=.ok (Wh P t) w:=by simp only[isAgg,aG,Xl h,aD,Wh,h];cases ds<;>rfl
theorem TD.Ok.agg(h:TD.Ok P t d):Wh P t=d.ag:=by have b:=h.2.1;unfold U2 at b;unfold Wh;split at b<;>simp_all
theorem DQ(w:lQ)(h:TD.Ok P t d):(sizeOf t).run P w=.ok d.sz w:=by have⟨i,z,hi,b,_⟩:=h.info;simp[sizeOf,typeInfo,hi,b]
theorem HI(w:lQ)(h:TD.Ok P t d):∃z,(zeroValue t).run P w=.ok z w/\∀E,z.cells=(d.z.map (Yn E)).toArray:=by have⟨i,z,hi,_,_,b,e⟩:=h.info;exact⟨z,by simp[zeroValue,typeInfo,hi,b],e⟩
theorem Zfl:∀ {fs:List Field} {fo:List (Nat×Nat×Bool)},Ts P fs fo=true->∀ {j:Nat} {x:Nat×Nat×Bool},fo[j]?=some x ->
  ∃f i ds,fs[j]?=some f/\f.offset=x.1/\P.info? f.type=some i/\i.size=x.2.1/\x.2.1≠0/\Wh P f.type=x.2.2/\P.underlying f.type=some ds
 | [],[],_,j,x,hx=>by simp at hx
 | [],_::_,h,_,_,_=>by simp[Ts]at h
 |_::_,[],h,_,_,_=>by simp[Ts]at h
 |f::fs,(o,s,g)::r,h,0,x,hx=>by
  simp only[aX,aR]at hx;subst hx;simp only[Ts,Zc,lk,bne_iff_ne,ne_eq]at h;obtain⟨⟨⟨⟨⟨e,b⟩,l⟩,m⟩,n⟩,_⟩:=h;rw[eD]at b;have⟨p,b⟩:=b;have⟨ds,q⟩:=bC.1 n;exact⟨f,_,ds,rfl,e,(gb p).symm,by simpa using b,l,m,q⟩
 |f::fs,(o,s,g)::r,h,j+1,x,hx=>by simp only[List.getElem?_cons_succ]at hx;simp only[Ts,Zc]at h;have⟨v,i,ds,e,b⟩:=Zfl h.2 hx;exact⟨v,i,ds,by simpa using e,b⟩
theorem TD.Ok.field(h:TD.Ok P t d){j:Nat}{x:Nat×Nat×Bool}(e:d.fo[j]?=some x):∃fs f i ds,P.underlying t=some (.struct fs)/\fs[j]?=some f/\f.offset=x.1 /\
  P.info? f.type=some i/\i.size=x.2.1/\x.2.1≠0/\Wh P f.type=x.2.2/\P.underlying f.type=some ds:=by
 have b:=h.2.1;unfold U2 at b;split at b
 ·rename_i fs m;simp only[Zc]at b;have⟨f,i,ds,g,l⟩:=Zfl b.1.1.2 e;exact⟨fs,f,i,ds,m,by simpa using g,l⟩
 all_goals (simp_all)
end td
def RH:lR->SC
 | .int k n=>.i k n
 | .bool b=>.b b
 | .string s=>.s s
 | .slice none 0 0=>.nil
 |x=>.v x
theorem Zjd(E:lC)(v:lR):Yn E (RH v)=v:=by unfold RH;split<;>rfl
theorem Zkr{n:Nat}{v:lR}(h:v.oneCell'=true):(RH v).kb n:=by unfold RH;split<;>first|trivial|exact h
def cSV:lR->Option SV
 | .agg cs=>bif cs.toList.all jt then some (.a (cs.toList.map RH)) else none
 | .tuple _=>none
 |x=>some (.c (RH x))
theorem Zie{v:lR}{x:SV}(h:cSV v=some x)(E:lC)(n:Nat):Yt E x=v/\x.kb n:=by
 unfold cSV at h;split at h
 ·rename_i cs;cases b:cs.toList.all jt with
  |false=>rw[b]at h;cases h
  |true=>
   rw[b]at h;cases h;refine⟨?_,?_⟩
   ·simp only[Yt,cG];have:(cs.toList.map (Yn E ∘ RH))=cs.toList:=by rw[show (Yn E ∘ RH)=id from funext fun v=>Zjd E v];simp
    rw[this]
   ·intro y g;obtain⟨v,e,rfl⟩:=aM.1 g;exact Zkr (aH.1 b v e)
 ·cases h
 ·rename_i i j;cases h;refine⟨Zjd E v,Zkr ?_⟩;cases v<;>first|rfl|exact absurd rfl (i _)|exact absurd rfl (j _)
def Yr(L:List (Nat×SV)):lV->Option SV
 | .tmp t=>Yg L t
 | .const v=>cSV v
 | .global g=>some (.c (.v (.pointer (some ⟨g,0,none⟩))))
 | .func f=>some (.c (.cl f [] []))
theorem ky.eval{X s E F w a}(b:ky X s E F w a){x:lV}{v:SV}(h:Yr s.L x=some v):a.eval x=Yt E v/\v.kb s.nx:=by
 cases x with
 |tmp t=>exact⟨Zbe (b.hL t v h),b.wf.hL t v h⟩
 |const c=>exact⟨(Zie h E s.nx).1.symm,(Zie h E s.nx).2⟩
 |global g=>cases h;exact⟨rfl,rfl⟩
 |func f=>cases h;exact⟨rfl,by simp[SV.kb,SC.kb]⟩
theorem QQ(e:∀k,(E.ρ k).oneCell'=true){n:Nat}:∀ {x:SC},x.kb n->(Yn E x).oneCell'=true
 | .i _ _,_ | .b _,_ | .s _,_ | .nil,_ | .bp _ _,_ | .cl _ _ _,_ | .sp _ _ _ _,_=>rfl
 | .v _,h=>h
 | .sl k,_=>e k
 | .px k j,_=>by show (WW (E.ρ k) j).oneCell'=true;unfold WW;split<;>first|rfl|exact e k
theorem Zpb(b:∀k,(E.ρ k).oneCell'=true){n:Nat}{x:SC}(h:x.kb n):(Yn E x).cells=#[Yn E x]:=by have:=QQ b h;revert this;cases Yn E x<;>simp[jt,Value.cells]
end
section
variable [kv]
def Uf(d:TD)(off:Nat)(cs:List SC):Option SV:=
 bif d.ag then (bif aF ((cs.drop off).take d.sz).length d.sz then some (.a ((cs.drop off).take d.sz)) else none)
 else match cs[off]? with
  |some c=>some (.c c)
  |none=>none
def Zbg(op:BinOp)(k:lY)(a b:Int)(yo:lV):Option SC:=
 match op with
 | .add=>some (.i k (k.wrap (a+b)))
 | .sub=>some (.i k (k.wrap (a-b)))
 | .mul=>some (.i k (k.wrap (a*b)))
 | .eql=>some (.b (a==b))
 | .neq=>some (.b (a != b))
 | .lss=>some (.b (decide (a<b)))
 | .leq=>some (.b (decide (a<=b)))
 | .gtr=>some (.b (decide (a>b)))
 | .geq=>some (.b (decide (a>=b)))
 | .quo=>match yo with
  | .const (.int _ n)=>bif n==0 then none else some (.i k (k.wrap (a.tdiv n)))
  |_=>none
 | .rem=>match yo with
  | .const (.int _ n)=>bif n==0 then none else some (.i k (a.tmod n))
  |_=>none
 |_=>none
def Zgh(tt:List (Nat×TD))(op:BinOp)(t:lS)(x y:SV)(yo:lV):Option SV:=
 match x,y with
 | .c (.i k a),.c (.i k' b)=>bif decide (k=k') then (match Zbg op k a b yo with|some c=>some (.c c)|none=>none) else none
 | .c (.b a),.c (.b b)=>match Yg tt t with
  |some d=>bif aF d.kd 1 then (match op with
   | .eql=>some (.c (.b (a==b)))
   | .neq=>some (.c (.b (!(a==b))))
   |_=>none) else none
  |none=>none
 | .c (.s a),.c (.s b)=>match op with
  | .eql=>some (.c (.b (a.toList==b.toList)))
  | .neq=>some (.c (.b (!(a.toList==b.toList))))
  | .lss=>some (.c (.b (jU a.toList b.toList)))
  | .leq=>some (.c (.b (jU a.toList b.toList || a.toList==b.toList)))
  | .gtr=>some (.c (.b (!(jU a.toList b.toList || a.toList==b.toList))))
  | .geq=>some (.c (.b (!(jU a.toList b.toList))))
  |_=>none
 |_,_=>none
def Zfj(V:List (Nat×VF))(d:TD)(x:SV)(f:Nat):Option SV:=
 match d.fo[f]? with
 |some (o,_,_)=>match x with
  | .c (.bp k off)=>some (.c (.bp k (off+o)))
  | .c (.px k off)=>match Yg V k with
   |some (.pl _)=>some (.c (.px k (off+o)))
   |some (.el _ _)=>some (.c (.px k (off+o)))
   |_=>none
  |_=>none
 |none=>none
def ZfE(kd:Nat)(s:St):SV->Option SV
 | .c (.s x)=>bif aF kd 2 then some (.c (.i .i64 x.size)) else none
 | .c .nil=>bif aF kd 6 then some (.c (.i .i64 0)) else none
 | .c (.sl k)=>bif aF kd 6 then (match Yg s.M k with
  |some (.own _ xs _)=>some (.c (.i .i64 xs.length))
  |_=>match Yg s.V k with
   |some (.sl _ xs)=>some (.c (.i .i64 xs.length))
   |_=>none) else none
 |_=>none
def VH(a b:Int):Int:=if b<a then b else a
def P8(a b:Int):Int:=if b>a then b else a
def DB(f:Int->Int->Int)(k:lY):Int->List SV->Option Int
 |acc,[]=>some acc
 |acc,.c (.i k' m)::r=>bif decide (k=k') then DB f k (f acc m) r else none
 |_,_::_=>none
def Zbt(f:Int->Int->Int):List SV->Option SV
 | .c (.i k n)::r=>match DB f k n r with
  |some m=>some (.c (.i k m))
  |none=>none
 |_=>none
def Ux(L:List (Nat×SV)):List lV->Option (List SV)
 | []=>some []
 |x::r=>match Yr L x with
  |some v=>match Ux L r with
   |some vs=>some (v::vs)
   |none=>none
  |none=>none
def WI:SV->Option (List SC)
 | .c x=>some [x]
 | .a cs=>some cs
 | .t _=>none
 | .u=>none
def WZ(fo:List (Nat×Nat×Bool))(L:List (Nat×SV)):List (Nat×lV)->List SC->Option (List SC)
 | [],cs=>some cs
 | (i,x)::r,cs=>match fo[i]? with
  |some (o,sz,_)=>match Yr L x with
   |some v=>match WI v with
    |some ps=>bif (aF ps.length sz && aY (o+sz) cs.length) then WZ fo L r (cs.take o++ps++cs.drop (o+sz)) else none
    |none=>none
   |none=>none
  |none=>none
def WC(es:Nat):Nat->List (Nat×Nat×Bool)
 |0=>[]
 |n+1=>WC es n++[(n*es,es,false)]
def Zgi(tt:List (Nat×TD))(s:St)(c:Call):Option SV:=
 match c.callee with
 | .builtin .len=>match c.args.toList with
  | [x]=>match c.argTypes.toList with
   | [t]=>match Yg tt t with
    |some d=>match Yr s.L x with
     |some v=>ZfE d.kd s v
     |none=>none
    |none=>none
   |_=>none
  |_=>none
 | .builtin .min=>match Ux s.L c.args.toList with
  |some vs=>Zbt VH vs
  |none=>none
 | .builtin .max=>match Ux s.L c.args.toList with
  |some vs=>Zbt P8 vs
  |none=>none
 |_=>none
def QK(L:List (Nat×SV)):List lV->Option (List Nat)
 | []=>some []
 |x::r=>match Yr L x with
  |some (.c (.bp k 0))=>match QK L r with
   |some ks=>some (k::ks)
   |none=>none
  |_=>none
def DW(tt:List (Nat×TD))(s:St)(op:Op):Option SV:=
 match op with
 | .move x | .assign x=>Yr s.L x
 | .pick c x y=>match Yr s.L c with
  |some (.c (.b true))=>Yr s.L x
  |some (.c (.b false))=>Yr s.L y
  |_=>none
 | .load t ad=>match Yg tt t with
  |some d=>match Yr s.L ad with
   |some (.c (.bp k off))=>match Yg s.M k with
    |some (.box cs _)=>Uf d off cs
    |_=>none
   |some (.c (.px k off))=>match Yg s.V k with
    |some (.pl cs)=>Uf d off cs
    |_=>none
   |_=>none
  |none=>none
 | .nilCheck x=>match Yr s.L x with
  |some (.c (.bp k off))=>some (.c (.bp k off))
  |some (.c (.v (.func (.func f) b c)))=>some (.c (.v (.func (.func f) b c)))
  |some (.c (.cl f b c))=>some (.c (.cl f b c))
  |_=>none
 | .binOp bop t x y _=>match Yr s.L x with
  |some vx=>match Yr s.L y with
   |some vy=>Zgh tt bop t vx vy y
   |none=>none
  |none=>none
 | .unOp uop _ x=>match Yr s.L x with
  |some (.c (.b t))=>match uop with
   | .not=>some (.c (.b (!t)))
   |_=>none
  |some (.c (.i k n))=>match uop with
   | .neg=>some (.c (.i k (k.wrap (0-n))))
   |_=>none
  |_=>none
 | .convert src dst x=>match Yg tt src with
  |some _=>match Yg tt dst with
   |some d=>match Yr s.L x with
    |some (.c (.i _ n))=>match d.ik with
     |some k'=>some (.c (.i k' (k'.wrap n)))
     |none=>none
    |some (.c (.s y))=>bif aF d.kd 2 then some (.c (.s y)) else none
    |_=>none
   |none=>none
  |none=>none
 | .fieldAddr t x f=>match Yg tt t with
  |some d=>match Yr s.L x with
   |some v=>Zfj s.V d v f
   |none=>none
  |none=>none
 | .field t x f=>match Yg tt t with
  |some d=>match Yr s.L x with
   |some (.a cs)=>match d.fo[f]? with
    |some (o,sz,g)=>bif g then (bif aY (o+sz) cs.length then some (.a ((cs.drop o).take sz)) else none) else (match cs[o]? with
     |some c=>some (.c c)
     |none=>none)
    |none=>none
   |_=>none
  |none=>none
 | .extract x j=>match Yr s.L x with
  |some (.t vs)=>match vs[j]? with
   |some (.inl c)=>some (.c c)
   |some (.inr cs)=>some (.a cs)
   |none=>none
  |_=>none
 | .build t parts=>match Yg tt t with
  |some d=>bif aF d.kd 4 then (match WZ d.fo s.L parts.toList d.z with
    |some cs=>some (.a cs)
    |none=>none)
   else (bif aF d.kd 5 then (match WZ (WC d.es d.n) s.L parts.toList d.z with
    |some cs=>some (.a cs)
    |none=>none) else none)
  |none=>none
 | .makeFunc (.func f) first captured=>match QK s.L first.toList with
  |some fs=>match QK s.L captured.toList with
   |some ks=>some (.c (.cl f fs ks))
   |none=>none
  |none=>none
 | .call c=>Zgi tt s c
 |_=>none
theorem Ww(b n j:Nat):(⟨b,n,none⟩:Addr).add j=⟨b,n+j,none⟩:=by unfold Addr.add;split<;>simp_all
variable {w:lQ}
theorem RI{b:Nat}{arr:Array lR}{el:lS}{fz:Nat×Nat}(h:w.heap[b]?=some (.cells arr el fz))(j:Nat) :
  w.cell? ⟨b,j,none⟩=arr[j]?:= by simp[World.cell?,h]
theorem Xe{P:lU}{s:Sem lR}{v:lR}{w':lQ}(h:s.run P w=.ok v w') :
  (do pure (Next.value (<-s)):Sem Next).run P w=.ok (.value v) w':=by simp only[aG,h,aD,aJ]
section
variable {P:lU}{X:lB}{s:St}{E:lC}{F:YJ}{w:lQ}{a:lZ}{tt:List (Nat×TD)}
variable {d:TD}
theorem DP{t:lS}(h:TD.Ok P t d){b base off:Nat}{arr:Array lR}{el:lS}{fz:Nat×Nat}
  (m:w.heap[b]?=some (.cells arr el fz)) {cs:List SC} (n:∀(j:Nat) x,cs[j]?=some x->arr[base+j]?=some (Yn E x)) {v:SV} (e:Uf d off cs=some v) :
  (loadVar t ⟨b,base+off,none⟩).run P w=.ok (Yt E v) w:=by
 have⟨ds,r⟩:=h.und;unfold Uf at e;simp only[loadVar,aG,ZbJ w r,h.agg,aD];cases q:d.ag with
 |true=>
  rw[q]at e;simp only[l9]at e;cases l:aF ((cs.drop off).take d.sz).length d.sz with
  |false=>rw[l]at e;cases e
  |true=>
   rw[l]at e;simp only[l9,aR]at e;subst e;have i:=Zd l;simp only[mA,aG,DQ w h,aD,aJ];have p:=run_loadCells_list (P:=P) w ⟨b,base+off,none⟩ (((cs.drop off).take d.sz).map (Yn E)) (fun j v o=>by
    rw[aK,Zn]at o;obtain⟨x,g,rfl⟩:=o;rw[Ww,RI m];rw[aj]at g;split at g
    ·rw[bO]at g;have:=n _ _ g;rw[show base+off+j=base+(off+j) by omega];exact this
    ·cases g)
   rw[aN,i]at p;rw[p];rfl
 |false=>
  rw[q]at e;simp only[lf]at e;cases g:cs[off]? with
  |none=>rw[g]at e;cases e
  |some x=>
   rw[g]at e;simp only[aR]at e;subst e;simp only[cM,mC,run_load,RI m,n _ _ g];rfl
theorem ZfI{off:Nat}{cs:List SC}{v:SV}{n:Nat}(b:Uf d off cs=some v)(h:∀x∈cs,SC.kb n x):v.kb n:=by
 unfold Uf at b;cases i:d.ag<;>rw[i]at b
 ·simp only[lf]at b;cases e:cs[off]? with
  |none=>rw[e]at b;cases b
  |some x=>rw[e]at b;simp only[aR]at b;subst b;exact h x (Zb e)
 ·simp only[l9]at b;cases g:aF ((cs.drop off).take d.sz).length d.sz with
  |false=>rw[g]at b;cases b
  |true=>
   rw[g]at b;simp only[l9,aR]at b;subst b;exact fun x e=>h x (dB (dC e))
theorem Zog(op:BinOp)(t:lS)(x y:lV)(k:lY)(m n:Int){c:SC}(h:Zbg op k m n y=some c)(g:∀k' b,y=.const (.int k' b)->b=n) :
  (do eqGuard op t x y (.int k m) (.int k n);binOp op t (.int k m) (.int k n):Sem lR).run P w=.ok (Yn E c) w/\c.kb s.nx:=by
 cases op<;>simp only[Zbg]at h<;>(try (cases h;done))<;>(try (cases h;exact⟨by simp[eqGuard,binOp,Op.intArith,Op.intCmp,Yn],trivial⟩))
 ·split at h
  ·rename_i k' b;obtain rfl:=g k' b rfl;cases e:(b==0) with
   |true=>rw[e]at h;cases h
   |false=>
    rw[e]at h;cases h;have:¬ b=0:=by simpa using e
    exact⟨by simp[eqGuard,binOp,Op.intDiv,Yn,this],trivial⟩
  ·cases h
 ·split at h
  ·rename_i k' b;obtain rfl:=g k' b rfl;cases e:(b==0) with
   |true=>rw[e]at h;cases h
   |false=>
    rw[e]at h;cases h;have:¬ b=0:=by simpa using e
    exact⟨by simp[eqGuard,binOp,Op.intDiv,Yn,this],trivial⟩
  ·cases h
theorem TD.Ok.bool{t:lS}(h:TD.Ok P t d)(e:d.kd=1):P.underlying t=some .bool:=by have b:=h.2.1;unfold U2 at b;split at b<;>simp_all
theorem ZpJ{t:lS}(b:P.underlying t=some .bool)(m n:Bool):(dp t (.bool m) (.bool n)).run P w=.ok (m==n) w:=by show (eQ (9999+1) t (.bool m) (.bool n)).run P w=_;generalize 9999=d;simp only[eQ,aG,Xl b,aD,aJ]
theorem Zt3(lO:kf P tt)(op:BinOp)(t:lS)(x y:lV){i g v:SV}(h:Zgh tt op t i g y=some v)(l:Yr s.L y=some g) :
  (do eqGuard op t x y (Yt E i) (Yt E g);binOp op t (Yt E i) (Yt E g):Sem lR).run P w=.ok (Yt E v) w/\v.kb s.nx:=by
 unfold Zgh at h;split at h
 ·rename_i k m k' n;cases b:decide (k=k') with
  |false=>rw[b]at h;cases h
  |true=>
   rw[b]at h;obtain rfl:=lj b;simp only[l9]at h;cases hi:Zbg op k m n y with
   |none=>rw[hi]at h;cases h
   |some c=>
    rw[hi]at h;cases h;refine Zog (s:=s) (E:=E) op t x y k m n hi (fun k' q e=>?_);subst e;simp only[Yr,cSV,RH]at l;cases l;rfl
 ·rename_i m n;cases j:Yg tt t with
  |none=>rw[j]at h;cases h
  |some d=>
   rw[j]at h;simp only[]at h;cases b:aF d.kd 1 with
   |false=>rw[b]at h;cases h
   |true=>
    rw[b]at h;have p:=(lO.get j).bool (Zd b);have o:(dp t (.bool m) (.bool n)).run P w=.ok (m==n) w:=ZpJ p m n;cases op<;>simp only[l9]at h<;>(try (cases h;done))<;>cases h
    ·refine⟨?_,trivial⟩;show (do pure (eh (<-dp t (.bool m) (.bool n))):Sem lR).run P w=_;simp only[aG,o,aD,aJ];rfl
    ·refine⟨?_,trivial⟩;show (do pure (eh (!(<-dp t (.bool m) (.bool n)))):Sem lR).run P w=_;simp only[aG,o,aD,aJ];rfl
 ·cases op<;>simp only[]at h<;>(try (cases h;done))<;>cases h <;>
   exact⟨by simp[eqGuard,binOp,Op.stringOp,Yt,Yn],trivial⟩
 ·cases h
theorem Zlt(e:ky X s E F w a){k:Nat}(h:(∃cs,Yg s.V k=some (.pl cs))\/∃q j,Yg s.V k=some (.el q j)):∃b off,E.ρ k=.pointer (some ⟨b,off,none⟩):=by
 rcases h with⟨cs,h⟩|⟨q,j,h⟩
 ·obtain⟨b,off,_,_,_,g,_⟩:=e.hV k _ h;exact⟨b,off,g⟩
 ·exact (e.hV k _ h).2
theorem ZpS(lO:kf P tt)(y:ky X s E F w a){t:lS}(A:Yg tt t=some d){x v:SV}{f:Nat}(h:Zfj s.V d x f=some v)(m:x.kb s.nx) :
  (iT t (Yt E x) f).run P w=.ok (Yt E v) w/\v.kb s.nx:=by
 unfold Zfj at h;cases r:d.fo[f]? with
 |none=>rw[r]at h;cases h
 |some q=>
  have⟨o,sz,g⟩:=q;rw[r]at h;simp only[]at h;have⟨fs,B,i,ds,C,n,z,hi,j,l,_,_⟩:=(lO.get A).field r;simp only[]at z j l;have G:(sizeOf B.type).run P w=.ok sz w:=by simp[sizeOf,typeInfo,hi,j]
  have key:∀b off,(iT t (.pointer (some ⟨b,off,none⟩)) f).run P w=.ok (.pointer (some ⟨b,off+o,none⟩)) w:=by intro b off;simp[iT,Xl C,n,cx,fieldPlace,G,l,z,Ww]
  have e:∀k off,(∃b o',E.ρ k=.pointer (some ⟨b,o',none⟩))->(iT t (Yt E (.c (.px k off))) f).run P w=.ok (Yt E (.c (.px k (off+o)))) w:=by rintro k off ⟨b,o',D⟩;simp only[Yt,Yn,D,WW,key,Nat.add_assoc]
  split at h
  ·cases h;exact⟨key _ _,m⟩
  ·rename_i k off;split at h
   ·rename_i p;cases h;exact⟨e _ _ (Zlt y (.inl ⟨_,p⟩)),m⟩
   ·rename_i p;cases h;exact⟨e _ _ (Zlt y (.inr ⟨_,_,p⟩)),m⟩
   ·cases h
  ·cases h
end
section
variable {P:lU}{X:lB}{s:St}{E:lC}{F:YJ}{w:lQ}{a:lZ}{tt:List (Nat×TD)}
variable {d:TD}
theorem TD.Ok.str{t:lS}(h:TD.Ok P t d)(b:aF d.kd 2=true):P.underlying t=some .string:=by have b:=Zd b;have e:=h.2.1;unfold U2 at e;split at e<;>simp_all
theorem TD.Ok.slc{t:lS}(h:TD.Ok P t d)(l:aF d.kd 6=true):∃i,P.underlying t=some (.slice d.el)/\P.info? d.el=some i/\i.size=d.es/\i.bytes=d.eb/\i.size≠0 /\
  ∃z,i.zero=some z/\z.cells.size=i.size:=by
 have l:=Zd l;have g:=h.2.1;unfold U2 at g;split at g<;>(try simp_all;done);rename_i e r;simp only[Zc]at g;have b:=g.1.1.1.2;have v:d.el=e:=by simpa using g.2
 rw[v];rw[eD]at b;have⟨m,b⟩:=b;simp only[Zc,lk,bne_iff_ne,ne_eq]at b;obtain⟨⟨⟨n,o⟩,p⟩,j⟩:=b;rw[eD]at j;have⟨q,j⟩:=j;exact⟨_,r,(gb m).symm,n,o,p,_,(gb q).symm,by simpa using j⟩
theorem Zet{α:Type}{R:k6 α}{F w}{xs:List α}{v:lR}(h:SlR R F w xs v):∃b c,v=.slice b xs.length c:=by
 rcases h with⟨rfl,_,_,rfl⟩|⟨b,off,cap,_,_,_,rfl,_⟩
 ·exact⟨_,_,rfl⟩
 ·exact⟨_,_,rfl⟩
theorem G2{α:Type}{R:k6 α}{F w}{xs:List α}{v:lR}(h:kh R F w xs v):∃b c,v=.slice b xs.length c:=by
 rcases h with⟨rfl,rfl⟩|⟨b,off,cap,_,_,_,rfl,_⟩
 ·exact⟨_,_,rfl⟩
 ·exact⟨_,_,rfl⟩
theorem Zrw(lO:kf P tt)(m:ky X s E F w a){t ty:lS}(i:Yg tt t=some d){x v:SV}(h:ZfE d.kd s x=some v) :
  (dt #[t] ty #[Yt E x]).run P w=.ok (Yt E v) w/\v.kb s.nx:=by
 unfold ZfE at h;split at h
 ·cases e:aF d.kd 2<;>rw[e]at h<;>cases h;exact⟨by simp[dt,Xl ((lO.get i).str e),Yt,Yn,goInt],trivial⟩
 ·cases e:aF d.kd 6<;>rw[e]at h<;>cases h;have⟨_,g,_⟩:=(lO.get i).slc e;exact⟨by simp[dt,Xl g,Yt,Yn,goInt],trivial⟩
 ·rename_i k;cases e:aF d.kd 6<;>rw[e]at h<;>(try (cases h;done));simp only[l9]at h;have⟨_,g,_⟩:=(lO.get i).slc e;split at h
  ·rename_i l;cases h;have⟨b,c,j⟩:=G2 (m.hM k _ l);exact⟨by simp[dt,Xl g,Yt,Yn,goInt,j],trivial⟩
  ·split at h
   ·rename_i l;cases h;have⟨b,c,j⟩:=Zet (m.hV k _ l);exact⟨by simp[dt,Xl g,Yt,Yn,goInt,j],trivial⟩
   ·cases h
 ·cases h
theorem Dm(j:ky X s E F w a):∀ {xs:List lV} {b:List SV},Ux s.L xs=some b->xs.map a.eval=b.map (Yt E)/\∀v∈b,v.kb s.nx
 | [],b,h=>by cases h;exact⟨rfl,by simp⟩
 |x::r,b,h=>by
  unfold Ux at h;cases g:Yr s.L x with
  |none=>rw[g]at h;cases h
  |some v=>
   rw[g]at h;simp only[]at h;cases i:Ux s.L r with
   |none=>rw[i]at h;cases h
   |some p=>
    rw[i]at h;cases h;have⟨l,m⟩:=Dm j i;have⟨n,o⟩:=j.eval g;refine⟨by simp[l,n],?_⟩;intro u e;rcases aV.1 e with rfl|e
    ·exact o
    ·exact m u e
theorem ZkK(f:Int->Int->Int)(g:lR->lR->Sem lR)(j:∀k m n,g (.int k m) (.int k n)=pure (.int k (f m n)))(k:lY) :
  ∀(r:List SV) (b m:Int),DB f k b r=some m->(List.foldlM g (Value.int k b) (r.map (Yt E))).run P w=.ok (.int k m) w
 | [],b,m,h=>by cases h;rfl
 |v::r,b,m,h=>by
  unfold DB at h;split at h
  ·rename_i e;cases e
  ·rename_i e;cases e;rename_i _ k' n;cases i:decide (k=k') with
   |false=>rw[i]at h;cases h
   |true=>
    rw[i]at h;obtain rfl:=lj i;simp only[aI,List.foldlM_cons,Yt,Yn,j,aG,aJ,aD];exact ZkK f g j k r _ m h
  ·cases h
theorem ZkL(f:Int->Int->Int)(g:lR->lR->Sem lR)(i:∀k m n,g (.int k m) (.int k n)=pure (.int k (f m n))){e:List SV}{v:SV}(h:Zbt f e=some v) :
  ∃x lK,e.map (Yt E)=x::lK/\(List.foldlM g x lK).run P w=.ok (Yt E v) w/\v.kb s.nx:=by
 unfold Zbt at h;split at h
 ·rename_i k n r;cases b:DB f k n r with
  |none=>rw[b]at h;cases h
  |some m=>
   rw[b]at h;cases h;exact⟨_,_,rfl,ZkK f g i k r n m b,trivial⟩
 ·cases h
theorem Zp8(ps:List lR):∀(o:Nat) (arr:Array lR),o+ps.length<=arr.size ->
  ((ps.toArray.zipIdx 0).foldl (fun cs (c,j)=>cs.setIfInBounds (o+j) c) arr).toList=arr.toList.take o++ps++arr.toList.drop (o+ps.length):=by
 intro o arr e;have key:∀(b:List lR) (i:Nat) (arr:Array lR),o+i+b.length<=arr.size ->
   ((b.zipIdx i).foldl (fun cs (c,j)=>cs.setIfInBounds (o+j) c) arr).toList=arr.toList.take (o+i)++b++arr.toList.drop (o+i+b.length):=by
  intro b;induction b with
  |nil=>intro i arr _;simp
  |cons q b r=>
   intro i arr h;simp only[Zf]at h;simp only[List.zipIdx_cons,List.foldl_cons];rw[r (i+1) _ (by simp;omega)];apply cw;intro n;simp only[iI,Zf,aU,cJ,aL,bz,aq,aj,bB,
    bO,kH,bJ]
   have l:min (o+(i+1)) arr.size=o+i+1:=by omega
   have m:min (o+i) arr.size=o+i:=by omega
   rw[l,m];by_cases g:n<o+i
   ·simp only[show n<o+i+1 by omega,show n<o+(i+1) by omega,g,mA,mC,show ¬ o+i=n by omega]
   ·by_cases p:n=o+i
    ·subst p;simp only[show o+i<o+i+1 by omega,show o+i<o+(i+1) by omega,mA,mC,bj,br];simp[show o+i<arr.size by omega]
    ·simp only[show ¬ n<o+i+1 by omega,g,mC,show ¬ n-(o+i)=0 by omega];rw[show n-(o+i)-1=n-(o+i+1) by omega];split
     ·rfl
     ·have:¬ o+i=o+(i+1)+b.length+(n-(o+i+1)-b.length):=by omega
      rw[mE (by omega)];congr 1;omega
 have:=key ps 0 arr (by simpa using e);rw[<-Array.foldl_toList,Array.toList_zipIdx];simpa using this
theorem HR(e:∀k,(E.ρ k).oneCell'=true){v:SV}{ps:List SC}(h:WI v=some ps)(b:v.kb s.nx):(Yt E v).cells=(ps.map (Yn E)).toArray/\∀x∈ps,x.kb s.nx:=by
 unfold WI at h;split at h
 ·cases h;exact⟨by simpa[Yt]using Zpb e b,by intro x g;rw[aC.1 g];exact b⟩
 ·cases h;exact⟨rfl,b⟩
 ·cases h
 ·cases h
theorem Dn(C:ky X s E F w a)(fo:List (Nat×Nat×Bool))(b:Nat->Option (Nat×Nat))(K:∀(i o sz:Nat) (g:Bool),fo[i]?=some (o,sz,g)->b i=some (o,sz)) :
  ∀(l:List (Nat×lV)) (cs e:List SC) (arr:Array lR),WZ fo s.L l cs=some e->(∀x∈cs,x.kb s.nx)->arr.toList=cs.map (Yn E) ->
   ∃n,kI b arr (l.map fun (i,x)=>(i,a.eval x))=some n/\n.toList=e.map (Yn E)/\∀x∈e,x.kb s.nx
 | [],cs,e,arr,h,hk,ha=>by
  cases h;exact⟨arr,rfl,ha,hk⟩
 | (i,x)::r,cs,e,arr,h,hk,ha=>by
  unfold WZ at h;cases G:fo[i]? with
  |none=>rw[G]at h;cases h
  |some q=>
   have⟨o,sz,g⟩:=q;rw[G]at h;simp only[]at h;cases H:Yr s.L x with
   |none=>rw[H]at h;cases h
   |some v=>
    rw[H]at h;simp only[]at h;cases I:WI v with
    |none=>rw[I]at h;cases h
    |some ps=>
     rw[I]at h;simp only[]at h;cases B:(aF ps.length sz && aY (o+sz) cs.length) with
     |false=>rw[B]at h;cases h
     |true=>
      rw[B]at h;simp only[l9]at h;simp only[Zc]at B;have O:=Zd B.1;have T:=Ze B.2;have⟨R,ek⟩:=C.eval H;have⟨N,D⟩:=HR C.one I ek;have S:arr.size=cs.length:=by rw[<-aq,ha,aN]
      have A:(Yt E v).cells.size=sz:=by rw[N];simp[O]
      have p:=Zp8 (ps.map (Yn E)) o arr (by simp;omega);have z:kI b arr ((i,a.eval x)::(r.map fun (i,x)=>(i,a.eval x))) =
        kI b ((Yt E v).cells.zipIdx.foldl (fun cs (c,j)=>cs.setIfInBounds (o+j) c) arr) (r.map fun (i,x)=>(i,a.eval x)):=by rw[kI,K _ _ _ _ G,R];simp only[A,ne_eq,lu,decide_false,Bool.false_or];rw[mE (by simp;omega)]
      simp only[aI];rw[z,N];refine Dn C fo b K r _ e _ h ?_ ?_
      ·intro y m;simp only[Zk]at m;rcases m with (m|m)|m
       ·exact hk y (dC m)
       ·exact D y m
       ·exact hk y (dB m)
      ·rw[p,ha];simp[fW,List.map_drop,O]
theorem Za5(es:Nat):∀(n i:Nat) (q:Nat×Nat×Bool),(WC es n)[i]?=some q->q=(i*es,es,false)
 |0,i,q,h=>by simp[WC]at h
 |n+1,i,q,h=>by
  have b:∀n,(WC es n).length=n:=by intro n;induction n with
   |zero=>rfl
   |succ n g=>simp[WC,g]
  rw[WC,cJ,b]at h;split at h
  ·exact Za5 es n i q h
  ·rename_i j;have:i-n=0:=by
    rcases Nat.eq_zero_or_pos (i-n) with e|e
    ·exact e
    ·rw[List.getElem?_eq_none (by simp;omega)]at h;cases h
   rw[this]at h;simp only[aX,aR]at h;rw[<-h];have:i=n:=by omega
   rw[this]
theorem Dt{t:lS}(h:TD.Ok P t d){n:Nat}:∀x∈d.z,SC.kb n x:=fun x b=>Zrg (aH.1 h.2.2.1 x b)
theorem ZeG(lO:kf P tt)(R:ky X s E F w a){t:lS}(hd:Yg tt t=some d){b:Array (Nat×lV)}{cs:List SC} :
    (aF d.kd 4=true/\WZ d.fo s.L b.toList d.z=some cs\/aF d.kd 5=true/\WZ (WC d.es d.n) s.L b.toList d.z=some cs) ->
    (kU t (b.map fun (i,x)=>(i,a.eval x))).run P w=.ok (Yt E (.a cs)) w/\(SV.a cs).kb s.nx:=by
  intro h;have ok:=lO.get hd;have⟨z,S,T⟩:=HI w ok;have O:z.cells.toList=d.z.map (Yn E):=by rw[T E]
  have B:(b.map fun (i,x)=>(i,a.eval x)).toList=b.toList.map fun (i,x)=>(i,a.eval x):=by simp
  rcases h with⟨N,h⟩|⟨N,h⟩
  · have A:∃fs,P.underlying t=some (.struct fs)/\Ts P fs.toList d.fo=true:=by have N:=Zd N;have y:=ok.2.1;unfold U2 at y;split at y<;>simp_all
    have⟨fs,A,U⟩:=A;have hpl:∃l:Array (Nat×Nat),(fs.mapM (m:=Sem) fun (f:Field)=>do pure (f.offset,<-sizeOf f.type)).run P w=.ok l w/\∀(i o sz:Nat) (g:Bool),d.fo[i]?=some (o,sz,g)->l[i]?=some (o,sz):=by
      have key:∀(K:List Field) (fo:List (Nat×Nat×Bool)),Ts P K fo=true ->
          ∃H:List (Nat×Nat),(K.mapM (m:=Sem) fun (f:Field)=>do pure (f.offset,<-sizeOf f.type)).run P w=.ok H w/\∀(i o sz:Nat) (g:Bool),fo[i]?=some (o,sz,g)->H[i]?=some (o,sz):=by
        intro K;induction K with
        |nil=>
          intro fo I;cases fo with
          |nil=>exact⟨[],rfl,by simp⟩
          |cons _ _=>simp[Ts]at I
        |cons f K ih=>
          intro fo I;cases fo with
          |nil=>simp[Ts]at I
          |cons q r=>
            have⟨o,sz,g⟩:=q;obtain⟨f',i,ds,h1,y,C,h4,_⟩:=Zfl (j:=0) (x:=(o,sz,g)) I rfl;simp only[aX,aR]at h1;subst h1;simp only[Ts,Zc]at I;have⟨H,W,Y⟩:=ih r I.2;refine⟨(o,sz)::H,?_,?_⟩
            · have S:(sizeOf f.type).run P w=.ok sz w:=by simp[sizeOf,typeInfo,C,h4]
              simp only[List.mapM_cons,aG,S,aD,aJ,W,y]
            · intro i o' sz' g' hi;cases i with
              |zero=>simp at hi ⊢;exact⟨hi.1,hi.2.1⟩
              |succ i=>simpa using Y i o' sz' g' (by simpa using hi)
      have⟨H,W,Y⟩:=key fs.toList d.fo U;refine⟨H.toArray,?_,by simpa using Y⟩;rw[<-dc (xs:=fs),List.mapM_toArray];simp only[Sem.run_map,W,aD]
    have⟨l,Z,hpg⟩:=hpl;have⟨p,D,v,G⟩:=Dn R d.fo (l[·]?) hpg b.toList d.z cs z.cells h (Dt ok) O;refine⟨?_,G⟩;have he:p=(cs.map (Yn E)).toArray:=by apply eC;rw[v]
    unfold kU;simp only[aG,S,aD,Xl A,Z,B,D,he];rfl
  · have A:∃n e i,P.underlying t=some (.array n e)/\d.n=n/\P.info? e=some i/\i.size=d.es:=by have N:=Zd N;have y:=ok.2.1;unfold U2 at y;split at y<;>(try simp_all;done);rename_i n e A;simp only[Zc,lk]at y;have C:=y.1.1.1.2;rw[eD]at C;have⟨R,C⟩:=C;simp only[Zc,lk]at C;exact⟨n,e,_,A,y.1.1.1.1.2,(gb R).symm,C.1⟩
    have⟨n,e,i,A,hn,hi,hsz⟩:=A;have hze:(sizeOf e).run P w=.ok d.es w:=by simp[sizeOf,typeInfo,hi,hsz]
    have⟨p,D,v,G⟩:=Dn R (WC d.es d.n) (fun i=>some (i*d.es,d.es)) (fun i o sz g hi=>by have:=Za5 _ _ _ _ hi;simp only[Zr]at this;rw[this.1,this.2.1]) b.toList d.z cs z.cells h (Dt ok) O
    refine⟨?_,G⟩;have he:p=(cs.map (Yn E)).toArray:=by apply eC;rw[v]
    unfold kU;simp only[aG,S,aD,Xl A,hze,B,D,he];rfl
end
section
variable {P:lU}{X:lB}{s:St}{E:lC}{F:YJ}{w:lQ}{a:lZ}{tt:List (Nat×TD)}
variable {o:lW}
theorem Vu{b:Builtin}{args:Array lV}{e:Array lS}(g:o.op=.call { callee:=.builtin b,args:=args,argTypes:=e }){v:lR}{w':lQ}
  (h:(builtin b e o.type (args.map fun | .const _=>true|_=>false) (args.map a.eval)).run P w=.ok (.value v) w'):(lT a.eval o).run P w=.ok (.value v) w':=by unfold lT;simp only[g,resolve,invoke,aG,aJ,aD];exact h
theorem Zt4(lO:kf P tt)(l:ky X s E F w a){c:Call}(m:o.op=.call c){v:SV}(h:Zgi tt s c=some v) :
  (lT a.eval o).run P w=.ok (.value (Yt E v)) w/\v.kb s.nx:=by
 have⟨callee,args,n⟩:=c;unfold Zgi at h;simp only[]at h;split at h
 ·split at h
  ·rename_i x e;split at h
   ·rename_i t q;cases r:Yg tt t with
    |none=>rw[r]at h;cases h
    |some d=>
     rw[r]at h;simp only[]at h;cases b:Yr s.L x with
     |none=>rw[b]at h;cases h
     |some B=>
      rw[b]at h;simp only[]at h;have⟨g,_⟩:=l.eval b;have⟨i,j⟩:=Zrw (ty:=o.type) lO l r h;refine⟨Vu m ?_,j⟩;have y:args=#[x]:=by apply eC;rw[e]
      have z:n=#[t]:=by apply eC;rw[q]
      subst y z;simp only[List.map_toArray,aI,List.map_nil,g];exact Xe i
   ·cases h
  ·cases h
 ·cases b:Ux s.L args.toList with
  |none=>rw[b]at h;cases h
  |some A=>
   rw[b]at h;simp only[]at h;have⟨g,_⟩:=Dm l b;have⟨x,lK,i,j,p⟩:=ZkL (P:=P) (s:=s) (E:=E) (w:=w) VH Builtin.min2 (fun _ _ _=>rfl) h;refine⟨Vu m ?_,p⟩;have:(Builtin.min_ n o.type (args.map a.eval)).run P w=.ok (Yt E v) w:=by unfold Builtin.min_;rw[dY,g,i];exact j
   exact Xe this
 ·cases b:Ux s.L args.toList with
  |none=>rw[b]at h;cases h
  |some A=>
   rw[b]at h;simp only[]at h;have⟨g,_⟩:=Dm l b;have⟨x,lK,i,j,p⟩:=ZkL (P:=P) (s:=s) (E:=E) (w:=w) P8 Builtin.max2 (fun _ _ _=>rfl) h;refine⟨Vu m ?_,p⟩;have:(Builtin.max_ n o.type (args.map a.eval)).run P w=.ok (Yt E v) w:=by unfold Builtin.max_;rw[dY,g,i];exact j
   exact Xe this
 ·cases h
theorem ZeF{X:lB}{s:St}{E:lC}{F:YJ}{w:lQ}{a:lZ}(i:ky X s E F w a):∀ {xs:List lV} {b:List Nat},QK s.L xs=some b ->
  xs.map a.eval=b.map (fun k=>Value.pointer (some ⟨E.β k,0,none⟩))/\∀k∈b,k<s.nx
 | [],b,h=>by cases h;exact⟨rfl,by simp⟩
 |x::r,b,h=>by
  unfold QK at h;split at h
  ·rename_i k p;cases g:QK s.L r with
   |none=>rw[g]at h;cases h
   |some q=>
    rw[g]at h;cases h;have⟨l,m⟩:=ZeF i g;have⟨n,o⟩:=i.eval p;refine⟨by simp[l,n,Yt,Yn],fun j e=>?_⟩;rcases aV.1 e with rfl|e
    ·exact o
    ·exact m j e
  ·cases h
theorem ZuJ(lO:kf P tt)(l:ky X s E F w a){v:SV}(h:DW tt s o.op=some v) :
  (lT a.eval o).run P w=.ok (.value (Yt E v)) w/\v.kb s.nx:=by
 unfold DW at h;split at h
 ·rename_i x e;have⟨A,q⟩:=l.eval h;exact⟨by simp[lT,e,A],q⟩
 ·rename_i x e;have⟨A,q⟩:=l.eval h;exact⟨by simp[lT,e,A],q⟩
 ·rename_i c x y e;split at h
  ·rename_i C;have⟨A,q⟩:=l.eval h;have⟨p,_⟩:=l.eval C;exact⟨by simp[lT,e,p,A,Yt,Yn,asBool],q⟩
  ·rename_i C;have⟨A,q⟩:=l.eval h;have⟨p,_⟩:=l.eval C;exact⟨by simp[lT,e,p,A,Yt,Yn,asBool],q⟩
  ·cases h
 ·rename_i t ad e;cases r:Yg tt t with
  |none=>rw[r]at h;cases h
  |some d=>
   rw[r]at h;simp only[]at h;split at h
   ·rename_i k off m;split at h
    ·rename_i cs t' hm;have⟨p,_⟩:=l.eval m;have hb:w.heap[E.β k]?=some (.cells (cs.map (Yn E)).toArray t' (0,0)):=l.hM k _ hm;have hl:=DP (E:=E) (base:=0) (lO.get r) hb (cs:=cs) (fun j x K=>by simp[K]) h;rw[aw]at hl;refine⟨?_,ZfI h (l.wf.hM k _ hm).2⟩;have:(ej t (a.eval ad)).run P w=.ok (Yt E v) w:=by rw[p];simp only[ej,cx,Yt,Yn,aG,aJ,aD,hl]
     simp only[lT,e];exact Xe this
    ·cases h
   ·rename_i k off m;split at h
    ·rename_i cs hm;have⟨p,_⟩:=l.eval m;have⟨b,o',arr,ty,fz,hv,hF,hh,C⟩:=l.hV k _ hm;have hl:=DP (E:=E) (base:=o') (lO.get r) hh (cs:=cs) C h;refine⟨?_,ZfI h (l.wf.hV k _ hm).2⟩;have:(ej t (a.eval ad)).run P w=.ok (Yt E v) w:=by rw[p];simp only[ej,cx,Yt,Yn,hv,WW,aG,aJ,aD,hl]
     simp only[lT,e];exact Xe this
    ·cases h
   ·cases h
 ·rename_i x e;split at h
  ·rename_i m;have⟨p,D⟩:=l.eval m;cases h;exact⟨by simp[lT,e,p,Yt,Yn],D⟩
  ·rename_i m;have⟨p,D⟩:=l.eval m;cases h;exact⟨by simp[lT,e,p,Yt,Yn],D⟩
  ·rename_i m;have⟨p,D⟩:=l.eval m;cases h;exact⟨by simp[lT,e,p,Yt,Yn],D⟩
  ·cases h
 ·rename_i bop t x y _ e;cases m:Yr s.L x with
  |none=>rw[m]at h;cases h
  |some vx=>
   rw[m]at h;simp only[]at h;cases T:Yr s.L y with
   |none=>rw[T]at h;cases h
   |some vy=>
    rw[T]at h;simp only[]at h;have⟨A,_⟩:=l.eval m;have⟨q,_⟩:=l.eval T;have⟨p,D⟩:=Zt3 (P:=P) (s:=s) (E:=E) (w:=w) lO bop t x y h T;refine⟨?_,D⟩;simp only[lT,e];rw[A,q];exact Xe p
 ·rename_i uop _ x e;split at h
  ·rename_i t m;have⟨p,_⟩:=l.eval m;split at h
   ·cases h;exact⟨by simp[lT,e,p,Yt,Yn,Op.unary],trivial⟩
   ·cases h
  ·rename_i k n m;have⟨p,_⟩:=l.eval m;split at h
   ·cases h;exact⟨by simp[lT,e,p,Yt,Yn,Op.unary,Op.intArith],trivial⟩
   ·cases h
  ·cases h
 ·rename_i src dst x e;cases R:Yg tt src with
  |none=>rw[R]at h;cases h
  |some d0=>
   rw[R]at h;simp only[]at h;cases r:Yg tt dst with
   |none=>rw[r]at h;cases h
   |some d=>
    rw[r]at h;simp only[]at h;have⟨ds0,W⟩:=(lO.get R).und;split at h
    ·rename_i k n m;have⟨p,_⟩:=l.eval m;split at h
     ·rename_i k' I;cases h;have U:P.underlying dst=some (.int k'):=by have q:=(lO.get r).2.1;unfold U2 at q;split at q<;>simp_all
      exact⟨by simp[lT,e,p,Yt,Yn,convert,Xl W,Xl U,Conv.intToInt],trivial⟩
     ·cases h
    ·rename_i y m;have⟨p,_⟩:=l.eval m;cases I:aF d.kd 2 with
     |false=>rw[I]at h;cases h
     |true=>
      rw[I]at h;cases h;have U:=(lO.get r).str I;exact⟨by simp[lT,e,p,Yt,Yn,convert,Xl W,Xl U],trivial⟩
    ·cases h
 ·rename_i t x f e;cases r:Yg tt t with
  |none=>rw[r]at h;cases h
  |some d=>
   rw[r]at h;simp only[]at h;cases m:Yr s.L x with
   |none=>rw[m]at h;cases h
   |some vx=>
    rw[m]at h;simp only[]at h;have⟨A,q⟩:=l.eval m;have⟨p,D⟩:=ZpS lO l r h q;refine⟨?_,D⟩;simp only[lT,e];rw[A];exact Xe p
 ·rename_i t x f e;cases r:Yg tt t with
  |none=>rw[r]at h;cases h
  |some d=>
   rw[r]at h;simp only[]at h;split at h
   ·rename_i cs m;have⟨A,q⟩:=l.eval m;split at h
    ·rename_i o' sz g hf;have⟨fs,fl,i,ds,U,Y,N,hi,Z,hne,O,hud⟩:=(lO.get r).field hf;simp only[]at N Z hne O;have hz:(sizeOf fl.type).run P w=.ok sz w:=by simp[sizeOf,typeInfo,hi,Z]
     have hia:=ZbJ w hud;have H:(kV t (Yt E (.a cs)) f).run P w=.ok (Yt E v) w/\v.kb s.nx:=by
      cases hg:g with
      |true=>
       rw[hg]at h;simp only[l9]at h;cases hb:aY (o'+sz) cs.length with
       |false=>rw[hb]at h;cases h
       |true=>
        rw[hb]at h;cases h;refine⟨?_,fun y T=>q y (dB (dC T))⟩;simp only[kV,aG,Xl U,aD,Y,Yt,asAgg,aJ,part,hia,O,hg,mA,hz,N];congr 2;apply eC;simp[List.map_drop,fW,List.take_drop]
      |false=>
       rw[hg]at h;simp only[lf]at h;cases C:cs[o']? with
       |none=>rw[C]at h;cases h
       |some c=>
        rw[C]at h;cases h;refine⟨?_,q c (Zb C)⟩;simp only[kV,aG,Xl U,aD,Y,Yt,asAgg,aJ,part,hia,O,hg,mC,N,cM];simp[C]
     refine⟨?_,H.2⟩;simp only[lT,e];rw[A];exact Xe H.1
    ·cases h
   ·cases h
 ·rename_i x j e;split at h
  ·rename_i vs m;have⟨A,q⟩:=l.eval m;split at h
   ·rename_i c K;cases h;have:=q _ (Zb K);exact⟨by simp[lT,e,A,Yt,Instr.extract,K,Sh],this⟩
   ·rename_i cs K;cases h;have:=q _ (Zb K);exact⟨by simp[lT,e,A,Yt,Instr.extract,K,Sh],this⟩
   ·cases h
  ·cases h
 ·rename_i t G e;cases r:Yg tt t with
  |none=>rw[r]at h;cases h
  |some d=>
   rw[r]at h;simp only[]at h;have key:∀cs,(aF d.kd 4=true/\WZ d.fo s.L G.toList d.z=some cs\/aF d.kd 5=true/\WZ (WC d.es d.n) s.L G.toList d.z=some cs) ->
     (lT a.eval o).run P w=.ok (.value (Yt E (.a cs))) w/\(SV.a cs).kb s.nx:=by intro cs C;have⟨p,D⟩:=ZeG lO l r C;refine⟨?_,D⟩;simp only[lT,e];exact Xe p
   cases I:aF d.kd 4 with
   |true=>
    rw[I]at h;simp only[l9]at h;split at h
    ·rename_i cs hf;cases h;exact key cs (.inl ⟨I,hf⟩)
    ·cases h
   |false=>
    rw[I]at h;simp only[lf]at h;cases S:aF d.kd 5 with
    |false=>rw[S]at h;cases h
    |true=>
     rw[S]at h;simp only[l9]at h;split at h
     ·rename_i cs hf;cases h;exact key cs (.inr ⟨S,hf⟩)
     ·cases h
 ·rename_i f first B e
  cases A:QK s.L first.toList with
  |none=>rw[A]at h;cases h
  |some fs=>
   rw[A]at h;simp only[]at h;cases q:QK s.L B.toList with
   |none=>rw[q]at h;cases h
   |some ks=>
    rw[q]at h;cases h;have⟨e1,k1⟩:=ZeF l A;have⟨e2,k2⟩:=ZeF l q;refine⟨?_,k1,k2⟩;have q1:first.map a.eval=WX E fs:=by apply eC;rw[dY,e1];simp[WX]
    have q2:B.map a.eval=WX E ks:=by apply eC;rw[dY,e2];simp[WX]
    simp only[lT,e];refine Xe ?_;simp only[Instr.makeFunc,q1,q2,Yt,Yn,aJ]
 ·rename_i c e;exact Zt4 lO l e h
 ·cases h
end
theorem Oper.wp_imp{P:lU}{o:lW}{a:lZ}{K i:lZ->lQ->Prop}{j:Exit->lZ->lQ->Prop}(h:∀a w,K a w->i a w)
  (b:o.wp P a w K (fun _ _ _=>False)):o.wp P a w i j:=by
 unfold Oper.wp at *;unfold Oper.upon at *;split at b
 ·exact h _ _ b
 ·exact h _ _ b
 ·exact h _ _ b
 ·refine Calls.mono b fun e w' g=>?_;split at g
  ·exact h _ _ g
  ·exact g.elim
  ·have⟨_,_,l⟩:=g;exact l.elim
 ·exact Rows.mono b fun v w' g=>h _ _ g
 ·exact b.elim
 ·exact b.elim
section
variable {X:lB}{s:St}{E:lC}{F:YJ}{w:lQ}{a:lZ}
theorem getElem?_put{a:lZ}{d:Tmp}{v:lR}(h:d<a.tmps.size)(j:Nat):(a.put (some d) v).tmps[j]?=if d=j then some v else a.tmps[j]?:= by
 simp only[Act.put];by_cases e:d=j
 ·subst e;simp[h]
 ·simp[e]
theorem Zlq(a:lZ)(d:Option Tmp)(v:lR):(a.put d v).tmps.size=a.tmps.size:=by cases d<;>simp[Act.put]
theorem Zf5(a:lZ)(d:Option Tmp)(v:lR):(a.put d v).defers=a.defers:=by cases d<;>simp[Act.put]
theorem ky.setL(b:ky X s E F w a){d:Nat}{v:SV}(g:v.kb s.nx)(i:d<X.fn.ntmps):ky X ⟨(d,v)::s.L,s.M,s.V,s.nx⟩ E F w (a.put (some d) (Yt E v)) where
 wf:=⟨fun j l h=>by
   rw[YF]at h;split at h
   ·cases h;exact g
   ·exact b.wf.hL _ _ h,b.wf.hM,b.wf.hV⟩
 nk:=b.nk
 defers:=by rw[Zf5];exact b.defers
 size:=by rw[Zlq];exact b.size
 hL:=fun j l h=>by
  rw[getElem?_put (by rw[b.size];exact i)];rw[YF]at h;split at h
  ·rename_i e;cases h;rw[mD e]
  ·rename_i e;rw[mE e];exact b.hL _ _ h
 hV:=b.hV
 hM:=b.hM
 dis:=b.dis
 mF:=b.mF
 fresh:=b.fresh
 hF:=b.hF
 hF0:=b.hF0
 hF1:=b.hF1
 hn0:=b.hn0
 hZ:=b.hZ
 ext:=b.ext
 link:=b.link
 one:=b.one
theorem ky.world{w':lQ}(e:ky X s E F w a)(l:w'.os=w.os)(n:w'.tape=w.tape)(o:Oq w w')(g:w.heap.size<=w'.heap.size)
  (j:∀b,b<w.heap.size->w'.heap[b]?=w.heap[b]?):ky X s E F w' a where
 wf:=e.wf
 nk:=e.nk
 defers:=e.defers
 size:=e.size
 hL:=e.hL
 hV:=fun k f h=>(e.hV k f h).mono ⟨fun _ h=>h,fun b hF=>j b (e.hF b hF)⟩
 hM:=fun k m h=>(e.hM k m h).mono ⟨fun _ h=>h,fun b hF=>j b (e.hF b hF)⟩ fun b i=>j b (e.mF k m h b i).2.2
 dis:=e.dis
 mF:=fun k m h b i=>⟨(e.mF k m h b i).1,(e.mF k m h b i).2.1,Zh (e.mF k m h b i).2.2 g⟩
 fresh:=e.fresh
 hF:=fun b hF=>Zh (e.hF b hF) g
 hF0:=e.hF0
 hF1:=e.hF1
 hn0:=e.hn0
 hZ:=e.hZ
 ext:=e.ext.trans ⟨l,n,o,g,fun b p=>j b (Zh (e.hZ b p) e.ext.size)⟩
 link:=e.link
 one:=e.one
theorem ky.env{j:lC}(e:ky X s E F w a)(g:E.Eqb s.nx j)(o:∀k,(j.ρ k).oneCell'=true):ky X s j F w a where
 wf:=e.wf
 nk:=e.nk
 defers:=e.defers
 size:=e.size
 hL:=fun d v h=>by rw[Dh g (e.wf.hL d v h)];exact e.hL d v h
 hV:=fun k f h=>by have:=(e.hV k f h).eqb g (e.wf.hV k f h).2;rw[(g k (e.wf.hV k f h).1).1];exact this
 hM:=fun k m h=>(e.hM k m h).eqb g (e.wf.hM k m h).1 (e.wf.hM k m h).2
 dis:=fun k k' m m' h n l b i=>by rw[MO.fp_eqb g (e.wf.hM k m h).1]at i;rw[MO.fp_eqb g (e.wf.hM k' m' n).1];exact e.dis k k' m m' h n l b i
 mF:=fun k m h b i=>e.mF k m h b ((MO.fp_eqb g (e.wf.hM k m h).1).1 i)
 fresh:=fun k m h p b i=>e.fresh k m h p b ((MO.fp_eqb g (e.wf.hM k m h).1).1 i)
 hF:=e.hF
 hF0:=e.hF0
 hF1:=e.hF1
 hn0:=e.hn0
 hZ:=e.hZ
 ext:=e.ext
 link:=e.link.trans (g.mono e.nk)
 one:=o
theorem St.Wf.grow{s:St}(h:s.Wf){n:Nat}(b:s.nx<=n):St.Wf ⟨s.L,s.M,s.V,n⟩:=
 ⟨fun d v g=>(h.hL d v g).mono b,fun k m g=>⟨Zh (h.hM k m g).1 b,(h.hM k m g).2.mono b⟩,fun k f g=>⟨Zh (h.hV k f g).1 b,(h.hV k f g).2.mono b⟩⟩
theorem ky.nxt(b:ky X s E F w a){n:Nat}(e:s.nx<=n):ky X ⟨s.L,s.M,s.V,n⟩ E F w a:=
 { b with wf:=b.wf.grow e,nk:=bV b.nk e }
theorem ky.addM{m:MO}(g:ky X s E F w a)(x:m.ok E F w s.nx)(y:m.kb (s.nx+1))
  (i:∀b,m.fp E s.nx b->¬ F b/\X.w0.heap.size<=b/\b<w.heap.size/\∀k m',Yg s.M k=some m'->¬ m'.fp E k b) :
  ky X ⟨s.L,(s.nx,m)::s.M,s.V,s.nx+1⟩ E F w a where
 wf:=⟨(g.wf.grow (cD _)).hL,fun k m' h=>by
   rw[YF]at h;split at h
   ·rename_i e;cases h;subst e;exact⟨ab _,y⟩
   ·exact (g.wf.grow (cD _)).hM k m' h,(g.wf.grow (cD _)).hV⟩
 nk:=Nat.le_succ_of_le g.nk
 defers:=g.defers
 size:=g.size
 hL:=g.hL
 hV:=g.hV
 hM:=fun k m' h=>by
  rw[YF]at h;split at h
  ·rename_i e;cases h;subst e;exact x
  ·exact g.hM k m' h
 dis:=fun k k' r v n l o b j=>by
  rw[YF]at n l;split at n
  ·rename_i B;cases n;subst B;split at l
   ·rename_i q;exact absurd q o
   ·exact (i b j).2.2.2 k' v l
  ·split at l
   ·rename_i q;cases l;subst q;exact fun p=>(i b p).2.2.2 k r n j
   ·exact g.dis k k' r v n l o b j
 mF:=fun k m' h b j=>by
  rw[YF]at h;split at h
  ·rename_i e;cases h;subst e;exact⟨(i b j).1,fun z=>absurd (g.hZ b z) (cv.2 (i b j).2.1),(i b j).2.2.1⟩
  ·exact g.mF k m' h b j
 fresh:=fun k m' h A b j=>by
  rw[YF]at h;split at h
  ·rename_i e;cases h;subst e;exact bV g.hn0 (i b j).2.1
  ·exact g.fresh k m' h A b j
 hF:=g.hF
 hF0:=g.hF0
 hF1:=g.hF1
 hn0:=g.hn0
 hZ:=g.hZ
 ext:=g.ext
 link:=g.link
 one:=g.one
theorem ky.addV{f:VF}(b:ky X s E F w a)(i:f.ok E F w (E.ρ s.nx))(j:f.kb (s.nx+1)) :
  ky X ⟨s.L,s.M,(s.nx,f)::s.V,s.nx+1⟩ E F w a:=
 { b with
  wf:=⟨(b.wf.grow (cD _)).hL,(b.wf.grow (cD _)).hM,fun k g h=>by
   rw[YF]at h;split at h
   ·rename_i e;cases h;subst e;exact⟨ab _,j⟩
   ·exact (b.wf.grow (cD _)).hV k g h⟩
  nk:=Nat.le_succ_of_le b.nk
  hV:=fun k g h=>by
   rw[YF]at h;split at h
   ·rename_i e;cases h;subst e;exact i
   ·exact b.hV k g h }
theorem ky.setM{m m':MO}{k:Nat}{w':lQ}(g:ky X s E F w a)(o:Yg s.M k=some m)(K:w'.os=w.os)(N:w'.tape=w.tape)(O:Oq w w')
  (p:w.heap.size<=w'.heap.size) (i:∀b,b<w.heap.size->¬ m.fp E k b->w'.heap[b]?=w.heap[b]?) (q:∀b,m'.fp E k b->m.fp E k b) (y:m'.ok E F w' k)
  (z:m'.kb s.nx) (A:m'.isFresh=true->m.isFresh=true):ky X ⟨s.L,(k,m')::s.M,s.V,s.nx⟩ E F w' a where
 wf:=⟨g.wf.hL,fun j l h=>by
   rw[YF]at h;split at h
   ·rename_i e;cases h;subst e;exact⟨(g.wf.hM k m o).1,z⟩
   ·exact g.wf.hM j l h,g.wf.hV⟩
 nk:=g.nk
 defers:=g.defers
 size:=g.size
 hL:=g.hL
 hV:=fun j f h=>(g.hV j f h).mono ⟨fun _ h=>h,fun b hF=>i b (g.hF b hF) fun n=>(g.mF k m o b n).1 hF⟩
 hM:=fun j l h=>by
  rw[YF]at h;split at h
  ·rename_i e;cases h;subst e;exact y
  ·rename_i e;exact (g.hM j l h).mono ⟨fun _ h=>h,fun b hF=>i b (g.hF b hF) fun n=>(g.mF k m o b n).1 hF⟩
    fun b n=>i b (g.mF j l h b n).2.2 fun B=>g.dis k j m l o h e b B n
 dis:=fun j G H l x v r b i=>by
  rw[YF]at x v;split at x
  ·rename_i R;cases x;subst R;split at v
   ·rename_i D;exact absurd D r
   ·exact g.dis k G m l o v r b (q b i)
  ·split at v
   ·rename_i D;cases v;subst D;exact fun C=>g.dis j k H m x o r b i (q b C)
   ·exact g.dis j G H l x v r b i
 mF:=fun j l h b i=>by
  rw[YF]at h;split at h
  ·rename_i e;cases h;subst e;have:=g.mF k m o b (q b i);exact⟨this.1,this.2.1,Zh this.2.2 p⟩
  ·have:=g.mF j l h b i;exact⟨this.1,this.2.1,Zh this.2.2 p⟩
 fresh:=fun j l h n b i=>by
  rw[YF]at h;split at h
  ·rename_i e;cases h;subst e;exact g.fresh k m o (A n) b (q b i)
  ·exact g.fresh j l h n b i
 hF:=fun b hF=>Zh (g.hF b hF) p
 hF0:=g.hF0
 hF1:=g.hF1
 hn0:=g.hn0
 hZ:=g.hZ
 ext:=g.ext.trans ⟨K,N,O,p,fun b I=>i b (Zh (g.hZ b I) g.ext.size) fun n=>(g.mF k m o b n).2.1 I⟩
 link:=g.link
 one:=g.one
theorem ky.drop{k:Nat}{m:MO}(b:ky X s E F w a)(e:Yg s.M k=some m):ky X ⟨s.L,(k,.gone)::s.M,s.V,s.nx⟩ E F w a:=
 b.setM e rfl rfl .m (Zq _) (fun _ _ _=>rfl) (fun _ h=>h.elim) trivial trivial (fun h=>by cases h)
theorem Qb{P:lU}(g o:Nat)(t:lS)(fz:Nat×Nat):∀(l:List lR) (i:Nat) (b:Array lR) (w:lQ),w.heap[g]?=some (.cells b t fz)->TZ fz b.size ->
  o+i+l.length<=b.size->(∀v∈l,v.oneCell'=true) ->
  (storeCells ⟨g,o,none⟩ l i).run P w=.ok () (w.setRow g (b.toList.take (o+i)++l++b.toList.drop (o+i+l.length)).toArray)
 | [],i,b,w,hg,_,_,_=>by
  simp only[storeCells,List.append_nil,List.length_nil,bu,cE,dc];have:w.setRow g b=w:=by
   have A:g<w.heap.size:=(aW.1 hg).1;have y:w.heap[g]=.cells b t fz:=(aW.1 hg).2;unfold kM;cases w with
   |mk heap L H T z=>
    congr 1;apply Array.ext
    ·simp
    ·intro k j I;simp only[gY];split
     ·rename_i p;subst p;simp at y;simp[y]
     ·rfl
  rw[this];rfl
 |v::lK,i,b,w,hg,ht,hl,j=>by
  have hi:o+i<b.size:=by simp at hl;omega
  have h:w.cell? ⟨g,o+i,none⟩=some b[o+i]:=by simp[World.cell?,hg,hi]
  have q:w.frozen? ⟨g,o+i,none⟩=false:=by have:=ht (o+i) hi;have⟨lo,O⟩:=fz;simpa[World.frozen?,hg]using this
  have r:w.setCell ⟨g,o+i,none⟩ v=w.setRow g (b.setIfInBounds (o+i) v):=by
   have A:g<w.heap.size:=(aW.1 hg).1;have y:w.heap[g]=.cells b t fz:=(aW.1 hg).2;unfold World.setCell kM;congr 1;apply Array.ext
   ·simp
   ·intro k j I;simp only[gY];split
    ·rename_i p;subst p;simp[y]
    ·rfl
  have B:(store ((⟨g,o,none⟩:Addr).add i) v).run P w=.ok () (w.setRow g (b.setIfInBounds (o+i) v)):=by rw[Ww,run_store P w _ v _ (j v (by simp)),h];simp[q,r]
  have R:=Qb (P:=P) g o t fz lK (i+1) (b.setIfInBounds (o+i) v) (w.setRow g (b.setIfInBounds (o+i) v)) (setRow_heap w g b _ t _ hg)
   (by rw[Array.size_setIfInBounds];exact ht) (by simp at hl ⊢;omega) (fun x N=>j x (by simp[N]))
  have C:∀(m e:Array lR),(w.setRow g m).setRow g e=w.setRow g e:=by
   intro m e;unfold kM;congr 1;apply Array.ext
   ·simp
   ·intro k j I;simp only[gY];split
    ·rename_i p;subst p;cases w.heap[g]'(by simpa using j)<;>rfl
    ·rfl
  simp only[storeCells,aG,B,aD,R,C];congr 3;apply cw;intro n;simp only[iI,Zf,aU,cJ,aL,bz,aq,aj,bB,
   bO,kH,bJ]
  simp only[Zf]at hl;have D:min (o+(i+1)) b.size=o+i+1:=by omega
  have G:min (o+i) b.size=o+i:=by omega
  rw[D,G];by_cases K:n<o+i
  ·simp only[show n<o+i+1 by omega,show n<o+(i+1) by omega,K,mA,mC,show ¬ o+i=n by omega]
  ·by_cases S:n=o+i
   ·subst S;simp only[show o+i<o+i+1 by omega,show o+i<o+(i+1) by omega,mA,mC,bj,br];simp[show o+i<b.size by omega]
   ·simp only[show ¬ n<o+i+1 by omega,K,mC,show ¬ n-(o+i)=0 by omega];rw[show n-(o+i)-1=n-(o+i+1) by omega];split
    ·rfl
    ·rw[mE (by omega)];congr 1;omega
end
def kg(X:lB)(ops:Array lW)(idx:List Nat)(lL:lZ->lQ->Prop)(s:St):Prop:=
 ∀E F w a,ky X s E F w a->wpOps X.P ops (fun e a' w'=>e=.normal/\lL a' w') idx a w
abbrev rk(X:lB)(k:List Item):lZ->lQ->Prop:=fun a w=>ku X.P X.f X.rd X.post a k w
def VV:Option Nat->Fence
 |none=>ka
 |some l=>ka.inRound l
theorem ZpV(rd:Option Nat):(VV rd).round=rd:=by cases rd<;>rfl
theorem Za9(rd:Option Nat)(f:lX):(VV rd).fn f:=by cases rd<;>trivial
theorem ZpU(rd:Option Nat)(n:Nat):(VV rd).room n:=by cases rd<;>exact room_wide n
theorem Zfk(rd:Option Nat)(n:Nat):(VV rd).depth.isSome=true->1<=n:=by cases rd<;>exact fun h=>by cases h
theorem ZpX{rd:Option Nat}{P:lU}{m m':Machine}(h:StepsIn (Machine.fenced P (VV rd)) P m m'):Steps P m m':=h.steps
theorem ZpT{rd:Option Nat}{n:Nat}{P:lU}{f:lX}{args:Array lR}{R:Ending->lQ->Prop}(h:Calls P f args w R):CallsIn (VV rd) n P f args w R:=by
 cases rd with
 |none=>exact callsIn_wide.2 h
 |some l=>exact CallsIn.inRound l (callsIn_wide.2 h)
theorem ZpW{rd:Option Nat}{n:Nat}{P:lU}{b:String}{args:Array lR}{R:lR->lQ->Prop}(h:Rows P b args w R):RowsIn (VV rd) n P b args w R:=by
 intro c cs _;have⟨v,w',r,s⟩:=h c cs;refine⟨v,w',r,?_⟩;cases rd with
 |none=>exact stepsIn_wide.2 s
 |some l=>exact (stepsIn_wide.2 s:StepsIn (Machine.fenced P ka) P _ _)
def ndO:Op->Bool
 | .defer _=>false
 |_=>true
def TG(ops:Array lW):Bool:=ops.toList.all fun o=>ndO o.op
theorem Zlg{P:lU}{rd:Option Nat}{o:lW}{a:lZ}{K:lZ->lQ->Prop}{Q:Exit->lZ->lQ->Prop}(b:ndO o.op=true)(h:o.wp P a w K Q):o.wpIn (VV rd) 0 P a w K Q:=by
 refine⟨fun f _=>Za9 rd f,?_⟩;have e:o.semAt (VV rd).round a.eval=lT a.eval o:=Oper.semAt_eq _ _ _ (fun c g=>by rw[g]at b;cases b);rw[e];unfold Oper.wp at h;generalize (lT a.eval o).run P w=r at h;cases r with
 |ok n w'=>
  cases n
  case value v=>exact h
  case skip=>exact h
  case defer d=>exact h
  case enter f args=>exact⟨Zfk rd _,ZpT h⟩
  case row row args=>exact⟨Zfk rd _,ZpW h⟩
  all_goals exact (show False from h).elim
 |halt x w'=>
  cases x
  case panic v=>exact h
  all_goals exact (show False from h).elim
theorem DI{P:lU}{rd:Option Nat}{ops:Array lW}{Q:Exit->lZ->lQ->Prop}(b:¬ LetsOut Q)(e:TG ops=true):∀(idx:List Nat) (a:lZ) (w:lQ),wpOps P ops Q idx a w->wpOpsIn (VV rd) 0 P ops Q idx a w
 | [],_,_,h=>h
 |i::lK,a,w,h=>by
  simp only[wpOps]at h;simp only[wpOpsIn];cases j:ops[i]? with
  |none=>rw[j]at h;exact DI b e lK a w h
  |some o=>
   rw[j]at h;simp only at h ⊢;split
   ·rename_i g;rw[mD g]at h;rcases h with h|h
    ·refine Zlg ?_ (Oper.wp_mono (fun a w h=>DI b e lK a w h) h);obtain⟨hi,rfl⟩:=aW.1 j;exact aH.1 e _ (Array.getElem_mem_toList hi)
    ·exact absurd h.2 b
   ·rename_i g;rw[mE g]at h;exact⟨fun f _=>Za9 rd f,DI b e lK _ w h⟩
section
variable {X:lB}{s s':St}{ops:Array lW}{lL:lZ->lQ->Prop}{k':List Item}{tt:List (Nat×TD)}
theorem kg.nil(h:WP X k' s):kg X ops [] (rk X k') s:=fun E F w a b=>⟨rfl,h E F w a b⟩
theorem ku.via{P f rd R a lL w k'}(h:∀(b:l7) (cs:List l7),b.fn=f->b.kind=.normal->b.roundOf=rd->∃j w',ku P f rd R j k' w'/\Steps P (lone (b.atR a lL) cs w) (lone (b.atR j k') cs w')):ku P f rd R a lL w:=by
 cases rd with
 |none=>
  intro b cs e g i;have⟨j,w',m,n⟩:=h b cs e g i;have⟨v,w2,fr,o,p,q,r⟩:=m b cs e g i;exact⟨v,w2,fr,o,n.trans p,q,r⟩
 |some l=>
  intro b c cs e g i;have⟨j,w',m,n⟩:=h b (c::cs) e g i;have⟨v,w2,o,p⟩:=m b c cs e g i;exact⟨v,w2,o,n.trans p⟩
variable {w:lQ}
theorem ZlS{idx:List Nat}{a:lZ}(h:wpOpsIn (VV X.rd) 0 X.P ops (fun e i w'=>e=.normal/\ku X.P X.f X.rd X.post i k' w') idx a w):ku X.P X.f X.rd X.post a (.inRegion ops idx::k') w:=
 ku.via fun b cs n o j=>by obtain⟨e,i,w',⟨l,m⟩,g⟩:=wp_opsIn idx a w h b k' cs (by rw[j,ZpV]) (Za9 _ _) (ZpU _ _);subst l;exact⟨i,w',m,ZpX g⟩
variable {K:lZ->lQ->Prop}
theorem Zk0:¬ LetsOut (fun e b w'=>e=.normal/\K b w'):=fun⟨_,_,h,_⟩=>by cases h
theorem ZlR{idx:List Nat}{a:lZ}(b:TG ops=true)(h:wpOps X.P ops (fun e g w'=>e=.normal/\ku X.P X.f X.rd X.post g k' w') idx a w):ku X.P X.f X.rd X.post a (.inRegion ops idx::k') w:=
 ZlS (DI Zk0 b idx a w h)
theorem ZlP{id:Nat}{a:lZ}(p:TG ops=true)(q:X.P.follows .mixedOrders=true)
  (h:wpAny X.P .any ops (fun e r w'=>e=.normal/\ku X.P X.f X.rd X.post r k' w') ops.size (cQ ops.size false) a { w with drawn:=w.drawn+1 }):ku X.P X.f X.rd X.post a (.code (.region id ops true)::k') w:=by
 have key:∀t,ku X.P X.f X.rd X.post a (.inRegion ops (Region.schedule (X.P.follows .mixedOrders) ops t)::k') { w with drawn:=w.drawn+1 }:=fun t=>ZlR p (by simp only[Region.schedule,q,Bool.true_or,mA];exact wpAny_sound ops.size t _ a _ h)
 cases o:X.rd with
 |none=>
  intro b cs j m n;have:=key (w.tape w.drawn (.order b.fn id));rw[o]at this;have⟨v,w2,fr,g,i,x,y⟩:=this b cs j m n;exact⟨v,w2,fr,g,(gN stepR_region_draw).trans i,x,y⟩
 |some l=>
  intro b c cs j m n;have:=key (w.tape w.drawn (.order b.fn id));rw[o]at this;have⟨v,w2,g,i⟩:=this b c cs j m n;exact⟨v,w2,g,(gN stepR_region_draw).trans i⟩
theorem WP.region{id:Nat}(b:TG ops=true)(h:kg X ops (cO ops.size) (rk X k') s):WP X (.code (.region id ops false)::k') s:=
 fun E F w a e=>ku.head (fun _ _ _ _ _=>.one stepR_region) (ZlR b (h E F w a e))
def Y3(ops:Array lW)(L:List (Nat×SV))(o:lW):Option Bool:=
 match o.guard with
 |none=>some true
 |some (j,want)=>match ops[j]? with
  |some oj=>match oj.dst with
   |some d=>match Yg L d with
    |some (.c (.b t))=>match t with
     |true=>some want
     |false=>some (!want)
    |some .u=>some false
    |_=>none
   |none=>none
  |none=>none
variable {o:lW}
theorem S3{E F w a}(l:ky X s E F w a){t:Bool}(h:Y3 ops s.L o=some t):iU o (yielded ops a.tmps)=t:=by
 unfold Y3 at h;unfold iU;split at h
 ·rename_i e;rw[e];cases h;rfl
 ·rename_i j b e;rw[e];simp only[];split at h
  ·rename_i q m;split at h
   ·rename_i d n;split at h
    ·rename_i p g;have i:=l.hL d _ g;have:yielded ops a.tmps j=some p:=by unfold yielded;simp[m,n,i,Yt,Yn]
     rw[this];cases p<;>simp only[aR]at h<;>subst h<;>cases b<;>rfl
    ·rename_i g;have i:=l.hL d _ g;have:yielded ops a.tmps j=none:=by unfold yielded;simp[m,n,i,Yt,undef]
     rw[this];cases h;cases b<;>rfl
    ·cases h
   ·cases h
  ·cases h
theorem kg.op{i:Nat}{lK:List Nat}(m:ops[i]?=some o)(n:Y3 ops s.L o=some true)
  (h:∀E F w a,ky X s E F w a->o.wp X.P a w (fun b w'=>∃e g,ky X s' e g w' b) (fun _ _ _=>False)) (k:kg X ops lK lL s'):kg X ops (i::lK) lL s:=by intro E F w a l;simp only[wpOps,m,S3 l n,mA];exact .inl (Oper.wp_imp (fun b w' ⟨e,g,j⟩=>k e g w' b j) (h E F w a l))
theorem kg.skip{i:Nat}{lK:List Nat}{d:Nat}(e:ops[i]?=some o)(g:Y3 ops s.L o=some false)(h:o.dst=some d)(j:d<X.fn.ntmps)
  (k:kg X ops lK lL ⟨(d,.u)::s.L,s.M,s.V,s.nx⟩):kg X ops (i::lK) lL s:=by intro E F w a b;simp only[wpOps,e,S3 b g,cM,mC,h];exact k E F w _ (b.setL (v:=.u) trivial j)
theorem XD{P:lU}{a:lZ}{w':lQ}{v:lR}{Q:Exit->lZ->lQ->Prop}
  (h:(lT a.eval o).run P w=.ok (.value v) w') (k:K (a.put o.dst v) w'):o.wp P a w K Q:=by unfold Oper.wp;rw[h];exact k
theorem HW{P:lU}{a:lZ}{w':lQ}{Q:Exit->lZ->lQ->Prop}
  (h:(lT a.eval o).run P w=.ok .skip w') (k:K (a.put o.dst undef) w'):o.wp P a w K Q:=by unfold Oper.wp;rw[h];exact k
theorem ky.allocBox{E F w a}(g:ky X s E F w a){cs:List SC}{t:lS}(o:∀x∈cs,SC.kb s.nx x) :
  ∃r,r.β s.nx=w.heap.size/\ky X ⟨s.L,(s.nx,.box cs t)::s.M,s.V,s.nx+1⟩ r F (w.alloc (.cells (cs.map (Yn E)).toArray t)) a:=by
 have n:w.heap.size<=(w.alloc (.cells (cs.map (Yn E)).toArray t)).heap.size:=by simp
 have q:=g.world (w':=w.alloc (.cells (cs.map (Yn E)).toArray t)) rfl rfl .m n (fun b l=>heap_alloc_old w _ (h:=l));have j:E.Eqb s.nx (E.setβ s.nx w.heap.size):=E.eqb_setβ _ _ _ (Zq _);have y:=q.env j (by intro k;exact g.one k);refine⟨_,by simp[lC.setβ],y.addM ?_ (fun x v=>(o x v).mono (cD _)) ?_⟩
 ·show (w.alloc _).heap[(E.setβ s.nx w.heap.size).β s.nx]?=_;have:(E.setβ s.nx w.heap.size).β s.nx=w.heap.size:=by simp[lC.setβ]
  rw[this,L2 j o];exact heap_alloc_new w _
 ·intro b l;have e:b=w.heap.size:=by have:b=(E.setβ s.nx w.heap.size).β s.nx:=l;simpa[lC.setβ]using this
  subst e;refine⟨fun hF=>absurd (g.hF _ hF) (bj _),g.ext.size,by simp,fun k m' i p=>?_⟩;have:=(q.mF k m' i w.heap.size ((MO.fp_eqb j (g.wf.hM k m' i).1).1 p))
  have z:=(g.mF k m' i w.heap.size ((MO.fp_eqb j (g.wf.hM k m' i).1).1 p)).2.2;exact absurd z (bj _)
theorem ky.storeBox{E F w a}(i:ky X s E F w a){k:Nat}{cs ps:List SC}{t:lS}(l:Yg s.M k=some (.box cs t)){off:Nat}(q:off+ps.length<=cs.length)
  (o:∀x∈ps,SC.kb s.nx x):∃w',(storeCells ⟨E.β k,off,none⟩ (ps.map (Yn E))).run X.P w=.ok () w' /\
   ky X ⟨s.L,(k,.box (cs.take off++ps++cs.drop (off+ps.length)) t)::s.M,s.V,s.nx⟩ E F w' a:=by
 have p:w.heap[E.β k]?=some (.cells (cs.map (Yn E)).toArray t (0,0)):=i.hM k _ l;have y:=Qb (P:=X.P) (E.β k) off t (0,0) (ps.map (Yn E)) 0 _ w p (by intro j _;simp) (by simp;omega)
  (by intro v r;obtain⟨x,g,rfl⟩:=aM.1 r;exact QQ i.one (o x g))
 refine⟨_,y,i.setM l rfl rfl .m (by simp) (fun b _ n=>setRow_other w _ b _ (fun e=>n e)) (fun _ h=>h) ?_ ?_ (fun h=>by cases h)⟩
 ·have:=setRow_heap w (E.β k) _ ((List.take (off+0) (bm (Yn E) cs).toArray.toList++bm (Yn E) ps++List.drop (off+0+(bm (Yn E) ps).length) (bm (Yn E) cs).toArray.toList).toArray) t (0,0) p;show (w.setRow _ _).heap[E.β k]?=_;rw[this];congr 3;simp[fW,List.map_drop]
 ·intro x g;simp only[Zk]at g;rcases g with (g|g)|g
  ·exact (i.wf.hM k _ l).2 x (dC g)
  ·exact o x g
  ·exact (i.wf.hM k _ l).2 x (dB g)
def HM(tt:List (Nat×TD))(n:Nat)(o:lW):St->Option St
 |⟨L,M,V,nx⟩=>match o.op with
  | .alloc t=>match Yg tt t with
   |some d=>match o.dst with
    |some x=>bif aO x n then some ⟨(x,.c (.bp nx 0))::L,(nx,.box d.z t)::M,V,nx+1⟩ else none
    |none=>none
   |none=>none
  | .box t v=>match Yr L v with
   |some sv=>match WI sv with
    |some cs=>match o.dst with
     |some x=>bif aO x n then some ⟨(x,.c (.bp nx 0))::L,(nx,.box cs t)::M,V,nx+1⟩ else none
     |none=>none
    |none=>none
   |none=>none
  | .store t ad v=>match Yg tt t with
   |some d=>match Yr L ad with
    |some (.c (.bp k off))=>match Yr L v with
     |some sv=>match WI sv with
      |some ps=>match Yg M k with
       |some (.box cs t')=>bif (aF ps.length d.sz && aY (off+ps.length) cs.length) then (match o.dst with
        |none=>some ⟨L,(k,.box (cs.take off++ps++cs.drop (off+ps.length)) t')::M,V,nx⟩
        |some _=>none) else none
       |_=>none
      |none=>none
     |none=>none
    |_=>none
   |none=>none
  |op=>match DW tt ⟨L,M,V,nx⟩ op with
   |some v=>match o.dst with
    |some x=>bif aO x n then some ⟨(x,v)::L,M,V,nx⟩ else none
    |none=>none
   |none=>none
theorem Y9{a b:Nat}(h:aO a b=true):a<b:=by unfold aO at h;exact Ze h
theorem Zl7(lO:kf X.P tt)(h:HM tt X.fn.ntmps o s=some s'):∀E F w a,ky X s E F w a->o.wp X.P a w (fun I w'=>∃l Y,ky X s' l Y w' I) (fun _ _ _=>False):=by
 intro E F w a g;have⟨L,M,V,nx⟩:=s;unfold HM at h;simp only[]at h;split at h
 ·rename_i t y;cases j:Yg tt t with
  |none=>rw[j]at h;cases h
  |some d=>
   rw[j]at h;simp only[]at h;split at h
   ·rename_i x p;cases b:aO x X.fn.ntmps with
    |false=>rw[b]at h;cases h
    |true=>
     rw[b]at h;cases h;have⟨z,K,B⟩:=HI w (lO.get j);have G:=g.allocBox (cs:=d.z) (t:=t) (Dt (lO.get j));have⟨l,m,e⟩:=G;refine XD (w':=w.alloc (.cells (d.z.map (Yn E)).toArray t)) (v:=.pointer (some ⟨w.heap.size,0,none⟩)) ?_ ⟨l,F,?_⟩
     ·simp only[lT,y];refine Xe ?_;simp only[Instr.alloc,aG,K,aD,newVar,newRow,run_newObj,aJ,B E];rfl
     ·have:=e.setL (d:=x) (v:=.c (.bp nx 0)) (ab nx) (Y9 b);simp only[Yt,Yn]at this;rw[p];rw[show l.β nx=w.heap.size from m]at this;exact this
   ·cases h
 ·rename_i t v y;cases i:Yr L v with
  |none=>rw[i]at h;cases h
  |some r=>
   rw[i]at h;simp only[]at h;cases q:WI r with
   |none=>rw[q]at h;cases h
   |some cs=>
    rw[q]at h;simp only[]at h;split at h
    ·rename_i x p;cases b:aO x X.fn.ntmps with
     |false=>rw[b]at h;cases h
     |true=>
      rw[b]at h;cases h;have⟨C,ek⟩:=g.eval i;have⟨A,n⟩:=HR (s:=⟨L,M,V,nx⟩) g.one q ek;have⟨l,m,e⟩:=g.allocBox (cs:=cs) (t:=t) n;refine XD (w':=w.alloc (.cells (cs.map (Yn E)).toArray t)) (v:=.pointer (some ⟨w.heap.size,0,none⟩)) ?_ ⟨l,F,?_⟩
      ·simp only[lT,y];refine Xe ?_;simp only[Instr.box,newVar,newRow,aG,run_newObj,aD,aJ,C,A];rfl
      ·have:=e.setL (d:=x) (v:=.c (.bp nx 0)) (ab nx) (Y9 b);simp only[Yt,Yn]at this;rw[p];rw[show l.β nx=w.heap.size from m]at this;exact this
    ·cases h
 ·rename_i t Z v y;cases j:Yg tt t with
  |none=>rw[j]at h;cases h
  |some d=>
   rw[j]at h;simp only[]at h;split at h
   ·rename_i k off D;cases i:Yr L v with
    |none=>rw[i]at h;cases h
    |some r=>
     rw[i]at h;simp only[]at h;cases q:WI r with
     |none=>rw[q]at h;cases h
     |some ps=>
      rw[q]at h;simp only[]at h;split at h
      ·rename_i cs t' T;cases b:(aF ps.length d.sz && aY (off+ps.length) cs.length) with
       |false=>rw[b]at h;cases h
       |true=>
        rw[b]at h;simp only[l9]at h;split at h
        ·rename_i p;cases h;simp only[Zc]at b;have U:=Zd b.1;have W:=Ze b.2;have⟨C,ek⟩:=g.eval i;have⟨N,_⟩:=g.eval D;have⟨A,n⟩:=HR (s:=⟨L,M,V,nx⟩) g.one q ek;have⟨w',O,e⟩:=g.storeBox T W n;refine HW (w':=w') ?_ ⟨E,F,by rw[p];exact e⟩;have H:(dz t (Yt E (.c (.bp k off))) (Yt E r)).run X.P w=.ok () w':=by
          have:(Yt E r).cells.size=d.sz:=by rw[A];simp[U]
          show (dz t (.pointer (some ⟨E.β k,off,none⟩)) (Yt E r)).run X.P w=.ok () w';simp only[dz,cx,aG,aJ,aD,storeVar,DQ w (lO.get j),this,ne_eq,lu,mC];rw[A];exact O
         simp only[lT,y,C,N,aG,H,aD,aJ]
        ·cases h
      ·cases h
   ·cases h
 ·split at h
  ·rename_i v i;split at h
   ·rename_i x p;cases b:aO x X.fn.ntmps with
    |false=>rw[b]at h;cases h
    |true=>
     rw[b]at h;cases h;have⟨R,S⟩:=ZuJ lO g i;refine XD R ⟨E,F,?_⟩;rw[p];exact g.setL S (Y9 b)
   ·cases h
  ·cases h
def HN(tt:List (Nat×TD))(m:Nat)(ops:Array lW):Nat->List Nat->St->Option (List Nat×St)
 |0,idx,s=>some (idx,s)
 |n+1,i::lK,s=>match ops[i]? with
  |some o=>match Y3 ops s.L o with
   |some true=>match HM tt m o s with
    |some s'=>HN tt m ops n lK s'
    |none=>none
   |some false=>match o.dst with
    |some d=>bif aO d m then HN tt m ops n lK ⟨(d,.u)::s.L,s.M,s.V,s.nx⟩ else none
    |none=>none
   |none=>none
  |none=>none
 |_+1,[],_=>none
theorem kg.sil(lO:kf X.P tt):∀(n:Nat) {idx b:List Nat} {s s':St},HN tt X.fn.ntmps ops n idx s=some (b,s')->kg X ops b lL s'->kg X ops idx lL s
 |0,_,_,_,_,h,k=>by cases h;exact k
 |_+1,[],_,_,_,h,_=>by cases h
 |n+1,i::lK,b,s,s',h,k=>by
  unfold HN at h;cases e:ops[i]? with
  |none=>rw[e]at h;cases h
  |some o=>
   rw[e]at h;simp only[]at h;split at h
   ·rename_i g;cases j:HM tt X.fn.ntmps o s with
    |none=>rw[j]at h;cases h
    |some p=>
     rw[j]at h;exact kg.op e g (Zl7 lO j) (kg.sil lO n h k)
   ·rename_i g;split at h
    ·rename_i d m;cases l:aO d X.fn.ntmps with
     |false=>rw[l]at h;cases h
     |true=>
      rw[l]at h;exact kg.skip e g m (Y9 l) (kg.sil lO n h k)
    ·cases h
   ·cases h
end
structure kz where
 l:List (Nat×SC)
 a:Nat:=0
 b:Nat:=0
def kz.sh(κ:kz)(k:Nat):Nat:=bif aY κ.a k then κ.b+(k-κ.a) else k
def kz.sl(κ:kz)(k:Nat):SC:=match Yg κ.l k with
 |some c=>c
 |none=>.sl (κ.sh k)
def kz.bk(κ:kz)(k:Nat):Nat:=match Yg κ.l k with
 |some (.bp k' 0)=>k'
 |some _=>0
 |none=>κ.sh k
def kz.okB(κ:kz)(k:Nat):Bool:=match Yg κ.l k with
 |some (.bp _ 0)=>true
 |some _=>false
 |none=>true
def Wa(κ:kz):SC->SC
 | .cl f fs ks=>bif fs.all κ.okB && ks.all κ.okB then .cl f (fs.map κ.bk) (ks.map κ.bk) else .nil
 | .sl k=>κ.sl k
 | .px k off=>match κ.sl k with
  | .sl k'=>.px k' off
  |_=>.nil
 | .bp k off=>match Yg κ.l k with
  |some (.bp k' 0)=>.bp k' off
  |some _=>.nil
  |none=>.bp (κ.sh k) off
 | .sp _ _ _ _=>.nil
 |c=>c
def ZlE(κ:kz):SC⊕List SC->SC⊕List SC
 | .inl c=>.inl (Wa κ c)
 | .inr cs=>.inr (cs.map (Wa κ))
def W3(κ:kz):SV->SV
 | .c x=>.c (Wa κ x)
 | .a cs=>.a (cs.map (Wa κ))
 | .t vs=>.t (vs.map (ZlE κ))
 | .u=>.u
def kz.env(κ:kz)(E:lC):lC where
 ρ k:=Yn E (κ.sl k)
 β k:=match Yg κ.l k with
  |some (.bp k' _)=>E.β k'
  |some _=>0
  |none=>E.β (κ.sh k)
def TJ(κ:kz):SC->Bool
 | .cl _ fs ks=>fs.all κ.okB && ks.all κ.okB
 | .px k _=>match κ.sl k with
  | .sl _=>true
  |_=>false
 | .bp k _=>match Yg κ.l k with
  |some (.bp _ 0)=>true
  |some _=>false
  |none=>true
 | .sp _ _ _ _=>false
 |_=>true
def okS(κ:kz):SC⊕List SC->Bool
 | .inl c=>TJ κ c
 | .inr cs=>cs.all (TJ κ)
def Ui(κ:kz):SV->Bool
 | .c x=>TJ κ x
 | .a cs=>cs.all (TJ κ)
 | .t vs=>vs.all (okS κ)
 | .u=>true
theorem Zjc(κ:kz)(E:lC){e:List Nat}(h:e.all κ.okB=true):WX (κ.env E) e=WX E (e.map κ.bk):=by
 unfold WX;rw[cG];congr 1;refine bK fun k b=>?_;have b:=aH.1 h k b;unfold kz.okB at b;simp only[Function.comp,kz.bk,kz.env];split at b
 ·rename_i k' g;rw[g]
 ·cases b
 ·rename_i g;rw[g]
theorem ZeZ(κ:kz)(E:lC):∀ {c:SC},TJ κ c=true->Yn (κ.env E) c=Yn E (Wa κ c)
 | .sl k,_=>rfl
 | .px k off,h=>by
  simp only[TJ]at h;split at h
  ·rename_i k' e;simp only[Wa,Yn,kz.env,e]
  ·cases h
 | .bp k off,h=>by
  simp only[TJ]at h;split at h
  ·rename_i k' e;simp only[Wa,Yn,kz.env,e]
  ·cases h
  ·rename_i e;simp only[Wa,Yn,kz.env,e]
 | .cl f fs ks,h=>by
  simp only[TJ]at h;simp only[Wa,h,l9];simp only[Zc]at h;simp only[Yn,Zjc κ E h.1,Zjc κ E h.2]
 | .sp _ _ _ _,h=>by cases h
 | .i _ _,_ | .b _,_ | .s _,_ | .v _,_ | .nil,_=>rfl
theorem ZaT(κ:kz)(E:lC){cs:List SC}(h:cs.all (TJ κ)=true):cs.map (Yn (κ.env E))=(cs.map (Wa κ)).map (Yn E):=by rw[cG];exact bK fun x b=>ZeZ κ E (aH.1 h x b)
theorem ZaR(κ:kz)(E:lC):∀ {v:SV},Ui κ v=true->Yt (κ.env E) v=Yt E (W3 κ v)
 | .c x,h=>ZeZ κ E h
 | .a cs,h=>by simp only[Yt,W3,ZaT κ E h]
 | .t vs,h=>by
  simp only[Yt,W3,cG];congr 2;refine bK fun v b=>?_;have:=aH.1 h v b;cases v with
  |inl c=>exact ZeZ κ E this
  |inr cs=>simp only[Sh,Function.comp,ZlE,ZaT κ E this]
 | .u,_=>rfl
def SC.kbb(n:Nat):SC->Bool
  | .sl k | .bp k _ | .px k _ | .sp k _ _ _=>aO k n
  | .cl _ fs ks=>fs.all (aO · n) && ks.all (aO · n)
  | .v x=>x.oneCell'
  |_=>true
theorem SC.kbb_ok{n:Nat}:∀ {x:SC},x.kbb n=true->x.kb n
 | .sl _,h | .bp _ _,h | .px _ _,h | .sp _ _ _ _,h=>Y9 h
 | .cl _ fs ks,h=>by
  simp only[SC.kbb,Zc]at h;exact⟨fun k e=>Y9 (aH.1 h.1 k e),fun k e=>Y9 (aH.1 h.2 k e)⟩
 | .v _,h=>h
 | .i _ _,_ | .b _,_ | .s _,_ | .nil,_=>trivial
def SV.kbb(n:Nat):SV->Bool
 | .c x=>x.kbb n
 | .a cs=>cs.all (SC.kbb n)
 | .t vs=>vs.all fun | .inl x=>x.kbb n | .inr cs=>cs.all (SC.kbb n)
 | .u=>true
theorem SV.kbb_ok{n:Nat}:∀ {x:SV},x.kbb n=true->x.kb n
 | .c _,h=>SC.kbb_ok h
 | .a _,h=>fun y b=>SC.kbb_ok (aH.1 h y b)
 | .t _,h=>fun v e=>by
  have:=aH.1 h v e;cases v with
  |inl x=>exact SC.kbb_ok this
  |inr cs=>exact fun y b=>SC.kbb_ok (aH.1 this y b)
 | .u,_=>trivial
def VF.kbb(n:Nat):VF->Bool
 | .pl cs=>cs.all (SC.kbb n)
 | .el k _ | .vw k _ _ _=>aO k n
 |_=>true
theorem VF.kbb_ok{n:Nat}:∀ {x:VF},x.kbb n=true->x.kb n
 | .pl _,h=>fun y b=>SC.kbb_ok (aH.1 h y b)
 | .el _ _,h | .vw _ _ _ _,h=>Y9 h
 | .sl _ _,_ | .fn _,_=>trivial
def MO.kbb(n:Nat):MO->Bool
 | .box cs _=>cs.all (SC.kbb n)
 |_=>true
theorem MO.kbb_ok{n:Nat}:∀ {x:MO},x.kbb n=true->x.kb n
 | .box _ _,h=>fun y b=>SC.kbb_ok (aH.1 h y b)
 | .own _ _ _,_ | .abs _,_ | .buf _ _,_ | .av _,_ | .gone,_=>trivial
theorem Xk{α:Type _}:∀ {l:List (Nat×α)} {k:Nat} {v:α},Yg l k=some v->(k,v)∈l
 | [],_,_,h=>by cases h
 | (k',v')::t,k,v,h=>by
  rw[YF]at h;split at h
  ·rename_i e;cases h;subst e;exact Zj
  ·exact Zi _ (Xk h)
def Qj(L:List (Nat×SV))(M:List (Nat×MO))(V:List (Nat×VF))(nx:Nat):Bool:=
 L.all (fun p=>p.2.kbb nx) && M.all (fun p=>aO p.1 nx && p.2.kbb nx) && V.all (fun p=>aO p.1 nx && p.2.kbb nx)
theorem ZbW{L M V nx}(h:Qj L M V nx=true):St.Wf ⟨L,M,V,nx⟩:=by
 simp only[Qj,Zc,aH]at h;obtain⟨⟨i,e⟩,g⟩:=h;exact⟨fun d v b=>SV.kbb_ok (i _ (Xk b)),fun k m b=>⟨Y9 (e _ (Xk b)).1,MO.kbb_ok (e _ (Xk b)).2⟩,
  fun k f b=>⟨Y9 (g _ (Xk b)).1,VF.kbb_ok (g _ (Xk b)).2⟩⟩
def Uy(s:St)(κ:kz)(k:Nat):VF->Option VF
 | .sl R xs=>match κ.sl k with
  | .nil=>some (.sl R [])
  | .sl k'=>match Yg s.V k' with
   |some (.sl R' xs')=>some (.sl R' xs')
   |_=>none
  |_=>let _:=xs;none
 | .fn _=>match κ.sl k with
  | .sl k'=>Yg s.V k'
  |_=>none
 |_=>none
def Vl(κ:kz):MO->MO
 | .box cs t=>.box (cs.map (Wa κ)) t
 |m=>m
def W0(s:St)(κ:kz)(k:Nat):MO->Option MO
 | .box cs _=>match cs.all (TJ κ) with
  |true=>match Wa κ (.bp k 0) with
   | .bp k' 0=>Yg s.M k'
   |_=>none
  |false=>none
 | .own R _ fr=>match κ.sl k with
  | .nil=>some (.own R [] fr)
  | .sl k'=>match Yg s.M k' with
   |some (.own R' xs' fr')=>match fr with
    |false=>some (.own R' xs' false)
    |true=>some (.own R' xs' fr')
   |_=>none
  |_=>none
 | .abs _=>match κ.sl k with
  | .sl k'=>Yg s.M k'
  |_=>none
 | .buf _ ty=>match κ.sl k with
  | .nil=>some (.buf .empty ty)
  | .sl k'=>Yg s.M k'
  |_=>none
 | .av _=>match κ.sl k with
  | .sl k'=>Yg s.M k'
  |_=>none
 | .gone=>some .gone
def XT(κ:kz)(k:Nat):MO->Option Nat
 | .box _ _=>match Wa κ (.bp k 0) with
  | .bp k' _=>some k'
  |_=>none
 | .own _ _ _ | .abs _ | .buf _ _ | .av _=>match κ.sl k with
  | .sl k'=>some k'
  |_=>none
 | .gone=>none
def Hr(x:Nat):List Nat->Bool
 | []=>true
 |y::r=> !(aF x y) && Hr x r
def XL:List Nat->Bool
 | []=>true
 |x::r=>Hr x r && XL r
theorem Zk3{x:Nat}:∀ {l:List Nat},Hr x l=true->x ∉ l
 | [],_=>by simp
 |y::r,h=>by
  simp only[Hr,Zc,fF]at h;have b:x≠y:=fun e=>by subst e;simp at h
  simp only[Zl,not_or];exact⟨b,Zk3 h.2⟩
theorem P9:∀ {l:List Nat},XL l=true->l.Nodup
 | [],_=>.nil
 |x::r,h=>by simp only[XL,Zc]at h;exact cR.2 ⟨Zk3 h.1,P9 h.2⟩
structure Emb (s:St) (κ:kz) (V:List (Nat×VF)) (M:List (Nat×MO)):Prop where
  hV:V.map (fun p=>Uy s κ p.1 p.2)=V.map (fun p=>some p.2)
  hM:M.map (fun p=>W0 s κ p.1 p.2)=M.map (fun p=>some (Vl κ p.2))
  hd:XL (M.filterMap fun p=>XT κ p.1 p.2)=true
  hk:XL (M.map (·.1))=true
theorem Uh{α β:Type _}{f g:α->β}:∀ {l:List α},l.map f=l.map g->∀x∈l,f x=g x
 | [],_,x,b=>by cases b
 |y::r,h,x,b=>by
  simp only[aI,bH]at h;rcases aV.1 b with rfl|b
  ·exact h.1
  ·exact Uh h.2 x b
section
variable {X:lB}{s:St}{E:lC}{F:YJ}{w:lQ}{a:lZ}{κ:kz}{V:List (Nat×VF)}{M:List (Nat×MO)}
variable {k:Nat}
theorem Emb.factV(i:Emb s κ V M)(e:ky X s E F w a){f:VF}(j:(k,f)∈V):f.ok (κ.env E) F w ((κ.env E).ρ k):=by
 have h:=Uh i.hV _ j;simp only[]at h;show f.ok _ F w (Yn E (κ.sl k));cases f with
 |sl R xs=>
  simp only[Uy]at h;split at h
  ·rename_i b;simp only[aR,VF.sl.injEq]at h;have⟨_,_,l⟩:=h;cases l;rw[b];exact .inl ⟨rfl,_,_,rfl⟩
  ·rename_i k' b;split at h
   ·rename_i g;rw[h]at g;rw[b];exact e.hV k' _ g
   ·cases h
  ·cases h
 |fn Φ=>
  simp only[Uy]at h;split at h
  ·rename_i k' b;rw[b];exact e.hV k' _ h
  ·cases h
 |pl _=>cases h
 |el _ _=>cases h
 |vw _ _ _ _=>cases h
theorem Zon{c:SC}(h:Wa κ (.bp k 0)=c):(∃k',c=.bp k' 0/\(κ.env E).β k=E.β k')\/c=.nil:=by
 subst h;simp only[Wa];split
 ·rename_i k' b;exact .inl ⟨k',rfl,by simp only[kz.env,b]⟩
 ·exact .inr rfl
 ·rename_i b;exact .inl ⟨κ.sh k,rfl,by simp only[kz.env,b]⟩
theorem Emb.memM(B:Emb s κ V M)(n:ky X s E F w a){m:MO}(C:(k,m)∈M) :
  m.ok (κ.env E) F w k/\((∀b,¬ m.fp (κ.env E) k b)\/∃k' m',XT κ k m=some k'/\Yg s.M k'=some m'/\(∀b,m.fp (κ.env E) k b->m'.fp E k' b)/\(m.isFresh=true->m'.isFresh=true)):=by
 have h:=Uh B.hM _ C;simp only[]at h;cases m with
 |box cs t=>
  simp only[W0]at h;cases l:cs.all (TJ κ) with
  |false=>rw[l]at h;cases h
  |true=>
   rw[l]at h;simp only[]at h;split at h
   ·rename_i k' g;rcases Zon (E:=E) g with⟨G,e,x⟩|e
    ·cases e;have i:w.heap[E.β k']?=some (.cells ((cs.map (Wa κ)).map (Yn E)).toArray t (0,0)):=n.hM k' _ h;refine⟨?_,.inr ⟨k',_,by simp[XT,g],h,?_,fun j=>by cases j⟩⟩
     ·show w.heap[(κ.env E).β k]?=_;rw[x,ZaT κ E l];exact i
     ·intro b q;show b=E.β k';rw[<-x];exact q
    ·cases e
   ·cases h
 |own R xs fr=>
  simp only[W0]at h;split at h
  ·rename_i g;simp only[Vl,aR,MO.own.injEq]at h;obtain⟨_,_,o,_⟩:=h;cases o;refine⟨?_,.inl ?_⟩
   ·show kh _ _ _ _ (Yn E (κ.sl k));rw[g];exact .inl ⟨rfl,rfl⟩
   ·intro b i;have:YV (Yn E (κ.sl k))=some b:=i;rw[g]at this;cases this
  ·rename_i k' g;split at h
   ·rename_i R' r v y;have z:MO.own R' r (match fr with|false=>false|true=>v)=MO.own R xs fr:=by cases fr<;>simpa[Vl]using h
    simp only[MO.own.injEq]at z;obtain⟨rfl,p,o,D⟩:=z;cases p;cases o;refine⟨?_,.inr ⟨k',_,by simp[XT,g],y,?_,?_⟩⟩
    ·show kh _ _ _ _ (Yn E (κ.sl k));rw[g];exact n.hM k' _ y
    ·intro b i;have:YV (Yn E (κ.sl k))=some b:=i;rw[g]at this;exact this
    ·intro j;have j:fr=true:=j;subst j;exact D
   ·cases h
  ·cases h
 |abs A=>
  simp only[W0]at h;split at h
  ·rename_i k' g;exact⟨n.hM k' _ h,.inr ⟨k',_,by simp[XT,g],h,fun b i=>i,fun j=>by cases j⟩⟩
  ·cases h
 |av A=>
  simp only[W0]at h;split at h
  ·rename_i k' g;refine⟨?_,.inr ⟨k',_,by simp[XT,g],h,?_,fun j=>by cases j⟩⟩
   ·show A.ok _ _ (Yn E (κ.sl k));rw[g];exact n.hM k' _ h
   ·intro b i;have:YV (Yn E (κ.sl k))=some b:=i;rw[g]at this;exact this
  ·cases h
 |buf sb ty=>
  simp only[W0]at h;split at h
  ·rename_i g;simp only[Vl,aR,MO.buf.injEq]at h;have⟨p,_⟩:=h;subst p;refine⟨?_,.inl ?_⟩
   ·show kq _ _ _ (Yn E (κ.sl k));rw[g];exact .inl ⟨rfl,rfl⟩
   ·intro b i;have:YV (Yn E (κ.sl k))=some b:=i;rw[g]at this;cases this
  ·rename_i k' g;refine⟨?_,.inr ⟨k',_,by simp[XT,g],h,?_,fun j=>by cases j⟩⟩
   ·show kq _ _ _ (Yn E (κ.sl k));rw[g];exact n.hM k' _ h
   ·intro b i;have:YV (Yn E (κ.sl k))=some b:=i;rw[g]at this;exact this
  ·cases h
 |gone=>exact⟨trivial,.inl fun b i=>i⟩
theorem ZfR{α:Type _}{f:α->Option Nat}:∀ {l:List α},(l.filterMap f).Nodup->∀x∈l,∀y∈l,∀j,f x=some j->f y=some j->x=y
 | [],_,x,e,_,_,_,_,_=>by cases e
 |z::r,h,x,e,y,m,j,h1,h2=>by
  cases g:f z with
  |none=>
   rw[List.filterMap_cons_none g]at h;rcases aV.1 e with rfl|e
   ·rw[g]at h1;cases h1
   ·rcases aV.1 m with rfl|m
    ·rw[g]at h2;cases h2
    ·exact ZfR h x e y m j h1 h2
  |some i=>
   rw[List.filterMap_cons_some g,cR]at h;have⟨p,v⟩:=h;rcases aV.1 e with q|n
   ·rcases aV.1 m with o|b
    ·rw[q,o]
    ·rw[q,g]at h1;exact absurd (eo.2 ⟨y,b,h2.trans h1.symm⟩) p
   ·rcases aV.1 m with o|b
    ·rw[o,g]at h2;exact absurd (eo.2 ⟨x,n,h1.trans h2.symm⟩) p
    ·exact ZfR v x n y b j h1 h2
theorem Zbx{α:Type _}:∀ {l:List (Nat×α)},(l.map (·.1)).Nodup->∀ {k:Nat} {v:α},(k,v)∈l->Yg l k=some v
  | [],_,_,_,h=>by cases h
  | (k',v')::r,hn,k,v,h=>by
    simp only[aI,cR]at hn;rw[YF];rcases aV.1 h with e|h
    · cases e;simp
    · have:k'≠k:=fun e=>hn.1 (by rw[e];exact aM.2 ⟨_,h,rfl⟩);rw[mE this];exact Zbx hn.2 h
theorem Emb.disj(h:Emb s κ V M)(i:ky X s E F w a){k':Nat}{m m':MO}(x:(k,m)∈M)(y:(k',m')∈M)(l:k≠k')(b:Nat)(z:m.fp (κ.env E) k b) :
  ¬ m'.fp (κ.env E) k' b:=by
 intro g;have⟨_,o⟩:=h.memM i x;have⟨_,p⟩:=h.memM i y;rcases o with o|⟨j,n,B,C,D,_⟩
 ·exact o b z
 ·rcases p with p|⟨A,G,q,r,v,_⟩
  ·exact p b g
  ·by_cases e:j=A
   ·subst e;have:=ZfR (P9 h.hd) _ x _ y j B q;simp only[Zr]at this;exact l this.1
   ·exact i.dis j A n G C r e b (D b z) (v b g)
theorem WP.sub{lL:List Item}{t:St}(l:List (Nat×SC))(k:WP X lL t)
    (hL:t.L.map (fun p=>Yg s.L p.1)=t.L.map (fun p=>some (W3 ⟨l,0,0⟩ p.2)))
    (hV:t.V.map (fun p=>Uy s ⟨l,0,0⟩ p.1 p.2)=t.V.map (fun p=>some p.2))
    (hM:t.M.map (fun p=>W0 s ⟨l,0,0⟩ p.1 p.2)=t.M.map (fun p=>some (Vl ⟨l,0,0⟩ p.2)))
    (H:(t.L.all (fun p=>Ui ⟨l,0,0⟩ p.2) && XL (t.M.filterMap fun p=>XT ⟨l,0,0⟩ p.1 p.2) && XL (t.M.map (·.1)) && Qj t.L t.M t.V t.nx && l.all (fun p=>aY X.nk p.1 && p.2.kbb s.nx) && aY X.nk t.nx)=true) :
    WP X lL s:=by
  simp only[Zc]at H;obtain⟨⟨⟨⟨⟨R,S⟩,T⟩,U⟩,K⟩,W⟩:=H;generalize hκ:(⟨l,0,0⟩:kz)=κ at *;have x:∀j,κ.sh j=j:=by intro j;subst hκ;simp[kz.sh]
  have r:κ.l=l:=by subst hκ;rfl
  have y:Emb s κ t.V t.M:=⟨hV,hM,S,T⟩
  intro E F w a i;refine k (κ.env E) F w a ?_;exact {
    wf:=ZbW U
    nk:=Ze W
    defers:=i.defers
    size:=i.size
    hL:=fun d v h=>by have N:=Xk h;have e:=Uh hL _ N;simp only[]at e;rw[ZaR κ E (aH.1 R _ N)];exact i.hL d _ e
    hV:=fun j f h=>y.factV i (Xk h)
    hM:=fun j m h=>(y.memM i (Xk h)).1
    dis:=fun j z m m' h O A b q=>y.disj i (Xk h) (Xk O) A b q
    mF:=fun j m h b q=>by
      have⟨_,g⟩:=y.memM i (Xk h);rcases g with g|⟨z,n,_,C,D,_⟩
      · exact absurd q (g b)
      · exact i.mF z n C b (D b q)
    fresh:=fun j m h B b q=>by
      have⟨_,g⟩:=y.memM i (Xk h);rcases g with g|⟨z,n,_,C,D,G⟩
      · exact absurd q (g b)
      · exact i.fresh z n C (G B) b (D b q)
    hF:=i.hF
    hF0:=i.hF0
    hF1:=i.hF1
    hn0:=i.hn0
    hZ:=i.hZ
    ext:=i.ext
    link:=fun j I=>by
      have o:Yg κ.l j=none:=by
        rw[r];cases r:Yg l j with
        |none=>rfl
        |some c=>
          have:=aH.1 K _ (Xk r);simp only[Zc]at this;exact absurd (Ze this.1) (Nat.not_le.2 I)
      have:=i.link j I;exact⟨by simp[kz.env,kz.sl,o,Yn,this.1,x],by simp[kz.env,o,this.2,x]⟩
    one:=fun j=>by
      show (Yn E (κ.sl j)).oneCell'=true;unfold kz.sl;rw[r];cases r:Yg l j with
      |none=>exact i.one _
      |some c=>
        have:=aH.1 K _ (Xk r);simp only[Zc]at this;exact QQ i.one (SC.kbb_ok this.2) }
end
end
end Go.Kx
section
namespace Go.Kx
variable [kv]
structure Ct where
 nk:Nat
 args:List SV
 V0:List (Nat×VF)
 M0:List (Nat×MO)
 nr:Nat
 res:SV
 V1:List (Nat×VF)
 M1:List (Nat×MO)
structure Ct.Pre (c:Ct) (E:lC) (F:YJ) (w:lQ):Prop where
 one:∀k,(E.ρ k).oneCell'=true
 hF:∀b,F b->b<w.heap.size
 V:∀k f,Yg c.V0 k=some f->f.ok E F w (E.ρ k)
 M:∀k m,Yg c.M0 k=some m->m.ok E F w k
 dis:∀k k' m m',Yg c.M0 k=some m->Yg c.M0 k'=some m'->k≠k'->∀b,m.fp E k b->¬ m'.fp E k' b
 mF:∀k m,Yg c.M0 k=some m->∀b,m.fp E k b->¬ F b/\b<w.heap.size
def Ct.fp0(c:Ct)(E:lC)(b:Nat):Prop:=∃k m,Yg c.M0 k=some m/\m.fp E k b
structure Ct.Post (c:Ct) (E:lC) (F:YJ) (w:lQ) (E':lC) (F':YJ) (w':lQ):Prop where
 env:E.Eqb c.nk E'
 one:∀k,(E'.ρ k).oneCell'=true
 V:∀k f,Yg c.V1 k=some f->f.ok E' F' w' (E'.ρ k)
 M:∀k m,Yg c.M1 k=some m->m.ok E' F' w' k
 dis:∀k k' m m',Yg c.M1 k=some m->Yg c.M1 k'=some m'->k≠k'->∀b,m.fp E' k b->¬ m'.fp E' k' b
 mF:∀k m,Yg c.M1 k=some m->∀b,m.fp E' k b->¬ F' b/\b<w'.heap.size/\(c.fp0 E b\/w.heap.size<=b)
 fresh:∀k m,Yg c.M1 k=some m->m.isFresh=true->∀b,m.fp E' k b->w.heap.size<=b
 F0:∀b,F b->F' b
 F1:∀b,F' b->F b\/w.heap.size<=b
 Fs:∀b,F' b->b<w'.heap.size
 ext:Ext (fun b=>b<w.heap.size/\¬ c.fp0 E b) w w'
def Ly(P:lU)(f:lX):Prop:=∃fn,P.funcs[f]?=some fn/\(fn.name == "runtime.NumGoroutine")=false/\fn.body.isNone=false
structure Fn (P:lU) (f:lX) (c:Ct):Prop where
 callable:Ly P f
 calls:∀E F w,c.Pre E F w->Calls P f (c.args.map (Yt E)).toArray w fun e w'=>∃E' F',e=.returned (Yt E' c.res)/\c.Post E F w E' F' w'
def Ct.ctx(c:Ct)(P:lU)(f:lX)(fn:Func)(E:lC)(F:YJ)(w:lQ):lB where
 P:=P
 f:=f
 fn:=fn
 nk:=c.nk
 E0:=E
 F0:=F
 w0:=w
 n0:=w.heap.size
 Z:=fun b=>b<w.heap.size/\¬ c.fp0 E b
 post:=fun v w'=>∃E' F',v=Yt E' c.res/\c.Post E F w E' F' w'
def Q4(n:Nat):List SV->List (Nat×SV)
 | []=>[]
 |v::r=>(n,v)::Q4 (n+1) r
theorem ZkD:∀(l:List SV) (n d:Nat) (v:SV),Yg (Q4 n l) d=some v->∃i,d=n+i/\l[i]?=some v
 | [],n,d,v,h=>by cases h
 |x::r,n,d,v,h=>by
  rw[Q4,YF]at h;split at h
  ·rename_i e;cases h;exact⟨0,by omega,rfl⟩
  ·have⟨i,hi,b⟩:=ZkD r (n+1) d v h;exact⟨i+1,by omega,by simpa using b⟩
theorem Fn.intro{P:lU}{f:lX}{c:Ct}(fn:Func)(body:Code)(B:P.funcs[f]?=some fn)(C:fn.body=some body)(G:(fn.name == "runtime.NumGoroutine")=false)
  (D:(Qj (Q4 0 c.args) c.M0 c.V0 c.nk && c.M0.all (fun p=> !p.2.isFresh) && aY c.args.length fn.ntmps)=true)
  (h:∀E F w,WP (c.ctx P f fn E F w) [.code body] ⟨Q4 0 c.args,c.M0,c.V0,c.nk⟩):Fn P f c:=by
 simp only[Zc]at D;obtain⟨⟨H,w2⟩,I⟩:=D;refine⟨⟨fn,B,G,by rw[C];rfl⟩,fun E F w g=>?_⟩;intro cs
 let b:l7:={ (default:l7) with fn:=f,kind:=.normal,roundOf:=none }
 let a:lZ:={ tmps:=(c.args.map (Yt E)).toArray++cQ (fn.ntmps-(c.args.map (Yt E)).toArray.size) undef,defers:=[] }
 have e:Frame.enter P f (c.args.map (Yt E)).toArray .normal=b.atR a [.code body]:=by simp[Frame.enter,Frame.atR,B,C,b,a]
 have R:=Ze I;have S:ky (c.ctx P f fn E F w) ⟨Q4 0 c.args,c.M0,c.V0,c.nk⟩ E F w a:={
  wf:=ZbW H
  nk:=Zq _
  defers:=rfl
  size:=by show (_++_:Array lR).size=fn.ntmps;simp;omega
  hL:=fun d v q=>by obtain⟨i,rfl,hi⟩:=ZkD _ _ _ _ q;show (_++_:Array lR)[0+i]?=_;have A:i<c.args.length:=(aE.1 hi).1;rw[aw,Array.getElem?_append_left (by simpa using A)];simp[hi]
  hV:=g.V
  hM:=g.M
  dis:=g.dis
  mF:=fun k m n r j=>⟨(g.mF k m n r j).1,fun x=>x.2 ⟨k,m,n,j⟩,(g.mF k m n r j).2⟩
  fresh:=fun k m n y=>by have:=aH.1 w2 _ (Xk n);simp[y]at this
  hF:=g.hF
  hF0:=fun _ h=>h
  hF1:=fun _ h=>.inl h
  hn0:=Zq _
  hZ:=fun r x=>x.1
  ext:=Ext.refl _ _
  link:=lC.Eqb.refl _ _
  one:=g.one }
 obtain⟨v,w',fr,K,o,z,q⟩:=h E F w E F w a S b cs rfl rfl rfl;rw[<-e]at o;have⟨L,N,O,l⟩:=K;exact⟨.returned v,w',fr,⟨L,N,by rw[O],l⟩,o,z,q⟩
def DM(tt:List (Nat×TD))(s:St):ResultVar->Option SV
 | .tmp t=>Yg s.L t
 | .cell a t=>match Yg tt t with
  |some d=>match Yg s.L a with
   |some (.c (.bp k off))=>match Yg s.M k with
    |some (.box cs _)=>Uf d off cs
    |_=>none
   |_=>none
  |none=>none
def Zgu:SV->Option (SC⊕List SC)
 | .c x=>some (.inl x)
 | .a cs=>some (.inr cs)
 |_=>none
def HE(tt:List (Nat×TD))(s:St):List ResultVar->Option (List SV)
 | []=>some []
 |r::rs=>match DM tt s r with
  |some v=>match HE tt s rs with
   |some vs=>some (v::vs)
   |none=>none
  |none=>none
def HQ:List SV->Option (List (SC⊕List SC))
 | []=>some []
 |v::vs=>match Zgu v with
  |some x=>match HQ vs with
   |some xs=>some (x::xs)
   |none=>none
  |none=>none
def Rh(tt:List (Nat×TD))(s:St)(rs:List ResultVar):Option SV:=
 match HE tt s rs with
 |some [v]=>some v
 |some vs=>match HQ vs with
  |some xs=>some (.t xs)
  |none=>none
 |none=>none
section
variable {X:lB}{s:St}{E:lC}{F:YJ}{w:lQ}{a:lZ}{tt:List (Nat×TD)}{k:List Item}
def HF(tmps:Array lR):ResultVar->Sem lR
 | .tmp t=>pure (tmps.getD t undef)
 | .cell ad t=>do loadVar t (<-asAddr (tmps.getD ad undef))
theorem ZtK(fn:Func)(tmps:Array lR):results fn tmps=(do
  let vs <-fn.results.mapM (HF tmps)
  pure (if h:vs.size=1 then vs[0] else .tuple vs)):=by unfold results;congr 1
theorem ZtJ(lO:kf X.P tt)(e:ky X s E F w a){r:ResultVar}{v:SV}(h:DM tt s r=some v) :
  (HF a.tmps r).run X.P w=.ok (Yt E v) w:=by
 cases r with
 |tmp t=>
  simp only[DM]at h;simp only[HF,Zbe (e.hL t v h),aJ]
 |cell q t=>
  simp only[DM]at h;cases g:Yg tt t with
  |none=>rw[g]at h;cases h
  |some d=>
   rw[g]at h;simp only[]at h;split at h
   ·rename_i j off m;split at h
    ·rename_i cs n o;have p:w.heap[E.β j]?=some (.cells (cs.map (Yn E)).toArray n (0,0)):=e.hM j _ o;have b:=DP (E:=E) (base:=0) (lO.get g) p (cs:=cs) (fun i x l=>by simp[l]) h;rw[aw]at b;simp only[HF,Zbe (e.hL q _ m),Yt,Yn,asAddr,aG,aJ,aD,b]
    ·cases h
   ·cases h
theorem ZlI(lO:kf X.P tt)(j:ky X s E F w a):∀ {b:List ResultVar} {e:List SV},HE tt s b=some e ->
  (b.mapM (HF a.tmps)).run X.P w=.ok (e.map (Yt E)) w
 | [],e,h=>by cases h;rfl
 |r::b,e,h=>by
  unfold HE at h;cases g:DM tt s r with
  |none=>rw[g]at h;cases h
  |some v=>
   rw[g]at h;simp only[]at h;cases i:HE tt s b with
   |none=>rw[i]at h;cases h
   |some l=>
    rw[i]at h;cases h;rw[List.mapM_cons];simp only[aG,ZtJ lO j g,aD,ZlI lO j i,aJ,aI]
theorem Zmq:∀ {e:List SV} {xs:List (SC⊕List SC)},HQ e=some xs->e.map (Yt E)=xs.map (Sh E)
 | [],xs,h=>by cases h;rfl
 |v::e,xs,h=>by
  unfold HQ at h;cases b:Zgu v with
  |none=>rw[b]at h;cases h
  |some x=>
   rw[b]at h;simp only[]at h;cases g:HQ e with
   |none=>rw[g]at h;cases h
   |some ys=>
    rw[g]at h;cases h;simp only[aI,Zmq g];congr 1;unfold Zgu at b;split at b<;>cases b<;>rfl
theorem HG(lO:kf X.P tt)(l:ky X s E F w a){fn:Func}{v:SV}(h:Rh tt s fn.results.toList=some v) :
  (results fn a.tmps).run X.P w=.ok (Yt E v) w:=by
 unfold Rh at h;rw[ZtK];have key:∀e,HE tt s fn.results.toList=some e ->
   (fn.results.mapM (HF a.tmps)).run X.P w=.ok (e.map (Yt E)).toArray w:=by intro e m;have:=ZlI lO l m;rw[<-dc (xs:=fn.results),List.mapM_toArray];simp only[Sem.run_map,this,aD]
 split at h
 ·rename_i j g;cases h;simp only[aG];rw[key _ g];rfl
 ·rename_i e i g;cases b:HQ e with
  |none=>rw[b]at h;cases h
  |some xs=>
   rw[b]at h;cases h;simp only[aG];rw[key _ g];simp only[aD,aJ];rw[dif_neg]
   ·simp only[Yt,Zmq b]
   ·simp only[List.size_toArray,aN];intro n;obtain⟨j,rfl⟩:=List.length_eq_one_iff.1 n;exact i j rfl
 ·cases h
theorem ZlT{v:lR}(g:X.P.funcs[X.f]?=some X.fn)(h:(results X.fn a.tmps).run X.P w=.ok v w)(i:a.defers=[])(j:X.post v w) :
  ku X.P X.f none X.post a (.code .ret::k) w:=fun b cs e l m=>
 ⟨v,w,{ b.atR a (.code .ret::k) with mode:=.returning },j,.one (stepR_ret m),e,rfl,i,l,X.fn,by show X.P.funcs[b.fn]?=_;rw[e];exact g,h⟩
theorem ZlQ{v:lR}(g:X.P.funcs[X.f]?=some X.fn)(h:(results X.fn a.tmps).run X.P w=.ok v w)(i:a.defers=[])(j:X.post v w) :
  ku X.P X.f none X.post a [] w:=fun b cs e l m=>
 ⟨v,w,{ b.atR a []with mode:=.returning },j,.one (stepR_end m),e,rfl,i,l,X.fn,by show X.P.funcs[b.fn]?=_;rw[e];exact g,h⟩
end
section
variable {c:Ct}{P:lU}{f:lX}{fn:Func}{E0:lC}{F0:YJ}{w0:lQ}{s:St}{tt:List (Nat×TD)}
theorem ZbI{E:lC}{F:YJ}{w:lQ}{a:lZ}(e:ky (c.ctx P f fn E0 F0 w0) s E F w a)(l:List (Nat×SC)){v:SV}
    (I:some v=some (W3 ⟨l,0,0⟩ c.res))
    (hV:c.V1.map (fun p=>Uy s ⟨l,0,0⟩ p.1 p.2)=c.V1.map (fun p=>some p.2))
    (hM:c.M1.map (fun p=>W0 s ⟨l,0,0⟩ p.1 p.2)=c.M1.map (fun p=>some (Vl ⟨l,0,0⟩ p.2)))
    (K:(Ui ⟨l,0,0⟩ c.res && XL (c.M1.filterMap fun p=>XT ⟨l,0,0⟩ p.1 p.2) && XL (c.M1.map (·.1)) && l.all (fun p=>aY c.nk p.1 && p.2.kbb s.nx))=true) :
    (c.ctx P f fn E0 F0 w0).post (Yt E v) w:=by
  simp only[Zc]at K;obtain⟨⟨⟨S,T⟩,U⟩,N⟩:=K;have q:(⟨l,0,0⟩:kz).l=l:=rfl;generalize hκ:(⟨l,0,0⟩:kz)=κ at *;have r:∀j,κ.sh j=j:=by intro j;subst hκ;simp[kz.sh]
  have y:Emb s κ c.V1 c.M1:=⟨hV,hM,T,U⟩
  refine⟨κ.env E,F,?_,?_⟩
  · simp only[aR]at I;rw[I,ZaR κ E S]
  · exact {
      env:=fun j L=>by
        have i:Yg κ.l j=none:=by
          rw[q];cases q:Yg l j with
          |none=>rfl
          |some x=>
            have:=aH.1 N _ (Xk q);simp only[Zc]at this;exact absurd (Ze this.1) (Nat.not_le.2 L)
        have:=e.link j L;exact⟨by simp[kz.env,kz.sl,i,Yn,r];exact this.1,by simp[kz.env,i,r];exact this.2⟩
      one:=fun j=>by
        show (Yn E (κ.sl j)).oneCell'=true;unfold kz.sl;rw[q];cases q:Yg l j with
        |none=>exact e.one _
        |some x=>
          have:=aH.1 N _ (Xk q);simp only[Zc]at this;exact QQ e.one (SC.kbb_ok this.2)
      V:=fun j g h=>y.factV e (Xk h)
      M:=fun j m h=>(y.memM e (Xk h)).1
      dis:=fun j z m m' h R A b o=>y.disj e (Xk h) (Xk R) A b o
      mF:=fun j m h b o=>by
        have⟨_,g⟩:=y.memM e (Xk h);rcases g with g|⟨z,n,_,D,G,_⟩
        · exact absurd o (g b)
        · have:=e.mF z n D b (G b o);refine⟨this.1,this.2.2,?_⟩;by_cases O:b<w0.heap.size
          · left;exact bx fun B=>this.2.1 ⟨O,B⟩
          · exact .inr (cv.1 O)
      fresh:=fun j m h C b o=>by
        have⟨_,g⟩:=y.memM e (Xk h);rcases g with g|⟨z,n,_,D,G,H⟩
        · exact absurd o (g b)
        · exact e.fresh z n D (H C) b (G b o)
      F0:=e.hF0
      F1:=fun b o=>(e.hF1 b o).imp id And.left
      Fs:=e.hF
      ext:=e.ext }
theorem WP.ret{k:List Item}(lO:kf P tt)(e:P.funcs[f]?=some fn)(l:List (Nat×SC))(g:Rh tt s fn.results.toList=some (W3 ⟨l,0,0⟩ c.res))
    (hV:c.V1.map (fun p=>Uy s ⟨l,0,0⟩ p.1 p.2)=c.V1.map (fun p=>some p.2))
    (hM:c.M1.map (fun p=>W0 s ⟨l,0,0⟩ p.1 p.2)=c.M1.map (fun p=>some (Vl ⟨l,0,0⟩ p.2)))
    (h:(Ui ⟨l,0,0⟩ c.res && XL (c.M1.filterMap fun p=>XT ⟨l,0,0⟩ p.1 p.2) && XL (c.M1.map (·.1)) && l.all (fun p=>aY c.nk p.1 && p.2.kbb s.nx))=true) :
    WP (c.ctx P f fn E0 F0 w0) (.code .ret::k) s:=fun _ _ _ _ b=>
  ZlT e (HG (X:=c.ctx P f fn E0 F0 w0) lO b g) b.defers (ZbI b l rfl hV hM h)
theorem WP.fin(lO:kf P tt)(e:P.funcs[f]?=some fn)(l:List (Nat×SC))(g:Rh tt s fn.results.toList=some (W3 ⟨l,0,0⟩ c.res))
    (hV:c.V1.map (fun p=>Uy s ⟨l,0,0⟩ p.1 p.2)=c.V1.map (fun p=>some p.2))
    (hM:c.M1.map (fun p=>W0 s ⟨l,0,0⟩ p.1 p.2)=c.M1.map (fun p=>some (Vl ⟨l,0,0⟩ p.2)))
    (h:(Ui ⟨l,0,0⟩ c.res && XL (c.M1.filterMap fun p=>XT ⟨l,0,0⟩ p.1 p.2) && XL (c.M1.map (·.1)) && l.all (fun p=>aY c.nk p.1 && p.2.kbb s.nx))=true) :
    WP (c.ctx P f fn E0 F0 w0) [] s:=fun _ _ _ _ b=>
  ZlQ e (HG (X:=c.ctx P f fn E0 F0 w0) lO b g) b.defers (ZbI b l rfl hV hM h)
end
end Go.Kx
end
section
namespace Go.Kx
variable [kv]
def k6.Flat{α:Type}(R:k6 α):Prop:=∀F w F' w' x vs,R.rep F w x vs->R.rep F' w' x vs
def UV:List (Nat×MO)->Prop
 | []=>True
 | (_,.own R _ _)::r=>R.Flat/\UV r
 | (_,.box _ _)::r=>UV r
 | (_,.gone)::r=>UV r
 | (_,.abs _)::_|(_,.buf _ _)::_|(_,.av _)::_=>False
theorem Wi{α:Type _}(b e:List (Nat×α))(k:Nat):Yg (b++e) k=match Yg b k with|some v=>some v|none=>Yg e k:=by
 induction b with
 |nil=>rfl
 |cons p b g=>
  have⟨j,v⟩:=p;rw[bJ,YF,YF];split
  ·rfl
  ·exact g
theorem Zbq{α:Type _}:∀ {l:List (Nat×α)} {k:Nat},Yg l k=none->∀v,(k,v) ∉ l
 | [],_,_,_=>by simp
 | (j,u)::r,k,h,v=>by
  rw[YF]at h;split at h
  ·cases h
  ·rename_i g;intro b;rcases aV.1 b with e|b
   ·cases e;exact g rfl
   ·exact Zbq h v b
def Q2(k:Nat)(l:List Nat):Bool:=l.any (aF k)
theorem ZkJ{k:Nat}{l:List Nat}:Q2 k l=true↔k∈l:=by
 simp only[Q2,List.any_eq_true];constructor
 ·rintro⟨x,b,h⟩;rw[Zd h];exact b
 ·intro h;exact⟨k,h,by simp⟩
def PV(s:St)(κ:kz)(bor:List Nat)(k:Nat):VF->Option VF
 | .sl R xs=>match κ.sl k with
  | .nil=>some (.sl R [])
  | .sl k'=>bif Q2 k' bor then (match Yg s.M k' with
    |some (.own R' xs' _)=>some (.sl R' xs')
    |_=>none)
   else (match Yg s.V k' with
    |some (.sl R' xs')=>some (.sl R' xs')
    |_=>none)
  |_=>let _:=xs;none
 | .fn _=>match κ.sl k with
  | .sl k'=>Yg s.V k'
  |_=>none
 |_=>none
def He(s:St)(j:Nat):Bool:=match Yg s.M j with
 |some (.own _ _ fr)=>fr
 |_=>false
def Vi(κ:kz)(k:Nat):MO->Option Nat
 | .gone=>match κ.sl k with
  | .sl k'=>some k'
  |_=>none
 |m=>XT κ k m
def RA(s:St)(κ:kz)(c:Ct):Bool:=c.M0.all fun p=>match p.2 with
 | .own _ _ _=>match κ.sl p.1 with
  | .sl j=>He s j
  | .nil=>true
  |_=>false
 | .box _ _=>match Yg c.M1 p.1 with
  |some (.box _ _)=>aO p.1 c.nk
  |_=>false
 | .av _=>match Yg c.M1 p.1 with
  |some (.av _)=>aO p.1 c.nk
  |_=>false
 |_=>false
def Tp(s:St)(κ:kz)(af:Bool)(nk k:Nat):MO->MO
 | .box cs t=>.box (cs.map (Wa κ)) t
 | .own R xs fr=>.own R xs (bif aO k nk then (match κ.sl k with | .sl j=>He s j|_=>false) else (fr || af))
 |m=>m
def MO.isGone:MO->Bool
 | .gone=>true
 |_=>false
def ZfX:Option Nat->Option Nat->Bool
 |some a,some b=>aF a b
 |none,none=>true
 |_,_=>false
theorem Zs4{a b:Option Nat}(h:ZfX a b=true):a=b:=by
 cases a<;>cases b<;>simp only[ZfX]at h
 ·rfl
 ·cases h
 ·cases h
 ·rw[Zd h]
def VF.plain:VF->Bool
 | .sl _ _ | .fn _=>true
 |_=>false
def okM(κ:kz):MO->Bool
 | .box cs _=>cs.all (TJ κ)
 |_=>true
def LQ(s:St)(c:Ct)(l:List (Nat×SC))(bor:List Nat):Bool:=
  (cO c.nk).all (fun k=>(Yg l k).isSome) && l.all (fun p=>aO p.1 c.nk && p.2.kbb s.nx) &&
  XL ((c.M0.filterMap fun p=>XT ⟨l,c.nk,s.nx⟩ p.1 p.2)++bor) && XL (c.M0.map (·.1)) &&
  c.M0.all (fun p=>match Yg c.M1 p.1 with|some m=>ZfX (Vi ⟨l,c.nk,s.nx⟩ p.1 m) (XT ⟨l,c.nk,s.nx⟩ p.1 p.2)|none=>false) &&
  c.M1.all (fun p=>((Vi ⟨l,c.nk,s.nx⟩ p.1 p.2).isSome || p.2.isGone) && aO p.1 c.nr && p.2.kbb c.nr && okM ⟨l,c.nk,s.nx⟩ p.2 && (aY c.nk p.1 || Q2 p.1 (c.M0.map (·.1)))) && XL (c.M1.map (·.1)) &&
  XL (c.M1.filterMap fun p=>Vi ⟨l,c.nk,s.nx⟩ p.1 p.2) &&
  c.V1.all (fun p=>aY c.nk p.1 && aO p.1 c.nr && p.2.plain) && XL (c.V1.map (·.1)) &&
  Ui ⟨l,c.nk,s.nx⟩ c.res && c.res.kbb c.nr && aY c.nk c.nr && c.args.all (Ui ⟨l,c.nk,s.nx⟩)
def ZeJ(s:St)(c:Ct)(l:List (Nat×SC))(d:Nat):St:=
 ⟨(d,W3 ⟨l,c.nk,s.nx⟩ c.res)::s.L,(c.M1.filterMap fun p=>(Vi ⟨l,c.nk,s.nx⟩ p.1 p.2).map fun j=>(j,Tp s ⟨l,c.nk,s.nx⟩ (RA s ⟨l,c.nk,s.nx⟩ c) c.nk p.1 p.2))++s.M,
  (c.V1.map fun p=>((⟨l,c.nk,s.nx⟩:kz).sh p.1,p.2))++s.V,s.nx+(c.nr-c.nk)⟩
theorem SC.ren_kb{κ:kz}{n nx m:Nat}(q:∀k c,Yg κ.l k=some c->SC.kb nx c)(g:nx<=m)(o:∀k,k<n->Yg κ.l k=none->κ.sh k<m):∀ {c:SC},c.kb n->(Wa κ c).kb m
 | .sl k,h=>by
  show (κ.sl k).kb m;unfold kz.sl;cases e:Yg κ.l k with
  |some c=>exact (q k c e).mono g
  |none=>exact o k h e
 | .px k off,h=>by
  have:(κ.sl k).kb m:=by
   unfold kz.sl;cases e:Yg κ.l k with
   |some c=>exact (q k c e).mono g
   |none=>exact o k h e
  simp only[Wa];split
  ·rename_i k' e;rw[e]at this;exact this
  ·trivial
 | .bp k off,h=>by
  simp only[Wa];split
  ·rename_i k' e;exact SC.kb.mono g (show SC.kb nx (.bp k' off) from q k (.bp k' 0) e)
  ·trivial
  ·rename_i e;exact o k h e
 | .cl f fs ks,h=>by
  have key:∀k,k<n->κ.okB k=true->κ.bk k<m:=fun k e r=>by
   unfold kz.okB at r;unfold kz.bk;split at r
   ·rename_i k' x;exact SC.kb.mono g (show SC.kb nx (.bp k' 0) from q k (.bp k' 0) x)
   ·cases r
   ·rename_i y;exact o k e y
  simp only[Wa];cases z:(fs.all κ.okB && ks.all κ.okB) with
  |false=>trivial
  |true=>
   simp only[Zc]at z;refine⟨fun k e=>?_,fun k e=>?_⟩
   ·obtain⟨j,p,rfl⟩:=aM.1 e;exact key j (h.1 j p) (aH.1 z.1 j p)
   ·obtain⟨j,p,rfl⟩:=aM.1 e;exact key j (h.2 j p) (aH.1 z.2 j p)
 | .v _,h=>h
 | .sp _ _ _ _,_=>trivial
 | .i _ _,_ | .b _,_ | .s _,_ | .nil,_=>trivial
section
variable {X:lB}{s:St}{E:lC}{F:YJ}{w:lQ}{a:lZ}
theorem ZpR(n:ky X s E F w a){κ:kz}{e:List Nat}{V:List (Nat×VF)}(hV:V.map (fun p=>PV s κ e p.1 p.2)=V.map (fun p=>some p.2)){k:Nat}{f:VF}(x:(k,f)∈V)
  {i:YJ} (hF:∀b,F b->i b) (hB:∀k' m,k'∈e->Yg s.M k'=some m->∀b,m.fp E k' b->i b):f.ok (κ.env E) i w ((κ.env E).ρ k):=by
 have h:=Uh hV _ x;simp only[]at h;have v:X3 F w i w:=⟨hF,fun _ _=>rfl⟩
 show f.ok _ i w (Yn E (κ.sl k));cases f with
 |sl R xs=>
  simp only[PV]at h;split at h
  ·rename_i g;simp only[aR,VF.sl.injEq]at h;have⟨_,_,o⟩:=h;cases o;rw[g];exact .inl ⟨rfl,_,_,rfl⟩
  ·rename_i k' g;cases q:Q2 k' e with
   |true=>
    rw[q]at h;simp only[l9]at h;split at h
    ·rename_i R' C fr l;simp only[aR,VF.sl.injEq]at h;obtain⟨rfl,y,o⟩:=h;cases y;cases o;rw[g];have j:=n.hM k' _ l;simp only[MO.ok]at j;rcases j with j|⟨b,off,cap,arr,ty,fz,r,z,_,_,A,B⟩
     ·exact .inl ⟨j.1,_,_,j.2⟩
     ·refine .inr ⟨b,off,cap,arr,ty,fz,r,z,?_,A,B.mono v⟩;refine hB k' _ (ZkJ.1 q) l b ?_;show YV (E.ρ k')=some b;rw[r];rfl
    ·cases h
   |false=>
    rw[q]at h;simp only[lf]at h;split at h
    ·rename_i l;rw[h]at l;rw[g];exact (n.hV k' _ l).mono v
    ·cases h
  ·cases h
 |fn Φ=>
  simp only[PV]at h;split at h
  ·rename_i k' g;rw[g];exact n.hV k' _ h
  ·cases h
 |pl _=>cases h
 |el _ _=>cases h
 |vw _ _ _ _=>cases h
end
section
variable {X:lB}{s:St}{E E2:lC}{F:YJ}{w:lQ}{a:lZ}{κ:kz}
variable {j k:Nat}
theorem S8{m:MO}(b:XT κ k m=some j):(∀cs t,m=.box cs t->(κ.env E2).β k=E2.β j)/\((∀cs t,m≠.box cs t)->(κ.env E2).ρ k=E2.ρ j):=by
 refine⟨?_,?_⟩
 ·rintro cs t rfl;simp only[XT]at b;split at b
  ·rename_i k' o e;cases b;simp only[Wa]at e;split at e
   ·rename_i i g;cases e;simp only[kz.env,g]
   ·cases e
   ·rename_i g;cases e;simp only[kz.env,g]
  ·cases b
 ·intro h;cases m with
  |box cs t=>exact absurd rfl (h cs t)
  |own R xs fr=>
   simp only[XT]at b;split at b
   ·rename_i k' e;cases b;simp only[kz.env,e,Yn]
   ·cases b
  |abs A=>
   simp only[XT]at b;split at b
   ·rename_i k' e;cases b;simp only[kz.env,e,Yn]
   ·cases b
  |av _=>
   simp only[XT]at b;split at b
   ·rename_i k' e;cases b;simp only[kz.env,e,Yn]
   ·cases b
  |buf _ _=>
   simp only[XT]at b;split at b
   ·rename_i k' e;cases b;simp only[kz.env,e,Yn]
   ·cases b
  |gone=>cases b
theorem Zod{nk:Nat}{g:Bool}{m:MO}(e:Vi κ k m=some j)(i:okM κ m=true)(b:m.ok (κ.env E2) F w k):(Tp s κ g nk k m).ok E2 F w j:=by
 cases m with
 |box cs t=>
  have:=(S8 (E2:=E2) (m:=.box cs t) e).1 cs t rfl;show w.heap[E2.β j]?=_;rw[<-this,<-ZaT κ E2 i];exact b
 |own R xs fr=>
  have:=(S8 (E2:=E2) (m:=.own R xs fr) e).2 (fun _ _ h=>by cases h);show kh R F w xs (E2.ρ j);rw[<-this];exact b
 |abs A=>exact b
 |buf sb ty=>
  have:=(S8 (E2:=E2) (m:=.buf sb ty) e).2 (fun _ _ h=>by cases h);show kq ty w sb (E2.ρ j);rw[<-this];exact b
 |av A=>
  have:=(S8 (E2:=E2) (m:=.av A) e).2 (fun _ _ h=>by cases h);show A.ok F w (E2.ρ j);rw[<-this];exact b
 |gone=>trivial
theorem Zoc{nk:Nat}{g:Bool}{m:MO}(e:Vi κ k m=some j){b:Nat}:(Tp s κ g nk k m).fp E2 j b↔m.fp (κ.env E2) k b:=by
 cases m with
 |box cs t=>
  have:=(S8 (E2:=E2) (m:=.box cs t) e).1 cs t rfl;show b=E2.β j↔b=(κ.env E2).β k;rw[this]
 |own R xs fr=>
  have:=(S8 (E2:=E2) (m:=.own R xs fr) e).2 (fun _ _ h=>by cases h);show YV (E2.ρ j)=some b↔YV ((κ.env E2).ρ k)=some b;rw[this]
 |abs A=>exact fv
 |buf sb ty=>
  have:=(S8 (E2:=E2) (m:=.buf sb ty) e).2 (fun _ _ h=>by cases h);show YV (E2.ρ j)=some b↔YV ((κ.env E2).ρ k)=some b;rw[this]
 |av A=>
  have:=(S8 (E2:=E2) (m:=.av A) e).2 (fun _ _ h=>by cases h);show YV (E2.ρ j)=some b↔YV ((κ.env E2).ρ k)=some b;rw[this]
 |gone=>exact fv
end
section
variable {X:lB}{s:St}{E:lC}{F:YJ}{w:lQ}{a:lZ}
def Ct.Bor(s:St)(E:lC)(F:YJ)(bor:List Nat)(b:Nat):Prop:=F b\/∃k m,k∈bor/\Yg s.M k=some m/\m.fp E k b
theorem ZsJ{b e:List Nat}(h:(b++e).Nodup):b.Nodup/\∀x∈b,x ∉ e:=by rw[List.nodup_append]at h;exact⟨h.1,fun x g i=>h.2.2 x g x i rfl⟩
theorem Zk2{x:Nat}:∀ {l:List Nat},x ∉ l->Hr x l=true
 | [],_=>rfl
 |y::r,h=>by
  simp only[Zl,not_or]at h;simp only[Hr,Zc,fF];refine⟨?_,Zk2 h.2⟩;cases b:aF x y with
  |false=>rfl
  |true=>exact absurd (Zd b) h.1
theorem Zk1:∀ {l:List Nat},l.Nodup->XL l=true
 | [],_=>rfl
 |x::r,h=>by rw[cR]at h;simp only[XL,Zc];exact⟨Zk2 h.1,Zk1 h.2⟩
theorem Zbb{E:lC}{F n:YJ}{w:lQ}{k:Nat}{m:MO}:∀ {M:List (Nat×MO)},UV M->(k,m)∈M->m.ok E F w k->m.ok E n w k
 | [],_,h,_=>by cases h
 | (k0,m0)::r,hf,hmem,g=>by
  rcases aV.1 hmem with e|j
  ·cases e;cases m with
   |box _ _=>exact g
   |own R xs fr=>
    have l:R.Flat:=hf.1;rcases g with g|⟨b,off,cap,arr,ty,fz,p,q,v,y,z,A⟩
    ·exact .inl g
    ·exact .inr ⟨b,off,cap,arr,ty,fz,p,q,v,y,z,fun i x o=>let ⟨vs,hr,hv⟩:=A i x o;⟨vs,l _ _ _ _ _ _ hr,hv⟩⟩
   |abs _=>exact absurd hf (by simp[UV])
   |av _=>exact absurd hf (by simp[UV])
   |buf _ _=>exact absurd hf (by simp[UV])
   |gone=>trivial
  ·cases m0 with
   |box _ _=>exact Zbb (M:=r) hf j g
   |own R xs fr=>exact Zbb (M:=r) hf.2 j g
   |abs _=>exact absurd hf (by simp[UV])
   |av _=>exact absurd hf (by simp[UV])
   |buf _ _=>exact absurd hf (by simp[UV])
   |gone=>exact Zbb (M:=r) hf j g
theorem ZoF(i:ky X s E F w a){c:Ct}{l:List (Nat×SC)}{bor:List Nat}{d:Nat}(hd:d<X.fn.ntmps)
  (hV:c.V0.map (fun p=>PV s ⟨l,c.nk,s.nx⟩ bor p.1 p.2)=c.V0.map (fun p=>some p.2))
  (hM:c.M0.map (fun p=>W0 s ⟨l,c.nk,s.nx⟩ p.1 p.2)=c.M0.map (fun p=>some (Vl ⟨l,c.nk,s.nx⟩ p.2)))
  (hflat:bor=[]\/(c.V1=[]/\UV c.M1)) (hc:LQ s c l bor=true) :
  c.Pre ((⟨l,c.nk,s.nx⟩:kz).env E) (Ct.Bor s E F bor) w /\
  (∀E' F' w',c.Post ((⟨l,c.nk,s.nx⟩:kz).env E) (Ct.Bor s E F bor) w E' F' w'->∃E2 G,ky X (ZeJ s c l d) E2 G w' (a.put (some d) (Yt E' c.res))):=by
 simp only[LQ,Zc]at hc;obtain⟨⟨⟨⟨⟨⟨⟨⟨⟨⟨⟨⟨⟨c1,c2⟩,c3⟩,c4⟩,c5⟩,c6⟩,c7⟩,c8⟩,c9⟩,c10⟩,c11⟩,c12⟩,c13⟩,_c14⟩:=hc;unfold ZeJ;have hlk:∀k x,Yg l k=some x->k<c.nk/\x.kb s.nx:=fun k x h=>by have:=aH.1 c2 _ (Xk h);simp only[Zc]at this;exact⟨Y9 this.1,SC.kbb_ok this.2⟩
 have hall:∀k,k<c.nk->∃x,Yg l k=some x:=fun k h=>by have:=aH.1 c1 k (List.mem_range.2 h);exact bC.1 this
 have hle:c.nk<=c.nr:=Ze c13;generalize hκ:(⟨l,c.nk,s.nx⟩:kz)=κ at *;have el:κ.l=l:=by subst hκ;rfl
 have esh:∀k,c.nk<=k->κ.sh k=s.nx+(k-c.nk):=by intro k O;subst hκ;simp[kz.sh,ai O]
 have hnone:∀k,c.nk<=k->Yg κ.l k=none:=fun k O=>by
  rw[el];cases h:Yg l k with
  |none=>rfl
  |some x=>exact absurd (hlk k x h).1 (cv.2 O)
 have⟨n0,nb⟩:=ZsJ (P9 c3);have heM:Emb s κ [] c.M0:=⟨rfl,hM,Zk1 n0,c4⟩
 -- the blocks of what goes in
 have hin:∀k m b,Yg c.M0 k=some m->m.fp (κ.env E) k b->∃k' m',XT κ k m=some k'/\Yg s.M k'=some m'/\m'.fp E k' b:=by
  intro k m b hm B;have⟨_,g⟩:=heM.memM i (Xk hm);rcases g with g|⟨k',m',D,r,Y,_⟩
  ·exact absurd B (g b)
  ·exact⟨k',m',D,r,Y b B⟩
 have hpre:c.Pre (κ.env E) (Ct.Bor s E F bor) w:={
  one:=fun k=>by
   show (Yn E (κ.sl k)).oneCell'=true;unfold kz.sl;rw[el];cases h:Yg l k with
   |none=>exact i.one _
   |some x=>exact QQ i.one (hlk k x h).2
  hF:=fun b B=>by
   rcases B with B|⟨k,m,_,hm,hf⟩
   ·exact i.hF b B
   ·exact (i.mF k m hm b hf).2.2
  V:=fun k f h=>ZpR i hV (Xk h) (fun b B=>.inl B) (fun k' m O hm b B=>.inr ⟨k',m,O,hm,B⟩)
  M:=fun k m h=>by have:=(heM.memM i (Xk h)).1;exact this.mono ⟨fun b B=>.inl B,fun _ _=>rfl⟩ (fun _ _=>rfl)
  dis:=fun k k' m m' h U hne b B=>heM.disj i (Xk h) (Xk U) hne b B
  mF:=fun k m h b B=>by
   have⟨k',m',D,r,Y⟩:=hin k m b h B;have:=i.mF k' m' r b Y;refine⟨?_,this.2.2⟩;rintro (hF|⟨j,m2,hj,hm2,hf⟩)
   ·exact this.1 hF
   ·have hne:k'≠j:=fun e=>by subst e;exact nb k' (eo.2 ⟨_,Xk h,D⟩) hj
    exact i.dis k' j m' m2 r hm2 hne b Y hf }
 refine⟨hpre,fun E' F' w' W=>?_⟩
 -- the environment behind
 let E2:lC:=⟨fun k=>if k<s.nx then E.ρ k else E'.ρ (c.nk+(k-s.nx)),fun k=>if k<s.nx then E.β k else E'.β (c.nk+(k-s.nx))⟩
 have N:E.Eqb s.nx E2:=fun k O=>⟨by simp[E2,O],by simp[E2,O]⟩
 have hE':E'.Eqb c.nr (κ.env E2):=fun k _=>by
  rcases ay k c.nk with O|O
  ·have⟨x,hx⟩:=hall k O;have hkb:=(hlk k x hx).2;have hpe:=W.env k O;have hx':Yg κ.l k=some x:=by rw[el];exact hx
   constructor
   ·rw[hpe.1];show Yn E2 (κ.sl k)=Yn E (κ.sl k);unfold kz.sl;rw[hx'];exact LZ N hkb
   ·rw[hpe.2];simp only[kz.env,hx'];split
    ·rename_i k' o he;cases he;have:k'<s.nx:=hkb;simp[E2,this]
    ·rfl
    ·rename_i he;cases he
  ·have D:=esh k O;have r:=hnone k O;have Y:c.nk+(k-c.nk)=k:=by omega
   have h4:¬ s.nx+(k-c.nk)<s.nx:=by omega
   exact⟨by simp[kz.env,kz.sl,r,D,Yn,E2,h4,Y],by simp[kz.env,r,D,E2,h4,Y]⟩
 have hone2:∀k,(E2.ρ k).oneCell'=true:=fun k=>by
  show (if k<s.nx then E.ρ k else E'.ρ (c.nk+(k-s.nx))).oneCell'=true;split
  ·exact i.one k
  ·exact W.one _
 -- which blocks are new
 have hfp0:∀b,c.fp0 (κ.env E) b->∃k' m',Yg s.M k'=some m'/\m'.fp E k' b/\∃k m,(k,m)∈c.M1/\Vi κ k m=some k':=by
  rintro b ⟨k,m,hm,B⟩;have⟨k',m',D,r,Y⟩:=hin k m b hm B;have:=aH.1 c5 _ (Xk hm);simp only[]at this;split at this
  ·rename_i m1 S;refine⟨k',m',r,Y,k,m1,Xk S,?_⟩;rw[Zs4 this,D]
  ·cases this
 have hbF:∀b,c.fp0 (κ.env E) b->¬ F b/\¬ X.Z b/\b<w.heap.size:=fun b B=>by have⟨k',m',D,r,_⟩:=hfp0 b B;exact i.mF k' m' D b r
 have hsame:∀b,b<w.heap.size->¬ c.fp0 (κ.env E) b->w'.heap[b]?=w.heap[b]?:= fun b D r=>W.ext.block b ⟨D,r⟩;have hM1:∀k m,(k,m)∈c.M1->∃_j:Nat,True/\k<c.nr/\m.kb c.nr/\okM κ m=true/\Yg c.M1 k=some m/\(c.nk<=k\/∃m0,Yg c.M0 k=some m0):=fun k m h=>by have:=aH.1 c6 _ h;simp only[Zc,b7]at this;obtain⟨⟨⟨⟨D,r⟩,Y⟩,h4⟩,h5⟩:=this;refine⟨0,trivial,Y9 r,MO.kbb_ok Y,h4,Zbx (P9 c7) h,h5.imp Ze fun h=>?_⟩;obtain⟨⟨k0,m0⟩,hm0,e⟩:=aM.1 (ZkJ.1 h);simp only[]at e;subst e;exact⟨m0,Zbx (P9 c4) hm0⟩
 generalize hML:(c.M1.filterMap fun p=>(Vi κ p.1 p.2).map fun j=>(j,Tp s κ (RA s κ c) c.nk p.1 p.2))=ML at *;have C:∀j m',Yg ML j=some m'->∃k m,(k,m)∈c.M1/\Vi κ k m=some j/\m'=Tp s κ (RA s κ c) c.nk k m:=fun j m' h=>by subst hML;obtain⟨⟨k,m⟩,hm,e⟩:=eo.1 (Xk h);have⟨j',hj,e⟩:=jT.1 e;simp only[Zr]at e;exact⟨k,m,hm,by rw[hj,e.1],e.2.symm⟩
 have hlookN:∀j,Yg ML j=none->∀k m,(k,m)∈c.M1->Vi κ k m≠some j:=fun j h k m hm O=>by subst hML;refine Zbq h (Tp s κ (RA s κ c) c.nk k m) (eo.2 ⟨(k,m),hm,?_⟩);simp only[O,bb]
 -- G
 have hG:∃G:YJ,(∀b,F b->G b)/\(∀b,G b->F b\/w.heap.size<=b)/\(∀b,G b->F' b)/\(∀k f,Yg c.V1 k=some f->f.ok E' G w' (E'.ρ k))/\(∀k m,Yg c.M1 k=some m->m.ok E' G w' k):=by
  rcases hflat with B|⟨hv,hf⟩
  ·subst B;refine⟨F',fun b h=>W.F0 b (.inl h),fun b h=>?_,fun _ h=>h,W.V,W.M⟩;rcases W.F1 b h with (h|⟨_,_,h,_⟩)|h
   ·exact .inl h
   ·cases h
   ·exact .inr h
  ·refine⟨F,fun _ h=>h,fun _ h=>.inl h,fun b h=>W.F0 b (.inl h),(fun k f h=>by rw[hv]at h;cases h),fun k m h=>?_⟩;exact Zbb hf (Xk h) (W.M k m h)
 have⟨G,g0,g1,g2,gV,gM⟩:=hG;have hgrow:X3 F w G w':=⟨g0,fun b B=>hsame b (i.hF b B) fun h=>(hbF b h).1 B⟩
 -- what is left of the caller's own memory
 have hold:∀j m,Yg ML j=none->Yg s.M j=some m->∀b,m.fp E j b->b<w.heap.size/\¬ c.fp0 (κ.env E) b:=by
  intro j m hn hm b B;refine⟨(i.mF j m hm b B).2.2,fun h0=>?_⟩;have⟨k',m',D,r,k,m1,Y,h4⟩:=hfp0 b h0;have hne:k'≠j:=fun e=>by subst e;exact hlookN k' hn k m1 Y h4
  exact i.dis k' j m' m D hm hne b r B
 have I:∀j k m b,(k,m)∈c.M1->Vi κ k m=some j->(Tp s κ (RA s κ c) c.nk k m).fp E2 j b->¬ F' b/\b<w'.heap.size/\(c.fp0 (κ.env E) b\/w.heap.size<=b)/\m.fp E' k b:=by
  intro j k m b hm O B;obtain⟨_,_,D,r,_,h4,_⟩:=hM1 k m hm;have hb':m.fp E' k b:=by have:=(Zoc (s:=s) (E2:=E2) (nk:=c.nk) O).1 B;exact (MO.fp_eqb hE' D).1 this
  have:=W.mF k m h4 b hb';exact⟨this.1,this.2.1,this.2.2,hb'⟩
 refine⟨E2,G,?_⟩;have T:∀ {x:SC},x.kb c.nr->(Wa κ x).kb (s.nx+(c.nr-c.nk)):=fun hx=>
  SC.ren_kb (κ:=κ) (n:=c.nr) (nx:=s.nx) (fun k y h=>(hlk k y (by rw[<-el];exact h)).2) (bR _ _) (fun k O hn=>by
   rcases ay k c.nk with h|h
   ·have⟨y,hy⟩:=hall k h;rw[el,hy]at hn;cases hn
   ·rw[esh k h];omega) hx
 have hres:Yt E' c.res=Yt E2 (W3 κ c.res):=by rw[<-ZaR κ E2 c11];exact (Dh hE' (SV.kbb_ok c12)).symm
 have hwf:St.Wf ⟨(d,W3 κ c.res)::s.L,ML++s.M,(c.V1.map fun p=>(κ.sh p.1,p.2))++s.V,s.nx+(c.nr-c.nk)⟩:=by
  refine⟨fun d' v h=>?_,fun j m h=>?_,fun j f h=>?_⟩
  ·rw[YF]at h;split at h
   ·cases h;have:=SV.kbb_ok c12;cases hr:c.res with
    |c x=>rw[hr]at this;exact T this
    |a cs=>rw[hr]at this;intro y hy;obtain⟨x,hx,rfl⟩:=aM.1 hy;exact T (this x hx)
    |t vs=>
     rw[hr]at this;intro y hy;obtain⟨x,hx,rfl⟩:=aM.1 hy;have:=this x hx;cases x with
     |inl x=>exact T this
     |inr cs=>intro z hz;obtain⟨q,hq,rfl⟩:=aM.1 hz;exact T (this q hq)
    |u=>trivial
   ·exact (i.wf.hL d' v h).mono (bR _ _)
  ·rw[Wi]at h;split at h
   ·rename_i m' hm';cases h;obtain⟨k,m1,D,r,rfl⟩:=C j m hm';obtain⟨_,Y,h4,h5,_,_,h6⟩:=hM1 k m1 D;have hj:j<s.nx+(c.nr-c.nk):=by
     have:(Wa κ (.bp k 0)).kb (s.nx+(c.nr-c.nk)):=T (x:=.bp k 0) h4;have U:(Wa κ (.sl k)).kb (s.nx+(c.nr-c.nk)):=T (x:=.sl k) h4;cases m1 with
     |box cs t=>
      simp only[Vi,XT]at r;split at r
      ·rename_i k' o hr;cases r;rw[hr]at this;exact this
      ·cases r
     |own R xs fr=>
      simp only[Vi,XT]at r;split at r
      ·rename_i k' hr;cases r;have e:Wa κ (.sl k)=κ.sl k:=rfl;rw[e,hr]at U;exact U
      ·cases r
     |av _=>
      simp only[Vi,XT]at r;split at r
      ·rename_i k' hr;cases r;have e:Wa κ (.sl k)=κ.sl k:=rfl;rw[e,hr]at U;exact U
      ·cases r
     |buf _ _=>
      simp only[Vi,XT]at r;split at r
      ·rename_i k' hr;cases r;have e:Wa κ (.sl k)=κ.sl k:=rfl;rw[e,hr]at U;exact U
      ·cases r
     |abs A=>
      simp only[Vi,XT]at r;split at r
      ·rename_i k' hr;cases r;have e:Wa κ (.sl k)=κ.sl k:=rfl;rw[e,hr]at U;exact U
      ·cases r
     |gone=>
      simp only[Vi]at r;split at r
      ·rename_i k' hr;cases r;have e:Wa κ (.sl k)=κ.sl k:=rfl;rw[e,hr]at U;exact U
      ·cases r
    refine⟨hj,?_⟩;cases m1 with
    |box cs t=>intro y hy;obtain⟨x,hx,rfl⟩:=aM.1 hy;exact T (h5 x hx)
    |own R xs fr=>trivial
    |abs A=>trivial
    |av _=>trivial
    |buf _ _=>trivial
    |gone=>trivial
   ·exact⟨Zh (i.wf.hM j m h).1 (bR _ _),(i.wf.hM j m h).2.mono (bR _ _)⟩
  ·rw[Wi]at h;split at h
   ·rename_i f' hf';cases h;obtain⟨⟨k,f1⟩,D,e⟩:=aM.1 (Xk hf');simp only[Zr]at e;obtain⟨e1,rfl⟩:=e;have:=aH.1 c9 _ D;simp only[Zc]at this;obtain⟨⟨Y,h4⟩,h5⟩:=this;have Y:=Ze Y;have h4:=Y9 h4;rw[esh k Y]at e1;refine⟨(show j<s.nx+(c.nr-c.nk) by omega),?_⟩;cases f1<;>first|trivial|cases h5
   ·exact⟨Zh (i.wf.hV j f h).1 (bR _ _),(i.wf.hV j f h).2.mono (bR _ _)⟩
 exact {
  wf:=hwf
  nk:=bV i.nk (bR _ _)
  defers:=by rw[Zf5];exact i.defers
  size:=by rw[Zlq];exact i.size
  hL:=fun d' v h=>by
   rw[getElem?_put (by rw[i.size];exact hd)];rw[YF]at h;split at h
   ·rename_i e;cases h;rw[mD e,hres]
   ·rename_i e;rw[mE e,Dh N (i.wf.hL d' v h)];exact i.hL d' v h
  hV:=fun j f h=>by
   rw[Wi]at h;split at h
   ·rename_i f' hf';cases h;obtain⟨⟨k,f1⟩,D,e⟩:=aM.1 (Xk hf');simp only[Zr]at e;obtain⟨e1,rfl⟩:=e;have:=aH.1 c9 _ D;simp only[Zc]at this;obtain⟨⟨Y,h4⟩,h5⟩:=this;have Y:=Ze Y;have hok:=gV k f1 (Zbx (P9 c10) D);have hρ:E2.ρ j=E'.ρ k:=by
     rw[<-e1,esh k Y];have h6:¬ s.nx+(k-c.nk)<s.nx:=by omega
     have h7:c.nk+(k-c.nk)=k:=by omega
     simp[E2,h6,h7]
    rw[hρ];cases f1<;>first|exact hok|cases h5
   ·have:=((i.hV j f h).mono hgrow).eqb N (i.wf.hV j f h).2;rw[(N j (i.wf.hV j f h).1).1];exact this
  hM:=fun j m h=>by
   rw[Wi]at h;split at h
   ·rename_i m' hm';cases h;obtain⟨k,m1,D,r,rfl⟩:=C j m hm';obtain⟨_,_,h4,h5,h6,h7,_⟩:=hM1 k m1 D;exact Zod r h6 ((gM k m1 h7).eqb hE' h4 h5)
   ·rename_i hn;refine MO.ok.eqb N (i.wf.hM j m h).1 (i.wf.hM j m h).2 ((i.hM j m h).mono hgrow fun b B=>?_);have:=hold j m hn h b B;exact hsame b this.1 this.2
  dis:=fun j j' m m' h U hne b B=>by
   rw[Wi]at h U;split at h
   ·rename_i m1 S;cases h;obtain⟨k,n,D,r,rfl⟩:=C j m S;have hf:=I j k n b D r B;split at U
    ·rename_i m2 hm2;cases U;obtain⟨k',n',h1',h2',rfl⟩:=C j' m' hm2;intro hb';have hf':=I j' k' n' b h1' h2' hb';obtain⟨_,_,_,_,_,h7,_⟩:=hM1 k n D;obtain⟨_,_,_,_,_,h7',_⟩:=hM1 k' n' h1';have hkk:k≠k':=fun e=>by subst e;rw[h7]at h7';cases h7';rw[r]at h2';cases h2';exact hne rfl
     exact W.dis k k' n n' h7 h7' hkk b hf.2.2.2 hf'.2.2.2
    ·rename_i hn;intro hb';have hb'':m'.fp E j' b:=(MO.fp_eqb N (i.wf.hM j' m' U).1).1 hb';have:=hold j' m' hn U b hb'';rcases hf.2.2.1 with h0|h0
     ·exact this.2 h0
     ·omega
   ·rename_i hn;have hb1:m.fp E j b:=(MO.fp_eqb N (i.wf.hM j m h).1).1 B;have ho:=hold j m hn h b hb1;split at U
    ·rename_i m2 hm2;cases U;obtain⟨k',n',h1',h2',rfl⟩:=C j' m' hm2;intro hb';have hf':=I j' k' n' b h1' h2' hb';rcases hf'.2.2.1 with h0|h0
     ·exact ho.2 h0
     ·omega
    ·intro hb';exact i.dis j j' m m' h U hne b hb1 ((MO.fp_eqb N (i.wf.hM j' m' U).1).1 hb')
  mF:=fun j m h b B=>by
   rw[Wi]at h;split at h
   ·rename_i m1 S;cases h;obtain⟨k,n,D,r,rfl⟩:=C j m S;have hf:=I j k n b D r B;refine⟨fun hg=>hf.1 (g2 b hg),fun hz=>?_,hf.2.1⟩;rcases hf.2.2.1 with h0|h0
    ·exact (hbF b h0).2.1 hz
    ·have:=i.hZ b hz;have:=i.ext.size;omega
   ·rename_i hn;have hb1:m.fp E j b:=(MO.fp_eqb N (i.wf.hM j m h).1).1 B;have ho:=hold j m hn h b hb1;have hmf:=i.mF j m h b hb1;refine⟨fun hg=>?_,hmf.2.1,Zh ho.1 W.ext.size⟩;rcases g1 b hg with h0|h0
    ·exact hmf.1 h0
    ·omega
  fresh:=fun j m h H b B=>by
   rw[Wi]at h;split at h
   ·rename_i m1 S;cases h;obtain⟨k,n,D,r,rfl⟩:=C j m S;have hf:=I j k n b D r B;obtain⟨_,_,h4,_,_,h7,h8⟩:=hM1 k n D;have hsz:=i.ext.size;rcases ay k c.nk with O|O
    ·cases n with
     |own R xs fr=>
      have hj:κ.sl k=.sl j:=by
       simp only[Vi,XT]at r;split at r
       ·rename_i hr;cases r;exact hr
       ·cases r
      have K:He s j=true:=by
       have e:(Tp s κ (RA s κ c) c.nk k (.own R xs fr)).isFresh=He s j:=by
        have B:aO k c.nk=true:=by unfold aO;exact ai O
        simp only[Tp,MO.isFresh,B,l9,hj]
       rw[e]at H;exact H
      unfold He at K;split at K
      ·rename_i R0 xs0 fr0 hl0;have hjn:j<s.nx:=(i.wf.hM j _ hl0).1;refine i.fresh j _ hl0 K b ?_;show YV (E.ρ j)=some b;have:YV (E2.ρ j)=some b:=B;rw[(N j hjn).1]at this;exact this
      ·cases K
     |box _ _=>cases H
     |abs _=>cases H
     |av _=>cases H
     |buf _ _=>cases H
     |gone=>cases H
    ·cases n with
     |own R xs fr=>
      have B:aO k c.nk=false:=by
       cases B:aO k c.nk with
       |false=>rfl
       |true=>exact absurd (Y9 B) (cv.2 O)
      have e:(Tp s κ (RA s κ c) c.nk k (.own R xs fr)).isFresh=(fr || RA s κ c):=by simp only[Tp,MO.isFresh,B,lf]
      rw[e,b7]at H;have hn0:=i.hn0;rcases H with K|K
      ·have:=W.fresh k _ h7 K b hf.2.2.2;omega
      ·rcases hf.2.2.1 with h0|h0
       ·have⟨k0,m0,hm0,hb0⟩:=h0;have ha:=aH.1 K _ (Xk hm0);have⟨k',m',g1',g2',g3'⟩:=hin k0 m0 b hm0 hb0;cases m0 with
        |own R0 xs0 fr0=>
         simp only[XT]at g1';split at g1'
         ·rename_i j0 hr0;simp only[aR]at g1';subst g1';simp only[hr0]at ha;unfold He at ha;rw[g2']at ha;cases m' with
          |own R1 xs1 fr1=>exact i.fresh _ _ g2' ha b g3'
          |box _ _=>cases ha
          |abs _=>cases ha
          |av _=>cases ha
          |buf _ _=>cases ha
          |gone=>cases ha
         ·cases g1'
        |box cs0 t0=>
         exfalso;simp only[]at ha;split at ha
         ·rename_i cs1 t1 S;have hk0:=Y9 ha;have hb0:b=(κ.env E).β k0:=hb0;exact W.dis k k0 _ _ h7 S (fun e=>by omega) b hf.2.2.2 (hb0.trans (W.env k0 hk0).2.symm)
         ·cases ha
        |abs _=>cases ha
        |av A0=>
         exfalso;simp only[]at ha;split at ha
         ·rename_i A1 S;have hk0:=Y9 ha;have hb0:YV ((κ.env E).ρ k0)=some b:=hb0;exact W.dis k k0 _ _ h7 S (fun e=>by omega) b hf.2.2.2 (by show YV (E'.ρ k0)=some b;rw[(W.env k0 hk0).1];exact hb0)
         ·cases ha
        |buf _ _=>cases ha
        |gone=>cases ha
       ·omega
     |box _ _=>cases H
     |abs _=>cases H
     |av _=>cases H
     |buf _ _=>cases H
     |gone=>cases H
   ·exact i.fresh j m h H b ((MO.fp_eqb N (i.wf.hM j m h).1).1 B)
  hF:=fun b B=>W.Fs b (g2 b B)
  hF0:=fun b B=>g0 b (i.hF0 b B)
  hF1:=fun b B=>by
   rcases g1 b B with h|h
   ·exact i.hF1 b h
   ·have D:=i.ext.size;have r:=i.hn0;exact .inr ⟨by omega,fun hz=>by have:=i.hZ b hz;omega⟩
  hn0:=i.hn0
  hZ:=i.hZ
  ext:=i.ext.trans ⟨W.ext.os,W.ext.tape,W.ext.output,W.ext.size,fun b hz=>hsame b (Zh (i.hZ b hz) i.ext.size) fun h0=>(hbF b h0).2.1 hz⟩
  link:=i.link.trans (N.mono i.nk)
  one:=hone2 }
theorem Zif{P:lU}{f:lX}(h:Ly P f)(args:Array lR)(w:lQ):(callFunc f args).run P w=.ok (.enter f args) w:=by have⟨fn,b,e,g⟩:=h;simp only[callFunc,aG,run_program,aD,b,e,g,cM,mC,aJ]
def QI(ks:List Nat):List SV:=ks.map fun k=>.c (.bp k 0)
theorem kg.callc{ops:Array lW}{lL:lZ->lQ->Prop}{i:Nat}{lK:List Nat}{o:lW}{f:lX}{fs g:List Nat}{x:lV}{args:Array lV}{W:Array lS}{c:Ct}{d:Nat}
  (T:Fn X.P f c) (l:List (Nat×SC)) (j:List Nat) (Y:ops[i]?=some o) (Z:Y3 ops s.L o=some true)
  (C:o.op=.call { callee:=.value x,args:=args,argTypes:=W }) (hd:o.dst=some d) (D:aO d X.fn.ntmps=true) (y:Yr s.L x=some (.c (.cl f fs g)))
  (b:(Ux s.L args.toList).map (fun U=>QI fs++U++QI g)=some (c.args.map (W3 ⟨l,c.nk,s.nx⟩)))
  (hV:c.V0.map (fun p=>PV s ⟨l,c.nk,s.nx⟩ j p.1 p.2)=c.V0.map (fun p=>some p.2))
  (hM:c.M0.map (fun p=>W0 s ⟨l,c.nk,s.nx⟩ p.1 p.2)=c.M0.map (fun p=>some (Vl ⟨l,c.nk,s.nx⟩ p.2)))
  (m:j=[]\/(c.V1=[]/\UV c.M1)) (H:LQ s c l j=true) (k:kg X ops lK lL (ZeJ s c l d)):kg X ops (i::lK) lL s:=by
 refine kg.op Y Z (fun E F w a I=>?_) k;have⟨z,n⟩:=ZoF I (d:=d) (Y9 D) hV hM m H;have A:c.args.all (Ui ⟨l,c.nk,s.nx⟩)=true:=by simp only[LQ,Zc]at H;exact H.2
 cases r:Ux s.L args.toList with
 |none=>rw[r]at b;cases b
 |some U=>
  rw[r]at b;simp only[bb,aR]at b;have S:=(Dm I r).1;have⟨K,_⟩:=I.eval y;have h:∀g:List Nat,(QI g).map (Yt E)=(WX E g).toList:=fun g=>by simp[QI,WX,Yt,Yn,Function.comp_def]
  have q:WX E fs++args.map a.eval++WX E g=(c.args.map (Yt ((⟨l,c.nk,s.nx⟩:kz).env E))).toArray:=by apply eC;rw[Array.toList_append,Array.toList_append,dY,S,<-h,<-h,<-bn,<-bn,b,cG];exact bK fun v hv=>(ZaR _ E (aH.1 A v hv)).symm
  have B:(lT a.eval o).run X.P w=.ok (.enter f (WX E fs++args.map a.eval++WX E g)) w:=by unfold lT;simp only[C,resolve,K,Yt,Yn,fR,invoke,aG,aJ,aD];exact Zif T.callable _ w
  unfold Oper.wp;rw[B];show Calls _ _ _ _ _;rw[q];refine (T.calls _ _ _ z).mono ?_;rintro e w' ⟨N,O,rfl,hp⟩;have⟨E2,G,R⟩:=n N O w' hp;show ∃N O,ky X _ N O w' _;rw[hd];exact⟨E2,G,R⟩
end
end Go.Kx
end
section
namespace Go.Kx
variable [kv]
def rI(k:lY):k6 Int where
 sz:=1
 pos:=ef
 rep _ _ n vs:=vs=[.int k n]
 len h:=by rw[h];rfl
 mono _ h:=h
 one h:=by rw[h];intro v hv;rw[aC.1 hv];rfl
def rB:k6 Bool where
 sz:=1
 pos:=ef
 rep _ _ b vs:=vs=[.bool b]
 len h:=by rw[h];rfl
 mono _ h:=h
 one h:=by rw[h];intro v hv;rw[aC.1 hv];rfl
def rS:k6 be where
 sz:=1
 pos:=ef
 rep _ _ b vs:=vs=[.string b]
 len h:=by rw[h];rfl
 mono _ h:=h
 one h:=by rw[h];intro v hv;rw[aC.1 hv];rfl
variable {α:Type}{xs:List α}
theorem ZhQ{R:k6 α}{F w}{v:lR}(h:SlR R F w xs v):v.oneCell'=true:=by rcases h with⟨_,_,_,rfl⟩|⟨_,_,_,_,_,_,rfl,_⟩<;>rfl
def YH(R:k6 α):k6 (List α) where
 sz:=1
 pos:=ef
 rep F w xs vs:=∃v,vs=[v]/\SlR R F w xs v
 len h:=by have⟨v,h,_⟩:=h;rw[h];rfl
 mono g h:=let ⟨v,e,hs⟩:=h;⟨v,e,hs.mono g⟩
 one h:=by have⟨v,e,hs⟩:=h;rw[e];intro u hu;rw[aC.1 hu];exact ZhQ hs
def rP{β:Type}(R1:k6 α)(R2:k6 β):k6 (α×β) where
 sz:=R1.sz+R2.sz
 pos:=Nat.add_pos_left R1.pos _
 rep F w x vs:=∃us ws,vs=us++ws/\R1.rep F w x.1 us/\R2.rep F w x.2 ws
 len h:=by obtain⟨us,ws,rfl,h1,h2⟩:=h;rw[List.length_append,R1.len h1,R2.len h2]
 mono g h:=let ⟨us,ws,e,h1,h2⟩:=h;⟨us,ws,e,R1.mono g h1,R2.mono g h2⟩
 one h:=by
  obtain⟨us,ws,rfl,h1,h2⟩:=h;intro v hv;rcases aS.1 hv with hv|hv
  ·exact R1.one h1 v hv
  ·exact R2.one h2 v hv
def rM{β:Type}(f:α->β)(R:k6 β):k6 α where
 sz:=R.sz
 pos:=R.pos
 rep F w x vs:=R.rep F w (f x) vs
 len h:=R.len h
 mono g h:=R.mono g h
 one h:=R.one h
theorem Ztj(k:lY):(rI k).Flat:=fun _ _ _ _ _ _ h=>h
theorem Ztq:rS.Flat:=fun _ _ _ _ _ _ h=>h
structure ki {α:Type} (R:k6 α) where
 nk:Nat
 cells:Nat->α->List SC
 facts:Nat->α->List (Nat×VF)
 ok:∀ {F w x vs},R.rep F w x vs->∀(k:Nat) (E:lC),(∀j,(E.ρ j).oneCell'=true)->∃E',E.Eqb k E'/\(∀j,E'.β j=E.β j)/\(∀j,k+nk<=j->E'.ρ j=E.ρ j)/\(∀j,(E'.ρ j).oneCell'=true)/\vs=(cells k x).map (Yn E') /\
  (∀p∈facts k x,k<=p.1/\p.1<k+nk/\p.2.plain=true/\p.2.ok E' F w (E'.ρ p.1))/\∀c∈cells k x,SC.kb (k+nk) c
 chk:(Nat->Option VF)->α->List SC->Prop
 cok:∀ {V:Nat->Option VF} {x cs},chk V x cs->∀(E:lC) F w,(∀k f,V k=some f->f.ok E F w (E.ρ k))->R.rep F w x (cs.map (Yn E))
 T:Type 1
 lq:(Nat->Option VF)->α->List SC->T
 rq:(Nat->Option VF)->α->List SC->T
 eqn:∀ {V x cs},lq V x cs=rq V x cs->chk V x cs
def oI(k:lY):ki (rI k) where
 nk:=0
 cells _ n:=[.i k n]
 facts _ _:=[]
 ok h j E ho:=⟨E,lC.Eqb.refl _ _,fun _=>rfl,fun _ _=>rfl,ho,h,by simp,by simp[SC.kb]⟩
 chk _ n cs:=cs=[.i k n]
 cok h E F w _:=by rw[h];rfl
 T:=ULift.{1,0} (List SC)
 lq _ _ cs:=⟨cs⟩
 rq _ n _:=⟨[.i k n]⟩
 eqn h:=mG eE h
def oB:ki rB where
 nk:=0
 cells _ n:=[.b n]
 facts _ _:=[]
 ok h j E ho:=⟨E,lC.Eqb.refl _ _,fun _=>rfl,fun _ _=>rfl,ho,h,by simp,by simp[SC.kb]⟩
 chk _ n cs:=cs=[.b n]
 cok h E F w _:=by rw[h];rfl
 T:=ULift.{1,0} (List SC)
 lq _ _ cs:=⟨cs⟩
 rq _ n _:=⟨[.b n]⟩
 eqn h:=mG eE h
def oS:ki rS where
 nk:=0
 cells _ n:=[.s n]
 facts _ _:=[]
 ok h j E ho:=⟨E,lC.Eqb.refl _ _,fun _=>rfl,fun _ _=>rfl,ho,h,by simp,by simp[SC.kb]⟩
 chk _ n cs:=cs=[.s n]
 cok h E F w _:=by rw[h];rfl
 T:=ULift.{1,0} (List SC)
 lq _ _ cs:=⟨cs⟩
 rq _ n _:=⟨[.s n]⟩
 eqn h:=mG eE h
def ZaH(R:k6 α)(V:Nat->Option VF)(xs:List α):List SC->Prop
 | [.sl k]=>V k=some (.sl R xs)
 | [.nil]=>xs=[]
 |_=>False
def slL(V:Nat->Option VF)(xs:List α):List SC->Option VF×ULift.{1,0} (Bool×List α)
 | [.sl k]=>(V k,⟨(true,[])⟩)
 | [.nil]=>(none,⟨(true,xs)⟩)
 |_=>(none,⟨(false,[])⟩)
def slQ(R:k6 α)(xs:List α):List SC->Option VF×ULift.{1,0} (Bool×List α)
 | [.sl _]=>(some (.sl R xs),⟨(true,[])⟩)
 |_=>(none,⟨(true,[])⟩)
theorem Zl9{R:k6 α}{V:Nat->Option VF}{cs:List SC}(h:slL V xs cs=slQ R xs cs):ZaH R V xs cs:=by
 unfold slL at h;split at h
 ·exact (cC h).1
 ·have:=mG eE (cC h).2;exact (cC this).2
 ·rename_i b e;unfold slQ at h;split at h
  ·exact (b _ rfl).elim
  ·have:=mG eE (cC h).2;cases this
def Xj(R:k6 α):ki (YH R) where
 nk:=1
 cells k _:=[.sl k]
 facts k xs:=[(k,.sl R xs)]
 ok h k E ho:=by
  have⟨v,e,hs⟩:=h;refine⟨E.setρ k v,E.eqb_setρ _ _ _ (Zq _),fun _=>rfl,fun j hj=>?_,fun j=>?_,?_,?_,?_⟩
  ·have:¬ j=k:=by omega
   simp[lC.setρ,this]
  ·simp only[lC.setρ];split
   ·exact ZhQ hs
   ·exact ho j
  ·rw[e];simp[Yn,lC.setρ]
  ·intro p hp;rw[aC.1 hp];exact⟨Zq _,ab _,rfl,by simpa[lC.setρ,VF.ok]using hs⟩
  ·intro c hc;rw[aC.1 hc];exact ab _
 chk V xs cs:=ZaH R V xs cs
 cok h E F w hV:=by
  unfold ZaH at h;split at h
  ·rename_i k;exact⟨E.ρ k,rfl,hV k _ h⟩
  ·subst h;exact⟨_,rfl,.inl ⟨rfl,_,_,rfl⟩⟩
  ·exact h.elim
 T:=Option VF×ULift.{1,0} (Bool×List α)
 lq V xs cs:=slL V xs cs
 rq _ xs cs:=slQ R xs cs
 eqn h:=Zl9 h
def oP{β:Type}{R1:k6 α}{R2:k6 β}(o1:ki R1)(o2:ki R2):ki (rP R1 R2) where
 nk:=o1.nk+o2.nk
 cells k x:=o1.cells k x.1++o2.cells (k+o1.nk) x.2
 facts k x:=o1.facts k x.1++o2.facts (k+o1.nk) x.2
 ok h k E ho:=by
  obtain⟨us,ws,rfl,h1,h2⟩:=h;have⟨E1,a1,a0,a2,a3,a4,a5,a6⟩:=o1.ok h1 k E ho;have⟨E2,b1,b0,b2,b3,b4,b5,b6⟩:=o2.ok h2 (k+o1.nk) E1 a3;refine⟨E2,a1.trans (b1.mono (bR _ _)),fun j=>(b0 j).trans (a0 j),fun j hj=>(b2 j (by omega)).trans (a2 j (by omega)),b3,?_,?_,?_⟩
  ·rw[bn,a4,b4,L2 b1 a6]
  ·intro p hp;rcases aS.1 hp with hp|hp
   ·have⟨c1,c2,c3,c4⟩:=a5 p hp;refine⟨c1,by omega,c3,?_⟩;rw[(b1 p.1 c2).1];revert c3 c4;cases p.2<;>intro c3 c4<;>first|exact c4|cases c3
   ·have⟨c1,c2,c3,c4⟩:=b5 p hp;exact⟨by omega,by omega,c3,c4⟩
  ·intro c hc;rcases aS.1 hc with hc|hc
   ·exact (a6 c hc).mono (by omega)
   ·exact (b6 c hc).mono (by omega)
 chk V x cs:=o1.chk V x.1 (cs.take R1.sz)/\o2.chk V x.2 (cs.drop R1.sz)
 cok {V x cs} h E F w hV:=by have h1:=o1.cok h.1 E F w hV;have h2:=o2.cok h.2 E F w hV;exact⟨_,_,by rw[<-bn,cE],h1,h2⟩
 T:=o1.T×o2.T
 lq V x cs:=(o1.lq V x.1 (cs.take R1.sz),o2.lq V x.2 (cs.drop R1.sz))
 rq V x cs:=(o1.rq V x.1 (cs.take R1.sz),o2.rq V x.2 (cs.drop R1.sz))
 eqn h:=⟨o1.eqn (cC h).1,o2.eqn (cC h).2⟩
def oM{β:Type}{R:k6 β}(f:α->β)(o:ki R):ki (rM f R) where
 nk:=o.nk
 cells k x:=o.cells k (f x)
 facts k x:=o.facts k (f x)
 ok h k E ho:=o.ok h k E ho
 chk V x cs:=o.chk V (f x) cs
 cok h E F w hV:=o.cok h E F w hV
 T:=o.T
 lq V x cs:=o.lq V (f x) cs
 rq V x cs:=o.rq V (f x) cs
 eqn h:=o.eqn h
def idx(xs:List α)(n:Int):Option α:=bif decide (0<=n) then xs[n.toNat]? else none
theorem VD{n:Int}{x:α}(h:idx xs n=some x):0<=n/\n<(xs.length:Int)/\xs[n.toNat]?=some x:=by
 unfold idx at h;cases b:decide (0<=n) with
 |false=>rw[b]at h;cases h
 |true=>
  rw[b]at h;have e:=lj b;have:=(aE.1 h).1;exact⟨e,by omega,h⟩
theorem ky.addF{X:lB}{s:St}{E:lC}{F:YJ}{w:lQ}{a:lZ}(i:ky X s E F w a){fs:List (Nat×VF)}{n:Nat}
  (h:∀p∈fs,s.nx<=p.1/\p.1<s.nx+n/\p.2.plain=true/\p.2.ok E F w (E.ρ p.1)):ky X ⟨s.L,s.M,fs++s.V,s.nx+n⟩ E F w a:=by
 have e:=i.nxt (n:=s.nx+n) (bR _ _);exact { e with
  wf:=⟨e.wf.hL,e.wf.hM,fun k f b=>by
   simp only[Wi]at b;split at b
   ·rename_i m g;cases b;have⟨_,j,l,_⟩:=h _ (Xk g);refine⟨j,?_⟩;cases f<;>first|trivial|cases l
   ·exact e.wf.hV k f b⟩
  hV:=fun k f b=>by
   simp only[Wi]at b;split at b
   ·rename_i m g;cases b;exact (h _ (Xk g)).2.2.2
   ·exact i.hV k f b }
section
variable {X:lB}{s:St}{tt:List (Nat×TD)}{ops:Array lW}{lL:lZ->lQ->Prop}
theorem TD.Ok.sliceOf{P:lU}{t:lS}{d:TD}(h:TD.Ok P t d)(b:aF d.kd 6=true):∃e,P.underlying t=some (.slice e)/\∀w,(sizeOf e).run P w=.ok d.es w:=by have⟨i,g,hi,j,_⟩:=h.slc b;exact⟨_,g,fun w=>by simp[sizeOf,typeInfo,hi,j]⟩
theorem ZlO{P:lU}{t e:lS}(w:lQ){b off len cap es:Nat}{k:lY}{n:Int}(g:P.underlying t=some (.slice e))(h:(sizeOf e).run P w=.ok es w)(i:0<=n)(j:n<len) :
  (Instr.indexAt t (.slice (some ⟨b,off,none⟩) len cap) (.int k n)).run P w=.ok (.pointer (some ⟨b,off+n.toNat*es,none⟩)) w:=by simp only[Instr.indexAt,asIntOf,aG,aJ,aD,Xl g];rw[mD ⟨i,j⟩];simp only[aG,h,aD,aJ,Ww]
theorem kg.ix{α:Type}{R:k6 α}(O:ki R)(lO:kf X.P tt){i:Nat}{lK:List Nat}{o:lW}{t:lS}{y:TD}{x S:lV}{d k:Nat}{ik:lY}{n:Int}{xs:List α}{e:α}
  (hi:idx xs n=some e) (ho:ops[i]?=some o) (hg:Y3 ops s.L o=some true) (z:o.op=.indexAddr t x S) (hd:o.dst=some d)
  (hx:Yr s.L x=some (.c (.sl k))) (hV:Yg s.V k=some (.sl R xs)) (hn:Yr s.L S=some (.c (.i ik n))) (ht:Yg tt t=some y)
  (T:(aO d X.fn.ntmps && aF y.kd 6 && aF y.es R.sz)=true)
  (k:kg X ops lK lL ⟨(d,.c (.px s.nx 0))::s.L,s.M,O.facts (s.nx+1) e++(s.nx,.pl (O.cells (s.nx+1) e))::s.V,s.nx+1+O.nk⟩):kg X ops (i::lK) lL s:=by
 refine kg.op ho hg (fun E F w a h=>?_) k;rename_i W;simp only[Zc]at T;obtain⟨⟨c1,c2⟩,A⟩:=T;have A:=Zd A;have⟨h0,h1,l⟩:=VD hi;have⟨el,hu,hz⟩:=(lO.get ht).sliceOf c2;have G:SlR R F w xs (E.ρ W):=h.hV W _ hV;rcases G with⟨rfl,_⟩|⟨b,off,cap,arr,ty,fz,hv,U,hF,hh,hr⟩
 ·simp at l
 have⟨vs,m,B⟩:=hr n.toNat e l;have⟨e1,e2⟩:=h.eval hx;have⟨e3,_⟩:=h.eval hn;have p:(lT a.eval o).run X.P w=.ok (.value (.pointer (some ⟨b,off+n.toNat*R.sz,none⟩))) w:=by simp only[lT,z,e1,e3,Yt,Yn,hv];refine Xe ?_;rw[<-A];exact ZlO w hu (hz w) h0 h1
 refine XD p ?_
 -- the environment: the place, then the element's slices
 have H:E.Eqb s.nx (E.setρ s.nx (.pointer (some ⟨b,off+n.toNat*R.sz,none⟩))):=E.eqb_setρ _ _ _ (Zq _);have I:∀j,((E.setρ s.nx (.pointer (some ⟨b,off+n.toNat*R.sz,none⟩))).ρ j).oneCell'=true:=fun j=>by
  simp only[lC.setρ];split
  ·rfl
  ·exact h.one j
 have⟨E2,a1,_,_,a3,a4,a5,a6⟩:=O.ok m (s.nx+1) _ I;have K:E.Eqb s.nx E2:=H.trans (a1.mono (cD _));have Y:E2.ρ s.nx=.pointer (some ⟨b,off+n.toNat*R.sz,none⟩):=by rw[(a1 s.nx (ab _)).1];simp[lC.setρ]
 have Z:=h.env K a3
 -- facts first, then the place
 have s2:ky X ⟨s.L,s.M,O.facts (s.nx+1) e++(s.nx,.pl (O.cells (s.nx+1) e))::s.V,s.nx+1+O.nk⟩ E2 F w a:=by
  have r:=Z.nxt (n:=s.nx+1+O.nk) (by omega);have N:(VF.pl (O.cells (s.nx+1) e)).ok E2 F w (E2.ρ s.nx):=by refine⟨b,off+n.toNat*R.sz,arr,ty,fz,Y,hF,hh,fun j c hj=>?_⟩;refine B j _ ?_;rw[a4,aK,hj];rfl
  exact { r with
   wf:=⟨r.wf.hL,r.wf.hM,fun q f g=>by
    simp only[Wi]at g;split at g
    ·rename_i f' C;cases g;have⟨_,h2,h3,_⟩:=a5 _ (Xk C);refine⟨h2,?_⟩;cases f<;>first|trivial|cases h3
    ·rw[YF]at g;split at g
     ·rename_i D;cases g;subst D;exact⟨(show s.nx<s.nx+1+O.nk by omega),a6⟩
     ·exact r.wf.hV q f g⟩
   hV:=fun q f g=>by
    simp only[Wi]at g;split at g
    ·rename_i f' C;cases g;exact (a5 _ (Xk C)).2.2.2
    ·rw[YF]at g;split at g
     ·rename_i D;cases g;subst D;exact N
     ·exact Z.hV q f g }
 refine⟨E2,F,?_⟩;have s3:=s2.setL (d:=d) (v:=.c (.px s.nx 0)) (show s.nx<s.nx+1+O.nk by omega) (Y9 c1);simp only[Yt,Yn,Y,WW,bu]at s3;rw[hd];exact s3
end
section
variable {X:lB}{s:St}{ρ:Type}
theorem ob{α β:Type}{x:Option α}{f:α->Option β}{r:β}(h:x.bind f=some r):∃a,x=some a/\f a=some r:=Option.bind_eq_some_iff.1 h
theorem oc{α:Type}{c:Bool}{x y:Option α}{r:α}(h:(bif c then x else y)=some r):(c=true/\x=some r)\/(c=false/\y=some r):=by
 cases c
 ·exact .inr ⟨rfl,h⟩
 ·exact .inl ⟨rfl,h⟩
theorem kg.kb{ops:Array lW}{idx:List Nat}{lL:lZ->lQ->Prop}{c b:Bool}(d:Nat)(l:c=b)(m:Yg s.L d=some (.c (.b c)))(h:kg X ops idx lL ⟨(d,.c (.b b))::s.L,s.M,s.V,s.nx⟩) :
  kg X ops idx lL s:=fun E F w a i=>h E F w a { i with
   wf:=⟨fun j v g=>by
    simp only[YF]at g;split at g
    ·cases g;trivial
    ·exact i.wf.hL j v g,i.wf.hM,i.wf.hV⟩
   hL:=fun j v g=>by
    simp only[YF]at g;split at g
    ·rename_i e;cases g;subst e;subst l;exact i.hL d _ m
    ·exact i.hL j v g }
end
end Go.Kx
end
section
namespace Go.Kx
variable [kv]
section
variable {X:lB}{s:St}{ops:Array lW}{lL:lZ->lQ->Prop}
theorem kg.eqa{i:Nat}{lK:List Nat}{o:lW}{t q:lS}{x y:lV}{d:Nat}{cs g:List SC}{b:Bool}{e:Bool}
  (p:∀E w,(dp t (.agg (cs.map (Yn E)).toArray) (.agg (g.map (Yn E)).toArray)).run X.P w=.ok b w) (l:X.P.eqGuardType X.P.depth t=false)
  (r:ops[i]?=some o) (z:Y3 ops s.L o=some true) (m:o.op=.binOp (bif e then .neq else .eql) t x y q) (A:o.dst=some d)
  (B:Yr s.L x=some (.a cs)) (C:Yr s.L y=some (.a g)) (D:aO d X.fn.ntmps=true)
  (k:kg X ops lK lL ⟨(d,.c (.b (bif e then !b else b)))::s.L,s.M,s.V,s.nx⟩):kg X ops (i::lK) lL s:=by
 refine kg.op r z (fun E F w a n=>?_) k;have⟨G,_⟩:=n.eval B;have⟨H,_⟩:=n.eval C;have h:(lT a.eval o).run X.P w=.ok (.value (.bool (bif e then !b else b))) w:=by
  simp only[lT,m,G,H,Yt];refine Xe ?_;have j:∀op,(eqGuard op t x y (.agg (cs.map (Yn E)).toArray) (.agg (g.map (Yn E)).toArray)).run X.P w=.ok () w:=by intro op;unfold eqGuard;cases op<;>simp[l]
  cases e with
  |false=>
   simp only[lf,aG,j,aD];show (do pure (eh (<-dp t _ _)):Sem lR).run X.P w=_;simp only[aG,p E w,aD,aJ]
  |true=>
   simp only[l9,aG,j,aD];show (do pure (eh (!(<-dp t _ _))):Sem lR).run X.P w=_;simp only[aG,p E w,aD,aJ]
 refine XD h ⟨E,F,?_⟩;rw[A];exact n.setL (v:=.c (.b (bif e then !b else b))) trivial (Y9 D)
end
end Go.Kx
end
