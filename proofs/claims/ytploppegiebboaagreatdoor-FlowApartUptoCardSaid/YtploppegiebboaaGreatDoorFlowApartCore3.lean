/- Aids for the walks, part 3: a symbolic state of the machine, and that each step of the machine keeps it. -/
import Derived.Scope
import Derived.KernelRfl
import Derived.Sort.AssemblyPlain
import Derived.Shelf.SlSortCmp.Insertion
import Derived.Shelf.SlSortCmp.NoneTotal
import Derived.Lib.LaidTab
import Derived.Lib.Builder
import Derived.Lib.UnsafeStr
import Derived.Sort.EncStr
import Derived.Sort.Grow
import Derived.Lib.SlicesCompact
import Derived.Test.YtploppegiebboaaGreatDoorFlowApartCore2
set_option linter.all false
open Go renaming World→lQ,Value→lR,TypeId→lS,execOp→lT,Program→lU,Operand→lV,Oper→lW,FuncId→lX,IntKind→lY,Act→lZ,setRow_other→l5,Frame→l7
open Go.Result renaming andThen_ok→aD
open List renaming getElem?_eq_some_iff→aE,all_eq_true→aH,map_cons→aI,getElem?_map→aK,length_take→aL,mem_map→aM,length_map→aN,replicate→aQ,append_assoc→aU,getElem?_cons_zero→aX,length_append→ae,getElem?_take→aj,eq_nil_of_length_eq_zero→ar,map_nil→au,map_congr_left→bK,getElem?_drop→bO,map_toArray→bT,size_toArray→bW,getElem?_replicate→bc,length_drop→bg,getElem_mem→b9,mem_range→cB,map_map→cG,range→cO,range'→cV,getElem?_toArray→cW,mem_filter→ck
open Nat renaming beq→aF,blt→aO,mul_le_mul_right→aT,ble→aY,zero_add→aw,lt_or_ge→ay,add_mul→bD,le_add_right→bR,le_trans→bV,lt_irrefl→bj,add_zero→bu,not_lt→cv,zero_le→eP
open Go.Sem renaming run_bind→aG,run_pure→aJ
open Option.some renaming injEq→aR
open Array renaming getElem?_eq_some_iff→aW,length_toList→aq,replicate→cQ,getElem?_eq_getElem→dQ,toArray_toList→dc,getElem?_modify→eI,getElem?_eq_none→jY
open ByteArray renaming empty→ao
open Option renaming isSome_iff_exists→bC,bind_some→kS
open Go.Utf8 renaming encode→bE,decode→dD
open Go.Sort renaming putRow→bU,ahead→bY,putCells→cH,grow→cP,mapBlock→cm,heap_grow_old→eJ,Holds→gX
open Go.Builtin renaming zeroCells→bZ,len_→dt,lenOf→eA,clear_→jw
open Classical renaming byContradiction→bx
open Prod.mk renaming inj→cC
open Bool renaming or_eq_false_iff→dG
open Go.Op renaming equal→dp,equalIn→eQ
open Go.Region renaming binds→du
open Go.Instr renaming storeAt→dz
open Go.Lib renaming compact→fK,keeps_lt_one→kB,compactUpTo→kL,TabIs→kR
open Go.Deferred renaming ofValue→fR
open Go.Extern renaming findNext→gd,find→ju
open Go.DataW renaming trod→iK
open Go.Extern.AbiNoEscape renaming same→iq
open Go.World renaming cells?→jX,shape?→jZ
open List.cons renaming inj→kc
namespace Go.Kx
section
variable [kv]
structure Dl:Type 1 where
 dL:List (Nat×SV)
 dM:List (Nat×MO)
 dV:List (Nat×VF)
 n:Nat
def Dl.ap(d:Dl)(s:St):St:=⟨d.dL++s.L,d.dM++s.M,d.dV++s.V,s.nx+d.n⟩
inductive Cf:Type 1
 |co (k:List Item) (s:St)
 |rg (m:Option (Nat×St×List Ent)) (ops:Array lW) (i:Nat) (k:List Item) (s:St)
 |no
def Wd(X:lB):Cf->Prop
 | .co k s=>WP X k s
 | .rg none ops i k s=>kg X ops (cV i (ops.size-i)) (rk X k) s
 | .rg (some q) ops i k _=>AllLS X ops 0 q.2.2->q.2.2.length=i->WP X (.code (.region q.1 ops true)::k) q.2.1
 | .no=>False
structure Wc (X:lB) (c:Cf):Prop where
 h:Wd X c
def ZtF(ops:Array lW)(o:lW):List Nat:=(match o.guard with
 |none=>[]
 |some (j,_)=>match ops[j]? with
  |some oj=>oj.dst.toList
  |none=>[])++tmpsO o.op.operands.toList
where tmpsO:List lV->List Nat
 | []=>[]
 | .tmp t::r=>t::tmpsO r
 |_::r=>tmpsO r
def Zf0(L:List (Nat×SV)):List Nat->List (Nat×SV)
 | []=>[]
 |d::r=>match Yg L d with
  |some v=>(d,v)::Zf0 L r
  |none=>Zf0 L r
def Zrj:SC->List Nat
 | .bp k _ | .sp k _ _ _ | .sl k | .px k _=>[k]
 | .cl _ fs ks=>fs++ks
 |_=>[]
def Zbn:List SC->List Nat
 | []=>[]
 |c::r=>Zrj c++Zbn r
def ZoI:SV->List SC
 | .c x=>[x]
 | .a cs=>cs
 | .t vs=>vs.flatMap fun v=>match v with | .inl x=>[x] | .inr cs=>cs
 | .u=>[]
def ZfB:List (Nat×SV)->List Nat
 | []=>[]
 |q::r=>Zbn (ZoI q.2)++ZfB r
def ZbS{α:Type _}(ks:List Nat):List (Nat×α)->List Nat->List (Nat×α)
 | [],_=>[]
 | (k,v)::r,seen=>bif Q2 k ks && !(Q2 k seen) then (k,v)::ZbS ks r (k::seen) else ZbS ks r seen
def ZaC(V:List (Nat×VF)):List Nat->List Nat
 | []=>[]
 |k::r=>match Yg V k with
  |some (.el j _)=>k::j::ZaC V r
  |some (.vw j _ _ _)=>k::j::ZaC V r
  |_=>k::ZaC V r
def ZeX(M:List (Nat×MO))(V:List (Nat×VF)):Nat->List Nat->List Nat->List Nat
 |0,_,acc=>acc
 |_+1,[],acc=>acc
 |n+1,k::r,acc=>bif Q2 k acc then ZeX M V n r acc else
  ZeX M V n ((match Yg M k with|some (.box cs _)=>Zbn cs|_=>[])++(match Yg V k with|some (.el j _)=>[j]|some (.vw j _ _ _)=>[j]|some (.pl cs)=>Zbn cs|_=>[])++r) (k::acc)
def ZqL:Op->Bool
 | .call c=>match c.callee with
  | .value _=>true
  |_=>false
 |_=>false
def ZsG:Op->Bool
 | .move _ | .assign _ | .pick _ _ _ | .unOp _ _ _ | .extract _ _ | .field _ _ _ | .build _ _ | .alloc _ | .box _ _ | .nilCheck _ | .fieldAddr _ _ _ | .makeFunc _ _ _=>true
 |_=>false
def ZsH(o:lW)(L:List (Nat×SV))(V:List (Nat×VF)):Bool:=ZsG o.op || match o.op with
 | .call c=>match c.callee with
  | .builtin .len=>match c.args.toList with
   | [x]=>match Yr L x with
    |some (.c (.sl k))=>match Yg V k with
     |some (.fn _)=>true
     |_=>false
    |_=>false
   |_=>false
  |_=>false
 |_=>false
def ZuK(o:lW)(L:List (Nat×SV))(s:St):List Nat:=match o.op with
 | .load _ x=>match Yr L x with
  |some (.c (.v _))=>(s.M.filterMap fun p=>match p.2 with | .abs _=>some p.1|_=>none)++s.V.filterMap fun p=>match p.2 with | .fn _=>some p.1|_=>none
  |_=>[]
 |_=>[]
def Zew:List (Nat×MO)->List Nat
 | []=>[]
 | (k,.abs _)::r=>k::Zew r
 |_::r=>Zew r
def ZtG(ops:Array lW)(o:lW)(s:St):St:=
 let L:=Zf0 s.L (ZtF ops o)
 let ks:=bif ZqL o.op then ZeX s.M s.V 10000 (ZfB L) []++Zew s.M else ZaC s.V (ZfB L)++ZuK o L s
 ⟨L,bif ZsH o L s.V then [] else ZbS ks s.M [],ZbS ks s.V [],s.nx⟩
def Hc(sv:St)(d:Dl):Ent:=⟨sv.L,sv.V,sv.M.filter (fun q=>UG q.1 d.dM),sv.M.filter (fun q=> !(UG q.1 d.dM)),sv.nx,d.dL,d.dV,d.dM,sv.nx+d.n⟩
def TQ(m:Option (Nat×St×List Ent))(ops:Array lW)(o:lW)(s:St):St:=match m with
 |none=>s
 |some _=>ZtG ops o s
def HP(m:Option (Nat×St×List Ent))(ops:Array lW)(i:Nat)(k:List Item)(s sv:St)(d:Dl):Cf:=match m with
 |none=>.rg none ops (i+1) k (d.ap s)
 |some q=>.rg (some (q.1,q.2.1,q.2.2++[Hc sv d])) ops (i+1) k (d.ap s)
theorem AllLS.snoc{X:lB}{ops:Array lW}:∀ {l:List Ent} {i:Nat} {e:Ent},AllLS X ops i l->LS X ops (i+l.length) e->AllLS X ops i (l++[e])
 | [],i,e,_,h=>.cons h .nil
 |x::l,i,e,.cons h1 h2,h=>.cons h1 (AllLS.snoc h2 (by rw[show i+1+l.length=i+(x::l).length by simp;omega];exact h))
theorem Dy{α:Type _}{p:Nat->Bool}:∀ {l:List (Nat×α)} {k:Nat},Yg (l.filter fun q=>p q.1) k=bif p k then Yg l k else none
 | [],k=>by cases p k<;>rfl
 | (j,u)::r,k=>by
  rw[List.filter_cons];simp only[];rw[YF];split
  ·rename_i b;rw[YF,Dy];split
   ·rename_i e;subst e;rw[b];rfl
   ·rfl
  ·rename_i b;rw[Dy];split
   ·rename_i e;subst e;simp only[Bool.not_eq_true]at b;rw[b];rfl
   ·rfl
theorem LS.ent{X:lB}{ops:Array lW}{i:Nat}{o:lW}{b:St}{d:Dl}(x:ops[i]?=some o)(y:Y3 ops b.L o=some true)(z:d.dL.map (·.1)=o.dst.toList)
    (A:∀nk E0 F0 w0 n0 Z E F w a,ky (X.var nk E0 F0 w0 n0 Z) b E F w a->o.wp X.P a w (fun r w'=>∃g j,ky (X.var nk E0 F0 w0 n0 Z) (d.ap b) g j w' r) (fun _ _ _=>False)):LS X ops i (Hc b d):=by
  refine⟨o,x,z,.inl ⟨y,fun nk E0 F0 w0 n0 Z E F w a C=>?_⟩⟩;have key:∀k m,Yg b.M k=some m->Yg ((Hc b d).W++(Hc b d).R) k=some m:=fun k m h=>by
    show Yg (b.M.filter (fun q=>UG q.1 d.dM)++b.M.filter (fun q=> !(UG q.1 d.dM))) k=some m;rw[Wi,Dy (p:=fun k=>UG k d.dM),Dy (p:=fun k=> !(UG k d.dM))];cases c:UG k d.dM with
    |true=>simp only[l9,h]
    |false=>simp only[lf,Bool.not_false,l9,h]
  have n:ky (X.var nk E0 F0 w0 n0 Z) b E F w a:=C.weaken rfl (fun _ _ h=>h) key (fun _ _ h=>h);refine Oper.wp_imp (fun r w' c=>?_) (A nk E0 F0 w0 n0 Z E F w a n);have⟨g,j,l⟩:=c;refine⟨g,j,l.weaken rfl (fun e v h=>?_) (fun k m h=>?_) (fun k f h=>?_)⟩
  · have h:Yg d.dL e=some v:=h;show Yg (d.dL++b.L) e=some v;rw[Wi,h]
  · have h:Yg (d.dM++b.M.filter (fun q=> !(UG q.1 d.dM))) k=some m:=h;show Yg (d.dM++b.M) k=some m;rw[Wi]at h ⊢;cases u:Yg d.dM k with
    |some v=>rw[u]at h;exact h
    |none=>
      rw[u]at h;simp only[]at h ⊢;rw[Dy (p:=fun k=> !(UG k d.dM))]at h;cases c:UG k d.dM with
      |true=>rw[c]at h;cases h
      |false=>rw[c]at h;exact h
  · have h:Yg d.dV k=some f:=h;show Yg (d.dV++b.V) k=some f;rw[Wi,h]
section
variable {X:lB}{tt:List (Nat×TD)}
variable {o:lW}
theorem HC{ops:Array lW}{i:Nat}(h:ops[i]?=some o):cV i (ops.size-i)=i::cV (i+1) (ops.size-(i+1)):=by have:=(aW.1 h).1;rw[show ops.size-i=(ops.size-(i+1))+1 by omega,List.range'_succ]
variable {k:List Item}{s:St}
theorem Zmm{m:Option (Nat×St×List Ent)}{ops:Array lW}{i:Nat}{d:Dl}(b:ops[i]?=some o)(c:Y3 ops (TQ m ops o s).L o=some true)(g:d.dL.map (·.1)=o.dst.toList)
    (e:∀nk E0 F0 w0 n0 Z E F w a,ky (X.var nk E0 F0 w0 n0 Z) (TQ m ops o s) E F w a->o.wp X.P a w (fun j w'=>∃n p,ky (X.var nk E0 F0 w0 n0 Z) (d.ap (TQ m ops o s)) n p w' j) (fun _ _ _=>False))
    (h:Wc X (HP m ops i k s (TQ m ops o s) d)):Wc X (.rg m ops i k s):=by
  have⟨h⟩:=h;refine⟨?_⟩;cases m with
  |none=>
    show kg X ops (cV i (ops.size-i)) (rk X k) s;rw[HC b];exact kg.op b c (e X.nk X.E0 X.F0 X.w0 X.n0 X.Z) h
  |some q=>
    intro l f;refine h (l.snoc ?_) (by simp[f]);rw[aw,f];exact LS.ent b c g e
theorem Zun{m:Option (Nat×St×List Ent)}{ops:Array lW}{i:Nat}{d:Nat}(c:ops[i]?=some o)(e:Y3 ops (TQ m ops o s).L o=some false)(f:o.dst=some d)(g:aO d X.fn.ntmps=true)
  (h:Wc X (HP m ops i k s (TQ m ops o s) ⟨[(d,.u)],[],[],0⟩)):Wc X (.rg m ops i k s):=by
 have⟨h⟩:=h;refine⟨?_⟩;cases m with
 |none=>
  show kg X ops (cV i (ops.size-i)) (rk X k) s;rw[HC c];exact kg.skip c e f (Y9 g) h
 |some q=>
  intro n j;refine h (n.snoc ?_) (by simp[j]);rw[aw,j];exact⟨o,c,by show [d]=_;rw[f];rfl,.inr ⟨e,fun l v b=>by have b:(l,v)∈[(d,SV.u)]:=b;simp only[List.mem_singleton,Zr]at b;exact⟨b.2,by rw[b.1];exact Y9 g⟩,rfl,rfl⟩⟩
def Zgn(tt:List (Nat×TD))(n:Nat)(o:lW):St->Option Dl
 |⟨L,M,V,nx⟩=>match o.op with
  | .alloc t=>match Yg tt t with
   |some d=>match o.dst with
    |some x=>bif aO x n then some ⟨[(x,.c (.bp nx 0))],[(nx,.box d.z t)],[],1⟩ else none
    |none=>none
   |none=>none
  | .box t v=>match Yr L v with
   |some sv=>match WI sv with
    |some cs=>match o.dst with
     |some x=>bif aO x n then some ⟨[(x,.c (.bp nx 0))],[(nx,.box cs t)],[],1⟩ else none
     |none=>none
    |none=>none
   |none=>none
  | .store t ad v=>match Yg tt t with
   |some d=>match Yr L ad with
    |some (.c (.bp k off))=>match Yr L v with
     |some sv=>match WI sv with
      |some ps=>match Yg M k with
       |some (.box cs t')=>bif (aF ps.length d.sz && aY (off+ps.length) cs.length) then (match o.dst with
        |none=>some ⟨[],[(k,.box (cs.take off++ps++cs.drop (off+ps.length)) t')],[],0⟩
        |some _=>none) else none
       |_=>none
      |none=>none
     |none=>none
    |_=>none
   |none=>none
  |op=>match DW tt ⟨L,M,V,nx⟩ op with
   |some v=>match o.dst with
    |some x=>bif aO x n then some ⟨[(x,v)],[],[],0⟩ else none
    |none=>none
   |none=>none
theorem Zul{n:Nat}{d:Dl}(h:Zgn tt n o s=some d):HM tt n o s=some (d.ap s)/\d.dL.map (·.1)=o.dst.toList:=by
  have⟨L,M,V,nx⟩:=s;have⟨dst,op,ty,pos,m,g⟩:=o;unfold Zgn at h;unfold HM;simp only[]at h ⊢;split at h
  · rename_i t;cases e:Yg tt t with
    |none=>rw[e]at h;cases h
    |some l=>
      rw[e]at h;simp only[]at h ⊢;cases dst with
      |none=>cases h
      |some x=>
        simp only[]at h ⊢;cases b:aO x n with
        |false=>rw[b]at h;cases h
        |true=>rw[b]at h;cases h;refine⟨?_,rfl⟩;simp only[e,b,l9];rfl
  · rename_i t v;cases c:Yr L v with
    |none=>rw[c]at h;cases h
    |some j=>
      rw[c]at h;simp only[]at h ⊢;cases f:WI j with
      |none=>rw[f]at h;cases h
      |some cs=>
        rw[f]at h;simp only[]at h ⊢;cases dst with
        |none=>cases h
        |some x=>
          simp only[]at h ⊢;cases b:aO x n with
          |false=>rw[b]at h;cases h
          |true=>rw[b]at h;cases h;refine⟨?_,rfl⟩;simp only[c,f,b,l9];rfl
  · rename_i t y v;cases e:Yg tt t with
    |none=>rw[e]at h;cases h
    |some l=>
      rw[e]at h;simp only[]at h ⊢;split at h
      · rename_i k off i;cases c:Yr L v with
        |none=>rw[c]at h;cases h
        |some j=>
          rw[c]at h;simp only[]at h ⊢;cases f:WI j with
          |none=>rw[f]at h;cases h
          |some ps=>
            rw[f]at h;simp only[]at h ⊢;split at h
            · rename_i cs z p;cases b:(aF ps.length l.sz && aY (off+ps.length) cs.length) with
              |false=>rw[b]at h;cases h
              |true=>
                rw[b]at h;simp only[l9]at h ⊢;cases dst with
                |some x=>cases h
                |none=>
                  cases h;refine⟨?_,rfl⟩;simp only[e,i,c,f,p,b,l9];rfl
            · cases h
      · cases h
  · rename_i q r u;cases c:DW tt ⟨L,M,V,nx⟩ op with
    |none=>rw[c]at h;cases h
    |some v=>
      rw[c]at h;simp only[]at h;cases dst with
      |none=>cases h
      |some x=>
        simp only[]at h;cases b:aO x n with
        |false=>rw[b]at h;cases h
        |true=>
          rw[b]at h;cases h;refine⟨?_,rfl⟩;split
          · exact (q _ rfl).elim
          · exact (r _ _ rfl).elim
          · exact (u _ _ _ rfl).elim
          · simp only[c,b,l9];rfl
variable {c:Code}
theorem ZuG{P:lU}{b:l7}{a:lZ}{cs:List l7}{w:lQ}:step P (lone (b.atR a (.code (.scope c)::k)) cs w)=.next (lone (b.atR a (.code c::.inScope c::k)) cs w):=
 step_lone_go (by simp[stepG,stepG.exec,Frame.atR])
theorem ZuF{P:lU}{b:l7}{a:lZ}{cs:List l7}{w:lQ}:step P (lone (b.atR a (.inScope c::k)) cs w)=.next (lone (b.atR a k) cs w):=
 step_lone_go (by simp[stepG,stepG.exec,Frame.atR])
theorem WP.scope{X:lB}(h:WP X (.code c::.inScope c::k) s):WP X (.code (.scope c)::k) s:=
 fun E F w a b=>ku.head (fun _ _ _ _ _=>.one ZuG) (h E F w a b)
theorem WP.inScope{X:lB}(h:WP X k s):WP X (.inScope c::k) s:=
 fun E F w a b=>ku.head (fun _ _ _ _ _=>.one ZuF) (h E F w a b)
def a1(tt:List (Nat×TD))(nt:Nat):Cf->Cf
 | .co k s=>match k with
  | .inBlock _::k'=>.co k' s
  | .inScope _::k'=>.co k' s
  | .code c::k'=>match c with
   | .seq x y=>.co (.code x::.code y::k') s
   | .skip=>.co k' s
   | .label _=>.co k' s
   | .block id x=>.co (.code x::.inBlock id::k') s
   | .scope x=>.co (.code x::.inScope x::k') s
   | .exit id=>match exitTo id k' with
    |some k2=>.co k2 s
    |none=>.no
   | .region id ops dr=>match dr with
    |true=>.rg (some (id,s,[])) ops 0 k' s
    |false=>bif TG ops then .rg none ops 0 k' s else .no
   | .cond x y z=>match x with
    | .tmp d=>match Yg s.L d with
     |some (.c (.b t))=>match t with
      |true=>.co (.code y::k') s
      |false=>.co (.code z::k') s
     |_=>.no
    | .const (.bool t)=>match t with
     |true=>.co (.code y::k') s
     |false=>.co (.code z::k') s
    |_=>.no
   |_=>.no
  |_=>.no
 | .rg m ops i k s=>match ops[i]? with
  |none=>match m with
   |none=>bif aF i ops.size then .co k s else .no
   |some _=>.no
  |some o=>match Y3 ops (TQ m ops o s).L o with
   |some true=>match Zgn tt nt o (TQ m ops o s) with
    |some d=>HP m ops i k s (TQ m ops o s) d
    |none=>.no
   |some false=>match o.dst with
    |some d=>bif aO d nt then HP m ops i k s (TQ m ops o s) ⟨[(d,.u)],[],[],0⟩ else .no
    |none=>.no
   |none=>.no
 | .no=>.no
def Wn(tt:List (Nat×TD))(nt:Nat):Nat->Cf->Cf
 |0,c=>c
 |n+1,c=>Wn tt nt n (a1 tt nt c)
theorem Zev(lO:kf X.P tt){c:Cf}(h:Wc X (a1 tt X.fn.ntmps c)):Wc X c:=by
 unfold a1 at h;split at h
 ·split at h
  ·exact⟨WP.inBlock h.1⟩
  ·exact⟨WP.inScope h.1⟩
  ·split at h
   ·exact⟨WP.seq h.1⟩
   ·exact⟨WP.skip h.1⟩
   ·exact⟨WP.label h.1⟩
   ·exact⟨WP.block h.1⟩
   ·exact⟨WP.scope h.1⟩
   ·split at h
    ·rename_i q;exact⟨WP.exit q h.1⟩
    ·exact h.1.elim
   ·split at h
    ·exact⟨h.1 .nil rfl⟩
    ·rename_i ops r;cases b:TG ops with
     |false=>rw[b]at h;exact h.1.elim
     |true=>
      rw[b]at h;refine⟨WP.region b ?_⟩;have h:kg X _ (cV 0 (_-0)) _ _:=h.1;rw[List.range_eq_range'];exact h
   ·split at h
    ·split at h
     ·rename_i l;split at h
      ·exact⟨WP.condT rfl l h.1⟩
      ·exact⟨WP.condF rfl l h.1⟩
     ·exact h.1.elim
    ·split at h
     ·exact⟨WP.condCT h.1⟩
     ·exact⟨WP.condCF h.1⟩
    ·exact h.1.elim
   ·exact h.1.elim
  ·exact h.1.elim
 ·rename_i m ops i k s;split at h
  ·rename_i f;split at h
   ·cases e:aF i ops.size with
    |false=>rw[e]at h;exact h.1.elim
    |true=>
     rw[e]at h;refine⟨?_⟩;show kg X ops (cV i (ops.size-i)) (rk X k) s;rw[Zd e,Nat.sub_self];exact kg.nil h.1
   ·exact h.1.elim
  ·rename_i o f;split at h
   ·rename_i g;split at h
    ·rename_i d j;have⟨n,p⟩:=Zul j;exact Zmm f g p (fun nk E0 F0 w0 n0 Z=>Zl7 (X:=X.var nk E0 F0 w0 n0 Z) lO n) h
    ·exact h.1.elim
   ·rename_i g;split at h
    ·rename_i d j;cases e:aO d X.fn.ntmps with
     |false=>rw[e]at h;exact h.1.elim
     |true=>rw[e]at h;exact Zun f g j e h
    ·exact h.1.elim
   ·exact h.1.elim
 ·exact h.1.elim
theorem ZhV(lO:kf X.P tt):∀(n:Nat) {c:Cf},Wc X (Wn tt X.fn.ntmps n c)->Wc X c
 |0,_,h=>h
 |n+1,_,h=>Zev lO (ZhV lO n h)
end
open Go
def UF(b:Nat)(s:be)(p:Nat):SH where
 fp:=fun x=>x=b
 ok:=fun _ w=>w.heap[b]?=some (.stringIter s p)
 mono:=fun _ hb h=>by rw[hb b rfl];exact h
section
variable {X:lB}{s:St}{ops:Array lW}{lL:lZ->lQ->Prop}{tt:List (Nat×TD)}
variable {d:Nat}{m:be}{o:lW}{lK:List Nat}{x:lV}
theorem kg.rng(lO:kf X.P tt){i:Nat}{t:lS}{q:TD}
  (r:ops[i]?=some o) (u:Y3 ops s.L o=some true) (l:o.op=.range t x) (y:o.dst=some d) (z:Yg tt t=some q) (g:aF q.kd 2=true)
  (A:Yr s.L x=some (.c (.s m))) (C:aO d X.fn.ntmps=true)
  (D:∀b,kg X ops lK lL ⟨(d,.c (.v (.pointer (some ⟨b,0,none⟩))))::s.L,(s.nx,.abs (UF b m 0))::s.M,s.V,s.nx+1⟩):kg X ops (i::lK) lL s:=by
 intro E F w a f;simp only[wpOps,r,S3 f u,mA];have⟨I,_⟩:=f.eval A;have K:X.P.underlying t=some .string:=by have j:=(lO.get z).2.1;have g:=Zd g;unfold U2 at j;split at j<;>simp_all
 have p:w.heap.size<=(w.alloc (.stringIter m 0)).heap.size:=by simp
 have N:=f.world (w':=w.alloc (.stringIter m 0)) rfl rfl .m p (fun b n=>heap_alloc_old w _ (h:=n));have j:=N.addM' (m:=.abs (UF w.heap.size m 0)) (heap_alloc_new w _) trivial (fun b n=>by have e:b=w.heap.size:=n;subst e;refine⟨fun hF=>absurd (f.hF _ hF) (bj _),fun hZ=>?_,by simp,fun k m' G H=>absurd (f.mF k m' G _ H).2.2 (bj _)⟩;have:=f.hZ _ hZ;have:=f.ext.size;omega) (fun h=>by cases h)
 refine .inl (XD (w':=w.alloc (.stringIter m 0)) (v:=.pointer (some ⟨w.heap.size,0,none⟩)) ?_ (D w.heap.size E F _ _ ?_))
 ·simp only[lT,l,I,Yt,Yn];refine Xe ?_;simp only[Instr.range,aG,Xl K,aD,aJ,run_newObj];rfl
 ·rw[y];exact j.setL (d:=d) (v:=.c (.v (.pointer (some ⟨w.heap.size,0,none⟩)))) (by first|trivial|rfl) (Y9 C)
theorem kg.nxtF{i:Nat}{b p:Nat}(k:Nat)
  (e:decide (p<m.size)=false) (j:ops[i]?=some o) (l:Y3 ops s.L o=some true) (f:o.op=.next x true) (n:o.dst=some d)
  (q:Yr s.L x=some (.c (.v (.pointer (some ⟨b,0,none⟩))))) (r:Yg s.M k=some (.abs (UF b m p))) (u:aO d X.fn.ntmps=true)
  (y:kg X ops lK lL ⟨(d,.t [.inl (.b false)])::s.L,s.M,s.V,s.nx⟩):kg X ops (i::lK) lL s:=by
 refine kg.op j l (fun E F w a g=>?_) y;have⟨z,_⟩:=g.eval q;have A:w.heap[b]?=some (.stringIter m p):=g.hM k _ r;have e:¬ p<m.size:=of_decide_eq_false e;refine XD (w':=w) (v:=.tuple #[.bool false]) ?_ ⟨E,F,?_⟩
 ·simp only[lT,f,z,Yt,Yn];refine Xe ?_;simp[Instr.next,getObj,Sem.run,A,e]
 ·rw[n];exact g.setL (d:=d) (v:=.t [.inl (.b false)]) (fun v h=>by simp at h;subst h;trivial) (Y9 u)
theorem kg.nxtT{i:Nat}{b p:Nat}(k:Nat)
  (f:decide (p<m.size)=true) (y:ops[i]?=some o) (z:Y3 ops s.L o=some true) (g:o.op=.next x true) (A:o.dst=some d)
  (C:Yr s.L x=some (.c (.v (.pointer (some ⟨b,0,none⟩))))) (r:Yg s.M k=some (.abs (UF b m p))) (D:aO d X.fn.ntmps=true)
  (G:kg X ops lK lL ⟨(d,.t [.inl (.b true),.inl (.i .i64 (p:Int)),.inl (.i .i32 ((dD m p).1:Int))])::s.L,(k,.abs (UF b m (p+(dD m p).2)))::s.M,s.V,s.nx⟩):kg X ops (i::lK) lL s:=by
 refine kg.op y z (fun E F w a j=>?_) G;have⟨H,_⟩:=j.eval C;have n:w.heap[b]?=some (.stringIter m p):=j.hM k _ r;have f:p<m.size:=lj f;have q:b<w.heap.size:=by
  rcases ay b w.heap.size with h|h
  ·exact h
  ·rw[jY h]at n;cases n
 have I:=j.setM (m':=.abs (UF b m (p+(dD m p).2))) (w':={ w with heap:=w.heap.setIfInBounds b (.stringIter m (p+(dD m p).2)) }) r rfl rfl .m (by simp)
  (fun c K l=>by have:c≠b:=fun e=>l e;simp only[Array.getElem?_setIfInBounds];rw[mE (fun e=>this e.symm)])
  (fun _ h=>h) (by show (w.heap.setIfInBounds b _)[b]?=_;simp[q]) trivial (fun h=>by cases h)
 refine XD (w':={ w with heap:=w.heap.setIfInBounds b (.stringIter m (p+(dD m p).2)) }) (v:=.tuple #[.bool true,goInt (p:Int),.int .i32 ((dD m p).1:Int)]) ?_ ⟨E,F,?_⟩
 ·simp only[lT,g,H,Yt,Yn];refine Xe ?_;simp[Instr.next,getObj,setObj,Sem.run,n,f]
 ·rw[A];exact I.setL (d:=d) (v:=.t [.inl (.b true),.inl (.i .i64 (p:Int)),.inl (.i .i32 ((dD m p).1:Int))]) (fun v u=>by simp at u;rcases u with rfl|rfl|rfl<;>trivial) (Y9 D)
end
end
section
variable [kv]
section
variable {X:lB}{s:St}{tt:List (Nat×TD)}{ops:Array lW}{lL:lZ->lQ->Prop}
theorem kg.stp{α:Type}{R:k6 α}(O:ki R)(lO:kf X.P tt){i:Nat}{lK:List Nat}{o:lW}{t:lS}{td:TD}{x y:lV}{k q off:Nat}{n:Int}{xs:List α}{e:α}{fr:Bool}{v:SV}{ps:List SC}(Y:α)
  (hi:idx xs n=some e) (ho:ops[i]?=some o) (hg:Y3 ops s.L o=some true) (hop:o.op=.store t x y) (hd:o.dst=none)
  (hx:Yr s.L x=some (.c (.px q off))) (hV:Yg s.V q=some (.el k (n.toNat*R.sz))) (hM:Yg s.M k=some (.own R xs fr)) (ht:Yg tt t=some td)
  (hy:Yr s.L y=some v) (Z:WI v=some ps)
  (hk:O.chk (Yg (O.facts s.nx e++s.V)) Y ((O.cells s.nx e).take off++ps++(O.cells s.nx e).drop (off+ps.length)))
  (hc:(aF ps.length td.sz && aY (off+ps.length) R.sz)=true)
  (k:kg X ops lK lL ⟨s.L,(k,.own R (YE xs n Y) fr)::s.M,O.facts s.nx e++s.V,s.nx+O.nk⟩):kg X ops (i::lK) lL s:=by
 refine kg.op ho hg (fun E F w a l=>?_) k;rename_i S;simp only[Zc]at hc;have⟨c1,c2⟩:=hc;have c1:=Zd c1;have c2:=Ze c2;have⟨_,_,N⟩:=VD hi;have hsl:=l.hM S _ hM;simp only[MO.ok]at hsl;rcases hsl with⟨rfl,_⟩|⟨b,o',cap,arr,ty,fz,hv,hcap,hsza,hth,hh,hr⟩
 ·simp at N
 have⟨vs,G,hvs⟩:=hr n.toNat e N;have⟨E2,a1,_,a2,a3,a4,a5,a6⟩:=O.ok G s.nx E l.one;have⟨hq,_⟩:=l.hV q _ hV;have hqn:=(l.wf.hV q _ hV).1;have hk0:=(l.wf.hM S _ hM).1;rw[<-(a1 q hqn).1,<-(a1 S hk0).1]at hq;rw[<-(a1 S hk0).1]at hv;have hs2:=(l.env a1 a3).addF (fs:=O.facts s.nx e) (n:=O.nk) (fun p Z=>a5 p Z);replace l:=hs2;have⟨e1,_⟩:=l.eval hx;have⟨e2,ek⟩:=l.eval hy;have⟨ec,ekk⟩:=HR (s:=⟨s.L,s.M,O.facts s.nx e++s.V,s.nx+O.nk⟩) l.one Z ek;have hvl:=R.len G;have hcl:(O.cells s.nx e).length=R.sz:=by rw[<-hvl,a4,aN]
 have hin:n.toNat<xs.length:=(aE.1 N).1;have hroom:o'+n.toNat*R.sz+R.sz<=arr.size:=by have:(n.toNat+1)*R.sz<=cap*R.sz:=aT _ (by omega);rw[bD]at this;omega
 have z:(ps.map (Yn E2)).length=ps.length:=aN ..;have hst:=Qb (P:=X.P) b (o'+n.toNat*R.sz+off) ty fz (ps.map (Yn E2)) 0 arr w hh hth (by rw[z];omega)
  (by intro u hu;obtain⟨c,hc',rfl⟩:=aM.1 hu;exact QQ l.one (ekk c hc'))
 let d:=(arr.toList.take (o'+n.toNat*R.sz+off+0)++ps.map (Yn E2)++arr.toList.drop (o'+n.toNat*R.sz+off+0+(ps.map (Yn E2)).length)).toArray
 have hrun:(lT a.eval o).run X.P w=.ok .skip (w.setRow b d):=by
  have hsv:(dz t (a.eval x) (a.eval y)).run X.P w=.ok () (w.setRow b d):=by
   rw[e1,e2];have hsz:(Yt E2 v).cells.size=td.sz:=by rw[ec];simp[c1]
   have Z:Yt E2 (.c (.px q off))=.pointer (some ⟨b,o'+n.toNat*R.sz+off,none⟩):=by show WW (E2.ρ q) off=_;rw[hq,hv];rfl
   rw[Z];simp only[dz,Instr.sureAddr,aG,aJ,aD,storeVar,DQ w (lO.get ht),hsz,ne_eq,lu,mC];have:(Yt E2 v).cells.toList=ps.map (Yn E2):=by rw[ec]
   rw[this];exact hst
  simp only[lT,hop,aG,hsv,aD,aJ]
 refine HW hrun ?_;have hmf:=l.mF S _ hM;have hbF:¬ F b:=(hmf b (by show YV (E2.ρ S)=some b;rw[hv];rfl)).1;have hg:X3 F w F (w.setRow b d):=⟨fun _ h=>h,fun b' hb'=>l5 w b b' _ (fun h=>hbF (h▸hb'))⟩
 have I:d.size=arr.size:=by have T:arr.toList.length=arr.size:=aq;simp only[d,bW,ae,aL,bg,T,z];omega
 -- what the cells are now
 have K:∀j,d[j]?=if o'+n.toNat*R.sz+off<=j/\j<o'+n.toNat*R.sz+off+ps.length then (ps.map (Yn E2))[j-(o'+n.toNat*R.sz+off)]? else arr[j]?:= by
  intro j;have T:arr.toList.length=arr.size:=aq;have U:(arr.toList.take (o'+n.toNat*R.sz+off)).length=o'+n.toNat*R.sz+off:=by rw[aL,T];omega
  show ((arr.toList.take (o'+n.toNat*R.sz+off+0)++ps.map (Yn E2)++arr.toList.drop (o'+n.toNat*R.sz+off+0+(ps.map (Yn E2)).length)).toArray)[j]?=_;simp only[bu,cW,aU,z];by_cases c:j<o'+n.toNat*R.sz+off
  ·rw[Zo (by rw[U];exact c),aj,mD c,mE (by omega)];simp
  ·rw[Zp (by rw[U];omega),U];by_cases c':j<o'+n.toNat*R.sz+off+ps.length
   ·rw[Zo (by rw[z];omega),mD ⟨by omega,c'⟩]
   ·rw[Zp (by rw[z];omega),z,bO,mE (by omega)];rw[show o'+n.toNat*R.sz+off+ps.length+(j-(o'+n.toNat*R.sz+off)-ps.length)=j by omega];simp
 have C:R.rep F (w.setRow b d) Y (((O.cells s.nx e).take off++ps++(O.cells s.nx e).drop (off+ps.length)).map (Yn E2)):=
  R.mono hg (O.cok hk E2 F w (fun k f h=>l.hV k f h))
 have hrow:Row R F (w.setRow b d) (YE xs n Y) d o':=by
  intro i' x' r;unfold YE at r;rw[List.getElem?_set]at r;split at r
  ·rename_i hii;try rw[mD hin]at r
   cases r;refine⟨_,C,fun j u A=>?_⟩;rw[K,<-hii];rw[aK]at A;have g:((O.cells s.nx e).take off).length=off:=by rw[aL,hcl];omega
   by_cases c:off<=j/\j<off+ps.length
   ·rw[mD ⟨by omega,by omega⟩,show o'+n.toNat*R.sz+j-(o'+n.toNat*R.sz+off)=j-off by omega,aK];rw[aU,Zp (by rw[g];exact c.1),g,Zo (by omega)]at A;exact A
   ·rw[mE (by omega)];have W:∃H,(O.cells s.nx e)[j]?=some H/\u=Yn E2 H:=by
     rcases ay j off with D|hge
     ·rw[aU,Zo (by rw[g];exact D),aj,mD D]at A;rw[Zn]at A;have⟨H,h1,h2⟩:=A;exact⟨H,h1,h2.symm⟩
     ·rw[aU,Zp (by rw[g];exact hge),g,Zp (by omega),bO,
       show off+ps.length+(j-off-ps.length)=j by omega,Zn]at A
      have⟨H,h1,h2⟩:=A;exact⟨H,h1,h2.symm⟩
    have⟨H,h1,h2⟩:=W;have:=hvs j (Yn E2 H) (by rw[a4,aK,h1];rfl);rw[h2];exact this
  ·rename_i hne;have⟨us,hu,huv⟩:=hr i' x' r;refine⟨us,R.mono hg hu,fun j u A=>?_⟩;have hjl:j<R.sz:=by rw[<-R.len hu];exact (aE.1 A).1
   rw[K,mE]
   ·exact huv j u A
   ·rintro⟨g1,g2⟩;rcases ay i' n.toNat with D|hge
    ·have:(i'+1)*R.sz<=n.toNat*R.sz:=aT _ D;rw[bD]at this;omega
    ·have:(n.toNat+1)*R.sz<=i'*R.sz:=aT _ (by omega);rw[bD]at this;omega
 refine⟨E2,F,?_⟩;rw[hd];refine l.setM (m':=.own R (YE xs n Y) fr) hM rfl rfl .m (by simp) (fun b' _ hne=>l5 w b b' _ (fun h=>hne (by subst h;show YV (E2.ρ S)=some b';rw[hv];rfl))) (fun _ h=>h) ?_ trivial (fun h=>h);refine .inr ⟨b,o',cap,d,ty,fz,?_,?_,by rw[I];exact hsza,by rw[I];exact hth,setRow_heap w b arr _ ty fz hh,hrow⟩
 ·rw[hv];simp[YE]
 ·simpa[YE]using hcap
end
def Cf.ops:Cf->Array lW
 | .rg _ o _ _ _=>o
 |_=>#[]
def Cf.i:Cf->Nat
 | .rg _ _ i _ _=>i
 |_=>0
def Cf.md:Cf->Option (Nat×St×List Ent)
 | .rg m _ _ _ _=>m
 |_=>none
def Cf.kk:Cf->List Item
 | .rg _ _ _ k _=>k
 | .co (_::k) _=>k
 |_=>[]
def Cf.st:Cf->St
 | .rg _ _ _ _ s=>s
 | .co _ s=>s
 | .no=>⟨[],[],[],0⟩
def Cf.isR:Cf->Bool
 | .rg _ _ _ _ _=>true
 |_=>false
def Yf(c:Cf):lW:=(c.ops[c.i]?).getD default
def Yk(c:Cf):St:=TQ c.md c.ops (Yf c) c.st
def Xh(d:Dl)(c:Cf):Cf:=HP c.md c.ops c.i c.kk c.st (Yk c) d
def VI(c:Cf):Bool:=c.isR && (c.ops[c.i]?).isSome && (match Y3 c.ops (Yk c).L (Yf c) with|some b=>b|none=>false)
def YS(c:Cf):Nat:=(Yf c).dst.getD 0
def Tu(s:St):List Nat->List (Nat×MO)×List (Nat×VF)
 | []=>([],[])
 |k::r=>match Yg s.M k with
  |some (.own R xs _)=>match Tu s r with
   |q=>((k,.gone)::q.1,(k,.sl R xs)::q.2)
  |_=>([],[])
def Yv(s:St)(fz:List Nat):St:=⟨s.L,(Tu s fz).1++s.M,(Tu s fz).2++s.V,s.nx⟩
def Uz(s:St)(fz:List Nat):Bool:=XL fz && fz.all fun k=>match Yg s.M k with
 |some (.own _ _ fr)=>fr
 |_=>false
def Dl.fz(d:Dl)(s:St)(fz:List Nat):Dl:=⟨d.dL,d.dM++(Tu s fz).1,d.dV++(Tu s fz).2,d.n⟩
theorem Dl.fz_ap(d:Dl)(s:St)(fz:List Nat):(d.fz s fz).ap s=d.ap (Yv s fz):=by simp[Dl.fz,Dl.ap,Yv]
theorem Zj0{s:St}{k:Nat}:∀ {fz:List Nat},k ∉ fz->Yg (Tu s fz).1 k=none
 | [],_=>rfl
 |j::r,h=>by
  unfold Tu;split
  ·simp only[];rw[YF,mE fun e=>h (by rw[e];exact Zj)];exact Zj0 fun b=>h (Zi _ b)
  ·rfl
theorem Zfn{X:lB}{s:St}{E F w a}(i:ky X s E F w a):∀ {fz:List Nat},Uz s fz=true->∃m,ky X (Yv s fz) E m w a
 | [],_=>⟨F,i⟩
 |k::r,h=>by
  unfold Uz at h;simp only[Zc,List.all_cons]at h;have⟨c,d,l⟩:=h;have j:k ∉ r/\XL r=true:=by have:=P9 c;rw[List.nodup_cons]at this;refine⟨this.1,?_⟩;unfold XL at c;rw[Zc]at c;exact c.2
  have⟨F1,f⟩:=Zfn i (fz:=r) (by unfold Uz;rw[Zc];exact⟨j.2,l⟩);split at d
  ·rename_i α R xs fr hm;subst d;have g:Yg (Yv s r).M k=some (.own R xs true):=by show Yg ((Tu s r).1++s.M) k=_;rw[Wi,Zj0 j.1];exact hm
   refine⟨fun b=>F1 b\/YV (E.ρ k)=some b,?_⟩;have:=f.freeze g;have e:Tu s (k::r)=((k,.gone)::(Tu s r).1,(k,.sl R xs)::(Tu s r).2):=by
    conv=>lhs;unfold Tu
    rw[hm]
   unfold Yv;rw[e];exact this
  ·cases d
section
variable {X:lB}{tt:List (Nat×TD)}
variable {s:St}
theorem Stp.of{ops:Array lW}{i:Nat}{o:lW}{d:St}(m:ops[i]?=some o)(n:Y3 ops s.L o=some true)(r:∀K,kg X ops [] K d->kg X ops [i] K s) :
  ∀E F w a,ky X s E F w a->o.wp X.P a w (fun f w'=>∃k l,ky X d k l w' f) (fun _ _ _=>False):=fun E F w a c=>by
 have h:=r (fun f w'=>∃k l,ky X d k l w' f) (fun E F w a c=>⟨rfl,E,F,c⟩) E F w a c;have j:=S3 c n;simp only[wpOps,m,j,mA]at h;rcases h with h|⟨_,h⟩
 ·unfold Oper.wp at h ⊢;unfold Oper.upon at h ⊢;split at h
  ·exact h.2
  ·exact h.2
  ·exact h.2
  ·refine Calls.mono h fun e w' b=>?_;split at b
   ·exact b.2
   ·cases b.1
   ·have⟨a1,p,g⟩:=b;cases g.1
  ·exact Rows.mono h fun v w' b=>b.2
  ·cases h.1
  ·exact h.elim
 ·have⟨a1,p,g⟩:=h;cases g.1
variable {c:Cf}
theorem Wc.ev{d:Dl}(f:VI c=true)(p:d.dL.map (·.1)=(Yf c).dst.toList)
    (r:∀nk E0 F0 w0 n0 Z lK K,c.ops[c.i]?=some (Yf c)->Y3 c.ops (Yk c).L (Yf c)=some true->kg (X.var nk E0 F0 w0 n0 Z) c.ops lK K (d.ap (Yk c))->kg (X.var nk E0 F0 w0 n0 Z) c.ops (c.i::lK) K (Yk c))
    (k:Wc X (Xh d c)):Wc X c:=by
  unfold VI at f;rw[Zc,Zc]at f;obtain⟨⟨l,q⟩,g⟩:=f;cases c with
  |co k s=>cases l
  |no=>cases l
  |rg m ops i j s=>
    have e:ops[i]?=some (Yf (.rg m ops i j s)):=by have⟨o,e⟩:=bC.1 q;have e:ops[i]?=some o:=e;unfold Yf;show _=some ((ops[i]?).getD default);rw[e];rfl
    have h:Y3 ops (Yk (.rg m ops i j s)).L (Yf (.rg m ops i j s))=some true:=by
      split at g
      · rename_i b n;rw[g]at n;exact n
      · cases g
    exact Zmm e h p (fun nk E0 F0 w0 n0 Z=>Stp.of (X:=X.var nk E0 F0 w0 n0 Z) e h (fun K=>r nk E0 F0 w0 n0 Z [] K e h)) k
theorem Wc.evz{d:Dl}(fz:List Nat)(e:VI c=true)(f:Uz (Yk c) fz=true)(g:d.dL.map (·.1)=(Yf c).dst.toList)
    (r:∀nk E0 F0 w0 n0 Z lK K,c.ops[c.i]?=some (Yf c)->Y3 c.ops (Yv (Yk c) fz).L (Yf c)=some true->kg (X.var nk E0 F0 w0 n0 Z) c.ops lK K (d.ap (Yv (Yk c) fz))->kg (X.var nk E0 F0 w0 n0 Z) c.ops (c.i::lK) K (Yv (Yk c) fz))
    (k:Wc X (Xh (d.fz (Yk c) fz) c)):Wc X c:=by refine Wc.ev (d:=d.fz (Yk c) fz) e g (fun nk E0 F0 w0 n0 Z lK K j l h=>?_) k;rw[Dl.fz_ap]at h;have:=r nk E0 F0 w0 n0 Z lK K j l h;intro E F w a n;have⟨m,b⟩:=Zfn n f;exact this E m w a b
def Yx:Op->Nat->lV
 | .indexAddr _ x y,j | .index _ x y,j | .store _ x y,j | .binOp _ _ x y _,j | .makeSlice _ x y,j | .lookup _ x y _,j=>match j with
  |0=>x
  |_=>y
 | .mapUpdate _ x y z,j | .insert _ x y z,j=>match j with
  |0=>x
  |1=>y
  |_=>z
 | .load _ x,_ | .slice _ x _ _ _,_ | .convert _ _ x,_ | .range _ x,_ | .next x _,_=>x
 | .call c,j=>(c.args.toList[j]?).getD (.const (.bool true))
 |_,_=>.const (.bool true)
def Yq:Op->lS
 | .indexAddr t _ _ | .index t _ _ | .store t _ _ | .binOp _ t _ _ _ | .makeSlice t _ _ | .load t _ | .slice t _ _ _ _ | .convert t _ _ | .range t _ | .buildSlice t _ _ | .makeMap t _ | .lookup t _ _ _ | .mapUpdate t _ _ _ | .insert t _ _ _=>t
 | .call c=>(c.argTypes.toList[0]?).getD 0
 |_=>0
def XB:Op->lS
 | .convert _ t _ | .binOp _ _ _ _ t=>t
 | .call c=>(c.argTypes.toList[1]?).getD 0
 |_=>0
def Zxw:Op->BinOp
 | .binOp b _ _ _ _=>b
 |_=>.add
def U3:Op->Option lV
 | .slice _ _ l _ _=>l
 |_=>none
def UZ:Op->Option lV
 | .slice _ _ _ h _=>h
 |_=>none
def Tq:Op->lV
 | .call c=>match c.callee with
  | .value f=>f
  |_=>.const (.bool true)
 |_=>.const (.bool true)
def LN:Op->Array lV
 | .call c=>c.args
 |_=>#[]
def HU:Op->Array lS
 | .call c=>c.argTypes
 |_=>#[]
def Wq:Op->Nat
 | .buildSlice _ n _=>n
 |_=>0
def TL:Op->Array (Nat×lV)
 | .buildSlice _ _ p=>p
 |_=>#[]
def Yo(c:Cf)(j:Nat):Option SV:=Yr (Yk c).L (Yx (Yf c).op j)
def YC(tt:List (Nat×TD))(t:lS):TD:=(Yg tt t).getD ⟨0,0,false,[],[],0,0,0,none,0,0⟩
def YA:Option SV->Nat
 |some (.c (.sl k))|some (.c (.px k _))|some (.c (.bp k _))=>k
 |_=>0
def XJ:Option SV->Nat
 |some (.c (.px _ o))|some (.c (.bp _ o))=>o
 |_=>0
def UC:Option SV->lY
 |some (.c (.i k _))=>k
 |_=>.i64
def Ut:Option SV->SC
 |some (.c x)=>x
 |_=>.nil
def Us:Option SV->List SC
 |some (.a cs)=>cs
 |_=>[]
def Ul:Option SV->SV
 |some v=>v
 |none=>.u
def Ws(v:Option SV):List SC:=((WI (Ul v)).getD [])
def Zke:Option SV->Int
 |some (.c (.i _ n))=>n
 |_=>0
def Zmo:Option SV->be
 |some (.c (.s m))=>m
 |_=>⟨#[]⟩
def WT:Option MO->Bool
 |some (.own _ _ fr)=>fr
 |_=>false
def Xw:Option VF->Nat
 |some (.el k _)=>k
 |some (.vw k _ _ _)=>k
 |_=>0
structure SlF:Type 1 where
 {α:Type}
 R:k6 α
 xs:List α
def LY(s:St):SC->Option SlF
 | .sl k=>match Yg s.M k with
  |some (.own R xs _)=>some ⟨R,xs⟩
  |_=>match Yg s.V k with
   |some (.sl R xs)=>some ⟨R,xs⟩
   |_=>none
 |_=>none
variable {α:Type}
theorem ZeR{c:SC}{R:k6 α}{xs:List α}(h:LY s c=some ⟨R,xs⟩):∃k,c=.sl k/\(Yg s.V k=some (.sl R xs)\/∃fr,Yg s.M k=some (.own R xs fr)):=by
 unfold LY at h;split at h
 ·rename_i k;refine⟨k,rfl,?_⟩;split at h
  ·rename_i b;cases h;exact .inr ⟨_,b⟩
  ·split at h
   ·rename_i d;cases h;exact .inl d
   ·cases h
 ·cases h
theorem Ziy{c:SC}{R:k6 α}{xs:List α}(h:LY s c=some ⟨R,xs⟩):Ur X s R xs c:=by
 obtain⟨k,rfl,h|⟨fr,h⟩⟩:=ZeR h
 ·exact Zux h
 ·exact Zmi h
def d1(c:Cf)(v:SV):Dl:=⟨[(YS c,v)],[],[],0⟩
theorem Xs{L:List (Nat×SV)}{v:SV}(h:(Yf c).dst=some (YS c))(b:L=[(YS c,v)]):L.map (·.1)=(Yf c).dst.toList:=by rw[b,h];rfl
def hB(nt:Nat)(c:Cf):Bool:=VI c && aO (YS c) nt
def Sx(tt:List (Nat×TD))(sz:Nat)(c:Cf):Bool:=aF (YC tt (Yq (Yf c).op)).kd 6 && aF (YC tt (Yq (Yf c).op)).es sz
theorem Xm{b:Nat}(h:hB b c=true):VI c=true/\aO (YS c) b=true:=by unfold hB at h;rwa [Zc]at h
theorem Qd{sz b:Nat}(h:Sx tt sz c=true)(d:aO (YS c) b=true):(aO (YS c) b && aF (YC tt (Yq (Yf c).op)).kd 6 && aF (YC tt (Yq (Yf c).op)).es sz)=true:=by unfold Sx at h;rw[Bool.and_assoc,h,d];rfl
def ZbQ(s:St)(ys:List α)(c:SC):Option SlF×ULift.{1,0} (List α):=match c with
 | .nil=>(none,⟨ys⟩)
 |c=>(LY s c,⟨[]⟩)
def ZbR(R:k6 α)(ys:List α)(c:SC):Option SlF×ULift.{1,0} (List α):=match c with
 | .nil=>(none,⟨[]⟩)
 |_=>(some ⟨R,ys⟩,⟨[]⟩)
variable {ys:List α}
theorem Zmk{R:k6 α}{c:SC}(h:ZbQ s ys c=ZbR R ys c):Ur X s R ys c:=by
 unfold ZbQ at h;split at h
 ·have:=mG ULift.down (cC h).2;have h:ys=[]:=this;rw[h];exact Zuy
 ·rename_i b;unfold ZbR at h;split at h
  ·exact (b rfl).elim
  ·exact Ziy (cC h).1
def Mg{R:k6 α}(O:ki R)(V:Nat->Option VF):List α->List SC->List O.T
 | [],_=>[]
 |x::xs,cs=>O.lq V x (cs.take R.sz)::Mg O V xs (cs.drop R.sz)
def Mh{R:k6 α}(O:ki R)(V:Nat->Option VF):List α->List SC->List O.T
 | [],_=>[]
 |x::xs,cs=>O.rq V x (cs.take R.sz)::Mh O V xs (cs.drop R.sz)
def Mf(sz:Nat):List α->List SC->List SC
 | [],cs=>cs
 |_::xs,cs=>Mf sz xs (cs.drop sz)
theorem HH{R:k6 α}{O:ki R}{V:Nat->Option VF}:∀ {xs:List α} {cs:List SC},Mg O V xs cs=Mh O V xs cs->Mf R.sz xs cs=[]->QO O V xs cs
 | [],_,_,h=>h
 |_::_,_,h,g=>⟨O.eqn (kc h).1,HH (kc h).2 g⟩
def ZkY:Op->Bool
 | .binOp .neq _ _ _ _=>true
 |_=>false
def clF:Option SV->List Nat
 |some (.c (.cl _ fs _))=>fs
 |_=>[]
def clK:Option SV->List Nat
 |some (.c (.cl _ _ ks))=>ks
 |_=>[]
def ZoD(s:St)(c:Ct)(l:List (Nat×SC))(d:Nat):Dl:=
 ⟨[(d,W3 ⟨l,c.nk,s.nx⟩ c.res)],c.M1.filterMap fun p=>(Vi ⟨l,c.nk,s.nx⟩ p.1 p.2).map fun j=>(j,Tp s ⟨l,c.nk,s.nx⟩ (RA s ⟨l,c.nk,s.nx⟩ c) c.nk p.1 p.2),c.V1.map fun p=>((⟨l,c.nk,s.nx⟩:kz).sh p.1,p.2),c.nr-c.nk⟩
def dIx{R:k6 α}(O:ki R)(e:α)(c:Cf):Dl:=⟨[(YS c,.c (.px (Yk c).nx 0))],[],O.facts ((Yk c).nx+1) e++[((Yk c).nx,.pl (O.cells ((Yk c).nx+1) e))],1+O.nk⟩
def nIx{R:k6 α}(O:ki R)(e:α)(c:Cf):Cf:=Xh (dIx O e c) c
variable {m:Int}{e:α}
theorem YK{R:k6 α}{xs:List α}(lO:kf X.P tt)(O:ki R)(hi:idx xs m=some e)(k:Wc X (nIx O e c))
  (b:(hB X.fn.ntmps c,(Yf c).dst,(Yf c).op,Yo c 0,Yg (Yk c).V (YA (Yo c 0)),Yo c 1,Yg tt (Yq (Yf c).op),Sx tt R.sz c)=(true,some (YS c),.indexAddr (Yq (Yf c).op) (Yx (Yf c).op 0) (Yx (Yf c).op 1),some (.c (.sl (YA (Yo c 0)))),some (.sl R xs),some (.c (.i (UC (Yo c 1)) m)),some (YC tt (Yq (Yf c).op)),true):=by kernel_rfl):Wc X c:=by
 simp only[Zr]at b;have⟨l,f,n,o,p,q,r,u⟩:=b;have⟨v,x⟩:=Xm l;refine Wc.ev (d:=dIx O e c) v (Xs f rfl) (fun nk E0 F0 w0 n0 Z lK K g j h=>kg.ix (X:=X.var nk E0 F0 w0 n0 Z) O lO hi g j n f o p q r (Qd u x) ?_) k;have y:(dIx O e c).ap (Yk c)=⟨(YS c,.c (.px (Yk c).nx 0))::(Yk c).L,(Yk c).M,O.facts ((Yk c).nx+1) e++((Yk c).nx,.pl (O.cells ((Yk c).nx+1) e))::(Yk c).V,(Yk c).nx+1+O.nk⟩:=by simp[dIx,Dl.ap,Nat.add_assoc]
 rw[<-y];exact h
def dIo(m:Int)(sz:Nat)(c:Cf):Dl:=⟨[(YS c,.c (.px (Yk c).nx 0))],[],[((Yk c).nx,.el (YA (Yo c 0)) (m.toNat*sz))],1⟩
def nIo(m:Int)(sz:Nat)(c:Cf):Cf:=Xh (dIo m sz c) c
theorem XA{xs:List α}(lO:kf X.P tt)(R:k6 α)(hi:idx xs m=some e)(k:Wc X (nIo m R.sz c))
  (b:(hB X.fn.ntmps c,(Yf c).dst,(Yf c).op,Yo c 0,Yg (Yk c).M (YA (Yo c 0)),Yo c 1,Yg tt (Yq (Yf c).op),Sx tt R.sz c)=(true,some (YS c),.indexAddr (Yq (Yf c).op) (Yx (Yf c).op 0) (Yx (Yf c).op 1),some (.c (.sl (YA (Yo c 0)))),some (.own R xs (WT (Yg (Yk c).M (YA (Yo c 0))))),some (.c (.i (UC (Yo c 1)) m)),some (YC tt (Yq (Yf c).op)),true):=by kernel_rfl):Wc X c:=by simp only[Zr]at b;have⟨l,f,n,o,p,q,r,u⟩:=b;have⟨v,x⟩:=Xm l;refine Wc.ev (d:=dIo m R.sz c) v (Xs f rfl) (fun nk E0 F0 w0 n0 Z lK K g j h=>kg.ixo (X:=X.var nk E0 F0 w0 n0 Z) lO hi g j n f o p q r (Qd u x) h) k
def dLd{R:k6 α}(O:ki R)(e:α)(tt:List (Nat×TD))(c:Cf):Dl:=⟨[(YS c,Ul (Uf (YC tt (Yq (Yf c).op)) (XJ (Yo c 0)) (O.cells (Yk c).nx e)))],[],O.facts (Yk c).nx e,O.nk⟩
def nLd{R:k6 α}(O:ki R)(e:α)(tt:List (Nat×TD))(c:Cf):Cf:=Xh (dLd O e tt c) c
theorem Wt{R:k6 α}{xs:List α}(lO:kf X.P tt)(O:ki R)(hi:idx xs m=some e)(k:Wc X (nLd O e tt c))
  (b:(hB X.fn.ntmps c,(Yf c).dst,(Yf c).op,Yo c 0,Yg (Yk c).V (YA (Yo c 0)),Yg (Yk c).M (Xw (Yg (Yk c).V (YA (Yo c 0)))),Yg tt (Yq (Yf c).op),Uf (YC tt (Yq (Yf c).op)) (XJ (Yo c 0)) (O.cells (Yk c).nx e))=(true,some (YS c),.load (Yq (Yf c).op) (Yx (Yf c).op 0),some (.c (.px (YA (Yo c 0)) (XJ (Yo c 0)))),some (.el (Xw (Yg (Yk c).V (YA (Yo c 0)))) (m.toNat*R.sz)),some (.own R xs (WT (Yg (Yk c).M (Xw (Yg (Yk c).V (YA (Yo c 0))))))),some (YC tt (Yq (Yf c).op)),some (Ul (Uf (YC tt (Yq (Yf c).op)) (XJ (Yo c 0)) (O.cells (Yk c).nx e)))):=by kernel_rfl):Wc X c:=by simp only[Zr]at b;have⟨j,f,l,n,o,p,q,r⟩:=b;have⟨u,v⟩:=Xm j;refine Wc.ev (d:=dLd O e tt c) u (Xs f rfl) (fun nk E0 F0 w0 n0 Z lK K g i h=>kg.ldo (X:=X.var nk E0 F0 w0 n0 Z) O lO hi g i l f n o p q r v h) k
def dSt(R:k6 α)(xs:List α)(m:Int)(e2:α)(fz:List Nat)(c:Cf):Dl:=⟨[],[((Xw (Yg (Yv (Yk c) fz).V (YA (Yr (Yv (Yk c) fz).L (Yx (Yf c).op 0))))),.own R (YE xs m e2) (WT (Yg (Yv (Yk c) fz).M (Xw (Yg (Yv (Yk c) fz).V (YA (Yr (Yv (Yk c) fz).L (Yx (Yf c).op 0))))))))],[],0⟩
def nSt(R:k6 α)(xs:List α)(m:Int)(e2:α)(fz:List Nat)(c:Cf):Cf:=Xh ((dSt R xs m e2 fz c).fz (Yk c) fz) c
theorem Uc{R:k6 α}{xs:List α}(lO:kf X.P tt)(fz:List Nat)(O:ki R)(b:α)(hi:idx xs m=some e)(k:Wc X (nSt R xs m b fz c))
  (j:(VI c,(Yf c).dst,Uz (Yk c) fz,(Yf c).op,(Yr (Yv (Yk c) fz).L (Yx (Yf c).op 0)),Yg (Yv (Yk c) fz).V (YA (Yr (Yv (Yk c) fz).L (Yx (Yf c).op 0))),Yg (Yv (Yk c) fz).M (Xw (Yg (Yv (Yk c) fz).V (YA (Yr (Yv (Yk c) fz).L (Yx (Yf c).op 0))))),Yg tt (Yq (Yf c).op),(Yr (Yv (Yk c) fz).L (Yx (Yf c).op 1)),WI (Ul (Yr (Yv (Yk c) fz).L (Yx (Yf c).op 1))),O.lq (Yg (Yv (Yk c) fz).V) b ((O.cells (Yv (Yk c) fz).nx e).take (XJ (Yr (Yv (Yk c) fz).L (Yx (Yf c).op 0)))++(Ws (Yr (Yv (Yk c) fz).L (Yx (Yf c).op 1)))++(O.cells (Yv (Yk c) fz).nx e).drop ((XJ (Yr (Yv (Yk c) fz).L (Yx (Yf c).op 0)))+(Ws (Yr (Yv (Yk c) fz).L (Yx (Yf c).op 1))).length)),(aF (Ws (Yr (Yv (Yk c) fz).L (Yx (Yf c).op 1))).length (YC tt (Yq (Yf c).op)).sz && aY ((XJ (Yr (Yv (Yk c) fz).L (Yx (Yf c).op 0)))+(Ws (Yr (Yv (Yk c) fz).L (Yx (Yf c).op 1))).length) R.sz && (aF (Ws (Yr (Yv (Yk c) fz).L (Yx (Yf c).op 1))).length R.sz || aF O.nk 0)))=(true,none,true,.store (Yq (Yf c).op) (Yx (Yf c).op 0) (Yx (Yf c).op 1),some (.c (.px (YA (Yr (Yv (Yk c) fz).L (Yx (Yf c).op 0))) (XJ (Yr (Yv (Yk c) fz).L (Yx (Yf c).op 0))))),some (.el (Xw (Yg (Yv (Yk c) fz).V (YA (Yr (Yv (Yk c) fz).L (Yx (Yf c).op 0))))) (m.toNat*R.sz)),some (.own R xs (WT (Yg (Yv (Yk c) fz).M (Xw (Yg (Yv (Yk c) fz).V (YA (Yr (Yv (Yk c) fz).L (Yx (Yf c).op 0)))))))),some (YC tt (Yq (Yf c).op)),some (Ul (Yr (Yv (Yk c) fz).L (Yx (Yf c).op 1))),some (Ws (Yr (Yv (Yk c) fz).L (Yx (Yf c).op 1))),O.rq (Yg (Yv (Yk c) fz).V) b ((O.cells (Yv (Yk c) fz).nx e).take (XJ (Yr (Yv (Yk c) fz).L (Yx (Yf c).op 0)))++(Ws (Yr (Yv (Yk c) fz).L (Yx (Yf c).op 1)))++(O.cells (Yv (Yk c) fz).nx e).drop ((XJ (Yr (Yv (Yk c) fz).L (Yx (Yf c).op 0)))+(Ws (Yr (Yv (Yk c) fz).L (Yx (Yf c).op 1))).length)),true):=by kernel_rfl):Wc X c:=by simp only[Zr]at j;have⟨p,l,q,r,u,v,x,y,z,f,g,i⟩:=j;have A:=p;refine Wc.evz (d:=dSt R xs m b fz c) fz A q (by rw[l];rfl) (fun nk E0 F0 w0 n0 Z lK K n o h=>kg.sto (X:=X.var nk E0 F0 w0 n0 Z) O lO b hi n o r l u v x y z f (O.eqn g) i h) k
def dSp{R:k6 α}(O:ki R)(xs:List α)(m:Int)(e e2:α)(fz:List Nat)(c:Cf):Dl:=⟨[],[((Xw (Yg (Yv (Yk c) fz).V (YA (Yr (Yv (Yk c) fz).L (Yx (Yf c).op 0))))),.own R (YE xs m e2) (WT (Yg (Yv (Yk c) fz).M (Xw (Yg (Yv (Yk c) fz).V (YA (Yr (Yv (Yk c) fz).L (Yx (Yf c).op 0))))))))],O.facts (Yv (Yk c) fz).nx e,O.nk⟩
def nSp{R:k6 α}(O:ki R)(xs:List α)(m:Int)(e e2:α)(fz:List Nat)(c:Cf):Cf:=Xh ((dSp O xs m e e2 fz c).fz (Yk c) fz) c
theorem RN{R:k6 α}{xs:List α}(lO:kf X.P tt)(fz:List Nat)(O:ki R)(b:α)(hi:idx xs m=some e)(k:Wc X (nSp O xs m e b fz c))
  (j:(VI c,(Yf c).dst,Uz (Yk c) fz,(Yf c).op,(Yr (Yv (Yk c) fz).L (Yx (Yf c).op 0)),Yg (Yv (Yk c) fz).V (YA (Yr (Yv (Yk c) fz).L (Yx (Yf c).op 0))),Yg (Yv (Yk c) fz).M (Xw (Yg (Yv (Yk c) fz).V (YA (Yr (Yv (Yk c) fz).L (Yx (Yf c).op 0))))),Yg tt (Yq (Yf c).op),(Yr (Yv (Yk c) fz).L (Yx (Yf c).op 1)),WI (Ul (Yr (Yv (Yk c) fz).L (Yx (Yf c).op 1))),O.lq (Yg (O.facts (Yv (Yk c) fz).nx e++(Yv (Yk c) fz).V)) b ((O.cells (Yv (Yk c) fz).nx e).take (XJ (Yr (Yv (Yk c) fz).L (Yx (Yf c).op 0)))++(Ws (Yr (Yv (Yk c) fz).L (Yx (Yf c).op 1)))++(O.cells (Yv (Yk c) fz).nx e).drop ((XJ (Yr (Yv (Yk c) fz).L (Yx (Yf c).op 0)))+(Ws (Yr (Yv (Yk c) fz).L (Yx (Yf c).op 1))).length)),(aF (Ws (Yr (Yv (Yk c) fz).L (Yx (Yf c).op 1))).length (YC tt (Yq (Yf c).op)).sz && aY ((XJ (Yr (Yv (Yk c) fz).L (Yx (Yf c).op 0)))+(Ws (Yr (Yv (Yk c) fz).L (Yx (Yf c).op 1))).length) R.sz))=(true,none,true,.store (Yq (Yf c).op) (Yx (Yf c).op 0) (Yx (Yf c).op 1),some (.c (.px (YA (Yr (Yv (Yk c) fz).L (Yx (Yf c).op 0))) (XJ (Yr (Yv (Yk c) fz).L (Yx (Yf c).op 0))))),some (.el (Xw (Yg (Yv (Yk c) fz).V (YA (Yr (Yv (Yk c) fz).L (Yx (Yf c).op 0))))) (m.toNat*R.sz)),some (.own R xs (WT (Yg (Yv (Yk c) fz).M (Xw (Yg (Yv (Yk c) fz).V (YA (Yr (Yv (Yk c) fz).L (Yx (Yf c).op 0)))))))),some (YC tt (Yq (Yf c).op)),some (Ul (Yr (Yv (Yk c) fz).L (Yx (Yf c).op 1))),some (Ws (Yr (Yv (Yk c) fz).L (Yx (Yf c).op 1))),O.rq (Yg (O.facts (Yv (Yk c) fz).nx e++(Yv (Yk c) fz).V)) b ((O.cells (Yv (Yk c) fz).nx e).take (XJ (Yr (Yv (Yk c) fz).L (Yx (Yf c).op 0)))++(Ws (Yr (Yv (Yk c) fz).L (Yx (Yf c).op 1)))++(O.cells (Yv (Yk c) fz).nx e).drop ((XJ (Yr (Yv (Yk c) fz).L (Yx (Yf c).op 0)))+(Ws (Yr (Yv (Yk c) fz).L (Yx (Yf c).op 1))).length)),true):=by kernel_rfl):Wc X c:=by simp only[Zr]at j;have⟨p,l,q,r,u,v,x,y,z,f,g,i⟩:=j;have A:=p;refine Wc.evz (d:=dSp O xs m e b fz c) fz A q (by rw[l];rfl) (fun nk E0 F0 w0 n0 Z lK K n o h=>kg.stp (X:=X.var nk E0 F0 w0 n0 Z) O lO b hi n o r l u v x y z f (O.eqn g) i h) k
def dAp(R:k6 α)(zs:List α)(c:Cf):Dl:=⟨[(YS c,.c (.sl (Yk c).nx))],[((Yk c).nx,.own R zs (WT (Yg (Yk c).M (YA (Yo c 0))))),((YA (Yo c 0)),.gone)],[],1⟩
def nAp(R:k6 α)(zs:List α)(c:Cf):Cf:=Xh (dAp R zs c) c
variable {zs:List α}
theorem Xu{xs:List α}(lO:kf X.P tt)(R:k6 α)(g:Y8 xs ys=some zs)(k:Wc X (nAp R zs c))
  (e:(hB X.fn.ntmps c,(Yf c).dst,(Yf c).op,Yo c 0,Yg (Yk c).M (YA (Yo c 0)),Yo c 1,Yg tt (Yq (Yf c).op),Yg tt (XB (Yf c).op),(aF (YC tt (Yq (Yf c).op)).kd 6 && (aF (YC tt (XB (Yf c).op)).kd 6 || aF (YC tt (XB (Yf c).op)).kd 2) && aF (YC tt (Yq (Yf c).op)).es R.sz && aY (YC tt (Yq (Yf c).op)).eb 32768),ZbQ (Yk c) ys (Ut (Yo c 1)))=(true,some (YS c),.call { callee:=.builtin .append,args:=#[Yx (Yf c).op 0,Yx (Yf c).op 1],argTypes:=#[Yq (Yf c).op,XB (Yf c).op] },some (.c (.sl (YA (Yo c 0)))),some (.own R xs (WT (Yg (Yk c).M (YA (Yo c 0))))),some (.c (Ut (Yo c 1))),some (YC tt (Yq (Yf c).op)),some (YC tt (XB (Yf c).op)),true,ZbR R ys (Ut (Yo c 1))):=by kernel_rfl):Wc X c:=by simp only[Zr]at e;have⟨l,f,m,n,o,p,q,r,u,b⟩:=e;have⟨v,x⟩:=Xm l;refine Wc.ev (d:=dAp R zs c) v (Xs f rfl) (fun nk E0 F0 w0 n0 Z lK K i j h=>kg.app (X:=X.var nk E0 F0 w0 n0 Z) lO g (Zmk b) i j m f n o p q r (by rw[x];simpa using u) h) k
def dAn(R:k6 α)(zs:List α)(c:Cf):Dl:=⟨[(YS c,.c (.sl (Yk c).nx))],[((Yk c).nx,.own R zs true)],[],1⟩
def nAn(R:k6 α)(zs:List α)(c:Cf):Cf:=Xh (dAn R zs c) c
theorem eAn(lO:kf X.P tt)(R:k6 α)(f:Y8 [] ys=some zs)(k:Wc X (nAn R zs c))
  (b:(hB X.fn.ntmps c,(Yf c).dst,(Yf c).op,Yo c 0,Yo c 1,Yg tt (Yq (Yf c).op),Yg tt (XB (Yf c).op),(aF (YC tt (Yq (Yf c).op)).kd 6 && (aF (YC tt (XB (Yf c).op)).kd 6 || aF (YC tt (XB (Yf c).op)).kd 2) && aF (YC tt (Yq (Yf c).op)).es R.sz && aY (YC tt (Yq (Yf c).op)).eb 32768),ZbQ (Yk c) ys (Ut (Yo c 1)))=(true,some (YS c),.call { callee:=.builtin .append,args:=#[Yx (Yf c).op 0,Yx (Yf c).op 1],argTypes:=#[Yq (Yf c).op,XB (Yf c).op] },some (.c .nil),some (.c (Ut (Yo c 1))),some (YC tt (Yq (Yf c).op)),some (YC tt (XB (Yf c).op)),true,ZbR R ys (Ut (Yo c 1))):=by kernel_rfl):Wc X c:=by simp only[Zr]at b;have⟨j,e,l,m,n,o,p,q,r⟩:=b;have⟨u,v⟩:=Xm j;refine Wc.ev (d:=dAn R zs c) u (Xs e rfl) (fun nk E0 F0 w0 n0 Z lK K g i h=>kg.appN (X:=X.var nk E0 F0 w0 n0 Z) R lO f (Zmk r) g i l e m n o p (by rw[v];simpa using q) h) k
def dBs(R:k6 α)(xs:List α)(fz:List Nat)(c:Cf):Dl:=⟨[(YS c,.c (.sl (Yv (Yk c) fz).nx))],[((Yv (Yk c) fz).nx,.own R xs true)],[],1⟩
def nBs(R:k6 α)(xs:List α)(fz:List Nat)(c:Cf):Cf:=Xh ((dBs R xs fz c).fz (Yk c) fz) c
theorem YW{R:k6 α}(lO:kf X.P tt)(fz:List Nat)(O:ki R)(xs:List α)(k:Wc X (nBs R xs fz c))
  (e:(hB X.fn.ntmps c,(Yf c).dst,Uz (Yk c) fz,(Yf c).op,Yg tt (Yq (Yf c).op),Yg tt (YC tt (Yq (Yf c).op)).el,(WZ (WC (YC tt (Yq (Yf c).op)).es (Wq (Yf c).op)) (Yv (Yk c) fz).L (TL (Yf c).op).toList (Ve (YC tt (YC tt (Yq (Yf c).op)).el).z (Wq (Yf c).op*(YC tt (Yq (Yf c).op)).es))),Mg O (Yg (Yv (Yk c) fz).V) xs ((WZ (WC (YC tt (Yq (Yf c).op)).es (Wq (Yf c).op)) (Yv (Yk c) fz).L (TL (Yf c).op).toList (Ve (YC tt (YC tt (Yq (Yf c).op)).el).z (Wq (Yf c).op*(YC tt (Yq (Yf c).op)).es))).getD []),Mf R.sz xs ((WZ (WC (YC tt (Yq (Yf c).op)).es (Wq (Yf c).op)) (Yv (Yk c) fz).L (TL (Yf c).op).toList (Ve (YC tt (YC tt (Yq (Yf c).op)).el).z (Wq (Yf c).op*(YC tt (Yq (Yf c).op)).es))).getD []),(aF (YC tt (Yq (Yf c).op)).kd 6 && aF (YC tt (Yq (Yf c).op)).es R.sz && aF xs.length (Wq (Yf c).op) && aY (Wq (Yf c).op*(YC tt (Yq (Yf c).op)).es) 16777216 && !(YC tt (YC tt (Yq (Yf c).op)).el).z.isEmpty))=(true,some (YS c),true,.buildSlice (Yq (Yf c).op) (Wq (Yf c).op) (TL (Yf c).op),some (YC tt (Yq (Yf c).op)),some (YC tt (YC tt (Yq (Yf c).op)).el),some ((WZ (WC (YC tt (Yq (Yf c).op)).es (Wq (Yf c).op)) (Yv (Yk c) fz).L (TL (Yf c).op).toList (Ve (YC tt (YC tt (Yq (Yf c).op)).el).z (Wq (Yf c).op*(YC tt (Yq (Yf c).op)).es))).getD []),Mh O (Yg (Yv (Yk c) fz).V) xs ((WZ (WC (YC tt (Yq (Yf c).op)).es (Wq (Yf c).op)) (Yv (Yk c) fz).L (TL (Yf c).op).toList (Ve (YC tt (YC tt (Yq (Yf c).op)).el).z (Wq (Yf c).op*(YC tt (Yq (Yf c).op)).es))).getD []),[],true):=by kernel_rfl):Wc X c:=by simp only[Zr]at e;have⟨j,f,l,m,n,o,p,q,r,b⟩:=e;have⟨u,v⟩:=Xm j;refine Wc.evz (d:=dBs R xs fz c) fz u l (Xs f rfl) (fun nk E0 F0 w0 n0 Z lK K g i h=>kg.bs (X:=X.var nk E0 F0 w0 n0 Z) O lO xs g i m f n o p (HH q r) (by rw[v];simpa using b) h) k
def dMk(R:k6 α)(xs:List α)(c:Cf):Dl:=⟨[(YS c,.c (.sl (Yk c).nx))],[((Yk c).nx,.own R xs true)],[],1⟩
def nMk(R:k6 α)(xs:List α)(c:Cf):Cf:=Xh (dMk R xs c) c
theorem QR{R:k6 α}{z:α}{l:Int}{xs:List α}(lO:kf X.P tt)(O:ki R)(g:Vj z l m=some xs)(k:Wc X (nMk R xs c))
  (e:(hB X.fn.ntmps c,(Yf c).dst,(Yf c).op,Yg tt (Yq (Yf c).op),Yg tt (YC tt (Yq (Yf c).op)).el,Yo c 0,Yo c 1,Mg O (Yg (Yk c).V) [z] (YC tt (YC tt (Yq (Yf c).op)).el).z,Mf R.sz [z] (YC tt (YC tt (Yq (Yf c).op)).el).z,(aF (YC tt (Yq (Yf c).op)).kd 6 && aF (YC tt (Yq (Yf c).op)).es R.sz && aY (YC tt (Yq (Yf c).op)).eb 32768 && !(YC tt (YC tt (Yq (Yf c).op)).el).z.isEmpty))=(true,some (YS c),.makeSlice (Yq (Yf c).op) (Yx (Yf c).op 0) (Yx (Yf c).op 1),some (YC tt (Yq (Yf c).op)),some (YC tt (YC tt (Yq (Yf c).op)).el),some (.c (.i (UC (Yo c 0)) l)),some (.c (.i (UC (Yo c 1)) m)),Mh O (Yg (Yk c).V) [z] (YC tt (YC tt (Yq (Yf c).op)).el).z,[],true):=by kernel_rfl):Wc X c:=by simp only[Zr]at e;have⟨o,f,p,q,r,u,v,x,y,b⟩:=e;have⟨A,C⟩:=Xm o;refine Wc.ev (d:=dMk R xs c) A (Xs f rfl) (fun nk E0 F0 w0 n0 Z lK K j n h=>kg.mk (X:=X.var nk E0 F0 w0 n0 Z) O lO z g j n p f q r u v (HH x y) (by rw[C];simpa using b) h) k
def dIs(R:k6 α)(zs:List α)(c:Cf):Dl:=⟨[(YS c,.c (.sl (Yk c).nx))],[],[((Yk c).nx,.sl R zs)],1⟩
def nIs(R:k6 α)(zs:List α)(c:Cf):Cf:=Xh (dIs R zs c) c
variable {hi lo:Option Int}
theorem Dj{xs:List α}(lO:kf X.P tt)(R:k6 α)(i:lsl xs lo hi=some zs)(k:Wc X (nIs R zs c))
    (f:(hB X.fn.ntmps c,(Yf c).dst,(Yf c).op,Yg tt (Yq (Yf c).op),Yo c 0,Yg (Yk c).V (YA (Yo c 0)),Wu (Yk c).L (U3 (Yf c).op),Wu (Yk c).L (UZ (Yf c).op),((Wu (Yk c).L (U3 (Yf c).op)).getD none).map (·.2),((Wu (Yk c).L (UZ (Yf c).op)).getD none).map (·.2),Sx tt R.sz c)=(true,some (YS c),.slice (Yq (Yf c).op) (Yx (Yf c).op 0) (U3 (Yf c).op) (UZ (Yf c).op) none,some (YC tt (Yq (Yf c).op)),some (.c (.sl (YA (Yo c 0)))),some (.sl R xs),some ((Wu (Yk c).L (U3 (Yf c).op)).getD none),some ((Wu (Yk c).L (UZ (Yf c).op)).getD none),lo,hi,true):=by kernel_rfl):Wc X c:=by simp only[Zr]at f;have⟨m,g,n,o,p,q,r,u,v,b,e⟩:=f;have⟨x,y⟩:=Xm m;refine Wc.ev (d:=dIs R zs c) x (Xs g rfl) (fun nk E0 F0 w0 n0 Z lK K j l h=>kg.isl (X:=X.var nk E0 F0 w0 n0 Z) lO (by rw[v,b];exact i) j l n g o p q r u (Qd e y) h) k
def dVw(lo hi:Option Int)(sz:Nat)(c:Cf):Dl:=⟨[(YS c,.c (.sl (Yk c).nx))],[],[((Yk c).nx,.vw (YA (Yo c 0)) lo hi sz)],1⟩
def nVw(lo hi:Option Int)(sz:Nat)(c:Cf):Cf:=Xh (dVw lo hi sz c) c
theorem VT{xs:List α}(lO:kf X.P tt)(R:k6 α)(j:lsl xs lo hi=some zs)(k:Wc X (nVw lo hi R.sz c))
    (f:(hB X.fn.ntmps c,(Yf c).dst,(Yf c).op,Yg tt (Yq (Yf c).op),Yo c 0,Yg (Yk c).M (YA (Yo c 0)),Wu (Yk c).L (U3 (Yf c).op),Wu (Yk c).L (UZ (Yf c).op),((Wu (Yk c).L (U3 (Yf c).op)).getD none).map (·.2),((Wu (Yk c).L (UZ (Yf c).op)).getD none).map (·.2),Sx tt R.sz c)=(true,some (YS c),.slice (Yq (Yf c).op) (Yx (Yf c).op 0) (U3 (Yf c).op) (UZ (Yf c).op) none,some (YC tt (Yq (Yf c).op)),some (.c (.sl (YA (Yo c 0)))),some (.own R xs (WT (Yg (Yk c).M (YA (Yo c 0))))),some ((Wu (Yk c).L (U3 (Yf c).op)).getD none),some ((Wu (Yk c).L (UZ (Yf c).op)).getD none),lo,hi,true):=by kernel_rfl):Wc X c:=by simp only[Zr]at f;have⟨n,g,o,p,q,r,u,v,i,b,e⟩:=f;have⟨x,y⟩:=Xm n;refine Wc.ev (d:=dVw lo hi R.sz c) x (Xs g rfl) (fun nk E0 F0 w0 n0 Z lK K l m h=>kg.vw (X:=X.var nk E0 F0 w0 n0 Z) lO (by rw[i,b];exact j) l m o g p q r u v (Qd e y) (by rw[i,b];exact h)) k
def dSs(z:be)(c:Cf):Dl:=d1 c (.c (.s z))
def nSs(z:be)(c:Cf):Cf:=Xh (dSs z c) c
variable {b:be}
theorem Uw{z:be}(lO:kf X.P tt)(i:ssl b lo hi=some z)(k:Wc X (nSs z c))
    (f:(hB X.fn.ntmps c,(Yf c).dst,(Yf c).op,Yg tt (Yq (Yf c).op),aF (YC tt (Yq (Yf c).op)).kd 2,Yo c 0,Wu (Yk c).L (U3 (Yf c).op),Wu (Yk c).L (UZ (Yf c).op),((Wu (Yk c).L (U3 (Yf c).op)).getD none).map (·.2),((Wu (Yk c).L (UZ (Yf c).op)).getD none).map (·.2))=(true,some (YS c),.slice (Yq (Yf c).op) (Yx (Yf c).op 0) (U3 (Yf c).op) (UZ (Yf c).op) none,some (YC tt (Yq (Yf c).op)),true,some (.c (.s b)),some ((Wu (Yk c).L (U3 (Yf c).op)).getD none),some ((Wu (Yk c).L (UZ (Yf c).op)).getD none),lo,hi):=by kernel_rfl):Wc X c:=by simp only[Zr]at f;have⟨m,g,n,o,p,q,r,u,v,e⟩:=f;have⟨x,y⟩:=Xm m;refine Wc.ev (d:=dSs z c) x (Xs g rfl) (fun nk E0 F0 w0 n0 Z lK K j l h=>kg.ssl (X:=X.var nk E0 F0 w0 n0 Z) lO (by rw[v,e];exact i) j l n g o p q r u y h) k
def dSx(z:Int)(c:Cf):Dl:=d1 c (.c (.i .u8 z))
def nSx(z:Int)(c:Cf):Cf:=Xh (dSx z c) c
theorem Wx{z:Int}(lO:kf X.P tt)(g:XM b m=some z)(k:Wc X (nSx z c))
  (e:(hB X.fn.ntmps c,(Yf c).dst,(Yf c).op,Yg tt (Yq (Yf c).op),aF (YC tt (Yq (Yf c).op)).kd 2,Yo c 0,Yo c 1)=(true,some (YS c),.index (Yq (Yf c).op) (Yx (Yf c).op 0) (Yx (Yf c).op 1),some (YC tt (Yq (Yf c).op)),true,some (.c (.s b)),some (.c (.i (UC (Yo c 1)) m))):=by kernel_rfl):Wc X c:=by simp only[Zr]at e;have⟨n,f,o,p,q,r,u⟩:=e;have⟨v,x⟩:=Xm n;refine Wc.ev (d:=dSx z c) v (Xs f rfl) (fun nk E0 F0 w0 n0 Z lK K j l h=>kg.sx (X:=X.var nk E0 F0 w0 n0 Z) lO g j l o f p q r u x h) k
def dCa(z:be)(c:Cf):Dl:=d1 c (.c (.s z))
def nCa(z:be)(c:Cf):Cf:=Xh (dCa z c) c
theorem XQ{a z:be}(g:Xy a b=some z)(k:Wc X (nCa z c))
  (e:(hB X.fn.ntmps c,(Yf c).dst,(Yf c).op,Yo c 0,Yo c 1)=(true,some (YS c),.binOp .add (Yq (Yf c).op) (Yx (Yf c).op 0) (Yx (Yf c).op 1) (XB (Yf c).op),some (.c (.s a)),some (.c (.s b))):=by kernel_rfl):Wc X c:=by simp only[Zr]at e;have⟨l,f,m,n,o⟩:=e;have⟨p,q⟩:=Xm l;refine Wc.ev (d:=dCa z c) p (Xs f rfl) (fun nk E0 F0 w0 n0 Z lK K i j h=>kg.cat (X:=X.var nk E0 F0 w0 n0 Z) g i j m f n o q h) k
def dBi(ik:lY)(z:Int)(c:Cf):Dl:=d1 c (.c (.i ik z))
def nBi(ik:lY)(z:Int)(c:Cf):Cf:=Xh (dBi ik z c) c
theorem WR{op:BinOp}{ik:lY}{b z:Int}(g:XO op ik m b=some z)(k:Wc X (nBi ik z c))
  (e:(hB X.fn.ntmps c,(Yf c).dst,(Yf c).op,Yo c 0,Yo c 1,(Zbl op || decide (ik=UC (Yo c 1))))=(true,some (YS c),.binOp op (Yq (Yf c).op) (Yx (Yf c).op 0) (Yx (Yf c).op 1) (XB (Yf c).op),some (.c (.i ik m)),some (.c (.i (UC (Yo c 1)) b)),true):=by kernel_rfl):Wc X c:=by simp only[Zr]at e;have⟨n,f,o,p,q,r⟩:=e;have⟨u,v⟩:=Xm n;refine Wc.ev (d:=dBi ik z c) u (Xs f rfl) (fun nk E0 F0 w0 n0 Z lK K j l h=>kg.bin (X:=X.var nk E0 F0 w0 n0 Z) g j l o f p q r v h) k
def dEq(P:lU)(c:Cf):Dl:=d1 c (.c (.b (bif ZkY (Yf c).op then !((VU P 20 (Yq (Yf c).op) (Us (Yo c 0)) (Us (Yo c 1))).getD false) else (VU P 20 (Yq (Yf c).op) (Us (Yo c 0)) (Us (Yo c 1))).getD false)))
def nEq(P:lU)(c:Cf):Cf:=Xh (dEq P c) c
theorem eEq(k:Wc X (nEq X.P c))
  (b:(hB X.fn.ntmps c,(Yf c).dst,Wh X.P (Yq (Yf c).op),(VU X.P 20 (Yq (Yf c).op) (Us (Yo c 0)) (Us (Yo c 1))),X.P.eqGuardType X.P.depth (Yq (Yf c).op),(Yf c).op,Yo c 0,Yo c 1)=(true,some (YS c),true,some ((VU X.P 20 (Yq (Yf c).op) (Us (Yo c 0)) (Us (Yo c 1))).getD false),false,.binOp (bif ZkY (Yf c).op then .neq else .eql) (Yq (Yf c).op) (Yx (Yf c).op 0) (Yx (Yf c).op 1) (XB (Yf c).op),some (.a (Us (Yo c 0))),some (.a (Us (Yo c 1)))):=by kernel_rfl):Wc X c:=by simp only[Zr]at b;have⟨i,e,j,l,m,n,o,p⟩:=b;have⟨q,r⟩:=Xm i;refine Wc.ev (d:=dEq X.P c) q (Xs e rfl) (fun nk E0 F0 w0 n0 Z lK K f g h=>kg.eqa (X:=X.var nk E0 F0 w0 n0 Z) (ZpK j l) m f g n e o p r h) k
def dCb(ct:Ct)(l:List (Nat×SC))(fz:List Nat)(c:Cf):Dl:=ZoD (Yv (Yk c) fz) ct l (YS c)
def nCb(ct:Ct)(l:List (Nat×SC))(fz:List Nat)(c:Cf):Cf:=Xh ((dCb ct l fz c).fz (Yk c) fz) c
theorem Wp{f:lX}{b:Ct}(m:Fn X.P f b)(fz:List Nat)(l:List (Nat×SC))(e:List Nat)(g:e=[]\/(b.V1=[]/\UV b.M1))(k:Wc X (nCb b l fz c))
  (i:(hB X.fn.ntmps c,(Yf c).dst,Uz (Yk c) fz,(Yf c).op,Yr (Yv (Yk c) fz).L (Tq (Yf c).op),(Ux (Yv (Yk c) fz).L (LN (Yf c).op).toList).map (fun n=>QI (clF (Yr (Yv (Yk c) fz).L (Tq (Yf c).op)))++n++QI (clK (Yr (Yv (Yk c) fz).L (Tq (Yf c).op)))),b.V0.map (fun p=>PV (Yv (Yk c) fz) ⟨l,b.nk,(Yv (Yk c) fz).nx⟩ e p.1 p.2),b.M0.map (fun p=>W0 (Yv (Yk c) fz) ⟨l,b.nk,(Yv (Yk c) fz).nx⟩ p.1 p.2),LQ (Yv (Yk c) fz) b l e)=(true,some (YS c),true,.call { callee:=.value (Tq (Yf c).op),args:=LN (Yf c).op,argTypes:=HU (Yf c).op },some (.c (.cl f (clF (Yr (Yv (Yk c) fz).L (Tq (Yf c).op))) (clK (Yr (Yv (Yk c) fz).L (Tq (Yf c).op))))),some (b.args.map (W3 ⟨l,b.nk,(Yv (Yk c) fz).nx⟩)),b.V0.map (fun p=>some p.2),b.M0.map (fun p=>some (Vl ⟨l,b.nk,(Yv (Yk c) fz).nx⟩ p.2)),true):=by kernel_rfl):Wc X c:=by simp only[Zr]at i;have⟨r,j,u,v,x,y,z,A,C⟩:=i;have⟨D,G⟩:=Xm r;refine Wc.evz (d:=dCb b l fz c) fz D u (Xs j rfl) (fun nk E0 F0 w0 n0 Z lK K o q h=>kg.callc (X:=X.var nk E0 F0 w0 n0 Z) m l e o q v j G x y z A g C h) k
theorem Ym{f:lX}{b:Ct}(d:Fn X.P f b)(fz:List Nat)(l:List (Nat×SC))(k:Wc X (nCb b l fz c))
  (e:(hB X.fn.ntmps c,(Yf c).dst,Uz (Yk c) fz,(Yf c).op,Yr (Yv (Yk c) fz).L (Tq (Yf c).op),(Ux (Yv (Yk c) fz).L (LN (Yf c).op).toList).map (fun g=>QI (clF (Yr (Yv (Yk c) fz).L (Tq (Yf c).op)))++g++QI (clK (Yr (Yv (Yk c) fz).L (Tq (Yf c).op)))),b.V0.map (fun p=>PV (Yv (Yk c) fz) ⟨l,b.nk,(Yv (Yk c) fz).nx⟩ [] p.1 p.2),b.M0.map (fun p=>W0 (Yv (Yk c) fz) ⟨l,b.nk,(Yv (Yk c) fz).nx⟩ p.1 p.2),LQ (Yv (Yk c) fz) b l [])=(true,some (YS c),true,.call { callee:=.value (Tq (Yf c).op),args:=LN (Yf c).op,argTypes:=HU (Yf c).op },some (.c (.cl f (clF (Yr (Yv (Yk c) fz).L (Tq (Yf c).op))) (clK (Yr (Yv (Yk c) fz).L (Tq (Yf c).op))))),some (b.args.map (W3 ⟨l,b.nk,(Yv (Yk c) fz).nx⟩)),b.V0.map (fun p=>some p.2),b.M0.map (fun p=>some (Vl ⟨l,b.nk,(Yv (Yk c) fz).nx⟩ p.2)),true):=by kernel_rfl):Wc X c:=Wp d fz l [] (.inl rfl) k e
end
def Cf.isC:Cf->Bool
 | .co _ _=>true
 |_=>false
def Cf.itm:Cf->List Item
 | .co k _=>k
 |_=>[]
section
variable {X:lB}{tt:List (Nat×TD)}
variable {c:Cf}
theorem Wc.co(h:c.isC=true)(k:WP X c.itm c.st):Wc X c:=by
 cases c with
 |co _ _=>exact⟨k⟩
 |rg _ _ _ _ _=>cases h
 |no=>cases h
def TN:Cf->Nat
 | .co (.code (.cond (.tmp d) _ _)::_) _=>d
 | .rg _ ops i _ _=>match ops[i]? with
  |some o=>match o.guard with
   |some (j,_)=>match ops[j]? with
    |some oj=>oj.dst.getD 0
    |none=>0
   |none=>0
  |none=>0
 |_=>0
def gjC(c:Cf):Nat:=match (Yf c).guard with
 |some (j,_)=>j
 |none=>0
def Ml:Cf->Option (List (Nat×SV))
 | .rg (some q) ops i k s=>some (Xc q.2.2 (gjC (.rg (some q) ops i k s))).dL
 |_=>none
def Mo(b:Bool):Cf->Option (List (Nat×SV))
 | .rg (some q) ops i k s=>some [(TN (.rg (some q) ops i k s),.c (.b b))]
 |_=>none
def setL(d:Nat)(b:Bool)(s:St):St:=⟨(d,.c (.b b))::s.L,s.M,s.V,s.nx⟩
def DR(j d:Nat)(b:Bool)(es:List Ent):List Ent:=es.set j { Xc es j with dL:=[(d,.c (.b b))] }
def Sw(t:Bool):Cf->Cf
 | .co k s=>.co k (setL (TN (.co k s)) t s)
 | .rg none ops i k s=>.rg none ops i k (setL (TN (.rg none ops i k s)) t s)
 | .rg (some q) ops i k s=>.rg (some (q.1,q.2.1,DR (gjC (.rg (some q) ops i k s)) (TN (.rg (some q) ops i k s)) t q.2.2)) ops i k (setL (TN (.rg (some q) ops i k s)) t s)
 | .no=>.no
theorem Zt7{j d:Nat}{b:Bool}{es:List Ent}(h:(Xc es j).dL=[(d,.c (.b b))]):DR j d b es=es:=by
 unfold DR;rw[<-h];show es.set j (Xc es j)=es;unfold Xc;by_cases e:j<es.length
 ·rw[show es.getD j ZjT=es[j] by simp[List.getD,e],List.set_getElem_self]
 ·exact List.set_eq_of_length_le (cv.1 e)
theorem eK{b t:Bool}(K:b=t)(k:Wc X (Sw t c))(g:(Yg c.st.L (TN c),Ml c)=(some (.c (.b b)),Mo b c):=by kernel_rfl):Wc X c:=by
 subst K;have⟨d,n⟩:=cC g;cases c with
 |no=>exact k.1.elim
 |co f s=>exact⟨fun E F w a h=>k.1 E F w a (ky.setL0 h d rfl trivial)⟩
 |rg m ops i f s=>
  cases m with
  |none=>exact⟨kg.kb _ rfl d k.1⟩
  |some q=>
   refine⟨fun j l=>?_⟩;have e:=Zt7 (Zm n);have k:AllLS X ops 0 (DR _ _ _ q.2.2)->(DR _ _ _ q.2.2).length=i->WP X (.code (.region q.1 ops true)::f) q.2.1:=k.1;rw[e]at k;exact k j l
theorem wa(lO:kf X.P tt)(n:Nat)(k:Wc X (Wn tt X.fn.ntmps n c)):Wc X c:=ZhV lO n k
def ctS(c:Cf)(s:St):Cf:=.co c.kk s
theorem YD{σ:Type}(J:σ->St)(Q:σ->Prop)(d:∀b,Q b->Wc X (ctS c (J b)))(h:(∀b,Q b->WP X c.kk (J b))->Wc X c):Wc X c:=h fun b e=>(d b e).1
def TA(c:Cf):Code:=match c with
 | .co (.code (.loop x)::_) _=>x
 |_=>.skip
def lpS(c:Cf)(s:St):Cf:=.co (.code (TA c)::.inLoop (TA c)::c.kk) s
def lpK(c:Cf):List Item:=.inLoop (TA c)::c.kk
def Ra(c:Cf):List Item:=.code (.loop (TA c))::c.kk
theorem YP{σ ρ:Type}{r:ρ}(H:σ->St)(p:Nat->σ->Option ρ)(f:∀b,p 0 b=none)
  (e:∀n,(∀b,p n b=some r->WP X (lpK c) (H b))->∀b,p (n+1) b=some r->Wc X (lpS c (H b)))
  (h:(∀n b,p n b=some r->WP X (Ra c) (H b))->Wc X c):Wc X c:=by
 have key:∀n b,p n b=some r->WP X (.code (TA c)::.inLoop (TA c)::c.kk) (H b):=by
  intro n;induction n with
  |zero=>intro b d;rw[f]at d;cases d
  |succ n i=>exact fun b g=>(e n (fun b d=>WP.inLoop (i b d)) b g).1
 exact h fun n b d=>WP.loop (key n b d)
theorem Yi{t:St}{lL:List Item}(l:List (Nat×SC))(k:WP X lL t)
    (b:(c.isC,c.itm,t.L.map (fun p=>Yg c.st.L p.1),t.V.map (fun p=>Uy c.st ⟨l,0,0⟩ p.1 p.2),t.M.map (fun p=>W0 c.st ⟨l,0,0⟩ p.1 p.2),
        (t.L.all (fun p=>Ui ⟨l,0,0⟩ p.2) && XL (t.M.filterMap fun p=>XT ⟨l,0,0⟩ p.1 p.2) && XL (t.M.map (·.1)) && Qj t.L t.M t.V t.nx && l.all (fun p=>aY X.nk p.1 && p.2.kbb c.st.nx) && aY X.nk t.nx)) =
      (true,lL,t.L.map (fun p=>some (W3 ⟨l,0,0⟩ p.2)),t.V.map (fun p=>some p.2),t.M.map (fun p=>some (Vl ⟨l,0,0⟩ p.2)),true):=by kernel_rfl):Wc X c:=by simp only[Zr]at b;have⟨d,e,f,g,h,i⟩:=b;refine Wc.co d ?_;rw[e];exact WP.sub l k f g h i
def W8(f:St->St):Cf->Cf
 | .co k s=>.co k (f s)
 | .rg none ops i k s=>.rg none ops i k (f s)
 |_=>.no
theorem VG{f:St->St}(h:∀E F w a,ky X c.st E F w a->∃b d,ky X (f c.st) b d w a)(k:Wc X (W8 f c)):Wc X c:=by
 cases c with
 |no=>exact k.1.elim
 |co g s=>exact⟨fun E F w a e=>let ⟨b,d,hs'⟩:=h E F w a e;k.1 b d w a hs'⟩
 |rg m ops i g s=>
  cases m with
  |none=>exact⟨fun E F w a e=>let ⟨b,d,hs'⟩:=h E F w a e;k.1 b d w a hs'⟩
  |some q=>exact k.1.elim
theorem Vh(fz:List Nat)(k:Wc X (W8 (fun s=>Yv s fz) c))(b:Uz c.st fz=true:=by kernel_rfl):Wc X c:=
 VG (fun _ _ _ _ d=>let ⟨F',h⟩:=Zfn d b;⟨_,F',h⟩) k
theorem eSl{α:Type}(R:k6 α){xs zs:List α}{l h:Option Int}(K:Nat)(d:lsl xs l h=some zs)
  (k:Wc X (W8 (fun s=>⟨s.L,(K,.own R zs (WT (Yg s.M (Xw (Yg s.V K)))))::(Xw (Yg s.V K),.gone)::s.M,s.V,s.nx⟩) c))
  (b:(Yg c.st.V K,Yg c.st.M (Xw (Yg c.st.V K)),(Yg c.st.M K).isNone)=(some (.vw (Xw (Yg c.st.V K)) l h R.sz),some (.own R xs (WT (Yg c.st.M (Xw (Yg c.st.V K))))),true):=by kernel_rfl):Wc X c:=by simp only[Zr,Option.isNone_iff_eq_none]at b;have⟨f,g,i⟩:=b;exact VG (fun E F w a e=>⟨E,F,e.settle d f g i⟩) k
theorem eNo{α:Type}(R:k6 α)(d:Nat)(k:Wc X (W8 (fun s=>⟨(d,.c (.sl s.nx))::s.L,(s.nx,.own R [] true)::s.M,s.V,s.nx+1⟩) c))
  (b:Yg c.st.L d=some (.c .nil):=by kernel_rfl):Wc X c:=VG (fun E F w a e=>let ⟨E',h⟩:=e.nown R b;⟨E',F,h⟩) k
def DN:Cf->Bool
 | .co [] _=>true
 | .co (.code .ret::_) _=>true
 |_=>false
theorem Xi{P:lU}{f:lX}{fn:Func}{b:Ct}{E0:lC}{F0:YJ}{w0:lQ}(lO:kf P tt)(e:P.funcs[f]?=some fn)(l:List (Nat×SC))
    (g:(DN c,Rh tt c.st fn.results.toList,b.V1.map (fun p=>Uy c.st ⟨l,0,0⟩ p.1 p.2),b.M1.map (fun p=>W0 c.st ⟨l,0,0⟩ p.1 p.2),
        (Ui ⟨l,0,0⟩ b.res && XL (b.M1.filterMap fun p=>XT ⟨l,0,0⟩ p.1 p.2) && XL (b.M1.map (·.1)) && l.all (fun p=>aY b.nk p.1 && p.2.kbb c.st.nx))) =
      (true,some (W3 ⟨l,0,0⟩ b.res),b.V1.map (fun p=>some p.2),b.M1.map (fun p=>some (Vl ⟨l,0,0⟩ p.2)),true):=by kernel_rfl):Wc (b.ctx P f fn E0 F0 w0) c:=by
  simp only[Zr]at g;have⟨d,h,i,j,k⟩:=g;unfold DN at d;split at d
  · exact⟨WP.fin lO e l h i j k⟩
  · exact⟨WP.ret lO e l h i j k⟩
  · cases d
theorem Yy{P:lU}{f:lX}{c:Ct}{fn:Func}{body:Code}(d:P.funcs[f]?=some fn)(e:fn.body=some body)(h:∀E F w,Wc (c.ctx P f fn E F w) (.co [.code body] ⟨Q4 0 c.args,c.M0,c.V0,c.nk⟩))
  (b:((fn.name == "runtime.NumGoroutine"),(Qj (Q4 0 c.args) c.M0 c.V0 c.nk && c.M0.all (fun p=> !p.2.isFresh) && aY c.args.length fn.ntmps))=(false,true):=by kernel_rfl):Fn P f c:=
 Fn.intro fn body d e (cC b).1 (cC b).2 fun E F w=>(h E F w).1
def SO:List lW->List Nat->List Nat
 | [],acc=>acc
 |o::r,acc=>SO r (acc++[QD acc o.after.toList])
def PU:Cf->List Ent
 | .rg (some q) _ _ _ _=>q.2.2
 |_=>[]
def DU:Cf->St
 | .rg (some q) _ _ _ _=>q.2.1
 |_=>⟨[],[],[],0⟩
def isD:Cf->Bool
 | .rg (some _) ops i _ _=>aF i ops.size
 |_=>false
def ZpE(c:Cf):Cf:=.co c.kk (Vo (PU c) c.st.nx (DU c) fun _=>true)
theorem YL(k:Wc X (ZpE c))(u:(isD c && TG c.ops,X.P.follows .mixedOrders,LU c.ops (PU c) (SO c.ops.toList []) (DU c).nx c.st.nx,Hq (PU c) (SO c.ops.toList []) (DU c))=(true,true,true,HV (PU c)):=by kernel_rfl):Wc X c:=by
 simp only[Zr]at u;have⟨d,v,g,l⟩:=u;rw[Zc]at d;have⟨d,n⟩:=d;cases c with
 |no=>cases d
 |co r s=>cases d
 |rg m ops i r s=>
  cases m with
  |none=>cases d
  |some q=>
   refine⟨fun f x=>?_⟩;have⟨k⟩:=k;have⟨id,b,es⟩:=q;replace g:LU ops es (SO ops.toList []) b.nx s.nx=true:=g;replace l:Hq es (SO ops.toList []) b=HV es:=l;replace f:AllLS X ops 0 es:=f;show WP X (.code (.region id ops true)::r) b;intro E F w a e;have c:=Zij g;refine ZlP n v ?_;have o:ky X b E F { w with drawn:=w.drawn+1 } a:=e.world rfl rfl .m (Zq _) fun _ _=>rfl;have p:∀j,(cQ ops.size false).getD j false=false:=fun j=>by by_cases h:j<ops.size<;>simp[h]
   refine ZtH (lL:=rk X r) f c l e.wf e.nk (fun E F w a e=>k E F w a e) ops.size _ E F _ a (by simp)
    (fun i hi=>by rw[p]at hi;cases hi) (by rw[c.size];exact ZeP fun j _=>by rw[<-c.size];exact p j) ?_
   have:Vo es s.nx b (fun j=>(cQ ops.size false).getD j false)=⟨b.L,b.M,b.V,s.nx⟩:=by rw[show (fun j=>(cQ ops.size false).getD j false)=fun _=>false from funext p];unfold Vo;rw[PX,PX,PX]
   show ky X (Vo es s.nx b _) E F _ a;rw[this];exact o.nxt c.nxle
end
def ZaB(P:lU)(t:lS):Nat:=match P.underlying t with
 |some (.array n _)=>n
 |_=>0
def XZ(P:lU)(t:lS):lS:=match P.underlying t with
 |some (.array _ e)=>e
 |some (.slice e)=>e
 |some (.pointer e)=>e
 |_=>0
def Qg(P:lU)(t:lS):Nat:=((P.info? t).map (·.size)).getD 0
def Da:Option MO->lS
 |some (.box _ t)=>t
 |_=>0
def QJ:Option MO->List SC
 |some (.box cs _)=>cs
 |_=>[]
section
variable {X:lB}{tt:List (Nat×TD)}
def dAx(v:SC)(c:Cf):Dl:=d1 c (.c v)
def nAx(v:SC)(c:Cf):Cf:=Xh (dAx v c) c
variable {c:Cf}{α:Type}
theorem eAx{m:Int}{e:α}(f:α->SC)(xs:List α)(hi:idx xs m=some e)(k:Wc X (nAx (f e) c))
    (b:(hB X.fn.ntmps c,(Yf c).dst,(Yf c).op,X.P.underlying (Yq (Yf c).op),(X.P.info? (XZ X.P (Yq (Yf c).op))).map (·.size),Wh X.P (XZ X.P (Yq (Yf c).op)),(X.P.underlying (XZ X.P (Yq (Yf c).op))).isSome,Yo c 0,Yo c 1)=(true,some (YS c),.index (Yq (Yf c).op) (Yx (Yf c).op 0) (Yx (Yf c).op 1),some (.array xs.length (XZ X.P (Yq (Yf c).op))),some 1,false,true,some (.a (xs.map f)),some (.c (.i (UC (Yo c 1)) m))):=by kernel_rfl):Wc X c:=by simp only[Zr]at b;have⟨n,g,o,p,q,r,u,v,x⟩:=b;have⟨y,z⟩:=Xm n;refine Wc.ev (d:=dAx (f e) c) y (Xs g rfl) (fun nk E0 F0 w0 n0 Z lK K j l h=>kg.ax (X:=X.var nk E0 F0 w0 n0 Z) f xs hi j l o g p q r u v rfl x z h) k
def dAb(P:lU)(j:Nat)(c:Cf):Dl:=d1 c (.c (.bp (YA (Yo c 0)) (XJ (Yo c 0)+j*Qg P (XZ P (Yq (Yf c).op)))))
def nAb(P:lU)(j:Nat)(c:Cf):Cf:=Xh (dAb P j c) c
theorem SZ{m:Int}(j:Nat)(f:m=(j:Int))(k:Wc X (nAb X.P j c))
    (b:(hB X.fn.ntmps c,(Yf c).dst,(Yf c).op,X.P.underlying (Yq (Yf c).op),(X.P.info? (XZ X.P (Yq (Yf c).op))).map (·.size),aO j (ZaB X.P (Yq (Yf c).op)),Yo c 0,Yo c 1)=(true,some (YS c),.indexAddr (Yq (Yf c).op) (Yx (Yf c).op 0) (Yx (Yf c).op 1),some (.array (ZaB X.P (Yq (Yf c).op)) (XZ X.P (Yq (Yf c).op))),some (Qg X.P (XZ X.P (Yq (Yf c).op))),true,some (.c (.bp (YA (Yo c 0)) (XJ (Yo c 0)))),some (.c (.i (UC (Yo c 1)) m))):=by kernel_rfl):Wc X c:=by simp only[Zr]at b;have⟨n,e,o,p,q,r,u,v⟩:=b;have⟨x,y⟩:=Xm n;refine Wc.ev (d:=dAb X.P j c) x (Xs e rfl) (fun nk E0 F0 w0 n0 Z lK K g l h=>kg.axb (X:=X.var nk E0 F0 w0 n0 Z) j f g l o e p q r u v y h) k
def dPn(neg:Bool)(c:Cf):Dl:=d1 c (.c (.b neg))
def nPn(neg:Bool)(c:Cf):Cf:=Xh (dPn neg c) c
theorem ePn(b:Bool)(k:Wc X (nPn b c))
  (e:(hB X.fn.ntmps c,(Yf c).dst,(Yf c).op,X.P.underlying (Yq (Yf c).op),Yo c 0,Yo c 1)=(true,some (YS c),.binOp (bif b then .neq else .eql) (Yq (Yf c).op) (Yx (Yf c).op 0) (Yx (Yf c).op 1) (XB (Yf c).op),some (.pointer (XZ X.P (Yq (Yf c).op))),some (.c (.bp (YA (Yo c 0)) (XJ (Yo c 0)))),some (.c (.v (.pointer none)))):=by kernel_rfl):Wc X c:=by simp only[Zr]at e;have⟨j,f,l,m,n,o⟩:=e;have⟨p,q⟩:=Xm j;refine Wc.ev (d:=dPn b c) p (Xs f rfl) (fun nk E0 F0 w0 n0 Z lK K g i h=>kg.pnil (X:=X.var nk E0 F0 w0 n0 Z) b g i l f m n o q h) k
def dSb(R:k6 α)(xs:List α)(fz:List Nat)(c:Cf):Dl:=⟨[(YS c,.c (.sl (Yv (Yk c) fz).nx))],[((Yv (Yk c) fz).nx,.own R xs false),((YA (Yr (Yv (Yk c) fz).L (Yx (Yf c).op 0))),.gone)],[],1⟩
def nSb(R:k6 α)(xs:List α)(fz:List Nat)(c:Cf):Cf:=Xh ((dSb R xs fz c).fz (Yk c) fz) c
theorem eSb{R:k6 α}(fz:List Nat)(O:ki R)(xs:List α)(k:Wc X (nSb R xs fz c))
    (f:(hB X.fn.ntmps c,(Yf c).dst,Uz (Yk c) fz,(Yf c).op,X.P.underlying (Yq (Yf c).op),(X.P.info? (XZ X.P (Yq (Yf c).op))).map (·.size),Yr (Yv (Yk c) fz).L (Yx (Yf c).op 0),(Yg (Yv (Yk c) fz).M (YA (Yr (Yv (Yk c) fz).L (Yx (Yf c).op 0)))),(Yg (Yv (Yk c) fz).M (Yv (Yk c) fz).nx).isNone,Mg O (Yg (Yv (Yk c) fz).V) xs (QJ (Yg (Yv (Yk c) fz).M (YA (Yr (Yv (Yk c) fz).L (Yx (Yf c).op 0))))),Mf R.sz xs (QJ (Yg (Yv (Yk c) fz).M (YA (Yr (Yv (Yk c) fz).L (Yx (Yf c).op 0))))))=(true,some (YS c),true,.slice (Yq (Yf c).op) (Yx (Yf c).op 0) none none none,some (.array xs.length (XZ X.P (Yq (Yf c).op))),some R.sz,some (.c (.bp (YA (Yr (Yv (Yk c) fz).L (Yx (Yf c).op 0))) 0)),some (.box (QJ (Yg (Yv (Yk c) fz).M (YA (Yr (Yv (Yk c) fz).L (Yx (Yf c).op 0))))) (Da (Yg (Yv (Yk c) fz).M (YA (Yr (Yv (Yk c) fz).L (Yx (Yf c).op 0)))))),true,Mh O (Yg (Yv (Yk c) fz).V) xs (QJ (Yg (Yv (Yk c) fz).M (YA (Yr (Yv (Yk c) fz).L (Yx (Yf c).op 0))))),[]):=by kernel_rfl):Wc X c:=by simp only[Zr]at f;have⟨l,g,m,n,o,p,q,r,u,b,e⟩:=f;have⟨v,x⟩:=Xm l;refine Wc.evz (d:=dSb R xs fz c) fz v m (Xs g rfl) (fun nk E0 F0 w0 n0 Z lK K i j h=>kg.slb (X:=X.var nk E0 F0 w0 n0 Z) O xs (HH b e) i j n g o p q r (by rw[x,u];simp) h) k
def dCs(ys:List Int)(c:Cf):Dl:=d1 c (.c (.s (Qf ys)))
def nCs(ys:List Int)(c:Cf):Cf:=Xh (dCs ys c) c
theorem eCs(ys:List Int)(k:Wc X (nCs ys c))
  (f:(hB X.fn.ntmps c,(Yf c).dst,(Yf c).op,X.P.underlying (Yq (Yf c).op),X.P.underlying (XB (Yf c).op),X.P.underlying (XZ X.P (Yq (Yf c).op)),Yo c 0,LY (Yk c) (Ut (Yo c 0)))=(true,some (YS c),.convert (Yq (Yf c).op) (XB (Yf c).op) (Yx (Yf c).op 0),some (.slice (XZ X.P (Yq (Yf c).op))),some .string,some (.int .u8),some (.c (Ut (Yo c 0))),some ⟨rI .u8,ys⟩):=by kernel_rfl):Wc X c:=by
 simp only[Zr]at f;have⟨m,g,n,o,p,q,i,b⟩:=f;have⟨r,u⟩:=Xm m;have⟨z,v,e⟩:=ZeR b;refine Wc.ev (d:=dCs ys c) r (Xs g rfl) (fun nk E0 F0 w0 n0 Z lK K j l h=>?_) k;rw[v]at i b;refine kg.cvs (X:=X.var nk E0 F0 w0 n0 Z) ys (Ziy b) rfl j l n g o p q i ?_ u h;rcases e with x|⟨fr,y⟩
 ·exact Qc x
 ·exact shO y
def dEx(v:SV)(c:Cf):Dl:=d1 c v
def nEx(v:SV)(c:Cf):Cf:=Xh (dEx v c) c
theorem eEx{f:lX}{b:List SV}{v:SV}(e:∀(E:lC) (w:lQ),(callFunc f (b.map (Yt E)).toArray).run X.P w=.ok (.value (Yt E v)) w)(j:∀n,v.kb n)(k:Wc X (nEx v c))
  (g:(hB X.fn.ntmps c,(Yf c).dst,(Yf c).op,Ux (Yk c).L (LN (Yf c).op).toList)=(true,some (YS c),.call { callee:=.value (.func f),args:=LN (Yf c).op,argTypes:=HU (Yf c).op },some b):=by kernel_rfl):Wc X c:=by simp only[Zr]at g;have⟨o,i,p,q⟩:=g;have⟨r,u⟩:=Xm o;refine Wc.ev (d:=dEx v c) r (Xs i rfl) (fun nk E0 F0 w0 n0 Z lK K l m h=>kg.ext (X:=X.var nk E0 F0 w0 n0 Z) e j l m p i u q h) k
def dCw(R:k6 α)(r:List α×Int)(c:Cf):Dl:=⟨[(YS c,.c (.i .i64 r.2))],[((Xw (Yg (Yk c).V (YA (Yo c 0)))),.own R r.1 (WT (Yg (Yk c).M (Xw (Yg (Yk c).V (YA (Yo c 0)))))))],[],0⟩
def nCw(R:k6 α)(r:List α×Int)(c:Cf):Cf:=Xh (dCw R r c) c
def ZsF(neg b:Bool)(c:Cf):Cf:=Xh (d1 c (.c (.b (bif neg then !b else b)))) c
def Tw:Cf->Bool
 | .rg none _ _ _ _=>true
 |_=>false
theorem eNi(R:k6 α)(xs:List α)(d:Bool)(p:∀b:Bool,(b=true->xs=[])->Wc X (ZsF d b c))
  (n:(hB X.fn.ntmps c,(Yf c).dst,Tw c,(Yf c).op,X.P.underlying (Yq (Yf c).op),Yo c 0,Yo c 1,LY (Yk c) (.sl (YA (Yo c 0)))) =
   (true,some (YS c),true,.binOp (bif d then .neq else .eql) (Yq (Yf c).op) (Yx (Yf c).op 0) (Yx (Yf c).op 1) (XB (Yf c).op),some (.slice (XZ X.P (Yq (Yf c).op))),some (.c (.sl (YA (Yo c 0)))),some (.c .nil),some ⟨R,xs⟩):=by kernel_rfl):Wc X c:=by
 simp only[Zr]at n;have⟨r,u,g,v,x,y,z,A⟩:=n;have⟨h,C⟩:=Xm r;have⟨I,D,j⟩:=ZeR A;cases c with
 |co _ _=>cases g
 |no=>cases g
 |rg m ops i l s=>
  cases m with
  |some q=>cases g
  |none=>
   unfold VI at h;rw[Zc,Zc]at h;obtain⟨⟨_,G⟩,k⟩:=h;have e:ops[i]?=some (Yf (.rg none ops i l s)):=by have⟨o,e⟩:=bC.1 G;have e:ops[i]?=some o:=e;unfold Yf;show _=some ((ops[i]?).getD default);rw[e];rfl
   have H:Y3 ops s.L (Yf (.rg none ops i l s))=some true:=by
    split at k
    ·rename_i b f;rw[k]at f;exact f
    ·cases k
   refine⟨?_⟩;show kg X ops (cV i (ops.size-i)) (rk X l) s;rw[HC e];cases D;exact kg.nilc d j e H v u x y z C fun b f=>(p b f).1
def ZtW(b:Nat)(m:be)(c:Cf):Cf:=Xh ⟨[(YS c,.c (.v (.pointer (some ⟨b,0,none⟩))))],[((Yk c).nx,.abs (UF b m 0))],[],1⟩ c
def ZtX(b:Nat)(c:Cf):Cf:=ZtW b (Zmo (Yo c 0)) c
theorem eRn(lO:kf X.P tt)(l:∀b,Wc X (ZtX b c))
  (j:(hB X.fn.ntmps c,(Yf c).dst,Tw c,(Yf c).op,Yg tt (Yq (Yf c).op),aF (YC tt (Yq (Yf c).op)).kd 2,Yo c 0) =
   (true,some (YS c),true,.range (Yq (Yf c).op) (Yx (Yf c).op 0),some (YC tt (Yq (Yf c).op)),true,some (.c (.s (Zmo (Yo c 0))))):=by kernel_rfl):Wc X c:=by
 simp only[Zr]at j;have⟨n,p,e,r,u,v,x⟩:=j;have⟨f,y⟩:=Xm n;cases c with
 |co _ _=>cases e
 |no=>cases e
 |rg m ops i h s=>
  cases m with
  |some q=>cases e
  |none=>
   unfold VI at f;rw[Zc,Zc]at f;obtain⟨⟨_,z⟩,g⟩:=f;have d:ops[i]?=some (Yf (.rg none ops i h s)):=by have⟨o,d⟩:=bC.1 z;have d:ops[i]?=some o:=d;unfold Yf;show _=some ((ops[i]?).getD default);rw[d];rfl
   have A:Y3 ops s.L (Yf (.rg none ops i h s))=some true:=by
    split at g
    ·rename_i b k;rw[g]at k;exact k
    ·cases g
   refine⟨?_⟩;show kg X ops (cV i (ops.size-i)) (rk X h) s;rw[HC d];exact kg.rng lO d A r p u v x y fun b=>(l b).1
def dNf(c:Cf):Dl:=d1 c (.t [.inl (.b false)])
def nNf(c:Cf):Cf:=Xh (dNf c) c
theorem eNf{p:Nat}{m:be}(b f:Nat)(e:decide (p<m.size)=false)(k:Wc X (nNf c))
  (g:(hB X.fn.ntmps c,(Yf c).dst,(Yf c).op,Yo c 0,Yg (Yk c).M f)=(true,some (YS c),.next (Yx (Yf c).op 0) true,some (.c (.v (.pointer (some ⟨b,0,none⟩)))),some (.abs (UF b m p))):=by kernel_rfl):Wc X c:=by simp only[Zr]at g;have⟨n,i,o,q,r⟩:=g;have⟨u,x⟩:=Xm n;refine Wc.ev (d:=dNf  c) u (Xs i rfl) (fun nk E0 F0 w0 n0 Z lK K j l h=>kg.nxtF (X:=X.var nk E0 F0 w0 n0 Z) f e j l o i q r x h) k
def dNt(b k0:Nat)(m:be)(p:Nat)(c:Cf):Dl:=⟨[(YS c,.t [.inl (.b true),.inl (.i .i64 (p:Int)),.inl (.i .i32 ((dD m p).1:Int))])],[(k0,.abs (UF b m (p+(dD m p).2)))],[],0⟩
def nNt(b k0:Nat)(m:be)(p:Nat)(c:Cf):Cf:=Xh (dNt b k0 m p c) c
theorem eNt{p:Nat}{m:be}(b:Nat)(e:Nat)(f:decide (p<m.size)=true)(k:Wc X (nNt b e m p c))
  (g:(hB X.fn.ntmps c,(Yf c).dst,(Yf c).op,Yo c 0,Yg (Yk c).M e)=(true,some (YS c),.next (Yx (Yf c).op 0) true,some (.c (.v (.pointer (some ⟨b,0,none⟩)))),some (.abs (UF b m p))):=by kernel_rfl):Wc X c:=by simp only[Zr]at g;have⟨n,i,o,q,r⟩:=g;have⟨u,x⟩:=Xm n;refine Wc.ev (d:=dNt b e m p c) u (Xs i rfl) (fun nk E0 F0 w0 n0 Z lK K j l h=>kg.nxtT (X:=X.var nk E0 F0 w0 n0 Z) e f j l o i q r x h) k
def dDw(R:k6 α)(r:List α×Int)(c:Cf):Dl:=⟨[(YS c,.c (.i .i64 r.2))],[((Xw (Yg (Yk c).V (YA (Yo c 0)))),.own R r.1 (WT (Yg (Yk c).M (Xw (Yg (Yk c).V (YA (Yo c 0)))))))],[],0⟩
def nDw(R:k6 α)(r:List α×Int)(c:Cf):Cf:=Xh (dDw R r c) c
theorem eDw{xs ys i:List α}{lo hi b e:Option Int}{r:List α×Int}(lO:kf X.P tt)(R:k6 α)(m:lsl i b e=some ys)(n:RK xs lo hi ys=some r)(k:Wc X (nDw R r c))
  (j:(hB X.fn.ntmps c,(Yf c).dst,(Yf c).op,Yo c 0,Yg (Yk c).M (Xw (Yg (Yk c).V (YA (Yo c 0)))),Yo c 1,Yg (Yk c).V (YA (Yo c 1)),Yg (Yk c).M (Xw (Yg (Yk c).V (YA (Yo c 1)))),Yg tt (Yq (Yf c).op),Sx tt R.sz c,Yg (Yk c).V (YA (Yo c 0)))=(true,some (YS c),.call { callee:=.builtin .copy,args:=#[Yx (Yf c).op 0,Yx (Yf c).op 1],argTypes:=#[Yq (Yf c).op,XB (Yf c).op] },some (.c (.sl (YA (Yo c 0)))),some (.own R xs (WT (Yg (Yk c).M (Xw (Yg (Yk c).V (YA (Yo c 0))))))),some (.c (.sl (YA (Yo c 1)))),some (.vw (Xw (Yg (Yk c).V (YA (Yo c 1)))) b e R.sz),some (.own R i (WT (Yg (Yk c).M (Xw (Yg (Yk c).V (YA (Yo c 1))))))),some (YC tt (Yq (Yf c).op)),true,some (.vw (Xw (Yg (Yk c).V (YA (Yo c 0)))) lo hi R.sz)):=by kernel_rfl):Wc X c:=by simp only[Zr]at j;have⟨q,l,u,v,x,y,z,A,C,f,g⟩:=j;have⟨D,G⟩:=Xm q;refine Wc.ev (d:=dDw R r c) D (Xs l rfl) (fun nk E0 F0 w0 n0 Z lK K o p h=>kg.cp (X:=X.var nk E0 F0 w0 n0 Z) lO n (ZuB m z A) o p u l v (.inl g) x y C (Qd f G) h) k
end
section
variable {X:lB}{s:St}{ops:Array lW}{lL:lZ->lQ->Prop}{tt:List (Nat×TD)}
theorem ky.addFn{E:lC}{F:YJ}{w:lQ}{a:lZ}(c:ky X s E F w a){k:Nat}{Φ:lR->Prop}(d:k<s.nx)(h:Φ (E.ρ k)):ky X ⟨s.L,s.M,(k,.fn Φ)::s.V,s.nx⟩ E F w a:={ c with
 wf:=⟨c.wf.hL,c.wf.hM,fun j f b=>by
  rw[YF]at b;split at b
  ·rename_i e;cases b;subst e;exact⟨d,trivial⟩
  ·exact c.wf.hV j f b⟩
 hV:=fun j f b=>by
  rw[YF]at b;split at b
  ·rename_i e;cases b;subst e;exact h
  ·exact c.hV j f b }
end
end
section

end
section
variable [kv]
open Go.Proofs
section
variable {X:lB}{s:St}{E:lC}{F:YJ}{w:lQ}{a:lZ}{ops:Array lW}{lL:lZ->lQ->Prop}
end
end
section
variable [kv]
open Go.Proofs
theorem og{β:Type}{b:Bool}{x:Option β}{r:β}(h:(bif b then x else none)=some r):b=true/\x=some r:=by
 cases b with
 |true=>exact⟨rfl,h⟩
 |false=>cases h
section
variable {X:lB}{tt:List (Nat×TD)}
def Zax(tt:List (Nat×TD))(nt:Nat):Nat->Cf->Cf
 |0,c=>c
 |n+1,c=>match a1 tt nt c with
  | .no=>c
  |c'=>Zax tt nt n c'
theorem ZmI(lO:kf X.P tt):∀(n:Nat) {c:Cf},Wc X (Zax tt X.fn.ntmps n c)->Wc X c
 |0,_,h=>h
 |n+1,c,h=>by
  unfold Zax at h;split at h
  ·exact h
  ·exact Zev lO (ZmI lO n h)
theorem wm(lO:kf X.P tt){c:Cf}(k:Wc X (Zax tt X.fn.ntmps 100 c)):Wc X c:=ZmI lO 100 k
def sl6(tt:List (Nat×TD))(nt:Nat)(c:Cf):Bool:=aO (YS c) nt && aF (YC tt (Yq (Yf c).op)).kd 6
def Zgv(ops:Array lW)(n:Nat):Bool:=aF ops.size (n+1) && match ops[n]? with
 |some o=>o.after.toList.all (fun d=> !du .any d || aO d.on n) && (cO n).all fun j=>o.after.toList.any fun d=>du .any d && (aF d.on j || Wr (SO ops.pop.toList []) d.on j)
 |none=>false
def tlC:Cf->Cf
 | .rg (some q) ops i k s=>.rg none ops i k (Vo q.2.2 s.nx q.2.1 fun _=>true)
 |_=>.no
def isT:Cf->Bool
 | .rg (some q) ops i _ _=>aF i q.2.2.length && Zgv ops i
 |_=>false
theorem L8{c:Cf}(k:Wc X (tlC c))(A:(isT c && TG c.ops,X.P.follows .mixedOrders,LU c.ops.pop (PU c) (SO c.ops.pop.toList []) (DU c).nx c.st.nx,Hq (PU c) (SO c.ops.pop.toList []) (DU c))=(true,true,true,HV (PU c)):=by kernel_rfl):Wc X c:=by
 simp only[Zr]at A;have⟨e,H,v,x⟩:=A;rw[Zc]at e;have⟨e,y⟩:=e;cases c with
 |no=>cases e
 |co k s=>cases e
 |rg m ops i D s=>
  cases m with
  |none=>cases e
  |some q=>
   refine⟨fun p K=>?_⟩;have⟨k⟩:=k;have⟨id,f,es⟩:=q;replace v:LU ops.pop es (SO ops.pop.toList []) f.nx s.nx=true:=v;replace x:Hq es (SO ops.pop.toList []) f=HV es:=x;replace p:AllLS X ops 0 es:=p;replace e:(aF i es.length && Zgv ops i)=true:=e;rw[Zc]at e;have⟨hi,b⟩:=e;have hi:=Zd hi;subst hi;unfold Zgv at b;rw[Zc]at b;have⟨l,b⟩:=b;have l:=Zd l;show WP X (.code (.region id ops true)::D) f;intro E F w a g;have c:=Zij v;refine ZlP y H ?_;have z:ky X f E F { w with drawn:=w.drawn+1 } a:=g.world rfl rfl .m (Zq _) fun _ _=>rfl;have n:∀j,(cQ ops.size false).getD j false=false:=fun j=>by by_cases h:j<ops.size<;>simp[h]
   have:=ZlD (X:=X) (t:=1) (ops':=ops.pop) (lL:=rk X D) (Zq _) l (fun j r=>by rw[Array.getElem?_pop,mD (by omega)]) (fun j o r C=>by
    have I:=(aW.1 C).1;obtain rfl:j=es.length:=by omega
    rw[C]at b;simp only[Zc]at b;refine⟨fun d u G=>?_,fun j r=>?_⟩
    ·have:=aH.1 b.1 d (by simpa using u);rw[G]at this;exact Y9 (by simpa using this)
    ·have⟨d,u,h⟩:=List.any_eq_true.1 (aH.1 b.2 j (cB.2 r));rw[Zc]at h;exact⟨d,by simpa using u,h.1,by
      rcases Bool.or_eq_true _ _▸h.2 with h|h
      ·exact .inl (Zd h)
      ·exact .inr h⟩) p c x g.wf g.nk (fun E F w a g=>by
    have:=k E F w a g;rw[l]at this;rw[show es.length+1-es.length=1 by omega]at this;exact this) es.length (cQ ops.size false) E F _ a (by simp) (fun j _=>n j)
    (fun i hi=>by rw[n]at hi;cases hi) (ZeP fun j _=>n j) (by
     have:Vo es s.nx f (fun j=>(cQ ops.size false).getD j false)=⟨f.L,f.M,f.V,s.nx⟩:=by rw[show (fun j=>(cQ ops.size false).getD j false)=fun _=>false from funext n];unfold Vo;rw[PX,PX,PX]
     rw[this];exact z.nxt c.nxle)
   rw[<-l]at this;exact this
end
end
section
variable [kv]
section
variable {X:lB}{tt:List (Nat×TD)}
end
end
section
def Zmu(P:lU)(g:Nat)(name:String)(k:lY)(zs:List Int):SH where
 fp _:=False
 ok F w:=F g/\P.globalNamed name=some g/\kR P w name k zs
 mono h _:=fun⟨h1,h2,h3⟩=>⟨h.sub g h1,h2,by unfold kR World.var? at h3 ⊢;rw[h2]at h3 ⊢;simp only[kS]at h3 ⊢;rw[h.same g h1];exact h3⟩
end
end Go.Kx
section
namespace Go.Kx
variable [kv]
section
variable {X:lB}{s:St}{ops:Array lW}{lL:lZ->lQ->Prop}{tt:List (Nat×TD)}
theorem kg.cvi{i:Nat}{lK:List Nat}{o:lW}{t u d:Nat}{x:lV}{k g:lY}{n:Int}
  (h:ops[i]?=some o) (j:Y3 ops s.L o=some true) (e:o.op=.convert t u x) (l:o.dst=some d)
  (m:X.P.underlying t=some (.int g)) (p:X.P.underlying u=some .string)
  (q:Yr s.L x=some (.c (.i k n))) (r:aO d X.fn.ntmps=true)
  (y:kg X ops lK lL ⟨(d,.c (.s (bE n)))::s.L,s.M,s.V,s.nx⟩):kg X ops (i::lK) lL s:=by
 refine kg.op h j (fun E F w a f=>?_) y;have⟨z,_⟩:=f.eval q;have b:(lT a.eval o).run X.P w=.ok (.value (.string (bE n))) w:=by simp only[lT,e,z,Yt,Yn];refine Xe ?_;simp[convert,Xl m,Xl p,Conv.intToString]
 refine XD b ⟨E,F,?_⟩;rw[l];exact f.setL (v:=.c (.s (bE n))) trivial (Y9 r)
end
section
variable {X:lB}{tt:List (Nat×TD)}
def ZqB:Option TypeDesc->lY
 |some (.int k)=>k
 |_=>.i64
def dCr(c:Cf):Dl:=d1 c (.c (.s (bE (Zke (Yo c 0)))))
def nCr(c:Cf):Cf:=Xh (dCr c) c
theorem eCr{c:Cf}(k:Wc X (nCr c))
  (b:(hB X.fn.ntmps c,(Yf c).dst,(Yf c).op,X.P.underlying (Yq (Yf c).op),X.P.underlying (XB (Yf c).op),Yo c 0)=(true,some (YS c),.convert (Yq (Yf c).op) (XB (Yf c).op) (Yx (Yf c).op 0),some (.int (ZqB (X.P.underlying (Yq (Yf c).op)))),some .string,some (.c (.i (UC (Yo c 0)) (Zke (Yo c 0))))):=by kernel_rfl):Wc X c:=by simp only[Zr]at b;have⟨j,e,l,m,n,o⟩:=b;have⟨p,q⟩:=Xm j;refine Wc.ev (d:=dCr c) p (Xs e rfl) (fun nk E0 F0 w0 n0 Z lK K f g h=>kg.cvi (X:=X.var nk E0 F0 w0 n0 Z) f g l e m n o q h) k
end
end Go.Kx
namespace Go.Kx
variable [kv]
theorem Zrt{P:lU}{f:lX}{c:Ct}{k:Nat}{A:SH}(h:Fn P f c)(o:c.M0=[(k,.abs A)])(i:c.res=.c (.b true))(g:∀b,¬ A.fp b){E:lC}{w:lQ}(p:A.ok (Uq w) w)(l:∀k,(E.ρ k).oneCell'=true)(hV:∀k x,Yg c.V0 k=some x->x.ok E (Uq w) w (E.ρ k)) :
  Calls P f (c.args.map (Yt E)).toArray w fun e w'=>e=.returned (.bool true)/\Ext (Uq w) w w':=by
 have n:∀j m,Yg c.M0 j=some m->m=.abs A:=fun j m h=>by
  rw[o,YF]at h;split at h
  ·cases h;rfl
  ·cases h
 have v:c.Pre E (Uq w) w:=⟨l,fun _ h=>h,hV,fun j m h=>by rw[n j m h];exact p,fun j y m m' h _ _ b d=>by rw[n j m h]at d;exact absurd d (g b),fun j m h b d=>by rw[n j m h]at d;exact absurd d (g b)⟩
 refine (h.calls E (Uq w) w v).mono fun e w' ⟨z,C,q,r⟩=>?_;refine⟨by rw[q,i];rfl,r.ext.mono fun b d=>⟨d,?_⟩⟩;rintro⟨j,m,u,d⟩;rw[n j m u]at d;exact g b d
end Go.Kx
namespace Go.Kx
theorem Zkt{P:lU}{w:lQ}{name:String}{d:DataW Unit}:∀(l:List (String×DataW Unit)) (ps:List MemPlace),DataW.LaidVars P w l ps->(name,d)∈l ->
    ∃g t cs b p,P.globalNamed name=some g/\(P.globals[g]?).map (·.type)=some t/\w.var? P name=some cs/\iK (fun _=>()) P w 0 (fun _=>true) false b t cs.toList=some (d,p)
  | [],_,_,h=>by cases h
  | (n,e)::r,ps,⟨g,t,cs,b,p,q,h1,h2,h3,h4,h5,_⟩,h=>by
    rcases List.mem_cons.1 h with c|h
    · cases c;exact⟨g,t,cs,b,p,h1,h2,h3,h4⟩
    · exact Zkt r q h5 h
theorem ZuL{P:lU}{W:lQ}{name:String}{k:lY}{zs:List Int}{l:List (String×DataW Unit)}{i:Nat}{g:Nat}{t e:lS}{n:Nat}(c:laidMetH P l W)(r:(l.filter fun x=>x.2.handleName?.isSome).isEmpty=true)
    (hi:l[i]?=some (name,Lib.tabData k zs)) (d:P.globalNamed name=some g) (f:(P.globals[g]?).map (·.type)=some t) (v:P.underlying t=some (.array n e)) (y:P.underlying e=some (.int k)) (j:P.cellsOf e=1) (m:P.cellsOf t=n) :
    (Zmu P g name k zs).ok (Uq W) W:=by
  have C:laidMet P l W:=by
    unfold laidMetH at c;split at c
    · exact c
    · rename_i h;rw[h]at r;cases r
  have⟨ps,z,_⟩:=C;have⟨G,H,cs,u,p,o,q,b,A⟩:=Zkt l ps z (Zb hi);obtain rfl:=Zm (d.symm.trans o);obtain rfl:=Zm (f.symm.trans q);have D:kR P W name k zs:=by unfold kR;rw[b,<-Lib.cells_of_tab v y j m A]
  refine⟨?_,d,D⟩;show g<W.heap.size;unfold World.var? at b;rw[d]at b;simp only[kS]at b;split at b
  · rename_i h;exact (aW.1 h).1
  · cases b
end Go.Kx
end
section
namespace Go.Kx
variable [kv]
def TC(l:List Int):be:=⟨(l.map fun c=>c.toNat.toUInt8).toArray⟩
def RB(s m:be):Option be:=bif aY (s.size+m.size) lim then some (s++m) else none
variable {s:be}
theorem Zh0{m z:be}(h:RB s m=some z):z=s++m/\s.size+m.size<=lim:=by
 unfold RB at h;cases b:aY (s.size+m.size) lim with
 |false=>rw[b]at h;cases h
 |true=>rw[b]at h;cases h;exact⟨rfl,Ze b⟩
def Sa(s:be)(l:List Int):Option be:=bif (l.all fun c=>decide (0<=c) && decide (c<256)) then RB s (TC l) else none
theorem ZaE(s m:be):Y7 (s++m)=Y7 s++Y7 m:=by unfold Y7;rw[ByteArray.data_append,Array.toList_append,List.map_append]
theorem ZeH{l:List Int}(h:(l.all fun c=>decide (0<=c) && decide (c<256))=true):Y7 (TC l)=l:=by
 unfold Y7 TC;simp only[cG]
 conv=>rhs;rw[<-List.map_id l]
 refine bK fun c b=>?_;have:=aH.1 h c b;simp only[Zc,l8]at this;obtain⟨n,rfl⟩:=Int.eq_ofNat_of_zero_le this.1;have d:n<256:=by omega
 simp[Function.comp,Nat.mod_eq_of_lt d]
theorem Zn3{z:be}{l:List Int}(h:Sa s l=some z):Y7 z=Y7 s++l/\s.size+l.length<=lim:=by
 unfold Sa at h;cases b:(l.all fun c=>decide (0<=c) && decide (c<256)) with
 |false=>rw[b]at h;cases h
 |true=>
  rw[b]at h;obtain⟨rfl,d⟩:=Zh0 h;rw[ZaE,ZeH b];have e:(TC l).size=l.length:=by show ((l.map _).toArray).size=_;simp
  exact⟨rfl,by omega⟩
def QB(ty:lS)(off:Nat)(el:lS):Prop:=off=0/\el=ty
theorem kq.q{ty:lS}{F:YJ}{w:lQ}{v:lR}(h:kq ty w s v):OwnQ (QB ty) (rI .u8) F w (Y7 s) v:=by
 rcases h with⟨h,rfl⟩|⟨b,cap,arr,fz,f,g,n,k,l,m⟩
 ·refine .inl ⟨ar (by rw[Se];exact h),rfl⟩
 ·refine .inr ⟨b,0,cap,arr,ty,fz,⟨rfl,rfl⟩,by rw[Se];exact f,by rw[Se];exact g,?_,k,l,fun i x c=>?_⟩
  ·show 0+cap*1<=_;omega
  ·refine⟨[.int .u8 x],rfl,fun j v d=>?_⟩;cases j with
   |succ j=>simp at d
   |zero=>
    simp only[aX,aR]at d;subst d;unfold Y7 at c;rw[aK,Zn]at c;obtain⟨u,e,rfl⟩:=c;have:=m i u e;show arr[0+i*1+0]?=_;rw[aw,Nat.mul_one,bu];exact this
theorem kq.of{ty:lS}{F:YJ}{w:lQ}{v:lR}(h:OwnQ (QB ty) (rI .u8) F w (Y7 s) v):kq ty w s v:=by
 rcases h with⟨h,rfl⟩|⟨b,off,cap,arr,el,fz,⟨rfl,rfl⟩,d,f,g,m,n,o⟩
 ·exact .inl ⟨by rw[<-Se,h];rfl,rfl⟩
 ·rw[Se]at d f;refine .inr ⟨b,cap,arr,fz,d,f,?_,m,n,fun i u j=>?_⟩
  ·have g:0+cap*1<=arr.size:=g;omega
  ·have⟨k,c,l⟩:=o i (u.toNat:Int) (by unfold Y7;rw[aK,j];rfl);have c:k=[.int .u8 (u.toNat:Int)]:=c;subst c;have:=l 0 _ rfl;have e:0+i*(rI .u8).sz+0=i:=by show 0+i*1+0=i;omega
   rw[e]at this;exact this
section
variable {X:lB}{s:St}{ops:Array lW}{lL:lZ->lQ->Prop}{tt:List (Nat×TD)}
variable {sb:be}{w:lQ}
theorem ky.newBuf{E:lC}{F:YJ}{a:lZ}{ty:lS}{v:lR}(d:ky X s E F w a)(g:kq ty w sb v)
  (e:∀b,YV v=some b->¬ F b/\¬ X.Z b/\b<w.heap.size/\∀k m',Yg s.M k=some m'->¬ m'.fp E k b) :
  ∃m,m.ρ s.nx=v/\ky X ⟨s.L,(s.nx,.buf sb ty)::s.M,s.V,s.nx+1⟩ m F w a:=by
 have l:E.Eqb s.nx (E.setρ s.nx v):=E.eqb_setρ _ _ _ (Zq _);have f:(E.setρ s.nx v).ρ s.nx=v:=by simp[lC.setρ]
 have u:=d.env l (fun j=>by
  simp only[lC.setρ];split
  ·rcases g with⟨_,rfl⟩|⟨_,_,_,_,rfl,_⟩<;>rfl
  ·exact d.one j)
 refine⟨_,f,u.addM' ?_ trivial ?_ (fun h=>by cases h)⟩
 ·show kq ty w sb ((E.setρ s.nx v).ρ s.nx);rw[f];exact g
 ·intro b c;have c:YV ((E.setρ s.nx v).ρ s.nx)=some b:=c;rw[f]at c;have⟨o,p,q,r⟩:=e b c;exact⟨o,p,q,fun k m' i n=>r k m' i ((MO.fp_eqb l (d.wf.hM k m' i).1).1 n)⟩
variable {d k:Nat}{o:lW}{lK:List Nat}{ty:Nat}{x y:lV}
theorem kg.apb(lO:kf X.P tt){i:Nat}{t t2:lS}{u m:TD}{A:SC}{z:be}{ys:List Int}
  (I:Y7 z=Y7 sb++ys/\sb.size+ys.length<=lim) (C:Ur X s (rI .u8) ys A) (N:ops[i]?=some o) (hg:Y3 ops s.L o=some true) (O:o.op=.call { callee:=.builtin .append,args:=#[x,y],argTypes:=#[t,t2] }) (hd:o.dst=some d)
  (hx:Yr s.L x=some (.c (.sl k))) (K:Yg s.M k=some (.buf sb ty)) (hy:Yr s.L y=some (.c A)) (ht:Yg tt t=some u) (S:Yg tt t2=some m)
  (Z:(aO d X.fn.ntmps && aF u.kd 6 && (aF m.kd 6 || aF m.kd 2) && aF u.es 1 && aY u.eb 32768 && aF u.el ty)=true)
  (kk:kg X ops lK lL ⟨(d,.c (.sl s.nx))::s.L,(s.nx,.buf z ty)::(k,.gone)::s.M,s.V,s.nx+1⟩):kg X ops (i::lK) lL s:=by
 refine kg.op N hg (fun E F w a f=>?_) kk;simp only[Zc]at Z;obtain⟨⟨⟨⟨⟨c1,c2⟩,T⟩,c3⟩,c4⟩,U⟩:=Z;have U:=Zd U;have⟨e1,_⟩:=f.eval hx;have⟨e2,_⟩:=f.eval hy;have N:kq ty w sb (E.ρ k):=f.hM k _ K;have r:∀b,YV (E.ρ k)=some b->_:=f.mF k _ K;have W:=ZfA (lO.get S) T;have⟨v',w',G,H,g1,g2,g3,g4,g5,g6⟩:=ZlN (QB ty) (ty:=o.type) ⟨rfl,U⟩ W (lO.get ht) c2 (R:=rI .u8) (Zd c3) (N.q (F:=F)) (C E F w a f) (fun b n=>(r b n).1) f.hF (fun b n=>(r b n).2.2) (by rw[Se];exact I.2) (Ze c4);rw[<-I.1]at H;refine XD (v:=v') (w':=w') (Vu O ?_) ?_
 ·simp only[bT,aI,au,e1,e2,Yt,Yn];exact Xe G
 ·have s1:=f.setM (m':=.gone) K g1 g2 g3 g4 (fun b n p=>g5 b n (fun e=>p e)) (fun _ h=>h.elim) trivial trivial (fun h=>by cases h);have⟨E',hv,s2⟩:=s1.newBuf (kq.of H) (fun b n=>by
    have⟨l,h2⟩:=g6 b n;rcases l with l|l
    ·have:=r b l;refine⟨this.1,this.2.1,h2,fun j m' g D=>?_⟩;simp only[YF]at g;split at g
     ·cases g;exact D.elim
     ·rename_i p;exact f.dis k j _ m' K g p b l D
    ·refine⟨fun hF=>absurd (f.hF b hF) (cv.2 l),fun I=>absurd (Zh (f.hZ b I) f.ext.size) (cv.2 l),h2,fun j m' g D=>?_⟩;simp only[YF]at g;split at g
     ·cases g;exact D.elim
     ·exact absurd (f.mF j m' g b D).2.2 (cv.2 l))
  have Y:=s2.setL (d:=d) (v:=.c (.sl s.nx)) (Nat.lt_succ_self _) (Y9 c1);simp only[Yt,Yn]at Y;rw[show E'.ρ s.nx=v' from hv]at Y;rw[hd];exact⟨E',F,Y⟩
theorem kg.usd{i:Nat}{m:Array lS}
  (n:ops[i]?=some o) (p:Y3 ops s.L o=some true) (g:o.op=.call { callee:=.builtin .unsafeSliceData,args:=#[x],argTypes:=m }) (q:o.dst=some d)
  (r:Yr s.L x=some (.c (.sl k))) (l:Yg s.M k=some (.buf sb ty)) (e:(aF sb.size 0)=false) (u:aO d X.fn.ntmps=true)
  (y:kg X ops lK lL ⟨(d,.c (.px k 0))::s.L,s.M,s.V,s.nx⟩):kg X ops (i::lK) lL s:=by
 refine kg.val (v:=.c (.px k 0)) (fun E F w a j=>⟨?_,(j.wf.hM k _ l).1⟩) n p q u y;have⟨z,_⟩:=j.eval r;have D:kq ty w sb (E.ρ k):=j.hM k _ l;rcases D with⟨h,_⟩|⟨b,cap,arr,fz,A,C,G,H,I,K⟩
 ·rw[h]at e;cases e
 ·refine Vu g ?_;simp only[bT,aI,au,z,Yt,Yn,A];have f:cap≠0:=by
   intro h;rw[h]at C;have:sb.size=0:=by omega
   rw[this]at e;cases e
  exact Xe ((Go.Lib.run_unsafeSliceData_row _ _ _ _ _ _ f).trans (by simp[WW]))
theorem kg.bln(lO:kf X.P tt){i:Nat}{t:lS}{j:TD}
  (n:ops[i]?=some o) (p:Y3 ops s.L o=some true) (e:o.op=.call { callee:=.builtin .len,args:=#[x],argTypes:=#[t] }) (q:o.dst=some d)
  (r:Yr s.L x=some (.c (.sl k))) (u:Yg s.M k=some (.buf sb ty)) (y:Yg tt t=some j) (f:(aO d X.fn.ntmps && aF j.kd 6)=true)
  (z:kg X ops lK lL ⟨(d,.c (.i .i64 sb.size))::s.L,s.M,s.V,s.nx⟩):kg X ops (i::lK) lL s:=by
 simp only[Zc]at f;refine kg.val (v:=.c (.i .i64 sb.size)) (fun E F w a l=>⟨?_,trivial⟩) n p q f.1 z;have⟨el,m,D⟩:=(lO.get y).sliceOf f.2;have⟨A,_⟩:=l.eval r;have C:kq ty w sb (E.ρ k):=l.hM k _ u;refine Vu e ?_;simp only[bT,aI,au,A,Yt,Yn];rcases C with⟨h,g⟩|⟨b,cap,arr,fz,g,_⟩
 ·rw[g,h];exact Xe (by simp[dt,Xl m,eA,goInt])
 ·rw[g];exact Xe (by simp[dt,Xl m,eA,goInt])
theorem Zp9{b n:Nat}{arr:Array lR}{ty:lS}{fz:Nat×Nat}(a:Addr):(w.freeze a n).os=w.os/\(w.freeze a n).tape=w.tape/\(w.freeze a n).output=w.output/\(w.freeze a n).drawn=w.drawn/\(w.freeze a n).heap.size=w.heap.size/\∀c,c≠a.block->(w.freeze a n).heap[c]?=w.heap[c]?:= by
 unfold World.freeze;split
 ·exact⟨rfl,rfl,rfl,rfl,rfl,fun _ _=>rfl⟩
 ·refine⟨rfl,rfl,rfl,rfl,by simp,fun c d=>?_⟩;simp only[eI];rw[mE (Ne.symm d)]
theorem kg.ust{i:Nat}{u D:lS}{n:Int}
  (K:ops[i]?=some o) (N:Y3 ops s.L o=some true) (z:o.op=.call { callee:=.builtin .unsafeString,args:=#[x,y],argTypes:=#[u,D] }) (O:o.dst=some d)
  (R:Yr s.L x=some (.c (.px k 0))) (S:Yr s.L y=some (.c (.i .i64 n))) (hn0:n=(sb.size:Int)) (G:Yg s.M k=some (.buf sb ty)) (f:(aF sb.size 0 || !(aY sb.size lim))=false)
  (A:X.P.underlying u=some (.pointer ty)) (C:X.P.cellsOf ty=1) (T:aO d X.fn.ntmps=true)
  (U:kg X ops lK lL ⟨(d,.c (.s sb))::s.L,(k,.gone)::s.M,s.V,s.nx⟩):kg X ops (i::lK) lL s:=by
 refine kg.op K N (fun E F w a r=>?_) U;have⟨Y,_⟩:=r.eval R;have⟨Z,_⟩:=r.eval S;rw[dG,Bool.not_eq_false']at f;have⟨f,g⟩:=f;have g:=Ze g;have hb:kq ty w sb (E.ρ k):=r.hM k _ G;rcases hb with⟨h,_⟩|⟨b,cap,arr,fz,H,h1,h2,h3,I,h5⟩
 ·rw[h]at f;cases f
 have l:sb.data.toList.length=sb.size:=by rw[aq];rfl
 have p:=Lib.run_unsafeString_row (P:=X.P) w u D o.type ty A C b arr.size (by simp[jZ,I]) sb.data.toList (fun h=>by rw[<-l,h]at f;cases f) (by rw[l];omega) (by rw[l];unfold lim at g;omega) (fun j x W=>by rw[Ww,RI I,aw];exact h5 j x W)
 have e3:(⟨sb.data.toList.toArray⟩:be)=sb:=by rw[dc]
 rw[l,e3]at p;have⟨f1,f2,f3,f4,f5,f6⟩:=Zp9 (w:=w) (b:=b) (n:=sb.size) (arr:=arr) (ty:=ty) (fz:=fz) ⟨b,0,none⟩;refine XD (v:=.string sb) (w':=w.freeze ⟨b,0,none⟩ sb.size) (Vu z ?_) ?_
 ·simp only[bT,aI,au,Y,Z,Yt,Yn,H,WW,bu,hn0];exact Xe p
 ·have s1:=r.setM (m':=.gone) (w':=w.freeze ⟨b,0,none⟩ sb.size) G f1 f2 (.m f3 (by rw[f4];exact Zq _)) (by rw[f5];exact Zq _) (fun c hc q=>f6 c (fun e=>q (by show YV (E.ρ k)=some c;rw[H,e];rfl))) (fun _ h=>h.elim) trivial trivial (fun h=>by cases h);have s3:=s1.setL (d:=d) (v:=.c (.s sb)) trivial (Y9 T);rw[O];exact⟨E,F,s3⟩
variable {cs:List SC}{el t:Nat}
theorem kg.axa(j:Nat){i:Nat}{len es:Nat}{ik:lY}{n:Int}
    (q:n=(j:Int)) (r:ops[i]?=some o) (u:Y3 ops s.L o=some true) (f:o.op=.index t x y) (z:o.dst=some d) (A:X.P.underlying t=some (.array len el))
    (l:(X.P.info? el).map (·.size)=some es) (C:Wh X.P el=true) (g:(X.P.underlying el).isSome=true) (b:aO j len=true)
    (D:Yr s.L x=some (.a cs)) (m:aY (j*es+es) cs.length=true) (h:Yr s.L y=some (.c (.i ik n))) (G:aO d X.fn.ntmps=true)
    (H:kg X ops lK lL ⟨(d,.a ((cs.drop (j*es)).take es))::s.L,s.M,s.V,s.nx⟩):kg X ops (i::lK) lL s:=by
  refine kg.val (v:=.a ((cs.drop (j*es)).take es)) (fun E F w a p=>?_) r u z G H;have⟨I,K⟩:=p.eval D;have⟨N,_⟩:=p.eval h;have⟨ds,k⟩:=bC.1 g;refine⟨?_,fun y h=>K y (List.mem_of_mem_drop (List.mem_of_mem_take h))⟩;simp only[lT,f,I,N,Yt,Yn];refine Xe ?_;have e:=ZbJ w k;rw[C]at e;have T:(sizeOf el).run X.P w=.ok es w:=by rw[Zn]at l;have⟨O,R,S⟩:=l;simp[sizeOf,typeInfo,R,S]
  have b:=Y9 b;have m:=Ze m;subst q;have U:(0<=(j:Int)/\(j:Int)<(len:Int)):=⟨by omega,by omega⟩
  simp only[Instr.index,asIntOf,aG,aJ,aD,Xl A,U,and_self,mA,T,part,e,Int.toNat_natCast];congr 2;apply Array.ext';rw[Array.toList_extract];simp only[List.extract,List.map_take,List.map_drop];congr 1;omega
variable {off:Nat}
theorem kg.pps{i:Nat}{g:Nat}
  (h:ops[i]?=some o) (l:Y3 ops s.L o=some true) (e:o.op=.binOp .neq t x y g) (m:o.dst=some d) (n:X.P.underlying t=some (.pointer el)) (hi:(X.P.info? el).isSome=true)
  (p:Yr s.L x=some (.c (.bp k off))) (q:Yr s.L y=some (.c (.bp k off))) (r:aO d X.fn.ntmps=true)
  (u:kg X ops lK lL ⟨(d,.c (.b false))::s.L,s.M,s.V,s.nx⟩):kg X ops (i::lK) lL s:=by refine kg.val (v:=.c (.b false)) (fun E F w a f=>?_) h l m r u;have⟨z,_⟩:=f.eval p;have⟨A,_⟩:=f.eval q;have⟨j,C⟩:=bC.1 hi;refine⟨?_,trivial⟩;simp only[lT,e,z,A,Yt,Yn];refine Xe ?_;have:=Lib.run_neq_ptr_same (P:=X.P) w ⟨E.β k,off,none⟩ n C;simp only[eqGuard,aG,aJ,aD];exact this
theorem kg.pnn{i:Nat}{h:Nat}
  (j:ops[i]?=some o) (k:Y3 ops s.L o=some true) (e:o.op=.binOp .eql t x y h) (l:o.dst=some d) (m:X.P.underlying t=some (.pointer el))
  (n:Yr s.L x=some (.c (.v (.pointer none)))) (p:Yr s.L y=some (.c (.v (.pointer none)))) (r:aO d X.fn.ntmps=true)
  (u:kg X ops lK lL ⟨(d,.c (.b true))::s.L,s.M,s.V,s.nx⟩):kg X ops (i::lK) lL s:=by
 refine kg.val (v:=.c (.b true)) (fun E F w a g=>?_) j k l r u;have⟨z,_⟩:=g.eval n;have⟨A,_⟩:=g.eval p;refine⟨?_,trivial⟩;simp only[lT,e,z,A,Yt,Yn];refine Xe ?_;have f:(dp t (.pointer none) (.pointer none)).run X.P w=.ok true w:=by show (eQ (9999+1) t _ _).run X.P w=.ok true w;generalize 9999=q;simp only[eQ,aG,Xl m,aD,aJ,Option.isNone_none]
 simp only[eqGuard,aG,aJ,aD];show (do pure (Value.bool (<-dp t _ _)):Sem lR).run X.P w=_;simp only[aG,f,aD,aJ]
theorem Zl0{E:lC}{F:YJ}{a:lZ}(b:ky X s E F w a)(hM:Yg s.M k=some (.box cs ty)):w.shape? (E.β k)=some (ty,cs.length):=by have:w.heap[E.β k]?=some (.cells (cs.map (Yn E)).toArray ty (0,0)):=b.hM k _ hM;unfold jZ;rw[this];simp
variable {b:Nat}
theorem kg.cvu{i:Nat}{dst:Nat}
  (p:ops[i]?=some o) (q:Y3 ops s.L o=some true) (g:o.op=.convert b dst x) (r:o.dst=some d) (l:X.P.underlying b=some (.pointer t)) (m:X.P.underlying dst=some .unsafePointer)
  (hi:(X.P.info? t).map (fun j=>aF j.size 0)=some false) (u:Yr s.L x=some (.c (.bp k off))) (hM:Yg s.M k=some (.box cs ty)) (e:aO off cs.length=true) (y:aO d X.fn.ntmps=true)
  (z:kg X ops lK lL ⟨(d,.c (.bp k off))::s.L,s.M,s.V,s.nx⟩):kg X ops (i::lK) lL s:=by refine kg.val (v:=.c (.bp k off)) (fun E F w a n=>?_) p q r y z;have⟨A,C⟩:=n.eval u;refine⟨?_,C⟩;rw[Zn]at hi;have⟨j,D,f⟩:=hi;simp only[lT,g,A,Yt,Yn];refine Xe ?_;exact Lib.run_to_unsafe (P:=X.P) w ⟨E.β k,off,none⟩ l m D (fun h=>by rw[h]at f;cases f) (Zl0 n hM) (Y9 e)
theorem kg.cvp{i:Nat}{dst:Nat}
  (l:ops[i]?=some o) (m:Y3 ops s.L o=some true) (e:o.op=.convert b dst x) (n:o.dst=some d) (f:X.P.underlying b=some .unsafePointer) (g:X.P.underlying dst=some (.pointer t))
  (hi:(X.P.info? t).isSome=true) (p:Yr s.L x=some (.c (.bp k off))) (hM:Yg s.M k=some (.box cs ty)) (q:liesAt X.P X.P.depth ty (cs.length/X.P.cellsOf ty) off t 1=true) (r:aO d X.fn.ntmps=true)
  (u:kg X ops lK lL ⟨(d,.c (.bp k off))::s.L,s.M,s.V,s.nx⟩):kg X ops (i::lK) lL s:=by refine kg.val (v:=.c (.bp k off)) (fun E F w a h=>?_) l m n r u;have⟨y,z⟩:=h.eval p;refine⟨?_,z⟩;have⟨j,A⟩:=bC.1 hi;simp only[lT,e,y,Yt,Yn];refine Xe ?_;exact Lib.run_from_unsafe (P:=X.P) w ⟨E.β k,off,none⟩ f g A (Zl0 h hM) q
theorem kg.nes{i:Nat}{f:lX}{fn:Func}{h:Array lS}
  (j:X.P.funcs[f]?=some fn) (b:(fn.name == "runtime.NumGoroutine")=false) (l:fn.body.isNone=true) (e:gd fn=none) (m:ju fn=some iq)
  (n:ops[i]?=some o) (p:Y3 ops s.L o=some true) (g:o.op=.call { callee:=.value (.func f),args:=#[x],argTypes:=h }) (q:o.dst=some d) (r:Yr s.L x=some (.c (.bp k off))) (u:aO d X.fn.ntmps=true)
  (y:kg X ops lK lL ⟨(d,.c (.bp k off))::s.L,s.M,s.V,s.nx⟩):kg X ops (i::lK) lL s:=by
 refine kg.val (v:=.c (.bp k off)) (fun E F w a z=>?_) n p q u y;have⟨A,C⟩:=z.eval r;refine⟨?_,C⟩;unfold lT;simp only[g,resolve,fR,Act.eval,invoke,aG,aJ,aD];have:(callFunc f #[Yn E (.bp k off)]).run X.P w=.ok (.value (Yn E (.bp k off))) w:=by rw[run_callFunc_extern j b l e m,Lib.run_noEscape];rfl
 have D:#[x].map a.eval=#[Yn E (.bp k off)]:=by simp[A,Yt]
 rw[show (#[]:Array lR)++Array.map a.eval #[x]++#[]=#[Yn E (.bp k off)] by rw[D];simp];exact this
end
section
variable {X:lB}{tt:List (Nat×TD)}
def Vp(tt:List (Nat×TD))(j:Nat)(c:Cf):TD:=YC tt (match j with|0=>Yq (Yf c).op|_=>XB (Yf c).op)
def Du(tt:List (Nat×TD))(c:Cf):Bool:=aF (Vp tt 0 c).kd 6 && (aF (Vp tt 1 c).kd 6 || aF (Vp tt 1 c).kd 2) && aF (Vp tt 0 c).es 1 && aY (Vp tt 0 c).eb 32768
variable {c:Cf}
theorem Zrh{b d:Nat}(h:Du tt c=true)(e:aO d b=true):(aO d b && aF (Vp tt 0 c).kd 6 && (aF (Vp tt 1 c).kd 6 || aF (Vp tt 1 c).kd 2) && aF (Vp tt 0 c).es 1 && aY (Vp tt 0 c).eb 32768)=true:=by unfold Du at h;rw[e];simpa using h
def dBa(z:be)(ty:lS)(c:Cf):Dl:=⟨[(YS c,.c (.sl (Yk c).nx))],[((Yk c).nx,.buf z ty),(YA (Yo c 0),.gone)],[],1⟩
def nBa(z:be)(ty:lS)(c:Cf):Cf:=Xh (dBa z ty c) c
variable {sb:be}{ty:lS}{z:be}
theorem eBa{ys:List Int}(lO:kf X.P tt)(i:Y7 z=Y7 sb++ys/\sb.size+ys.length<=lim)(b:∀nk E0 F0 w0 n0 Z,Ur (X.var nk E0 F0 w0 n0 Z) (Yk c) (rI .u8) ys (Ut (Yo c 1)))(k:Wc X (nBa z ty c))
  (f:(hB X.fn.ntmps c,(Yf c).dst,(Yf c).op,Yo c 0,Yg (Yk c).M (YA (Yo c 0)),Yo c 1,Yg tt (Yq (Yf c).op),Yg tt (XB (Yf c).op),Du tt c,(Vp tt 0 c).el)=(true,some (YS c),.call { callee:=.builtin .append,args:=#[Yx (Yf c).op 0,Yx (Yf c).op 1],argTypes:=#[Yq (Yf c).op,XB (Yf c).op] },some (.c (.sl (YA (Yo c 0)))),some (.buf sb ty),some (.c (Ut (Yo c 1))),some (Vp tt 0 c),some (Vp tt 1 c),true,ty):=by kernel_rfl):Wc X c:=by simp only[Zr]at f;have⟨m,g,n,o,p,q,r,u,v,e⟩:=f;have⟨x,y⟩:=Xm m;refine Wc.ev (d:=dBa z ty c) x (Xs g rfl) (fun nk E0 F0 w0 n0 Z lK K j l h=>kg.apb (X:=X.var nk E0 F0 w0 n0 Z) lO i (b nk E0 F0 w0 n0 Z) j l n g o p q r u ?_ h) k;rw[Zc];exact⟨Zrh v y,by rw[e];exact Nat.beq_refl _⟩
theorem eBt{m:be}(lO:kf X.P tt)(b:RB sb m=some z)(k:Wc X (nBa z ty c))
  (d:Ut (Yo c 1)=.s m:=by kernel_rfl)
  (e:(hB X.fn.ntmps c,(Yf c).dst,(Yf c).op,Yo c 0,Yg (Yk c).M (YA (Yo c 0)),Yo c 1,Yg tt (Yq (Yf c).op),Yg tt (XB (Yf c).op),Du tt c,(Vp tt 0 c).el)=(true,some (YS c),.call { callee:=.builtin .append,args:=#[Yx (Yf c).op 0,Yx (Yf c).op 1],argTypes:=#[Yq (Yf c).op,XB (Yf c).op] },some (.c (.sl (YA (Yo c 0)))),some (.buf sb ty),some (.c (Ut (Yo c 1))),some (Vp tt 0 c),some (Vp tt 1 c),true,ty):=by kernel_rfl):Wc X c:=by obtain⟨rfl,f⟩:=Zh0 b;exact eBa (ys:=Y7 m) lO ⟨ZaE _ _,by rw[Se];exact f⟩ (fun _ _ _ _ _ _=>by rw[d];exact Zuz) k e
theorem L5{ys:List Int}{fr:Bool}{q:Nat}(lO:kf X.P tt)(d:Sa sb ys=some z)(k:Wc X (nBa z ty c))
  (b:(Ut (Yo c 1),Yg (Yk c).M q)=(.sl q,some (.own (rI .u8) ys fr)):=by kernel_rfl)
  (e:(hB X.fn.ntmps c,(Yf c).dst,(Yf c).op,Yo c 0,Yg (Yk c).M (YA (Yo c 0)),Yo c 1,Yg tt (Yq (Yf c).op),Yg tt (XB (Yf c).op),Du tt c,(Vp tt 0 c).el)=(true,some (YS c),.call { callee:=.builtin .append,args:=#[Yx (Yf c).op 0,Yx (Yf c).op 1],argTypes:=#[Yq (Yf c).op,XB (Yf c).op] },some (.c (.sl (YA (Yo c 0)))),some (.buf sb ty),some (.c (Ut (Yo c 1))),some (Vp tt 0 c),some (Vp tt 1 c),true,ty):=by kernel_rfl):Wc X c:=by simp only[Zr]at b;exact eBa (ys:=ys) lO (Zn3 d) (fun _ _ _ _ _ _=>by rw[b.1];exact Zmi b.2) k e
def nUd(c:Cf):Cf:=Xh (d1 c (.c (.px (YA (Yo c 0)) 0))) c
theorem eUd(b:(aF sb.size 0 || !(aY sb.size lim))=false)(k:Wc X (nUd c))
  (e:(hB X.fn.ntmps c,(Yf c).dst,(Yf c).op,Yo c 0,Yg (Yk c).M (YA (Yo c 0)))=(true,some (YS c),.call { callee:=.builtin .unsafeSliceData,args:=#[Yx (Yf c).op 0],argTypes:=HU (Yf c).op },some (.c (.sl (YA (Yo c 0)))),some (.buf sb ty)):=by kernel_rfl):Wc X c:=by simp only[Zr]at e;have⟨j,f,l,m,n⟩:=e;have⟨o,p⟩:=Xm j;rw[dG]at b;exact Wc.ev (d:=d1 c (.c (.px (YA (Yo c 0)) 0))) o (Xs f rfl) (fun nk E0 F0 w0 n0 Z lK K g i h=>kg.usd (X:=X.var nk E0 F0 w0 n0 Z) g i l f m n b.1 p h) k
def nBl(sb:be)(c:Cf):Cf:=Xh (d1 c (.c (.i .i64 sb.size))) c
theorem L4(lO:kf X.P tt)(k:Wc X (nBl sb c))
  (b:(hB X.fn.ntmps c,(Yf c).dst,(Yf c).op,Yo c 0,Yg (Yk c).M (YA (Yo c 0)),Yg tt (Yq (Yf c).op),sl6 tt X.fn.ntmps c)=(true,some (YS c),.call { callee:=.builtin .len,args:=#[Yx (Yf c).op 0],argTypes:=#[Yq (Yf c).op] },some (.c (.sl (YA (Yo c 0)))),some (.buf sb ty),some (YC tt (Yq (Yf c).op)),true):=by kernel_rfl):Wc X c:=by simp only[Zr]at b;have⟨j,e,l,m,n,o,p⟩:=b;have⟨q,r⟩:=Xm j;exact Wc.ev (d:=d1 c (.c (.i .i64 sb.size))) q (Xs e rfl) (fun nk E0 F0 w0 n0 Z lK K f g h=>kg.bln (X:=X.var nk E0 F0 w0 n0 Z) lO f g l e m n o p h) k
def nUs(sb:be)(c:Cf):Cf:=Xh ⟨[(YS c,.c (.s sb))],[(YA (Yo c 0),.gone)],[],0⟩ c
theorem eUs(b:(aF sb.size 0 || !(aY sb.size lim))=false)(k:Wc X (nUs sb c))
  (e:(hB X.fn.ntmps c,(Yf c).dst,(Yf c).op,Yo c 0,Yo c 1,Yg (Yk c).M (YA (Yo c 0)),X.P.underlying (Yq (Yf c).op),X.P.cellsOf ty)=(true,some (YS c),.call { callee:=.builtin .unsafeString,args:=#[Yx (Yf c).op 0,Yx (Yf c).op 1],argTypes:=#[Yq (Yf c).op,XB (Yf c).op] },some (.c (.px (YA (Yo c 0)) 0)),some (.c (.i .i64 (sb.size:Int))),some (.buf sb ty),some (.pointer ty),1):=by kernel_rfl):Wc X c:=by simp only[Zr]at e;have⟨l,f,m,n,o,p,q,r⟩:=e;have⟨u,v⟩:=Xm l;exact Wc.ev (d:=⟨[(YS c,.c (.s sb))],[(YA (Yo c 0),.gone)],[],0⟩) u (Xs f rfl) (fun nk E0 F0 w0 n0 Z lK K g j h=>kg.ust (X:=X.var nk E0 F0 w0 n0 Z) g j m f n o rfl p b q r v h) k
def S2(s:be):Option Unit:=bif (aF s.size 0 || !(aY s.size lim)) then none else some ()
theorem Zbd{s:be}{u:Unit}(h:S2 s=some u):(aF s.size 0 || !(aY s.size lim))=false:=by
 unfold S2 at h;cases b:(aF s.size 0 || !(aY s.size lim)) with
 |false=>rfl
 |true=>rw[b]at h;cases h
def nUn(c:Cf):Cf:=Xh (d1 c (.c (.v (.pointer none)))) c
theorem eUn(k:Wc X (nUn c))
  (b:(hB X.fn.ntmps c,(Yf c).dst,(Yf c).op,Yo c 0)=(true,some (YS c),.call { callee:=.builtin .unsafeSliceData,args:=#[Yx (Yf c).op 0],argTypes:=HU (Yf c).op },some (.c .nil)):=by kernel_rfl):Wc X c:=by
 simp only[Zr]at b;have⟨j,e,l,m⟩:=b;have⟨n,o⟩:=Xm j;exact Wc.ev (d:=d1 c (.c (.v (.pointer none)))) n (Xs e rfl) (fun nk E0 F0 w0 n0 Z lK K f g h=>kg.val (X:=X.var nk E0 F0 w0 n0 Z) (v:=.c (.v (.pointer none))) (fun E F w a i=>⟨by have⟨p,_⟩:=i.eval m;refine Vu l ?_;simp only[bT,aI,au,p,Yt,Yn];exact Xe (Go.Lib.run_unsafeSliceData_nil _ _ _ _ _),rfl⟩) f g e o h) k
def nUz(c:Cf):Cf:=Xh (d1 c (.c (.s ao))) c
theorem eUz(k:Wc X (nUz c))
  (b:(hB X.fn.ntmps c,(Yf c).dst,(Yf c).op,Yo c 0,Yo c 1)=(true,some (YS c),.call { callee:=.builtin .unsafeString,args:=#[Yx (Yf c).op 0,Yx (Yf c).op 1],argTypes:=#[Yq (Yf c).op,XB (Yf c).op] },some (.c (.v (.pointer none))),some (.c (.i .i64 0))):=by kernel_rfl):Wc X c:=by
 simp only[Zr]at b;have⟨l,f,m,n,o⟩:=b;have⟨p,q⟩:=Xm l;exact Wc.ev (d:=d1 c (.c (.s ao))) p (Xs f rfl) (fun nk E0 F0 w0 n0 Z lK K g j h=>kg.val (X:=X.var nk E0 F0 w0 n0 Z) (v:=.c (.s ao)) (fun E F w a e=>⟨by have⟨r,_⟩:=e.eval n;have⟨u,_⟩:=e.eval o;refine Vu m ?_;simp only[bT,aI,au,r,u,Yt,Yn];exact Xe (Lib.run_unsafeString_none w _ _ _ none),trivial⟩) g j f q h) k
def nAa(P:lU)(j:Nat)(c:Cf):Cf:=Xh (d1 c (.a (((Us (Yo c 0)).drop (j*Qg P (XZ P (Yq (Yf c).op)))).take (Qg P (XZ P (Yq (Yf c).op)))))) c
theorem eAa{m:Int}(j:Nat)(l:m=(j:Int))(k:Wc X (nAa X.P j c))
    (f:(hB X.fn.ntmps c,(Yf c).dst,(Yf c).op,X.P.underlying (Yq (Yf c).op),(X.P.info? (XZ X.P (Yq (Yf c).op))).map (·.size),Wh X.P (XZ X.P (Yq (Yf c).op)),(X.P.underlying (XZ X.P (Yq (Yf c).op))).isSome,aO j (ZaB X.P (Yq (Yf c).op)),Yo c 0,aY (j*Qg X.P (XZ X.P (Yq (Yf c).op))+Qg X.P (XZ X.P (Yq (Yf c).op))) (Us (Yo c 0)).length,Yo c 1)=(true,some (YS c),.index (Yq (Yf c).op) (Yx (Yf c).op 0) (Yx (Yf c).op 1),some (.array (ZaB X.P (Yq (Yf c).op)) (XZ X.P (Yq (Yf c).op))),some (Qg X.P (XZ X.P (Yq (Yf c).op))),true,true,true,some (.a (Us (Yo c 0))),true,some (.c (.i (UC (Yo c 1)) m))):=by kernel_rfl):Wc X c:=by simp only[Zr]at f;have⟨p,g,q,r,u,v,x,y,z,b,e⟩:=f;have⟨A,C⟩:=Xm p;exact Wc.ev (d:=d1 c (.a (((Us (Yo c 0)).drop (j*Qg X.P (XZ X.P (Yq (Yf c).op)))).take (Qg X.P (XZ X.P (Yq (Yf c).op)))))) A (Xs g rfl) (fun nk E0 F0 w0 n0 Z lK K n o h=>kg.axa (X:=X.var nk E0 F0 w0 n0 Z) j l n o q g r u v x y z b e C h) k
def nBo(b:Bool)(c:Cf):Cf:=Xh (d1 c (.c (.b b))) c
theorem ePs(k:Wc X (nBo false c))
  (e:(hB X.fn.ntmps c,(Yf c).dst,(Yf c).op,X.P.underlying (Yq (Yf c).op),(X.P.info? (XZ X.P (Yq (Yf c).op))).isSome,Yo c 0,Yo c 1)=(true,some (YS c),.binOp .neq (Yq (Yf c).op) (Yx (Yf c).op 0) (Yx (Yf c).op 1) (XB (Yf c).op),some (.pointer (XZ X.P (Yq (Yf c).op))),true,some (.c (.bp (YA (Yo c 0)) (XJ (Yo c 0)))),some (.c (.bp (YA (Yo c 0)) (XJ (Yo c 0))))):=by kernel_rfl):Wc X c:=by simp only[Zr]at e;have⟨j,f,l,m,n,o,p⟩:=e;have⟨q,r⟩:=Xm j;exact Wc.ev (d:=d1 c (.c (.b false))) q (Xs f rfl) (fun nk E0 F0 w0 n0 Z lK K g i h=>kg.pps (X:=X.var nk E0 F0 w0 n0 Z) g i l f m n o p r h) k
theorem ePz(k:Wc X (nBo true c))
  (e:(hB X.fn.ntmps c,(Yf c).dst,(Yf c).op,X.P.underlying (Yq (Yf c).op),Yo c 0,Yo c 1)=(true,some (YS c),.binOp .eql (Yq (Yf c).op) (Yx (Yf c).op 0) (Yx (Yf c).op 1) (XB (Yf c).op),some (.pointer (XZ X.P (Yq (Yf c).op))),some (.c (.v (.pointer none))),some (.c (.v (.pointer none)))):=by kernel_rfl):Wc X c:=by simp only[Zr]at e;have⟨j,f,l,m,n,o⟩:=e;have⟨p,q⟩:=Xm j;exact Wc.ev (d:=d1 c (.c (.b true))) p (Xs f rfl) (fun nk E0 F0 w0 n0 Z lK K g i h=>kg.pnn (X:=X.var nk E0 F0 w0 n0 Z) g i l f m n o q h) k
def nSm(c:Cf):Cf:=Xh (d1 c (.c (.bp (YA (Yo c 0)) (XJ (Yo c 0))))) c
theorem eCu(k:Wc X (nSm c))
  (b:(hB X.fn.ntmps c,(Yf c).dst,(Yf c).op,X.P.underlying (Yq (Yf c).op),X.P.underlying (XB (Yf c).op),(X.P.info? (XZ X.P (Yq (Yf c).op))).map (fun j=>aF j.size 0),Yo c 0,Yg (Yk c).M (YA (Yo c 0)),aO (XJ (Yo c 0)) (QJ (Yg (Yk c).M (YA (Yo c 0)))).length)=(true,some (YS c),.convert (Yq (Yf c).op) (XB (Yf c).op) (Yx (Yf c).op 0),some (.pointer (XZ X.P (Yq (Yf c).op))),some .unsafePointer,some false,some (.c (.bp (YA (Yo c 0)) (XJ (Yo c 0)))),some (.box (QJ (Yg (Yk c).M (YA (Yo c 0)))) (Da (Yg (Yk c).M (YA (Yo c 0))))),true):=by kernel_rfl):Wc X c:=by simp only[Zr]at b;have⟨i,e,l,m,n,o,p,q,r⟩:=b;have⟨u,v⟩:=Xm i;exact Wc.ev (d:=d1 c (.c (.bp (YA (Yo c 0)) (XJ (Yo c 0))))) u (Xs e rfl) (fun nk E0 F0 w0 n0 Z lK K f g h=>kg.cvu (X:=X.var nk E0 F0 w0 n0 Z) f g l e m n o p q r v h) k
theorem eCq(k:Wc X (nSm c))
  (b:(hB X.fn.ntmps c,(Yf c).dst,(Yf c).op,X.P.underlying (Yq (Yf c).op),X.P.underlying (XB (Yf c).op),(X.P.info? (XZ X.P (XB (Yf c).op))).isSome,Yo c 0,Yg (Yk c).M (YA (Yo c 0)),liesAt X.P X.P.depth (Da (Yg (Yk c).M (YA (Yo c 0)))) ((QJ (Yg (Yk c).M (YA (Yo c 0)))).length/X.P.cellsOf (Da (Yg (Yk c).M (YA (Yo c 0))))) (XJ (Yo c 0)) (XZ X.P (XB (Yf c).op)) 1)=(true,some (YS c),.convert (Yq (Yf c).op) (XB (Yf c).op) (Yx (Yf c).op 0),some .unsafePointer,some (.pointer (XZ X.P (XB (Yf c).op))),true,some (.c (.bp (YA (Yo c 0)) (XJ (Yo c 0)))),some (.box (QJ (Yg (Yk c).M (YA (Yo c 0)))) (Da (Yg (Yk c).M (YA (Yo c 0))))),true):=by kernel_rfl):Wc X c:=by simp only[Zr]at b;have⟨i,e,j,l,m,n,o,p,q⟩:=b;have⟨r,u⟩:=Xm i;exact Wc.ev (d:=d1 c (.c (.bp (YA (Yo c 0)) (XJ (Yo c 0))))) r (Xs e rfl) (fun nk E0 F0 w0 n0 Z lK K f g h=>kg.cvp (X:=X.var nk E0 F0 w0 n0 Z) f g j e l m n o p q u h) k
theorem eNe{f:lX}{fn:Func}(j:X.P.funcs[f]?=some fn)(b:(fn.name == "runtime.NumGoroutine")=false)(l:fn.body.isNone=true)(e:gd fn=none)(m:ju fn=some iq)(k:Wc X (nSm c))
  (g:(hB X.fn.ntmps c,(Yf c).dst,(Yf c).op,Yo c 0)=(true,some (YS c),.call { callee:=.value (.func f),args:=#[Yx (Yf c).op 0],argTypes:=HU (Yf c).op },some (.c (.bp (YA (Yo c 0)) (XJ (Yo c 0))))):=by kernel_rfl):Wc X c:=by simp only[Zr]at g;have⟨p,i,q,r⟩:=g;have⟨u,v⟩:=Xm p;exact Wc.ev (d:=d1 c (.c (.bp (YA (Yo c 0)) (XJ (Yo c 0))))) u (Xs i rfl) (fun nk E0 F0 w0 n0 Z lK K n o h=>kg.nes (X:=X.var nk E0 F0 w0 n0 Z) j b l e m n o q i r v h) k
def plC(c:Cf):Cf:=.co (.code (TA c)::.inLoop (TA c)::c.kk) c.st
def ZqP:Cf->Bool
 | .co (.code (.loop _)::_) _=>true
 |_=>false
theorem ePl(k:Wc X (plC c))(b:ZqP c=true:=by kernel_rfl):Wc X c:=by
 cases c with
 |no=>cases b
 |rg _ _ _ _ _=>cases b
 |co l s=>
  cases l with
  |nil=>cases b
  |cons x l=>
   cases x with
   |code y=>
    cases y with
    |loop z=>exact⟨WP.loop k.1⟩
    |_=>cases b
   |_=>cases b
def lnC(c:Cf):Code:=match c with
 | .co (.inLoop x::_) _=>x
 |_=>.skip
def lnS(c:Cf)(s:St):Cf:=.co (.code (lnC c)::.inLoop (lnC c)::c.kk) s
def lnK(c:Cf):List Item:=.inLoop (lnC c)::c.kk
theorem Ze5{σ ρ:Type}{r:ρ}(H:σ->St)(p:Nat->σ->Option ρ)(f:∀b,p 0 b=none)
  (d:∀n,(∀b,p n b=some r->WP X (lnK c) (H b))->∀b,p (n+1) b=some r->Wc X (lnS c (H b)))
  (h:(∀n b,p n b=some r->WP X (lnK c) (H b))->Wc X c):Wc X c:=by
 have key:∀n b,p n b=some r->WP X (lnK c) (H b):=by
  intro n;induction n with
  |zero=>intro b e;rw[f]at e;cases e
  |succ n i=>exact fun b g=>WP.inLoop (d n i b g).1
 exact h key
end
end Go.Kx
end
namespace Go.Kx
section
variable [kv]
open Go
structure Tj {α β:Type} (Φ:k6 α->k6 β):Prop where
 sz:∀R R',R.sz=R'.sz->(Φ R).sz=(Φ R').sz
 sub:∀R R',R.sz=R'.sz->(∀F w x vs,R.rep F w x vs->R'.rep F w x vs)->∀F w x vs,(Φ R).rep F w x vs->(Φ R').rep F w x vs
variable {α:Type}
theorem ZkN:Tj (fun R:k6 α=>R):=⟨fun _ _ h=>h,fun _ _ _ h=>h⟩
variable {β:Type}
theorem TF(S:k6 β):Tj (fun _:k6 α=>S):=⟨fun _ _ _=>rfl,fun _ _ _ _ _ _ _ _ h=>h⟩
variable {Φ:k6 α->k6 β}
theorem ZkM{γ:Type}(f:γ->β)(h:Tj Φ):Tj (fun R=>rM f (Φ R)):=
 ⟨fun R R' e=>h.sz R R' e,fun R R' e s F w x b c=>h.sub R R' e s F w (f x) b c⟩
theorem TE{γ:Type}{Ψ:k6 α->k6 γ}(h:Tj Φ)(k:Tj Ψ):Tj (fun R=>rP (Φ R) (Ψ R)):=by
 refine⟨fun R R' e=>?_,fun R R' e s F w x i c=>?_⟩
 ·show (Φ R).sz+(Ψ R).sz=(Φ R').sz+(Ψ R').sz;rw[h.sz R R' e,k.sz R R' e]
 ·have⟨a,b,d,f,g⟩:=c;exact⟨a,b,d,h.sub R R' e s _ _ _ _ f,k.sub R R' e s _ _ _ _ g⟩
theorem SlR.more{R R':k6 α}(e:R.sz=R'.sz)(s:∀F w x c,R.rep F w x c->R'.rep F w x c){F:YJ}{w:lQ}{xs:List α}{v:lR}(h:SlR R F w xs v):SlR R' F w xs v:=by
 rcases h with h|⟨b,off,cap,arr,el,fz,l,m,n,o,p⟩
 ·exact .inl h
 ·refine .inr ⟨b,off,cap,arr,el,fz,l,m,n,o,fun i x d=>?_⟩;have⟨c,g,k⟩:=p i x d;exact⟨c,s _ _ _ _ g,fun j v f=>by rw[<-e];exact k j v f⟩
theorem Zbu(h:Tj Φ):Tj (fun R=>YH (Φ R)):=by refine⟨fun _ _ _=>rfl,fun R R' e s F w xs f b=>?_⟩;have⟨v,c,d⟩:=b;exact⟨v,c,SlR.more (h.sz R R' e) (h.sub R R' e s) d⟩
def Zlw(α:Type)(n:Nat)(hn:0<n):k6 α where
 sz:=n
 pos:=hn
 rep _ _ _ vs:=vs.length=n/\∀v∈vs,v.oneCell'=true
 len h:=h.1
 mono _ h:=h
 one h:=h.2
def Q9(Φ:k6 α->k6 α)(n:Nat)(hn:0<n)(hs:∀R,R.sz=n->(Φ R).sz=n):k6 α where
 sz:=n
 pos:=hn
 rep F w x vs:=∀R:k6 α,R.sz=n->(∀F w x vs,(Φ R).rep F w x vs->R.rep F w x vs)->R.rep F w x vs
 len h:=(h (Zlw α n hn) rfl (fun _ _ _ _ k=>⟨by rw[(Φ _).len k];exact hs _ rfl,(Φ _).one k⟩)).1
 mono g h:=fun R e k=>R.mono g (h R e k)
 one h:=(h (Zlw α n hn) rfl (fun _ _ _ _ k=>⟨by rw[(Φ _).len k];exact hs _ rfl,(Φ _).one k⟩)).2
theorem Zf7{Φ:k6 α->k6 α}{n:Nat}{f:0<n}{b:∀R,R.sz=n->(Φ R).sz=n}(g:Tj Φ)(F:YJ)(w:lQ)(x:α)(d:List lR) :
  (Q9 Φ n f b).rep F w x d↔(Φ (Q9 Φ n f b)).rep F w x d:=by
 have c:∀F w x d,(Φ (Q9 Φ n f b)).rep F w x d->(Q9 Φ n f b).rep F w x d:=by intro F w x d h R e k;exact k _ _ _ _ (g.sub (Q9 Φ n f b) R e.symm (fun _ _ _ _ q=>q R e k) _ _ _ _ h)
 refine⟨fun h=>?_,c F w x d⟩;exact h (Φ (Q9 Φ n f b)) (b _ rfl) (fun _ _ _ _ q=>g.sub _ _ (b _ rfl) c _ _ _ _ q)
def ki.of{R R':k6 α}(h:∀F w x vs,R.rep F w x vs↔R'.rep F w x vs)(o:ki R'):ki R where
 nk:=o.nk
 cells:=o.cells
 facts:=o.facts
 ok hr:=o.ok ((h _ _ _ _).1 hr)
 chk:=o.chk
 cok hc E F w hV:=(h _ _ _ _).2 (o.cok hc E F w hV)
 T:=o.T
 lq:=o.lq
 rq:=o.rq
 eqn:=o.eqn
end
section
variable [kv]
variable {α:Type}
def Um(f:α->Nat):List α->Nat
 | []=>0
 |x::l=>f x+Um f l
def km(P:lU)(B:Bulk)(m:Nat)(t:lS)(R:k6 α)(ok:α->Prop)(wt:α->Nat):Prop:=R.sz=P.cellsOf t /\
 ∀ {H:Type} (enc:lS×lR->H) (w:lQ) (fuel:Nat) (cs:List lR) (x:DataW H×List MemPlace),fuel<=m->iK enc P w 0 (fun _=>true) true fuel t cs=some x->B.f x.1<=bd ->
  ∃a,R.rep (Uq w) w a cs/\ok a/\wt a<=B.f x.1
section
variable {P:lU}{B:Bulk}{t:lS}
variable {m:Nat}{α:Type}{ok:α->Prop}
theorem km.of{R:k6 α}(h:Rdb P B t R ok):km P B m t R ok (fun _=>0):=
 ⟨h.1,fun enc w b cs x _ c d=>by have⟨a,e,f⟩:=h.2 enc w b cs x c d;exact⟨a,e,f,eP _⟩⟩
variable {wt:α->Nat}
theorem km.zero{R:k6 α}(h:R.sz=P.cellsOf t):km P B 0 t R ok wt:=
 ⟨h,fun enc w b cs x d c e=>by
  obtain rfl:b=0:=by omega
  simp[iK]at c⟩
theorem km.less{n:Nat}{R:k6 α}(h:km P B m t R ok wt)(e:n<=m):km P B n t R ok wt:=
 ⟨h.1,fun enc w b cs x f c d=>h.2 enc w b cs x (by omega) c d⟩
theorem km.conv{R R':k6 α}{b:α->Prop}{c:α->Nat}(h:km P B m t R ok wt)(f:R'.sz=R.sz)(g:∀F w x e,R.rep F w x e->R'.rep F w x e)(i:∀a,ok a->b a)(j:∀a,c a<=wt a):km P B m t R' b c:=
 ⟨by rw[f];exact h.1,fun enc w d cs x k l n=>by have⟨a,o,p,q⟩:=h.2 enc w d cs x k l n;exact⟨a,g _ _ _ _ o,i a p,bV (j a) q⟩⟩
theorem Rdb.ofW{R:k6 α}(h:∀m,km P B m t R ok wt):Rdb P B t R (fun x=>ok x/\wt x<=bd):=
 ⟨(h 0).1,fun enc w b cs x d c=>by have⟨a,e,f,g⟩:=(h b).2 enc w b cs x (Zq _) d c;exact⟨a,e,f,bV g c⟩⟩
theorem ZmO{B:Bulk}{H:Type}{α:Type}{wt:α->Nat}:∀ {xs:List α} {es:List (DataW H×List MemPlace)},xs.length=es.length->(∀(i:Nat) (x:α),xs[i]?=some x->∃y:DataW H×List MemPlace,es[i]?=some y/\wt x<=B.f y.1)->Um wt xs<=B.all (es.map (·.1))
  | [],_,_,_=>eP _
  |x::xs,[],h,_=>by cases h
  |x::xs,e::es,h,hx=>by
    obtain⟨y,b,d⟩:=hx 0 x rfl;simp only[aX,aR]at b;subst b;have:=ZmO (B:=B) (wt:=wt) (xs:=xs) (es:=es) (by simpa using h) fun i c hi=>by have:=hx (i+1) c (by simpa using hi);simpa using this
    rw[aI,B.cons];show wt x+Um wt xs<=_;omega
theorem km.slice{R:k6 α}{e:lS}(hu:P.underlying t=some (.slice e))(k:P.cellsOf t=1)(I:km P B m e R ok wt) :
    km P B (m+1) t (YH R) (fun xs=>xs.length<=bd/\∀x∈xs,ok x) (Um wt):=⟨k.symm,fun enc w Y cs x Z h hb=>by
  rcases DataW.trod_slice hu h with⟨rfl,_⟩|⟨a,len,cap,b,lK,n,hn,rfl,rfl,_,hlc,_,A,hx,_⟩
  · exact⟨[],⟨_,rfl,.inl ⟨rfl,_,_,rfl⟩⟩,⟨by simp[bd],by simp⟩,eP _⟩
  · simp only at hb;rw[B.slice]at hb;have C:=B.len (b.map (·.1));rw[aN,A]at C;have l:0<P.cellsOf e:=by rw[<-I.1];exact R.pos
    have key:∀i,i<len->∃x,∃cs y,w.cells? 0 (a.add (i*P.cellsOf e)) (P.cellsOf e)=some cs/\b[i]?=some y/\R.rep (Uq w) w x cs/\ok x/\wt x<=B.f y.1:=fun i hi=>by
      have h1:=hx i hi;have d:i<b.length:=by omega
      rw[Za d,Option.bind_eq_some_iff]at h1;have⟨cs,h2,h3⟩:=h1;have S:b[i].1∈b.map (·.1):=aM.2 ⟨_,b9 d,rfl⟩;obtain⟨x,h4,h5,h6⟩:=I.2 enc w n cs _ (by omega) h3 (by have:=B.mem S;omega);exact⟨x,cs,_,h2,Za d,h4,h5,h6⟩
    have⟨xs,K,H⟩:=Zfi key;have T:∀x∈xs,ok x:=fun x Z=>by have⟨i,hi⟩:=List.mem_iff_getElem?.1 Z;obtain⟨_,_,_,_,_,h,_⟩:=H i x hi;exact h
    have hws:Um wt xs<=B.all (b.map (·.1)):=ZmO (by rw[K,A]) fun i x hi=>by obtain⟨_,y,_,hy,_,_,h⟩:=H i x hi;exact⟨y,hy,h⟩
    have U:Um wt xs<=B.f (DataW.slice (b.map (·.1)) (lK.map (·.1))):=by rw[B.slice];omega
    refine⟨xs,⟨_,rfl,?_⟩,⟨by omega,T⟩,U⟩;rcases Nat.eq_zero_or_pos len with N|N
    · subst N;have:xs=[]:=ar K;subst this;exact .inl ⟨rfl,_,_,rfl⟩
    · -- the block
      have g:∀i j cs,i<len->w.cells? 0 (a.add (i*P.cellsOf e)) (P.cellsOf e)=some cs->j<P.cellsOf e->w.cell? ((a.add (i*P.cellsOf e)).add j)=cs[j]?:= fun i j cs _ k G=>by unfold jX at k;rw[mD (eP _)]at k;have:=mapM_some_get k j j (by simp[G]);exact this
      have D:∀i cs,w.cells? 0 (a.add (i*P.cellsOf e)) (P.cellsOf e)=some cs->cs.length=P.cellsOf e:=fun i cs k=>by unfold jX at k;rw[mD (eP _)]at k;simpa using mapM_some_length k
      obtain⟨L,M⟩:∃L,xs[0]?=some L:=⟨_,Za (by omega)⟩
      obtain⟨q,y0,r,_,_,_,_⟩:=H 0 L M;have c:=g 0 0 q N r l;have o:(a.add (0*P.cellsOf e)).add 0=a:=by unfold Addr.add;simp
      rw[o,Za (by rw[D 0 q r];exact l)]at c;unfold World.cell? at c;split at c
      · rename_i arr ty fz O;cases p:a.spot with
        |some s=>rw[p]at c;simp at c
        |none=>
          have ha:a=⟨a.block,a.off,none⟩:=by cases a;simp at p;simp[p]
          have d:a.block<w.heap.size:=(aW.1 O).1;refine .inr ⟨a.block,a.off,cap,arr,ty,fz,by rw[K,<-ha],by omega,d,O,fun i x hi=>?_⟩;obtain⟨cs,y,u,_,z,_,_⟩:=H i x hi;have V:i<len:=by have:=(aE.1 hi).1;omega
          refine⟨cs,z,fun j v G=>?_⟩;have W:j<P.cellsOf e:=by have:=(aE.1 G).1;rw[D i cs u]at this;exact this
          have:=g i j cs V u W;rw[ha,Ww,Ww,RI O,G]at this;rw[I.1];exact this
      · cases c⟩
variable {β:Type}
def kr(P:lU)(B:Bulk)(m:Nat)(fs:List Field)(off:Nat)(R:k6 β)(ok:β->Prop)(wt:β->Nat):Prop:=
  ∀ {H:Type} (enc:lS×lR->H) (w:lQ) (n:Nat) (cs:List lR) (xs:List (DataW H×List MemPlace)),n<=m->xs.length=fs.length ->
    (∀(i:Nat) (f:Field),fs[i]?=some f->iK enc P w 0 (fun _=>true) true n f.type ((cs.drop f.offset).take (P.cellsOf f.type))=xs[i]?)->B.all (xs.map (·.1))<=bd ->
    ∃y,R.rep (Uq w) w y ((cs.drop off).take R.sz)/\ok y/\wt y<=B.all (xs.map (·.1))
theorem kr.one{f:Field}{R:k6 α}(h:km P B m f.type R ok wt):kr P B m [f] f.offset R ok wt:=fun enc w n cs xs d e g b=>by obtain⟨x,rfl⟩:=List.length_eq_one_iff.1 e;have c:=g 0 f rfl;simp only[aX]at c;simp only[aI,au]at b;rw[B.cons,B.nil]at b;have⟨a,i,j,k⟩:=h.2 enc w n _ x d c (by omega);rw[h.1];refine⟨a,i,j,?_⟩;simp only[aI,au];rw[B.cons,B.nil];omega
theorem kr.cons{f:Field}{fs:List Field}{off:Nat}{h:k6 α}{j:k6 β}{c:α->Prop}{d:β->Prop}{e:α->Nat}{g:β->Nat}(k:km P B m f.type h c e)(v:kr P B m fs off j d g)(z:off=f.offset+h.sz) :
  kr P B m (f::fs) f.offset (rP h j) (fun y=>c y.1/\d y.2) (fun y=>e y.1+g y.2):=fun enc w n cs xs l o p q=>by
 cases xs with
 |nil=>cases o
 |cons x xs=>
  have u:=p 0 f rfl;simp only[aX]at u;simp only[aI]at q;rw[B.cons]at q;have⟨a,r,D,I⟩:=k.2 enc w n _ x l u (by omega);have⟨b,G,H,K⟩:=v enc w n cs xs l (by simpa using o) (fun i A C=>by have:=p (i+1) A (by simpa using C);simpa using this) (by omega);rw[<-k.1]at r;refine⟨(a,b),⟨_,_,?_,r,G⟩,⟨D,H⟩,by simp only[aI];rw[B.cons];omega⟩;rw[z,<-List.drop_drop];exact List.take_add
theorem km.struct{f:α->β}{g:β->α}{R:k6 β}{ok:β->Prop}{wt:β->Nat}{fs:List Field}(k:P.underlying t=some (.struct fs.toArray))(c:P.cellsOf t=R.sz)(b:∀y,f (g y)=y)(h:kr P B m fs 0 R ok wt) :
    km P B (m+1) t (rM f R) (fun x=>ok (f x)) (fun x=>wt (f x)+1):=⟨c.symm,fun enc w d cs x z l e=>by
  obtain⟨xs,n,p,rfl,q,r,u⟩:=DataW.trod_struct k l;simp only at e;rw[B.agg]at e;have⟨y,j,v,A⟩:=h enc w n cs xs (by omega) (by simpa using r) (fun i o hi=>u i o (by simpa using hi)) (by omega);rw[List.drop_zero,<-c,<-q,List.take_length]at j;refine⟨g y,?_,?_,?_⟩
  · show R.rep _ _ (f (g y)) cs;rw[b];exact j
  · show ok (f (g y));rw[b];exact v
  · show wt (f (g y))+1<=B.f (DataW.agg (xs.map (·.1)));rw[b,B.agg];omega⟩
end
theorem ZoW{P:lU}{t ty:lS}{W:TD}(ok:TD.Ok P t W)(hk:aF W.kd 6=true){R:k6 α}(hR:W.es=R.sz){F:YJ}{w:lQ}{xs:List α}{v zv:lR}{l h:Option Int}{p:Nat×Nat}{z:α}{o:List lR}
  (Y:kh R F w xs v) (hp:WK l h xs.length=some p) (Z:∀w,(zeroValue W.el).run P w=.ok zv w) (H:(bZ zv.cells (p.2-p.1)).toList=o) (x:kl R F w (aQ (p.2-p.1) z) o)
  (I:∀u∈o,u.oneCell'=true) (hF:∀b,YV v=some b->¬ F b) :
  ∃w',(jw #[t] ty #[XN l h R.sz v]).run P w=.ok (.tuple #[]) w'/\kh R F w' (xs.take p.1++aQ (p.2-p.1) z++xs.drop p.2) v/\w'.os=w.os/\w'.tape=w.tape/\Oq w w'/\w.heap.size<=w'.heap.size /\
   (∀b,YV v≠some b->w'.heap[b]?=w.heap[b]?):=by
 have⟨i,hu,hi,hsz,_⟩:=ok.slc hk;have⟨q1,q2,q3,q4⟩:=PK hp;have⟨K,L⟩:=ZaD hp;have hle:p.1<=p.2:=by rw[q4];simp;omega
 have O:p.2<=xs.length:=by rw[q4];simp;omega
 by_cases hn0:p.2-p.1=0
 ·have e12:p.2=p.1:=by omega
  refine⟨w,?_,by rw[hn0,e12];simpa using Y,rfl,rfl,.m,Zq _,fun _ _=>rfl⟩;have⟨a,c,hv⟩:=G2 Y;have f:∃a' c',XN l h R.sz v=.slice a' 0 c':=by rw[hv,UP,<-K,<-L,hn0];exact⟨_,_,rfl⟩
  have⟨a',c',f⟩:=f;rw[f];cases a'<;>simp[jw,Xl hu]
 ·rcases Y with⟨rfl,rfl⟩|⟨b,off,cap,arr,el,fz,rfl,hc,hs,ht,hh,hr⟩
  ·simp at O;exact absurd (by omega) hn0
  ·have q:cap≠p.1:=fun e=>by omega
   have f:XN l h R.sz (.slice (some ⟨b,off,none⟩) xs.length cap)=.slice (some ⟨b,off+p.1*R.sz,none⟩) (p.2-p.1) (cap-p.1):=by rw[UP,<-K,<-L];simp[q,Ww]
   have r:o.length=(p.2-p.1)*R.sz:=by rw[x.1,List.length_replicate]
   have S:p.2*R.sz<=cap*R.sz:=aT _ (by omega);have hsum:p.1*R.sz+(p.2-p.1)*R.sz=p.2*R.sz:=by rw[<-bD];congr 1;omega
   have T:=Qb (P:=P) b (off+p.1*R.sz) el fz o 0 arr w hh ht (by rw[r];omega) I
   let d:=(arr.toList.take (off+p.1*R.sz+0)++o++arr.toList.drop (off+p.1*R.sz+0+o.length)).toArray
   have g:d.size=arr.size:=by simp only[d,bW,ae,aL,bg,aq];omega
   have hg:X3 F w F (w.setRow b d):=⟨fun _ h=>h,fun b' A=>l5 w b b' _ (fun e=>hF b rfl (e▸A))⟩
   have⟨M,C,N,_⟩:=hr.cellsOf;have U:kl R F (w.setRow b d) (xs.take p.1++aQ (p.2-p.1) z++xs.drop p.2) (M.take (p.1*R.sz)++o++M.drop (p.2*R.sz)):=
    ((((C.take (by omega)).append x).append (C.drop _)).mono hg)
   have k:(M.take (p.1*R.sz)).length=p.1*R.sz:=by rw[aL,C.1];exact Nat.min_eq_left (aT _ (by omega))
   have D:∀(j:Nat) u,(M.take (p.1*R.sz)++o++M.drop (p.2*R.sz))[j]?=some u->d[off+j]?=some u:=by
    intro j u n;have hal:arr.toList.length=arr.size:=aq;simp only[d,cW,bu];rw[aU]at n ⊢;have G:(arr.toList.take (off+p.1*R.sz)).length=off+p.1*R.sz:=by rw[aL,hal];omega
    by_cases V:j<p.1*R.sz
    ·rw[Zo (by rw[k];exact V),aj,mD V]at n;rw[Zo (by rw[G];omega),aj,mD (by omega)];have:=N j u n;simpa using this
    ·rw[Zp (by rw[k];omega),k]at n;rw[Zp (by rw[G];omega),G];have e2:off+j-(off+p.1*R.sz)=j-p.1*R.sz:=by omega
     rw[e2];by_cases hj2:j-p.1*R.sz<(p.2-p.1)*R.sz
     ·rw[Zo (by rw[r];exact hj2)]at n ⊢;exact n
     ·rw[Zp (by rw[r];omega),r]at n ⊢;rw[bO]at n ⊢;have e3:p.2*R.sz+(j-p.1*R.sz-(p.2-p.1)*R.sz)=j:=by omega
      rw[e3]at n;have e4:off+p.1*R.sz+(p.2-p.1)*R.sz+(j-p.1*R.sz-(p.2-p.1)*R.sz)=off+j:=by omega
      rw[e4];have:=N j u n;simpa using this
   have y:(xs.take p.1++aQ (p.2-p.1) z++xs.drop p.2).length=xs.length:=by simp;omega
   refine⟨w.setRow b d,?_,.inr ⟨b,off,cap,d,el,fz,by rw[y],by rw[y];exact hc,by rw[g];exact hs,by rw[g];exact ht,setRow_heap w b arr _ el fz hh,U.row D⟩,rfl,rfl,.m,by simp,fun b' A=>l5 w b b' _ (fun e=>A (by rw[e];rfl))⟩;rw[f];obtain⟨m,hm⟩:∃m,p.2-p.1=m+1:=⟨p.2-p.1-1,by omega⟩
   rw[hm]at H ⊢;simp only[bu]at T;simp[jw,Xl hu,Z,H,T,d]
section
variable {X:lB}{s:St}{ops:Array lW}{lL:lZ->lQ->Prop}{tt:List (Nat×TD)}
def LW{α:Type}(z:α)(xs:List α)(l h:Option Int):Option (List α):=(WK l h xs.length).map fun p=>xs.take p.1++aQ (p.2-p.1) z++xs.drop p.2
structure ZhT {α:Type} (P:lU) (R:k6 α) (el:lS) (z:α) (zv:lR):Prop where
 run:∀w,(zeroValue el).run P w=.ok zv w
 row:∀n F w,kl R F w (aQ n z) (bZ zv.cells n).toList
 one:∀n,∀u∈(bZ zv.cells n).toList,u.oneCell'=true
theorem kg.clr{α:Type}{R:k6 α}(lO:kf X.P tt){i:Nat}{lK:List Nat}{o:lW}{t:lS}{j:TD}{x:lV}{k K:Nat}{fr:Bool}{xs r:List α}{l h:Option Int}{z:α}{H:lR}
  (m:LW z xs l h=some r) (hZ:ZhT X.P R j.el z H) (I:ops[i]?=some o) (N:Y3 ops s.L o=some true) (n:o.op=.call { callee:=.builtin .clear,args:=#[x],argTypes:=#[t] }) (O:o.dst=none)
  (S:Yr s.L x=some (.c (.sl K))) (hV:Yg s.V K=some (.vw k l h R.sz)\/(K=k/\l=none/\h=none)) (q:Yg s.M k=some (.own R xs fr)) (T:Yg tt t=some j)
  (G:(aF j.kd 6 && aF j.es R.sz)=true)
  (U:kg X ops lK lL ⟨s.L,(k,.own R r fr)::s.M,s.V,s.nx⟩):kg X ops (i::lK) lL s:=by
 refine kg.op I N (fun E F w a f=>?_) U;simp only[Zc]at G;have⟨W,Y⟩:=G;have⟨Z,_⟩:=f.eval S;have C:=f.mF k _ q;have d:kh R F w xs (E.ρ k):=f.hM k _ q;have D:E.ρ K=XN l h R.sz (E.ρ k):=by
  rcases hV with h|⟨rfl,rfl,rfl⟩
  ·exact f.hV K _ h
  ·have⟨b,c,hv⟩:=G2 d;rw[hv];rw[UP];simp only[RQ,Option.getD_none,Int.toNat_zero,Nat.sub_zero,Nat.zero_mul];cases b with
   |none=>simp
   |some b=>
    have:b.add 0=b:=by unfold Addr.add;simp
    simp[this]
 unfold LW at m;rw[Zn]at m;obtain⟨p,hp,rfl⟩:=m;obtain⟨w',g,A,g1,g2,g3,g4,g5⟩:=ZoW (ty:=o.type) (lO.get T) W (Zd Y) d hp hZ.run rfl (hZ.row _ _ _) (hZ.one _) (fun b u=>(C b u).1);refine XD (v:=.tuple #[]) (w':=w') (Vu n ?_) ?_
 ·simp only[bT,aI,au,Z,Yt];have:Yn E (.sl K)=XN l h R.sz (E.ρ k):=D;rw[this];exact Xe g
 ·have s1:=f.setM (m':=.own R (xs.take p.1++aQ (p.2-p.1) z++xs.drop p.2) fr) q g1 g2 g3 g4 (fun b _ y=>g5 b (fun e=>y e)) (fun b u=>u) A trivial (fun h=>h);rw[O];exact⟨E,F,s1⟩
end
theorem Zxv{P:lU}{el:lS}{f:TD}(h:TD.Ok P el f){z:be}(m:f.z=[.s z]):∃b,ZhT P rS el z b:=by
 have⟨i,b,o,_,_,p,q⟩:=h.info;have r:b.cells=#[.string z]:=by have:=q ⟨fun _=>.bool true,fun _=>0⟩;rw[m]at this;simpa[Yn]using this
 have l:∀n,(bZ b.cells n).toList=aQ n (.string z):=by
  intro n;unfold bZ;rw[r];apply List.ext_getElem?;intro j;rw[Array.getElem?_toList,Array.getElem?_map,bc];by_cases c:j<n
  ·rw[mD c,dQ (by simpa using c)];simp[Nat.mod_one]
  ·rw[mE c,jY (by simpa using c)];rfl
 refine⟨b,?_,?_,?_⟩
 ·intro w;simp[zeroValue,typeInfo,o,p]
 ·intro n F w;rw[l];refine⟨by simp[rS],fun j x d=>?_⟩;rw[bc]at d;split at d
  ·cases d;rename_i c;refine⟨[.string z],rfl,fun k v e=>?_⟩;cases k with
   |succ k=>simp at e
   |zero=>
    simp only[aX,aR]at e;subst e;show (aQ n (Value.string z))[j*1+0]?=_;rw[bc,mD (by omega)]
  ·cases d
 ·intro n u g;rw[l]at g;rw[List.eq_of_mem_replicate g];rfl
section
variable {X:lB}{tt:List (Nat×TD)}
def dCe(r:List be)(c:Cf):Dl:=⟨[],[((Xw (Yg (Yk c).V (YA (Yo c 0)))),.own rS r (WT (Yg (Yk c).M (Xw (Yg (Yk c).V (YA (Yo c 0)))))))],[],0⟩
def nCe(r:List be)(c:Cf):Cf:=Xh (dCe r c) c
theorem eCe{xs:List be}{lo hi:Option Int}{r:List be}{c:Cf}(lO:kf X.P tt)(g:LW (str []) xs lo hi=some r)(k:Wc X (nCe r c))
  (e:(VI c,(Yf c).dst,(Yf c).op,Yo c 0,Yg (Yk c).M (Xw (Yg (Yk c).V (YA (Yo c 0)))),Yg tt (Yq (Yf c).op),(aF (YC tt (Yq (Yf c).op)).kd 6 && aF (YC tt (Yq (Yf c).op)).es 1),Yg (Yk c).V (YA (Yo c 0)),Yg tt (YC tt (Yq (Yf c).op)).el,(YC tt (YC tt (Yq (Yf c).op)).el).z) =
   (true,none,.call { callee:=.builtin .clear,args:=#[Yx (Yf c).op 0],argTypes:=#[Yq (Yf c).op] },some (.c (.sl (YA (Yo c 0)))),some (.own rS xs (WT (Yg (Yk c).M (Xw (Yg (Yk c).V (YA (Yo c 0))))))),some (YC tt (Yq (Yf c).op)),true,some (.vw (Xw (Yg (Yk c).V (YA (Yo c 0)))) lo hi 1),some (YC tt (YC tt (Yq (Yf c).op)).el),[.s (str [])]):=by kernel_rfl):Wc X c:=by simp only[Zr]at e;have⟨l,f,m,n,o,p,q,u,v,b⟩:=e;have⟨x,hZ⟩:=Zxv (lO.get v) b;refine Wc.ev (d:=dCe r c) l (by rw[f];rfl) (fun nk E0 F0 w0 n0 Z lK K i j h=>kg.clr (X:=X.var nk E0 F0 w0 n0 Z) (R:=rS) lO g hZ i j m f n (.inl u) o p q h) k
end
end
section
open Go.Proofs
def XG(xs:List be):List (List UInt8):=xs.map (·.data.toList)
theorem ZjR(x:be):encStr x.data.toList=.string x:=by show Value.string ⟨x.data.toList.toArray⟩=.string x;rw[dc]
variable {D:List (List UInt8)}{arr:Array lR}{b:Nat}{el:lS}{off:Nat}{w:lQ}
theorem Zqu{n:Nat}{e:Array Obj}{fz:Nat×Nat}(d:w.heap[b]?=some (.cells arr el fz)) :
  (cP (bU encStr (bY w n) b off D.toArray) e).heap[b]?=some (.cells (cH encStr off D.toArray arr) el fz):=by have c:b<w.heap.size:=(aW.1 d).1;rw[eJ _ _ (by simpa[bU,cm,bY]using c)];simp[bU,cm,bY,eI,d,Go.Sort.onCells]
theorem Zj8{c n:Nat}{f:Array Obj}(g:b<w.heap.size)(d:b≠c) :
  (cP (bU encStr (bY w n) c off D.toArray) f).heap[b]?=w.heap[b]?:= by rw[eJ _ _ (by simpa[bU,cm,bY]using g)];have:¬ c=b:=fun e=>d e.symm;simp[bU,cm,bY,eI,this]
theorem Zl8{n:Nat}{c:Array Obj}:w.heap.size<=(cP (bU encStr (bY w n) b off D.toArray) c).heap.size:=by simp[cP,bU,cm,bY]
theorem Zj9{F:YJ}{xs:List be}{cap:Nat}{fz:Nat×Nat}(n:xs.length<=cap)(e:off+cap*rS.sz<=arr.size)(h:TZ fz arr.size)
  (f:w.heap[b]?=some (.cells arr el fz)) (i:Row rS F w xs arr off):gX encStr w b off (XG xs).toArray:=by
 intro j g;have d:j<xs.length:=by simpa[XG]using g
 have⟨k,c,l⟩:=i j xs[j] (Za d);have c:k=[.string xs[j]]:=c;subst c;have m:=l 0 _ rfl;have e:off+cap<=arr.size:=by simpa[rS]using e
 refine⟨?_,?_⟩
 ·unfold World.cell?;rw[f];have:(XG xs).toArray[j]! = xs[j].data.toList:=by rw[getElem!_pos _ j g];simp[XG]
  show arr[off+j]?=some (encStr _);rw[this,ZjR];simpa[rS]using m
 ·unfold World.frozen?;rw[f];exact h (off+j) (by omega)
variable {ds:List be}
theorem Zlh{F:YJ}{cap n:Nat}{h:Array Obj}{fz:Nat×Nat}(k:∀(i:Nat) x,ds[i]?=some x->D[i]?=some x.data.toList)(u:D.length<=cap)(c:ds.length<=cap)
  (d:off+cap*rS.sz<=arr.size) (l:TZ fz arr.size) (m:w.heap[b]?=some (.cells arr el fz)) :
  kh rS F (cP (bU encStr (bY w n) b off D.toArray) h) ds (.slice (some ⟨b,off,none⟩) ds.length cap):=by
 refine .inr ⟨b,off,cap,cH encStr off D.toArray arr,el,fz,rfl,c,by simpa[cH]using d,by simpa[cH]using l,Zqu m,fun i x o=>⟨[.string x],rfl,fun j v e=>?_⟩⟩;cases j with
 |succ j=>simp at e
 |zero=>
  simp only[aX,aR]at e;subst e;have hi:=k i x o;have f:i<D.length:=(aE.1 hi).1;have d:off+cap<=arr.size:=by simpa[rS]using d
  have g:off+i*1+0<arr.size:=by omega
  show (cH encStr off D.toArray arr)[off+i*1+0]?=_;unfold cH;rw[Array.getElem?_mapIdx,dQ g];have p:off<=off+i*1+0/\off+i*1+0<off+D.toArray.size:=⟨by omega,by simp;omega⟩
  have q:off+i*1+0-off=i:=by omega
  have r:D.toArray[i]! = x.data.toList:=by rw[getElem!_pos _ i (by simpa using f)];have:=(aE.1 hi).2;simpa using this
  simp only[Option.map_some,p,and_self,mA,q,r,ZjR]
variable [kv]
theorem ZrY{P:lU}{f:lX}{xs:List be}(o:Ly P f)(j:ds.length=xs.length)
  (q:∀b off cap w,gX encStr w b off (XG xs).toArray->b<w.heap.size->xs.length<=cap->Calls P f #[.slice (some ⟨b,off,none⟩) xs.length cap] w fun e w'=>e=.returned (.tuple #[])/\∃n I,w'=cP (bU encStr (bY w n) b off (XG ds).toArray) I)
  (l:xs=[]->∀p cap w,Calls P f #[.slice p 0 cap] w fun e w'=>e=.returned (.tuple #[])/\w'=w) :
  Fn P f ⟨1,[.c (.sl 0)],[],[(0,.own rS xs false)],1,.t [],[],[(0,.own rS ds false)]⟩:=by
 refine⟨o,fun E F w C=>?_⟩;have g:kh rS F w xs (E.ρ 0):=C.M 0 (.own rS xs false) rfl;have z:=C.mF 0 (.own rS xs false) rfl;have A:∀w',kh rS F w' ds (E.ρ 0)->Ext (fun b=>b<w.heap.size/\¬ Ct.fp0 ⟨1,[.c (.sl 0)],[],[(0,.own rS xs false)],1,.t [],[],[(0,.own rS ds false)]⟩ E b) w w' ->
   Ct.Post ⟨1,[.c (.sl 0)],[],[(0,.own rS xs false)],1,.t [],[],[(0,.own rS ds false)]⟩ E F w E F w':=fun w' O r=>{
  env:=lC.Eqb.refl _ _
  one:=C.one
  V:=fun k f h=>nomatch h
  M:=fun k m h=>by
   rw[YF]at h;split at h
   ·rename_i e;cases h;subst e;exact O
   ·cases h
  dis:=fun k Y m m' h D d=>by
   rw[YF]at h D;split at h
   ·split at D
    ·rename_i T U;exact absurd (T.symm.trans U) d
    ·cases D
   ·cases h
  mF:=fun k m h b u=>by
   rw[YF]at h;split at h
   ·rename_i e;cases h;subst e;exact⟨(z b u).1,Zh (z b u).2 r.size,.inl ⟨0,_,rfl,u⟩⟩
   ·cases h
  fresh:=fun k m h R=>by
   rw[YF]at h;split at h
   ·cases h;cases R
   ·cases h
  F0:=fun _ h=>h
  F1:=fun _ h=>.inl h
  Fs:=fun b h=>Zh (C.hF b h) r.size
  ext:=r }
 show Calls P f #[E.ρ 0] w _;by_cases d:xs=[]
 ·have W:ds=[]:=ar (by rw[j,d];rfl);have y:∃p cap,E.ρ 0=.slice p 0 cap:=by
   rcases g with⟨_,h⟩|⟨b,off,cap,_,_,_,h,_⟩
   ·exact⟨_,_,h⟩
   ·rw[d]at h;exact⟨_,_,h⟩
  have⟨p,cap,y⟩:=y;have:=l d p cap w;rw[<-y]at this;refine this.mono ?_;rintro e w' ⟨rfl,rfl⟩;exact⟨E,F,rfl,A _ (by rw[W,<-d];exact g) (Ext.refl _ _)⟩
 ·rcases g with⟨h,_⟩|⟨b,off,cap,arr,el,fz,G,K,L,N,H,y⟩
  ·exact absurd h d
  ·have u:b<w.heap.size:=(aW.1 H).1;have:=q b off cap w (Zj9 K L N H y) u K;rw[<-G]at this;refine this.mono ?_;rintro e w' ⟨rfl,n,I,rfl⟩;refine⟨E,F,rfl,A _ ?_ ⟨rfl,rfl,⟨rfl,.inr (bR _ _)⟩,Zl8,fun S v=>Zj8 v.1 fun e=>v.2 ⟨0,_,rfl,?_⟩⟩⟩
   ·rw[G,<-j];exact Zlh (fun i x r=>by simp[XG,r]) (by simp[XG];omega) (by omega) L N H
   ·show YV (E.ρ 0)=some S;rw[G,e];rfl
theorem ZuM{P:lU}{f:lX}{xs:List be}(z:Ly P f)(l:ds.length<=xs.length)
  (A:∀b off cap w,gX encStr w b off (XG xs).toArray->b<w.heap.size->xs.length<=cap->Calls P f #[.slice (some ⟨b,off,none⟩) xs.length cap] w fun e w'=>e=.returned (.slice (some ⟨b,off,none⟩) ds.length cap)/\∃n T,∃D:List (List UInt8),w'=cP (bU encStr (bY w n) b off D.toArray) T/\D.length<=xs.length/\∀(i:Nat) x,ds[i]?=some x->D[i]?=some x.data.toList)
  (o:xs=[]->∀p cap w,Calls P f #[.slice p 0 cap] w fun e w'=>e=.returned (.slice p 0 cap)/\w'=w) :
  Fn P f ⟨1,[.c (.sl 0)],[],[(0,.own rS xs false)],2,.c (.sl 1),[],[(1,.own rS ds false),(0,.gone)]⟩:=by
 refine⟨z,fun E F w L=>?_⟩;have j:kh rS F w xs (E.ρ 0):=L.M 0 (.own rS xs false) rfl;have I:=L.mF 0 (.own rS xs false) rfl;have K:∀v w',(∀b,YV v=some b->YV (E.ρ 0)=some b)->kh rS F w' ds v->Ext (fun b=>b<w.heap.size/\¬ Ct.fp0 ⟨1,[.c (.sl 0)],[],[(0,.own rS xs false)],2,.c (.sl 1),[],[(1,.own rS ds false),(0,.gone)]⟩ E b) w w' ->
   ∃y H,v=Yt y (.c (.sl 1))/\Ct.Post ⟨1,[.c (.sl 0)],[],[(0,.own rS xs false)],2,.c (.sl 1),[],[(1,.own rS ds false),(0,.gone)]⟩ E F w y H w':=fun v w' N Y O=>by
  have q:(E.setρ 1 v).ρ 1=v:=by simp[lC.setρ]
  refine⟨E.setρ 1 v,F,by show v=(E.setρ 1 v).ρ 1;rw[q],{
   env:=E.eqb_setρ _ _ _ (Zq _)
   one:=fun k=>by
    simp only[lC.setρ];split
    ·exact ZhL Y
    ·exact L.one k
   V:=fun k f h=>nomatch h
   M:=fun k m h=>by
    rw[YF]at h;split at h
    ·rename_i e;cases h;subst e;show kh rS F w' ds ((E.setρ 1 v).ρ 1);rw[q];exact Y
    ·rw[YF]at h;split at h
     ·cases h;trivial
     ·cases h
   dis:=fun k k' m m' h u d=>by
    rw[YF]at h u;split at h
    ·split at u
     ·rename_i e1 e2;exact absurd (e1.symm.trans e2) d
     ·rw[YF]at u;split at u
      ·cases u;exact fun b _ g=>g
      ·cases u
    ·rw[YF]at h;split at h
     ·cases h;exact fun b g=>g.elim
     ·cases h
   mF:=fun k m h b g=>by
    rw[YF]at h;split at h
    ·rename_i e;cases h;subst e;have g:YV ((E.setρ 1 v).ρ 1)=some b:=g;rw[q]at g;have r:=N b g;exact⟨(I b r).1,Zh (I b r).2 O.size,.inl ⟨0,_,rfl,r⟩⟩
    ·rw[YF]at h;split at h
     ·cases h;exact g.elim
     ·cases h
   fresh:=fun k m h Z=>by
    rw[YF]at h;split at h
    ·cases h;cases Z
    ·rw[YF]at h;split at h
     ·cases h;cases Z
     ·cases h
   F0:=fun _ h=>h
   F1:=fun _ h=>.inl h
   Fs:=fun b h=>Zh (L.hF b h) O.size
   ext:=O }⟩
 show Calls P f #[E.ρ 0] w _;by_cases d:xs=[]
 ·have hd:ds=[]:=ar (by rw[d]at l;simpa using l);have G:∃p cap,E.ρ 0=.slice p 0 cap:=by
   rcases j with⟨_,h⟩|⟨b,off,cap,_,_,_,h,_⟩
   ·exact⟨_,_,h⟩
   ·rw[d]at h;exact⟨_,_,h⟩
  have⟨p,cap,G⟩:=G;have:=o d p cap w;rw[<-G]at this;refine this.mono ?_;rintro e w' ⟨rfl,rfl⟩;have⟨y,H,R,S⟩:=K _ _ (fun b h=>h) (by rw[hd,<-d];exact j) (Ext.refl _ _);exact⟨y,H,mG _ R,S⟩
 ·rcases j with⟨h,_⟩|⟨b,off,cap,arr,el,fz,q,hc,ha,ht,W,G⟩
  ·exact absurd h d
  ·have g:b<w.heap.size:=(aW.1 W).1;have:=A b off cap w (Zj9 hc ha ht W G) g hc;rw[<-q]at this;refine this.mono ?_;rintro e w' ⟨rfl,n,T,D,rfl,hD1,U⟩;have⟨y,H,R,S⟩:=K _ (cP (bU encStr (bY w n) b off D.toArray) T) (fun b' h=>by rw[q];exact h) (Zlh U (by omega) (by omega) ha ht W) ⟨rfl,rfl,⟨rfl,.inr (bR _ _)⟩,Zl8,fun b' C=>Zj8 C.1 fun e=>C.2 ⟨0,_,rfl,(by show YV (E.ρ 0)=some b';rw[q,e];rfl)⟩⟩;exact⟨y,H,mG _ R,S⟩
end
section
def Sn(l:List UInt8):be:=⟨l.toArray⟩
theorem ZfM(x:be):Sn x.data.toList=x:=by unfold Sn;rw[dc]
theorem ZuW(l:List UInt8):(Sn l).data.toList=l:=by simp[Sn]
theorem ZmB(l:List (List UInt8)):XG (l.map Sn)=l:=by
 unfold XG;rw[cG]
 conv=>rhs;rw[<-List.map_id l]
 exact bK fun x _=>ZuW x
theorem ZkH(xs:List be):(XG xs).map Sn=xs:=by
 unfold XG;rw[cG]
 conv=>rhs;rw[<-List.map_id xs]
 exact bK fun x _=>ZfM x
def Rj(xs:List be):List be:=bif aY xs.length 1 then xs else ((XG xs).mergeSort fun x y=>decide (x<=y)).map Sn
theorem ZmC(xs:List be):XG (Rj xs)=(XG xs).mergeSort fun x y=>decide (x<=y):=by
 unfold Rj
 match xs with
 | []=>simp[XG]
 | [x]=>show XG [x]=_;simp[XG]
 |x::y::r=>
  have:aY (x::y::r).length 1=false:=by
   cases h:aY (x::y::r).length 1 with
   |false=>rfl
   |true=>have:=Ze h;simp at this
  rw[this,lf,ZmB]
theorem Zmd(xs:List be):(Rj xs).Perm xs:=by have h:=(List.mergeSort_perm (XG xs) fun x y=>decide (x<=y)).map Sn;rw[<-ZmC,ZkH,ZkH]at h;exact h
theorem Zgr(xs:List be):(Rj xs).length=xs.length:=(Zmd xs).length_eq
def Sg(xs:List be):List be:=bif aY xs.length 1 then xs else (fK (XG xs)).map Sn
theorem Zgy(xs:List be):XG (Sg xs)=fK (XG xs):=by
 unfold Sg
 match xs with
 | []=>rfl
 | [x]=>
  show XG [x]=_
  rw[Go.Lib.compact_all]
  intro j b
  exact kB _ j (by simpa[XG]using b)
 |x::y::r=>
  have:aY (x::y::r).length 1=false:=by
   cases h:aY (x::y::r).length 1 with
   |false=>rfl
   |true=>have:=Ze h;simp at this
  rw[this,lf,ZmB]
theorem Zo1{α:Type}[Inhabited α][DecidableEq α](zs:List α):(fK zs).length<=zs.length:=by unfold fK kL;rw[aN];refine bV (List.length_filter_le _ _) ?_;simp
theorem ZaM(xs:List be):(Sg xs).length<=xs.length:=by have h:=Zo1 (XG xs);rw[<-Zgy]at h;simpa[XG]using h
theorem ZrU{α:Type}[Inhabited α][DecidableEq α](zs:List α)(x:α):x∈fK zs↔x∈zs:=by
 unfold fK kL;constructor
 ·intro h;rw[aM]at h;obtain⟨j,b,rfl⟩:=h;have b:=cB.1 (ck.1 b).1;have:zs.toArray[j]! = zs[j]:=by rw[getElem!_pos _ j (by simpa using b)];simp
  rw[this];exact b9 b
 ·intro h;obtain⟨i,hi,rfl⟩:=List.getElem_of_mem h;rw[aM];have key:∀i,∀hi:i<zs.length,∃j,j∈(cO zs.length).filter (Go.Lib.keeps zs.toArray)/\zs.toArray[j]! = zs[i]:=by
   intro i;induction i with
   |zero=>
    intro hi;refine⟨0,ck.2 ⟨cB.2 hi,kB _ 0 (by omega)⟩,?_⟩;rw[getElem!_pos _ 0 (by simpa using hi)];simp
   |succ i l=>
    intro hi;by_cases f:Go.Lib.keeps zs.toArray (i+1)=true
    ·refine⟨i+1,ck.2 ⟨cB.2 hi,f⟩,?_⟩;rw[getElem!_pos _ (i+1) (by simpa using hi)];simp
    ·have d:zs.toArray[i+1]! = zs.toArray[i+1-1]! := by refine bx fun c=>f (Go.Lib.keeps_pos c)
     have⟨j,b,e⟩:=l (by omega);refine⟨j,b,e.trans ?_⟩;have g:zs.toArray[i+1]! = zs[i+1]:=by rw[getElem!_pos _ (i+1) (by simpa using hi)];simp
     have k:zs.toArray[i+1-1]! = zs[i]:=by rw[Nat.add_sub_cancel,getElem!_pos _ i (show i<zs.toArray.size by simp;omega)];simp
     rw[g,k]at d;exact d.symm
  exact key i hi
theorem ZrT(xs:List be)(x:be):x∈Sg xs↔x∈xs:=by
 have h:=ZrU (XG xs) x.data.toList;rw[<-Zgy]at h;have key:∀l:List be,x.data.toList∈XG l↔x∈l:=by
  intro l;unfold XG;rw[aM];constructor
  ·rintro⟨y,b,e⟩;have:Sn y.data.toList=Sn x.data.toList:=by rw[e]
   rw[ZfM,ZfM]at this;rw[<-this];exact b
  ·exact fun h=>⟨x,h,rfl⟩
 rw[key,key]at h;exact h
end
section
variable [kv]
section
variable {X:lB}{s:St}{ops:Array lW}{lL:lZ->lQ->Prop}{tt:List (Nat×TD)}
def RX(n:Nat)(v:lR):Prop:=∃b c,v=.slice b n c
theorem kg.lnv{i:Nat}{lK:List Nat}{o:lW}{t:lS}{g:TD}{x:lV}{d k len:Nat}(lO:kf X.P tt)
  (j:ops[i]?=some o) (l:Y3 ops s.L o=some true) (e:o.op=.call { callee:=.builtin .len,args:=#[x],argTypes:=#[t] }) (m:o.dst=some d)
  (n:Yr s.L x=some (.c (.sl k))) (hV:Yg s.V k=some (.fn (RX len))) (p:Yg tt t=some g) (f:(aO d X.fn.ntmps && aF g.kd 6)=true)
  (q:kg X ops lK lL ⟨(d,.c (.i .i64 len))::s.L,s.M,s.V,s.nx⟩):kg X ops (i::lK) lL s:=by simp only[Zc]at f;refine kg.val (v:=.c (.i .i64 len)) (fun E F w a h=>⟨?_,trivial⟩) j l m f.1 q;have⟨el,r,z⟩:=(lO.get p).sliceOf f.2;have⟨u,_⟩:=h.eval n;obtain⟨b,cap,y⟩:RX len (E.ρ k):=h.hV k _ hV;refine Vu e ?_;simp only[bT,aI,au,u,Yt,Yn,y];exact Xe (by simp[dt,Xl r,eA,goInt])
theorem eLn{len:Nat}{c:Cf}(lO:kf X.P tt)(k:Wc X (Xh (d1 c (.c (.i .i64 len))) c))
  (b:(hB X.fn.ntmps c,(Yf c).dst,(Yf c).op,Yo c 0,Yg (Yk c).V (YA (Yo c 0)),Yg tt (Yq (Yf c).op),sl6 tt X.fn.ntmps c) =
   (true,some (YS c),.call { callee:=.builtin .len,args:=#[Yx (Yf c).op 0],argTypes:=#[Yq (Yf c).op] },some (.c (.sl (YA (Yo c 0)))),some (.fn (RX len)),some (YC tt (Yq (Yf c).op)),true):=by kernel_rfl):Wc X c:=by simp only[Zr]at b;have⟨j,e,l,m,n,o,p⟩:=b;have⟨q,r⟩:=Xm j;exact Wc.ev (d:=d1 c (.c (.i .i64 len))) q (Xs e rfl) (fun nk E0 F0 w0 n0 Z lK K f g h=>kg.lnv (X:=X.var nk E0 F0 w0 n0 Z) lO f g l e m n o p h) k
end
end
end Go.Kx
