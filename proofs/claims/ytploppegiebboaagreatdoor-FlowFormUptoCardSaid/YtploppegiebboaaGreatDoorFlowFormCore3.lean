/- Aids for the walks, part 3: a symbolic state of the machine, and that each step of the machine keeps it. -/
import Derived.Scope
import Derived.KernelRfl
import Derived.Sort.AssemblyPlain
import Derived.Shelf.SlSortCmp.Insertion
import Derived.Shelf.SlSortCmp.NoneTotal
import Derived.Lib.LaidTab
import Derived.Lib.Builder
import Derived.Lib.UnsafeStr
import Derived.Sort.EncStr
import Derived.Sort.Grow
import Derived.Lib.SlicesCompact
import Derived.Test.YtploppegiebboaaGreatDoorFlowFormCore2
set_option linter.all false
open Go renaming World→lG,Value→lH,TypeId→lI,execOp→lJ,Program→lK,Operand→lL,Oper→lM,FuncId→lN,IntKind→lO,Act→lP,setRow_other→lR,Frame→lT
open Go.Result renaming andThen_ok→aD
open List renaming getElem?_eq_some_iff→aE,all_eq_true→aH,map_cons→aJ,getElem?_map→aK,length_take→aL,length_map→aM,replicate→aP,mem_map→aQ,append_assoc→aU,getElem?_cons_zero→aX,length_append→ah,getElem?_take→aj,map_nil→ay,eq_nil_of_length_eq_zero→a8,getElem?_replicate→bG,map_congr_left→bH,getElem?_drop→bJ,map_toArray→bQ,size_toArray→bU,length_drop→bg,mem_range→b8,map_map→cD,range→cK,range'→cS,getElem?_toArray→cU,getElem_mem→dR,mem_filter→gR
open Nat renaming beq→aF,blt→aN,mul_le_mul_right→aS,ble→aY,zero_add→au,lt_or_ge→aw,add_mul→bC,le_add_right→bO,le_trans→bT,lt_irrefl→bj,add_zero→bu,not_lt→ck,zero_le→dY
open Go.Sem renaming run_bind→aG,run_pure→aI
open Option.some renaming injEq→aR
open Array renaming getElem?_eq_some_iff→aV,length_toList→aq,replicate→cO,getElem?_eq_getElem→dG,toArray_toList→dX,getElem?_modify→eD,getElem?_eq_none→jO
open ByteArray renaming empty→ao
open Option renaming isSome_iff_exists→bB,bind_some→kI
open Go.Sort renaming putRow→bR,ahead→bW,putCells→cE,grow→cM,mapBlock→ca,heap_grow_old→eE,Holds→gK
open Go.Utf8 renaming encode→bV,decode→cv
open Go.Builtin renaming zeroCells→bX,len_→dk,lenOf→dw,clear_→jl
open Classical renaming byContradiction→bx
open Prod.mk renaming inj→b9
open Bool renaming or_eq_false_iff→cw
open Go.Op renaming equal→di,equalIn→eI
open Go.Region renaming binds→dm
open Go.Instr renaming storeAt→dv
open Go.Lib renaming compact→fE,keeps_lt_one→ju,compactUpTo→kB,TabIs→kH
open Go.Deferred renaming ofValue→fM
open Go.Extern renaming findNext→gQ,find→jj
open Go.DataW renaming trod→iA
open Go.Extern.AbiNoEscape renaming same→iY
open Go.World renaming cells?→jL,shape?→jP
open List.cons renaming inj→kR
namespace Go.Kx
section
variable [kg]
structure Dl:Type 1 where
 dL:List (Nat × SV)
 dM:List (Nat × MO)
 dV:List (Nat × VF)
 n:Nat
def Dl.ap (d:Dl) (s:St):St:=⟨d.dL++s.L,d.dM++s.M,d.dV++s.V,s.nx+d.n⟩
inductive Cf:Type 1
 | co (k:List Item) (s:St)
 | rg (m:Option (Nat × St × List Ent)) (ops:Array lM) (i:Nat) (k:List Item) (s:St)
 | no
def Wd (X:kl):Cf->Prop
 | .co k s=>WP X k s
 | .rg none ops i k s=>kV X ops (cS i (ops.size-i)) (rk X k) s
 | .rg (some q) ops i k _=>AllLS X ops 0 q.2.2->q.2.2.length=i->WP X (.code (.region q.1 ops true)::k) q.2.1
 | .no=>False
structure Wc (X:kl) (c:Cf):Prop where
 h:Wd X c
def Ztj (ops:Array lM) (o:lM):List Nat:=(match o.guard with
 | none=>[]
 | some (j,_)=>match ops[j]? with
  | some oj=>oj.dst.toList
  | none=>[])++tmpsO o.op.operands.toList
where tmpsO:List lL->List Nat
 | []=>[]
 | .tmp t::r=>t::tmpsO r
 | _::r=>tmpsO r
def ZfI (L:List (Nat × SV)):List Nat->List (Nat × SV)
 | []=>[]
 | d::r=>match Yg L d with
  | some v=>(d,v)::ZfI L r
  | none=>ZfI L r
def ZqU:SC->List Nat
 | .bp k _ | .sp k _ _ _ | .sl k | .px k _=>[k]
 | .cl _ fs ks=>fs++ks
 | _=>[]
def Za3:List SC->List Nat
 | []=>[]
 | c::r=>ZqU c++Za3 r
def Zoi:SV->List SC
 | .c x=>[x]
 | .a cs=>cs
 | .t vs=>vs.flatMap fun v=>match v with | .inl x=>[x] | .inr cs=>cs
 | .u=>[]
def Zfj:List (Nat × SV)->List Nat
 | []=>[]
 | q::r=>Za3 (Zoi q.2)++Zfj r
def Zbz {α:Type _} (ks:List Nat):List (Nat × α)->List Nat->List (Nat × α)
 | [],_=>[]
 | (k,v)::r,seen=>bif QQ k ks && !(QQ k seen) then (k,v)::Zbz ks r (k::seen) else Zbz ks r seen
def Zan (V:List (Nat × VF)):List Nat->List Nat
 | []=>[]
 | k::r=>match Yg V k with
  | some (.el j _)=>k::j::Zan V r
  | some (.vw j _ _ _)=>k::j::Zan V r
  | _=>k::Zan V r
def ZeE (M:List (Nat × MO)) (V:List (Nat × VF)):Nat->List Nat->List Nat->List Nat
 | 0,_,acc=>acc
 | _+1,[],acc=>acc
 | n+1,k::r,acc=>bif QQ k acc then ZeE M V n r acc else
  ZeE M V n ((match Yg M k with | some (.box cs _)=>Za3 cs | _=>[])++(match Yg V k with | some (.el j _)=>[j] | some (.vw j _ _ _)=>[j] | some (.pl cs)=>Za3 cs | _=>[])++r) (k::acc)
def Zqo:Op->Bool
 | .call c=>match c.callee with
  | .value _=>true
  | _=>false
 | _=>false
def Zsh:Op->Bool
 | .move _ | .assign _ | .pick _ _ _ | .unOp _ _ _ | .extract _ _ | .field _ _ _ | .build _ _ | .alloc _ | .box _ _ | .nilCheck _ | .fieldAddr _ _ _ | .makeFunc _ _ _=>true
 | _=>false
def Zsi (o:lM) (L:List (Nat × SV)) (V:List (Nat × VF)):Bool:=Zsh o.op || match o.op with
 | .call c=>match c.callee with
  | .builtin .len=>match c.args.toList with
   | [x]=>match Yr L x with
    | some (.c (.sl k))=>match Yg V k with
     | some (.fn _)=>true
     | _=>false
    | _=>false
   | _=>false
  | _=>false
 | _=>false
def Zuo (o:lM) (L:List (Nat × SV)) (s:St):List Nat:=match o.op with
 | .load _ x=>match Yr L x with
  | some (.c (.v _))=>(s.M.filterMap fun p=>match p.2 with | .abs _=>some p.1 | _=>none)++s.V.filterMap fun p=>match p.2 with | .fn _=>some p.1 | _=>none
  | _=>[]
 | _=>[]
def Zed:List (Nat × MO)->List Nat
 | []=>[]
 | (k,.abs _)::r=>k::Zed r
 | _::r=>Zed r
def Ztk (ops:Array lM) (o:lM) (s:St):St :=
 let L:=ZfI s.L (Ztj ops o)
 let ks:=bif Zqo o.op then ZeE s.M s.V 10000 (Zfj L) []++Zed s.M else Zan s.V (Zfj L)++Zuo o L s
 ⟨L,bif Zsi o L s.V then [] else Zbz ks s.M [],Zbz ks s.V [],s.nx⟩
def LX (sv:St) (d:Dl):Ent:=⟨sv.L,sv.V,sv.M.filter (fun q=>Uy q.1 d.dM),sv.M.filter (fun q => !(Uy q.1 d.dM)),sv.nx,d.dL,d.dV,d.dM,sv.nx+d.n⟩
def TH (m:Option (Nat × St × List Ent)) (ops:Array lM) (o:lM) (s:St):St:=match m with
 | none=>s
 | some _=>Ztk ops o s
def Hz (m:Option (Nat × St × List Ent)) (ops:Array lM) (i:Nat) (k:List Item) (s sv:St) (d:Dl):Cf:=match m with
 | none=>.rg none ops (i+1) k (d.ap s)
 | some q=>.rg (some (q.1,q.2.1,q.2.2++[LX sv d])) ops (i+1) k (d.ap s)
theorem AllLS.snoc {X:kl} {ops:Array lM}:∀ {l:List Ent} {i:Nat} {e:Ent},AllLS X ops i l->LS X ops (i+l.length) e->AllLS X ops i (l++[e])
 | [],i,e,_,h=>.cons h .nil
 | x::l,i,e,.cons h1 h2,h=>.cons h1 (AllLS.snoc h2 (by rw [show i+1+l.length=i+(x::l).length by simp;omega];exact h))
theorem Dm {α:Type _} {p:Nat->Bool}:∀ {l:List (Nat × α)} {k:Nat},Yg (l.filter fun q=>p q.1) k=bif p k then Yg l k else none
 | [],k=>by cases p k<;>rfl
 | (j,u)::r,k=>by
  rw [List.filter_cons];simp only [];rw [YF];split
  ·rename_i b;rw [YF,Dm];split
   ·rename_i e;subst e;rw [b];rfl
   ·rfl
  ·rename_i b;rw [Dm];split
   ·rename_i e;subst e;simp only [Bool.not_eq_true] at b;rw [b];rfl
   ·rfl
theorem LS.ent {X:kl} {ops:Array lM} {i:Nat} {o:lM} {b:St} {d:Dl} (x:ops[i]? = some o) (y:Y3 ops b.L o=some true) (z:d.dL.map (·.1)=o.dst.toList)
    (A:∀ nk E0 F0 w0 n0 Z E F w a,ki (X.var nk E0 F0 w0 n0 Z) b E F w a->o.wp X.P a w (fun r w'=>∃ g j,ki (X.var nk E0 F0 w0 n0 Z) (d.ap b) g j w' r) (fun _ _ _=>False)):LS X ops i (LX b d):=by
  refine ⟨o,x,z,.inl ⟨y,fun nk E0 F0 w0 n0 Z E F w a C=>?_⟩⟩;have key:∀ k m,Yg b.M k=some m->Yg ((LX b d).W++(LX b d).R) k=some m:=fun k m h=>by
    show Yg (b.M.filter (fun q=>Uy q.1 d.dM)++b.M.filter (fun q => !(Uy q.1 d.dM))) k=some m;rw [Wi,Dm (p:=fun k=>Uy k d.dM),Dm (p:=fun k => !(Uy k d.dM))];cases c:Uy k d.dM with
    | true=>simp only [lV,h]
    | false=>simp only [lW,Bool.not_false,lV,h]
  have n:ki (X.var nk E0 F0 w0 n0 Z) b E F w a:=C.weaken rfl (fun _ _ h=>h) key (fun _ _ h=>h);refine Oper.wp_imp (fun r w' c=>?_) (A nk E0 F0 w0 n0 Z E F w a n);have ⟨g,j,l⟩:=c;refine ⟨g,j,l.weaken rfl (fun e v h=>?_) (fun k m h=>?_) (fun k f h=>?_)⟩
  · have h:Yg d.dL e=some v:=h;show Yg (d.dL++b.L) e=some v;rw [Wi,h]
  · have h:Yg (d.dM++b.M.filter (fun q => !(Uy q.1 d.dM))) k=some m:=h;show Yg (d.dM++b.M) k=some m;rw [Wi] at h ⊢;cases u:Yg d.dM k with
    | some v=>rw [u] at h;exact h
    | none =>
      rw [u] at h;simp only [] at h ⊢;rw [Dm (p:=fun k => !(Uy k d.dM))] at h;cases c:Uy k d.dM with
      | true=>rw [c] at h;cases h
      | false=>rw [c] at h;exact h
  · have h:Yg d.dV k=some f:=h;show Yg (d.dV++b.V) k=some f;rw [Wi,h]
section
variable {X:kl} {tt:List (Nat × TD)}
variable {o:lM}
theorem Hm {ops:Array lM} {i:Nat} (h:ops[i]? = some o):cS i (ops.size-i)=i::cS (i+1) (ops.size-(i+1)):=by have:=(aV.1 h).1;rw [show ops.size-i=(ops.size-(i+1))+1 by omega,List.range'_succ]
variable {k:List Item} {s:St}
theorem ZlZ {m:Option (Nat × St × List Ent)} {ops:Array lM} {i:Nat} {d:Dl} (b:ops[i]? = some o) (c:Y3 ops (TH m ops o s).L o=some true) (g:d.dL.map (·.1)=o.dst.toList)
    (e:∀ nk E0 F0 w0 n0 Z E F w a,ki (X.var nk E0 F0 w0 n0 Z) (TH m ops o s) E F w a->o.wp X.P a w (fun j w'=>∃ n p,ki (X.var nk E0 F0 w0 n0 Z) (d.ap (TH m ops o s)) n p w' j) (fun _ _ _=>False))
    (h:Wc X (Hz m ops i k s (TH m ops o s) d)):Wc X (.rg m ops i k s):=by
  have ⟨h⟩:=h;refine ⟨?_⟩;cases m with
  | none =>
    show kV X ops (cS i (ops.size-i)) (rk X k) s;rw [Hm b];exact kV.op b c (e X.nk X.E0 X.F0 X.w0 X.n0 X.Z) h
  | some q =>
    intro l f;refine h (l.snoc ?_) (by simp [f]);rw [au,f];exact LS.ent b c g e
theorem Zt1 {m:Option (Nat × St × List Ent)} {ops:Array lM} {i:Nat} {d:Nat} (c:ops[i]? = some o) (e:Y3 ops (TH m ops o s).L o=some false) (f:o.dst=some d) (g:aN d X.fn.ntmps=true)
  (h:Wc X (Hz m ops i k s (TH m ops o s) ⟨[(d,.u)],[],[],0⟩)):Wc X (.rg m ops i k s):=by
 have ⟨h⟩:=h;refine ⟨?_⟩;cases m with
 | none =>
  show kV X ops (cS i (ops.size-i)) (rk X k) s;rw [Hm c];exact kV.skip c e f (Y8 g) h
 | some q =>
  intro n j;refine h (n.snoc ?_) (by simp [j]);rw [au,j];exact ⟨o,c,by show [d]=_;rw [f];rfl,.inr ⟨e,fun l v b=>by have b:(l,v)∈[(d,SV.u)]:=b;simp only [List.mem_singleton,Zr] at b;exact ⟨b.2,by rw [b.1];exact Y8 g⟩,rfl,rfl⟩⟩
def Zf4 (tt:List (Nat × TD)) (n:Nat) (o:lM):St->Option Dl
 | ⟨L,M,V,nx⟩=>match o.op with
  | .alloc t=>match Yg tt t with
   | some d=>match o.dst with
    | some x=>bif aN x n then some ⟨[(x,.c (.bp nx 0))],[(nx,.box d.z t)],[],1⟩ else none
    | none=>none
   | none=>none
  | .box t v=>match Yr L v with
   | some sv=>match WH sv with
    | some cs=>match o.dst with
     | some x=>bif aN x n then some ⟨[(x,.c (.bp nx 0))],[(nx,.box cs t)],[],1⟩ else none
     | none=>none
    | none=>none
   | none=>none
  | .store t ad v=>match Yg tt t with
   | some d=>match Yr L ad with
    | some (.c (.bp k off))=>match Yr L v with
     | some sv=>match WH sv with
      | some ps=>match Yg M k with
       | some (.box cs t')=>bif (aF ps.length d.sz && aY (off+ps.length) cs.length) then (match o.dst with
        | none=>some ⟨[],[(k,.box (cs.take off++ps++cs.drop (off+ps.length)) t')],[],0⟩
        | some _=>none) else none
       | _=>none
      | none=>none
     | none=>none
    | _=>none
   | none=>none
  | op=>match DM tt ⟨L,M,V,nx⟩ op with
   | some v=>match o.dst with
    | some x=>bif aN x n then some ⟨[(x,v)],[],[],0⟩ else none
    | none=>none
   | none=>none
theorem ZtZ {n:Nat} {d:Dl} (h:Zf4 tt n o s=some d):Hw tt n o s=some (d.ap s)/\d.dL.map (·.1)=o.dst.toList:=by
  have ⟨L,M,V,nx⟩:=s;have ⟨dst,op,ty,pos,m,g⟩:=o;unfold Zf4 at h;unfold Hw;simp only [] at h ⊢;split at h
  · rename_i t;cases e:Yg tt t with
    | none=>rw [e] at h;cases h
    | some l =>
      rw [e] at h;simp only [] at h ⊢;cases dst with
      | none=>cases h
      | some x =>
        simp only [] at h ⊢;cases b:aN x n with
        | false=>rw [b] at h;cases h
        | true=>rw [b] at h;cases h;refine ⟨?_,rfl⟩;simp only [e,b,lV];rfl
  · rename_i t v;cases c:Yr L v with
    | none=>rw [c] at h;cases h
    | some j =>
      rw [c] at h;simp only [] at h ⊢;cases f:WH j with
      | none=>rw [f] at h;cases h
      | some cs =>
        rw [f] at h;simp only [] at h ⊢;cases dst with
        | none=>cases h
        | some x =>
          simp only [] at h ⊢;cases b:aN x n with
          | false=>rw [b] at h;cases h
          | true=>rw [b] at h;cases h;refine ⟨?_,rfl⟩;simp only [c,f,b,lV];rfl
  · rename_i t y v;cases e:Yg tt t with
    | none=>rw [e] at h;cases h
    | some l =>
      rw [e] at h;simp only [] at h ⊢;split at h
      · rename_i k off i;cases c:Yr L v with
        | none=>rw [c] at h;cases h
        | some j =>
          rw [c] at h;simp only [] at h ⊢;cases f:WH j with
          | none=>rw [f] at h;cases h
          | some ps =>
            rw [f] at h;simp only [] at h ⊢;split at h
            · rename_i cs z p;cases b:(aF ps.length l.sz && aY (off+ps.length) cs.length) with
              | false=>rw [b] at h;cases h
              | true =>
                rw [b] at h;simp only [lV] at h ⊢;cases dst with
                | some x=>cases h
                | none =>
                  cases h;refine ⟨?_,rfl⟩;simp only [e,i,c,f,p,b,lV];rfl
            · cases h
      · cases h
  · rename_i q r u;cases c:DM tt ⟨L,M,V,nx⟩ op with
    | none=>rw [c] at h;cases h
    | some v =>
      rw [c] at h;simp only [] at h;cases dst with
      | none=>cases h
      | some x =>
        simp only [] at h;cases b:aN x n with
        | false=>rw [b] at h;cases h
        | true =>
          rw [b] at h;cases h;refine ⟨?_,rfl⟩;split
          · exact (q _ rfl).elim
          · exact (r _ _ rfl).elim
          · exact (u _ _ _ rfl).elim
          · simp only [c,b,lV];rfl
variable {c:Code}
theorem Zuk {P:lK} {b:lT} {a:lP} {cs:List lT} {w:lG}:step P (lone (b.atR a (.code (.scope c)::k)) cs w)=.next (lone (b.atR a (.code c::.inScope c::k)) cs w) :=
 step_lone_go (by simp [stepG,stepG.exec,Frame.atR])
theorem Zuj {P:lK} {b:lT} {a:lP} {cs:List lT} {w:lG}:step P (lone (b.atR a (.inScope c::k)) cs w)=.next (lone (b.atR a k) cs w) :=
 step_lone_go (by simp [stepG,stepG.exec,Frame.atR])
theorem WP.scope {X:kl} (h:WP X (.code c::.inScope c::k) s):WP X (.code (.scope c)::k) s :=
 fun E F w a b=>kf.head (fun _ _ _ _ _=>.one Zuk) (h E F w a b)
theorem WP.inScope {X:kl} (h:WP X k s):WP X (.inScope c::k) s :=
 fun E F w a b=>kf.head (fun _ _ _ _ _=>.one Zuj) (h E F w a b)
def a1 (tt:List (Nat × TD)) (nt:Nat):Cf->Cf
 | .co k s=>match k with
  | .inBlock _::k'=>.co k' s
  | .inScope _::k'=>.co k' s
  | .code c::k'=>match c with
   | .seq x y=>.co (.code x::.code y::k') s
   | .skip=>.co k' s
   | .label _=>.co k' s
   | .block id x=>.co (.code x::.inBlock id::k') s
   | .scope x=>.co (.code x::.inScope x::k') s
   | .exit id=>match exitTo id k' with
    | some k2=>.co k2 s
    | none=>.no
   | .region id ops dr=>match dr with
    | true=>.rg (some (id,s,[])) ops 0 k' s
    | false=>bif Tx ops then .rg none ops 0 k' s else .no
   | .cond x y z=>match x with
    | .tmp d=>match Yg s.L d with
     | some (.c (.b t))=>match t with
      | true=>.co (.code y::k') s
      | false=>.co (.code z::k') s
     | _=>.no
    | .const (.bool t)=>match t with
     | true=>.co (.code y::k') s
     | false=>.co (.code z::k') s
    | _=>.no
   | _=>.no
  | _=>.no
 | .rg m ops i k s=>match ops[i]? with
  | none=>match m with
   | none=>bif aF i ops.size then .co k s else .no
   | some _=>.no
  | some o=>match Y3 ops (TH m ops o s).L o with
   | some true=>match Zf4 tt nt o (TH m ops o s) with
    | some d=>Hz m ops i k s (TH m ops o s) d
    | none=>.no
   | some false=>match o.dst with
    | some d=>bif aN d nt then Hz m ops i k s (TH m ops o s) ⟨[(d,.u)],[],[],0⟩ else .no
    | none=>.no
   | none=>.no
 | .no=>.no
def Wm (tt:List (Nat × TD)) (nt:Nat):Nat->Cf->Cf
 | 0,c=>c
 | n+1,c=>Wm tt nt n (a1 tt nt c)
theorem Zec (lE:kU X.P tt) {c:Cf} (h:Wc X (a1 tt X.fn.ntmps c)):Wc X c:=by
 unfold a1 at h;split at h
 ·split at h
  ·exact ⟨WP.inBlock h.1⟩
  ·exact ⟨WP.inScope h.1⟩
  ·split at h
   ·exact ⟨WP.seq h.1⟩
   ·exact ⟨WP.skip h.1⟩
   ·exact ⟨WP.label h.1⟩
   ·exact ⟨WP.block h.1⟩
   ·exact ⟨WP.scope h.1⟩
   ·split at h
    ·rename_i q;exact ⟨WP.exit q h.1⟩
    ·exact h.1.elim
   ·split at h
    ·exact ⟨h.1 .nil rfl⟩
    ·rename_i ops r;cases b:Tx ops with
     | false=>rw [b] at h;exact h.1.elim
     | true =>
      rw [b] at h;refine ⟨WP.region b ?_⟩;have h:kV X _ (cS 0 (_-0)) _ _:=h.1;rw [List.range_eq_range'];exact h
   ·split at h
    ·split at h
     ·rename_i l;split at h
      ·exact ⟨WP.condT rfl l h.1⟩
      ·exact ⟨WP.condF rfl l h.1⟩
     ·exact h.1.elim
    ·split at h
     ·exact ⟨WP.condCT h.1⟩
     ·exact ⟨WP.condCF h.1⟩
    ·exact h.1.elim
   ·exact h.1.elim
  ·exact h.1.elim
 ·rename_i m ops i k s;split at h
  ·rename_i f;split at h
   ·cases e:aF i ops.size with
    | false=>rw [e] at h;exact h.1.elim
    | true =>
     rw [e] at h;refine ⟨?_⟩;show kV X ops (cS i (ops.size-i)) (rk X k) s;rw [Zd e,Nat.sub_self];exact kV.nil h.1
   ·exact h.1.elim
  ·rename_i o f;split at h
   ·rename_i g;split at h
    ·rename_i d j;have ⟨n,p⟩:=ZtZ j;exact ZlZ f g p (fun nk E0 F0 w0 n0 Z=>ZlJ (X:=X.var nk E0 F0 w0 n0 Z) lE n) h
    ·exact h.1.elim
   ·rename_i g;split at h
    ·rename_i d j;cases e:aN d X.fn.ntmps with
     | false=>rw [e] at h;exact h.1.elim
     | true=>rw [e] at h;exact Zt1 f g j e h
    ·exact h.1.elim
   ·exact h.1.elim
 ·exact h.1.elim
theorem ZhD (lE:kU X.P tt):∀ (n:Nat) {c:Cf},Wc X (Wm tt X.fn.ntmps n c)->Wc X c
 | 0,_,h=>h
 | n+1,_,h=>Zec lE (ZhD lE n h)
end
open Go
def Ux (b:Nat) (s:be) (p:Nat):Sx where
 fp:=fun x=>x=b
 ok:=fun _ w=>w.heap[b]? = some (.stringIter s p)
 mono:=fun _ hb h=>by rw [hb b rfl];exact h
section
variable {X:kl} {s:St} {ops:Array lM} {lB:lP->lG->Prop} {tt:List (Nat × TD)}
variable {d:Nat} {m:be} {o:lM} {kz:List Nat} {x:lL}
theorem kV.rng (lE:kU X.P tt) {i:Nat} {t:lI} {q:TD}
  (r:ops[i]? = some o) (u:Y3 ops s.L o=some true) (l:o.op=.range t x) (y:o.dst=some d) (z:Yg tt t=some q) (g:aF q.kd 2=true)
  (A:Yr s.L x=some (.c (.s m))) (C:aN d X.fn.ntmps=true)
  (D:∀ b,kV X ops kz lB ⟨(d,.c (.v (.pointer (some ⟨b,0,none⟩))))::s.L,(s.nx,.abs (Ux b m 0))::s.M,s.V,s.nx+1⟩):kV X ops (i::kz) lB s:=by
 intro E F w a f;simp only [wpOps,r,SQ f u,l9];have ⟨I,_⟩:=f.eval A;have K:X.P.underlying t=some .string:=by have j:=(lE.get z).2.1;have g:=Zd g;unfold UT at j;split at j<;>simp_all
 have p:w.heap.size<=(w.alloc (.stringIter m 0)).heap.size:=by simp
 have N:=f.world (w':=w.alloc (.stringIter m 0)) rfl rfl .m p (fun b n=>heap_alloc_old w _ (h:=n));have j:=N.addM' (m:=.abs (Ux w.heap.size m 0)) (heap_alloc_new w _) trivial (fun b n=>by have e:b=w.heap.size:=n;subst e;refine ⟨fun hF=>absurd (f.hF _ hF) (bj _),fun hZ=>?_,by simp,fun k m' G H=>absurd (f.mF k m' G _ H).2.2 (bj _)⟩;have:=f.hZ _ hZ;have:=f.ext.size;omega) (fun h=>by cases h)
 refine .inl (XB (w':=w.alloc (.stringIter m 0)) (v:=.pointer (some ⟨w.heap.size,0,none⟩)) ?_ (D w.heap.size E F _ _ ?_))
 ·simp only [lJ,l,I,Yt,Yn];refine Xc ?_;simp only [Instr.range,aG,Xk K,aD,aI,run_newObj];rfl
 ·rw [y];exact j.setL (d:=d) (v:=.c (.v (.pointer (some ⟨w.heap.size,0,none⟩)))) (by first | trivial | rfl) (Y8 C)
theorem kV.nxtF {i:Nat} {b p:Nat} (k:Nat)
  (e:decide (p < m.size)=false) (j:ops[i]? = some o) (l:Y3 ops s.L o=some true) (f:o.op=.next x true) (n:o.dst=some d)
  (q:Yr s.L x=some (.c (.v (.pointer (some ⟨b,0,none⟩))))) (r:Yg s.M k=some (.abs (Ux b m p))) (u:aN d X.fn.ntmps=true)
  (y:kV X ops kz lB ⟨(d,.t [.inl (.b false)])::s.L,s.M,s.V,s.nx⟩):kV X ops (i::kz) lB s:=by
 refine kV.op j l (fun E F w a g=>?_) y;have ⟨z,_⟩:=g.eval q;have A:w.heap[b]? = some (.stringIter m p):=g.hM k _ r;have e:¬ p < m.size:=of_decide_eq_false e;refine XB (w':=w) (v:=.tuple #[.bool false]) ?_ ⟨E,F,?_⟩
 ·simp only [lJ,f,z,Yt,Yn];refine Xc ?_;simp [Instr.next,getObj,Sem.run,A,e]
 ·rw [n];exact g.setL (d:=d) (v:=.t [.inl (.b false)]) (fun v h=>by simp at h;subst h;trivial) (Y8 u)
theorem kV.nxtT {i:Nat} {b p:Nat} (k:Nat)
  (f:decide (p < m.size)=true) (y:ops[i]? = some o) (z:Y3 ops s.L o=some true) (g:o.op=.next x true) (A:o.dst=some d)
  (C:Yr s.L x=some (.c (.v (.pointer (some ⟨b,0,none⟩))))) (r:Yg s.M k=some (.abs (Ux b m p))) (D:aN d X.fn.ntmps=true)
  (G:kV X ops kz lB ⟨(d,.t [.inl (.b true),.inl (.i .i64 (p:Int)),.inl (.i .i32 ((cv m p).1:Int))])::s.L,(k,.abs (Ux b m (p+(cv m p).2)))::s.M,s.V,s.nx⟩):kV X ops (i::kz) lB s:=by
 refine kV.op y z (fun E F w a j=>?_) G;have ⟨H,_⟩:=j.eval C;have n:w.heap[b]? = some (.stringIter m p):=j.hM k _ r;have f:p < m.size:=lZ f;have q:b < w.heap.size:=by
  rcases aw b w.heap.size with h | h
  ·exact h
  ·rw [jO h] at n;cases n
 have I:=j.setM (m':=.abs (Ux b m (p+(cv m p).2))) (w':={ w with heap:=w.heap.setIfInBounds b (.stringIter m (p+(cv m p).2)) }) r rfl rfl .m (by simp)
  (fun c K l=>by have:c≠b:=fun e=>l e;simp only [Array.getElem?_setIfInBounds];rw [lh (fun e=>this e.symm)])
  (fun _ h=>h) (by show (w.heap.setIfInBounds b _)[b]? = _;simp [q]) trivial (fun h=>by cases h)
 refine XB (w':={ w with heap:=w.heap.setIfInBounds b (.stringIter m (p+(cv m p).2)) }) (v:=.tuple #[.bool true,goInt (p:Int),.int .i32 ((cv m p).1:Int)]) ?_ ⟨E,F,?_⟩
 ·simp only [lJ,g,H,Yt,Yn];refine Xc ?_;simp [Instr.next,getObj,setObj,Sem.run,n,f]
 ·rw [A];exact I.setL (d:=d) (v:=.t [.inl (.b true),.inl (.i .i64 (p:Int)),.inl (.i .i32 ((cv m p).1:Int))]) (fun v u=>by simp at u;rcases u with rfl | rfl | rfl<;>trivial) (Y8 D)
end
end
section
variable [kg]
section
variable {X:kl} {s:St} {tt:List (Nat × TD)} {ops:Array lM} {lB:lP->lG->Prop}
theorem kV.stp {α:Type} {R:kS α} (O:kX R) (lE:kU X.P tt) {i:Nat} {kz:List Nat} {o:lM} {t:lI} {td:TD} {x y:lL} {k q off:Nat} {n:Int} {xs:List α} {e:α} {fr:Bool} {v:SV} {ps:List SC} (Y:α)
  (hi:idx xs n=some e) (ho:ops[i]? = some o) (hg:Y3 ops s.L o=some true) (hop:o.op=.store t x y) (hd:o.dst=none)
  (hx:Yr s.L x=some (.c (.px q off))) (hV:Yg s.V q=some (.el k (n.toNat * R.sz))) (hM:Yg s.M k=some (.own R xs fr)) (ht:Yg tt t=some td)
  (hy:Yr s.L y=some v) (Z:WH v=some ps)
  (hk:O.chk (Yg (O.facts s.nx e++s.V)) Y ((O.cells s.nx e).take off++ps++(O.cells s.nx e).drop (off+ps.length)))
  (hc:(aF ps.length td.sz && aY (off+ps.length) R.sz)=true)
  (k:kV X ops kz lB ⟨s.L,(k,.own R (YA xs n Y) fr)::s.M,O.facts s.nx e++s.V,s.nx+O.nk⟩):kV X ops (i::kz) lB s:=by
 refine kV.op ho hg (fun E F w a l=>?_) k;rename_i S;simp only [Zc] at hc;have ⟨c1,c2⟩:=hc;have c1:=Zd c1;have c2:=Ze c2;have ⟨_,_,N⟩:=Vx hi;have hsl:=l.hM S _ hM;simp only [MO.ok] at hsl;rcases hsl with ⟨rfl,_⟩ | ⟨b,o',cap,arr,ty,fz,hv,hcap,hsza,hth,hh,hr⟩
 ·simp at N
 have ⟨vs,G,hvs⟩:=hr n.toNat e N;have ⟨E2,a1,_,a2,a3,a4,a5,a6⟩:=O.ok G s.nx E l.one;have ⟨hq,_⟩:=l.hV q _ hV;have hqn:=(l.wf.hV q _ hV).1;have hk0:=(l.wf.hM S _ hM).1;rw [<- (a1 q hqn).1,<- (a1 S hk0).1] at hq;rw [<- (a1 S hk0).1] at hv;have hs2:=(l.env a1 a3).addF (fs:=O.facts s.nx e) (n:=O.nk) (fun p Z=>a5 p Z);replace l:=hs2;have ⟨e1,_⟩:=l.eval hx;have ⟨e2,ek⟩:=l.eval hy;have ⟨ec,ekk⟩:=HB (s:=⟨s.L,s.M,O.facts s.nx e++s.V,s.nx+O.nk⟩) l.one Z ek;have hvl:=R.len G;have hcl:(O.cells s.nx e).length=R.sz:=by rw [<- hvl,a4,aM]
 have hin:n.toNat < xs.length:=(aE.1 N).1;have hroom:o'+n.toNat * R.sz+R.sz<=arr.size:=by have:(n.toNat+1) * R.sz<=cap * R.sz:=aS _ (by omega);rw [bC] at this;omega
 have z:(ps.map (Yn E2)).length=ps.length:=aM ..;have hst:=R4 (P:=X.P) b (o'+n.toNat * R.sz+off) ty fz (ps.map (Yn E2)) 0 arr w hh hth (by rw [z];omega)
  (by intro u hu;obtain ⟨c,hc',rfl⟩:=aQ.1 hu;exact QG l.one (ekk c hc'))
 let d:=(arr.toList.take (o'+n.toNat * R.sz+off+0)++ps.map (Yn E2)++arr.toList.drop (o'+n.toNat * R.sz+off+0+(ps.map (Yn E2)).length)).toArray
 have hrun:(lJ a.eval o).run X.P w=.ok .skip (w.setRow b d):=by
  have hsv:(dv t (a.eval x) (a.eval y)).run X.P w=.ok () (w.setRow b d):=by
   rw [e1,e2];have hsz:(Yt E2 v).cells.size=td.sz:=by rw [ec];simp [c1]
   have Z:Yt E2 (.c (.px q off))=.pointer (some ⟨b,o'+n.toNat * R.sz+off,none⟩):=by show WW (E2.ρ q) off=_;rw [hq,hv];rfl
   rw [Z];simp only [dv,Instr.sureAddr,aG,aI,aD,storeVar,DG w (lE.get ht),hsz,ne_eq,l6,lf];have:(Yt E2 v).cells.toList=ps.map (Yn E2):=by rw [ec]
   rw [this];exact hst
  simp only [lJ,hop,aG,hsv,aD,aI]
 refine HH hrun ?_;have hmf:=l.mF S _ hM;have hbF:¬ F b:=(hmf b (by show YV (E2.ρ S)=some b;rw [hv];rfl)).1;have hg:X3 F w F (w.setRow b d):=⟨fun _ h=>h,fun b' hb'=>lR w b b' _ (fun h=>hbF (h ▸ hb'))⟩
 have I:d.size=arr.size:=by have T:arr.toList.length=arr.size:=aq;simp only [d,bU,ah,aL,bg,T,z];omega
 -- what the cells are now
 have K:∀ j,d[j]? = if o'+n.toNat * R.sz+off<=j/\j < o'+n.toNat * R.sz+off+ps.length then (ps.map (Yn E2))[j-(o'+n.toNat * R.sz+off)]? else arr[j]? := by
  intro j;have T:arr.toList.length=arr.size:=aq;have U:(arr.toList.take (o'+n.toNat * R.sz+off)).length=o'+n.toNat * R.sz+off:=by rw [aL,T];omega
  show ((arr.toList.take (o'+n.toNat * R.sz+off+0)++ps.map (Yn E2)++arr.toList.drop (o'+n.toNat * R.sz+off+0+(ps.map (Yn E2)).length)).toArray)[j]? = _;simp only [bu,cU,aU,z];by_cases c:j < o'+n.toNat * R.sz+off
  ·rw [Zo (by rw [U];exact c),aj,lg c,lh (by omega)];simp
  ·rw [Zp (by rw [U];omega),U];by_cases c':j < o'+n.toNat * R.sz+off+ps.length
   ·rw [Zo (by rw [z];omega),lg ⟨by omega,c'⟩]
   ·rw [Zp (by rw [z];omega),z,bJ,lh (by omega)];rw [show o'+n.toNat * R.sz+off+ps.length+(j-(o'+n.toNat * R.sz+off)-ps.length)=j by omega];simp
 have C:R.rep F (w.setRow b d) Y (((O.cells s.nx e).take off++ps++(O.cells s.nx e).drop (off+ps.length)).map (Yn E2)) :=
  R.mono hg (O.cok hk E2 F w (fun k f h=>l.hV k f h))
 have hrow:Row R F (w.setRow b d) (YA xs n Y) d o':=by
  intro i' x' r;unfold YA at r;rw [List.getElem?_set] at r;split at r
  ·rename_i hii;try rw [lg hin] at r
   cases r;refine ⟨_,C,fun j u A=>?_⟩;rw [K,<- hii];rw [aK] at A;have g:((O.cells s.nx e).take off).length=off:=by rw [aL,hcl];omega
   by_cases c:off<=j/\j < off+ps.length
   ·rw [lg ⟨by omega,by omega⟩,show o'+n.toNat * R.sz+j-(o'+n.toNat * R.sz+off)=j-off by omega,aK];rw [aU,Zp (by rw [g];exact c.1),g,Zo (by omega)] at A;exact A
   ·rw [lh (by omega)];have W:∃ H,(O.cells s.nx e)[j]? = some H/\u=Yn E2 H:=by
     rcases aw j off with D | hge
     ·rw [aU,Zo (by rw [g];exact D),aj,lg D] at A;rw [Zn] at A;have ⟨H,h1,h2⟩:=A;exact ⟨H,h1,h2.symm⟩
     ·rw [aU,Zp (by rw [g];exact hge),g,Zp (by omega),bJ,
       show off+ps.length+(j-off-ps.length)=j by omega,Zn] at A
      have ⟨H,h1,h2⟩:=A;exact ⟨H,h1,h2.symm⟩
    have ⟨H,h1,h2⟩:=W;have:=hvs j (Yn E2 H) (by rw [a4,aK,h1];rfl);rw [h2];exact this
  ·rename_i hne;have ⟨us,hu,huv⟩:=hr i' x' r;refine ⟨us,R.mono hg hu,fun j u A=>?_⟩;have hjl:j < R.sz:=by rw [<- R.len hu];exact (aE.1 A).1
   rw [K,lh]
   ·exact huv j u A
   ·rintro ⟨g1,g2⟩;rcases aw i' n.toNat with D | hge
    ·have:(i'+1) * R.sz<=n.toNat * R.sz:=aS _ D;rw [bC] at this;omega
    ·have:(n.toNat+1) * R.sz<=i' * R.sz:=aS _ (by omega);rw [bC] at this;omega
 refine ⟨E2,F,?_⟩;rw [hd];refine l.setM (m':=.own R (YA xs n Y) fr) hM rfl rfl .m (by simp) (fun b' _ hne=>lR w b b' _ (fun h=>hne (by subst h;show YV (E2.ρ S)=some b';rw [hv];rfl))) (fun _ h=>h) ?_ trivial (fun h=>h);refine .inr ⟨b,o',cap,d,ty,fz,?_,?_,by rw [I];exact hsza,by rw [I];exact hth,setRow_heap w b arr _ ty fz hh,hrow⟩
 ·rw [hv];simp [YA]
 ·simpa [YA] using hcap
end
def Cf.ops:Cf->Array lM
 | .rg _ o _ _ _=>o
 | _=>#[]
def Cf.i:Cf->Nat
 | .rg _ _ i _ _=>i
 | _=>0
def Cf.md:Cf->Option (Nat × St × List Ent)
 | .rg m _ _ _ _=>m
 | _=>none
def Cf.kk:Cf->List Item
 | .rg _ _ _ k _=>k
 | .co (_::k) _=>k
 | _=>[]
def Cf.st:Cf->St
 | .rg _ _ _ _ s=>s
 | .co _ s=>s
 | .no=>⟨[],[],[],0⟩
def Cf.isR:Cf->Bool
 | .rg _ _ _ _ _=>true
 | _=>false
def Yf (c:Cf):lM:=(c.ops[c.i]?).getD default
def Yk (c:Cf):St:=TH c.md c.ops (Yf c) c.st
def Xf (d:Dl) (c:Cf):Cf:=Hz c.md c.ops c.i c.kk c.st (Yk c) d
def VB (c:Cf):Bool:=c.isR && (c.ops[c.i]?).isSome && (match Y3 c.ops (Yk c).L (Yf c) with | some b=>b | none=>false)
def YQ (c:Cf):Nat:=(Yf c).dst.getD 0
def Tn (s:St):List Nat->List (Nat × MO) × List (Nat × VF)
 | []=>([],[])
 | k::r=>match Yg s.M k with
  | some (.own R xs _)=>match Tn s r with
   | q=>((k,.gone)::q.1,(k,.sl R xs)::q.2)
  | _=>([],[])
def Yu (s:St) (fz:List Nat):St:=⟨s.L,(Tn s fz).1++s.M,(Tn s fz).2++s.V,s.nx⟩
def Ur (s:St) (fz:List Nat):Bool:=XK fz && fz.all fun k=>match Yg s.M k with
 | some (.own _ _ fr)=>fr
 | _=>false
def Dl.fz (d:Dl) (s:St) (fz:List Nat):Dl:=⟨d.dL,d.dM++(Tn s fz).1,d.dV++(Tn s fz).2,d.n⟩
theorem Dl.fz_ap (d:Dl) (s:St) (fz:List Nat):(d.fz s fz).ap s=d.ap (Yu s fz):=by simp [Dl.fz,Dl.ap,Yu]
theorem ZjE {s:St} {k:Nat}:∀ {fz:List Nat},k ∉ fz->Yg (Tn s fz).1 k=none
 | [],_=>rfl
 | j::r,h=>by
  unfold Tn;split
  ·simp only [];rw [YF,lh fun e=>h (by rw [e];exact Zj)];exact ZjE fun b=>h (Zi _ b)
  ·rfl
theorem Ze5 {X:kl} {s:St} {E F w a} (i:ki X s E F w a):∀ {fz:List Nat},Ur s fz=true->∃ m,ki X (Yu s fz) E m w a
 | [],_=>⟨F,i⟩
 | k::r,h=>by
  unfold Ur at h;simp only [Zc,List.all_cons] at h;have ⟨c,d,l⟩:=h;have j:k ∉ r/\XK r=true:=by have:=PW c;rw [List.nodup_cons] at this;refine ⟨this.1,?_⟩;unfold XK at c;rw [Zc] at c;exact c.2
  have ⟨F1,f⟩:=Ze5 i (fz:=r) (by unfold Ur;rw [Zc];exact ⟨j.2,l⟩);split at d
  ·rename_i α R xs fr hm;subst d;have g:Yg (Yu s r).M k=some (.own R xs true):=by show Yg ((Tn s r).1++s.M) k=_;rw [Wi,ZjE j.1];exact hm
   refine ⟨fun b=>F1 b\/YV (E.ρ k)=some b,?_⟩;have:=f.freeze g;have e:Tn s (k::r)=((k,.gone)::(Tn s r).1,(k,.sl R xs)::(Tn s r).2):=by
    conv=>lhs;unfold Tn
    rw [hm]
   unfold Yu;rw [e];exact this
  ·cases d
section
variable {X:kl} {tt:List (Nat × TD)}
variable {s:St}
theorem Stp.of {ops:Array lM} {i:Nat} {o:lM} {d:St} (m:ops[i]? = some o) (n:Y3 ops s.L o=some true) (r:∀ K,kV X ops [] K d->kV X ops [i] K s) :
  ∀ E F w a,ki X s E F w a->o.wp X.P a w (fun f w'=>∃ k l,ki X d k l w' f) (fun _ _ _=>False):=fun E F w a c=>by
 have h:=r (fun f w'=>∃ k l,ki X d k l w' f) (fun E F w a c=>⟨rfl,E,F,c⟩) E F w a c;have j:=SQ c n;simp only [wpOps,m,j,l9] at h;rcases h with h | ⟨_,h⟩
 ·unfold Oper.wp at h ⊢;unfold Oper.upon at h ⊢;split at h
  ·exact h.2
  ·exact h.2
  ·exact h.2
  ·refine Calls.mono h fun e w' b=>?_;split at b
   ·exact b.2
   ·cases b.1
   ·have ⟨a1,p,g⟩:=b;cases g.1
  ·exact Rows.mono h fun v w' b=>b.2
  ·cases h.1
  ·exact h.elim
 ·have ⟨a1,p,g⟩:=h;cases g.1
variable {c:Cf}
theorem Wc.ev {d:Dl} (f:VB c=true) (p:d.dL.map (·.1)=(Yf c).dst.toList)
    (r:∀ nk E0 F0 w0 n0 Z kz K,c.ops[c.i]? = some (Yf c)->Y3 c.ops (Yk c).L (Yf c)=some true->kV (X.var nk E0 F0 w0 n0 Z) c.ops kz K (d.ap (Yk c))->kV (X.var nk E0 F0 w0 n0 Z) c.ops (c.i::kz) K (Yk c))
    (k:Wc X (Xf d c)):Wc X c:=by
  unfold VB at f;rw [Zc,Zc] at f;obtain ⟨⟨l,q⟩,g⟩:=f;cases c with
  | co k s=>cases l
  | no=>cases l
  | rg m ops i j s =>
    have e:ops[i]? = some (Yf (.rg m ops i j s)):=by have ⟨o,e⟩:=bB.1 q;have e:ops[i]? = some o:=e;unfold Yf;show _=some ((ops[i]?).getD default);rw [e];rfl
    have h:Y3 ops (Yk (.rg m ops i j s)).L (Yf (.rg m ops i j s))=some true:=by
      split at g
      · rename_i b n;rw [g] at n;exact n
      · cases g
    exact ZlZ e h p (fun nk E0 F0 w0 n0 Z=>Stp.of (X:=X.var nk E0 F0 w0 n0 Z) e h (fun K=>r nk E0 F0 w0 n0 Z [] K e h)) k
theorem Wc.evz {d:Dl} (fz:List Nat) (e:VB c=true) (f:Ur (Yk c) fz=true) (g:d.dL.map (·.1)=(Yf c).dst.toList)
    (r:∀ nk E0 F0 w0 n0 Z kz K,c.ops[c.i]? = some (Yf c)->Y3 c.ops (Yu (Yk c) fz).L (Yf c)=some true->kV (X.var nk E0 F0 w0 n0 Z) c.ops kz K (d.ap (Yu (Yk c) fz))->kV (X.var nk E0 F0 w0 n0 Z) c.ops (c.i::kz) K (Yu (Yk c) fz))
    (k:Wc X (Xf (d.fz (Yk c) fz) c)):Wc X c:=by refine Wc.ev (d:=d.fz (Yk c) fz) e g (fun nk E0 F0 w0 n0 Z kz K j l h=>?_) k;rw [Dl.fz_ap] at h;have:=r nk E0 F0 w0 n0 Z kz K j l h;intro E F w a n;have ⟨m,b⟩:=Ze5 n f;exact this E m w a b
def Yx:Op->Nat->lL
 | .indexAddr _ x y,j | .index _ x y,j | .store _ x y,j | .binOp _ _ x y _,j | .makeSlice _ x y,j | .lookup _ x y _,j=>match j with
  | 0=>x
  | _=>y
 | .mapUpdate _ x y z,j | .insert _ x y z,j=>match j with
  | 0=>x
  | 1=>y
  | _=>z
 | .load _ x,_ | .slice _ x _ _ _,_ | .convert _ _ x,_ | .range _ x,_ | .next x _,_=>x
 | .call c,j=>(c.args.toList[j]?).getD (.const (.bool true))
 | _,_=>.const (.bool true)
def Yq:Op->lI
 | .indexAddr t _ _ | .index t _ _ | .store t _ _ | .binOp _ t _ _ _ | .makeSlice t _ _ | .load t _ | .slice t _ _ _ _ | .convert t _ _ | .range t _ | .buildSlice t _ _ | .makeMap t _ | .lookup t _ _ _ | .mapUpdate t _ _ _ | .insert t _ _ _=>t
 | .call c=>(c.argTypes.toList[0]?).getD 0
 | _=>0
def Xz:Op->lI
 | .convert _ t _ | .binOp _ _ _ _ t=>t
 | .call c=>(c.argTypes.toList[1]?).getD 0
 | _=>0
def Zw8:Op->BinOp
 | .binOp b _ _ _ _=>b
 | _=>.add
def UV:Op->Option lL
 | .slice _ _ l _ _=>l
 | _=>none
def US:Op->Option lL
 | .slice _ _ _ h _=>h
 | _=>none
def Ti:Op->lL
 | .call c=>match c.callee with
  | .value f=>f
  | _=>.const (.bool true)
 | _=>.const (.bool true)
def Ly:Op->Array lL
 | .call c=>c.args
 | _=>#[]
def HE:Op->Array lI
 | .call c=>c.argTypes
 | _=>#[]
def Wo:Op->Nat
 | .buildSlice _ n _=>n
 | _=>0
def TC:Op->Array (Nat × lL)
 | .buildSlice _ _ p=>p
 | _=>#[]
def Yo (c:Cf) (j:Nat):Option SV:=Yr (Yk c).L (Yx (Yf c).op j)
def YD (tt:List (Nat × TD)) (t:lI):TD:=(Yg tt t).getD ⟨0,0,false,[],[],0,0,0,none,0,0⟩
def YB:Option SV->Nat
 | some (.c (.sl k)) | some (.c (.px k _)) | some (.c (.bp k _))=>k
 | _=>0
def XI:Option SV->Nat
 | some (.c (.px _ o)) | some (.c (.bp _ o))=>o
 | _=>0
def Uu:Option SV->lO
 | some (.c (.i k _))=>k
 | _=>.i64
def Ul:Option SV->SC
 | some (.c x)=>x
 | _=>.nil
def Uk:Option SV->List SC
 | some (.a cs)=>cs
 | _=>[]
def Ud:Option SV->SV
 | some v=>v
 | none=>.u
def Wr (v:Option SV):List SC:=((WH (Ud v)).getD [])
def ZjT:Option SV->Int
 | some (.c (.i _ n))=>n
 | _=>0
def Zl1:Option SV->be
 | some (.c (.s m))=>m
 | _=>⟨#[]⟩
def WT:Option MO->Bool
 | some (.own _ _ fr)=>fr
 | _=>false
def Xx:Option VF->Nat
 | some (.el k _)=>k
 | some (.vw k _ _ _)=>k
 | _=>0
structure SlF:Type 1 where
 {α:Type}
 R:kS α
 xs:List α
def LI (s:St):SC->Option SlF
 | .sl k=>match Yg s.M k with
  | some (.own R xs _)=>some ⟨R,xs⟩
  | _=>match Yg s.V k with
   | some (.sl R xs)=>some ⟨R,xs⟩
   | _=>none
 | _=>none
variable {α:Type}
theorem Zey {c:SC} {R:kS α} {xs:List α} (h:LI s c=some ⟨R,xs⟩):∃ k,c=.sl k/\(Yg s.V k=some (.sl R xs)\/∃ fr,Yg s.M k=some (.own R xs fr)):=by
 unfold LI at h;split at h
 ·rename_i k;refine ⟨k,rfl,?_⟩;split at h
  ·rename_i b;cases h;exact .inr ⟨_,b⟩
  ·split at h
   ·rename_i d;cases h;exact .inl d
   ·cases h
 ·cases h
theorem Zif {c:SC} {R:kS α} {xs:List α} (h:LI s c=some ⟨R,xs⟩):Uj X s R xs c:=by
 obtain ⟨k,rfl,h | ⟨fr,h⟩⟩:=Zey h
 ·exact Zub h
 ·exact ZlV h
def d1 (c:Cf) (v:SV):Dl:=⟨[(YQ c,v)],[],[],0⟩
theorem Xt {L:List (Nat × SV)} {v:SV} (h:(Yf c).dst=some (YQ c)) (b:L=[(YQ c,v)]):L.map (·.1)=(Yf c).dst.toList:=by rw [b,h];rfl
def hB (nt:Nat) (c:Cf):Bool:=VB c && aN (YQ c) nt
def Sn (tt:List (Nat × TD)) (sz:Nat) (c:Cf):Bool:=aF (YD tt (Yq (Yf c).op)).kd 6 && aF (YD tt (Yq (Yf c).op)).es sz
theorem Xl {b:Nat} (h:hB b c=true):VB c=true/\aN (YQ c) b=true:=by unfold hB at h;rwa [Zc] at h
theorem R6 {sz b:Nat} (h:Sn tt sz c=true) (d:aN (YQ c) b=true):(aN (YQ c) b && aF (YD tt (Yq (Yf c).op)).kd 6 && aF (YD tt (Yq (Yf c).op)).es sz)=true:=by unfold Sn at h;rw [Bool.and_assoc,h,d];rfl
def Zbw (s:St) (ys:List α) (c:SC):Option SlF × ULift.{1,0} (List α):=match c with
 | .nil=>(none,⟨ys⟩)
 | c=>(LI s c,⟨[]⟩)
def Zbx (R:kS α) (ys:List α) (c:SC):Option SlF × ULift.{1,0} (List α):=match c with
 | .nil=>(none,⟨[]⟩)
 | _=>(some ⟨R,ys⟩,⟨[]⟩)
variable {ys:List α}
theorem ZlX {R:kS α} {c:SC} (h:Zbw s ys c=Zbx R ys c):Uj X s R ys c:=by
 unfold Zbw at h;split at h
 ·have:=lj ULift.down (b9 h).2;have h:ys=[]:=this;rw [h];exact Zuc
 ·rename_i b;unfold Zbx at h;split at h
  ·exact (b rfl).elim
  ·exact Zif (b9 h).1
def P4 {R:kS α} (O:kX R) (V:Nat->Option VF):List α->List SC->List O.T
 | [],_=>[]
 | x::xs,cs=>O.lq V x (cs.take R.sz)::P4 O V xs (cs.drop R.sz)
def P5 {R:kS α} (O:kX R) (V:Nat->Option VF):List α->List SC->List O.T
 | [],_=>[]
 | x::xs,cs=>O.rq V x (cs.take R.sz)::P5 O V xs (cs.drop R.sz)
def P3 (sz:Nat):List α->List SC->List SC
 | [],cs=>cs
 | _::xs,cs=>P3 sz xs (cs.drop sz)
theorem Hr {R:kS α} {O:kX R} {V:Nat->Option VF}:∀ {xs:List α} {cs:List SC},P4 O V xs cs=P5 O V xs cs->P3 R.sz xs cs=[]->QE O V xs cs
 | [],_,_,h=>h
 | _::_,_,h,g=>⟨O.eqn (kR h).1,Hr (kR h).2 g⟩
def ZkD:Op->Bool
 | .binOp .neq _ _ _ _=>true
 | _=>false
def clF:Option SV->List Nat
 | some (.c (.cl _ fs _))=>fs
 | _=>[]
def clK:Option SV->List Nat
 | some (.c (.cl _ _ ks))=>ks
 | _=>[]
def Zod (s:St) (c:Ct) (l:List (Nat × SC)) (d:Nat):Dl :=
 ⟨[(d,W3 ⟨l,c.nk,s.nx⟩ c.res)],c.M1.filterMap fun p=>(Vf ⟨l,c.nk,s.nx⟩ p.1 p.2).map fun j=>(j,Th s ⟨l,c.nk,s.nx⟩ (Rq s ⟨l,c.nk,s.nx⟩ c) c.nk p.1 p.2),c.V1.map fun p=>((⟨l,c.nk,s.nx⟩:kj).sh p.1,p.2),c.nr-c.nk⟩
def dIx {R:kS α} (O:kX R) (e:α) (c:Cf):Dl:=⟨[(YQ c,.c (.px (Yk c).nx 0))],[],O.facts ((Yk c).nx+1) e++[((Yk c).nx,.pl (O.cells ((Yk c).nx+1) e))],1+O.nk⟩
def nIx {R:kS α} (O:kX R) (e:α) (c:Cf):Cf:=Xf (dIx O e c) c
variable {m:Int} {e:α}
theorem YK {R:kS α} {xs:List α} (lE:kU X.P tt) (O:kX R) (hi:idx xs m=some e) (k:Wc X (nIx O e c))
  (b:(hB X.fn.ntmps c,(Yf c).dst,(Yf c).op,Yo c 0,Yg (Yk c).V (YB (Yo c 0)),Yo c 1,Yg tt (Yq (Yf c).op),Sn tt R.sz c)=(true,some (YQ c),.indexAddr (Yq (Yf c).op) (Yx (Yf c).op 0) (Yx (Yf c).op 1),some (.c (.sl (YB (Yo c 0)))),some (.sl R xs),some (.c (.i (Uu (Yo c 1)) m)),some (YD tt (Yq (Yf c).op)),true):=by kernel_rfl):Wc X c:=by
 simp only [Zr] at b;have ⟨l,f,n,o,p,q,r,u⟩:=b;have ⟨v,x⟩:=Xl l;refine Wc.ev (d:=dIx O e c) v (Xt f rfl) (fun nk E0 F0 w0 n0 Z kz K g j h=>kV.ix (X:=X.var nk E0 F0 w0 n0 Z) O lE hi g j n f o p q r (R6 u x) ?_) k;have y:(dIx O e c).ap (Yk c)=⟨(YQ c,.c (.px (Yk c).nx 0))::(Yk c).L,(Yk c).M,O.facts ((Yk c).nx+1) e++((Yk c).nx,.pl (O.cells ((Yk c).nx+1) e))::(Yk c).V,(Yk c).nx+1+O.nk⟩:=by simp [dIx,Dl.ap,Nat.add_assoc]
 rw [<- y];exact h
def dIo (m:Int) (sz:Nat) (c:Cf):Dl:=⟨[(YQ c,.c (.px (Yk c).nx 0))],[],[((Yk c).nx,.el (YB (Yo c 0)) (m.toNat * sz))],1⟩
def nIo (m:Int) (sz:Nat) (c:Cf):Cf:=Xf (dIo m sz c) c
theorem Xg {xs:List α} (lE:kU X.P tt) (R:kS α) (hi:idx xs m=some e) (k:Wc X (nIo m R.sz c))
  (b:(hB X.fn.ntmps c,(Yf c).dst,(Yf c).op,Yo c 0,Yg (Yk c).M (YB (Yo c 0)),Yo c 1,Yg tt (Yq (Yf c).op),Sn tt R.sz c)=(true,some (YQ c),.indexAddr (Yq (Yf c).op) (Yx (Yf c).op 0) (Yx (Yf c).op 1),some (.c (.sl (YB (Yo c 0)))),some (.own R xs (WT (Yg (Yk c).M (YB (Yo c 0))))),some (.c (.i (Uu (Yo c 1)) m)),some (YD tt (Yq (Yf c).op)),true):=by kernel_rfl):Wc X c:=by simp only [Zr] at b;have ⟨l,f,n,o,p,q,r,u⟩:=b;have ⟨v,x⟩:=Xl l;refine Wc.ev (d:=dIo m R.sz c) v (Xt f rfl) (fun nk E0 F0 w0 n0 Z kz K g j h=>kV.ixo (X:=X.var nk E0 F0 w0 n0 Z) lE hi g j n f o p q r (R6 u x) h) k
def dLd {R:kS α} (O:kX R) (e:α) (tt:List (Nat × TD)) (c:Cf):Dl:=⟨[(YQ c,Ud (V7 (YD tt (Yq (Yf c).op)) (XI (Yo c 0)) (O.cells (Yk c).nx e)))],[],O.facts (Yk c).nx e,O.nk⟩
def nLd {R:kS α} (O:kX R) (e:α) (tt:List (Nat × TD)) (c:Cf):Cf:=Xf (dLd O e tt c) c
theorem XS {R:kS α} {xs:List α} (lE:kU X.P tt) (O:kX R) (hi:idx xs m=some e) (k:Wc X (nLd O e tt c))
  (b:(hB X.fn.ntmps c,(Yf c).dst,(Yf c).op,Yo c 0,Yg (Yk c).V (YB (Yo c 0)),Yg (Yk c).M (Xx (Yg (Yk c).V (YB (Yo c 0)))),Yg tt (Yq (Yf c).op),V7 (YD tt (Yq (Yf c).op)) (XI (Yo c 0)) (O.cells (Yk c).nx e))=(true,some (YQ c),.load (Yq (Yf c).op) (Yx (Yf c).op 0),some (.c (.px (YB (Yo c 0)) (XI (Yo c 0)))),some (.el (Xx (Yg (Yk c).V (YB (Yo c 0)))) (m.toNat * R.sz)),some (.own R xs (WT (Yg (Yk c).M (Xx (Yg (Yk c).V (YB (Yo c 0))))))),some (YD tt (Yq (Yf c).op)),some (Ud (V7 (YD tt (Yq (Yf c).op)) (XI (Yo c 0)) (O.cells (Yk c).nx e)))):=by kernel_rfl):Wc X c:=by simp only [Zr] at b;have ⟨j,f,l,n,o,p,q,r⟩:=b;have ⟨u,v⟩:=Xl j;refine Wc.ev (d:=dLd O e tt c) u (Xt f rfl) (fun nk E0 F0 w0 n0 Z kz K g i h=>kV.ldo (X:=X.var nk E0 F0 w0 n0 Z) O lE hi g i l f n o p q r v h) k
def dSt (R:kS α) (xs:List α) (m:Int) (e2:α) (fz:List Nat) (c:Cf):Dl:=⟨[],[((Xx (Yg (Yu (Yk c) fz).V (YB (Yr (Yu (Yk c) fz).L (Yx (Yf c).op 0))))),.own R (YA xs m e2) (WT (Yg (Yu (Yk c) fz).M (Xx (Yg (Yu (Yk c) fz).V (YB (Yr (Yu (Yk c) fz).L (Yx (Yf c).op 0))))))))],[],0⟩
def nSt (R:kS α) (xs:List α) (m:Int) (e2:α) (fz:List Nat) (c:Cf):Cf:=Xf ((dSt R xs m e2 fz c).fz (Yk c) fz) c
theorem WR {R:kS α} {xs:List α} (lE:kU X.P tt) (fz:List Nat) (O:kX R) (b:α) (hi:idx xs m=some e) (k:Wc X (nSt R xs m b fz c))
  (j:(VB c,(Yf c).dst,Ur (Yk c) fz,(Yf c).op,(Yr (Yu (Yk c) fz).L (Yx (Yf c).op 0)),Yg (Yu (Yk c) fz).V (YB (Yr (Yu (Yk c) fz).L (Yx (Yf c).op 0))),Yg (Yu (Yk c) fz).M (Xx (Yg (Yu (Yk c) fz).V (YB (Yr (Yu (Yk c) fz).L (Yx (Yf c).op 0))))),Yg tt (Yq (Yf c).op),(Yr (Yu (Yk c) fz).L (Yx (Yf c).op 1)),WH (Ud (Yr (Yu (Yk c) fz).L (Yx (Yf c).op 1))),O.lq (Yg (Yu (Yk c) fz).V) b ((O.cells (Yu (Yk c) fz).nx e).take (XI (Yr (Yu (Yk c) fz).L (Yx (Yf c).op 0)))++(Wr (Yr (Yu (Yk c) fz).L (Yx (Yf c).op 1)))++(O.cells (Yu (Yk c) fz).nx e).drop ((XI (Yr (Yu (Yk c) fz).L (Yx (Yf c).op 0)))+(Wr (Yr (Yu (Yk c) fz).L (Yx (Yf c).op 1))).length)),(aF (Wr (Yr (Yu (Yk c) fz).L (Yx (Yf c).op 1))).length (YD tt (Yq (Yf c).op)).sz && aY ((XI (Yr (Yu (Yk c) fz).L (Yx (Yf c).op 0)))+(Wr (Yr (Yu (Yk c) fz).L (Yx (Yf c).op 1))).length) R.sz && (aF (Wr (Yr (Yu (Yk c) fz).L (Yx (Yf c).op 1))).length R.sz || aF O.nk 0)))=(true,none,true,.store (Yq (Yf c).op) (Yx (Yf c).op 0) (Yx (Yf c).op 1),some (.c (.px (YB (Yr (Yu (Yk c) fz).L (Yx (Yf c).op 0))) (XI (Yr (Yu (Yk c) fz).L (Yx (Yf c).op 0))))),some (.el (Xx (Yg (Yu (Yk c) fz).V (YB (Yr (Yu (Yk c) fz).L (Yx (Yf c).op 0))))) (m.toNat * R.sz)),some (.own R xs (WT (Yg (Yu (Yk c) fz).M (Xx (Yg (Yu (Yk c) fz).V (YB (Yr (Yu (Yk c) fz).L (Yx (Yf c).op 0)))))))),some (YD tt (Yq (Yf c).op)),some (Ud (Yr (Yu (Yk c) fz).L (Yx (Yf c).op 1))),some (Wr (Yr (Yu (Yk c) fz).L (Yx (Yf c).op 1))),O.rq (Yg (Yu (Yk c) fz).V) b ((O.cells (Yu (Yk c) fz).nx e).take (XI (Yr (Yu (Yk c) fz).L (Yx (Yf c).op 0)))++(Wr (Yr (Yu (Yk c) fz).L (Yx (Yf c).op 1)))++(O.cells (Yu (Yk c) fz).nx e).drop ((XI (Yr (Yu (Yk c) fz).L (Yx (Yf c).op 0)))+(Wr (Yr (Yu (Yk c) fz).L (Yx (Yf c).op 1))).length)),true):=by kernel_rfl):Wc X c:=by simp only [Zr] at j;have ⟨p,l,q,r,u,v,x,y,z,f,g,i⟩:=j;have A:=p;refine Wc.evz (d:=dSt R xs m b fz c) fz A q (by rw [l];rfl) (fun nk E0 F0 w0 n0 Z kz K n o h=>kV.sto (X:=X.var nk E0 F0 w0 n0 Z) O lE b hi n o r l u v x y z f (O.eqn g) i h) k
def dSp {R:kS α} (O:kX R) (xs:List α) (m:Int) (e e2:α) (fz:List Nat) (c:Cf):Dl:=⟨[],[((Xx (Yg (Yu (Yk c) fz).V (YB (Yr (Yu (Yk c) fz).L (Yx (Yf c).op 0))))),.own R (YA xs m e2) (WT (Yg (Yu (Yk c) fz).M (Xx (Yg (Yu (Yk c) fz).V (YB (Yr (Yu (Yk c) fz).L (Yx (Yf c).op 0))))))))],O.facts (Yu (Yk c) fz).nx e,O.nk⟩
def nSp {R:kS α} (O:kX R) (xs:List α) (m:Int) (e e2:α) (fz:List Nat) (c:Cf):Cf:=Xf ((dSp O xs m e e2 fz c).fz (Yk c) fz) c
theorem RF {R:kS α} {xs:List α} (lE:kU X.P tt) (fz:List Nat) (O:kX R) (b:α) (hi:idx xs m=some e) (k:Wc X (nSp O xs m e b fz c))
  (j:(VB c,(Yf c).dst,Ur (Yk c) fz,(Yf c).op,(Yr (Yu (Yk c) fz).L (Yx (Yf c).op 0)),Yg (Yu (Yk c) fz).V (YB (Yr (Yu (Yk c) fz).L (Yx (Yf c).op 0))),Yg (Yu (Yk c) fz).M (Xx (Yg (Yu (Yk c) fz).V (YB (Yr (Yu (Yk c) fz).L (Yx (Yf c).op 0))))),Yg tt (Yq (Yf c).op),(Yr (Yu (Yk c) fz).L (Yx (Yf c).op 1)),WH (Ud (Yr (Yu (Yk c) fz).L (Yx (Yf c).op 1))),O.lq (Yg (O.facts (Yu (Yk c) fz).nx e++(Yu (Yk c) fz).V)) b ((O.cells (Yu (Yk c) fz).nx e).take (XI (Yr (Yu (Yk c) fz).L (Yx (Yf c).op 0)))++(Wr (Yr (Yu (Yk c) fz).L (Yx (Yf c).op 1)))++(O.cells (Yu (Yk c) fz).nx e).drop ((XI (Yr (Yu (Yk c) fz).L (Yx (Yf c).op 0)))+(Wr (Yr (Yu (Yk c) fz).L (Yx (Yf c).op 1))).length)),(aF (Wr (Yr (Yu (Yk c) fz).L (Yx (Yf c).op 1))).length (YD tt (Yq (Yf c).op)).sz && aY ((XI (Yr (Yu (Yk c) fz).L (Yx (Yf c).op 0)))+(Wr (Yr (Yu (Yk c) fz).L (Yx (Yf c).op 1))).length) R.sz))=(true,none,true,.store (Yq (Yf c).op) (Yx (Yf c).op 0) (Yx (Yf c).op 1),some (.c (.px (YB (Yr (Yu (Yk c) fz).L (Yx (Yf c).op 0))) (XI (Yr (Yu (Yk c) fz).L (Yx (Yf c).op 0))))),some (.el (Xx (Yg (Yu (Yk c) fz).V (YB (Yr (Yu (Yk c) fz).L (Yx (Yf c).op 0))))) (m.toNat * R.sz)),some (.own R xs (WT (Yg (Yu (Yk c) fz).M (Xx (Yg (Yu (Yk c) fz).V (YB (Yr (Yu (Yk c) fz).L (Yx (Yf c).op 0)))))))),some (YD tt (Yq (Yf c).op)),some (Ud (Yr (Yu (Yk c) fz).L (Yx (Yf c).op 1))),some (Wr (Yr (Yu (Yk c) fz).L (Yx (Yf c).op 1))),O.rq (Yg (O.facts (Yu (Yk c) fz).nx e++(Yu (Yk c) fz).V)) b ((O.cells (Yu (Yk c) fz).nx e).take (XI (Yr (Yu (Yk c) fz).L (Yx (Yf c).op 0)))++(Wr (Yr (Yu (Yk c) fz).L (Yx (Yf c).op 1)))++(O.cells (Yu (Yk c) fz).nx e).drop ((XI (Yr (Yu (Yk c) fz).L (Yx (Yf c).op 0)))+(Wr (Yr (Yu (Yk c) fz).L (Yx (Yf c).op 1))).length)),true):=by kernel_rfl):Wc X c:=by simp only [Zr] at j;have ⟨p,l,q,r,u,v,x,y,z,f,g,i⟩:=j;have A:=p;refine Wc.evz (d:=dSp O xs m e b fz c) fz A q (by rw [l];rfl) (fun nk E0 F0 w0 n0 Z kz K n o h=>kV.stp (X:=X.var nk E0 F0 w0 n0 Z) O lE b hi n o r l u v x y z f (O.eqn g) i h) k
def dAp (R:kS α) (zs:List α) (c:Cf):Dl:=⟨[(YQ c,.c (.sl (Yk c).nx))],[((Yk c).nx,.own R zs (WT (Yg (Yk c).M (YB (Yo c 0))))),((YB (Yo c 0)),.gone)],[],1⟩
def nAp (R:kS α) (zs:List α) (c:Cf):Cf:=Xf (dAp R zs c) c
variable {zs:List α}
theorem Xv {xs:List α} (lE:kU X.P tt) (R:kS α) (g:Y7 xs ys=some zs) (k:Wc X (nAp R zs c))
  (e:(hB X.fn.ntmps c,(Yf c).dst,(Yf c).op,Yo c 0,Yg (Yk c).M (YB (Yo c 0)),Yo c 1,Yg tt (Yq (Yf c).op),Yg tt (Xz (Yf c).op),(aF (YD tt (Yq (Yf c).op)).kd 6 && (aF (YD tt (Xz (Yf c).op)).kd 6 || aF (YD tt (Xz (Yf c).op)).kd 2) && aF (YD tt (Yq (Yf c).op)).es R.sz && aY (YD tt (Yq (Yf c).op)).eb 32768),Zbw (Yk c) ys (Ul (Yo c 1)))=(true,some (YQ c),.call { callee:=.builtin .append,args:=#[Yx (Yf c).op 0,Yx (Yf c).op 1],argTypes:=#[Yq (Yf c).op,Xz (Yf c).op] },some (.c (.sl (YB (Yo c 0)))),some (.own R xs (WT (Yg (Yk c).M (YB (Yo c 0))))),some (.c (Ul (Yo c 1))),some (YD tt (Yq (Yf c).op)),some (YD tt (Xz (Yf c).op)),true,Zbx R ys (Ul (Yo c 1))):=by kernel_rfl):Wc X c:=by simp only [Zr] at e;have ⟨l,f,m,n,o,p,q,r,u,b⟩:=e;have ⟨v,x⟩:=Xl l;refine Wc.ev (d:=dAp R zs c) v (Xt f rfl) (fun nk E0 F0 w0 n0 Z kz K i j h=>kV.app (X:=X.var nk E0 F0 w0 n0 Z) lE g (ZlX b) i j m f n o p q r (by rw [x];simpa using u) h) k
def dAn (R:kS α) (zs:List α) (c:Cf):Dl:=⟨[(YQ c,.c (.sl (Yk c).nx))],[((Yk c).nx,.own R zs true)],[],1⟩
def nAn (R:kS α) (zs:List α) (c:Cf):Cf:=Xf (dAn R zs c) c
theorem eAn (lE:kU X.P tt) (R:kS α) (f:Y7 [] ys=some zs) (k:Wc X (nAn R zs c))
  (b:(hB X.fn.ntmps c,(Yf c).dst,(Yf c).op,Yo c 0,Yo c 1,Yg tt (Yq (Yf c).op),Yg tt (Xz (Yf c).op),(aF (YD tt (Yq (Yf c).op)).kd 6 && (aF (YD tt (Xz (Yf c).op)).kd 6 || aF (YD tt (Xz (Yf c).op)).kd 2) && aF (YD tt (Yq (Yf c).op)).es R.sz && aY (YD tt (Yq (Yf c).op)).eb 32768),Zbw (Yk c) ys (Ul (Yo c 1)))=(true,some (YQ c),.call { callee:=.builtin .append,args:=#[Yx (Yf c).op 0,Yx (Yf c).op 1],argTypes:=#[Yq (Yf c).op,Xz (Yf c).op] },some (.c .nil),some (.c (Ul (Yo c 1))),some (YD tt (Yq (Yf c).op)),some (YD tt (Xz (Yf c).op)),true,Zbx R ys (Ul (Yo c 1))):=by kernel_rfl):Wc X c:=by simp only [Zr] at b;have ⟨j,e,l,m,n,o,p,q,r⟩:=b;have ⟨u,v⟩:=Xl j;refine Wc.ev (d:=dAn R zs c) u (Xt e rfl) (fun nk E0 F0 w0 n0 Z kz K g i h=>kV.appN (X:=X.var nk E0 F0 w0 n0 Z) R lE f (ZlX r) g i l e m n o p (by rw [v];simpa using q) h) k
def dBs (R:kS α) (xs:List α) (fz:List Nat) (c:Cf):Dl:=⟨[(YQ c,.c (.sl (Yu (Yk c) fz).nx))],[((Yu (Yk c) fz).nx,.own R xs true)],[],1⟩
def nBs (R:kS α) (xs:List α) (fz:List Nat) (c:Cf):Cf:=Xf ((dBs R xs fz c).fz (Yk c) fz) c
theorem YX {R:kS α} (lE:kU X.P tt) (fz:List Nat) (O:kX R) (xs:List α) (k:Wc X (nBs R xs fz c))
  (e:(hB X.fn.ntmps c,(Yf c).dst,Ur (Yk c) fz,(Yf c).op,Yg tt (Yq (Yf c).op),Yg tt (YD tt (Yq (Yf c).op)).el,(WZ (WC (YD tt (Yq (Yf c).op)).es (Wo (Yf c).op)) (Yu (Yk c) fz).L (TC (Yf c).op).toList (Vc (YD tt (YD tt (Yq (Yf c).op)).el).z (Wo (Yf c).op * (YD tt (Yq (Yf c).op)).es))),P4 O (Yg (Yu (Yk c) fz).V) xs ((WZ (WC (YD tt (Yq (Yf c).op)).es (Wo (Yf c).op)) (Yu (Yk c) fz).L (TC (Yf c).op).toList (Vc (YD tt (YD tt (Yq (Yf c).op)).el).z (Wo (Yf c).op * (YD tt (Yq (Yf c).op)).es))).getD []),P3 R.sz xs ((WZ (WC (YD tt (Yq (Yf c).op)).es (Wo (Yf c).op)) (Yu (Yk c) fz).L (TC (Yf c).op).toList (Vc (YD tt (YD tt (Yq (Yf c).op)).el).z (Wo (Yf c).op * (YD tt (Yq (Yf c).op)).es))).getD []),(aF (YD tt (Yq (Yf c).op)).kd 6 && aF (YD tt (Yq (Yf c).op)).es R.sz && aF xs.length (Wo (Yf c).op) && aY (Wo (Yf c).op * (YD tt (Yq (Yf c).op)).es) 16777216 && !(YD tt (YD tt (Yq (Yf c).op)).el).z.isEmpty))=(true,some (YQ c),true,.buildSlice (Yq (Yf c).op) (Wo (Yf c).op) (TC (Yf c).op),some (YD tt (Yq (Yf c).op)),some (YD tt (YD tt (Yq (Yf c).op)).el),some ((WZ (WC (YD tt (Yq (Yf c).op)).es (Wo (Yf c).op)) (Yu (Yk c) fz).L (TC (Yf c).op).toList (Vc (YD tt (YD tt (Yq (Yf c).op)).el).z (Wo (Yf c).op * (YD tt (Yq (Yf c).op)).es))).getD []),P5 O (Yg (Yu (Yk c) fz).V) xs ((WZ (WC (YD tt (Yq (Yf c).op)).es (Wo (Yf c).op)) (Yu (Yk c) fz).L (TC (Yf c).op).toList (Vc (YD tt (YD tt (Yq (Yf c).op)).el).z (Wo (Yf c).op * (YD tt (Yq (Yf c).op)).es))).getD []),[],true):=by kernel_rfl):Wc X c:=by simp only [Zr] at e;have ⟨j,f,l,m,n,o,p,q,r,b⟩:=e;have ⟨u,v⟩:=Xl j;refine Wc.evz (d:=dBs R xs fz c) fz u l (Xt f rfl) (fun nk E0 F0 w0 n0 Z kz K g i h=>kV.bs (X:=X.var nk E0 F0 w0 n0 Z) O lE xs g i m f n o p (Hr q r) (by rw [v];simpa using b) h) k
def dMk (R:kS α) (xs:List α) (c:Cf):Dl:=⟨[(YQ c,.c (.sl (Yk c).nx))],[((Yk c).nx,.own R xs true)],[],1⟩
def nMk (R:kS α) (xs:List α) (c:Cf):Cf:=Xf (dMk R xs c) c
theorem RD {R:kS α} {z:α} {l:Int} {xs:List α} (lE:kU X.P tt) (O:kX R) (g:W8 z l m=some xs) (k:Wc X (nMk R xs c))
  (e:(hB X.fn.ntmps c,(Yf c).dst,(Yf c).op,Yg tt (Yq (Yf c).op),Yg tt (YD tt (Yq (Yf c).op)).el,Yo c 0,Yo c 1,P4 O (Yg (Yk c).V) [z] (YD tt (YD tt (Yq (Yf c).op)).el).z,P3 R.sz [z] (YD tt (YD tt (Yq (Yf c).op)).el).z,(aF (YD tt (Yq (Yf c).op)).kd 6 && aF (YD tt (Yq (Yf c).op)).es R.sz && aY (YD tt (Yq (Yf c).op)).eb 32768 && !(YD tt (YD tt (Yq (Yf c).op)).el).z.isEmpty))=(true,some (YQ c),.makeSlice (Yq (Yf c).op) (Yx (Yf c).op 0) (Yx (Yf c).op 1),some (YD tt (Yq (Yf c).op)),some (YD tt (YD tt (Yq (Yf c).op)).el),some (.c (.i (Uu (Yo c 0)) l)),some (.c (.i (Uu (Yo c 1)) m)),P5 O (Yg (Yk c).V) [z] (YD tt (YD tt (Yq (Yf c).op)).el).z,[],true):=by kernel_rfl):Wc X c:=by simp only [Zr] at e;have ⟨o,f,p,q,r,u,v,x,y,b⟩:=e;have ⟨A,C⟩:=Xl o;refine Wc.ev (d:=dMk R xs c) A (Xt f rfl) (fun nk E0 F0 w0 n0 Z kz K j n h=>kV.mk (X:=X.var nk E0 F0 w0 n0 Z) O lE z g j n p f q r u v (Hr x y) (by rw [C];simpa using b) h) k
def dIs (R:kS α) (zs:List α) (c:Cf):Dl:=⟨[(YQ c,.c (.sl (Yk c).nx))],[],[((Yk c).nx,.sl R zs)],1⟩
def nIs (R:kS α) (zs:List α) (c:Cf):Cf:=Xf (dIs R zs c) c
variable {hi lo:Option Int}
theorem G6 {xs:List α} (lE:kU X.P tt) (R:kS α) (i:lsl xs lo hi=some zs) (k:Wc X (nIs R zs c))
    (f:(hB X.fn.ntmps c,(Yf c).dst,(Yf c).op,Yg tt (Yq (Yf c).op),Yo c 0,Yg (Yk c).V (YB (Yo c 0)),Wt (Yk c).L (UV (Yf c).op),Wt (Yk c).L (US (Yf c).op),((Wt (Yk c).L (UV (Yf c).op)).getD none).map (·.2),((Wt (Yk c).L (US (Yf c).op)).getD none).map (·.2),Sn tt R.sz c)=(true,some (YQ c),.slice (Yq (Yf c).op) (Yx (Yf c).op 0) (UV (Yf c).op) (US (Yf c).op) none,some (YD tt (Yq (Yf c).op)),some (.c (.sl (YB (Yo c 0)))),some (.sl R xs),some ((Wt (Yk c).L (UV (Yf c).op)).getD none),some ((Wt (Yk c).L (US (Yf c).op)).getD none),lo,hi,true):=by kernel_rfl):Wc X c:=by simp only [Zr] at f;have ⟨m,g,n,o,p,q,r,u,v,b,e⟩:=f;have ⟨x,y⟩:=Xl m;refine Wc.ev (d:=dIs R zs c) x (Xt g rfl) (fun nk E0 F0 w0 n0 Z kz K j l h=>kV.isl (X:=X.var nk E0 F0 w0 n0 Z) lE (by rw [v,b];exact i) j l n g o p q r u (R6 e y) h) k
def dVw (lo hi:Option Int) (sz:Nat) (c:Cf):Dl:=⟨[(YQ c,.c (.sl (Yk c).nx))],[],[((Yk c).nx,.vw (YB (Yo c 0)) lo hi sz)],1⟩
def nVw (lo hi:Option Int) (sz:Nat) (c:Cf):Cf:=Xf (dVw lo hi sz c) c
theorem VM {xs:List α} (lE:kU X.P tt) (R:kS α) (j:lsl xs lo hi=some zs) (k:Wc X (nVw lo hi R.sz c))
    (f:(hB X.fn.ntmps c,(Yf c).dst,(Yf c).op,Yg tt (Yq (Yf c).op),Yo c 0,Yg (Yk c).M (YB (Yo c 0)),Wt (Yk c).L (UV (Yf c).op),Wt (Yk c).L (US (Yf c).op),((Wt (Yk c).L (UV (Yf c).op)).getD none).map (·.2),((Wt (Yk c).L (US (Yf c).op)).getD none).map (·.2),Sn tt R.sz c)=(true,some (YQ c),.slice (Yq (Yf c).op) (Yx (Yf c).op 0) (UV (Yf c).op) (US (Yf c).op) none,some (YD tt (Yq (Yf c).op)),some (.c (.sl (YB (Yo c 0)))),some (.own R xs (WT (Yg (Yk c).M (YB (Yo c 0))))),some ((Wt (Yk c).L (UV (Yf c).op)).getD none),some ((Wt (Yk c).L (US (Yf c).op)).getD none),lo,hi,true):=by kernel_rfl):Wc X c:=by simp only [Zr] at f;have ⟨n,g,o,p,q,r,u,v,i,b,e⟩:=f;have ⟨x,y⟩:=Xl n;refine Wc.ev (d:=dVw lo hi R.sz c) x (Xt g rfl) (fun nk E0 F0 w0 n0 Z kz K l m h=>kV.vw (X:=X.var nk E0 F0 w0 n0 Z) lE (by rw [i,b];exact j) l m o g p q r u v (R6 e y) (by rw [i,b];exact h)) k
def dSs (z:be) (c:Cf):Dl:=d1 c (.c (.s z))
def nSs (z:be) (c:Cf):Cf:=Xf (dSs z c) c
variable {b:be}
theorem Uo {z:be} (lE:kU X.P tt) (i:ssl b lo hi=some z) (k:Wc X (nSs z c))
    (f:(hB X.fn.ntmps c,(Yf c).dst,(Yf c).op,Yg tt (Yq (Yf c).op),aF (YD tt (Yq (Yf c).op)).kd 2,Yo c 0,Wt (Yk c).L (UV (Yf c).op),Wt (Yk c).L (US (Yf c).op),((Wt (Yk c).L (UV (Yf c).op)).getD none).map (·.2),((Wt (Yk c).L (US (Yf c).op)).getD none).map (·.2))=(true,some (YQ c),.slice (Yq (Yf c).op) (Yx (Yf c).op 0) (UV (Yf c).op) (US (Yf c).op) none,some (YD tt (Yq (Yf c).op)),true,some (.c (.s b)),some ((Wt (Yk c).L (UV (Yf c).op)).getD none),some ((Wt (Yk c).L (US (Yf c).op)).getD none),lo,hi):=by kernel_rfl):Wc X c:=by simp only [Zr] at f;have ⟨m,g,n,o,p,q,r,u,v,e⟩:=f;have ⟨x,y⟩:=Xl m;refine Wc.ev (d:=dSs z c) x (Xt g rfl) (fun nk E0 F0 w0 n0 Z kz K j l h=>kV.ssl (X:=X.var nk E0 F0 w0 n0 Z) lE (by rw [v,e];exact i) j l n g o p q r u y h) k
def dSx (z:Int) (c:Cf):Dl:=d1 c (.c (.i .u8 z))
def nSx (z:Int) (c:Cf):Cf:=Xf (dSx z c) c
theorem Wx {z:Int} (lE:kU X.P tt) (g:XL b m=some z) (k:Wc X (nSx z c))
  (e:(hB X.fn.ntmps c,(Yf c).dst,(Yf c).op,Yg tt (Yq (Yf c).op),aF (YD tt (Yq (Yf c).op)).kd 2,Yo c 0,Yo c 1)=(true,some (YQ c),.index (Yq (Yf c).op) (Yx (Yf c).op 0) (Yx (Yf c).op 1),some (YD tt (Yq (Yf c).op)),true,some (.c (.s b)),some (.c (.i (Uu (Yo c 1)) m))):=by kernel_rfl):Wc X c:=by simp only [Zr] at e;have ⟨n,f,o,p,q,r,u⟩:=e;have ⟨v,x⟩:=Xl n;refine Wc.ev (d:=dSx z c) v (Xt f rfl) (fun nk E0 F0 w0 n0 Z kz K j l h=>kV.sx (X:=X.var nk E0 F0 w0 n0 Z) lE g j l o f p q r u x h) k
def dCa (z:be) (c:Cf):Dl:=d1 c (.c (.s z))
def nCa (z:be) (c:Cf):Cf:=Xf (dCa z c) c
theorem Wk {a z:be} (g:XR a b=some z) (k:Wc X (nCa z c))
  (e:(hB X.fn.ntmps c,(Yf c).dst,(Yf c).op,Yo c 0,Yo c 1)=(true,some (YQ c),.binOp .add (Yq (Yf c).op) (Yx (Yf c).op 0) (Yx (Yf c).op 1) (Xz (Yf c).op),some (.c (.s a)),some (.c (.s b))):=by kernel_rfl):Wc X c:=by simp only [Zr] at e;have ⟨l,f,m,n,o⟩:=e;have ⟨p,q⟩:=Xl l;refine Wc.ev (d:=dCa z c) p (Xt f rfl) (fun nk E0 F0 w0 n0 Z kz K i j h=>kV.cat (X:=X.var nk E0 F0 w0 n0 Z) g i j m f n o q h) k
def dBi (ik:lO) (z:Int) (c:Cf):Dl:=d1 c (.c (.i ik z))
def nBi (ik:lO) (z:Int) (c:Cf):Cf:=Xf (dBi ik z c) c
theorem WQ {op:BinOp} {ik:lO} {b z:Int} (g:XN op ik m b=some z) (k:Wc X (nBi ik z c))
  (e:(hB X.fn.ntmps c,(Yf c).dst,(Yf c).op,Yo c 0,Yo c 1,(Za1 op || decide (ik=Uu (Yo c 1))))=(true,some (YQ c),.binOp op (Yq (Yf c).op) (Yx (Yf c).op 0) (Yx (Yf c).op 1) (Xz (Yf c).op),some (.c (.i ik m)),some (.c (.i (Uu (Yo c 1)) b)),true):=by kernel_rfl):Wc X c:=by simp only [Zr] at e;have ⟨n,f,o,p,q,r⟩:=e;have ⟨u,v⟩:=Xl n;refine Wc.ev (d:=dBi ik z c) u (Xt f rfl) (fun nk E0 F0 w0 n0 Z kz K j l h=>kV.bin (X:=X.var nk E0 F0 w0 n0 Z) g j l o f p q r v h) k
def dEq (P:lK) (c:Cf):Dl:=d1 c (.c (.b (bif ZkD (Yf c).op then !((VN P 20 (Yq (Yf c).op) (Uk (Yo c 0)) (Uk (Yo c 1))).getD false) else (VN P 20 (Yq (Yf c).op) (Uk (Yo c 0)) (Uk (Yo c 1))).getD false)))
def nEq (P:lK) (c:Cf):Cf:=Xf (dEq P c) c
theorem eEq  (k:Wc X (nEq X.P c))
  (b:(hB X.fn.ntmps c,(Yf c).dst,Wh X.P (Yq (Yf c).op),(VN X.P 20 (Yq (Yf c).op) (Uk (Yo c 0)) (Uk (Yo c 1))),X.P.eqGuardType X.P.depth (Yq (Yf c).op),(Yf c).op,Yo c 0,Yo c 1)=(true,some (YQ c),true,some ((VN X.P 20 (Yq (Yf c).op) (Uk (Yo c 0)) (Uk (Yo c 1))).getD false),false,.binOp (bif ZkD (Yf c).op then .neq else .eql) (Yq (Yf c).op) (Yx (Yf c).op 0) (Yx (Yf c).op 1) (Xz (Yf c).op),some (.a (Uk (Yo c 0))),some (.a (Uk (Yo c 1)))):=by kernel_rfl):Wc X c:=by simp only [Zr] at b;have ⟨i,e,j,l,m,n,o,p⟩:=b;have ⟨q,r⟩:=Xl i;refine Wc.ev (d:=dEq X.P c) q (Xt e rfl) (fun nk E0 F0 w0 n0 Z kz K f g h=>kV.eqa (X:=X.var nk E0 F0 w0 n0 Z) (Zpm j l) m f g n e o p r h) k
def dCb (ct:Ct) (l:List (Nat × SC)) (fz:List Nat) (c:Cf):Dl:=Zod (Yu (Yk c) fz) ct l (YQ c)
def nCb (ct:Ct) (l:List (Nat × SC)) (fz:List Nat) (c:Cf):Cf:=Xf ((dCb ct l fz c).fz (Yk c) fz) c
theorem Ws {f:lN} {b:Ct} (m:Fn X.P f b) (fz:List Nat) (l:List (Nat × SC)) (e:List Nat) (g:e=[]\/(b.V1=[]/\UP b.M1)) (k:Wc X (nCb b l fz c))
  (i:(hB X.fn.ntmps c,(Yf c).dst,Ur (Yk c) fz,(Yf c).op,Yr (Yu (Yk c) fz).L (Ti (Yf c).op),(Up (Yu (Yk c) fz).L (Ly (Yf c).op).toList).map (fun n=>Qx (clF (Yr (Yu (Yk c) fz).L (Ti (Yf c).op)))++n++Qx (clK (Yr (Yu (Yk c) fz).L (Ti (Yf c).op)))),b.V0.map (fun p=>PH (Yu (Yk c) fz) ⟨l,b.nk,(Yu (Yk c) fz).nx⟩ e p.1 p.2),b.M0.map (fun p=>W0 (Yu (Yk c) fz) ⟨l,b.nk,(Yu (Yk c) fz).nx⟩ p.1 p.2),LB (Yu (Yk c) fz) b l e)=(true,some (YQ c),true,.call { callee:=.value (Ti (Yf c).op),args:=Ly (Yf c).op,argTypes:=HE (Yf c).op },some (.c (.cl f (clF (Yr (Yu (Yk c) fz).L (Ti (Yf c).op))) (clK (Yr (Yu (Yk c) fz).L (Ti (Yf c).op))))),some (b.args.map (W3 ⟨l,b.nk,(Yu (Yk c) fz).nx⟩)),b.V0.map (fun p=>some p.2),b.M0.map (fun p=>some (Vg ⟨l,b.nk,(Yu (Yk c) fz).nx⟩ p.2)),true):=by kernel_rfl):Wc X c:=by simp only [Zr] at i;have ⟨r,j,u,v,x,y,z,A,C⟩:=i;have ⟨D,G⟩:=Xl r;refine Wc.evz (d:=dCb b l fz c) fz D u (Xt j rfl) (fun nk E0 F0 w0 n0 Z kz K o q h=>kV.callc (X:=X.var nk E0 F0 w0 n0 Z) m l e o q v j G x y z A g C h) k
theorem Yl {f:lN} {b:Ct} (d:Fn X.P f b) (fz:List Nat) (l:List (Nat × SC)) (k:Wc X (nCb b l fz c))
  (e:(hB X.fn.ntmps c,(Yf c).dst,Ur (Yk c) fz,(Yf c).op,Yr (Yu (Yk c) fz).L (Ti (Yf c).op),(Up (Yu (Yk c) fz).L (Ly (Yf c).op).toList).map (fun g=>Qx (clF (Yr (Yu (Yk c) fz).L (Ti (Yf c).op)))++g++Qx (clK (Yr (Yu (Yk c) fz).L (Ti (Yf c).op)))),b.V0.map (fun p=>PH (Yu (Yk c) fz) ⟨l,b.nk,(Yu (Yk c) fz).nx⟩ [] p.1 p.2),b.M0.map (fun p=>W0 (Yu (Yk c) fz) ⟨l,b.nk,(Yu (Yk c) fz).nx⟩ p.1 p.2),LB (Yu (Yk c) fz) b l [])=(true,some (YQ c),true,.call { callee:=.value (Ti (Yf c).op),args:=Ly (Yf c).op,argTypes:=HE (Yf c).op },some (.c (.cl f (clF (Yr (Yu (Yk c) fz).L (Ti (Yf c).op))) (clK (Yr (Yu (Yk c) fz).L (Ti (Yf c).op))))),some (b.args.map (W3 ⟨l,b.nk,(Yu (Yk c) fz).nx⟩)),b.V0.map (fun p=>some p.2),b.M0.map (fun p=>some (Vg ⟨l,b.nk,(Yu (Yk c) fz).nx⟩ p.2)),true):=by kernel_rfl):Wc X c:=Ws d fz l [] (.inl rfl) k e
end
def Cf.isC:Cf->Bool
 | .co _ _=>true
 | _=>false
def Cf.itm:Cf->List Item
 | .co k _=>k
 | _=>[]
section
variable {X:kl} {tt:List (Nat × TD)}
variable {c:Cf}
theorem Wc.co (h:c.isC=true) (k:WP X c.itm c.st):Wc X c:=by
 cases c with
 | co _ _=>exact ⟨k⟩
 | rg _ _ _ _ _=>cases h
 | no=>cases h
def TE:Cf->Nat
 | .co (.code (.cond (.tmp d) _ _)::_) _=>d
 | .rg _ ops i _ _=>match ops[i]? with
  | some o=>match o.guard with
   | some (j,_)=>match ops[j]? with
    | some oj=>oj.dst.getD 0
    | none=>0
   | none=>0
  | none=>0
 | _=>0
def gjC (c:Cf):Nat:=match (Yf c).guard with
 | some (j,_)=>j
 | none=>0
def P9:Cf->Option (List (Nat × SV))
 | .rg (some q) ops i k s=>some (Xb q.2.2 (gjC (.rg (some q) ops i k s))).dL
 | _=>none
def Mc (b:Bool):Cf->Option (List (Nat × SV))
 | .rg (some q) ops i k s=>some [(TE (.rg (some q) ops i k s),.c (.b b))]
 | _=>none
def setL (d:Nat) (b:Bool) (s:St):St:=⟨(d,.c (.b b))::s.L,s.M,s.V,s.nx⟩
def DH (j d:Nat) (b:Bool) (es:List Ent):List Ent:=es.set j { Xb es j with dL:=[(d,.c (.b b))] }
def Sl (t:Bool):Cf->Cf
 | .co k s=>.co k (setL (TE (.co k s)) t s)
 | .rg none ops i k s=>.rg none ops i k (setL (TE (.rg none ops i k s)) t s)
 | .rg (some q) ops i k s=>.rg (some (q.1,q.2.1,DH (gjC (.rg (some q) ops i k s)) (TE (.rg (some q) ops i k s)) t q.2.2)) ops i k (setL (TE (.rg (some q) ops i k s)) t s)
 | .no=>.no
theorem ZtL {j d:Nat} {b:Bool} {es:List Ent} (h:(Xb es j).dL=[(d,.c (.b b))]):DH j d b es=es:=by
 unfold DH;rw [<- h];show es.set j (Xb es j)=es;unfold Xb;by_cases e:j < es.length
 ·rw [show es.getD j Zjx=es[j] by simp [List.getD,e],List.set_getElem_self]
 ·exact List.set_eq_of_length_le (ck.1 e)
theorem eK {b t:Bool} (K:b=t) (k:Wc X (Sl t c)) (g:(Yg c.st.L (TE c),P9 c)=(some (.c (.b b)),Mc b c):=by kernel_rfl):Wc X c:=by
 subst K;have ⟨d,n⟩:=b9 g;cases c with
 | no=>exact k.1.elim
 | co f s=>exact ⟨fun E F w a h=>k.1 E F w a (ki.setL0 h d rfl trivial)⟩
 | rg m ops i f s =>
  cases m with
  | none=>exact ⟨kV.kb _ rfl d k.1⟩
  | some q =>
   refine ⟨fun j l=>?_⟩;have e:=ZtL (Zm n);have k:AllLS X ops 0 (DH _ _ _ q.2.2)->(DH _ _ _ q.2.2).length=i->WP X (.code (.region q.1 ops true)::f) q.2.1:=k.1;rw [e] at k;exact k j l
theorem wa (lE:kU X.P tt) (n:Nat) (k:Wc X (Wm tt X.fn.ntmps n c)):Wc X c:=ZhD lE n k
def ctS (c:Cf) (s:St):Cf:=.co c.kk s
theorem YE {σ:Type} (J:σ->St) (Q:σ->Prop) (d:∀ b,Q b->Wc X (ctS c (J b))) (h:(∀ b,Q b->WP X c.kk (J b))->Wc X c):Wc X c:=h fun b e=>(d b e).1
def Tt (c:Cf):Code:=match c with
 | .co (.code (.loop x)::_) _=>x
 | _=>.skip
def lpS (c:Cf) (s:St):Cf:=.co (.code (Tt c)::.inLoop (Tt c)::c.kk) s
def lpK (c:Cf):List Item:=.inLoop (Tt c)::c.kk
def SZ (c:Cf):List Item:=.code (.loop (Tt c))::c.kk
theorem YO {σ ρ:Type} {r:ρ} (H:σ->St) (p:Nat->σ->Option ρ) (f:∀ b,p 0 b=none)
  (e:∀ n,(∀ b,p n b=some r->WP X (lpK c) (H b))->∀ b,p (n+1) b=some r->Wc X (lpS c (H b)))
  (h:(∀ n b,p n b=some r->WP X (SZ c) (H b))->Wc X c):Wc X c:=by
 have key:∀ n b,p n b=some r->WP X (.code (Tt c)::.inLoop (Tt c)::c.kk) (H b):=by
  intro n;induction n with
  | zero=>intro b d;rw [f] at d;cases d
  | succ n i=>exact fun b g=>(e n (fun b d=>WP.inLoop (i b d)) b g).1
 exact h fun n b d=>WP.loop (key n b d)
theorem Yi {t:St} {lB:List Item} (l:List (Nat × SC)) (k:WP X lB t)
    (b:(c.isC,c.itm,t.L.map (fun p=>Yg c.st.L p.1),t.V.map (fun p=>Uq c.st ⟨l,0,0⟩ p.1 p.2),t.M.map (fun p=>W0 c.st ⟨l,0,0⟩ p.1 p.2),
        (t.L.all (fun p=>Ua ⟨l,0,0⟩ p.2) && XK (t.M.filterMap fun p=>XT ⟨l,0,0⟩ p.1 p.2) && XK (t.M.map (·.1)) && Qb t.L t.M t.V t.nx && l.all (fun p=>aY X.nk p.1 && p.2.kbb c.st.nx) && aY X.nk t.nx)) =
      (true,lB,t.L.map (fun p=>some (W3 ⟨l,0,0⟩ p.2)),t.V.map (fun p=>some p.2),t.M.map (fun p=>some (Vg ⟨l,0,0⟩ p.2)),true):=by kernel_rfl):Wc X c:=by simp only [Zr] at b;have ⟨d,e,f,g,h,i⟩:=b;refine Wc.co d ?_;rw [e];exact WP.sub l k f g h i
def W7 (f:St->St):Cf->Cf
 | .co k s=>.co k (f s)
 | .rg none ops i k s=>.rg none ops i k (f s)
 | _=>.no
theorem Vz {f:St->St} (h:∀ E F w a,ki X c.st E F w a->∃ b d,ki X (f c.st) b d w a) (k:Wc X (W7 f c)):Wc X c:=by
 cases c with
 | no=>exact k.1.elim
 | co g s=>exact ⟨fun E F w a e=>let ⟨b,d,hs'⟩:=h E F w a e;k.1 b d w a hs'⟩
 | rg m ops i g s =>
  cases m with
  | none=>exact ⟨fun E F w a e=>let ⟨b,d,hs'⟩:=h E F w a e;k.1 b d w a hs'⟩
  | some q=>exact k.1.elim
theorem Vn (fz:List Nat) (k:Wc X (W7 (fun s=>Yu s fz) c)) (b:Ur c.st fz=true:=by kernel_rfl):Wc X c :=
 Vz (fun _ _ _ _ d=>let ⟨F',h⟩:=Ze5 d b;⟨_,F',h⟩) k
theorem eSl {α:Type} (R:kS α) {xs zs:List α} {l h:Option Int} (K:Nat) (d:lsl xs l h=some zs)
  (k:Wc X (W7 (fun s=>⟨s.L,(K,.own R zs (WT (Yg s.M (Xx (Yg s.V K)))))::(Xx (Yg s.V K),.gone)::s.M,s.V,s.nx⟩) c))
  (b:(Yg c.st.V K,Yg c.st.M (Xx (Yg c.st.V K)),(Yg c.st.M K).isNone)=(some (.vw (Xx (Yg c.st.V K)) l h R.sz),some (.own R xs (WT (Yg c.st.M (Xx (Yg c.st.V K))))),true):=by kernel_rfl):Wc X c:=by simp only [Zr,Option.isNone_iff_eq_none] at b;have ⟨f,g,i⟩:=b;exact Vz (fun E F w a e=>⟨E,F,e.settle d f g i⟩) k
theorem eNo {α:Type} (R:kS α) (d:Nat) (k:Wc X (W7 (fun s=>⟨(d,.c (.sl s.nx))::s.L,(s.nx,.own R [] true)::s.M,s.V,s.nx+1⟩) c))
  (b:Yg c.st.L d=some (.c .nil):=by kernel_rfl):Wc X c:=Vz (fun E F w a e=>let ⟨E',h⟩:=e.nown R b;⟨E',F,h⟩) k
def DD:Cf->Bool
 | .co [] _=>true
 | .co (.code .ret::_) _=>true
 | _=>false
theorem Xh {P:lK} {f:lN} {fn:Func} {b:Ct} {E0:km} {F0:YI} {w0:lG} (lE:kU P tt) (e:P.funcs[f]? = some fn) (l:List (Nat × SC))
    (g:(DD c,S6 tt c.st fn.results.toList,b.V1.map (fun p=>Uq c.st ⟨l,0,0⟩ p.1 p.2),b.M1.map (fun p=>W0 c.st ⟨l,0,0⟩ p.1 p.2),
        (Ua ⟨l,0,0⟩ b.res && XK (b.M1.filterMap fun p=>XT ⟨l,0,0⟩ p.1 p.2) && XK (b.M1.map (·.1)) && l.all (fun p=>aY b.nk p.1 && p.2.kbb c.st.nx))) =
      (true,some (W3 ⟨l,0,0⟩ b.res),b.V1.map (fun p=>some p.2),b.M1.map (fun p=>some (Vg ⟨l,0,0⟩ p.2)),true):=by kernel_rfl):Wc (b.ctx P f fn E0 F0 w0) c:=by
  simp only [Zr] at g;have ⟨d,h,i,j,k⟩:=g;unfold DD at d;split at d
  · exact ⟨WP.fin lE e l h i j k⟩
  · exact ⟨WP.ret lE e l h i j k⟩
  · cases d
theorem Yy {P:lK} {f:lN} {c:Ct} {fn:Func} {body:Code} (d:P.funcs[f]? = some fn) (e:fn.body=some body) (h:∀ E F w,Wc (c.ctx P f fn E F w) (.co [.code body] ⟨QT 0 c.args,c.M0,c.V0,c.nk⟩))
  (b:((fn.name == "runtime.NumGoroutine"),(Qb (QT 0 c.args) c.M0 c.V0 c.nk && c.M0.all (fun p => !p.2.isFresh) && aY c.args.length fn.ntmps))=(false,true):=by kernel_rfl):Fn P f c :=
 Fn.intro fn body d e (b9 b).1 (b9 b).2 fun E F w=>(h E F w).1
def SH:List lM->List Nat->List Nat
 | [],acc=>acc
 | o::r,acc=>SH r (acc++[Qs acc o.after.toList])
def PG:Cf->List Ent
 | .rg (some q) _ _ _ _=>q.2.2
 | _=>[]
def DK:Cf->St
 | .rg (some q) _ _ _ _=>q.2.1
 | _=>⟨[],[],[],0⟩
def isD:Cf->Bool
 | .rg (some _) ops i _ _=>aF i ops.size
 | _=>false
def Zpg (c:Cf):Cf:=.co c.kk (Vi (PG c) c.st.nx (DK c) fun _=>true)
theorem YJ (k:Wc X (Zpg c)) (u:(isD c && Tx c.ops,X.P.follows .mixedOrders,LD c.ops (PG c) (SH c.ops.toList []) (DK c).nx c.st.nx,Ha (PG c) (SH c.ops.toList []) (DK c))=(true,true,true,HF (PG c)):=by kernel_rfl):Wc X c:=by
 simp only [Zr] at u;have ⟨d,v,g,l⟩:=u;rw [Zc] at d;have ⟨d,n⟩:=d;cases c with
 | no=>cases d
 | co r s=>cases d
 | rg m ops i r s =>
  cases m with
  | none=>cases d
  | some q =>
   refine ⟨fun f x=>?_⟩;have ⟨k⟩:=k;have ⟨id,b,es⟩:=q;replace g:LD ops es (SH ops.toList []) b.nx s.nx=true:=g;replace l:Ha es (SH ops.toList []) b=HF es:=l;replace f:AllLS X ops 0 es:=f;show WP X (.code (.region id ops true)::r) b;intro E F w a e;have c:=Zh1 g;refine Zlq n v ?_;have o:ki X b E F { w with drawn:=w.drawn+1 } a:=e.world rfl rfl .m (Zq _) fun _ _=>rfl;have p:∀ j,(cO ops.size false).getD j false=false:=fun j=>by by_cases h:j < ops.size<;>simp [h]
   refine Ztl (lB:=rk X r) f c l e.wf e.nk (fun E F w a e=>k E F w a e) ops.size _ E F _ a (by simp)
    (fun i hi=>by rw [p] at hi;cases hi) (by rw [c.size];exact Zex fun j _=>by rw [<- c.size];exact p j) ?_
   have:Vi es s.nx b (fun j=>(cO ops.size false).getD j false)=⟨b.L,b.M,b.V,s.nx⟩:=by rw [show (fun j=>(cO ops.size false).getD j false)=fun _=>false from funext p];unfold Vi;rw [PJ,PJ,PJ]
   show ki X (Vi es s.nx b _) E F _ a;rw [this];exact o.nxt c.nxle
end
def Zam (P:lK) (t:lI):Nat:=match P.underlying t with
 | some (.array n _)=>n
 | _=>0
def XZ (P:lK) (t:lI):lI:=match P.underlying t with
 | some (.array _ e)=>e
 | some (.slice e)=>e
 | some (.pointer e)=>e
 | _=>0
def R8 (P:lK) (t:lI):Nat:=((P.info? t).map (·.size)).getD 0
def GR:Option MO->lI
 | some (.box _ t)=>t
 | _=>0
def Qy:Option MO->List SC
 | some (.box cs _)=>cs
 | _=>[]
section
variable {X:kl} {tt:List (Nat × TD)}
def dAx (v:SC) (c:Cf):Dl:=d1 c (.c v)
def nAx (v:SC) (c:Cf):Cf:=Xf (dAx v c) c
variable {c:Cf} {α:Type}
theorem eAx {m:Int} {e:α} (f:α->SC) (xs:List α) (hi:idx xs m=some e) (k:Wc X (nAx (f e) c))
    (b:(hB X.fn.ntmps c,(Yf c).dst,(Yf c).op,X.P.underlying (Yq (Yf c).op),(X.P.info? (XZ X.P (Yq (Yf c).op))).map (·.size),Wh X.P (XZ X.P (Yq (Yf c).op)),(X.P.underlying (XZ X.P (Yq (Yf c).op))).isSome,Yo c 0,Yo c 1)=(true,some (YQ c),.index (Yq (Yf c).op) (Yx (Yf c).op 0) (Yx (Yf c).op 1),some (.array xs.length (XZ X.P (Yq (Yf c).op))),some 1,false,true,some (.a (xs.map f)),some (.c (.i (Uu (Yo c 1)) m))):=by kernel_rfl):Wc X c:=by simp only [Zr] at b;have ⟨n,g,o,p,q,r,u,v,x⟩:=b;have ⟨y,z⟩:=Xl n;refine Wc.ev (d:=dAx (f e) c) y (Xt g rfl) (fun nk E0 F0 w0 n0 Z kz K j l h=>kV.ax (X:=X.var nk E0 F0 w0 n0 Z) f xs hi j l o g p q r u v rfl x z h) k
def dAb (P:lK) (j:Nat) (c:Cf):Dl:=d1 c (.c (.bp (YB (Yo c 0)) (XI (Yo c 0)+j * R8 P (XZ P (Yq (Yf c).op)))))
def nAb (P:lK) (j:Nat) (c:Cf):Cf:=Xf (dAb P j c) c
theorem SO {m:Int} (j:Nat) (f:m=(j:Int)) (k:Wc X (nAb X.P j c))
    (b:(hB X.fn.ntmps c,(Yf c).dst,(Yf c).op,X.P.underlying (Yq (Yf c).op),(X.P.info? (XZ X.P (Yq (Yf c).op))).map (·.size),aN j (Zam X.P (Yq (Yf c).op)),Yo c 0,Yo c 1)=(true,some (YQ c),.indexAddr (Yq (Yf c).op) (Yx (Yf c).op 0) (Yx (Yf c).op 1),some (.array (Zam X.P (Yq (Yf c).op)) (XZ X.P (Yq (Yf c).op))),some (R8 X.P (XZ X.P (Yq (Yf c).op))),true,some (.c (.bp (YB (Yo c 0)) (XI (Yo c 0)))),some (.c (.i (Uu (Yo c 1)) m))):=by kernel_rfl):Wc X c:=by simp only [Zr] at b;have ⟨n,e,o,p,q,r,u,v⟩:=b;have ⟨x,y⟩:=Xl n;refine Wc.ev (d:=dAb X.P j c) x (Xt e rfl) (fun nk E0 F0 w0 n0 Z kz K g l h=>kV.axb (X:=X.var nk E0 F0 w0 n0 Z) j f g l o e p q r u v y h) k
def dPn (neg:Bool) (c:Cf):Dl:=d1 c (.c (.b neg))
def nPn (neg:Bool) (c:Cf):Cf:=Xf (dPn neg c) c
theorem ePn (b:Bool) (k:Wc X (nPn b c))
  (e:(hB X.fn.ntmps c,(Yf c).dst,(Yf c).op,X.P.underlying (Yq (Yf c).op),Yo c 0,Yo c 1)=(true,some (YQ c),.binOp (bif b then .neq else .eql) (Yq (Yf c).op) (Yx (Yf c).op 0) (Yx (Yf c).op 1) (Xz (Yf c).op),some (.pointer (XZ X.P (Yq (Yf c).op))),some (.c (.bp (YB (Yo c 0)) (XI (Yo c 0)))),some (.c (.v (.pointer none)))):=by kernel_rfl):Wc X c:=by simp only [Zr] at e;have ⟨j,f,l,m,n,o⟩:=e;have ⟨p,q⟩:=Xl j;refine Wc.ev (d:=dPn b c) p (Xt f rfl) (fun nk E0 F0 w0 n0 Z kz K g i h=>kV.pnil (X:=X.var nk E0 F0 w0 n0 Z) b g i l f m n o q h) k
def dSb (R:kS α) (xs:List α) (fz:List Nat) (c:Cf):Dl:=⟨[(YQ c,.c (.sl (Yu (Yk c) fz).nx))],[((Yu (Yk c) fz).nx,.own R xs false),((YB (Yr (Yu (Yk c) fz).L (Yx (Yf c).op 0))),.gone)],[],1⟩
def nSb (R:kS α) (xs:List α) (fz:List Nat) (c:Cf):Cf:=Xf ((dSb R xs fz c).fz (Yk c) fz) c
theorem eSb {R:kS α} (fz:List Nat) (O:kX R) (xs:List α) (k:Wc X (nSb R xs fz c))
    (f:(hB X.fn.ntmps c,(Yf c).dst,Ur (Yk c) fz,(Yf c).op,X.P.underlying (Yq (Yf c).op),(X.P.info? (XZ X.P (Yq (Yf c).op))).map (·.size),Yr (Yu (Yk c) fz).L (Yx (Yf c).op 0),(Yg (Yu (Yk c) fz).M (YB (Yr (Yu (Yk c) fz).L (Yx (Yf c).op 0)))),(Yg (Yu (Yk c) fz).M (Yu (Yk c) fz).nx).isNone,P4 O (Yg (Yu (Yk c) fz).V) xs (Qy (Yg (Yu (Yk c) fz).M (YB (Yr (Yu (Yk c) fz).L (Yx (Yf c).op 0))))),P3 R.sz xs (Qy (Yg (Yu (Yk c) fz).M (YB (Yr (Yu (Yk c) fz).L (Yx (Yf c).op 0))))))=(true,some (YQ c),true,.slice (Yq (Yf c).op) (Yx (Yf c).op 0) none none none,some (.array xs.length (XZ X.P (Yq (Yf c).op))),some R.sz,some (.c (.bp (YB (Yr (Yu (Yk c) fz).L (Yx (Yf c).op 0))) 0)),some (.box (Qy (Yg (Yu (Yk c) fz).M (YB (Yr (Yu (Yk c) fz).L (Yx (Yf c).op 0))))) (GR (Yg (Yu (Yk c) fz).M (YB (Yr (Yu (Yk c) fz).L (Yx (Yf c).op 0)))))),true,P5 O (Yg (Yu (Yk c) fz).V) xs (Qy (Yg (Yu (Yk c) fz).M (YB (Yr (Yu (Yk c) fz).L (Yx (Yf c).op 0))))),[]):=by kernel_rfl):Wc X c:=by simp only [Zr] at f;have ⟨l,g,m,n,o,p,q,r,u,b,e⟩:=f;have ⟨v,x⟩:=Xl l;refine Wc.evz (d:=dSb R xs fz c) fz v m (Xt g rfl) (fun nk E0 F0 w0 n0 Z kz K i j h=>kV.slb (X:=X.var nk E0 F0 w0 n0 Z) O xs (Hr b e) i j n g o p q r (by rw [x,u];simp) h) k
def dCs (ys:List Int) (c:Cf):Dl:=d1 c (.c (.s (Zby ys)))
def nCs (ys:List Int) (c:Cf):Cf:=Xf (dCs ys c) c
theorem eCs (ys:List Int) (k:Wc X (nCs ys c))
  (f:(hB X.fn.ntmps c,(Yf c).dst,(Yf c).op,X.P.underlying (Yq (Yf c).op),X.P.underlying (Xz (Yf c).op),X.P.underlying (XZ X.P (Yq (Yf c).op)),Yo c 0,LI (Yk c) (Ul (Yo c 0)))=(true,some (YQ c),.convert (Yq (Yf c).op) (Xz (Yf c).op) (Yx (Yf c).op 0),some (.slice (XZ X.P (Yq (Yf c).op))),some .string,some (.int .u8),some (.c (Ul (Yo c 0))),some ⟨rI .u8,ys⟩):=by kernel_rfl):Wc X c:=by
 simp only [Zr] at f;have ⟨m,g,n,o,p,q,i,b⟩:=f;have ⟨r,u⟩:=Xl m;have ⟨z,v,e⟩:=Zey b;refine Wc.ev (d:=dCs ys c) r (Xt g rfl) (fun nk E0 F0 w0 n0 Z kz K j l h=>?_) k;rw [v] at i b;refine kV.cvs (X:=X.var nk E0 F0 w0 n0 Z) ys (Zif b) rfl j l n g o p q i ?_ u h;rcases e with x | ⟨fr,y⟩
 ·exact R5 x
 ·exact shO y
def dEx (v:SV) (c:Cf):Dl:=d1 c v
def nEx (v:SV) (c:Cf):Cf:=Xf (dEx v c) c
theorem eEx {f:lN} {b:List SV} {v:SV} (e:∀ (E:km) (w:lG),(callFunc f (b.map (Yt E)).toArray).run X.P w=.ok (.value (Yt E v)) w) (j:∀ n,v.kb n) (k:Wc X (nEx v c))
  (g:(hB X.fn.ntmps c,(Yf c).dst,(Yf c).op,Up (Yk c).L (Ly (Yf c).op).toList)=(true,some (YQ c),.call { callee:=.value (.func f),args:=Ly (Yf c).op,argTypes:=HE (Yf c).op },some b):=by kernel_rfl):Wc X c:=by simp only [Zr] at g;have ⟨o,i,p,q⟩:=g;have ⟨r,u⟩:=Xl o;refine Wc.ev (d:=dEx v c) r (Xt i rfl) (fun nk E0 F0 w0 n0 Z kz K l m h=>kV.ext (X:=X.var nk E0 F0 w0 n0 Z) e j l m p i u q h) k
def dCw (R:kS α) (r:List α × Int) (c:Cf):Dl:=⟨[(YQ c,.c (.i .i64 r.2))],[((Xx (Yg (Yk c).V (YB (Yo c 0)))),.own R r.1 (WT (Yg (Yk c).M (Xx (Yg (Yk c).V (YB (Yo c 0)))))))],[],0⟩
def nCw (R:kS α) (r:List α × Int) (c:Cf):Cf:=Xf (dCw R r c) c
def Zsg (neg b:Bool) (c:Cf):Cf:=Xf (d1 c (.c (.b (bif neg then !b else b)))) c
def Tq:Cf->Bool
 | .rg none _ _ _ _=>true
 | _=>false
theorem eNi (R:kS α) (xs:List α) (d:Bool) (p:∀ b:Bool,(b=true->xs=[])->Wc X (Zsg d b c))
  (n:(hB X.fn.ntmps c,(Yf c).dst,Tq c,(Yf c).op,X.P.underlying (Yq (Yf c).op),Yo c 0,Yo c 1,LI (Yk c) (.sl (YB (Yo c 0)))) =
   (true,some (YQ c),true,.binOp (bif d then .neq else .eql) (Yq (Yf c).op) (Yx (Yf c).op 0) (Yx (Yf c).op 1) (Xz (Yf c).op),some (.slice (XZ X.P (Yq (Yf c).op))),some (.c (.sl (YB (Yo c 0)))),some (.c .nil),some ⟨R,xs⟩):=by kernel_rfl):Wc X c:=by
 simp only [Zr] at n;have ⟨r,u,g,v,x,y,z,A⟩:=n;have ⟨h,C⟩:=Xl r;have ⟨I,D,j⟩:=Zey A;cases c with
 | co _ _=>cases g
 | no=>cases g
 | rg m ops i l s =>
  cases m with
  | some q=>cases g
  | none =>
   unfold VB at h;rw [Zc,Zc] at h;obtain ⟨⟨_,G⟩,k⟩:=h;have e:ops[i]? = some (Yf (.rg none ops i l s)):=by have ⟨o,e⟩:=bB.1 G;have e:ops[i]? = some o:=e;unfold Yf;show _=some ((ops[i]?).getD default);rw [e];rfl
   have H:Y3 ops s.L (Yf (.rg none ops i l s))=some true:=by
    split at k
    ·rename_i b f;rw [k] at f;exact f
    ·cases k
   refine ⟨?_⟩;show kV X ops (cS i (ops.size-i)) (rk X l) s;rw [Hm e];cases D;exact kV.nilc d j e H v u x y z C fun b f=>(p b f).1
def ZtA (b:Nat) (m:be) (c:Cf):Cf:=Xf ⟨[(YQ c,.c (.v (.pointer (some ⟨b,0,none⟩))))],[((Yk c).nx,.abs (Ux b m 0))],[],1⟩ c
def ZtB (b:Nat) (c:Cf):Cf:=ZtA b (Zl1 (Yo c 0)) c
theorem eRn (lE:kU X.P tt) (l:∀ b,Wc X (ZtB b c))
  (j:(hB X.fn.ntmps c,(Yf c).dst,Tq c,(Yf c).op,Yg tt (Yq (Yf c).op),aF (YD tt (Yq (Yf c).op)).kd 2,Yo c 0) =
   (true,some (YQ c),true,.range (Yq (Yf c).op) (Yx (Yf c).op 0),some (YD tt (Yq (Yf c).op)),true,some (.c (.s (Zl1 (Yo c 0))))):=by kernel_rfl):Wc X c:=by
 simp only [Zr] at j;have ⟨n,p,e,r,u,v,x⟩:=j;have ⟨f,y⟩:=Xl n;cases c with
 | co _ _=>cases e
 | no=>cases e
 | rg m ops i h s =>
  cases m with
  | some q=>cases e
  | none =>
   unfold VB at f;rw [Zc,Zc] at f;obtain ⟨⟨_,z⟩,g⟩:=f;have d:ops[i]? = some (Yf (.rg none ops i h s)):=by have ⟨o,d⟩:=bB.1 z;have d:ops[i]? = some o:=d;unfold Yf;show _=some ((ops[i]?).getD default);rw [d];rfl
   have A:Y3 ops s.L (Yf (.rg none ops i h s))=some true:=by
    split at g
    ·rename_i b k;rw [g] at k;exact k
    ·cases g
   refine ⟨?_⟩;show kV X ops (cS i (ops.size-i)) (rk X h) s;rw [Hm d];exact kV.rng lE d A r p u v x y fun b=>(l b).1
def dNf (c:Cf):Dl:=d1 c (.t [.inl (.b false)])
def nNf (c:Cf):Cf:=Xf (dNf c) c
theorem eNf {p:Nat} {m:be} (b f:Nat) (e:decide (p < m.size)=false) (k:Wc X (nNf c))
  (g:(hB X.fn.ntmps c,(Yf c).dst,(Yf c).op,Yo c 0,Yg (Yk c).M f)=(true,some (YQ c),.next (Yx (Yf c).op 0) true,some (.c (.v (.pointer (some ⟨b,0,none⟩)))),some (.abs (Ux b m p))):=by kernel_rfl):Wc X c:=by simp only [Zr] at g;have ⟨n,i,o,q,r⟩:=g;have ⟨u,x⟩:=Xl n;refine Wc.ev (d:=dNf  c) u (Xt i rfl) (fun nk E0 F0 w0 n0 Z kz K j l h=>kV.nxtF (X:=X.var nk E0 F0 w0 n0 Z) f e j l o i q r x h) k
def dNt (b k0:Nat) (m:be) (p:Nat) (c:Cf):Dl:=⟨[(YQ c,.t [.inl (.b true),.inl (.i .i64 (p:Int)),.inl (.i .i32 ((cv m p).1:Int))])],[(k0,.abs (Ux b m (p+(cv m p).2)))],[],0⟩
def nNt (b k0:Nat) (m:be) (p:Nat) (c:Cf):Cf:=Xf (dNt b k0 m p c) c
theorem eNt {p:Nat} {m:be} (b:Nat) (e:Nat) (f:decide (p < m.size)=true) (k:Wc X (nNt b e m p c))
  (g:(hB X.fn.ntmps c,(Yf c).dst,(Yf c).op,Yo c 0,Yg (Yk c).M e)=(true,some (YQ c),.next (Yx (Yf c).op 0) true,some (.c (.v (.pointer (some ⟨b,0,none⟩)))),some (.abs (Ux b m p))):=by kernel_rfl):Wc X c:=by simp only [Zr] at g;have ⟨n,i,o,q,r⟩:=g;have ⟨u,x⟩:=Xl n;refine Wc.ev (d:=dNt b e m p c) u (Xt i rfl) (fun nk E0 F0 w0 n0 Z kz K j l h=>kV.nxtT (X:=X.var nk E0 F0 w0 n0 Z) e f j l o i q r x h) k
def dDw (R:kS α) (r:List α × Int) (c:Cf):Dl:=⟨[(YQ c,.c (.i .i64 r.2))],[((Xx (Yg (Yk c).V (YB (Yo c 0)))),.own R r.1 (WT (Yg (Yk c).M (Xx (Yg (Yk c).V (YB (Yo c 0)))))))],[],0⟩
def nDw (R:kS α) (r:List α × Int) (c:Cf):Cf:=Xf (dDw R r c) c
theorem eDw {xs ys i:List α} {lo hi b e:Option Int} {r:List α × Int} (lE:kU X.P tt) (R:kS α) (m:lsl i b e=some ys) (n:RA xs lo hi ys=some r) (k:Wc X (nDw R r c))
  (j:(hB X.fn.ntmps c,(Yf c).dst,(Yf c).op,Yo c 0,Yg (Yk c).M (Xx (Yg (Yk c).V (YB (Yo c 0)))),Yo c 1,Yg (Yk c).V (YB (Yo c 1)),Yg (Yk c).M (Xx (Yg (Yk c).V (YB (Yo c 1)))),Yg tt (Yq (Yf c).op),Sn tt R.sz c,Yg (Yk c).V (YB (Yo c 0)))=(true,some (YQ c),.call { callee:=.builtin .copy,args:=#[Yx (Yf c).op 0,Yx (Yf c).op 1],argTypes:=#[Yq (Yf c).op,Xz (Yf c).op] },some (.c (.sl (YB (Yo c 0)))),some (.own R xs (WT (Yg (Yk c).M (Xx (Yg (Yk c).V (YB (Yo c 0))))))),some (.c (.sl (YB (Yo c 1)))),some (.vw (Xx (Yg (Yk c).V (YB (Yo c 1)))) b e R.sz),some (.own R i (WT (Yg (Yk c).M (Xx (Yg (Yk c).V (YB (Yo c 1))))))),some (YD tt (Yq (Yf c).op)),true,some (.vw (Xx (Yg (Yk c).V (YB (Yo c 0)))) lo hi R.sz)):=by kernel_rfl):Wc X c:=by simp only [Zr] at j;have ⟨q,l,u,v,x,y,z,A,C,f,g⟩:=j;have ⟨D,G⟩:=Xl q;refine Wc.ev (d:=dDw R r c) D (Xt l rfl) (fun nk E0 F0 w0 n0 Z kz K o p h=>kV.cp (X:=X.var nk E0 F0 w0 n0 Z) lE n (Zuf m z A) o p u l v (.inl g) x y C (R6 f G) h) k
end
section
variable {X:kl} {s:St} {ops:Array lM} {lB:lP->lG->Prop} {tt:List (Nat × TD)}
theorem ki.addFn {E:km} {F:YI} {w:lG} {a:lP} (c:ki X s E F w a) {k:Nat} {Φ:lH->Prop} (d:k < s.nx) (h:Φ (E.ρ k)):ki X ⟨s.L,s.M,(k,.fn Φ)::s.V,s.nx⟩ E F w a:={ c with
 wf:=⟨c.wf.hL,c.wf.hM,fun j f b=>by
  rw [YF] at b;split at b
  ·rename_i e;cases b;subst e;exact ⟨d,trivial⟩
  ·exact c.wf.hV j f b⟩
 hV:=fun j f b=>by
  rw [YF] at b;split at b
  ·rename_i e;cases b;subst e;exact h
  ·exact c.hV j f b }
end
end
section

end
section
variable [kg]
open Go.Proofs
section
variable {X:kl} {s:St} {E:km} {F:YI} {w:lG} {a:lP} {ops:Array lM} {lB:lP->lG->Prop}
end
end
section
variable [kg]
open Go.Proofs
theorem og {β:Type} {b:Bool} {x:Option β} {r:β} (h:(bif b then x else none)=some r):b=true/\x=some r:=by
 cases b with
 | true=>exact ⟨rfl,h⟩
 | false=>cases h
section
variable {X:kl} {tt:List (Nat × TD)}
def Zaj (tt:List (Nat × TD)) (nt:Nat):Nat->Cf->Cf
 | 0,c=>c
 | n+1,c=>match a1 tt nt c with
  | .no=>c
  | c'=>Zaj tt nt n c'
theorem Zmk (lE:kU X.P tt):∀ (n:Nat) {c:Cf},Wc X (Zaj tt X.fn.ntmps n c)->Wc X c
 | 0,_,h=>h
 | n+1,c,h=>by
  unfold Zaj at h;split at h
  ·exact h
  ·exact Zec lE (Zmk lE n h)
theorem wm (lE:kU X.P tt) {c:Cf} (k:Wc X (Zaj tt X.fn.ntmps 100 c)):Wc X c:=Zmk lE 100 k
def sl6 (tt:List (Nat × TD)) (nt:Nat) (c:Cf):Bool:=aN (YQ c) nt && aF (YD tt (Yq (Yf c).op)).kd 6
def Zgc (ops:Array lM) (n:Nat):Bool:=aF ops.size (n+1) && match ops[n]? with
 | some o=>o.after.toList.all (fun d => !dm .any d || aN d.on n) && (cK n).all fun j=>o.after.toList.any fun d=>dm .any d && (aF d.on j || Wq (SH ops.pop.toList []) d.on j)
 | none=>false
def tlC:Cf->Cf
 | .rg (some q) ops i k s=>.rg none ops i k (Vi q.2.2 s.nx q.2.1 fun _=>true)
 | _=>.no
def isT:Cf->Bool
 | .rg (some q) ops i _ _=>aF i q.2.2.length && Zgc ops i
 | _=>false
theorem LR {c:Cf} (k:Wc X (tlC c)) (A:(isT c && Tx c.ops,X.P.follows .mixedOrders,LD c.ops.pop (PG c) (SH c.ops.pop.toList []) (DK c).nx c.st.nx,Ha (PG c) (SH c.ops.pop.toList []) (DK c))=(true,true,true,HF (PG c)):=by kernel_rfl):Wc X c:=by
 simp only [Zr] at A;have ⟨e,H,v,x⟩:=A;rw [Zc] at e;have ⟨e,y⟩:=e;cases c with
 | no=>cases e
 | co k s=>cases e
 | rg m ops i D s =>
  cases m with
  | none=>cases e
  | some q =>
   refine ⟨fun p K=>?_⟩;have ⟨k⟩:=k;have ⟨id,f,es⟩:=q;replace v:LD ops.pop es (SH ops.pop.toList []) f.nx s.nx=true:=v;replace x:Ha es (SH ops.pop.toList []) f=HF es:=x;replace p:AllLS X ops 0 es:=p;replace e:(aF i es.length && Zgc ops i)=true:=e;rw [Zc] at e;have ⟨hi,b⟩:=e;have hi:=Zd hi;subst hi;unfold Zgc at b;rw [Zc] at b;have ⟨l,b⟩:=b;have l:=Zd l;show WP X (.code (.region id ops true)::D) f;intro E F w a g;have c:=Zh1 v;refine Zlq y H ?_;have z:ki X f E F { w with drawn:=w.drawn+1 } a:=g.world rfl rfl .m (Zq _) fun _ _=>rfl;have n:∀ j,(cO ops.size false).getD j false=false:=fun j=>by by_cases h:j < ops.size<;>simp [h]
   have:=Zld (X:=X) (t:=1) (ops':=ops.pop) (lB:=rk X D) (Zq _) l (fun j r=>by rw [Array.getElem?_pop,lg (by omega)]) (fun j o r C=>by
    have I:=(aV.1 C).1;obtain rfl:j=es.length:=by omega
    rw [C] at b;simp only [Zc] at b;refine ⟨fun d u G=>?_,fun j r=>?_⟩
    ·have:=aH.1 b.1 d (by simpa using u);rw [G] at this;exact Y8 (by simpa using this)
    ·have ⟨d,u,h⟩:=List.any_eq_true.1 (aH.1 b.2 j (b8.2 r));rw [Zc] at h;exact ⟨d,by simpa using u,h.1,by
      rcases Bool.or_eq_true _ _ ▸ h.2 with h | h
      ·exact .inl (Zd h)
      ·exact .inr h⟩) p c x g.wf g.nk (fun E F w a g=>by
    have:=k E F w a g;rw [l] at this;rw [show es.length+1-es.length=1 by omega] at this;exact this) es.length (cO ops.size false) E F _ a (by simp) (fun j _=>n j)
    (fun i hi=>by rw [n] at hi;cases hi) (Zex fun j _=>n j) (by
     have:Vi es s.nx f (fun j=>(cO ops.size false).getD j false)=⟨f.L,f.M,f.V,s.nx⟩:=by rw [show (fun j=>(cO ops.size false).getD j false)=fun _=>false from funext n];unfold Vi;rw [PJ,PJ,PJ]
     rw [this];exact z.nxt c.nxle)
   rw [<- l] at this;exact this
end
end
section
variable [kg]
section
variable {X:kl} {tt:List (Nat × TD)}
end
end
section
def Zl5 (P:lK) (g:Nat) (name:String) (k:lO) (zs:List Int):Sx where
 fp _:=False
 ok F w:=F g/\P.globalNamed name=some g/\kH P w name k zs
 mono h _:=fun ⟨h1,h2,h3⟩=>⟨h.sub g h1,h2,by unfold kH World.var? at h3 ⊢;rw [h2] at h3 ⊢;simp only [kI] at h3 ⊢;rw [h.same g h1];exact h3⟩
end
end Go.Kx
section
namespace Go.Kx
variable [kg]
section
variable {X:kl} {s:St} {ops:Array lM} {lB:lP->lG->Prop} {tt:List (Nat × TD)}
theorem kV.cvi {i:Nat} {kz:List Nat} {o:lM} {t u d:Nat} {x:lL} {k g:lO} {n:Int}
  (h:ops[i]? = some o) (j:Y3 ops s.L o=some true) (e:o.op=.convert t u x) (l:o.dst=some d)
  (m:X.P.underlying t=some (.int g)) (p:X.P.underlying u=some .string)
  (q:Yr s.L x=some (.c (.i k n))) (r:aN d X.fn.ntmps=true)
  (y:kV X ops kz lB ⟨(d,.c (.s (bV n)))::s.L,s.M,s.V,s.nx⟩):kV X ops (i::kz) lB s:=by
 refine kV.op h j (fun E F w a f=>?_) y;have ⟨z,_⟩:=f.eval q;have b:(lJ a.eval o).run X.P w=.ok (.value (.string (bV n))) w:=by simp only [lJ,e,z,Yt,Yn];refine Xc ?_;simp [convert,Xk m,Xk p,Conv.intToString]
 refine XB b ⟨E,F,?_⟩;rw [l];exact f.setL (v:=.c (.s (bV n))) trivial (Y8 r)
end
section
variable {X:kl} {tt:List (Nat × TD)}
def Zqe:Option TypeDesc->lO
 | some (.int k)=>k
 | _=>.i64
def dCr (c:Cf):Dl:=d1 c (.c (.s (bV (ZjT (Yo c 0)))))
def nCr (c:Cf):Cf:=Xf (dCr c) c
theorem eCr {c:Cf} (k:Wc X (nCr c))
  (b:(hB X.fn.ntmps c,(Yf c).dst,(Yf c).op,X.P.underlying (Yq (Yf c).op),X.P.underlying (Xz (Yf c).op),Yo c 0)=(true,some (YQ c),.convert (Yq (Yf c).op) (Xz (Yf c).op) (Yx (Yf c).op 0),some (.int (Zqe (X.P.underlying (Yq (Yf c).op)))),some .string,some (.c (.i (Uu (Yo c 0)) (ZjT (Yo c 0))))):=by kernel_rfl):Wc X c:=by simp only [Zr] at b;have ⟨j,e,l,m,n,o⟩:=b;have ⟨p,q⟩:=Xl j;refine Wc.ev (d:=dCr c) p (Xt e rfl) (fun nk E0 F0 w0 n0 Z kz K f g h=>kV.cvi (X:=X.var nk E0 F0 w0 n0 Z) f g l e m n o q h) k
end
end Go.Kx
namespace Go.Kx
variable [kg]
theorem Zq4 {P:lK} {f:lN} {c:Ct} {k:Nat} {A:Sx} (h:Fn P f c) (o:c.M0=[(k,.abs A)]) (i:c.res=.c (.b true)) (g:∀ b,¬ A.fp b) {E:km} {w:lG} (p:A.ok (Ui w) w) (l:∀ k,(E.ρ k).oneCell'=true) (hV:∀ k x,Yg c.V0 k=some x->x.ok E (Ui w) w (E.ρ k)) :
  Calls P f (c.args.map (Yt E)).toArray w fun e w'=>e=.returned (.bool true)/\Ext (Ui w) w w':=by
 have n:∀ j m,Yg c.M0 j=some m->m=.abs A:=fun j m h=>by
  rw [o,YF] at h;split at h
  ·cases h;rfl
  ·cases h
 have v:c.Pre E (Ui w) w:=⟨l,fun _ h=>h,hV,fun j m h=>by rw [n j m h];exact p,fun j y m m' h _ _ b d=>by rw [n j m h] at d;exact absurd d (g b),fun j m h b d=>by rw [n j m h] at d;exact absurd d (g b)⟩
 refine (h.calls E (Ui w) w v).mono fun e w' ⟨z,C,q,r⟩=>?_;refine ⟨by rw [q,i];rfl,r.ext.mono fun b d=>⟨d,?_⟩⟩;rintro ⟨j,m,u,d⟩;rw [n j m u] at d;exact g b d
end Go.Kx
namespace Go.Kx
theorem Zj8 {P:lK} {w:lG} {name:String} {d:DataW Unit}:∀ (l:List (String × DataW Unit)) (ps:List MemPlace),DataW.LaidVars P w l ps->(name,d)∈l ->
    ∃ g t cs b p,P.globalNamed name=some g/\(P.globals[g]?).map (·.type)=some t/\w.var? P name=some cs/\iA (fun _=>()) P w 0 (fun _=>true) false b t cs.toList=some (d,p)
  | [],_,_,h=>by cases h
  | (n,e)::r,ps,⟨g,t,cs,b,p,q,h1,h2,h3,h4,h5,_⟩,h=>by
    rcases List.mem_cons.1 h with c | h
    · cases c;exact ⟨g,t,cs,b,p,h1,h2,h3,h4⟩
    · exact Zj8 r q h5 h
theorem Zup {P:lK} {W:lG} {name:String} {k:lO} {zs:List Int} {l:List (String × DataW Unit)} {i:Nat} {g:Nat} {t e:lI} {n:Nat} (c:laidMetH P l W) (r:(l.filter fun x=>x.2.handleName?.isSome).isEmpty=true)
    (hi:l[i]? = some (name,Lib.tabData k zs)) (d:P.globalNamed name=some g) (f:(P.globals[g]?).map (·.type)=some t) (v:P.underlying t=some (.array n e)) (y:P.underlying e=some (.int k)) (j:P.cellsOf e=1) (m:P.cellsOf t=n) :
    (Zl5 P g name k zs).ok (Ui W) W:=by
  have C:laidMet P l W:=by
    unfold laidMetH at c;split at c
    · exact c
    · rename_i h;rw [h] at r;cases r
  have ⟨ps,z,_⟩:=C;have ⟨G,H,cs,u,p,o,q,b,A⟩:=Zj8 l ps z (Zb hi);obtain rfl:=Zm (d.symm.trans o);obtain rfl:=Zm (f.symm.trans q);have D:kH P W name k zs:=by unfold kH;rw [b,<- Lib.cells_of_tab v y j m A]
  refine ⟨?_,d,D⟩;show g < W.heap.size;unfold World.var? at b;rw [d] at b;simp only [kI] at b;split at b
  · rename_i h;exact (aV.1 h).1
  · cases b
end Go.Kx
end
section
namespace Go.Kx
variable [kg]
def RU (l:List Int):be:=⟨(l.map fun c=>c.toNat.toUInt8).toArray⟩
def Rr (s m:be):Option be:=bif aY (s.size+m.size) lim then some (s++m) else none
variable {s:be}
theorem ZhG {m z:be} (h:Rr s m=some z):z=s++m/\s.size+m.size<=lim:=by
 unfold Rr at h;cases b:aY (s.size+m.size) lim with
 | false=>rw [b] at h;cases h
 | true=>rw [b] at h;cases h;exact ⟨rfl,Ze b⟩
def TR (s:be) (l:List Int):Option be:=bif (l.all fun c=>decide (0<=c) && decide (c < 256)) then Rr s (RU l) else none
theorem Zeo (s m:be):Xs (s++m)=Xs s++Xs m:=by unfold Xs;rw [ByteArray.data_append,Array.toList_append,List.map_append]
theorem ZhR {l:List Int} (h:(l.all fun c=>decide (0<=c) && decide (c < 256))=true):Xs (RU l)=l:=by
 unfold Xs RU;simp only [cD]
 conv=>rhs;rw [<- List.map_id l]
 refine bH fun c b=>?_;have:=aH.1 h c b;simp only [Zc,lU] at this;obtain ⟨n,rfl⟩:=Int.eq_ofNat_of_zero_le this.1;have d:n < 256:=by omega
 simp [Function.comp,Nat.mod_eq_of_lt d]
theorem ZnE {z:be} {l:List Int} (h:TR s l=some z):Xs z=Xs s++l/\s.size+l.length<=lim:=by
 unfold TR at h;cases b:(l.all fun c=>decide (0<=c) && decide (c < 256)) with
 | false=>rw [b] at h;cases h
 | true =>
  rw [b] at h;obtain ⟨rfl,d⟩:=ZhG h;rw [Zeo,ZhR b];have e:(RU l).size=l.length:=by show ((l.map _).toArray).size=_;simp
  exact ⟨rfl,by omega⟩
def QB (ty:lI) (off:Nat) (el:lI):Prop:=off=0/\el=ty
theorem kc.q {ty:lI} {F:YI} {w:lG} {v:lH} (h:kc ty w s v):OwnQ (QB ty) (rI .u8) F w (Xs s) v:=by
 rcases h with ⟨h,rfl⟩ | ⟨b,cap,arr,fz,f,g,n,k,l,m⟩
 ·refine .inl ⟨a8 (by rw [TV];exact h),rfl⟩
 ·refine .inr ⟨b,0,cap,arr,ty,fz,⟨rfl,rfl⟩,by rw [TV];exact f,by rw [TV];exact g,?_,k,l,fun i x c=>?_⟩
  ·show 0+cap * 1<=_;omega
  ·refine ⟨[.int .u8 x],rfl,fun j v d=>?_⟩;cases j with
   | succ j=>simp at d
   | zero =>
    simp only [aX,aR] at d;subst d;unfold Xs at c;rw [aK,Zn] at c;obtain ⟨u,e,rfl⟩:=c;have:=m i u e;show arr[0+i * 1+0]? = _;rw [au,Nat.mul_one,bu];exact this
theorem kc.of {ty:lI} {F:YI} {w:lG} {v:lH} (h:OwnQ (QB ty) (rI .u8) F w (Xs s) v):kc ty w s v:=by
 rcases h with ⟨h,rfl⟩ | ⟨b,off,cap,arr,el,fz,⟨rfl,rfl⟩,d,f,g,m,n,o⟩
 ·exact .inl ⟨by rw [<- TV,h];rfl,rfl⟩
 ·rw [TV] at d f;refine .inr ⟨b,cap,arr,fz,d,f,?_,m,n,fun i u j=>?_⟩
  ·have g:0+cap * 1<=arr.size:=g;omega
  ·have ⟨k,c,l⟩:=o i (u.toNat:Int) (by unfold Xs;rw [aK,j];rfl);have c:k=[.int .u8 (u.toNat:Int)]:=c;subst c;have:=l 0 _ rfl;have e:0+i * (rI .u8).sz+0=i:=by show 0+i * 1+0=i;omega
   rw [e] at this;exact this
section
variable {X:kl} {s:St} {ops:Array lM} {lB:lP->lG->Prop} {tt:List (Nat × TD)}
variable {sb:be} {w:lG}
theorem ki.newBuf {E:km} {F:YI} {a:lP} {ty:lI} {v:lH} (d:ki X s E F w a) (g:kc ty w sb v)
  (e:∀ b,YV v=some b->¬ F b/\¬ X.Z b/\b < w.heap.size/\∀ k m',Yg s.M k=some m'->¬ m'.fp E k b) :
  ∃ m,m.ρ s.nx=v/\ki X ⟨s.L,(s.nx,.buf sb ty)::s.M,s.V,s.nx+1⟩ m F w a:=by
 have l:E.Eqb s.nx (E.setρ s.nx v):=E.eqb_setρ _ _ _ (Zq _);have f:(E.setρ s.nx v).ρ s.nx=v:=by simp [km.setρ]
 have u:=d.env l (fun j=>by
  simp only [km.setρ];split
  ·rcases g with ⟨_,rfl⟩ | ⟨_,_,_,_,rfl,_⟩<;>rfl
  ·exact d.one j)
 refine ⟨_,f,u.addM' ?_ trivial ?_ (fun h=>by cases h)⟩
 ·show kc ty w sb ((E.setρ s.nx v).ρ s.nx);rw [f];exact g
 ·intro b c;have c:YV ((E.setρ s.nx v).ρ s.nx)=some b:=c;rw [f] at c;have ⟨o,p,q,r⟩:=e b c;exact ⟨o,p,q,fun k m' i n=>r k m' i ((MO.fp_eqb l (d.wf.hM k m' i).1).1 n)⟩
variable {d k:Nat} {o:lM} {kz:List Nat} {ty:Nat} {x y:lL}
theorem kV.apb (lE:kU X.P tt) {i:Nat} {t t2:lI} {u m:TD} {A:SC} {z:be} {ys:List Int}
  (I:Xs z=Xs sb++ys/\sb.size+ys.length<=lim) (C:Uj X s (rI .u8) ys A) (N:ops[i]? = some o) (hg:Y3 ops s.L o=some true) (O:o.op=.call { callee:=.builtin .append,args:=#[x,y],argTypes:=#[t,t2] }) (hd:o.dst=some d)
  (hx:Yr s.L x=some (.c (.sl k))) (K:Yg s.M k=some (.buf sb ty)) (hy:Yr s.L y=some (.c A)) (ht:Yg tt t=some u) (S:Yg tt t2=some m)
  (Z:(aN d X.fn.ntmps && aF u.kd 6 && (aF m.kd 6 || aF m.kd 2) && aF u.es 1 && aY u.eb 32768 && aF u.el ty)=true)
  (kk:kV X ops kz lB ⟨(d,.c (.sl s.nx))::s.L,(s.nx,.buf z ty)::(k,.gone)::s.M,s.V,s.nx+1⟩):kV X ops (i::kz) lB s:=by
 refine kV.op N hg (fun E F w a f=>?_) kk;simp only [Zc] at Z;obtain ⟨⟨⟨⟨⟨c1,c2⟩,T⟩,c3⟩,c4⟩,U⟩:=Z;have U:=Zd U;have ⟨e1,_⟩:=f.eval hx;have ⟨e2,_⟩:=f.eval hy;have N:kc ty w sb (E.ρ k):=f.hM k _ K;have r:∀ b,YV (E.ρ k)=some b->_:=f.mF k _ K;have W:=Zfi (lE.get S) T;have ⟨v',w',G,H,g1,g2,g3,g4,g5,g6⟩:=Zln (QB ty) (ty:=o.type) ⟨rfl,U⟩ W (lE.get ht) c2 (R:=rI .u8) (Zd c3) (N.q (F:=F)) (C E F w a f) (fun b n=>(r b n).1) f.hF (fun b n=>(r b n).2.2) (by rw [TV];exact I.2) (Ze c4);rw [<- I.1] at H;refine XB (v:=v') (w':=w') (Vo O ?_) ?_
 ·simp only [bQ,aJ,ay,e1,e2,Yt,Yn];exact Xc G
 ·have s1:=f.setM (m':=.gone) K g1 g2 g3 g4 (fun b n p=>g5 b n (fun e=>p e)) (fun _ h=>h.elim) trivial trivial (fun h=>by cases h);have ⟨E',hv,s2⟩:=s1.newBuf (kc.of H) (fun b n=>by
    have ⟨l,h2⟩:=g6 b n;rcases l with l | l
    ·have:=r b l;refine ⟨this.1,this.2.1,h2,fun j m' g D=>?_⟩;simp only [YF] at g;split at g
     ·cases g;exact D.elim
     ·rename_i p;exact f.dis k j _ m' K g p b l D
    ·refine ⟨fun hF=>absurd (f.hF b hF) (ck.2 l),fun I=>absurd (Zh (f.hZ b I) f.ext.size) (ck.2 l),h2,fun j m' g D=>?_⟩;simp only [YF] at g;split at g
     ·cases g;exact D.elim
     ·exact absurd (f.mF j m' g b D).2.2 (ck.2 l))
  have Y:=s2.setL (d:=d) (v:=.c (.sl s.nx)) (Nat.lt_succ_self _) (Y8 c1);simp only [Yt,Yn] at Y;rw [show E'.ρ s.nx=v' from hv] at Y;rw [hd];exact ⟨E',F,Y⟩
theorem kV.usd {i:Nat} {m:Array lI}
  (n:ops[i]? = some o) (p:Y3 ops s.L o=some true) (g:o.op=.call { callee:=.builtin .unsafeSliceData,args:=#[x],argTypes:=m }) (q:o.dst=some d)
  (r:Yr s.L x=some (.c (.sl k))) (l:Yg s.M k=some (.buf sb ty)) (e:(aF sb.size 0)=false) (u:aN d X.fn.ntmps=true)
  (y:kV X ops kz lB ⟨(d,.c (.px k 0))::s.L,s.M,s.V,s.nx⟩):kV X ops (i::kz) lB s:=by
 refine kV.val (v:=.c (.px k 0)) (fun E F w a j=>⟨?_,(j.wf.hM k _ l).1⟩) n p q u y;have ⟨z,_⟩:=j.eval r;have D:kc ty w sb (E.ρ k):=j.hM k _ l;rcases D with ⟨h,_⟩ | ⟨b,cap,arr,fz,A,C,G,H,I,K⟩
 ·rw [h] at e;cases e
 ·refine Vo g ?_;simp only [bQ,aJ,ay,z,Yt,Yn,A];have f:cap≠0:=by
   intro h;rw [h] at C;have:sb.size=0:=by omega
   rw [this] at e;cases e
  exact Xc ((Go.Lib.run_unsafeSliceData_row _ _ _ _ _ _ f).trans (by simp [WW]))
theorem kV.bln (lE:kU X.P tt) {i:Nat} {t:lI} {j:TD}
  (n:ops[i]? = some o) (p:Y3 ops s.L o=some true) (e:o.op=.call { callee:=.builtin .len,args:=#[x],argTypes:=#[t] }) (q:o.dst=some d)
  (r:Yr s.L x=some (.c (.sl k))) (u:Yg s.M k=some (.buf sb ty)) (y:Yg tt t=some j) (f:(aN d X.fn.ntmps && aF j.kd 6)=true)
  (z:kV X ops kz lB ⟨(d,.c (.i .i64 sb.size))::s.L,s.M,s.V,s.nx⟩):kV X ops (i::kz) lB s:=by
 simp only [Zc] at f;refine kV.val (v:=.c (.i .i64 sb.size)) (fun E F w a l=>⟨?_,trivial⟩) n p q f.1 z;have ⟨el,m,D⟩:=(lE.get y).sliceOf f.2;have ⟨A,_⟩:=l.eval r;have C:kc ty w sb (E.ρ k):=l.hM k _ u;refine Vo e ?_;simp only [bQ,aJ,ay,A,Yt,Yn];rcases C with ⟨h,g⟩ | ⟨b,cap,arr,fz,g,_⟩
 ·rw [g,h];exact Xc (by simp [dk,Xk m,dw,goInt])
 ·rw [g];exact Xc (by simp [dk,Xk m,dw,goInt])
theorem ZpN {b n:Nat} {arr:Array lH} {ty:lI} {fz:Nat × Nat} (a:Addr):(w.freeze a n).os=w.os/\(w.freeze a n).tape=w.tape/\(w.freeze a n).output=w.output/\(w.freeze a n).drawn=w.drawn/\(w.freeze a n).heap.size=w.heap.size/\∀ c,c≠a.block->(w.freeze a n).heap[c]? = w.heap[c]? := by
 unfold World.freeze;split
 ·exact ⟨rfl,rfl,rfl,rfl,rfl,fun _ _=>rfl⟩
 ·refine ⟨rfl,rfl,rfl,rfl,by simp,fun c d=>?_⟩;simp only [eD];rw [lh (Ne.symm d)]
theorem kV.ust {i:Nat} {u D:lI} {n:Int}
  (K:ops[i]? = some o) (N:Y3 ops s.L o=some true) (z:o.op=.call { callee:=.builtin .unsafeString,args:=#[x,y],argTypes:=#[u,D] }) (O:o.dst=some d)
  (R:Yr s.L x=some (.c (.px k 0))) (S:Yr s.L y=some (.c (.i .i64 n))) (hn0:n=(sb.size:Int)) (G:Yg s.M k=some (.buf sb ty)) (f:(aF sb.size 0 || !(aY sb.size lim))=false)
  (A:X.P.underlying u=some (.pointer ty)) (C:X.P.cellsOf ty=1) (T:aN d X.fn.ntmps=true)
  (U:kV X ops kz lB ⟨(d,.c (.s sb))::s.L,(k,.gone)::s.M,s.V,s.nx⟩):kV X ops (i::kz) lB s:=by
 refine kV.op K N (fun E F w a r=>?_) U;have ⟨Y,_⟩:=r.eval R;have ⟨Z,_⟩:=r.eval S;rw [cw,Bool.not_eq_false'] at f;have ⟨f,g⟩:=f;have g:=Ze g;have hb:kc ty w sb (E.ρ k):=r.hM k _ G;rcases hb with ⟨h,_⟩ | ⟨b,cap,arr,fz,H,h1,h2,h3,I,h5⟩
 ·rw [h] at f;cases f
 have l:sb.data.toList.length=sb.size:=by rw [aq];rfl
 have p:=Lib.run_unsafeString_row (P:=X.P) w u D o.type ty A C b arr.size (by simp [jP,I]) sb.data.toList (fun h=>by rw [<- l,h] at f;cases f) (by rw [l];omega) (by rw [l];unfold lim at g;omega) (fun j x W=>by rw [Ww,Ry I,au];exact h5 j x W)
 have e3:(⟨sb.data.toList.toArray⟩:be)=sb:=by rw [dX]
 rw [l,e3] at p;have ⟨f1,f2,f3,f4,f5,f6⟩:=ZpN (w:=w) (b:=b) (n:=sb.size) (arr:=arr) (ty:=ty) (fz:=fz) ⟨b,0,none⟩;refine XB (v:=.string sb) (w':=w.freeze ⟨b,0,none⟩ sb.size) (Vo z ?_) ?_
 ·simp only [bQ,aJ,ay,Y,Z,Yt,Yn,H,WW,bu,hn0];exact Xc p
 ·have s1:=r.setM (m':=.gone) (w':=w.freeze ⟨b,0,none⟩ sb.size) G f1 f2 (.m f3 (by rw [f4];exact Zq _)) (by rw [f5];exact Zq _) (fun c hc q=>f6 c (fun e=>q (by show YV (E.ρ k)=some c;rw [H,e];rfl))) (fun _ h=>h.elim) trivial trivial (fun h=>by cases h);have s3:=s1.setL (d:=d) (v:=.c (.s sb)) trivial (Y8 T);rw [O];exact ⟨E,F,s3⟩
variable {cs:List SC} {el t:Nat}
theorem kV.axa (j:Nat) {i:Nat} {len es:Nat} {ik:lO} {n:Int}
    (q:n=(j:Int)) (r:ops[i]? = some o) (u:Y3 ops s.L o=some true) (f:o.op=.index t x y) (z:o.dst=some d) (A:X.P.underlying t=some (.array len el))
    (l:(X.P.info? el).map (·.size)=some es) (C:Wh X.P el=true) (g:(X.P.underlying el).isSome=true) (b:aN j len=true)
    (D:Yr s.L x=some (.a cs)) (m:aY (j * es+es) cs.length=true) (h:Yr s.L y=some (.c (.i ik n))) (G:aN d X.fn.ntmps=true)
    (H:kV X ops kz lB ⟨(d,.a ((cs.drop (j * es)).take es))::s.L,s.M,s.V,s.nx⟩):kV X ops (i::kz) lB s:=by
  refine kV.val (v:=.a ((cs.drop (j * es)).take es)) (fun E F w a p=>?_) r u z G H;have ⟨I,K⟩:=p.eval D;have ⟨N,_⟩:=p.eval h;have ⟨ds,k⟩:=bB.1 g;refine ⟨?_,fun y h=>K y (List.mem_of_mem_drop (List.mem_of_mem_take h))⟩;simp only [lJ,f,I,N,Yt,Yn];refine Xc ?_;have e:=Zbq w k;rw [C] at e;have T:(sizeOf el).run X.P w=.ok es w:=by rw [Zn] at l;have ⟨O,R,S⟩:=l;simp [sizeOf,typeInfo,R,S]
  have b:=Y8 b;have m:=Ze m;subst q;have U:(0<=(j:Int)/\(j:Int) < (len:Int)):=⟨by omega,by omega⟩
  simp only [Instr.index,asIntOf,aG,aI,aD,Xk A,U,and_self,l9,T,part,e,Int.toNat_natCast];congr 2;apply Array.ext';rw [Array.toList_extract];simp only [List.extract,List.map_take,List.map_drop];congr 1;omega
variable {off:Nat}
theorem kV.pps {i:Nat} {g:Nat}
  (h:ops[i]? = some o) (l:Y3 ops s.L o=some true) (e:o.op=.binOp .neq t x y g) (m:o.dst=some d) (n:X.P.underlying t=some (.pointer el)) (hi:(X.P.info? el).isSome=true)
  (p:Yr s.L x=some (.c (.bp k off))) (q:Yr s.L y=some (.c (.bp k off))) (r:aN d X.fn.ntmps=true)
  (u:kV X ops kz lB ⟨(d,.c (.b false))::s.L,s.M,s.V,s.nx⟩):kV X ops (i::kz) lB s:=by refine kV.val (v:=.c (.b false)) (fun E F w a f=>?_) h l m r u;have ⟨z,_⟩:=f.eval p;have ⟨A,_⟩:=f.eval q;have ⟨j,C⟩:=bB.1 hi;refine ⟨?_,trivial⟩;simp only [lJ,e,z,A,Yt,Yn];refine Xc ?_;have:=Lib.run_neq_ptr_same (P:=X.P) w ⟨E.β k,off,none⟩ n C;simp only [eqGuard,aG,aI,aD];exact this
theorem kV.pnn {i:Nat} {h:Nat}
  (j:ops[i]? = some o) (k:Y3 ops s.L o=some true) (e:o.op=.binOp .eql t x y h) (l:o.dst=some d) (m:X.P.underlying t=some (.pointer el))
  (n:Yr s.L x=some (.c (.v (.pointer none)))) (p:Yr s.L y=some (.c (.v (.pointer none)))) (r:aN d X.fn.ntmps=true)
  (u:kV X ops kz lB ⟨(d,.c (.b true))::s.L,s.M,s.V,s.nx⟩):kV X ops (i::kz) lB s:=by
 refine kV.val (v:=.c (.b true)) (fun E F w a g=>?_) j k l r u;have ⟨z,_⟩:=g.eval n;have ⟨A,_⟩:=g.eval p;refine ⟨?_,trivial⟩;simp only [lJ,e,z,A,Yt,Yn];refine Xc ?_;have f:(di t (.pointer none) (.pointer none)).run X.P w=.ok true w:=by show (eI (9999+1) t _ _).run X.P w=.ok true w;generalize 9999=q;simp only [eI,aG,Xk m,aD,aI,Option.isNone_none]
 simp only [eqGuard,aG,aI,aD];show (do pure (Value.bool (<- di t _ _)):Sem lH).run X.P w=_;simp only [aG,f,aD,aI]
theorem ZlC {E:km} {F:YI} {a:lP} (b:ki X s E F w a) (hM:Yg s.M k=some (.box cs ty)):w.shape? (E.β k)=some (ty,cs.length):=by have:w.heap[E.β k]? = some (.cells (cs.map (Yn E)).toArray ty (0,0)):=b.hM k _ hM;unfold jP;rw [this];simp
variable {b:Nat}
theorem kV.cvu {i:Nat} {dst:Nat}
  (p:ops[i]? = some o) (q:Y3 ops s.L o=some true) (g:o.op=.convert b dst x) (r:o.dst=some d) (l:X.P.underlying b=some (.pointer t)) (m:X.P.underlying dst=some .unsafePointer)
  (hi:(X.P.info? t).map (fun j=>aF j.size 0)=some false) (u:Yr s.L x=some (.c (.bp k off))) (hM:Yg s.M k=some (.box cs ty)) (e:aN off cs.length=true) (y:aN d X.fn.ntmps=true)
  (z:kV X ops kz lB ⟨(d,.c (.bp k off))::s.L,s.M,s.V,s.nx⟩):kV X ops (i::kz) lB s:=by refine kV.val (v:=.c (.bp k off)) (fun E F w a n=>?_) p q r y z;have ⟨A,C⟩:=n.eval u;refine ⟨?_,C⟩;rw [Zn] at hi;have ⟨j,D,f⟩:=hi;simp only [lJ,g,A,Yt,Yn];refine Xc ?_;exact Lib.run_to_unsafe (P:=X.P) w ⟨E.β k,off,none⟩ l m D (fun h=>by rw [h] at f;cases f) (ZlC n hM) (Y8 e)
theorem kV.cvp {i:Nat} {dst:Nat}
  (l:ops[i]? = some o) (m:Y3 ops s.L o=some true) (e:o.op=.convert b dst x) (n:o.dst=some d) (f:X.P.underlying b=some .unsafePointer) (g:X.P.underlying dst=some (.pointer t))
  (hi:(X.P.info? t).isSome=true) (p:Yr s.L x=some (.c (.bp k off))) (hM:Yg s.M k=some (.box cs ty)) (q:liesAt X.P X.P.depth ty (cs.length / X.P.cellsOf ty) off t 1=true) (r:aN d X.fn.ntmps=true)
  (u:kV X ops kz lB ⟨(d,.c (.bp k off))::s.L,s.M,s.V,s.nx⟩):kV X ops (i::kz) lB s:=by refine kV.val (v:=.c (.bp k off)) (fun E F w a h=>?_) l m n r u;have ⟨y,z⟩:=h.eval p;refine ⟨?_,z⟩;have ⟨j,A⟩:=bB.1 hi;simp only [lJ,e,y,Yt,Yn];refine Xc ?_;exact Lib.run_from_unsafe (P:=X.P) w ⟨E.β k,off,none⟩ f g A (ZlC h hM) q
theorem kV.nes {i:Nat} {f:lN} {fn:Func} {h:Array lI}
  (j:X.P.funcs[f]? = some fn) (b:(fn.name == "runtime.NumGoroutine")=false) (l:fn.body.isNone=true) (e:gQ fn=none) (m:jj fn=some iY)
  (n:ops[i]? = some o) (p:Y3 ops s.L o=some true) (g:o.op=.call { callee:=.value (.func f),args:=#[x],argTypes:=h }) (q:o.dst=some d) (r:Yr s.L x=some (.c (.bp k off))) (u:aN d X.fn.ntmps=true)
  (y:kV X ops kz lB ⟨(d,.c (.bp k off))::s.L,s.M,s.V,s.nx⟩):kV X ops (i::kz) lB s:=by
 refine kV.val (v:=.c (.bp k off)) (fun E F w a z=>?_) n p q u y;have ⟨A,C⟩:=z.eval r;refine ⟨?_,C⟩;unfold lJ;simp only [g,resolve,fM,Act.eval,invoke,aG,aI,aD];have:(callFunc f #[Yn E (.bp k off)]).run X.P w=.ok (.value (Yn E (.bp k off))) w:=by rw [run_callFunc_extern j b l e m,Lib.run_noEscape];rfl
 have D:#[x].map a.eval=#[Yn E (.bp k off)]:=by simp [A,Yt]
 rw [show (#[]:Array lH)++Array.map a.eval #[x]++#[]=#[Yn E (.bp k off)] by rw [D];simp];exact this
end
section
variable {X:kl} {tt:List (Nat × TD)}
def Vj (tt:List (Nat × TD)) (j:Nat) (c:Cf):TD:=YD tt (match j with | 0=>Yq (Yf c).op | _=>Xz (Yf c).op)
def Df (tt:List (Nat × TD)) (c:Cf):Bool:=aF (Vj tt 0 c).kd 6 && (aF (Vj tt 1 c).kd 6 || aF (Vj tt 1 c).kd 2) && aF (Vj tt 0 c).es 1 && aY (Vj tt 0 c).eb 32768
variable {c:Cf}
theorem ZqT {b d:Nat} (h:Df tt c=true) (e:aN d b=true):(aN d b && aF (Vj tt 0 c).kd 6 && (aF (Vj tt 1 c).kd 6 || aF (Vj tt 1 c).kd 2) && aF (Vj tt 0 c).es 1 && aY (Vj tt 0 c).eb 32768)=true:=by unfold Df at h;rw [e];simpa using h
def dBa (z:be) (ty:lI) (c:Cf):Dl:=⟨[(YQ c,.c (.sl (Yk c).nx))],[((Yk c).nx,.buf z ty),(YB (Yo c 0),.gone)],[],1⟩
def nBa (z:be) (ty:lI) (c:Cf):Cf:=Xf (dBa z ty c) c
variable {sb:be} {ty:lI} {z:be}
theorem eBa {ys:List Int} (lE:kU X.P tt) (i:Xs z=Xs sb++ys/\sb.size+ys.length<=lim) (b:∀ nk E0 F0 w0 n0 Z,Uj (X.var nk E0 F0 w0 n0 Z) (Yk c) (rI .u8) ys (Ul (Yo c 1))) (k:Wc X (nBa z ty c))
  (f:(hB X.fn.ntmps c,(Yf c).dst,(Yf c).op,Yo c 0,Yg (Yk c).M (YB (Yo c 0)),Yo c 1,Yg tt (Yq (Yf c).op),Yg tt (Xz (Yf c).op),Df tt c,(Vj tt 0 c).el)=(true,some (YQ c),.call { callee:=.builtin .append,args:=#[Yx (Yf c).op 0,Yx (Yf c).op 1],argTypes:=#[Yq (Yf c).op,Xz (Yf c).op] },some (.c (.sl (YB (Yo c 0)))),some (.buf sb ty),some (.c (Ul (Yo c 1))),some (Vj tt 0 c),some (Vj tt 1 c),true,ty):=by kernel_rfl):Wc X c:=by simp only [Zr] at f;have ⟨m,g,n,o,p,q,r,u,v,e⟩:=f;have ⟨x,y⟩:=Xl m;refine Wc.ev (d:=dBa z ty c) x (Xt g rfl) (fun nk E0 F0 w0 n0 Z kz K j l h=>kV.apb (X:=X.var nk E0 F0 w0 n0 Z) lE i (b nk E0 F0 w0 n0 Z) j l n g o p q r u ?_ h) k;rw [Zc];exact ⟨ZqT v y,by rw [e];exact Nat.beq_refl _⟩
theorem eBt {m:be} (lE:kU X.P tt) (b:Rr sb m=some z) (k:Wc X (nBa z ty c))
  (d:Ul (Yo c 1)=.s m:=by kernel_rfl)
  (e:(hB X.fn.ntmps c,(Yf c).dst,(Yf c).op,Yo c 0,Yg (Yk c).M (YB (Yo c 0)),Yo c 1,Yg tt (Yq (Yf c).op),Yg tt (Xz (Yf c).op),Df tt c,(Vj tt 0 c).el)=(true,some (YQ c),.call { callee:=.builtin .append,args:=#[Yx (Yf c).op 0,Yx (Yf c).op 1],argTypes:=#[Yq (Yf c).op,Xz (Yf c).op] },some (.c (.sl (YB (Yo c 0)))),some (.buf sb ty),some (.c (Ul (Yo c 1))),some (Vj tt 0 c),some (Vj tt 1 c),true,ty):=by kernel_rfl):Wc X c:=by obtain ⟨rfl,f⟩:=ZhG b;exact eBa (ys:=Xs m) lE ⟨Zeo _ _,by rw [TV];exact f⟩ (fun _ _ _ _ _ _=>by rw [d];exact Zud) k e
theorem LN {ys:List Int} {fr:Bool} {q:Nat} (lE:kU X.P tt) (d:TR sb ys=some z) (k:Wc X (nBa z ty c))
  (b:(Ul (Yo c 1),Yg (Yk c).M q)=(.sl q,some (.own (rI .u8) ys fr)):=by kernel_rfl)
  (e:(hB X.fn.ntmps c,(Yf c).dst,(Yf c).op,Yo c 0,Yg (Yk c).M (YB (Yo c 0)),Yo c 1,Yg tt (Yq (Yf c).op),Yg tt (Xz (Yf c).op),Df tt c,(Vj tt 0 c).el)=(true,some (YQ c),.call { callee:=.builtin .append,args:=#[Yx (Yf c).op 0,Yx (Yf c).op 1],argTypes:=#[Yq (Yf c).op,Xz (Yf c).op] },some (.c (.sl (YB (Yo c 0)))),some (.buf sb ty),some (.c (Ul (Yo c 1))),some (Vj tt 0 c),some (Vj tt 1 c),true,ty):=by kernel_rfl):Wc X c:=by simp only [Zr] at b;exact eBa (ys:=ys) lE (ZnE d) (fun _ _ _ _ _ _=>by rw [b.1];exact ZlV b.2) k e
def nUd (c:Cf):Cf:=Xf (d1 c (.c (.px (YB (Yo c 0)) 0))) c
theorem eUd (b:(aF sb.size 0 || !(aY sb.size lim))=false) (k:Wc X (nUd c))
  (e:(hB X.fn.ntmps c,(Yf c).dst,(Yf c).op,Yo c 0,Yg (Yk c).M (YB (Yo c 0)))=(true,some (YQ c),.call { callee:=.builtin .unsafeSliceData,args:=#[Yx (Yf c).op 0],argTypes:=HE (Yf c).op },some (.c (.sl (YB (Yo c 0)))),some (.buf sb ty)):=by kernel_rfl):Wc X c:=by simp only [Zr] at e;have ⟨j,f,l,m,n⟩:=e;have ⟨o,p⟩:=Xl j;rw [cw] at b;exact Wc.ev (d:=d1 c (.c (.px (YB (Yo c 0)) 0))) o (Xt f rfl) (fun nk E0 F0 w0 n0 Z kz K g i h=>kV.usd (X:=X.var nk E0 F0 w0 n0 Z) g i l f m n b.1 p h) k
def nBl (sb:be) (c:Cf):Cf:=Xf (d1 c (.c (.i .i64 sb.size))) c
theorem LM (lE:kU X.P tt) (k:Wc X (nBl sb c))
  (b:(hB X.fn.ntmps c,(Yf c).dst,(Yf c).op,Yo c 0,Yg (Yk c).M (YB (Yo c 0)),Yg tt (Yq (Yf c).op),sl6 tt X.fn.ntmps c)=(true,some (YQ c),.call { callee:=.builtin .len,args:=#[Yx (Yf c).op 0],argTypes:=#[Yq (Yf c).op] },some (.c (.sl (YB (Yo c 0)))),some (.buf sb ty),some (YD tt (Yq (Yf c).op)),true):=by kernel_rfl):Wc X c:=by simp only [Zr] at b;have ⟨j,e,l,m,n,o,p⟩:=b;have ⟨q,r⟩:=Xl j;exact Wc.ev (d:=d1 c (.c (.i .i64 sb.size))) q (Xt e rfl) (fun nk E0 F0 w0 n0 Z kz K f g h=>kV.bln (X:=X.var nk E0 F0 w0 n0 Z) lE f g l e m n o p h) k
def nUs (sb:be) (c:Cf):Cf:=Xf ⟨[(YQ c,.c (.s sb))],[(YB (Yo c 0),.gone)],[],0⟩ c
theorem eUs (b:(aF sb.size 0 || !(aY sb.size lim))=false) (k:Wc X (nUs sb c))
  (e:(hB X.fn.ntmps c,(Yf c).dst,(Yf c).op,Yo c 0,Yo c 1,Yg (Yk c).M (YB (Yo c 0)),X.P.underlying (Yq (Yf c).op),X.P.cellsOf ty)=(true,some (YQ c),.call { callee:=.builtin .unsafeString,args:=#[Yx (Yf c).op 0,Yx (Yf c).op 1],argTypes:=#[Yq (Yf c).op,Xz (Yf c).op] },some (.c (.px (YB (Yo c 0)) 0)),some (.c (.i .i64 (sb.size:Int))),some (.buf sb ty),some (.pointer ty),1):=by kernel_rfl):Wc X c:=by simp only [Zr] at e;have ⟨l,f,m,n,o,p,q,r⟩:=e;have ⟨u,v⟩:=Xl l;exact Wc.ev (d:=⟨[(YQ c,.c (.s sb))],[(YB (Yo c 0),.gone)],[],0⟩) u (Xt f rfl) (fun nk E0 F0 w0 n0 Z kz K g j h=>kV.ust (X:=X.var nk E0 F0 w0 n0 Z) g j m f n o rfl p b q r v h) k
def SP (s:be):Option Unit:=bif (aF s.size 0 || !(aY s.size lim)) then none else some ()
theorem ZaT {s:be} {u:Unit} (h:SP s=some u):(aF s.size 0 || !(aY s.size lim))=false:=by
 unfold SP at h;cases b:(aF s.size 0 || !(aY s.size lim)) with
 | false=>rfl
 | true=>rw [b] at h;cases h
def nUn (c:Cf):Cf:=Xf (d1 c (.c (.v (.pointer none)))) c
theorem eUn (k:Wc X (nUn c))
  (b:(hB X.fn.ntmps c,(Yf c).dst,(Yf c).op,Yo c 0)=(true,some (YQ c),.call { callee:=.builtin .unsafeSliceData,args:=#[Yx (Yf c).op 0],argTypes:=HE (Yf c).op },some (.c .nil)):=by kernel_rfl):Wc X c:=by
 simp only [Zr] at b;have ⟨j,e,l,m⟩:=b;have ⟨n,o⟩:=Xl j;exact Wc.ev (d:=d1 c (.c (.v (.pointer none)))) n (Xt e rfl) (fun nk E0 F0 w0 n0 Z kz K f g h=>kV.val (X:=X.var nk E0 F0 w0 n0 Z) (v:=.c (.v (.pointer none))) (fun E F w a i=>⟨by have ⟨p,_⟩:=i.eval m;refine Vo l ?_;simp only [bQ,aJ,ay,p,Yt,Yn];exact Xc (Go.Lib.run_unsafeSliceData_nil _ _ _ _ _),rfl⟩) f g e o h) k
def nUz (c:Cf):Cf:=Xf (d1 c (.c (.s ao))) c
theorem eUz (k:Wc X (nUz c))
  (b:(hB X.fn.ntmps c,(Yf c).dst,(Yf c).op,Yo c 0,Yo c 1)=(true,some (YQ c),.call { callee:=.builtin .unsafeString,args:=#[Yx (Yf c).op 0,Yx (Yf c).op 1],argTypes:=#[Yq (Yf c).op,Xz (Yf c).op] },some (.c (.v (.pointer none))),some (.c (.i .i64 0))):=by kernel_rfl):Wc X c:=by
 simp only [Zr] at b;have ⟨l,f,m,n,o⟩:=b;have ⟨p,q⟩:=Xl l;exact Wc.ev (d:=d1 c (.c (.s ao))) p (Xt f rfl) (fun nk E0 F0 w0 n0 Z kz K g j h=>kV.val (X:=X.var nk E0 F0 w0 n0 Z) (v:=.c (.s ao)) (fun E F w a e=>⟨by have ⟨r,_⟩:=e.eval n;have ⟨u,_⟩:=e.eval o;refine Vo m ?_;simp only [bQ,aJ,ay,r,u,Yt,Yn];exact Xc (Lib.run_unsafeString_none w _ _ _ none),trivial⟩) g j f q h) k
def nAa (P:lK) (j:Nat) (c:Cf):Cf:=Xf (d1 c (.a (((Uk (Yo c 0)).drop (j * R8 P (XZ P (Yq (Yf c).op)))).take (R8 P (XZ P (Yq (Yf c).op)))))) c
theorem eAa {m:Int} (j:Nat) (l:m=(j:Int)) (k:Wc X (nAa X.P j c))
    (f:(hB X.fn.ntmps c,(Yf c).dst,(Yf c).op,X.P.underlying (Yq (Yf c).op),(X.P.info? (XZ X.P (Yq (Yf c).op))).map (·.size),Wh X.P (XZ X.P (Yq (Yf c).op)),(X.P.underlying (XZ X.P (Yq (Yf c).op))).isSome,aN j (Zam X.P (Yq (Yf c).op)),Yo c 0,aY (j * R8 X.P (XZ X.P (Yq (Yf c).op))+R8 X.P (XZ X.P (Yq (Yf c).op))) (Uk (Yo c 0)).length,Yo c 1)=(true,some (YQ c),.index (Yq (Yf c).op) (Yx (Yf c).op 0) (Yx (Yf c).op 1),some (.array (Zam X.P (Yq (Yf c).op)) (XZ X.P (Yq (Yf c).op))),some (R8 X.P (XZ X.P (Yq (Yf c).op))),true,true,true,some (.a (Uk (Yo c 0))),true,some (.c (.i (Uu (Yo c 1)) m))):=by kernel_rfl):Wc X c:=by simp only [Zr] at f;have ⟨p,g,q,r,u,v,x,y,z,b,e⟩:=f;have ⟨A,C⟩:=Xl p;exact Wc.ev (d:=d1 c (.a (((Uk (Yo c 0)).drop (j * R8 X.P (XZ X.P (Yq (Yf c).op)))).take (R8 X.P (XZ X.P (Yq (Yf c).op)))))) A (Xt g rfl) (fun nk E0 F0 w0 n0 Z kz K n o h=>kV.axa (X:=X.var nk E0 F0 w0 n0 Z) j l n o q g r u v x y z b e C h) k
def nBo (b:Bool) (c:Cf):Cf:=Xf (d1 c (.c (.b b))) c
theorem ePs (k:Wc X (nBo false c))
  (e:(hB X.fn.ntmps c,(Yf c).dst,(Yf c).op,X.P.underlying (Yq (Yf c).op),(X.P.info? (XZ X.P (Yq (Yf c).op))).isSome,Yo c 0,Yo c 1)=(true,some (YQ c),.binOp .neq (Yq (Yf c).op) (Yx (Yf c).op 0) (Yx (Yf c).op 1) (Xz (Yf c).op),some (.pointer (XZ X.P (Yq (Yf c).op))),true,some (.c (.bp (YB (Yo c 0)) (XI (Yo c 0)))),some (.c (.bp (YB (Yo c 0)) (XI (Yo c 0))))):=by kernel_rfl):Wc X c:=by simp only [Zr] at e;have ⟨j,f,l,m,n,o,p⟩:=e;have ⟨q,r⟩:=Xl j;exact Wc.ev (d:=d1 c (.c (.b false))) q (Xt f rfl) (fun nk E0 F0 w0 n0 Z kz K g i h=>kV.pps (X:=X.var nk E0 F0 w0 n0 Z) g i l f m n o p r h) k
theorem ePz (k:Wc X (nBo true c))
  (e:(hB X.fn.ntmps c,(Yf c).dst,(Yf c).op,X.P.underlying (Yq (Yf c).op),Yo c 0,Yo c 1)=(true,some (YQ c),.binOp .eql (Yq (Yf c).op) (Yx (Yf c).op 0) (Yx (Yf c).op 1) (Xz (Yf c).op),some (.pointer (XZ X.P (Yq (Yf c).op))),some (.c (.v (.pointer none))),some (.c (.v (.pointer none)))):=by kernel_rfl):Wc X c:=by simp only [Zr] at e;have ⟨j,f,l,m,n,o⟩:=e;have ⟨p,q⟩:=Xl j;exact Wc.ev (d:=d1 c (.c (.b true))) p (Xt f rfl) (fun nk E0 F0 w0 n0 Z kz K g i h=>kV.pnn (X:=X.var nk E0 F0 w0 n0 Z) g i l f m n o q h) k
def nSm (c:Cf):Cf:=Xf (d1 c (.c (.bp (YB (Yo c 0)) (XI (Yo c 0))))) c
theorem eCu (k:Wc X (nSm c))
  (b:(hB X.fn.ntmps c,(Yf c).dst,(Yf c).op,X.P.underlying (Yq (Yf c).op),X.P.underlying (Xz (Yf c).op),(X.P.info? (XZ X.P (Yq (Yf c).op))).map (fun j=>aF j.size 0),Yo c 0,Yg (Yk c).M (YB (Yo c 0)),aN (XI (Yo c 0)) (Qy (Yg (Yk c).M (YB (Yo c 0)))).length)=(true,some (YQ c),.convert (Yq (Yf c).op) (Xz (Yf c).op) (Yx (Yf c).op 0),some (.pointer (XZ X.P (Yq (Yf c).op))),some .unsafePointer,some false,some (.c (.bp (YB (Yo c 0)) (XI (Yo c 0)))),some (.box (Qy (Yg (Yk c).M (YB (Yo c 0)))) (GR (Yg (Yk c).M (YB (Yo c 0))))),true):=by kernel_rfl):Wc X c:=by simp only [Zr] at b;have ⟨i,e,l,m,n,o,p,q,r⟩:=b;have ⟨u,v⟩:=Xl i;exact Wc.ev (d:=d1 c (.c (.bp (YB (Yo c 0)) (XI (Yo c 0))))) u (Xt e rfl) (fun nk E0 F0 w0 n0 Z kz K f g h=>kV.cvu (X:=X.var nk E0 F0 w0 n0 Z) f g l e m n o p q r v h) k
theorem eCq (k:Wc X (nSm c))
  (b:(hB X.fn.ntmps c,(Yf c).dst,(Yf c).op,X.P.underlying (Yq (Yf c).op),X.P.underlying (Xz (Yf c).op),(X.P.info? (XZ X.P (Xz (Yf c).op))).isSome,Yo c 0,Yg (Yk c).M (YB (Yo c 0)),liesAt X.P X.P.depth (GR (Yg (Yk c).M (YB (Yo c 0)))) ((Qy (Yg (Yk c).M (YB (Yo c 0)))).length / X.P.cellsOf (GR (Yg (Yk c).M (YB (Yo c 0))))) (XI (Yo c 0)) (XZ X.P (Xz (Yf c).op)) 1)=(true,some (YQ c),.convert (Yq (Yf c).op) (Xz (Yf c).op) (Yx (Yf c).op 0),some .unsafePointer,some (.pointer (XZ X.P (Xz (Yf c).op))),true,some (.c (.bp (YB (Yo c 0)) (XI (Yo c 0)))),some (.box (Qy (Yg (Yk c).M (YB (Yo c 0)))) (GR (Yg (Yk c).M (YB (Yo c 0))))),true):=by kernel_rfl):Wc X c:=by simp only [Zr] at b;have ⟨i,e,j,l,m,n,o,p,q⟩:=b;have ⟨r,u⟩:=Xl i;exact Wc.ev (d:=d1 c (.c (.bp (YB (Yo c 0)) (XI (Yo c 0))))) r (Xt e rfl) (fun nk E0 F0 w0 n0 Z kz K f g h=>kV.cvp (X:=X.var nk E0 F0 w0 n0 Z) f g j e l m n o p q u h) k
theorem eNe {f:lN} {fn:Func} (j:X.P.funcs[f]? = some fn) (b:(fn.name == "runtime.NumGoroutine")=false) (l:fn.body.isNone=true) (e:gQ fn=none) (m:jj fn=some iY) (k:Wc X (nSm c))
  (g:(hB X.fn.ntmps c,(Yf c).dst,(Yf c).op,Yo c 0)=(true,some (YQ c),.call { callee:=.value (.func f),args:=#[Yx (Yf c).op 0],argTypes:=HE (Yf c).op },some (.c (.bp (YB (Yo c 0)) (XI (Yo c 0))))):=by kernel_rfl):Wc X c:=by simp only [Zr] at g;have ⟨p,i,q,r⟩:=g;have ⟨u,v⟩:=Xl p;exact Wc.ev (d:=d1 c (.c (.bp (YB (Yo c 0)) (XI (Yo c 0))))) u (Xt i rfl) (fun nk E0 F0 w0 n0 Z kz K n o h=>kV.nes (X:=X.var nk E0 F0 w0 n0 Z) j b l e m n o q i r v h) k
def plC (c:Cf):Cf:=.co (.code (Tt c)::.inLoop (Tt c)::c.kk) c.st
def Zqs:Cf->Bool
 | .co (.code (.loop _)::_) _=>true
 | _=>false
theorem ePl (k:Wc X (plC c)) (b:Zqs c=true:=by kernel_rfl):Wc X c:=by
 cases c with
 | no=>cases b
 | rg _ _ _ _ _=>cases b
 | co l s =>
  cases l with
  | nil=>cases b
  | cons x l =>
   cases x with
   | code y =>
    cases y with
    | loop z=>exact ⟨WP.loop k.1⟩
    | _=>cases b
   | _=>cases b
def lnC (c:Cf):Code:=match c with
 | .co (.inLoop x::_) _=>x
 | _=>.skip
def lnS (c:Cf) (s:St):Cf:=.co (.code (lnC c)::.inLoop (lnC c)::c.kk) s
def lnK (c:Cf):List Item:=.inLoop (lnC c)::c.kk
theorem ZeM {σ ρ:Type} {r:ρ} (H:σ->St) (p:Nat->σ->Option ρ) (f:∀ b,p 0 b=none)
  (d:∀ n,(∀ b,p n b=some r->WP X (lnK c) (H b))->∀ b,p (n+1) b=some r->Wc X (lnS c (H b)))
  (h:(∀ n b,p n b=some r->WP X (lnK c) (H b))->Wc X c):Wc X c:=by
 have key:∀ n b,p n b=some r->WP X (lnK c) (H b):=by
  intro n;induction n with
  | zero=>intro b e;rw [f] at e;cases e
  | succ n i=>exact fun b g=>WP.inLoop (d n i b g).1
 exact h key
end
end Go.Kx
end
namespace Go.Kx
section
variable [kg]
open Go
structure Td {α β:Type} (Φ:kS α->kS β):Prop where
 sz:∀ R R',R.sz=R'.sz->(Φ R).sz=(Φ R').sz
 sub:∀ R R',R.sz=R'.sz->(∀ F w x vs,R.rep F w x vs->R'.rep F w x vs)->∀ F w x vs,(Φ R).rep F w x vs->(Φ R').rep F w x vs
variable {α:Type}
theorem Zks:Td (fun R:kS α=>R):=⟨fun _ _ h=>h,fun _ _ _ h=>h⟩
variable {β:Type}
theorem Tw (S:kS β):Td (fun _:kS α=>S):=⟨fun _ _ _=>rfl,fun _ _ _ _ _ _ _ _ h=>h⟩
variable {Φ:kS α->kS β}
theorem Zkr {γ:Type} (f:γ->β) (h:Td Φ):Td (fun R=>rM f (Φ R)) :=
 ⟨fun R R' e=>h.sz R R' e,fun R R' e s F w x b c=>h.sub R R' e s F w (f x) b c⟩
theorem Tv {γ:Type} {Ψ:kS α->kS γ} (h:Td Φ) (k:Td Ψ):Td (fun R=>rP (Φ R) (Ψ R)):=by
 refine ⟨fun R R' e=>?_,fun R R' e s F w x i c=>?_⟩
 ·show (Φ R).sz+(Ψ R).sz=(Φ R').sz+(Ψ R').sz;rw [h.sz R R' e,k.sz R R' e]
 ·have ⟨a,b,d,f,g⟩:=c;exact ⟨a,b,d,h.sub R R' e s _ _ _ _ f,k.sub R R' e s _ _ _ _ g⟩
theorem SlR.more {R R':kS α} (e:R.sz=R'.sz) (s:∀ F w x c,R.rep F w x c->R'.rep F w x c) {F:YI} {w:lG} {xs:List α} {v:lH} (h:SlR R F w xs v):SlR R' F w xs v:=by
 rcases h with h | ⟨b,off,cap,arr,el,fz,l,m,n,o,p⟩
 ·exact .inl h
 ·refine .inr ⟨b,off,cap,arr,el,fz,l,m,n,o,fun i x d=>?_⟩;have ⟨c,g,k⟩:=p i x d;exact ⟨c,s _ _ _ _ g,fun j v f=>by rw [<- e];exact k j v f⟩
theorem Zbb (h:Td Φ):Td (fun R=>YH (Φ R)):=by refine ⟨fun _ _ _=>rfl,fun R R' e s F w xs f b=>?_⟩;have ⟨v,c,d⟩:=b;exact ⟨v,c,SlR.more (h.sz R R' e) (h.sub R R' e s) d⟩
def Zk6 (α:Type) (n:Nat) (hn:0 < n):kS α where
 sz:=n
 pos:=hn
 rep _ _ _ vs:=vs.length=n/\∀ v∈vs,v.oneCell'=true
 len h:=h.1
 mono _ h:=h
 one h:=h.2
def QY (Φ:kS α->kS α) (n:Nat) (hn:0 < n) (hs:∀ R,R.sz=n->(Φ R).sz=n):kS α where
 sz:=n
 pos:=hn
 rep F w x vs:=∀ R:kS α,R.sz=n->(∀ F w x vs,(Φ R).rep F w x vs->R.rep F w x vs)->R.rep F w x vs
 len h:=(h (Zk6 α n hn) rfl (fun _ _ _ _ k=>⟨by rw [(Φ _).len k];exact hs _ rfl,(Φ _).one k⟩)).1
 mono g h:=fun R e k=>R.mono g (h R e k)
 one h:=(h (Zk6 α n hn) rfl (fun _ _ _ _ k=>⟨by rw [(Φ _).len k];exact hs _ rfl,(Φ _).one k⟩)).2
theorem ZfP {Φ:kS α->kS α} {n:Nat} {f:0 < n} {b:∀ R,R.sz=n->(Φ R).sz=n} (g:Td Φ) (F:YI) (w:lG) (x:α) (d:List lH) :
  (QY Φ n f b).rep F w x d↔(Φ (QY Φ n f b)).rep F w x d:=by
 have c:∀ F w x d,(Φ (QY Φ n f b)).rep F w x d->(QY Φ n f b).rep F w x d:=by intro F w x d h R e k;exact k _ _ _ _ (g.sub (QY Φ n f b) R e.symm (fun _ _ _ _ q=>q R e k) _ _ _ _ h)
 refine ⟨fun h=>?_,c F w x d⟩;exact h (Φ (QY Φ n f b)) (b _ rfl) (fun _ _ _ _ q=>g.sub _ _ (b _ rfl) c _ _ _ _ q)
def kX.of {R R':kS α} (h:∀ F w x vs,R.rep F w x vs↔R'.rep F w x vs) (o:kX R'):kX R where
 nk:=o.nk
 cells:=o.cells
 facts:=o.facts
 ok hr:=o.ok ((h _ _ _ _).1 hr)
 chk:=o.chk
 cok hc E F w hV:=(h _ _ _ _).2 (o.cok hc E F w hV)
 T:=o.T
 lq:=o.lq
 rq:=o.rq
 eqn:=o.eqn
end
section
variable [kg]
variable {α:Type}
def Ue (f:α->Nat):List α->Nat
 | []=>0
 | x::l=>f x+Ue f l
def k6 (P:lK) (B:Bulk) (m:Nat) (t:lI) (R:kS α) (ok:α->Prop) (wt:α->Nat):Prop:=R.sz=P.cellsOf t /\
 ∀ {H:Type} (enc:lI × lH->H) (w:lG) (fuel:Nat) (cs:List lH) (x:DataW H × List MemPlace),fuel<=m->iA enc P w 0 (fun _=>true) true fuel t cs=some x->B.f x.1<=bd ->
  ∃ a,R.rep (Ui w) w a cs/\ok a/\wt a<=B.f x.1
section
variable {P:lK} {B:Bulk} {t:lI}
variable {m:Nat} {α:Type} {ok:α->Prop}
theorem k6.of {R:kS α} (h:Rdb P B t R ok):k6 P B m t R ok (fun _=>0) :=
 ⟨h.1,fun enc w b cs x _ c d=>by have ⟨a,e,f⟩:=h.2 enc w b cs x c d;exact ⟨a,e,f,dY _⟩⟩
variable {wt:α->Nat}
theorem k6.zero {R:kS α} (h:R.sz=P.cellsOf t):k6 P B 0 t R ok wt :=
 ⟨h,fun enc w b cs x d c e=>by
  obtain rfl:b=0:=by omega
  simp [iA] at c⟩
theorem k6.less {n:Nat} {R:kS α} (h:k6 P B m t R ok wt) (e:n<=m):k6 P B n t R ok wt :=
 ⟨h.1,fun enc w b cs x f c d=>h.2 enc w b cs x (by omega) c d⟩
theorem k6.conv {R R':kS α} {b:α->Prop} {c:α->Nat} (h:k6 P B m t R ok wt) (f:R'.sz=R.sz) (g:∀ F w x e,R.rep F w x e->R'.rep F w x e) (i:∀ a,ok a->b a) (j:∀ a,c a<=wt a):k6 P B m t R' b c :=
 ⟨by rw [f];exact h.1,fun enc w d cs x k l n=>by have ⟨a,o,p,q⟩:=h.2 enc w d cs x k l n;exact ⟨a,g _ _ _ _ o,i a p,bT (j a) q⟩⟩
theorem Rdb.ofW {R:kS α} (h:∀ m,k6 P B m t R ok wt):Rdb P B t R (fun x=>ok x/\wt x<=bd) :=
 ⟨(h 0).1,fun enc w b cs x d c=>by have ⟨a,e,f,g⟩:=(h b).2 enc w b cs x (Zq _) d c;exact ⟨a,e,f,bT g c⟩⟩
theorem Zmq {B:Bulk} {H:Type} {α:Type} {wt:α->Nat}:∀ {xs:List α} {es:List (DataW H × List MemPlace)},xs.length=es.length->(∀ (i:Nat) (x:α),xs[i]? = some x->∃ y:DataW H × List MemPlace,es[i]? = some y/\wt x<=B.f y.1)->Ue wt xs<=B.all (es.map (·.1))
  | [],_,_,_=>dY _
  | x::xs,[],h,_=>by cases h
  | x::xs,e::es,h,hx=>by
    obtain ⟨y,b,d⟩:=hx 0 x rfl;simp only [aX,aR] at b;subst b;have:=Zmq (B:=B) (wt:=wt) (xs:=xs) (es:=es) (by simpa using h) fun i c hi=>by have:=hx (i+1) c (by simpa using hi);simpa using this
    rw [aJ,B.cons];show wt x+Ue wt xs<=_;omega
theorem k6.slice {R:kS α} {e:lI} (hu:P.underlying t=some (.slice e)) (k:P.cellsOf t=1) (I:k6 P B m e R ok wt) :
    k6 P B (m+1) t (YH R) (fun xs=>xs.length<=bd/\∀ x∈xs,ok x) (Ue wt):=⟨k.symm,fun enc w Y cs x Z h hb=>by
  rcases DataW.trod_slice hu h with ⟨rfl,_⟩ | ⟨a,len,cap,b,kz,n,hn,rfl,rfl,_,hlc,_,A,hx,_⟩
  · exact ⟨[],⟨_,rfl,.inl ⟨rfl,_,_,rfl⟩⟩,⟨by simp [bd],by simp⟩,dY _⟩
  · simp only at hb;rw [B.slice] at hb;have C:=B.len (b.map (·.1));rw [aM,A] at C;have l:0 < P.cellsOf e:=by rw [<- I.1];exact R.pos
    have key:∀ i,i < len->∃ x,∃ cs y,w.cells? 0 (a.add (i * P.cellsOf e)) (P.cellsOf e)=some cs/\b[i]? = some y/\R.rep (Ui w) w x cs/\ok x/\wt x<=B.f y.1:=fun i hi=>by
      have h1:=hx i hi;have d:i < b.length:=by omega
      rw [Za d,Option.bind_eq_some_iff] at h1;have ⟨cs,h2,h3⟩:=h1;have S:b[i].1∈b.map (·.1):=aQ.2 ⟨_,dR d,rfl⟩;obtain ⟨x,h4,h5,h6⟩:=I.2 enc w n cs _ (by omega) h3 (by have:=B.mem S;omega);exact ⟨x,cs,_,h2,Za d,h4,h5,h6⟩
    have ⟨xs,K,H⟩:=Ze0 key;have T:∀ x∈xs,ok x:=fun x Z=>by have ⟨i,hi⟩:=List.mem_iff_getElem?.1 Z;have ⟨_,_,_,_,_,h,_⟩:=H i x hi;exact h
    have hws:Ue wt xs<=B.all (b.map (·.1)):=Zmq (by rw [K,A]) fun i x hi=>by have ⟨_,y,_,hy,_,_,h⟩:=H i x hi;exact ⟨y,hy,h⟩
    have U:Ue wt xs<=B.f (DataW.slice (b.map (·.1)) (kz.map (·.1))):=by rw [B.slice];omega
    refine ⟨xs,⟨_,rfl,?_⟩,⟨by omega,T⟩,U⟩;rcases Nat.eq_zero_or_pos len with N | N
    · subst N;have:xs=[]:=a8 K;subst this;exact .inl ⟨rfl,_,_,rfl⟩
    · -- the block
      have g:∀ i j cs,i < len->w.cells? 0 (a.add (i * P.cellsOf e)) (P.cellsOf e)=some cs->j < P.cellsOf e->w.cell? ((a.add (i * P.cellsOf e)).add j)=cs[j]? := fun i j cs _ k G=>by unfold jL at k;rw [lg (dY _)] at k;have:=mapM_some_get k j j (by simp [G]);exact this
      have D:∀ i cs,w.cells? 0 (a.add (i * P.cellsOf e)) (P.cellsOf e)=some cs->cs.length=P.cellsOf e:=fun i cs k=>by unfold jL at k;rw [lg (dY _)] at k;simpa using mapM_some_length k
      obtain ⟨L,M⟩:∃ L,xs[0]? = some L:=⟨_,Za (by omega)⟩
      have ⟨q,y0,r,_,_,_,_⟩:=H 0 L M;have c:=g 0 0 q N r l;have o:(a.add (0 * P.cellsOf e)).add 0=a:=by unfold Addr.add;simp
      rw [o,Za (by rw [D 0 q r];exact l)] at c;unfold World.cell? at c;split at c
      · rename_i arr ty fz O;cases p:a.spot with
        | some s=>rw [p] at c;simp at c
        | none =>
          have ha:a=⟨a.block,a.off,none⟩:=by cases a;simp at p;simp [p]
          have d:a.block < w.heap.size:=(aV.1 O).1;refine .inr ⟨a.block,a.off,cap,arr,ty,fz,by rw [K,<- ha],by omega,d,O,fun i x hi=>?_⟩;have ⟨cs,y,u,_,z,_,_⟩:=H i x hi;have V:i < len:=by have:=(aE.1 hi).1;omega
          refine ⟨cs,z,fun j v G=>?_⟩;have W:j < P.cellsOf e:=by have:=(aE.1 G).1;rw [D i cs u] at this;exact this
          have:=g i j cs V u W;rw [ha,Ww,Ww,Ry O,G] at this;rw [I.1];exact this
      · cases c⟩
variable {β:Type}
def ke (P:lK) (B:Bulk) (m:Nat) (fs:List Field) (off:Nat) (R:kS β) (ok:β->Prop) (wt:β->Nat):Prop :=
  ∀ {H:Type} (enc:lI × lH->H) (w:lG) (n:Nat) (cs:List lH) (xs:List (DataW H × List MemPlace)),n<=m->xs.length=fs.length ->
    (∀ (i:Nat) (f:Field),fs[i]? = some f->iA enc P w 0 (fun _=>true) true n f.type ((cs.drop f.offset).take (P.cellsOf f.type))=xs[i]?)->B.all (xs.map (·.1))<=bd ->
    ∃ y,R.rep (Ui w) w y ((cs.drop off).take R.sz)/\ok y/\wt y<=B.all (xs.map (·.1))
theorem ke.one {f:Field} {R:kS α} (h:k6 P B m f.type R ok wt):ke P B m [f] f.offset R ok wt:=fun enc w n cs xs d e g b=>by obtain ⟨x,rfl⟩:=List.length_eq_one_iff.1 e;have c:=g 0 f rfl;simp only [aX] at c;simp only [aJ,ay] at b;rw [B.cons,B.nil] at b;have ⟨a,i,j,k⟩:=h.2 enc w n _ x d c (by omega);rw [h.1];refine ⟨a,i,j,?_⟩;simp only [aJ,ay];rw [B.cons,B.nil];omega
theorem ke.cons {f:Field} {fs:List Field} {off:Nat} {h:kS α} {j:kS β} {c:α->Prop} {d:β->Prop} {e:α->Nat} {g:β->Nat} (k:k6 P B m f.type h c e) (v:ke P B m fs off j d g) (z:off=f.offset+h.sz) :
  ke P B m (f::fs) f.offset (rP h j) (fun y=>c y.1/\d y.2) (fun y=>e y.1+g y.2):=fun enc w n cs xs l o p q=>by
 cases xs with
 | nil=>cases o
 | cons x xs =>
  have u:=p 0 f rfl;simp only [aX] at u;simp only [aJ] at q;rw [B.cons] at q;have ⟨a,r,D,I⟩:=k.2 enc w n _ x l u (by omega);have ⟨b,G,H,K⟩:=v enc w n cs xs l (by simpa using o) (fun i A C=>by have:=p (i+1) A (by simpa using C);simpa using this) (by omega);rw [<- k.1] at r;refine ⟨(a,b),⟨_,_,?_,r,G⟩,⟨D,H⟩,by simp only [aJ];rw [B.cons];omega⟩;rw [z,<- List.drop_drop];exact List.take_add
theorem k6.struct {f:α->β} {g:β->α} {R:kS β} {ok:β->Prop} {wt:β->Nat} {fs:List Field} (k:P.underlying t=some (.struct fs.toArray)) (c:P.cellsOf t=R.sz) (b:∀ y,f (g y)=y) (h:ke P B m fs 0 R ok wt) :
    k6 P B (m+1) t (rM f R) (fun x=>ok (f x)) (fun x=>wt (f x)+1):=⟨c.symm,fun enc w d cs x z l e=>by
  obtain ⟨xs,n,p,rfl,q,r,u⟩:=DataW.trod_struct k l;simp only at e;rw [B.agg] at e;have ⟨y,j,v,A⟩:=h enc w n cs xs (by omega) (by simpa using r) (fun i o hi=>u i o (by simpa using hi)) (by omega);rw [List.drop_zero,<- c,<- q,List.take_length] at j;refine ⟨g y,?_,?_,?_⟩
  · show R.rep _ _ (f (g y)) cs;rw [b];exact j
  · show ok (f (g y));rw [b];exact v
  · show wt (f (g y))+1<=B.f (DataW.agg (xs.map (·.1)));rw [b,B.agg];omega⟩
end
theorem Zow {P:lK} {t ty:lI} {W:TD} (ok:TD.Ok P t W) (hk:aF W.kd 6=true) {R:kS α} (hR:W.es=R.sz) {F:YI} {w:lG} {xs:List α} {v zv:lH} {l h:Option Int} {p:Nat × Nat} {z:α} {o:List lH}
  (Y:kW R F w xs v) (hp:WJ l h xs.length=some p) (Z:∀ w,(zeroValue W.el).run P w=.ok zv w) (H:(bX zv.cells (p.2-p.1)).toList=o) (x:kZ R F w (aP (p.2-p.1) z) o)
  (I:∀ u∈o,u.oneCell'=true) (hF:∀ b,YV v=some b->¬ F b) :
  ∃ w',(jl #[t] ty #[XM l h R.sz v]).run P w=.ok (.tuple #[]) w'/\kW R F w' (xs.take p.1++aP (p.2-p.1) z++xs.drop p.2) v/\w'.os=w.os/\w'.tape=w.tape/\Oq w w'/\w.heap.size<=w'.heap.size /\
   (∀ b,YV v≠some b->w'.heap[b]? = w.heap[b]?):=by
 have ⟨i,hu,hi,hsz,_⟩:=ok.slc hk;have ⟨q1,q2,q3,q4⟩:=Py hp;have ⟨K,L⟩:=Zao hp;have hle:p.1<=p.2:=by rw [q4];simp;omega
 have O:p.2<=xs.length:=by rw [q4];simp;omega
 by_cases hn0:p.2-p.1=0
 ·have e12:p.2=p.1:=by omega
  refine ⟨w,?_,by rw [hn0,e12];simpa using Y,rfl,rfl,.m,Zq _,fun _ _=>rfl⟩;have ⟨a,c,hv⟩:=GI Y;have f:∃ a' c',XM l h R.sz v=.slice a' 0 c':=by rw [hv,UI,<- K,<- L,hn0];exact ⟨_,_,rfl⟩
  have ⟨a',c',f⟩:=f;rw [f];cases a'<;>simp [jl,Xk hu]
 ·rcases Y with ⟨rfl,rfl⟩ | ⟨b,off,cap,arr,el,fz,rfl,hc,hs,ht,hh,hr⟩
  ·simp at O;exact absurd (by omega) hn0
  ·have q:cap≠p.1:=fun e=>by omega
   have f:XM l h R.sz (.slice (some ⟨b,off,none⟩) xs.length cap)=.slice (some ⟨b,off+p.1 * R.sz,none⟩) (p.2-p.1) (cap-p.1):=by rw [UI,<- K,<- L];simp [q,Ww]
   have r:o.length=(p.2-p.1) * R.sz:=by rw [x.1,List.length_replicate]
   have S:p.2 * R.sz<=cap * R.sz:=aS _ (by omega);have hsum:p.1 * R.sz+(p.2-p.1) * R.sz=p.2 * R.sz:=by rw [<- bC];congr 1;omega
   have T:=R4 (P:=P) b (off+p.1 * R.sz) el fz o 0 arr w hh ht (by rw [r];omega) I
   let d:=(arr.toList.take (off+p.1 * R.sz+0)++o++arr.toList.drop (off+p.1 * R.sz+0+o.length)).toArray
   have g:d.size=arr.size:=by simp only [d,bU,ah,aL,bg,aq];omega
   have hg:X3 F w F (w.setRow b d):=⟨fun _ h=>h,fun b' A=>lR w b b' _ (fun e=>hF b rfl (e ▸ A))⟩
   have ⟨M,C,N,_⟩:=hr.cellsOf;have U:kZ R F (w.setRow b d) (xs.take p.1++aP (p.2-p.1) z++xs.drop p.2) (M.take (p.1 * R.sz)++o++M.drop (p.2 * R.sz)) :=
    ((((C.take (by omega)).append x).append (C.drop _)).mono hg)
   have k:(M.take (p.1 * R.sz)).length=p.1 * R.sz:=by rw [aL,C.1];exact Nat.min_eq_left (aS _ (by omega))
   have D:∀ (j:Nat) u,(M.take (p.1 * R.sz)++o++M.drop (p.2 * R.sz))[j]? = some u->d[off+j]? = some u:=by
    intro j u n;have hal:arr.toList.length=arr.size:=aq;simp only [d,cU,bu];rw [aU] at n ⊢;have G:(arr.toList.take (off+p.1 * R.sz)).length=off+p.1 * R.sz:=by rw [aL,hal];omega
    by_cases V:j < p.1 * R.sz
    ·rw [Zo (by rw [k];exact V),aj,lg V] at n;rw [Zo (by rw [G];omega),aj,lg (by omega)];have:=N j u n;simpa using this
    ·rw [Zp (by rw [k];omega),k] at n;rw [Zp (by rw [G];omega),G];have e2:off+j-(off+p.1 * R.sz)=j-p.1 * R.sz:=by omega
     rw [e2];by_cases hj2:j-p.1 * R.sz < (p.2-p.1) * R.sz
     ·rw [Zo (by rw [r];exact hj2)] at n ⊢;exact n
     ·rw [Zp (by rw [r];omega),r] at n ⊢;rw [bJ] at n ⊢;have e3:p.2 * R.sz+(j-p.1 * R.sz-(p.2-p.1) * R.sz)=j:=by omega
      rw [e3] at n;have e4:off+p.1 * R.sz+(p.2-p.1) * R.sz+(j-p.1 * R.sz-(p.2-p.1) * R.sz)=off+j:=by omega
      rw [e4];have:=N j u n;simpa using this
   have y:(xs.take p.1++aP (p.2-p.1) z++xs.drop p.2).length=xs.length:=by simp;omega
   refine ⟨w.setRow b d,?_,.inr ⟨b,off,cap,d,el,fz,by rw [y],by rw [y];exact hc,by rw [g];exact hs,by rw [g];exact ht,setRow_heap w b arr _ el fz hh,U.row D⟩,rfl,rfl,.m,by simp,fun b' A=>lR w b b' _ (fun e=>A (by rw [e];rfl))⟩;rw [f];obtain ⟨m,hm⟩:∃ m,p.2-p.1=m+1:=⟨p.2-p.1-1,by omega⟩
   rw [hm] at H ⊢;simp only [bu] at T;simp [jl,Xk hu,Z,H,T,d]
section
variable {X:kl} {s:St} {ops:Array lM} {lB:lP->lG->Prop} {tt:List (Nat × TD)}
def LG {α:Type} (z:α) (xs:List α) (l h:Option Int):Option (List α):=(WJ l h xs.length).map fun p=>xs.take p.1++aP (p.2-p.1) z++xs.drop p.2
structure ZhB {α:Type} (P:lK) (R:kS α) (el:lI) (z:α) (zv:lH):Prop where
 run:∀ w,(zeroValue el).run P w=.ok zv w
 row:∀ n F w,kZ R F w (aP n z) (bX zv.cells n).toList
 one:∀ n,∀ u∈(bX zv.cells n).toList,u.oneCell'=true
theorem kV.clr {α:Type} {R:kS α} (lE:kU X.P tt) {i:Nat} {kz:List Nat} {o:lM} {t:lI} {j:TD} {x:lL} {k K:Nat} {fr:Bool} {xs r:List α} {l h:Option Int} {z:α} {H:lH}
  (m:LG z xs l h=some r) (hZ:ZhB X.P R j.el z H) (I:ops[i]? = some o) (N:Y3 ops s.L o=some true) (n:o.op=.call { callee:=.builtin .clear,args:=#[x],argTypes:=#[t] }) (O:o.dst=none)
  (S:Yr s.L x=some (.c (.sl K))) (hV:Yg s.V K=some (.vw k l h R.sz)\/(K=k/\l=none/\h=none)) (q:Yg s.M k=some (.own R xs fr)) (T:Yg tt t=some j)
  (G:(aF j.kd 6 && aF j.es R.sz)=true)
  (U:kV X ops kz lB ⟨s.L,(k,.own R r fr)::s.M,s.V,s.nx⟩):kV X ops (i::kz) lB s:=by
 refine kV.op I N (fun E F w a f=>?_) U;simp only [Zc] at G;have ⟨W,Y⟩:=G;have ⟨Z,_⟩:=f.eval S;have C:=f.mF k _ q;have d:kW R F w xs (E.ρ k):=f.hM k _ q;have D:E.ρ K=XM l h R.sz (E.ρ k):=by
  rcases hV with h | ⟨rfl,rfl,rfl⟩
  ·exact f.hV K _ h
  ·have ⟨b,c,hv⟩:=GI d;rw [hv];rw [UI];simp only [RH,Option.getD_none,Int.toNat_zero,Nat.sub_zero,Nat.zero_mul];cases b with
   | none=>simp
   | some b =>
    have:b.add 0=b:=by unfold Addr.add;simp
    simp [this]
 unfold LG at m;rw [Zn] at m;obtain ⟨p,hp,rfl⟩:=m;obtain ⟨w',g,A,g1,g2,g3,g4,g5⟩:=Zow (ty:=o.type) (lE.get T) W (Zd Y) d hp hZ.run rfl (hZ.row _ _ _) (hZ.one _) (fun b u=>(C b u).1);refine XB (v:=.tuple #[]) (w':=w') (Vo n ?_) ?_
 ·simp only [bQ,aJ,ay,Z,Yt];have:Yn E (.sl K)=XM l h R.sz (E.ρ k):=D;rw [this];exact Xc g
 ·have s1:=f.setM (m':=.own R (xs.take p.1++aP (p.2-p.1) z++xs.drop p.2) fr) q g1 g2 g3 g4 (fun b _ y=>g5 b (fun e=>y e)) (fun b u=>u) A trivial (fun h=>h);rw [O];exact ⟨E,F,s1⟩
end
theorem Zw7 {P:lK} {el:lI} {f:TD} (h:TD.Ok P el f) {z:be} (m:f.z=[.s z]):∃ b,ZhB P rS el z b:=by
 have ⟨i,b,o,_,_,p,q⟩:=h.info;have r:b.cells=#[.string z]:=by have:=q ⟨fun _=>.bool true,fun _=>0⟩;rw [m] at this;simpa [Yn] using this
 have l:∀ n,(bX b.cells n).toList=aP n (.string z):=by
  intro n;unfold bX;rw [r];apply List.ext_getElem?;intro j;rw [Array.getElem?_toList,Array.getElem?_map,bG];by_cases c:j < n
  ·rw [lg c,dG (by simpa using c)];simp [Nat.mod_one]
  ·rw [lh c,jO (by simpa using c)];rfl
 refine ⟨b,?_,?_,?_⟩
 ·intro w;simp [zeroValue,typeInfo,o,p]
 ·intro n F w;rw [l];refine ⟨by simp [rS],fun j x d=>?_⟩;rw [bG] at d;split at d
  ·cases d;rename_i c;refine ⟨[.string z],rfl,fun k v e=>?_⟩;cases k with
   | succ k=>simp at e
   | zero =>
    simp only [aX,aR] at e;subst e;show (aP n (Value.string z))[j * 1+0]? = _;rw [bG,lg (by omega)]
  ·cases d
 ·intro n u g;rw [l] at g;rw [List.eq_of_mem_replicate g];rfl
section
variable {X:kl} {tt:List (Nat × TD)}
def dCe (r:List be) (c:Cf):Dl:=⟨[],[((Xx (Yg (Yk c).V (YB (Yo c 0)))),.own rS r (WT (Yg (Yk c).M (Xx (Yg (Yk c).V (YB (Yo c 0)))))))],[],0⟩
def nCe (r:List be) (c:Cf):Cf:=Xf (dCe r c) c
theorem eCe {xs:List be} {lo hi:Option Int} {r:List be} {c:Cf} (lE:kU X.P tt) (g:LG (str []) xs lo hi=some r) (k:Wc X (nCe r c))
  (e:(VB c,(Yf c).dst,(Yf c).op,Yo c 0,Yg (Yk c).M (Xx (Yg (Yk c).V (YB (Yo c 0)))),Yg tt (Yq (Yf c).op),(aF (YD tt (Yq (Yf c).op)).kd 6 && aF (YD tt (Yq (Yf c).op)).es 1),Yg (Yk c).V (YB (Yo c 0)),Yg tt (YD tt (Yq (Yf c).op)).el,(YD tt (YD tt (Yq (Yf c).op)).el).z) =
   (true,none,.call { callee:=.builtin .clear,args:=#[Yx (Yf c).op 0],argTypes:=#[Yq (Yf c).op] },some (.c (.sl (YB (Yo c 0)))),some (.own rS xs (WT (Yg (Yk c).M (Xx (Yg (Yk c).V (YB (Yo c 0))))))),some (YD tt (Yq (Yf c).op)),true,some (.vw (Xx (Yg (Yk c).V (YB (Yo c 0)))) lo hi 1),some (YD tt (YD tt (Yq (Yf c).op)).el),[.s (str [])]):=by kernel_rfl):Wc X c:=by simp only [Zr] at e;have ⟨l,f,m,n,o,p,q,u,v,b⟩:=e;have ⟨x,hZ⟩:=Zw7 (lE.get v) b;refine Wc.ev (d:=dCe r c) l (by rw [f];rfl) (fun nk E0 F0 w0 n0 Z kz K i j h=>kV.clr (X:=X.var nk E0 F0 w0 n0 Z) (R:=rS) lE g hZ i j m f n (.inl u) o p q h) k
end
end
section
open Go.Proofs
def XF (xs:List be):List (List UInt8):=xs.map (·.data.toList)
theorem Zjw (x:be):encStr x.data.toList=.string x:=by show Value.string ⟨x.data.toList.toArray⟩=.string x;rw [dX]
variable {D:List (List UInt8)} {arr:Array lH} {b:Nat} {el:lI} {off:Nat} {w:lG}
theorem Zp8 {n:Nat} {e:Array Obj} {fz:Nat × Nat} (d:w.heap[b]? = some (.cells arr el fz)) :
  (cM (bR encStr (bW w n) b off D.toArray) e).heap[b]? = some (.cells (cE encStr off D.toArray arr) el fz):=by have c:b < w.heap.size:=(aV.1 d).1;rw [eE _ _ (by simpa [bR,ca,bW] using c)];simp [bR,ca,bW,eD,d,Go.Sort.onCells]
theorem ZjM {c n:Nat} {f:Array Obj} (g:b < w.heap.size) (d:b≠c) :
  (cM (bR encStr (bW w n) c off D.toArray) f).heap[b]? = w.heap[b]? := by rw [eE _ _ (by simpa [bR,ca,bW] using g)];have:¬ c=b:=fun e=>d e.symm;simp [bR,ca,bW,eD,this]
theorem ZlL {n:Nat} {c:Array Obj}:w.heap.size<=(cM (bR encStr (bW w n) b off D.toArray) c).heap.size:=by simp [cM,bR,ca,bW]
theorem ZjN {F:YI} {xs:List be} {cap:Nat} {fz:Nat × Nat} (n:xs.length<=cap) (e:off+cap * rS.sz<=arr.size) (h:TQ fz arr.size)
  (f:w.heap[b]? = some (.cells arr el fz)) (i:Row rS F w xs arr off):gK encStr w b off (XF xs).toArray:=by
 intro j g;have d:j < xs.length:=by simpa [XF] using g
 have ⟨k,c,l⟩:=i j xs[j] (Za d);have c:k=[.string xs[j]]:=c;subst c;have m:=l 0 _ rfl;have e:off+cap<=arr.size:=by simpa [rS] using e
 refine ⟨?_,?_⟩
 ·unfold World.cell?;rw [f];have:(XF xs).toArray[j]! = xs[j].data.toList:=by rw [getElem!_pos _ j g];simp [XF]
  show arr[off+j]? = some (encStr _);rw [this,Zjw];simpa [rS] using m
 ·unfold World.frozen?;rw [f];exact h (off+j) (by omega)
variable {ds:List be}
theorem ZkT {F:YI} {cap n:Nat} {h:Array Obj} {fz:Nat × Nat} (k:∀ (i:Nat) x,ds[i]? = some x->D[i]? = some x.data.toList) (u:D.length<=cap) (c:ds.length<=cap)
  (d:off+cap * rS.sz<=arr.size) (l:TQ fz arr.size) (m:w.heap[b]? = some (.cells arr el fz)) :
  kW rS F (cM (bR encStr (bW w n) b off D.toArray) h) ds (.slice (some ⟨b,off,none⟩) ds.length cap):=by
 refine .inr ⟨b,off,cap,cE encStr off D.toArray arr,el,fz,rfl,c,by simpa [cE] using d,by simpa [cE] using l,Zp8 m,fun i x o=>⟨[.string x],rfl,fun j v e=>?_⟩⟩;cases j with
 | succ j=>simp at e
 | zero =>
  simp only [aX,aR] at e;subst e;have hi:=k i x o;have f:i < D.length:=(aE.1 hi).1;have d:off+cap<=arr.size:=by simpa [rS] using d
  have g:off+i * 1+0 < arr.size:=by omega
  show (cE encStr off D.toArray arr)[off+i * 1+0]? = _;unfold cE;rw [Array.getElem?_mapIdx,dG g];have p:off<=off+i * 1+0/\off+i * 1+0 < off+D.toArray.size:=⟨by omega,by simp;omega⟩
  have q:off+i * 1+0-off=i:=by omega
  have r:D.toArray[i]! = x.data.toList:=by rw [getElem!_pos _ i (by simpa using f)];have:=(aE.1 hi).2;simpa using this
  simp only [Option.map_some,p,and_self,l9,q,r,Zjw]
variable [kg]
theorem Zrz {P:lK} {f:lN} {xs:List be} (o:Lj P f) (j:ds.length=xs.length)
  (q:∀ b off cap w,gK encStr w b off (XF xs).toArray->b < w.heap.size->xs.length<=cap->Calls P f #[.slice (some ⟨b,off,none⟩) xs.length cap] w fun e w'=>e=.returned (.tuple #[])/\∃ n I,w'=cM (bR encStr (bW w n) b off (XF ds).toArray) I)
  (l:xs=[]->∀ p cap w,Calls P f #[.slice p 0 cap] w fun e w'=>e=.returned (.tuple #[])/\w'=w) :
  Fn P f ⟨1,[.c (.sl 0)],[],[(0,.own rS xs false)],1,.t [],[],[(0,.own rS ds false)]⟩:=by
 refine ⟨o,fun E F w C=>?_⟩;have g:kW rS F w xs (E.ρ 0):=C.M 0 (.own rS xs false) rfl;have z:=C.mF 0 (.own rS xs false) rfl;have A:∀ w',kW rS F w' ds (E.ρ 0)->Ext (fun b=>b < w.heap.size/\¬ Ct.fp0 ⟨1,[.c (.sl 0)],[],[(0,.own rS xs false)],1,.t [],[],[(0,.own rS ds false)]⟩ E b) w w' ->
   Ct.Post ⟨1,[.c (.sl 0)],[],[(0,.own rS xs false)],1,.t [],[],[(0,.own rS ds false)]⟩ E F w E F w':=fun w' O r=>{
  env:=km.Eqb.refl _ _
  one:=C.one
  V:=fun k f h=>nomatch h
  M:=fun k m h=>by
   rw [YF] at h;split at h
   ·rename_i e;cases h;subst e;exact O
   ·cases h
  dis:=fun k Y m m' h D d=>by
   rw [YF] at h D;split at h
   ·split at D
    ·rename_i T U;exact absurd (T.symm.trans U) d
    ·cases D
   ·cases h
  mF:=fun k m h b u=>by
   rw [YF] at h;split at h
   ·rename_i e;cases h;subst e;exact ⟨(z b u).1,Zh (z b u).2 r.size,.inl ⟨0,_,rfl,u⟩⟩
   ·cases h
  fresh:=fun k m h R=>by
   rw [YF] at h;split at h
   ·cases h;cases R
   ·cases h
  F0:=fun _ h=>h
  F1:=fun _ h=>.inl h
  Fs:=fun b h=>Zh (C.hF b h) r.size
  ext:=r }
 show Calls P f #[E.ρ 0] w _;by_cases d:xs=[]
 ·have W:ds=[]:=a8 (by rw [j,d];rfl);have y:∃ p cap,E.ρ 0=.slice p 0 cap:=by
   rcases g with ⟨_,h⟩ | ⟨b,off,cap,_,_,_,h,_⟩
   ·exact ⟨_,_,h⟩
   ·rw [d] at h;exact ⟨_,_,h⟩
  have ⟨p,cap,y⟩:=y;have:=l d p cap w;rw [<- y] at this;refine this.mono ?_;rintro e w' ⟨rfl,rfl⟩;exact ⟨E,F,rfl,A _ (by rw [W,<- d];exact g) (Ext.refl _ _)⟩
 ·rcases g with ⟨h,_⟩ | ⟨b,off,cap,arr,el,fz,G,K,L,N,H,y⟩
  ·exact absurd h d
  ·have u:b < w.heap.size:=(aV.1 H).1;have:=q b off cap w (ZjN K L N H y) u K;rw [<- G] at this;refine this.mono ?_;rintro e w' ⟨rfl,n,I,rfl⟩;refine ⟨E,F,rfl,A _ ?_ ⟨rfl,rfl,⟨rfl,.inr (bO _ _)⟩,ZlL,fun S v=>ZjM v.1 fun e=>v.2 ⟨0,_,rfl,?_⟩⟩⟩
   ·rw [G,<- j];exact ZkT (fun i x r=>by simp [XF,r]) (by simp [XF];omega) (by omega) L N H
   ·show YV (E.ρ 0)=some S;rw [G,e];rfl
theorem Zuq {P:lK} {f:lN} {xs:List be} (z:Lj P f) (l:ds.length<=xs.length)
  (A:∀ b off cap w,gK encStr w b off (XF xs).toArray->b < w.heap.size->xs.length<=cap->Calls P f #[.slice (some ⟨b,off,none⟩) xs.length cap] w fun e w'=>e=.returned (.slice (some ⟨b,off,none⟩) ds.length cap)/\∃ n T,∃ D:List (List UInt8),w'=cM (bR encStr (bW w n) b off D.toArray) T/\D.length<=xs.length/\∀ (i:Nat) x,ds[i]? = some x->D[i]? = some x.data.toList)
  (o:xs=[]->∀ p cap w,Calls P f #[.slice p 0 cap] w fun e w'=>e=.returned (.slice p 0 cap)/\w'=w) :
  Fn P f ⟨1,[.c (.sl 0)],[],[(0,.own rS xs false)],2,.c (.sl 1),[],[(1,.own rS ds false),(0,.gone)]⟩:=by
 refine ⟨z,fun E F w L=>?_⟩;have j:kW rS F w xs (E.ρ 0):=L.M 0 (.own rS xs false) rfl;have I:=L.mF 0 (.own rS xs false) rfl;have K:∀ v w',(∀ b,YV v=some b->YV (E.ρ 0)=some b)->kW rS F w' ds v->Ext (fun b=>b < w.heap.size/\¬ Ct.fp0 ⟨1,[.c (.sl 0)],[],[(0,.own rS xs false)],2,.c (.sl 1),[],[(1,.own rS ds false),(0,.gone)]⟩ E b) w w' ->
   ∃ y H,v=Yt y (.c (.sl 1))/\Ct.Post ⟨1,[.c (.sl 0)],[],[(0,.own rS xs false)],2,.c (.sl 1),[],[(1,.own rS ds false),(0,.gone)]⟩ E F w y H w':=fun v w' N Y O=>by
  have q:(E.setρ 1 v).ρ 1=v:=by simp [km.setρ]
  refine ⟨E.setρ 1 v,F,by show v=(E.setρ 1 v).ρ 1;rw [q],{
   env:=E.eqb_setρ _ _ _ (Zq _)
   one:=fun k=>by
    simp only [km.setρ];split
    ·exact Zhs Y
    ·exact L.one k
   V:=fun k f h=>nomatch h
   M:=fun k m h=>by
    rw [YF] at h;split at h
    ·rename_i e;cases h;subst e;show kW rS F w' ds ((E.setρ 1 v).ρ 1);rw [q];exact Y
    ·rw [YF] at h;split at h
     ·cases h;trivial
     ·cases h
   dis:=fun k k' m m' h u d=>by
    rw [YF] at h u;split at h
    ·split at u
     ·rename_i e1 e2;exact absurd (e1.symm.trans e2) d
     ·rw [YF] at u;split at u
      ·cases u;exact fun b _ g=>g
      ·cases u
    ·rw [YF] at h;split at h
     ·cases h;exact fun b g=>g.elim
     ·cases h
   mF:=fun k m h b g=>by
    rw [YF] at h;split at h
    ·rename_i e;cases h;subst e;have g:YV ((E.setρ 1 v).ρ 1)=some b:=g;rw [q] at g;have r:=N b g;exact ⟨(I b r).1,Zh (I b r).2 O.size,.inl ⟨0,_,rfl,r⟩⟩
    ·rw [YF] at h;split at h
     ·cases h;exact g.elim
     ·cases h
   fresh:=fun k m h Z=>by
    rw [YF] at h;split at h
    ·cases h;cases Z
    ·rw [YF] at h;split at h
     ·cases h;cases Z
     ·cases h
   F0:=fun _ h=>h
   F1:=fun _ h=>.inl h
   Fs:=fun b h=>Zh (L.hF b h) O.size
   ext:=O }⟩
 show Calls P f #[E.ρ 0] w _;by_cases d:xs=[]
 ·have hd:ds=[]:=a8 (by rw [d] at l;simpa using l);have G:∃ p cap,E.ρ 0=.slice p 0 cap:=by
   rcases j with ⟨_,h⟩ | ⟨b,off,cap,_,_,_,h,_⟩
   ·exact ⟨_,_,h⟩
   ·rw [d] at h;exact ⟨_,_,h⟩
  have ⟨p,cap,G⟩:=G;have:=o d p cap w;rw [<- G] at this;refine this.mono ?_;rintro e w' ⟨rfl,rfl⟩;have ⟨y,H,R,S⟩:=K _ _ (fun b h=>h) (by rw [hd,<- d];exact j) (Ext.refl _ _);exact ⟨y,H,lj _ R,S⟩
 ·rcases j with ⟨h,_⟩ | ⟨b,off,cap,arr,el,fz,q,hc,ha,ht,W,G⟩
  ·exact absurd h d
  ·have g:b < w.heap.size:=(aV.1 W).1;have:=A b off cap w (ZjN hc ha ht W G) g hc;rw [<- q] at this;refine this.mono ?_;rintro e w' ⟨rfl,n,T,D,rfl,hD1,U⟩;have ⟨y,H,R,S⟩:=K _ (cM (bR encStr (bW w n) b off D.toArray) T) (fun b' h=>by rw [q];exact h) (ZkT U (by omega) (by omega) ha ht W) ⟨rfl,rfl,⟨rfl,.inr (bO _ _)⟩,ZlL,fun b' C=>ZjM C.1 fun e=>C.2 ⟨0,_,rfl,(by show YV (E.ρ 0)=some b';rw [q,e];rfl)⟩⟩;exact ⟨y,H,lj _ R,S⟩
end
section
def Se (l:List UInt8):be:=⟨l.toArray⟩
theorem Zfu (x:be):Se x.data.toList=x:=by unfold Se;rw [dX]
theorem Zuz (l:List UInt8):(Se l).data.toList=l:=by simp [Se]
theorem Zmc (l:List (List UInt8)):XF (l.map Se)=l:=by
 unfold XF;rw [cD]
 conv=>rhs;rw [<- List.map_id l]
 exact bH fun x _=>Zuz x
theorem Zkm (xs:List be):(XF xs).map Se=xs:=by
 unfold XF;rw [cD]
 conv=>rhs;rw [<- List.map_id xs]
 exact bH fun x _=>Zfu x
def S8 (xs:List be):List be:=bif aY xs.length 1 then xs else ((XF xs).mergeSort fun x y=>decide (x<=y)).map Se
theorem Zmd (xs:List be):XF (S8 xs)=(XF xs).mergeSort fun x y=>decide (x<=y):=by
 unfold S8
 match xs with
 | []=>simp [XF]
 | [x]=>show XF [x]=_;simp [XF]
 | x::y::r =>
  have:aY (x::y::r).length 1=false:=by
   cases h:aY (x::y::r).length 1 with
   | false=>rfl
   | true=>have:=Ze h;simp at this
  rw [this,lW,Zmc]
theorem ZlQ (xs:List be):(S8 xs).Perm xs:=by have h:=(List.mergeSort_perm (XF xs) fun x y=>decide (x<=y)).map Se;rw [<- Zmd,Zkm,Zkm] at h;exact h
theorem Zf8 (xs:List be):(S8 xs).length=xs.length:=(ZlQ xs).length_eq
def TX (xs:List be):List be:=bif aY xs.length 1 then xs else (fE (XF xs)).map Se
theorem Zgf (xs:List be):XF (TX xs)=fE (XF xs):=by
 unfold TX
 match xs with
 | []=>rfl
 | [x] =>
  show XF [x]=_
  rw [Go.Lib.compact_all]
  intro j b
  exact ju _ j (by simpa [XF] using b)
 | x::y::r =>
  have:aY (x::y::r).length 1=false:=by
   cases h:aY (x::y::r).length 1 with
   | false=>rfl
   | true=>have:=Ze h;simp at this
  rw [this,lW,Zmc]
theorem ZoC {α:Type} [Inhabited α] [DecidableEq α] (zs:List α):(fE zs).length<=zs.length:=by unfold fE kB;rw [aM];refine bT (List.length_filter_le _ _) ?_;simp
theorem Zaw (xs:List be):(TX xs).length<=xs.length:=by have h:=ZoC (XF xs);rw [<- Zgf] at h;simpa [XF] using h
theorem Zrv {α:Type} [Inhabited α] [DecidableEq α] (zs:List α) (x:α):x∈fE zs↔x∈zs:=by
 unfold fE kB;constructor
 ·intro h;rw [aQ] at h;obtain ⟨j,b,rfl⟩:=h;have b:=b8.1 (gR.1 b).1;have:zs.toArray[j]! = zs[j]:=by rw [getElem!_pos _ j (by simpa using b)];simp
  rw [this];exact dR b
 ·intro h;obtain ⟨i,hi,rfl⟩:=List.getElem_of_mem h;rw [aQ];have key:∀ i,∀ hi:i < zs.length,∃ j,j∈(cK zs.length).filter (Go.Lib.keeps zs.toArray)/\zs.toArray[j]! = zs[i]:=by
   intro i;induction i with
   | zero =>
    intro hi;refine ⟨0,gR.2 ⟨b8.2 hi,ju _ 0 (by omega)⟩,?_⟩;rw [getElem!_pos _ 0 (by simpa using hi)];simp
   | succ i l =>
    intro hi;by_cases f:Go.Lib.keeps zs.toArray (i+1)=true
    ·refine ⟨i+1,gR.2 ⟨b8.2 hi,f⟩,?_⟩;rw [getElem!_pos _ (i+1) (by simpa using hi)];simp
    ·have d:zs.toArray[i+1]! = zs.toArray[i+1-1]! := by refine bx fun c=>f (Go.Lib.keeps_pos c)
     have ⟨j,b,e⟩:=l (by omega);refine ⟨j,b,e.trans ?_⟩;have g:zs.toArray[i+1]! = zs[i+1]:=by rw [getElem!_pos _ (i+1) (by simpa using hi)];simp
     have k:zs.toArray[i+1-1]! = zs[i]:=by rw [Nat.add_sub_cancel,getElem!_pos _ i (show i < zs.toArray.size by simp;omega)];simp
     rw [g,k] at d;exact d.symm
  exact key i hi
theorem Zru (xs:List be) (x:be):x∈TX xs↔x∈xs:=by
 have h:=Zrv (XF xs) x.data.toList;rw [<- Zgf] at h;have key:∀ l:List be,x.data.toList∈XF l↔x∈l:=by
  intro l;unfold XF;rw [aQ];constructor
  ·rintro ⟨y,b,e⟩;have:Se y.data.toList=Se x.data.toList:=by rw [e]
   rw [Zfu,Zfu] at this;rw [<- this];exact b
  ·exact fun h=>⟨x,h,rfl⟩
 rw [key,key] at h;exact h
end
section
variable [kg]
section
variable {X:kl} {s:St} {ops:Array lM} {lB:lP->lG->Prop} {tt:List (Nat × TD)}
def RQ (n:Nat) (v:lH):Prop:=∃ b c,v=.slice b n c
theorem kV.lnv {i:Nat} {kz:List Nat} {o:lM} {t:lI} {g:TD} {x:lL} {d k len:Nat} (lE:kU X.P tt)
  (j:ops[i]? = some o) (l:Y3 ops s.L o=some true) (e:o.op=.call { callee:=.builtin .len,args:=#[x],argTypes:=#[t] }) (m:o.dst=some d)
  (n:Yr s.L x=some (.c (.sl k))) (hV:Yg s.V k=some (.fn (RQ len))) (p:Yg tt t=some g) (f:(aN d X.fn.ntmps && aF g.kd 6)=true)
  (q:kV X ops kz lB ⟨(d,.c (.i .i64 len))::s.L,s.M,s.V,s.nx⟩):kV X ops (i::kz) lB s:=by simp only [Zc] at f;refine kV.val (v:=.c (.i .i64 len)) (fun E F w a h=>⟨?_,trivial⟩) j l m f.1 q;have ⟨el,r,z⟩:=(lE.get p).sliceOf f.2;have ⟨u,_⟩:=h.eval n;obtain ⟨b,cap,y⟩:RQ len (E.ρ k):=h.hV k _ hV;refine Vo e ?_;simp only [bQ,aJ,ay,u,Yt,Yn,y];exact Xc (by simp [dk,Xk r,dw,goInt])
theorem eLn {len:Nat} {c:Cf} (lE:kU X.P tt) (k:Wc X (Xf (d1 c (.c (.i .i64 len))) c))
  (b:(hB X.fn.ntmps c,(Yf c).dst,(Yf c).op,Yo c 0,Yg (Yk c).V (YB (Yo c 0)),Yg tt (Yq (Yf c).op),sl6 tt X.fn.ntmps c) =
   (true,some (YQ c),.call { callee:=.builtin .len,args:=#[Yx (Yf c).op 0],argTypes:=#[Yq (Yf c).op] },some (.c (.sl (YB (Yo c 0)))),some (.fn (RQ len)),some (YD tt (Yq (Yf c).op)),true):=by kernel_rfl):Wc X c:=by simp only [Zr] at b;have ⟨j,e,l,m,n,o,p⟩:=b;have ⟨q,r⟩:=Xl j;exact Wc.ev (d:=d1 c (.c (.i .i64 len))) q (Xt e rfl) (fun nk E0 F0 w0 n0 Z kz K f g h=>kV.lnv (X:=X.var nk E0 F0 w0 n0 Z) lE f g l e m n o p h) k
end
end
end Go.Kx
