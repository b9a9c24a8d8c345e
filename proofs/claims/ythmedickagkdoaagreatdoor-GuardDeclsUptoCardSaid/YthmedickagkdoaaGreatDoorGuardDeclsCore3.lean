/- Aids for the walks, part 3: a symbolic state of the machine, and that each step of the machine keeps it. -/
import Derived.Scope
import Derived.KernelRfl
import Derived.Sort.AssemblyPlain
import Derived.Shelf.SlSortCmp.Insertion
import Derived.Shelf.SlSortCmp.NoneTotal
import Derived.Lib.LaidTab
import Derived.Lib.Builder
import Derived.Lib.UnsafeStr
import Derived.Sort.EncStr
import Derived.Sort.Grow
import Derived.Lib.SlicesCompact
import Derived.MapKept
import Derived.Test.YthmedickagkdoaaGreatDoorGuardDeclsCore2
set_option linter.all false
namespace Go.Kx
section
variable [LxP]
structure Dl:Type 1 where
 dL:List (Nat × SV)
 dM:List (Nat × MO)
 dV:List (Nat × VF)
 n:Nat
def Dl.ap (d:Dl) (s:St):St:=⟨d.dL++s.L,d.dM++s.M,d.dV++s.V,s.nx+d.n⟩
inductive Cf:Type 1
 | co (k:List Item) (s:St)
 | rg (m:Option (Nat × St × List Ent)) (ops:Array Oper) (i:Nat) (k:List Item) (s:St)
 | no
def Wd (X:Ctx):Cf->Prop
 | .co k s=>WP X k s
 | .rg none ops i k s=>WPr X ops (List.range' i (ops.size-i)) (rk X k) s
 | .rg (some q) ops i k _=>AllLS X ops 0 q.2.2->q.2.2.length=i->WP X (.code (.region q.1 ops true)::k) q.2.1
 | .no=>False
structure Wc (X:Ctx) (c:Cf):Prop where
 h:Wd X c
def ZrG (ops:Array Oper) (o:Oper):List Nat:=(match o.guard with
 | none=>[]
 | some (j,_)=>match ops[j]? with
  | some oj=>oj.dst.toList
  | none=>[])++tmpsO o.op.operands.toList
where tmpsO:List Operand->List Nat
 | []=>[]
 | .tmp t::r=>t::tmpsO r
 | _::r=>tmpsO r
def Zfh (L:List (Nat × SV)):List Nat->List (Nat × SV)
 | []=>[]
 | d::r=>match ZQ L d with
  | some v=>(d,v)::Zfh L r
  | none=>Zfh L r
def ZpR:SC->List Nat
 | .bp k _ | .sp k _ _ _ | .sl k | .px k _=>[k]
 | .cl _ fs ks=>fs++ks
 | _=>[]
def ZaA:List SC->List Nat
 | []=>[]
 | c::r=>ZpR c++ZaA r
def ZnO:SV->List SC
 | .c x=>[x]
 | .a cs=>cs
 | .t vs=>vs.flatMap fun v=>match v with | .inl x=>[x] | .inr cs=>cs
 | .u=>[]
def ZeV:List (Nat × SV)->List Nat
 | []=>[]
 | q::r=>ZaA (ZnO q.2)++ZeV r
def ZaZ {α:Type _} (ks:List Nat):List (Nat × α)->List Nat->List (Nat × α)
 | [],_=>[]
 | (k,v)::r,seen=>bif RR k ks && !(RR k seen) then (k,v)::ZaZ ks r (k::seen) else ZaZ ks r seen
def BV (V:List (Nat × VF)):List Nat->List Nat
 | []=>[]
 | k::r=>match ZQ V k with
  | some (.el j _)=>k::j::BV V r
  | some (.vw j _ _ _)=>k::j::BV V r
  | _=>k::BV V r
def Zep (M:List (Nat × MO)) (V:List (Nat × VF)):Nat->List Nat->List Nat->List Nat
 | 0,_,acc=>acc
 | _+1,[],acc=>acc
 | n+1,k::r,acc=>bif RR k acc then Zep M V n r acc else
  Zep M V n ((match ZQ M k with | some (.box cs _)=>ZaA cs | _=>[])++(match ZQ V k with | some (.el j _)=>[j] | some (.vw j _ _ _)=>[j] | some (.pl cs)=>ZaA cs | _=>[])++r) (k::acc)
def Zpl:Op->Bool
 | .call c=>match c.callee with
  | .value _=>true
  | _=>false
 | _=>false
def Zq3:Op->Bool
 | .move _ | .assign _ | .pick _ _ _ | .unOp _ _ _ | .extract _ _ | .field _ _ _ | .build _ _ | .alloc _ | .box _ _ | .nilCheck _ | .fieldAddr _ _ _ | .makeFunc _ _ _=>true
 | _=>false
def Zq4 (o:Oper) (L:List (Nat × SV)) (V:List (Nat × VF)):Bool:=Zq3 o.op || match o.op with
 | .call c=>match c.callee with
  | .builtin .len=>match c.args.toList with
   | [x]=>match Yd L x with
    | some (.c (.sl k))=>match ZQ V k with
     | some (.fn _)=>true
     | _=>false
    | _=>false
   | _=>false
  | _=>false
 | _=>false
def Zsw (o:Oper) (L:List (Nat × SV)) (s:St):List Nat:=match o.op with
 | .load _ x=>match Yd L x with
  | some (.c (.v _))=>(s.M.filterMap fun p=>match p.2 with | .abs _=>some p.1 | _=>none)++s.V.filterMap fun p=>match p.2 with | .fn _=>some p.1 | _=>none
  | _=>[]
 | _=>[]
def Zd8:List (Nat × MO)->List Nat
 | []=>[]
 | (k,.abs _)::r=>k::Zd8 r
 | _::r=>Zd8 r
def ZrH (ops:Array Oper) (o:Oper) (s:St):St :=
 let L:=Zfh s.L (ZrG ops o)
 let ks:=bif Zpl o.op then Zep s.M s.V 10000 (ZeV L) []++Zd8 s.M else BV s.V (ZeV L)++Zsw o L s
 ⟨L,bif Zq4 o L s.V then [] else ZaZ ks s.M [],ZaZ ks s.V [],s.nx⟩
def MX (sv:St) (d:Dl):Ent:=⟨sv.L,sv.V,sv.M.filter (fun q=>V9 q.1 d.dM),sv.M.filter (fun q => !(V9 q.1 d.dM)),sv.nx,d.dL,d.dV,d.dM,sv.nx+d.n⟩
def UZ (m:Option (Nat × St × List Ent)) (ops:Array Oper) (o:Oper) (s:St):St:=match m with
 | none=>s
 | some _=>ZrH ops o s
def Ls (m:Option (Nat × St × List Ent)) (ops:Array Oper) (i:Nat) (k:List Item) (s sv:St) (d:Dl):Cf:=match m with
 | none=>.rg none ops (i+1) k (d.ap s)
 | some q=>.rg (some (q.1,q.2.1,q.2.2++[MX sv d])) ops (i+1) k (d.ap s)
theorem AllLS.snoc {X:Ctx} {ops:Array Oper}:∀ {l:List Ent} {i:Nat} {e:Ent},AllLS X ops i l->LS X ops (i+l.length) e->AllLS X ops i (l++[e])
 | [],i,e,_,h=>.cons h .nil
 | x::l,i,e,.cons h1 h2,h=>.cons h1 (AllLS.snoc h2 (by rw [show i+1+l.length=i+(x::l).length by simp;omega];exact h))
theorem Gn {α:Type _} {p:Nat->Bool}:∀ {l:List (Nat × α)} {k:Nat},ZQ (l.filter fun q=>p q.1) k=bif p k then ZQ l k else none
 | [],k=>by cases p k<;>rfl
 | (j,u)::r,k=>by
  rw [List.filter_cons]
  simp only []
  rw [YG]
  split
  ·rename_i b
   rw [YG,Gn]
   split
   ·rename_i e;subst e;rw [b];rfl
   ·rfl
  ·rename_i b
   rw [Gn]
   split
   ·rename_i e;subst e;simp only [Bool.not_eq_true] at b;rw [b];rfl
   ·rfl
theorem LS.ent {X:Ctx} {ops:Array Oper} {i:Nat} {o:Oper} {b:St} {d:Dl} (x:ops[i]? = some o) (y:YO ops b.L o=some true) (z:d.dL.map (·.1)=o.dst.toList)
    (A:∀ nk E0 F0 w0 n0 Z E F w a,Sat (X.var nk E0 F0 w0 n0 Z) b E F w a->o.wp X.P a w (fun r w'=>∃ g j,Sat (X.var nk E0 F0 w0 n0 Z) (d.ap b) g j w' r) (fun _ _ _=>False)):LS X ops i (MX b d):=by
  refine ⟨o,x,z,.inl ⟨y,fun nk E0 F0 w0 n0 Z E F w a C=>?_⟩⟩
  have key:∀ k m,ZQ b.M k=some m->ZQ ((MX b d).W++(MX b d).R) k=some m:=fun k m h=>by
    show ZQ (b.M.filter (fun q=>V9 q.1 d.dM)++b.M.filter (fun q => !(V9 q.1 d.dM))) k=some m
    rw [XS,Gn (p:=fun k=>V9 k d.dM),Gn (p:=fun k => !(V9 k d.dM))]
    cases c:V9 k d.dM with
    | true=>simp only [cond_true,h]
    | false=>simp only [cond_false,Bool.not_false,cond_true,h]
  have n:Sat (X.var nk E0 F0 w0 n0 Z) b E F w a:=C.weaken rfl (fun _ _ h=>h) key (fun _ _ h=>h)
  refine Oper.wp_imp (fun r w' c=>?_) (A nk E0 F0 w0 n0 Z E F w a n)
  have ⟨g,j,l⟩:=c
  refine ⟨g,j,l.weaken rfl (fun e v h=>?_) (fun k m h=>?_) (fun k f h=>?_)⟩
  · have h:ZQ d.dL e=some v:=h
    show ZQ (d.dL++b.L) e=some v
    rw [XS,h]
  · have h:ZQ (d.dM++b.M.filter (fun q => !(V9 q.1 d.dM))) k=some m:=h
    show ZQ (d.dM++b.M) k=some m
    rw [XS] at h ⊢
    cases u:ZQ d.dM k with
    | some v=>rw [u] at h;exact h
    | none =>
      rw [u] at h
      simp only [] at h ⊢
      rw [Gn (p:=fun k => !(V9 k d.dM))] at h
      cases c:V9 k d.dM with
      | true=>rw [c] at h;cases h
      | false=>rw [c] at h;exact h
  · have h:ZQ d.dV k=some f:=h
    show ZQ (d.dV++b.V) k=some f
    rw [XS,h]
section
variable {X:Ctx} {tt:List (Nat × TD)}
theorem Gw {ops:Array Oper} {i:Nat} {o:Oper} (h:ops[i]? = some o):List.range' i (ops.size-i)=i::List.range' (i+1) (ops.size-(i+1)):=by
 have:=(Array.getElem?_eq_some_iff.1 h).1
 rw [show ops.size-i=(ops.size-(i+1))+1 by omega,List.range'_succ]
theorem Zlv {m:Option (Nat × St × List Ent)} {ops:Array Oper} {i:Nat} {k:List Item} {s:St} {o:Oper} {d:Dl} (b:ops[i]? = some o) (c:YO ops (UZ m ops o s).L o=some true) (g:d.dL.map (·.1)=o.dst.toList)
    (e:∀ nk E0 F0 w0 n0 Z E F w a,Sat (X.var nk E0 F0 w0 n0 Z) (UZ m ops o s) E F w a->o.wp X.P a w (fun j w'=>∃ n p,Sat (X.var nk E0 F0 w0 n0 Z) (d.ap (UZ m ops o s)) n p w' j) (fun _ _ _=>False))
    (h:Wc X (Ls m ops i k s (UZ m ops o s) d)):Wc X (.rg m ops i k s):=by
  have ⟨h⟩:=h
  refine ⟨?_⟩
  cases m with
  | none =>
    show WPr X ops (List.range' i (ops.size-i)) (rk X k) s
    rw [Gw b]
    exact WPr.op b c (e X.nk X.E0 X.F0 X.w0 X.n0 X.Z) h
  | some q =>
    intro l f
    refine h (l.snoc ?_) (by simp [f])
    rw [Nat.zero_add,f]
    exact LS.ent b c g e
theorem Zsd {m:Option (Nat × St × List Ent)} {ops:Array Oper} {i:Nat} {k:List Item} {s:St} {o:Oper} {d:Nat} (c:ops[i]? = some o) (e:YO ops (UZ m ops o s).L o=some false) (f:o.dst=some d) (g:Nat.blt d X.fn.ntmps=true)
  (h:Wc X (Ls m ops i k s (UZ m ops o s) ⟨[(d,.u)],[],[],0⟩)):Wc X (.rg m ops i k s):=by
 have ⟨h⟩:=h
 refine ⟨?_⟩
 cases m with
 | none =>
  show WPr X ops (List.range' i (ops.size-i)) (rk X k) s
  rw [Gw c]
  exact WPr.skip c e f (YT g) h
 | some q =>
  intro n j
  refine h (n.snoc ?_) (by simp [j])
  rw [Nat.zero_add,j]
  exact ⟨o,c,by show [d]=_;rw [f];rfl,.inr ⟨e,fun l v b=>by
   have b:(l,v)∈[(d,SV.u)]:=b
   simp only [List.mem_singleton,Zp] at b
   exact ⟨b.2,by rw [b.1];exact YT g⟩,rfl,rfl⟩⟩
def ZfG (tt:List (Nat × TD)) (n:Nat) (o:Oper):St->Option Dl
 | ⟨L,M,V,nx⟩=>match o.op with
  | .alloc t=>match ZQ tt t with
   | some d=>match o.dst with
    | some x=>bif Nat.blt x n then some ⟨[(x,.c (.bp nx 0))],[(nx,.box d.z t)],[],1⟩ else none
    | none=>none
   | none=>none
  | .box t v=>match Yd L v with
   | some sv=>match Ve sv with
    | some cs=>match o.dst with
     | some x=>bif Nat.blt x n then some ⟨[(x,.c (.bp nx 0))],[(nx,.box cs t)],[],1⟩ else none
     | none=>none
    | none=>none
   | none=>none
  | .store t ad v=>match ZQ tt t with
   | some d=>match Yd L ad with
    | some (.c (.bp k off))=>match Yd L v with
     | some sv=>match Ve sv with
      | some ps=>match ZQ M k with
       | some (.box cs t')=>bif (Nat.beq ps.length d.sz && Nat.ble (off+ps.length) cs.length) then (match o.dst with
        | none=>some ⟨[],[(k,.box (cs.take off++ps++cs.drop (off+ps.length)) t')],[],0⟩
        | some _=>none) else none
       | _=>none
      | none=>none
     | none=>none
    | _=>none
   | none=>none
  | op=>match GM tt ⟨L,M,V,nx⟩ op with
   | some v=>match o.dst with
    | some x=>bif Nat.blt x n then some ⟨[(x,v)],[],[],0⟩ else none
    | none=>none
   | none=>none
theorem Zsc {n:Nat} {o:Oper} {s:St} {d:Dl} (h:ZfG tt n o s=some d):ZaW tt n o s=some (d.ap s)/\d.dL.map (·.1)=o.dst.toList:=by
  have ⟨L,M,V,nx⟩:=s
  have ⟨dst,p,ty,pos,q,g⟩:=o
  unfold ZfG at h
  unfold ZaW
  simp only [] at h ⊢
  split at h
  · rename_i t
    cases e:ZQ tt t with
    | none=>rw [e] at h;cases h
    | some l =>
      rw [e] at h
      simp only [] at h ⊢
      cases dst with
      | none=>cases h
      | some x =>
        simp only [] at h ⊢
        cases b:Nat.blt x n with
        | false=>rw [b] at h;cases h
        | true=>rw [b] at h;cases h;refine ⟨?_,rfl⟩;simp only [e,b,cond_true];rfl
  · rename_i t v
    cases c:Yd L v with
    | none=>rw [c] at h;cases h
    | some j =>
      rw [c] at h
      simp only [] at h ⊢
      cases f:Ve j with
      | none=>rw [f] at h;cases h
      | some cs =>
        rw [f] at h
        simp only [] at h ⊢
        cases dst with
        | none=>cases h
        | some x =>
          simp only [] at h ⊢
          cases b:Nat.blt x n with
          | false=>rw [b] at h;cases h
          | true=>rw [b] at h;cases h;refine ⟨?_,rfl⟩;simp only [c,f,b,cond_true];rfl
  · rename_i t A v
    cases e:ZQ tt t with
    | none=>rw [e] at h;cases h
    | some l =>
      rw [e] at h
      simp only [] at h ⊢
      split at h
      · rename_i k off i
        cases c:Yd L v with
        | none=>rw [c] at h;cases h
        | some j =>
          rw [c] at h
          simp only [] at h ⊢
          cases f:Ve j with
          | none=>rw [f] at h;cases h
          | some m =>
            rw [f] at h
            simp only [] at h ⊢
            split at h
            · rename_i cs C r
              cases b:(Nat.beq m.length l.sz && Nat.ble (off+m.length) cs.length) with
              | false=>rw [b] at h;cases h
              | true =>
                rw [b] at h
                simp only [cond_true] at h ⊢
                cases dst with
                | some x=>cases h
                | none =>
                  cases h
                  refine ⟨?_,rfl⟩;simp only [e,i,c,f,r,b,cond_true];rfl
            · cases h
      · cases h
  · rename_i u y z
    cases c:GM tt ⟨L,M,V,nx⟩ p with
    | none=>rw [c] at h;cases h
    | some v =>
      rw [c] at h
      simp only [] at h
      cases dst with
      | none=>cases h
      | some x =>
        simp only [] at h
        cases b:Nat.blt x n with
        | false=>rw [b] at h;cases h
        | true =>
          rw [b] at h;cases h
          refine ⟨?_,rfl⟩
          split
          · exact (u _ rfl).elim
          · exact (y _ _ rfl).elim
          · exact (z _ _ _ rfl).elim
          · simp only [c,b,cond_true];rfl
theorem WP.scope {X:Ctx} {s:St} {k:List Item} {c:Code} (h:WP X (.code c::.inScope c::k) s):WP X (.code (.scope c)::k) s :=
 fun E F w a b=>Runs.head (fun _ _ _ _=>.one step_scope) (h E F w a b)
theorem WP.inScope {X:Ctx} {s:St} {k:List Item} {c:Code} (h:WP X k s):WP X (.inScope c::k) s :=
 fun E F w a b=>Runs.head (fun _ _ _ _=>.one step_inScope) (h E F w a b)
def a1 (tt:List (Nat × TD)) (nt:Nat):Cf->Cf
 | .co k s=>match k with
  | .inBlock _::k'=>.co k' s
  | .inScope _::k'=>.co k' s
  | .code c::k'=>match c with
   | .seq x y=>.co (.code x::.code y::k') s
   | .skip=>.co k' s
   | .label _=>.co k' s
   | .block id x=>.co (.code x::.inBlock id::k') s
   | .scope x=>.co (.code x::.inScope x::k') s
   | .exit id=>match exitTo id k' with
    | some k2=>.co k2 s
    | none=>.no
   | .region id ops dr=>match dr with
    | true=>.rg (some (id,s,[])) ops 0 k' s
    | false=>.rg none ops 0 k' s
   | .cond x y z=>match x with
    | .tmp d=>match ZQ s.L d with
     | some (.c (.b t))=>match t with
      | true=>.co (.code y::k') s
      | false=>.co (.code z::k') s
     | _=>.no
    | .const (.bool t)=>match t with
     | true=>.co (.code y::k') s
     | false=>.co (.code z::k') s
    | _=>.no
   | _=>.no
  | _=>.no
 | .rg m ops i k s=>match ops[i]? with
  | none=>match m with
   | none=>bif Nat.beq i ops.size then .co k s else .no
   | some _=>.no
  | some o=>match YO ops (UZ m ops o s).L o with
   | some true=>match ZfG tt nt o (UZ m ops o s) with
    | some d=>Ls m ops i k s (UZ m ops o s) d
    | none=>.no
   | some false=>match o.dst with
    | some d=>bif Nat.blt d nt then Ls m ops i k s (UZ m ops o s) ⟨[(d,.u)],[],[],0⟩ else .no
    | none=>.no
   | none=>.no
 | .no=>.no
def X6 (tt:List (Nat × TD)) (nt:Nat):Nat->Cf->Cf
 | 0,c=>c
 | n+1,c=>X6 tt nt n (a1 tt nt c)
theorem ZhS (htt:TTOk X.P tt) {c:Cf} (h:Wc X (a1 tt X.fn.ntmps c)):Wc X c:=by
 unfold a1 at h
 split at h
 ·split at h
  ·exact ⟨WP.inBlock h.1⟩
  ·exact ⟨WP.inScope h.1⟩
  ·split at h
   ·exact ⟨WP.seq h.1⟩
   ·exact ⟨WP.skip h.1⟩
   ·exact ⟨WP.label h.1⟩
   ·exact ⟨WP.block h.1⟩
   ·exact ⟨WP.scope h.1⟩
   ·split at h
    ·rename_i p;exact ⟨WP.exit p h.1⟩
    ·exact h.1.elim
   ·split at h
    ·exact ⟨h.1 .nil rfl⟩
    ·refine ⟨WP.region ?_⟩
     have h:WPr X _ (List.range' 0 (_-0)) _ _:=h.1
     rw [List.range_eq_range'];exact h
   ·split at h
    ·split at h
     ·rename_i j
      split at h
      ·exact ⟨WP.condT rfl j h.1⟩
      ·exact ⟨WP.condF rfl j h.1⟩
     ·exact h.1.elim
    ·split at h
     ·exact ⟨WP.condCT h.1⟩
     ·exact ⟨WP.condCF h.1⟩
    ·exact h.1.elim
   ·exact h.1.elim
  ·exact h.1.elim
 ·rename_i m ops i k s
  split at h
  ·rename_i e
   split at h
   ·cases b:Nat.beq i ops.size with
    | false=>rw [b] at h;exact h.1.elim
    | true =>
     rw [b] at h
     refine ⟨?_⟩
     show WPr X ops (List.range' i (ops.size-i)) (rk X k) s
     rw [Zd b,Nat.sub_self]
     exact WPr.nil h.1
   ·exact h.1.elim
  ·rename_i o e
   split at h
   ·rename_i f
    split at h
    ·rename_i d g
     have ⟨l,n⟩:=Zsc g
     exact Zlv e f n (fun nk E0 F0 w0 n0 Z=>Zsb (X:=X.var nk E0 F0 w0 n0 Z) htt l) h
    ·exact h.1.elim
   ·rename_i f
    split at h
    ·rename_i d g
     cases b:Nat.blt d X.fn.ntmps with
     | false=>rw [b] at h;exact h.1.elim
     | true=>rw [b] at h;exact Zsd e f g b h
    ·exact h.1.elim
   ·exact h.1.elim
 ·exact h.1.elim
theorem ZhT (htt:TTOk X.P tt):∀ (n:Nat) {c:Cf},Wc X (X6 tt X.fn.ntmps n c)->Wc X c
 | 0,_,h=>h
 | n+1,_,h=>ZhS htt (ZhT htt n h)
end
end
section
variable [LxP]
open Go
def Vn (b:Nat) (s:ByteArray) (p:Nat):MC where
 fp:=fun x=>x=b
 ok:=fun _ w=>w.heap[b]? = some (.stringIter s p)
 mono:=fun _ hb h=>by rw [hb b rfl];exact h
section
variable {X:Ctx} {s:St} {ops:Array Oper} {todo:Act->World->Prop} {tt:List (Nat × TD)}
theorem WPr.rng (htt:TTOk X.P tt) {i:Nat} {rest:List Nat} {o:Oper} {t:TypeId} {q:TD} {x:Operand} {d:Nat} {m:ByteArray}
  (r:ops[i]? = some o) (u:YO ops s.L o=some true) (l:o.op=.range t x) (y:o.dst=some d) (z:ZQ tt t=some q) (g:Nat.beq q.kd 2=true)
  (A:Yd s.L x=some (.c (.s m))) (C:Nat.blt d X.fn.ntmps=true)
  (D:∀ b,WPr X ops rest todo ⟨(d,.c (.v (.pointer (some ⟨b,0,none⟩))))::s.L,(s.nx,.abs (Vn b m 0))::s.M,s.V,s.nx+1⟩):WPr X ops (i::rest) todo s:=by
 intro E F w a f
 simp only [wpOps,r,QV f u,if_true]
 have ⟨I,_⟩:=f.eval A
 have K:X.P.underlying t=some .string:=by
  have j:=(htt.get z).2.1
  have g:=Zd g
  unfold Uq at j
  split at j<;>simp_all
 have p:w.heap.size<=(w.alloc (.stringIter m 0)).heap.size:=by simp
 have N:=f.world (w':=w.alloc (.stringIter m 0)) rfl rfl .m p (fun b n=>heap_alloc_old w _ n)
 have j:=N.addM' (m:=.abs (Vn w.heap.size m 0)) (heap_alloc_new w _) trivial (fun b n=>by
  have e:b=w.heap.size:=n
  subst e
  refine ⟨fun hF=>absurd (f.hF _ hF) (Nat.lt_irrefl _),fun hZ=>?_,by simp,fun k m' G H=>absurd (f.mF k m' G _ H).2.2 (Nat.lt_irrefl _)⟩
  have:=f.hZ _ hZ
  have:=f.ext.size
  omega) (fun h=>by cases h)
 refine .inl (XW (w':=w.alloc (.stringIter m 0)) (v:=.pointer (some ⟨w.heap.size,0,none⟩)) ?_ (D w.heap.size E F _ _ ?_))
 ·simp only [execOp,l,I,Yc,ZZ]
  refine Y3 ?_
  simp only [Instr.range,Sem.run_bind,Xb K,Result.andThen_ok,Sem.run_pure,run_newObj]
  rfl
 ·rw [y]
  exact j.setL (d:=d) (v:=.c (.v (.pointer (some ⟨w.heap.size,0,none⟩)))) (by first | trivial | rfl) (YT C)
theorem WPr.nxtF {i:Nat} {rest:List Nat} {o:Oper} {x:Operand} {d b p:Nat} (k:Nat) {m:ByteArray}
  (e:decide (p < m.size)=false) (j:ops[i]? = some o) (l:YO ops s.L o=some true) (f:o.op=.next x true) (n:o.dst=some d)
  (q:Yd s.L x=some (.c (.v (.pointer (some ⟨b,0,none⟩))))) (r:ZQ s.M k=some (.abs (Vn b m p))) (u:Nat.blt d X.fn.ntmps=true)
  (y:WPr X ops rest todo ⟨(d,.t [.inl (.b false)])::s.L,s.M,s.V,s.nx⟩):WPr X ops (i::rest) todo s:=by
 refine WPr.op j l (fun E F w a g=>?_) y
 have ⟨z,_⟩:=g.eval q
 have A:w.heap[b]? = some (.stringIter m p):=g.hM k _ r
 have e:¬ p < m.size:=of_decide_eq_false e
 refine XW (w':=w) (v:=.tuple #[.bool false]) ?_ ⟨E,F,?_⟩
 ·simp only [execOp,f,z,Yc,ZZ]
  refine Y3 ?_
  simp [Instr.next,getObj,Sem.run,A,e]
 ·rw [n]
  exact g.setL (d:=d) (v:=.t [.inl (.b false)]) (fun v h=>by simp at h;subst h;trivial) (YT u)
theorem WPr.nxtT {i:Nat} {rest:List Nat} {o:Oper} {x:Operand} {d b p:Nat} (k:Nat) {m:ByteArray}
  (f:decide (p < m.size)=true) (y:ops[i]? = some o) (z:YO ops s.L o=some true) (g:o.op=.next x true) (A:o.dst=some d)
  (C:Yd s.L x=some (.c (.v (.pointer (some ⟨b,0,none⟩))))) (r:ZQ s.M k=some (.abs (Vn b m p))) (D:Nat.blt d X.fn.ntmps=true)
  (G:WPr X ops rest todo ⟨(d,.t [.inl (.b true),.inl (.i .i64 (p:Int)),.inl (.i .i32 ((Utf8.decode m p).1:Int))])::s.L,(k,.abs (Vn b m (p+(Utf8.decode m p).2)))::s.M,s.V,s.nx⟩):WPr X ops (i::rest) todo s:=by
 refine WPr.op y z (fun E F w a j=>?_) G
 have ⟨H,_⟩:=j.eval C
 have n:w.heap[b]? = some (.stringIter m p):=j.hM k _ r
 have f:p < m.size:=of_decide_eq_true f
 have q:b < w.heap.size:=by
  rcases Nat.lt_or_ge b w.heap.size with h | h
  ·exact h
  ·rw [Array.getElem?_eq_none h] at n;cases n
 have I:=j.setM (m':=.abs (Vn b m (p+(Utf8.decode m p).2))) (w':={ w with heap:=w.heap.setIfInBounds b (.stringIter m (p+(Utf8.decode m p).2)) }) r rfl rfl .m (by simp)
  (fun c K l=>by
   have:c≠b:=fun e=>l e
   simp only [Array.getElem?_setIfInBounds]
   rw [if_neg (fun e=>this e.symm)])
  (fun _ h=>h) (by
   show (w.heap.setIfInBounds b _)[b]? = _
   simp [q]) trivial (fun h=>by cases h)
 refine XW (w':={ w with heap:=w.heap.setIfInBounds b (.stringIter m (p+(Utf8.decode m p).2)) }) (v:=.tuple #[.bool true,goInt (p:Int),.int .i32 ((Utf8.decode m p).1:Int)]) ?_ ⟨E,F,?_⟩
 ·simp only [execOp,g,H,Yc,ZZ]
  refine Y3 ?_
  simp [Instr.next,getObj,setObj,Sem.run,n,f]
 ·rw [A]
  exact I.setL (d:=d) (v:=.t [.inl (.b true),.inl (.i .i64 (p:Int)),.inl (.i .i32 ((Utf8.decode m p).1:Int))]) (fun v u=>by
   simp at u
   rcases u with rfl | rfl | rfl<;>trivial) (YT D)
end
end
section
variable [LxP]
section
variable {X:Ctx} {s:St} {tt:List (Nat × TD)} {ops:Array Oper} {todo:Act->World->Prop}
theorem WPr.stp {α:Type} {R:TRep α} (O:Opn R) (htt:TTOk X.P tt) {i:Nat} {rest:List Nat} {o:Oper} {t:TypeId} {td:TD} {x y:Operand} {k q off:Nat} {n:Int} {xs:List α} {e:α} {fr:Bool} {v:SV} {g:List SC} (e':α)
  (hi:ZW xs n=some e) (ho:ops[i]? = some o) (hg:YO ops s.L o=some true) (hop:o.op=.store t x y) (hd:o.dst=none)
  (hx:Yd s.L x=some (.c (.px q off))) (hV:ZQ s.V q=some (.el k (n.toNat * R.sz))) (hM:ZQ s.M k=some (.own R xs fr)) (ht:ZQ tt t=some td)
  (hy:Yd s.L y=some v) (hp:Ve v=some g)
  (hk:O.chk (ZQ (O.facts s.nx e++s.V)) e' ((O.cells s.nx e).take off++g++(O.cells s.nx e).drop (off+g.length)))
  (hc:(Nat.beq g.length td.sz && Nat.ble (off+g.length) R.sz)=true)
  (k:WPr X ops rest todo ⟨s.L,(k,.own R (YQ xs n e') fr)::s.M,O.facts s.nx e++s.V,s.nx+O.nk⟩):WPr X ops (i::rest) todo s:=by
 refine WPr.op ho hg (fun E F w a z=>?_) k
 rename_i U
 simp only [Zc] at hc
 have ⟨c1,c2⟩:=hc
 have c1:=Zd c1
 have c2:=Ze c2
 have ⟨_,_,T⟩:=SX hi
 have hsl:=z.hM U _ hM
 simp only [MO.ok] at hsl
 rcases hsl with ⟨rfl,_⟩ | ⟨b,l,cap,arr,ty,fz,hv,hcap,hsza,hth,hh,hr⟩
 ·simp at T
 have ⟨vs,I,hvs⟩:=hr n.toNat e T
 have ⟨E2,a1,_,a2,a3,a4,a5,a6⟩:=O.ok I s.nx E z.one
 have ⟨hq,_⟩:=z.hV q _ hV
 have hqn:=(z.wf.hV q _ hV).1
 have hk0:=(z.wf.hM U _ hM).1
 rw [<- (a1 q hqn).1,<- (a1 U hk0).1] at hq
 rw [<- (a1 U hk0).1] at hv
 have hs2:=(z.env a1 a3).addF (fs:=O.facts s.nx e) (n:=O.nk) (fun p hp=>a5 p hp)
 replace z:=hs2
 have ⟨e1,_⟩:=z.eval hx
 have ⟨e2,ek⟩:=z.eval hy
 have ⟨ec,ekk⟩:=GL (s:=⟨s.L,s.M,O.facts s.nx e++s.V,s.nx+O.nk⟩) z.one hp ek
 have hvl:=R.len I
 have hcl:(O.cells s.nx e).length=R.sz:=by rw [<- hvl,a4,List.length_map]
 have hin:n.toNat < xs.length:=(List.getElem?_eq_some_iff.1 T).1
 have hroom:l+n.toNat * R.sz+R.sz<=arr.size:=by
  have:(n.toNat+1) * R.sz<=cap * R.sz:=Nat.mul_le_mul_right _ (by omega)
  rw [Nat.add_mul] at this
  omega
 have C:(g.map (ZZ E2)).length=g.length:=List.length_map ..
 have hst:=Q7 (P:=X.P) b (l+n.toNat * R.sz+off) ty fz (g.map (ZZ E2)) 0 arr w hh hth (by rw [C];omega)
  (by intro u hu;obtain ⟨c,hc',rfl⟩:=List.mem_map.1 hu;exact QP z.one (ekk c hc'))
 let d:=(arr.toList.take (l+n.toNat * R.sz+off+0)++g.map (ZZ E2)++arr.toList.drop (l+n.toNat * R.sz+off+0+(g.map (ZZ E2)).length)).toArray
 have hrun:(execOp a.eval o).run X.P w=.ok .skip (w.setRow b d):=by
  have hsv:(Instr.storeAt t (a.eval x) (a.eval y)).run X.P w=.ok () (w.setRow b d):=by
   rw [e1,e2]
   have hsz:(Yc E2 v).cells.size=td.sz:=by rw [ec];simp [c1]
   have hp:Yc E2 (.c (.px q off))=.pointer (some ⟨b,l+n.toNat * R.sz+off,none⟩):=by
    show WC (E2.ρ q) off=_
    rw [hq,hv];rfl
   rw [hp]
   simp only [Instr.storeAt,Instr.sureAddr,Sem.run_bind,Sem.run_pure,Result.andThen_ok,storeVar,ZaR w (htt.get ht),hsz,ne_eq,not_true_eq_false,if_false]
   have:(Yc E2 v).cells.toList=g.map (ZZ E2):=by rw [ec]
   rw [this]
   exact hst
  simp only [execOp,hop,Sem.run_bind,hsv,Result.andThen_ok,Sem.run_pure]
 refine ZfZ hrun ?_
 have hmf:=z.mF U _ hM
 have hbF:¬ F b:=(hmf b (by show YH (E2.ρ U)=some b;rw [hv];rfl)).1
 have hg:Wt F w F (w.setRow b d):=⟨fun _ h=>h,fun b' hb'=>setRow_other w b b' _ (fun h=>hbF (h ▸ hb'))⟩
 have N:d.size=arr.size:=by
  have W:arr.toList.length=arr.size:=Array.length_toList
  simp only [d,List.size_toArray,List.length_append,List.length_take,List.length_drop,W,C];omega
 -- what the cells are now
 have S:∀ j,d[j]? = if l+n.toNat * R.sz+off<=j/\j < l+n.toNat * R.sz+off+g.length then (g.map (ZZ E2))[j-(l+n.toNat * R.sz+off)]? else arr[j]? := by
  intro j
  have W:arr.toList.length=arr.size:=Array.length_toList
  have Y:(arr.toList.take (l+n.toNat * R.sz+off)).length=l+n.toNat * R.sz+off:=by rw [List.length_take,W];omega
  show ((arr.toList.take (l+n.toNat * R.sz+off+0)++g.map (ZZ E2)++arr.toList.drop (l+n.toNat * R.sz+off+0+(g.map (ZZ E2)).length)).toArray)[j]? = _
  simp only [Nat.add_zero,List.getElem?_toArray,List.append_assoc,C]
  by_cases c:j < l+n.toNat * R.sz+off
  ·rw [Zm (by rw [Y];exact c),List.getElem?_take,if_pos c,if_neg (by omega)];simp
  ·rw [Zn (by rw [Y];omega),Y]
   by_cases c':j < l+n.toNat * R.sz+off+g.length
   ·rw [Zm (by rw [C];omega),if_pos ⟨by omega,c'⟩]
   ·rw [Zn (by rw [C];omega),C,List.getElem?_drop,if_neg (by omega)]
    rw [show l+n.toNat * R.sz+off+g.length+(j-(l+n.toNat * R.sz+off)-g.length)=j by omega]
    simp
 have G:R.rep F (w.setRow b d) e' (((O.cells s.nx e).take off++g++(O.cells s.nx e).drop (off+g.length)).map (ZZ E2)) :=
  R.mono hg (O.cok hk E2 F w (fun k f h=>z.hV k f h))
 have hrow:Row R F (w.setRow b d) (YQ xs n e') d l:=by
  intro i' x' A
  unfold YQ at A
  rw [List.getElem?_set] at A
  split at A
  ·rename_i hii
   try rw [if_pos hin] at A
   cases A
   refine ⟨_,G,fun j u D=>?_⟩
   rw [S,<- hii]
   rw [List.getElem?_map] at D
   have r:((O.cells s.nx e).take off).length=off:=by rw [List.length_take,hcl];omega
   by_cases c:off<=j/\j < off+g.length
   ·rw [if_pos ⟨by omega,by omega⟩,show l+n.toNat * R.sz+j-(l+n.toNat * R.sz+off)=j-off by omega,List.getElem?_map]
    rw [List.append_assoc,Zn (by rw [r];exact c.1),r,Zm (by omega)] at D
    exact D
   ·rw [if_neg (by omega)]
    have Z:∃ K,(O.cells s.nx e)[j]? = some K/\u=ZZ E2 K:=by
     rcases Nat.lt_or_ge j off with H | hge
     ·rw [List.append_assoc,Zm (by rw [r];exact H),List.getElem?_take,if_pos H] at D
      rw [Zl] at D
      have ⟨K,h1,h2⟩:=D
      exact ⟨K,h1,h2.symm⟩
     ·rw [List.append_assoc,Zn (by rw [r];exact hge),r,Zn (by omega),List.getElem?_drop,
       show off+g.length+(j-off-g.length)=j by omega,Zl] at D
      have ⟨K,h1,h2⟩:=D
      exact ⟨K,h1,h2.symm⟩
    have ⟨K,h1,h2⟩:=Z
    have:=hvs j (ZZ E2 K) (by rw [a4,List.getElem?_map,h1];rfl)
    rw [h2]
    exact this
  ·rename_i hne
   have ⟨us,hu,huv⟩:=hr i' x' A
   refine ⟨us,R.mono hg hu,fun j u D=>?_⟩
   have hjl:j < R.sz:=by rw [<- R.len hu];exact (List.getElem?_eq_some_iff.1 D).1
   rw [S,if_neg]
   ·exact huv j u D
   ·rintro ⟨g1,g2⟩
    rcases Nat.lt_or_ge i' n.toNat with H | hge
    ·have:(i'+1) * R.sz<=n.toNat * R.sz:=Nat.mul_le_mul_right _ H
     rw [Nat.add_mul] at this;omega
    ·have:(n.toNat+1) * R.sz<=i' * R.sz:=Nat.mul_le_mul_right _ (by omega)
     rw [Nat.add_mul] at this;omega
 refine ⟨E2,F,?_⟩
 rw [hd]
 refine z.setM (m':=.own R (YQ xs n e') fr) hM rfl rfl .m (by simp) (fun b' _ hne=>setRow_other w b b' _ (fun h=>hne (by subst h;show YH (E2.ρ U)=some b';rw [hv];rfl))) (fun _ h=>h) ?_ trivial (fun h=>h)
 refine .inr ⟨b,l,cap,d,ty,fz,?_,?_,by rw [N];exact hsza,by rw [N];exact hth,setRow_heap w b arr _ ty fz hh,hrow⟩
 ·rw [hv];simp [YQ]
 ·simpa [YQ] using hcap
end
end
section
variable [LxP]
def Cf.ops:Cf->Array Oper
 | .rg _ o _ _ _=>o
 | _=>#[]
def Cf.i:Cf->Nat
 | .rg _ _ i _ _=>i
 | _=>0
def Cf.md:Cf->Option (Nat × St × List Ent)
 | .rg m _ _ _ _=>m
 | _=>none
def Cf.kk:Cf->List Item
 | .rg _ _ _ k _=>k
 | .co (_::k) _=>k
 | _=>[]
def Cf.st:Cf->St
 | .rg _ _ _ _ s=>s
 | .co _ s=>s
 | .no=>⟨[],[],[],0⟩
def Cf.isR:Cf->Bool
 | .rg _ _ _ _ _=>true
 | _=>false
def ZP (c:Cf):Oper:=(c.ops[c.i]?).getD default
def ZV (c:Cf):St:=UZ c.md c.ops (ZP c) c.st
def Xh (d:Dl) (c:Cf):Cf:=Ls c.md c.ops c.i c.kk c.st (ZV c) d
def UW (c:Cf):Bool:=c.isR && (c.ops[c.i]?).isSome && (match YO c.ops (ZV c).L (ZP c) with | some b=>b | none=>false)
def YL (c:Cf):Nat:=(ZP c).dst.getD 0
def UK (s:St):List Nat->List (Nat × MO) × List (Nat × VF)
 | []=>([],[])
 | k::r=>match ZQ s.M k with
  | some (.own R xs _)=>match UK s r with
   | q=>((k,.gone)::q.1,(k,.sl R xs)::q.2)
  | _=>([],[])
def Yh (s:St) (fz:List Nat):St:=⟨s.L,(UK s fz).1++s.M,(UK s fz).2++s.V,s.nx⟩
def Tn (s:St) (fz:List Nat):Bool:=XT fz && fz.all fun k=>match ZQ s.M k with
 | some (.own _ _ fr)=>fr
 | _=>false
def Dl.fz (d:Dl) (s:St) (fz:List Nat):Dl:=⟨d.dL,d.dM++(UK s fz).1,d.dV++(UK s fz).2,d.n⟩
theorem Dl.fz_ap (d:Dl) (s:St) (fz:List Nat):(d.fz s fz).ap s=d.ap (Yh s fz):=by
 simp [Dl.fz,Dl.ap,Yh]
theorem Zjq {s:St} {k:Nat}:∀ {fz:List Nat},k ∉ fz->ZQ (UK s fz).1 k=none
 | [],_=>rfl
 | j::r,h=>by
  unfold UK
  split
  ·simp only []
   rw [YG,if_neg fun e=>h (by rw [e];exact Zj)]
   exact Zjq fun b=>h (Zi _ b)
  ·rfl
theorem ZeI {X:Ctx} {s:St} {E F w a} (i:Sat X s E F w a):∀ {fz:List Nat},Tn s fz=true->∃ m,Sat X (Yh s fz) E m w a
 | [],_=>⟨F,i⟩
 | k::r,h=>by
  unfold Tn at h
  simp only [Zc,List.all_cons] at h
  have ⟨c,d,l⟩:=h
  have j:k ∉ r/\XT r=true:=by
   have:=Q1 c
   rw [List.nodup_cons] at this
   refine ⟨this.1,?_⟩
   unfold XT at c
   rw [Zc] at c
   exact c.2
  have ⟨F1,f⟩:=ZeI i (fz:=r) (by unfold Tn;rw [Zc];exact ⟨j.2,l⟩)
  split at d
  ·rename_i α R xs fr hm
   subst d
   have g:ZQ (Yh s r).M k=some (.own R xs true):=by
    show ZQ ((UK s r).1++s.M) k=_
    rw [XS,Zjq j.1];exact hm
   refine ⟨fun b=>F1 b\/YH (E.ρ k)=some b,?_⟩
   have:=f.freeze g
   have e:UK s (k::r)=((k,.gone)::(UK s r).1,(k,.sl R xs)::(UK s r).2):=by
    conv=>lhs;unfold UK
    rw [hm]
   unfold Yh
   rw [e]
   exact this
  ·cases d
section
variable {X:Ctx} {tt:List (Nat × TD)}
theorem Stp.of {ops:Array Oper} {i:Nat} {o:Oper} {s d:St} (m:ops[i]? = some o) (n:YO ops s.L o=some true) (r:∀ K,WPr X ops [] K d->WPr X ops [i] K s) :
  ∀ E F w a,Sat X s E F w a->o.wp X.P a w (fun f w'=>∃ k l,Sat X d k l w' f) (fun _ _ _=>False):=fun E F w a c=>by
 have h:=r (fun f w'=>∃ k l,Sat X d k l w' f) (fun E F w a c=>⟨rfl,E,F,c⟩) E F w a c
 have j:=QV c n
 simp only [wpOps,m,j,if_true] at h
 rcases h with h | ⟨_,h⟩
 ·unfold Oper.wp at h ⊢
  unfold Oper.upon at h ⊢
  split at h
  ·exact h.2
  ·exact h.2
  ·exact h.2
  ·refine Calls.mono h fun e w' b=>?_
   split at b
   ·exact b.2
   ·cases b.1
   ·have ⟨a1,p,g⟩:=b;cases g.1
  ·exact Rows.mono h fun v w' b=>b.2
  ·cases h.1
  ·exact h.elim
 ·have ⟨a1,p,g⟩:=h;cases g.1
theorem Wc.ev {c:Cf} {d:Dl} (f:UW c=true) (p:d.dL.map (·.1)=(ZP c).dst.toList)
    (r:∀ nk E0 F0 w0 n0 Z rest K,c.ops[c.i]? = some (ZP c)->YO c.ops (ZV c).L (ZP c)=some true->WPr (X.var nk E0 F0 w0 n0 Z) c.ops rest K (d.ap (ZV c))->WPr (X.var nk E0 F0 w0 n0 Z) c.ops (c.i::rest) K (ZV c))
    (k:Wc X (Xh d c)):Wc X c:=by
  unfold UW at f
  rw [Zc,Zc] at f
  obtain ⟨⟨l,q⟩,g⟩:=f
  cases c with
  | co k s=>cases l
  | no=>cases l
  | rg m ops i j s =>
    have e:ops[i]? = some (ZP (.rg m ops i j s)):=by
      have ⟨o,e⟩:=Option.isSome_iff_exists.1 q
      have e:ops[i]? = some o:=e
      unfold ZP
      show _=some ((ops[i]?).getD default)
      rw [e];rfl
    have h:YO ops (ZV (.rg m ops i j s)).L (ZP (.rg m ops i j s))=some true:=by
      split at g
      · rename_i b n;rw [g] at n;exact n
      · cases g
    exact Zlv e h p (fun nk E0 F0 w0 n0 Z=>Stp.of (X:=X.var nk E0 F0 w0 n0 Z) e h (fun K=>r nk E0 F0 w0 n0 Z [] K e h)) k
theorem Wc.evz {c:Cf} {d:Dl} (fz:List Nat) (e:UW c=true) (f:Tn (ZV c) fz=true) (g:d.dL.map (·.1)=(ZP c).dst.toList)
    (r:∀ nk E0 F0 w0 n0 Z rest K,c.ops[c.i]? = some (ZP c)->YO c.ops (Yh (ZV c) fz).L (ZP c)=some true->WPr (X.var nk E0 F0 w0 n0 Z) c.ops rest K (d.ap (Yh (ZV c) fz))->WPr (X.var nk E0 F0 w0 n0 Z) c.ops (c.i::rest) K (Yh (ZV c) fz))
    (k:Wc X (Xh (d.fz (ZV c) fz) c)):Wc X c:=by
  refine Wc.ev (d:=d.fz (ZV c) fz) e g (fun nk E0 F0 w0 n0 Z rest K j l h=>?_) k
  rw [Dl.fz_ap] at h
  have:=r nk E0 F0 w0 n0 Z rest K j l h
  intro E F w a n
  have ⟨m,b⟩:=ZeI n f
  exact this E m w a b
def Yl:Op->Nat->Operand
 | .indexAddr _ x y,j | .index _ x y,j | .store _ x y,j | .binOp _ _ x y _,j | .makeSlice _ x y,j | .lookup _ x y _,j=>match j with
  | 0=>x
  | _=>y
 | .mapUpdate _ x y z,j=>match j with
  | 0=>x
  | 1=>y
  | _=>z
 | .load _ x,_ | .slice _ x _ _ _,_ | .convert _ _ x,_ | .range _ x,_ | .next x _,_=>x
 | .call c,j=>(c.args.toList[j]?).getD (.const (.bool true))
 | _,_=>.const (.bool true)
def Z8:Op->TypeId
 | .indexAddr t _ _ | .index t _ _ | .store t _ _ | .binOp _ t _ _ _ | .makeSlice t _ _ | .load t _ | .slice t _ _ _ _ | .convert t _ _ | .range t _ | .buildSlice t _ _ | .makeMap t _ | .lookup t _ _ _ | .mapUpdate t _ _ _=>t
 | .call c=>(c.argTypes.toList[0]?).getD 0
 | _=>0
def Xy:Op->TypeId
 | .convert _ t _ | .binOp _ _ _ _ t=>t
 | .call c=>(c.argTypes.toList[1]?).getD 0
 | _=>0
def UO:Op->Option Operand
 | .slice _ _ l _ _=>l
 | _=>none
def UL:Op->Option Operand
 | .slice _ _ _ h _=>h
 | _=>none
def UI:Op->Operand
 | .call c=>match c.callee with
  | .value f=>f
  | _=>.const (.bool true)
 | _=>.const (.bool true)
def MJ:Op->Array Operand
 | .call c=>c.args
 | _=>#[]
def Lw:Op->Array TypeId
 | .call c=>c.argTypes
 | _=>#[]
def Ur:Op->Nat
 | .buildSlice _ n _=>n
 | _=>0
def Le:Op->Array (Nat × Operand)
 | .buildSlice _ _ p=>p
 | _=>#[]
def Z6 (c:Cf) (j:Nat):Option SV:=Yd (ZV c).L (Yl (ZP c).op j)
def Yu (tt:List (Nat × TD)) (t:TypeId):TD:=(ZQ tt t).getD ⟨0,0,false,[],[],0,0,0,none,0,0⟩
def Yo:Option SV->Nat
 | some (.c (.sl k)) | some (.c (.px k _)) | some (.c (.bp k _))=>k
 | _=>0
def Xe:Option SV->Nat
 | some (.c (.px _ o)) | some (.c (.bp _ o))=>o
 | _=>0
def TY:Option SV->IntKind
 | some (.c (.i k _))=>k
 | _=>.i64
def VB:Option SV->SC
 | some (.c x)=>x
 | _=>.nil
def VX:Option SV->List SC
 | some (.a cs)=>cs
 | _=>[]
def Pb:Option SV->SV
 | some v=>v
 | none=>.u
def VC (v:Option SV):List SC:=((Ve (Pb v)).getD [])
def ZjH:Option SV->Int
 | some (.c (.i _ n))=>n
 | _=>0
def Zlw:Option SV->ByteArray
 | some (.c (.s m))=>m
 | _=>⟨#[]⟩
def WM:Option MO->Bool
 | some (.own _ _ fr)=>fr
 | _=>false
def Xs:Option VF->Nat
 | some (.el k _)=>k
 | some (.vw k _ _ _)=>k
 | _=>0
structure SlF:Type 1 where
 {α:Type}
 R:TRep α
 xs:List α
def MS (s:St):SC->Option SlF
 | .sl k=>match ZQ s.M k with
  | some (.own R xs _)=>some ⟨R,xs⟩
  | _=>match ZQ s.V k with
   | some (.sl R xs)=>some ⟨R,xs⟩
   | _=>none
 | _=>none
theorem Zel {s:St} {c:SC} {α:Type} {R:TRep α} {xs:List α} (h:MS s c=some ⟨R,xs⟩):∃ k,c=.sl k/\(ZQ s.V k=some (.sl R xs)\/∃ fr,ZQ s.M k=some (.own R xs fr)):=by
 unfold MS at h
 split at h
 ·rename_i k
  refine ⟨k,rfl,?_⟩
  split at h
  ·rename_i b;cases h;exact .inr ⟨_,b⟩
  ·split at h
   ·rename_i d;cases h;exact .inl d
   ·cases h
 ·cases h
theorem Ziu {s:St} {c:SC} {α:Type} {R:TRep α} {xs:List α} (h:MS s c=some ⟨R,xs⟩):Ui X s R xs c:=by
 obtain ⟨k,rfl,h | ⟨fr,h⟩⟩:=Zel h
 ·exact Zso h
 ·exact Zsq h
def d1 (c:Cf) (v:SV):Dl:=⟨[(YL c,v)],[],[],0⟩
theorem Xl {c:Cf} {L:List (Nat × SV)} {v:SV} (h:(ZP c).dst=some (YL c)) (b:L=[(YL c,v)]):L.map (·.1)=(ZP c).dst.toList:=by rw [b,h];rfl
def hB (nt:Nat) (c:Cf):Bool:=UW c && Nat.blt (YL c) nt
def RY (tt:List (Nat × TD)) (sz:Nat) (c:Cf):Bool:=Nat.beq (Yu tt (Z8 (ZP c).op)).kd 6 && Nat.beq (Yu tt (Z8 (ZP c).op)).es sz
theorem Xi {b:Nat} {c:Cf} (h:hB b c=true):UW c=true/\Nat.blt (YL c) b=true:=by
 unfold hB at h;rwa [Zc] at h
theorem Lq {sz b:Nat} {c:Cf} (h:RY tt sz c=true) (d:Nat.blt (YL c) b=true):(Nat.blt (YL c) b && Nat.beq (Yu tt (Z8 (ZP c).op)).kd 6 && Nat.beq (Yu tt (Z8 (ZP c).op)).es sz)=true:=by
 unfold RY at h;rw [Bool.and_assoc,h,d];rfl
def GI {α:Type} (s:St) (ys:List α) (c:SC):Option SlF × ULift.{1,0} (List α):=match c with
 | .nil=>(none,⟨ys⟩)
 | c=>(MS s c,⟨[]⟩)
def GJ {α:Type} (R:TRep α) (ys:List α) (c:SC):Option SlF × ULift.{1,0} (List α):=match c with
 | .nil=>(none,⟨[]⟩)
 | _=>(some ⟨R,ys⟩,⟨[]⟩)
theorem ZfM {α:Type} {R:TRep α} {s:St} {ys:List α} {c:SC} (h:GI s ys c=GJ R ys c):Ui X s R ys c:=by
 unfold GI at h
 split at h
 ·have:=congrArg ULift.down (Prod.mk.inj h).2
  have h:ys=[]:=this
  rw [h];exact Zsp
 ·rename_i b
  unfold GJ at h
  split at h
  ·exact (b rfl).elim
  ·exact Ziu (Prod.mk.inj h).1
def GC {α:Type} {R:TRep α} (O:Opn R) (V:Nat->Option VF):List α->List SC->List O.T
 | [],_=>[]
 | x::xs,cs=>O.lq V x (cs.take R.sz)::GC O V xs (cs.drop R.sz)
def GD {α:Type} {R:TRep α} (O:Opn R) (V:Nat->Option VF):List α->List SC->List O.T
 | [],_=>[]
 | x::xs,cs=>O.rq V x (cs.take R.sz)::GD O V xs (cs.drop R.sz)
def GB (sz:Nat) {α:Type}:List α->List SC->List SC
 | [],cs=>cs
 | _::xs,cs=>GB sz xs (cs.drop sz)
theorem ZaP {α:Type} {R:TRep α} {O:Opn R} {V:Nat->Option VF}:∀ {xs:List α} {cs:List SC},GC O V xs cs=GD O V xs cs->GB R.sz xs cs=[]->MP O V xs cs
 | [],_,_,h=>h
 | _::_,_,h,g=>⟨O.eqn (List.cons.inj h).1,ZaP (List.cons.inj h).2 g⟩
def Zko:Op->Bool
 | .binOp .neq _ _ _ _=>true
 | _=>false
def B6:Option SV->List Nat
 | some (.c (.cl _ fs _))=>fs
 | _=>[]
def B7:Option SV->List Nat
 | some (.c (.cl _ _ ks))=>ks
 | _=>[]
def ZnI (s:St) (c:Ct) (l:List (Nat × SC)) (d:Nat):Dl :=
 ⟨[(d,Vd ⟨l,c.nk,s.nx⟩ c.res)],c.M1.filterMap fun p=>(WU ⟨l,c.nk,s.nx⟩ p.1 p.2).map fun j=>(j,UG s ⟨l,c.nk,s.nx⟩ (SO s ⟨l,c.nk,s.nx⟩ c) c.nk p.1 p.2),c.V1.map fun p=>((⟨l,c.nk,s.nx⟩:Ren).sh p.1,p.2),c.nr-c.nk⟩
def dIx {α:Type} {R:TRep α} (O:Opn R) (e:α) (c:Cf):Dl:=⟨[(YL c,.c (.px (ZV c).nx 0))],[],O.facts ((ZV c).nx+1) e++[((ZV c).nx,.pl (O.cells ((ZV c).nx+1) e))],1+O.nk⟩
def nIx {α:Type} {R:TRep α} (O:Opn R) (e:α) (c:Cf):Cf:=Xh (dIx O e c) c
theorem Ya {α:Type} {R:TRep α} {xs:List α} {m:Int} {e:α} {c:Cf} (htt:TTOk X.P tt) (O:Opn R) (hi:ZW xs m=some e) (k:Wc X (nIx O e c))
  (b:(hB X.fn.ntmps c,(ZP c).dst,(ZP c).op,Z6 c 0,ZQ (ZV c).V (Yo (Z6 c 0)),Z6 c 1,ZQ tt (Z8 (ZP c).op),RY tt R.sz c)=(true,some (YL c),.indexAddr (Z8 (ZP c).op) (Yl (ZP c).op 0) (Yl (ZP c).op 1),some (.c (.sl (Yo (Z6 c 0)))),some (.sl R xs),some (.c (.i (TY (Z6 c 1)) m)),some (Yu tt (Z8 (ZP c).op)),true):=by kernel_rfl):Wc X c:=by
 simp only [Zp] at b
 have ⟨l,f,n,o,p,q,r,u⟩:=b
 have ⟨v,x⟩:=Xi l
 refine Wc.ev (d:=dIx O e c) v (Xl f rfl) (fun nk E0 F0 w0 n0 Z rest K g j h=>WPr.ix (X:=X.var nk E0 F0 w0 n0 Z) O htt hi g j n f o p q r (Lq u x) ?_) k
 have y:(dIx O e c).ap (ZV c)=⟨(YL c,.c (.px (ZV c).nx 0))::(ZV c).L,(ZV c).M,O.facts ((ZV c).nx+1) e++((ZV c).nx,.pl (O.cells ((ZV c).nx+1) e))::(ZV c).V,(ZV c).nx+1+O.nk⟩:=by
  simp [dIx,Dl.ap,Nat.add_assoc]
 rw [<- y];exact h
def dIo (m:Int) (sz:Nat) (c:Cf):Dl:=⟨[(YL c,.c (.px (ZV c).nx 0))],[],[((ZV c).nx,.el (Yo (Z6 c 0)) (m.toNat * sz))],1⟩
def nIo (m:Int) (sz:Nat) (c:Cf):Cf:=Xh (dIo m sz c) c
theorem Y7 {α:Type} {xs:List α} {m:Int} {e:α} {c:Cf} (htt:TTOk X.P tt) (R:TRep α) (hi:ZW xs m=some e) (k:Wc X (nIo m R.sz c))
  (b:(hB X.fn.ntmps c,(ZP c).dst,(ZP c).op,Z6 c 0,ZQ (ZV c).M (Yo (Z6 c 0)),Z6 c 1,ZQ tt (Z8 (ZP c).op),RY tt R.sz c)=(true,some (YL c),.indexAddr (Z8 (ZP c).op) (Yl (ZP c).op 0) (Yl (ZP c).op 1),some (.c (.sl (Yo (Z6 c 0)))),some (.own R xs (WM (ZQ (ZV c).M (Yo (Z6 c 0))))),some (.c (.i (TY (Z6 c 1)) m)),some (Yu tt (Z8 (ZP c).op)),true):=by kernel_rfl):Wc X c:=by
 simp only [Zp] at b
 have ⟨l,f,n,o,p,q,r,u⟩:=b
 have ⟨v,x⟩:=Xi l
 refine Wc.ev (d:=dIo m R.sz c) v (Xl f rfl) (fun nk E0 F0 w0 n0 Z rest K g j h=>WPr.ixo (X:=X.var nk E0 F0 w0 n0 Z) htt hi g j n f o p q r (Lq u x) h) k
def dLd {α:Type} {R:TRep α} (O:Opn R) (e:α) (tt:List (Nat × TD)) (c:Cf):Dl:=⟨[(YL c,Pb (WO (Yu tt (Z8 (ZP c).op)) (Xe (Z6 c 0)) (O.cells (ZV c).nx e)))],[],O.facts (ZV c).nx e,O.nk⟩
def nLd {α:Type} {R:TRep α} (O:Opn R) (e:α) (tt:List (Nat × TD)) (c:Cf):Cf:=Xh (dLd O e tt c) c
theorem We {α:Type} {R:TRep α} {xs:List α} {m:Int} {e:α} {c:Cf} (htt:TTOk X.P tt) (O:Opn R) (hi:ZW xs m=some e) (k:Wc X (nLd O e tt c))
  (b:(hB X.fn.ntmps c,(ZP c).dst,(ZP c).op,Z6 c 0,ZQ (ZV c).V (Yo (Z6 c 0)),ZQ (ZV c).M (Xs (ZQ (ZV c).V (Yo (Z6 c 0)))),ZQ tt (Z8 (ZP c).op),WO (Yu tt (Z8 (ZP c).op)) (Xe (Z6 c 0)) (O.cells (ZV c).nx e))=(true,some (YL c),.load (Z8 (ZP c).op) (Yl (ZP c).op 0),some (.c (.px (Yo (Z6 c 0)) (Xe (Z6 c 0)))),some (.el (Xs (ZQ (ZV c).V (Yo (Z6 c 0)))) (m.toNat * R.sz)),some (.own R xs (WM (ZQ (ZV c).M (Xs (ZQ (ZV c).V (Yo (Z6 c 0))))))),some (Yu tt (Z8 (ZP c).op)),some (Pb (WO (Yu tt (Z8 (ZP c).op)) (Xe (Z6 c 0)) (O.cells (ZV c).nx e)))):=by kernel_rfl):Wc X c:=by
 simp only [Zp] at b
 have ⟨j,f,l,n,o,p,q,r⟩:=b
 have ⟨u,v⟩:=Xi j
 refine Wc.ev (d:=dLd O e tt c) u (Xl f rfl) (fun nk E0 F0 w0 n0 Z rest K g i h=>WPr.ldo (X:=X.var nk E0 F0 w0 n0 Z) O htt hi g i l f n o p q r v h) k
def dSt {α:Type} (R:TRep α) (xs:List α) (m:Int) (e2:α) (fz:List Nat) (c:Cf):Dl:=⟨[],[((Xs (ZQ (Yh (ZV c) fz).V (Yo (Yd (Yh (ZV c) fz).L (Yl (ZP c).op 0))))),.own R (YQ xs m e2) (WM (ZQ (Yh (ZV c) fz).M (Xs (ZQ (Yh (ZV c) fz).V (Yo (Yd (Yh (ZV c) fz).L (Yl (ZP c).op 0))))))))],[],0⟩
def nSt {α:Type} (R:TRep α) (xs:List α) (m:Int) (e2:α) (fz:List Nat) (c:Cf):Cf:=Xh ((dSt R xs m e2 fz c).fz (ZV c) fz) c
theorem WL {α:Type} {R:TRep α} {xs:List α} {m:Int} {e:α} {c:Cf} (htt:TTOk X.P tt) (fz:List Nat) (O:Opn R) (b:α) (hi:ZW xs m=some e) (k:Wc X (nSt R xs m b fz c))
  (j:(UW c,(ZP c).dst,Tn (ZV c) fz,(ZP c).op,(Yd (Yh (ZV c) fz).L (Yl (ZP c).op 0)),ZQ (Yh (ZV c) fz).V (Yo (Yd (Yh (ZV c) fz).L (Yl (ZP c).op 0))),ZQ (Yh (ZV c) fz).M (Xs (ZQ (Yh (ZV c) fz).V (Yo (Yd (Yh (ZV c) fz).L (Yl (ZP c).op 0))))),ZQ tt (Z8 (ZP c).op),(Yd (Yh (ZV c) fz).L (Yl (ZP c).op 1)),Ve (Pb (Yd (Yh (ZV c) fz).L (Yl (ZP c).op 1))),O.lq (ZQ (Yh (ZV c) fz).V) b ((O.cells (Yh (ZV c) fz).nx e).take (Xe (Yd (Yh (ZV c) fz).L (Yl (ZP c).op 0)))++(VC (Yd (Yh (ZV c) fz).L (Yl (ZP c).op 1)))++(O.cells (Yh (ZV c) fz).nx e).drop ((Xe (Yd (Yh (ZV c) fz).L (Yl (ZP c).op 0)))+(VC (Yd (Yh (ZV c) fz).L (Yl (ZP c).op 1))).length)),(Nat.beq (VC (Yd (Yh (ZV c) fz).L (Yl (ZP c).op 1))).length (Yu tt (Z8 (ZP c).op)).sz && Nat.ble ((Xe (Yd (Yh (ZV c) fz).L (Yl (ZP c).op 0)))+(VC (Yd (Yh (ZV c) fz).L (Yl (ZP c).op 1))).length) R.sz && (Nat.beq (VC (Yd (Yh (ZV c) fz).L (Yl (ZP c).op 1))).length R.sz || Nat.beq O.nk 0)))=(true,none,true,.store (Z8 (ZP c).op) (Yl (ZP c).op 0) (Yl (ZP c).op 1),some (.c (.px (Yo (Yd (Yh (ZV c) fz).L (Yl (ZP c).op 0))) (Xe (Yd (Yh (ZV c) fz).L (Yl (ZP c).op 0))))),some (.el (Xs (ZQ (Yh (ZV c) fz).V (Yo (Yd (Yh (ZV c) fz).L (Yl (ZP c).op 0))))) (m.toNat * R.sz)),some (.own R xs (WM (ZQ (Yh (ZV c) fz).M (Xs (ZQ (Yh (ZV c) fz).V (Yo (Yd (Yh (ZV c) fz).L (Yl (ZP c).op 0)))))))),some (Yu tt (Z8 (ZP c).op)),some (Pb (Yd (Yh (ZV c) fz).L (Yl (ZP c).op 1))),some (VC (Yd (Yh (ZV c) fz).L (Yl (ZP c).op 1))),O.rq (ZQ (Yh (ZV c) fz).V) b ((O.cells (Yh (ZV c) fz).nx e).take (Xe (Yd (Yh (ZV c) fz).L (Yl (ZP c).op 0)))++(VC (Yd (Yh (ZV c) fz).L (Yl (ZP c).op 1)))++(O.cells (Yh (ZV c) fz).nx e).drop ((Xe (Yd (Yh (ZV c) fz).L (Yl (ZP c).op 0)))+(VC (Yd (Yh (ZV c) fz).L (Yl (ZP c).op 1))).length)),true):=by kernel_rfl):Wc X c:=by
 simp only [Zp] at j
 have ⟨p,l,q,r,u,v,x,y,z,f,g,i⟩:=j
 have A:=p
 refine Wc.evz (d:=dSt R xs m b fz c) fz A q (by rw [l];rfl) (fun nk E0 F0 w0 n0 Z rest K n o h=>WPr.sto (X:=X.var nk E0 F0 w0 n0 Z) O htt b hi n o r l u v x y z f (O.eqn g) i h) k
def dSp {α:Type} {R:TRep α} (O:Opn R) (xs:List α) (m:Int) (e e2:α) (fz:List Nat) (c:Cf):Dl:=⟨[],[((Xs (ZQ (Yh (ZV c) fz).V (Yo (Yd (Yh (ZV c) fz).L (Yl (ZP c).op 0))))),.own R (YQ xs m e2) (WM (ZQ (Yh (ZV c) fz).M (Xs (ZQ (Yh (ZV c) fz).V (Yo (Yd (Yh (ZV c) fz).L (Yl (ZP c).op 0))))))))],O.facts (Yh (ZV c) fz).nx e,O.nk⟩
def nSp {α:Type} {R:TRep α} (O:Opn R) (xs:List α) (m:Int) (e e2:α) (fz:List Nat) (c:Cf):Cf:=Xh ((dSp O xs m e e2 fz c).fz (ZV c) fz) c
theorem eSp {α:Type} {R:TRep α} {xs:List α} {m:Int} {e:α} {c:Cf} (htt:TTOk X.P tt) (fz:List Nat) (O:Opn R) (b:α) (hi:ZW xs m=some e) (k:Wc X (nSp O xs m e b fz c))
  (j:(UW c,(ZP c).dst,Tn (ZV c) fz,(ZP c).op,(Yd (Yh (ZV c) fz).L (Yl (ZP c).op 0)),ZQ (Yh (ZV c) fz).V (Yo (Yd (Yh (ZV c) fz).L (Yl (ZP c).op 0))),ZQ (Yh (ZV c) fz).M (Xs (ZQ (Yh (ZV c) fz).V (Yo (Yd (Yh (ZV c) fz).L (Yl (ZP c).op 0))))),ZQ tt (Z8 (ZP c).op),(Yd (Yh (ZV c) fz).L (Yl (ZP c).op 1)),Ve (Pb (Yd (Yh (ZV c) fz).L (Yl (ZP c).op 1))),O.lq (ZQ (O.facts (Yh (ZV c) fz).nx e++(Yh (ZV c) fz).V)) b ((O.cells (Yh (ZV c) fz).nx e).take (Xe (Yd (Yh (ZV c) fz).L (Yl (ZP c).op 0)))++(VC (Yd (Yh (ZV c) fz).L (Yl (ZP c).op 1)))++(O.cells (Yh (ZV c) fz).nx e).drop ((Xe (Yd (Yh (ZV c) fz).L (Yl (ZP c).op 0)))+(VC (Yd (Yh (ZV c) fz).L (Yl (ZP c).op 1))).length)),(Nat.beq (VC (Yd (Yh (ZV c) fz).L (Yl (ZP c).op 1))).length (Yu tt (Z8 (ZP c).op)).sz && Nat.ble ((Xe (Yd (Yh (ZV c) fz).L (Yl (ZP c).op 0)))+(VC (Yd (Yh (ZV c) fz).L (Yl (ZP c).op 1))).length) R.sz))=(true,none,true,.store (Z8 (ZP c).op) (Yl (ZP c).op 0) (Yl (ZP c).op 1),some (.c (.px (Yo (Yd (Yh (ZV c) fz).L (Yl (ZP c).op 0))) (Xe (Yd (Yh (ZV c) fz).L (Yl (ZP c).op 0))))),some (.el (Xs (ZQ (Yh (ZV c) fz).V (Yo (Yd (Yh (ZV c) fz).L (Yl (ZP c).op 0))))) (m.toNat * R.sz)),some (.own R xs (WM (ZQ (Yh (ZV c) fz).M (Xs (ZQ (Yh (ZV c) fz).V (Yo (Yd (Yh (ZV c) fz).L (Yl (ZP c).op 0)))))))),some (Yu tt (Z8 (ZP c).op)),some (Pb (Yd (Yh (ZV c) fz).L (Yl (ZP c).op 1))),some (VC (Yd (Yh (ZV c) fz).L (Yl (ZP c).op 1))),O.rq (ZQ (O.facts (Yh (ZV c) fz).nx e++(Yh (ZV c) fz).V)) b ((O.cells (Yh (ZV c) fz).nx e).take (Xe (Yd (Yh (ZV c) fz).L (Yl (ZP c).op 0)))++(VC (Yd (Yh (ZV c) fz).L (Yl (ZP c).op 1)))++(O.cells (Yh (ZV c) fz).nx e).drop ((Xe (Yd (Yh (ZV c) fz).L (Yl (ZP c).op 0)))+(VC (Yd (Yh (ZV c) fz).L (Yl (ZP c).op 1))).length)),true):=by kernel_rfl):Wc X c:=by
 simp only [Zp] at j
 have ⟨p,l,q,r,u,v,x,y,z,f,g,i⟩:=j
 have A:=p
 refine Wc.evz (d:=dSp O xs m e b fz c) fz A q (by rw [l];rfl) (fun nk E0 F0 w0 n0 Z rest K n o h=>WPr.stp (X:=X.var nk E0 F0 w0 n0 Z) O htt b hi n o r l u v x y z f (O.eqn g) i h) k
def dAp {α:Type} (R:TRep α) (zs:List α) (c:Cf):Dl:=⟨[(YL c,.c (.sl (ZV c).nx))],[((ZV c).nx,.own R zs (WM (ZQ (ZV c).M (Yo (Z6 c 0))))),((Yo (Z6 c 0)),.gone)],[],1⟩
def nAp {α:Type} (R:TRep α) (zs:List α) (c:Cf):Cf:=Xh (dAp R zs c) c
theorem YR {α:Type} {xs ys zs:List α} {c:Cf} (htt:TTOk X.P tt) (R:TRep α) (g:YJ xs ys=some zs) (k:Wc X (nAp R zs c))
  (e:(hB X.fn.ntmps c,(ZP c).dst,(ZP c).op,Z6 c 0,ZQ (ZV c).M (Yo (Z6 c 0)),Z6 c 1,ZQ tt (Z8 (ZP c).op),ZQ tt (Xy (ZP c).op),(Nat.beq (Yu tt (Z8 (ZP c).op)).kd 6 && (Nat.beq (Yu tt (Xy (ZP c).op)).kd 6 || Nat.beq (Yu tt (Xy (ZP c).op)).kd 2) && Nat.beq (Yu tt (Z8 (ZP c).op)).es R.sz && Nat.ble (Yu tt (Z8 (ZP c).op)).eb 32768),GI (ZV c) ys (VB (Z6 c 1)))=(true,some (YL c),.call { callee:=.builtin .append,args:=#[Yl (ZP c).op 0,Yl (ZP c).op 1],argTypes:=#[Z8 (ZP c).op,Xy (ZP c).op] },some (.c (.sl (Yo (Z6 c 0)))),some (.own R xs (WM (ZQ (ZV c).M (Yo (Z6 c 0))))),some (.c (VB (Z6 c 1))),some (Yu tt (Z8 (ZP c).op)),some (Yu tt (Xy (ZP c).op)),true,GJ R ys (VB (Z6 c 1))):=by kernel_rfl):Wc X c:=by
 simp only [Zp] at e
 have ⟨l,f,m,n,o,p,q,r,u,b⟩:=e
 have ⟨v,x⟩:=Xi l
 refine Wc.ev (d:=dAp R zs c) v (Xl f rfl) (fun nk E0 F0 w0 n0 Z rest K i j h=>WPr.app (X:=X.var nk E0 F0 w0 n0 Z) htt g (ZfM b) i j m f n o p q r (by rw [x];simpa using u) h) k
def dAn {α:Type} (R:TRep α) (zs:List α) (c:Cf):Dl:=⟨[(YL c,.c (.sl (ZV c).nx))],[((ZV c).nx,.own R zs true)],[],1⟩
def nAn {α:Type} (R:TRep α) (zs:List α) (c:Cf):Cf:=Xh (dAn R zs c) c
theorem eAn {α:Type} {ys zs:List α} {c:Cf} (htt:TTOk X.P tt) (R:TRep α) (f:YJ [] ys=some zs) (k:Wc X (nAn R zs c))
  (b:(hB X.fn.ntmps c,(ZP c).dst,(ZP c).op,Z6 c 0,Z6 c 1,ZQ tt (Z8 (ZP c).op),ZQ tt (Xy (ZP c).op),(Nat.beq (Yu tt (Z8 (ZP c).op)).kd 6 && (Nat.beq (Yu tt (Xy (ZP c).op)).kd 6 || Nat.beq (Yu tt (Xy (ZP c).op)).kd 2) && Nat.beq (Yu tt (Z8 (ZP c).op)).es R.sz && Nat.ble (Yu tt (Z8 (ZP c).op)).eb 32768),GI (ZV c) ys (VB (Z6 c 1)))=(true,some (YL c),.call { callee:=.builtin .append,args:=#[Yl (ZP c).op 0,Yl (ZP c).op 1],argTypes:=#[Z8 (ZP c).op,Xy (ZP c).op] },some (.c .nil),some (.c (VB (Z6 c 1))),some (Yu tt (Z8 (ZP c).op)),some (Yu tt (Xy (ZP c).op)),true,GJ R ys (VB (Z6 c 1))):=by kernel_rfl):Wc X c:=by
 simp only [Zp] at b
 have ⟨j,e,l,m,n,o,p,q,r⟩:=b
 have ⟨u,v⟩:=Xi j
 refine Wc.ev (d:=dAn R zs c) u (Xl e rfl) (fun nk E0 F0 w0 n0 Z rest K g i h=>WPr.appN (X:=X.var nk E0 F0 w0 n0 Z) R htt f (ZfM r) g i l e m n o p (by rw [v];simpa using q) h) k
def dBs {α:Type} (R:TRep α) (xs:List α) (fz:List Nat) (c:Cf):Dl:=⟨[(YL c,.c (.sl (Yh (ZV c) fz).nx))],[((Yh (ZV c) fz).nx,.own R xs true)],[],1⟩
def nBs {α:Type} (R:TRep α) (xs:List α) (fz:List Nat) (c:Cf):Cf:=Xh ((dBs R xs fz c).fz (ZV c) fz) c
theorem Yy {α:Type} {R:TRep α} {c:Cf} (htt:TTOk X.P tt) (fz:List Nat) (O:Opn R) (xs:List α) (k:Wc X (nBs R xs fz c))
  (e:(hB X.fn.ntmps c,(ZP c).dst,Tn (ZV c) fz,(ZP c).op,ZQ tt (Z8 (ZP c).op),ZQ tt (Yu tt (Z8 (ZP c).op)).el,(VE (W9 (Yu tt (Z8 (ZP c).op)).es (Ur (ZP c).op)) (Yh (ZV c) fz).L (Le (ZP c).op).toList (Ta (Yu tt (Yu tt (Z8 (ZP c).op)).el).z (Ur (ZP c).op * (Yu tt (Z8 (ZP c).op)).es))),GC O (ZQ (Yh (ZV c) fz).V) xs ((VE (W9 (Yu tt (Z8 (ZP c).op)).es (Ur (ZP c).op)) (Yh (ZV c) fz).L (Le (ZP c).op).toList (Ta (Yu tt (Yu tt (Z8 (ZP c).op)).el).z (Ur (ZP c).op * (Yu tt (Z8 (ZP c).op)).es))).getD []),GB R.sz xs ((VE (W9 (Yu tt (Z8 (ZP c).op)).es (Ur (ZP c).op)) (Yh (ZV c) fz).L (Le (ZP c).op).toList (Ta (Yu tt (Yu tt (Z8 (ZP c).op)).el).z (Ur (ZP c).op * (Yu tt (Z8 (ZP c).op)).es))).getD []),(Nat.beq (Yu tt (Z8 (ZP c).op)).kd 6 && Nat.beq (Yu tt (Z8 (ZP c).op)).es R.sz && Nat.beq xs.length (Ur (ZP c).op) && Nat.ble (Ur (ZP c).op * (Yu tt (Z8 (ZP c).op)).es) 16777216 && !(Yu tt (Yu tt (Z8 (ZP c).op)).el).z.isEmpty))=(true,some (YL c),true,.buildSlice (Z8 (ZP c).op) (Ur (ZP c).op) (Le (ZP c).op),some (Yu tt (Z8 (ZP c).op)),some (Yu tt (Yu tt (Z8 (ZP c).op)).el),some ((VE (W9 (Yu tt (Z8 (ZP c).op)).es (Ur (ZP c).op)) (Yh (ZV c) fz).L (Le (ZP c).op).toList (Ta (Yu tt (Yu tt (Z8 (ZP c).op)).el).z (Ur (ZP c).op * (Yu tt (Z8 (ZP c).op)).es))).getD []),GD O (ZQ (Yh (ZV c) fz).V) xs ((VE (W9 (Yu tt (Z8 (ZP c).op)).es (Ur (ZP c).op)) (Yh (ZV c) fz).L (Le (ZP c).op).toList (Ta (Yu tt (Yu tt (Z8 (ZP c).op)).el).z (Ur (ZP c).op * (Yu tt (Z8 (ZP c).op)).es))).getD []),[],true):=by kernel_rfl):Wc X c:=by
 simp only [Zp] at e
 have ⟨j,f,l,m,n,o,p,q,r,b⟩:=e
 have ⟨u,v⟩:=Xi j
 refine Wc.evz (d:=dBs R xs fz c) fz u l (Xl f rfl) (fun nk E0 F0 w0 n0 Z rest K g i h=>WPr.bs (X:=X.var nk E0 F0 w0 n0 Z) O htt xs g i m f n o p (ZaP q r) (by rw [v];simpa using b) h) k
def dMk {α:Type} (R:TRep α) (xs:List α) (c:Cf):Dl:=⟨[(YL c,.c (.sl (ZV c).nx))],[((ZV c).nx,.own R xs true)],[],1⟩
def nMk {α:Type} (R:TRep α) (xs:List α) (c:Cf):Cf:=Xh (dMk R xs c) c
theorem Ge {α:Type} {R:TRep α} {z:α} {l m:Int} {xs:List α} {c:Cf} (htt:TTOk X.P tt) (O:Opn R) (g:Sc z l m=some xs) (k:Wc X (nMk R xs c))
  (e:(hB X.fn.ntmps c,(ZP c).dst,(ZP c).op,ZQ tt (Z8 (ZP c).op),ZQ tt (Yu tt (Z8 (ZP c).op)).el,Z6 c 0,Z6 c 1,GC O (ZQ (ZV c).V) [z] (Yu tt (Yu tt (Z8 (ZP c).op)).el).z,GB R.sz [z] (Yu tt (Yu tt (Z8 (ZP c).op)).el).z,(Nat.beq (Yu tt (Z8 (ZP c).op)).kd 6 && Nat.beq (Yu tt (Z8 (ZP c).op)).es R.sz && Nat.ble (Yu tt (Z8 (ZP c).op)).eb 32768 && !(Yu tt (Yu tt (Z8 (ZP c).op)).el).z.isEmpty))=(true,some (YL c),.makeSlice (Z8 (ZP c).op) (Yl (ZP c).op 0) (Yl (ZP c).op 1),some (Yu tt (Z8 (ZP c).op)),some (Yu tt (Yu tt (Z8 (ZP c).op)).el),some (.c (.i (TY (Z6 c 0)) l)),some (.c (.i (TY (Z6 c 1)) m)),GD O (ZQ (ZV c).V) [z] (Yu tt (Yu tt (Z8 (ZP c).op)).el).z,[],true):=by kernel_rfl):Wc X c:=by
 simp only [Zp] at e
 have ⟨o,f,p,q,r,u,v,x,y,b⟩:=e
 have ⟨A,C⟩:=Xi o
 refine Wc.ev (d:=dMk R xs c) A (Xl f rfl) (fun nk E0 F0 w0 n0 Z rest K j n h=>WPr.mk (X:=X.var nk E0 F0 w0 n0 Z) O htt z g j n p f q r u v (ZaP x y) (by rw [C];simpa using b) h) k
def dIs {α:Type} (R:TRep α) (zs:List α) (c:Cf):Dl:=⟨[(YL c,.c (.sl (ZV c).nx))],[],[((ZV c).nx,.sl R zs)],1⟩
def nIs {α:Type} (R:TRep α) (zs:List α) (c:Cf):Cf:=Xh (dIs R zs c) c
theorem SU {α:Type} {xs zs:List α} {lo hi:Option Int} {c:Cf} (htt:TTOk X.P tt) (R:TRep α) (i:lsl xs lo hi=some zs) (k:Wc X (nIs R zs c))
    (f:(hB X.fn.ntmps c,(ZP c).dst,(ZP c).op,ZQ tt (Z8 (ZP c).op),Z6 c 0,ZQ (ZV c).V (Yo (Z6 c 0)),X9 (ZV c).L (UO (ZP c).op),X9 (ZV c).L (UL (ZP c).op),((X9 (ZV c).L (UO (ZP c).op)).getD none).map (·.2),((X9 (ZV c).L (UL (ZP c).op)).getD none).map (·.2),RY tt R.sz c)=(true,some (YL c),.slice (Z8 (ZP c).op) (Yl (ZP c).op 0) (UO (ZP c).op) (UL (ZP c).op) none,some (Yu tt (Z8 (ZP c).op)),some (.c (.sl (Yo (Z6 c 0)))),some (.sl R xs),some ((X9 (ZV c).L (UO (ZP c).op)).getD none),some ((X9 (ZV c).L (UL (ZP c).op)).getD none),lo,hi,true):=by kernel_rfl):Wc X c:=by
  simp only [Zp] at f
  have ⟨m,g,n,o,p,q,r,u,v,b,e⟩:=f
  have ⟨x,y⟩:=Xi m
  refine Wc.ev (d:=dIs R zs c) x (Xl g rfl) (fun nk E0 F0 w0 n0 Z rest K j l h=>WPr.isl (X:=X.var nk E0 F0 w0 n0 Z) htt (by rw [v,b];exact i) j l n g o p q r u (Lq e y) h) k
def dVw (lo hi:Option Int) (sz:Nat) (c:Cf):Dl:=⟨[(YL c,.c (.sl (ZV c).nx))],[],[((ZV c).nx,.vw (Yo (Z6 c 0)) lo hi sz)],1⟩
def nVw (lo hi:Option Int) (sz:Nat) (c:Cf):Cf:=Xh (dVw lo hi sz c) c
theorem Gg {α:Type} {xs zs:List α} {lo hi:Option Int} {c:Cf} (htt:TTOk X.P tt) (R:TRep α) (j:lsl xs lo hi=some zs) (k:Wc X (nVw lo hi R.sz c))
    (f:(hB X.fn.ntmps c,(ZP c).dst,(ZP c).op,ZQ tt (Z8 (ZP c).op),Z6 c 0,ZQ (ZV c).M (Yo (Z6 c 0)),X9 (ZV c).L (UO (ZP c).op),X9 (ZV c).L (UL (ZP c).op),((X9 (ZV c).L (UO (ZP c).op)).getD none).map (·.2),((X9 (ZV c).L (UL (ZP c).op)).getD none).map (·.2),RY tt R.sz c)=(true,some (YL c),.slice (Z8 (ZP c).op) (Yl (ZP c).op 0) (UO (ZP c).op) (UL (ZP c).op) none,some (Yu tt (Z8 (ZP c).op)),some (.c (.sl (Yo (Z6 c 0)))),some (.own R xs (WM (ZQ (ZV c).M (Yo (Z6 c 0))))),some ((X9 (ZV c).L (UO (ZP c).op)).getD none),some ((X9 (ZV c).L (UL (ZP c).op)).getD none),lo,hi,true):=by kernel_rfl):Wc X c:=by
  simp only [Zp] at f
  have ⟨n,g,o,p,q,r,u,v,i,b,e⟩:=f
  have ⟨x,y⟩:=Xi n
  refine Wc.ev (d:=dVw lo hi R.sz c) x (Xl g rfl) (fun nk E0 F0 w0 n0 Z rest K l m h=>WPr.vw (X:=X.var nk E0 F0 w0 n0 Z) htt (by rw [i,b];exact j) l m o g p q r u v (Lq e y) (by rw [i,b];exact h)) k
def dSs (z:ByteArray) (c:Cf):Dl:=d1 c (.c (.s z))
def nSs (z:ByteArray) (c:Cf):Cf:=Xh (dSs z c) c
theorem VD {b z:ByteArray} {lo hi:Option Int} {c:Cf} (htt:TTOk X.P tt) (i:ssl b lo hi=some z) (k:Wc X (nSs z c))
    (f:(hB X.fn.ntmps c,(ZP c).dst,(ZP c).op,ZQ tt (Z8 (ZP c).op),Nat.beq (Yu tt (Z8 (ZP c).op)).kd 2,Z6 c 0,X9 (ZV c).L (UO (ZP c).op),X9 (ZV c).L (UL (ZP c).op),((X9 (ZV c).L (UO (ZP c).op)).getD none).map (·.2),((X9 (ZV c).L (UL (ZP c).op)).getD none).map (·.2))=(true,some (YL c),.slice (Z8 (ZP c).op) (Yl (ZP c).op 0) (UO (ZP c).op) (UL (ZP c).op) none,some (Yu tt (Z8 (ZP c).op)),true,some (.c (.s b)),some ((X9 (ZV c).L (UO (ZP c).op)).getD none),some ((X9 (ZV c).L (UL (ZP c).op)).getD none),lo,hi):=by kernel_rfl):Wc X c:=by
  simp only [Zp] at f
  have ⟨m,g,n,o,p,q,r,u,v,e⟩:=f
  have ⟨x,y⟩:=Xi m
  refine Wc.ev (d:=dSs z c) x (Xl g rfl) (fun nk E0 F0 w0 n0 Z rest K j l h=>WPr.ssl (X:=X.var nk E0 F0 w0 n0 Z) htt (by rw [v,e];exact i) j l n g o p q r u y h) k
def dSx (z:Int) (c:Cf):Dl:=d1 c (.c (.i .u8 z))
def nSx (z:Int) (c:Cf):Cf:=Xh (dSx z c) c
theorem XV {b:ByteArray} {m z:Int} {c:Cf} (htt:TTOk X.P tt) (g:Xc b m=some z) (k:Wc X (nSx z c))
  (e:(hB X.fn.ntmps c,(ZP c).dst,(ZP c).op,ZQ tt (Z8 (ZP c).op),Nat.beq (Yu tt (Z8 (ZP c).op)).kd 2,Z6 c 0,Z6 c 1)=(true,some (YL c),.index (Z8 (ZP c).op) (Yl (ZP c).op 0) (Yl (ZP c).op 1),some (Yu tt (Z8 (ZP c).op)),true,some (.c (.s b)),some (.c (.i (TY (Z6 c 1)) m))):=by kernel_rfl):Wc X c:=by
 simp only [Zp] at e
 have ⟨n,f,o,p,q,r,u⟩:=e
 have ⟨v,x⟩:=Xi n
 refine Wc.ev (d:=dSx z c) v (Xl f rfl) (fun nk E0 F0 w0 n0 Z rest K j l h=>WPr.sx (X:=X.var nk E0 F0 w0 n0 Z) htt g j l o f p q r u x h) k
def dCa (z:ByteArray) (c:Cf):Dl:=d1 c (.c (.s z))
def nCa (z:ByteArray) (c:Cf):Cf:=Xh (dCa z c) c
theorem Yt {a b z:ByteArray} {c:Cf} (g:Yp a b=some z) (k:Wc X (nCa z c))
  (e:(hB X.fn.ntmps c,(ZP c).dst,(ZP c).op,Z6 c 0,Z6 c 1)=(true,some (YL c),.binOp .add (Z8 (ZP c).op) (Yl (ZP c).op 0) (Yl (ZP c).op 1) (Xy (ZP c).op),some (.c (.s a)),some (.c (.s b))):=by kernel_rfl):Wc X c:=by
 simp only [Zp] at e
 have ⟨l,f,m,n,o⟩:=e
 have ⟨p,q⟩:=Xi l
 refine Wc.ev (d:=dCa z c) p (Xl f rfl) (fun nk E0 F0 w0 n0 Z rest K i j h=>WPr.cat (X:=X.var nk E0 F0 w0 n0 Z) g i j m f n o q h) k
def dEq (P:Program) (c:Cf):Dl:=d1 c (.c (.b (bif Zko (ZP c).op then !((Vm P 20 (Z8 (ZP c).op) (VX (Z6 c 0)) (VX (Z6 c 1))).getD false) else (Vm P 20 (Z8 (ZP c).op) (VX (Z6 c 0)) (VX (Z6 c 1))).getD false)))
def nEq (P:Program) (c:Cf):Cf:=Xh (dEq P c) c
theorem eEq {c:Cf}  (k:Wc X (nEq X.P c))
  (b:(hB X.fn.ntmps c,(ZP c).dst,XY X.P (Z8 (ZP c).op),(Vm X.P 20 (Z8 (ZP c).op) (VX (Z6 c 0)) (VX (Z6 c 1))),X.P.eqGuardType X.P.depth (Z8 (ZP c).op),(ZP c).op,Z6 c 0,Z6 c 1)=(true,some (YL c),true,some ((Vm X.P 20 (Z8 (ZP c).op) (VX (Z6 c 0)) (VX (Z6 c 1))).getD false),false,.binOp (bif Zko (ZP c).op then .neq else .eql) (Z8 (ZP c).op) (Yl (ZP c).op 0) (Yl (ZP c).op 1) (Xy (ZP c).op),some (.a (VX (Z6 c 0))),some (.a (VX (Z6 c 1)))):=by kernel_rfl):Wc X c:=by
 simp only [Zp] at b
 have ⟨i,e,j,l,m,n,o,p⟩:=b
 have ⟨q,r⟩:=Xi i
 refine Wc.ev (d:=dEq X.P c) q (Xl e rfl) (fun nk E0 F0 w0 n0 Z rest K f g h=>WPr.eqa (X:=X.var nk E0 F0 w0 n0 Z) (ZoI j l) m f g n e o p r h) k
def dCb (ct:Ct) (l:List (Nat × SC)) (fz:List Nat) (c:Cf):Dl:=ZnI (Yh (ZV c) fz) ct l (YL c)
def nCb (ct:Ct) (l:List (Nat × SC)) (fz:List Nat) (c:Cf):Cf:=Xh ((dCb ct l fz c).fz (ZV c) fz) c
theorem XA {f:FuncId} {b:Ct} {c:Cf} (m:Fn X.P f b) (fz:List Nat) (l:List (Nat × SC)) (e:List Nat) (g:e=[]\/(b.V1=[]/\Uh b.M1)) (k:Wc X (nCb b l fz c))
  (i:(hB X.fn.ntmps c,(ZP c).dst,Tn (ZV c) fz,(ZP c).op,Yd (Yh (ZV c) fz).L (UI (ZP c).op),(V7 (Yh (ZV c) fz).L (MJ (ZP c).op).toList).map (fun n=>RG (B6 (Yd (Yh (ZV c) fz).L (UI (ZP c).op)))++n++RG (B7 (Yd (Yh (ZV c) fz).L (UI (ZP c).op)))),b.V0.map (fun p=>QS (Yh (ZV c) fz) ⟨l,b.nk,(Yh (ZV c) fz).nx⟩ e p.1 p.2),b.M0.map (fun p=>Va (Yh (ZV c) fz) ⟨l,b.nk,(Yh (ZV c) fz).nx⟩ p.1 p.2),MM (Yh (ZV c) fz) b l e)=(true,some (YL c),true,.call { callee:=.value (UI (ZP c).op),args:=MJ (ZP c).op,argTypes:=Lw (ZP c).op },some (.c (.cl f (B6 (Yd (Yh (ZV c) fz).L (UI (ZP c).op))) (B7 (Yd (Yh (ZV c) fz).L (UI (ZP c).op))))),some (b.args.map (Vd ⟨l,b.nk,(Yh (ZV c) fz).nx⟩)),b.V0.map (fun p=>some p.2),b.M0.map (fun p=>some (VM ⟨l,b.nk,(Yh (ZV c) fz).nx⟩ p.2)),true):=by kernel_rfl):Wc X c:=by
 simp only [Zp] at i
 have ⟨r,j,u,v,x,y,z,A,C⟩:=i
 have ⟨D,G⟩:=Xi r
 refine Wc.evz (d:=dCb b l fz c) fz D u (Xl j rfl) (fun nk E0 F0 w0 n0 Z rest K o q h=>WPr.callc (X:=X.var nk E0 F0 w0 n0 Z) m l e o q v j G x y z A g C h) k
theorem ZR {f:FuncId} {b:Ct} {c:Cf} (d:Fn X.P f b) (fz:List Nat) (l:List (Nat × SC)) (k:Wc X (nCb b l fz c))
  (e:(hB X.fn.ntmps c,(ZP c).dst,Tn (ZV c) fz,(ZP c).op,Yd (Yh (ZV c) fz).L (UI (ZP c).op),(V7 (Yh (ZV c) fz).L (MJ (ZP c).op).toList).map (fun g=>RG (B6 (Yd (Yh (ZV c) fz).L (UI (ZP c).op)))++g++RG (B7 (Yd (Yh (ZV c) fz).L (UI (ZP c).op)))),b.V0.map (fun p=>QS (Yh (ZV c) fz) ⟨l,b.nk,(Yh (ZV c) fz).nx⟩ [] p.1 p.2),b.M0.map (fun p=>Va (Yh (ZV c) fz) ⟨l,b.nk,(Yh (ZV c) fz).nx⟩ p.1 p.2),MM (Yh (ZV c) fz) b l [])=(true,some (YL c),true,.call { callee:=.value (UI (ZP c).op),args:=MJ (ZP c).op,argTypes:=Lw (ZP c).op },some (.c (.cl f (B6 (Yd (Yh (ZV c) fz).L (UI (ZP c).op))) (B7 (Yd (Yh (ZV c) fz).L (UI (ZP c).op))))),some (b.args.map (Vd ⟨l,b.nk,(Yh (ZV c) fz).nx⟩)),b.V0.map (fun p=>some p.2),b.M0.map (fun p=>some (VM ⟨l,b.nk,(Yh (ZV c) fz).nx⟩ p.2)),true):=by kernel_rfl):Wc X c:=XA d fz l [] (.inl rfl) k e
end
end
section
variable [LxP]
def Cf.isC:Cf->Bool
 | .co _ _=>true
 | _=>false
def Cf.itm:Cf->List Item
 | .co k _=>k
 | _=>[]
section
variable {X:Ctx} {tt:List (Nat × TD)}
theorem Wc.co {c:Cf} (h:c.isC=true) (k:WP X c.itm c.st):Wc X c:=by
 cases c with
 | co _ _=>exact ⟨k⟩
 | rg _ _ _ _ _=>cases h
 | no=>cases h
def Tw:Cf->Nat
 | .co (.code (.cond (.tmp d) _ _)::_) _=>d
 | .rg _ ops i _ _=>match ops[i]? with
  | some o=>match o.guard with
   | some (j,_)=>match ops[j]? with
    | some oj=>oj.dst.getD 0
    | none=>0
   | none=>0
  | none=>0
 | _=>0
def gjC (c:Cf):Nat:=match (ZP c).guard with
 | some (j,_)=>j
 | none=>0
def Lr:Cf->Option (List (Nat × SV))
 | .rg (some q) ops i k s=>some (YN q.2.2 (gjC (.rg (some q) ops i k s))).dL
 | _=>none
def Ly (b:Bool):Cf->Option (List (Nat × SV))
 | .rg (some q) ops i k s=>some [(Tw (.rg (some q) ops i k s),.c (.b b))]
 | _=>none
def setL (d:Nat) (b:Bool) (s:St):St:=⟨(d,.c (.b b))::s.L,s.M,s.V,s.nx⟩
def GH (j d:Nat) (b:Bool) (es:List Ent):List Ent:=es.set j { YN es j with dL:=[(d,.c (.b b))] }
def Si (t:Bool):Cf->Cf
 | .co k s=>.co k (setL (Tw (.co k s)) t s)
 | .rg none ops i k s=>.rg none ops i k (setL (Tw (.rg none ops i k s)) t s)
 | .rg (some q) ops i k s=>.rg (some (q.1,q.2.1,GH (gjC (.rg (some q) ops i k s)) (Tw (.rg (some q) ops i k s)) t q.2.2)) ops i k (setL (Tw (.rg (some q) ops i k s)) t s)
 | .no=>.no
theorem Zr7 {j d:Nat} {b:Bool} {es:List Ent} (h:(YN es j).dL=[(d,.c (.b b))]):GH j d b es=es:=by
 unfold GH
 rw [<- h]
 show es.set j (YN es j)=es
 unfold YN
 by_cases e:j < es.length
 ·rw [show es.getD j Zjj=es[j] by simp [List.getD,e],List.set_getElem_self]
 ·exact List.set_eq_of_length_le (Nat.not_lt.1 e)
theorem eK {b t:Bool} (K:b=t) {c:Cf} (k:Wc X (Si t c)) (g:(ZQ c.st.L (Tw c),Lr c)=(some (.c (.b b)),Ly b c):=by kernel_rfl):Wc X c:=by
 subst K
 have ⟨d,n⟩:=Prod.mk.inj g
 cases c with
 | no=>exact k.1.elim
 | co f s=>exact ⟨fun E F w a h=>k.1 E F w a (Sat.setL0 h d rfl trivial)⟩
 | rg m ops i f s =>
  cases m with
  | none=>exact ⟨WPr.kb _ rfl d k.1⟩
  | some q =>
   refine ⟨fun j l=>?_⟩
   have e:=Zr7 (Zk n)
   have k:AllLS X ops 0 (GH _ _ _ q.2.2)->(GH _ _ _ q.2.2).length=i->WP X (.code (.region q.1 ops true)::f) q.2.1:=k.1
   rw [e] at k
   exact k j l
theorem wa (htt:TTOk X.P tt) (n:Nat) {c:Cf} (k:Wc X (X6 tt X.fn.ntmps n c)):Wc X c:=ZhT htt n k
def ctS (c:Cf) (s:St):Cf:=.co c.kk s
theorem Z4 {σ:Type} (J:σ->St) (Q:σ->Prop) {c:Cf} (d:∀ b,Q b->Wc X (ctS c (J b))) (h:(∀ b,Q b->WP X c.kk (J b))->Wc X c):Wc X c:=h fun b e=>(d b e).1
def RQ (c:Cf):Code:=match c with
 | .co (.code (.loop x)::_) _=>x
 | _=>.skip
def lpS (c:Cf) (s:St):Cf:=.co (.code (RQ c)::.inLoop (RQ c)::c.kk) s
def lpK (c:Cf):List Item:=.inLoop (RQ c)::c.kk
def lpI (c:Cf):List Item:=.code (.loop (RQ c))::c.kk
theorem Ye {σ ρ:Type} {r:ρ} (H:σ->St) (p:Nat->σ->Option ρ) (f:∀ b,p 0 b=none) {c:Cf}
  (e:∀ n,(∀ b,p n b=some r->WP X (lpK c) (H b))->∀ b,p (n+1) b=some r->Wc X (lpS c (H b)))
  (h:(∀ n b,p n b=some r->WP X (lpI c) (H b))->Wc X c):Wc X c:=by
 have key:∀ n b,p n b=some r->WP X (.code (RQ c)::.inLoop (RQ c)::c.kk) (H b):=by
  intro n
  induction n with
  | zero=>intro b d;rw [f] at d;cases d
  | succ n i=>exact fun b g=>(e n (fun b d=>WP.inLoop (i b d)) b g).1
 exact h fun n b d=>WP.loop (key n b d)
theorem ZO {t:St} {todo:List Item} (l:List (Nat × SC)) (k:WP X todo t) {c:Cf}
    (b:(c.isC,c.itm,t.L.map (fun p=>ZQ c.st.L p.1),t.V.map (fun p=>TU c.st ⟨l,0,0⟩ p.1 p.2),t.M.map (fun p=>Va c.st ⟨l,0,0⟩ p.1 p.2),
        (t.L.all (fun p=>Ts ⟨l,0,0⟩ p.2) && XT (t.M.filterMap fun p=>XG ⟨l,0,0⟩ p.1 p.2) && XT (t.M.map (·.1)) && Pd t.L t.M t.V t.nx && l.all (fun p=>Nat.ble X.nk p.1 && p.2.kbb c.st.nx) && Nat.ble X.nk t.nx)) =
      (true,todo,t.L.map (fun p=>some (Vd ⟨l,0,0⟩ p.2)),t.V.map (fun p=>some p.2),t.M.map (fun p=>some (VM ⟨l,0,0⟩ p.2)),true):=by kernel_rfl):Wc X c:=by
  simp only [Zp] at b
  have ⟨d,e,f,g,h,i⟩:=b
  refine Wc.co d ?_
  rw [e]
  exact WP.sub l k f g h i
def Sb (f:St->St):Cf->Cf
 | .co k s=>.co k (f s)
 | .rg none ops i k s=>.rg none ops i k (f s)
 | _=>.no
theorem Q0 {f:St->St} {c:Cf} (h:∀ E F w a,Sat X c.st E F w a->∃ b d,Sat X (f c.st) b d w a) (k:Wc X (Sb f c)):Wc X c:=by
 cases c with
 | no=>exact k.1.elim
 | co g s=>exact ⟨fun E F w a e=>let ⟨b,d,hs'⟩:=h E F w a e;k.1 b d w a hs'⟩
 | rg m ops i g s =>
  cases m with
  | none=>exact ⟨fun E F w a e=>let ⟨b,d,hs'⟩:=h E F w a e;k.1 b d w a hs'⟩
  | some q=>exact k.1.elim
theorem WK (fz:List Nat) {c:Cf} (k:Wc X (Sb (fun s=>Yh s fz) c)) (b:Tn c.st fz=true:=by kernel_rfl):Wc X c :=
 Q0 (fun _ _ _ _ d=>let ⟨F',h⟩:=ZeI d b;⟨_,F',h⟩) k
theorem eSl {α:Type} (R:TRep α) {xs zs:List α} {l h:Option Int} (K:Nat) (d:lsl xs l h=some zs) {c:Cf}
  (k:Wc X (Sb (fun s=>⟨s.L,(K,.own R zs (WM (ZQ s.M (Xs (ZQ s.V K)))))::(Xs (ZQ s.V K),.gone)::s.M,s.V,s.nx⟩) c))
  (b:(ZQ c.st.V K,ZQ c.st.M (Xs (ZQ c.st.V K)),(ZQ c.st.M K).isNone)=(some (.vw (Xs (ZQ c.st.V K)) l h R.sz),some (.own R xs (WM (ZQ c.st.M (Xs (ZQ c.st.V K))))),true):=by kernel_rfl):Wc X c:=by
 simp only [Zp,Option.isNone_iff_eq_none] at b
 have ⟨f,g,i⟩:=b
 exact Q0 (fun E F w a e=>⟨E,F,e.settle d f g i⟩) k
def Zfu:Cf->Bool
 | .co [] _=>true
 | .co (.code .ret::_) _=>true
 | _=>false
theorem Y2 {P:Program} {f:FuncId} {fn:Func} {b:Ct} {E0:Env} {F0:YB} {w0:World} (htt:TTOk P tt) (e:P.funcs[f]? = some fn) (l:List (Nat × SC)) {c:Cf}
    (g:(Zfu c,Lk tt c.st fn.results.toList,b.V1.map (fun p=>TU c.st ⟨l,0,0⟩ p.1 p.2),b.M1.map (fun p=>Va c.st ⟨l,0,0⟩ p.1 p.2),
        (Ts ⟨l,0,0⟩ b.res && XT (b.M1.filterMap fun p=>XG ⟨l,0,0⟩ p.1 p.2) && XT (b.M1.map (·.1)) && l.all (fun p=>Nat.ble b.nk p.1 && p.2.kbb c.st.nx))) =
      (true,some (Vd ⟨l,0,0⟩ b.res),b.V1.map (fun p=>some p.2),b.M1.map (fun p=>some (VM ⟨l,0,0⟩ p.2)),true):=by kernel_rfl):Wc (b.ctx P f fn E0 F0 w0) c:=by
  simp only [Zp] at g
  have ⟨d,h,i,j,k⟩:=g
  unfold Zfu at d
  split at d
  · exact ⟨WP.fin htt e l h i j k⟩
  · exact ⟨WP.ret htt e l h i j k⟩
  · cases d
theorem Z5 {P:Program} {f:FuncId} {c:Ct} {fn:Func} {body:Code} (d:P.funcs[f]? = some fn) (e:fn.body=some body) (h:∀ E F w,Wc (c.ctx P f fn E F w) (.co [.code body] ⟨RS 0 c.args,c.M0,c.V0,c.nk⟩))
  (b:((fn.name == "runtime.NumGoroutine"),(Pd (RS 0 c.args) c.M0 c.V0 c.nk && c.M0.all (fun p => !p.2.isFresh) && Nat.ble c.args.length fn.ntmps))=(false,true):=by kernel_rfl):Fn P f c :=
 Fn.intro fn body d e (Prod.mk.inj b).1 (Prod.mk.inj b).2 fun E F w=>(h E F w).1
def TN:List Oper->List Nat->List Nat
 | [],acc=>acc
 | o::r,acc=>TN r (acc++[RD acc o.after.toList])
def QR:Cf->List Ent
 | .rg (some q) _ _ _ _=>q.2.2
 | _=>[]
def GK:Cf->St
 | .rg (some q) _ _ _ _=>q.2.1
 | _=>⟨[],[],[],0⟩
def isD:Cf->Bool
 | .rg (some _) ops i _ _=>Nat.beq i ops.size
 | _=>false
def ZoF (c:Cf):Cf:=.co c.kk (WX (QR c) c.st.nx (GK c) fun _=>true)
theorem Yn {c:Cf} (k:Wc X (ZoF c)) (r:(isD c,X.P.follows .mixedOrders,MN c.ops (QR c) (TN c.ops.toList []) (GK c).nx c.st.nx,M9 (QR c) (TN c.ops.toList []) (GK c))=(true,true,true,Lz (QR c)):=by kernel_rfl):Wc X c:=by
 simp only [Zp] at r
 have ⟨f,u,g,l⟩:=r
 cases c with
 | no=>cases f
 | co p s=>cases f
 | rg m ops i p s =>
  cases m with
  | none=>cases f
  | some q =>
   refine ⟨fun e v=>?_⟩
   have ⟨k⟩:=k
   have ⟨id,b,es⟩:=q
   replace g:MN ops es (TN ops.toList []) b.nx s.nx=true:=g
   replace l:M9 es (TN ops.toList []) b=Lz es:=l
   replace e:AllLS X ops 0 es:=e
   show WP X (.code (.region id ops true)::p) b
   intro E F w a d
   have c:=Zih g
   refine Zfz (wp_region_any u ?_)
   have n:Sat X b E F { w with drawn:=w.drawn+1 } a:=d.world rfl rfl .m (Zo _) fun _ _=>rfl
   have o:∀ j,(Array.replicate ops.size false).getD j false=false:=fun j=>by
    by_cases h:j < ops.size<;>simp [h]
   refine ZrL (todo:=rk X p) e c l d.wf d.nk (fun E F w a d=>k E F w a d) ops.size _ E F _ a (by simp)
    (fun i hi=>by rw [o] at hi;cases hi) (by rw [c.size];exact Zek fun j _=>by rw [<- c.size];exact o j) ?_
   have:WX es s.nx b (fun j=>(Array.replicate ops.size false).getD j false)=⟨b.L,b.M,b.V,s.nx⟩:=by
    rw [show (fun j=>(Array.replicate ops.size false).getD j false)=fun _=>false from funext o]
    unfold WX
    rw [QT,QT,QT]
   show Sat X (WX es s.nx b _) E F _ a
   rw [this]
   exact n.nxt c.nxle
end
end
section
variable [LxP]
def MK (P:Program) (t:TypeId):Nat:=match P.underlying t with
 | some (.array n _)=>n
 | _=>0
def Xu (P:Program) (t:TypeId):TypeId:=match P.underlying t with
 | some (.array _ e)=>e
 | some (.slice e)=>e
 | some (.pointer e)=>e
 | _=>0
def Tx (P:Program) (t:TypeId):Nat:=((P.info? t).map (·.size)).getD 0
def ZeO:Option VF->Bool
 | some (.pl _)=>true
 | some (.el _ _)=>true
 | _=>false
theorem Zpo {V:List (Nat × VF)} {k:Nat} (h:ZeO (ZQ V k)=true):(∃ cs,ZQ V k=some (.pl cs))\/∃ q m,ZQ V k=some (.el q m):=by
 unfold ZeO at h
 split at h
 ·rename_i cs e;exact .inl ⟨cs,e⟩
 ·rename_i q m e;exact .inr ⟨q,m,e⟩
 ·cases h
def H5:Option MO->TypeId
 | some (.box _ t)=>t
 | _=>0
def RH:Option MO->List SC
 | some (.box cs _)=>cs
 | _=>[]
section
variable {X:Ctx} {tt:List (Nat × TD)}
def dAx (v:SC) (c:Cf):Dl:=d1 c (.c v)
def nAx (v:SC) (c:Cf):Cf:=Xh (dAx v c) c
theorem Gc {α:Type} {m:Int} {e:α} {c:Cf} (f:α->SC) (xs:List α) (hi:ZW xs m=some e) (k:Wc X (nAx (f e) c))
    (b:(hB X.fn.ntmps c,(ZP c).dst,(ZP c).op,X.P.underlying (Z8 (ZP c).op),(X.P.info? (Xu X.P (Z8 (ZP c).op))).map (·.size),XY X.P (Xu X.P (Z8 (ZP c).op)),(X.P.underlying (Xu X.P (Z8 (ZP c).op))).isSome,Z6 c 0,Z6 c 1)=(true,some (YL c),.index (Z8 (ZP c).op) (Yl (ZP c).op 0) (Yl (ZP c).op 1),some (.array xs.length (Xu X.P (Z8 (ZP c).op))),some 1,false,true,some (.a (xs.map f)),some (.c (.i (TY (Z6 c 1)) m))):=by kernel_rfl):Wc X c:=by
  simp only [Zp] at b
  have ⟨n,g,o,p,q,r,u,v,x⟩:=b
  have ⟨y,z⟩:=Xi n
  refine Wc.ev (d:=dAx (f e) c) y (Xl g rfl) (fun nk E0 F0 w0 n0 Z rest K j l h=>WPr.ax (X:=X.var nk E0 F0 w0 n0 Z) f xs hi j l o g p q r u v rfl x z h) k
def dAb (P:Program) (j:Nat) (c:Cf):Dl:=d1 c (.c (.bp (Yo (Z6 c 0)) (Xe (Z6 c 0)+j * Tx P (Xu P (Z8 (ZP c).op)))))
def nAb (P:Program) (j:Nat) (c:Cf):Cf:=Xh (dAb P j c) c
theorem XI {m:Int} {c:Cf} (j:Nat) (f:m=(j:Int)) (k:Wc X (nAb X.P j c))
    (b:(hB X.fn.ntmps c,(ZP c).dst,(ZP c).op,X.P.underlying (Z8 (ZP c).op),(X.P.info? (Xu X.P (Z8 (ZP c).op))).map (·.size),Nat.blt j (MK X.P (Z8 (ZP c).op)),Z6 c 0,Z6 c 1)=(true,some (YL c),.indexAddr (Z8 (ZP c).op) (Yl (ZP c).op 0) (Yl (ZP c).op 1),some (.array (MK X.P (Z8 (ZP c).op)) (Xu X.P (Z8 (ZP c).op))),some (Tx X.P (Xu X.P (Z8 (ZP c).op))),true,some (.c (.bp (Yo (Z6 c 0)) (Xe (Z6 c 0)))),some (.c (.i (TY (Z6 c 1)) m))):=by kernel_rfl):Wc X c:=by
  simp only [Zp] at b
  have ⟨n,e,o,p,q,r,u,v⟩:=b
  have ⟨x,y⟩:=Xi n
  refine Wc.ev (d:=dAb X.P j c) x (Xl e rfl) (fun nk E0 F0 w0 n0 Z rest K g l h=>WPr.axb (X:=X.var nk E0 F0 w0 n0 Z) j f g l o e p q r u v y h) k
def dAq (P:Program) (j:Nat) (c:Cf):Dl:=d1 c (.c (.px (Yo (Z6 c 0)) (Xe (Z6 c 0)+j * Tx P (Xu P (Z8 (ZP c).op)))))
def nAq (P:Program) (j:Nat) (c:Cf):Cf:=Xh (dAq P j c) c
theorem eAq {m:Int} {c:Cf} (j:Nat) (f:m=(j:Int)) (k:Wc X (nAq X.P j c))
    (b:(hB X.fn.ntmps c,(ZP c).dst,(ZP c).op,X.P.underlying (Z8 (ZP c).op),(X.P.info? (Xu X.P (Z8 (ZP c).op))).map (·.size),Nat.blt j (MK X.P (Z8 (ZP c).op)),Z6 c 0,ZeO (ZQ (ZV c).V (Yo (Z6 c 0))),Z6 c 1)=(true,some (YL c),.indexAddr (Z8 (ZP c).op) (Yl (ZP c).op 0) (Yl (ZP c).op 1),some (.array (MK X.P (Z8 (ZP c).op)) (Xu X.P (Z8 (ZP c).op))),some (Tx X.P (Xu X.P (Z8 (ZP c).op))),true,some (.c (.px (Yo (Z6 c 0)) (Xe (Z6 c 0)))),true,some (.c (.i (TY (Z6 c 1)) m))):=by kernel_rfl):Wc X c:=by
  simp only [Zp] at b
  have ⟨n,e,o,p,q,r,u,v,x⟩:=b
  have ⟨y,z⟩:=Xi n
  refine Wc.ev (d:=dAq X.P j c) y (Xl e rfl) (fun nk E0 F0 w0 n0 Z rest K g l h=>WPr.axp (X:=X.var nk E0 F0 w0 n0 Z) j f g l o e p q r u (Zpo v) x z h) k
def dPn (neg:Bool) (c:Cf):Dl:=d1 c (.c (.b neg))
def nPn (neg:Bool) (c:Cf):Cf:=Xh (dPn neg c) c
theorem ePn {c:Cf} (b:Bool) (k:Wc X (nPn b c))
  (e:(hB X.fn.ntmps c,(ZP c).dst,(ZP c).op,X.P.underlying (Z8 (ZP c).op),Z6 c 0,Z6 c 1)=(true,some (YL c),.binOp (bif b then .neq else .eql) (Z8 (ZP c).op) (Yl (ZP c).op 0) (Yl (ZP c).op 1) (Xy (ZP c).op),some (.pointer (Xu X.P (Z8 (ZP c).op))),some (.c (.bp (Yo (Z6 c 0)) (Xe (Z6 c 0)))),some (.c (.v (.pointer none)))):=by kernel_rfl):Wc X c:=by
 simp only [Zp] at e
 have ⟨j,f,l,m,n,o⟩:=e
 have ⟨p,q⟩:=Xi j
 refine Wc.ev (d:=dPn b c) p (Xl f rfl) (fun nk E0 F0 w0 n0 Z rest K g i h=>WPr.pnil (X:=X.var nk E0 F0 w0 n0 Z) b g i l f m n o q h) k
def dSb {α:Type} (R:TRep α) (xs:List α) (fz:List Nat) (c:Cf):Dl:=⟨[(YL c,.c (.sl (Yh (ZV c) fz).nx))],[((Yh (ZV c) fz).nx,.own R xs false),((Yo (Yd (Yh (ZV c) fz).L (Yl (ZP c).op 0))),.gone)],[],1⟩
def nSb {α:Type} (R:TRep α) (xs:List α) (fz:List Nat) (c:Cf):Cf:=Xh ((dSb R xs fz c).fz (ZV c) fz) c
theorem eSb {α:Type} {R:TRep α} {c:Cf} (fz:List Nat) (O:Opn R) (xs:List α) (k:Wc X (nSb R xs fz c))
    (f:(hB X.fn.ntmps c,(ZP c).dst,Tn (ZV c) fz,(ZP c).op,X.P.underlying (Z8 (ZP c).op),(X.P.info? (Xu X.P (Z8 (ZP c).op))).map (·.size),Yd (Yh (ZV c) fz).L (Yl (ZP c).op 0),(ZQ (Yh (ZV c) fz).M (Yo (Yd (Yh (ZV c) fz).L (Yl (ZP c).op 0)))),(ZQ (Yh (ZV c) fz).M (Yh (ZV c) fz).nx).isNone,GC O (ZQ (Yh (ZV c) fz).V) xs (RH (ZQ (Yh (ZV c) fz).M (Yo (Yd (Yh (ZV c) fz).L (Yl (ZP c).op 0))))),GB R.sz xs (RH (ZQ (Yh (ZV c) fz).M (Yo (Yd (Yh (ZV c) fz).L (Yl (ZP c).op 0))))))=(true,some (YL c),true,.slice (Z8 (ZP c).op) (Yl (ZP c).op 0) none none none,some (.array xs.length (Xu X.P (Z8 (ZP c).op))),some R.sz,some (.c (.bp (Yo (Yd (Yh (ZV c) fz).L (Yl (ZP c).op 0))) 0)),some (.box (RH (ZQ (Yh (ZV c) fz).M (Yo (Yd (Yh (ZV c) fz).L (Yl (ZP c).op 0))))) (H5 (ZQ (Yh (ZV c) fz).M (Yo (Yd (Yh (ZV c) fz).L (Yl (ZP c).op 0)))))),true,GD O (ZQ (Yh (ZV c) fz).V) xs (RH (ZQ (Yh (ZV c) fz).M (Yo (Yd (Yh (ZV c) fz).L (Yl (ZP c).op 0))))),[]):=by kernel_rfl):Wc X c:=by
  simp only [Zp] at f
  have ⟨l,g,m,n,o,p,q,r,u,b,e⟩:=f
  have ⟨v,x⟩:=Xi l
  refine Wc.evz (d:=dSb R xs fz c) fz v m (Xl g rfl) (fun nk E0 F0 w0 n0 Z rest K i j h=>WPr.slb (X:=X.var nk E0 F0 w0 n0 Z) O xs (ZaP b e) i j n g o p q r (by rw [x,u];simp) h) k
def dCs (ys:List Int) (c:Cf):Dl:=d1 c (.c (.s (ZaY ys)))
def nCs (ys:List Int) (c:Cf):Cf:=Xh (dCs ys c) c
theorem eCs {c:Cf} (ys:List Int) (k:Wc X (nCs ys c))
  (f:(hB X.fn.ntmps c,(ZP c).dst,(ZP c).op,X.P.underlying (Z8 (ZP c).op),X.P.underlying (Xy (ZP c).op),X.P.underlying (Xu X.P (Z8 (ZP c).op)),Z6 c 0,MS (ZV c) (VB (Z6 c 0)))=(true,some (YL c),.convert (Z8 (ZP c).op) (Xy (ZP c).op) (Yl (ZP c).op 0),some (.slice (Xu X.P (Z8 (ZP c).op))),some .string,some (.int .u8),some (.c (VB (Z6 c 0))),some ⟨rI .u8,ys⟩):=by kernel_rfl):Wc X c:=by
 simp only [Zp] at f
 have ⟨m,g,n,o,p,q,i,b⟩:=f
 have ⟨r,u⟩:=Xi m
 have ⟨z,v,e⟩:=Zel b
 refine Wc.ev (d:=dCs ys c) r (Xl g rfl) (fun nk E0 F0 w0 n0 Z rest K j l h=>?_) k
 rw [v] at i b
 refine WPr.cvs (X:=X.var nk E0 F0 w0 n0 Z) ys (Ziu b) rfl j l n g o p q i ?_ u h
 rcases e with x | ⟨fr,y⟩
 ·exact Rf x
 ·exact shO y
def dEx (v:SV) (c:Cf):Dl:=d1 c v
def nEx (v:SV) (c:Cf):Cf:=Xh (dEx v c) c
theorem eEx {f:FuncId} {b:List SV} {v:SV} {c:Cf} (e:∀ (E:Env) (w:World),(callFunc f (b.map (Yc E)).toArray).run X.P w=.ok (.value (Yc E v)) w) (j:∀ n,v.kb n) (k:Wc X (nEx v c))
  (g:(hB X.fn.ntmps c,(ZP c).dst,(ZP c).op,V7 (ZV c).L (MJ (ZP c).op).toList)=(true,some (YL c),.call { callee:=.value (.func f),args:=MJ (ZP c).op,argTypes:=Lw (ZP c).op },some b):=by kernel_rfl):Wc X c:=by
 simp only [Zp] at g
 have ⟨o,i,p,q⟩:=g
 have ⟨r,u⟩:=Xi o
 refine Wc.ev (d:=dEx v c) r (Xl i rfl) (fun nk E0 F0 w0 n0 Z rest K l m h=>WPr.ext (X:=X.var nk E0 F0 w0 n0 Z) e j l m p i u q h) k
def dCw {α:Type} (R:TRep α) (r:List α × Int) (c:Cf):Dl:=⟨[(YL c,.c (.i .i64 r.2))],[((Xs (ZQ (ZV c).V (Yo (Z6 c 0)))),.own R r.1 (WM (ZQ (ZV c).M (Xs (ZQ (ZV c).V (Yo (Z6 c 0)))))))],[],0⟩
def nCw {α:Type} (R:TRep α) (r:List α × Int) (c:Cf):Cf:=Xh (dCw R r c) c
theorem eCw {α:Type} {xs ys:List α} {lo hi:Option Int} {r:List α × Int} {c:Cf} (htt:TTOk X.P tt) (R:TRep α) (g:QN xs lo hi ys=some r) (k:Wc X (nCw R r c))
  (e:(hB X.fn.ntmps c,(ZP c).dst,(ZP c).op,Z6 c 0,ZQ (ZV c).M (Xs (ZQ (ZV c).V (Yo (Z6 c 0)))),Z6 c 1,ZQ tt (Z8 (ZP c).op),RY tt R.sz c,GI (ZV c) ys (VB (Z6 c 1)),ZQ (ZV c).V (Yo (Z6 c 0)))=(true,some (YL c),.call { callee:=.builtin .copy,args:=#[Yl (ZP c).op 0,Yl (ZP c).op 1],argTypes:=#[Z8 (ZP c).op,Xy (ZP c).op] },some (.c (.sl (Yo (Z6 c 0)))),some (.own R xs (WM (ZQ (ZV c).M (Xs (ZQ (ZV c).V (Yo (Z6 c 0))))))),some (.c (VB (Z6 c 1))),some (Yu tt (Z8 (ZP c).op)),true,GJ R ys (VB (Z6 c 1)),some (.vw (Xs (ZQ (ZV c).V (Yo (Z6 c 0)))) lo hi R.sz)):=by kernel_rfl):Wc X c:=by
 simp only [Zp] at e
 have ⟨l,f,m,n,o,p,q,u,v,b⟩:=e
 have ⟨x,y⟩:=Xi l
 refine Wc.ev (d:=dCw R r c) x (Xl f rfl) (fun nk E0 F0 w0 n0 Z rest K i j h=>WPr.cp (X:=X.var nk E0 F0 w0 n0 Z) htt g (ZfM v) i j m f n (.inl b) o p q (Lq u y) h) k
def Zq2 (neg b:Bool) (c:Cf):Cf:=Xh (d1 c (.c (.b (bif neg then !b else b)))) c
def Up:Cf->Bool
 | .rg none _ _ _ _=>true
 | _=>false
theorem eNi {α:Type} (R:TRep α) (xs:List α) (d:Bool) {c:Cf} (p:∀ b:Bool,(b=true->xs=[])->Wc X (Zq2 d b c))
  (n:(hB X.fn.ntmps c,(ZP c).dst,Up c,(ZP c).op,X.P.underlying (Z8 (ZP c).op),Z6 c 0,Z6 c 1,MS (ZV c) (.sl (Yo (Z6 c 0)))) =
   (true,some (YL c),true,.binOp (bif d then .neq else .eql) (Z8 (ZP c).op) (Yl (ZP c).op 0) (Yl (ZP c).op 1) (Xy (ZP c).op),some (.slice (Xu X.P (Z8 (ZP c).op))),some (.c (.sl (Yo (Z6 c 0)))),some (.c .nil),some ⟨R,xs⟩):=by kernel_rfl):Wc X c:=by
 simp only [Zp] at n
 have ⟨r,u,g,v,x,y,z,A⟩:=n
 have ⟨h,C⟩:=Xi r
 have ⟨I,D,j⟩:=Zel A
 cases c with
 | co _ _=>cases g
 | no=>cases g
 | rg m ops i l s =>
  cases m with
  | some q=>cases g
  | none =>
   unfold UW at h
   rw [Zc,Zc] at h
   obtain ⟨⟨_,G⟩,k⟩:=h
   have e:ops[i]? = some (ZP (.rg none ops i l s)):=by
    have ⟨o,e⟩:=Option.isSome_iff_exists.1 G
    have e:ops[i]? = some o:=e
    unfold ZP
    show _=some ((ops[i]?).getD default)
    rw [e];rfl
   have H:YO ops s.L (ZP (.rg none ops i l s))=some true:=by
    split at k
    ·rename_i b f;rw [k] at f;exact f
    ·cases k
   refine ⟨?_⟩
   show WPr X ops (List.range' i (ops.size-i)) (rk X l) s
   rw [Gw e]
   cases D
   exact WPr.nilc d j e H v u x y z C fun b f=>(p b f).1
def ZrT (b:Nat) (m:ByteArray) (c:Cf):Cf:=Xh ⟨[(YL c,.c (.v (.pointer (some ⟨b,0,none⟩))))],[((ZV c).nx,.abs (Vn b m 0))],[],1⟩ c
def ZrU (b:Nat) (c:Cf):Cf:=ZrT b (Zlw (Z6 c 0)) c
theorem eRn (htt:TTOk X.P tt) {c:Cf} (l:∀ b,Wc X (ZrU b c))
  (j:(hB X.fn.ntmps c,(ZP c).dst,Up c,(ZP c).op,ZQ tt (Z8 (ZP c).op),Nat.beq (Yu tt (Z8 (ZP c).op)).kd 2,Z6 c 0) =
   (true,some (YL c),true,.range (Z8 (ZP c).op) (Yl (ZP c).op 0),some (Yu tt (Z8 (ZP c).op)),true,some (.c (.s (Zlw (Z6 c 0))))):=by kernel_rfl):Wc X c:=by
 simp only [Zp] at j
 have ⟨n,p,e,r,u,v,x⟩:=j
 have ⟨f,y⟩:=Xi n
 cases c with
 | co _ _=>cases e
 | no=>cases e
 | rg m ops i h s =>
  cases m with
  | some q=>cases e
  | none =>
   unfold UW at f
   rw [Zc,Zc] at f
   obtain ⟨⟨_,z⟩,g⟩:=f
   have d:ops[i]? = some (ZP (.rg none ops i h s)):=by
    have ⟨o,d⟩:=Option.isSome_iff_exists.1 z
    have d:ops[i]? = some o:=d
    unfold ZP
    show _=some ((ops[i]?).getD default)
    rw [d];rfl
   have A:YO ops s.L (ZP (.rg none ops i h s))=some true:=by
    split at g
    ·rename_i b k;rw [g] at k;exact k
    ·cases g
   refine ⟨?_⟩
   show WPr X ops (List.range' i (ops.size-i)) (rk X h) s
   rw [Gw d]
   exact WPr.rng htt d A r p u v x y fun b=>(l b).1
def dNf (c:Cf):Dl:=d1 c (.t [.inl (.b false)])
def nNf (c:Cf):Cf:=Xh (dNf c) c
theorem eNf {p:Nat} {m:ByteArray} {c:Cf} (b f:Nat) (e:decide (p < m.size)=false) (k:Wc X (nNf c))
  (g:(hB X.fn.ntmps c,(ZP c).dst,(ZP c).op,Z6 c 0,ZQ (ZV c).M f)=(true,some (YL c),.next (Yl (ZP c).op 0) true,some (.c (.v (.pointer (some ⟨b,0,none⟩)))),some (.abs (Vn b m p))):=by kernel_rfl):Wc X c:=by
 simp only [Zp] at g
 have ⟨n,i,o,q,r⟩:=g
 have ⟨u,x⟩:=Xi n
 refine Wc.ev (d:=dNf  c) u (Xl i rfl) (fun nk E0 F0 w0 n0 Z rest K j l h=>WPr.nxtF (X:=X.var nk E0 F0 w0 n0 Z) f e j l o i q r x h) k
def dNt (b k0:Nat) (m:ByteArray) (p:Nat) (c:Cf):Dl:=⟨[(YL c,.t [.inl (.b true),.inl (.i .i64 (p:Int)),.inl (.i .i32 ((Utf8.decode m p).1:Int))])],[(k0,.abs (Vn b m (p+(Utf8.decode m p).2)))],[],0⟩
def nNt (b k0:Nat) (m:ByteArray) (p:Nat) (c:Cf):Cf:=Xh (dNt b k0 m p c) c
theorem eNt {p:Nat} {m:ByteArray} {c:Cf} (b:Nat) (e:Nat) (f:decide (p < m.size)=true) (k:Wc X (nNt b e m p c))
  (g:(hB X.fn.ntmps c,(ZP c).dst,(ZP c).op,Z6 c 0,ZQ (ZV c).M e)=(true,some (YL c),.next (Yl (ZP c).op 0) true,some (.c (.v (.pointer (some ⟨b,0,none⟩)))),some (.abs (Vn b m p))):=by kernel_rfl):Wc X c:=by
 simp only [Zp] at g
 have ⟨n,i,o,q,r⟩:=g
 have ⟨u,x⟩:=Xi n
 refine Wc.ev (d:=dNt b e m p c) u (Xl i rfl) (fun nk E0 F0 w0 n0 Z rest K j l h=>WPr.nxtT (X:=X.var nk E0 F0 w0 n0 Z) e f j l o i q r x h) k
def dDp {α:Type} (R:TRep α) (r:List α × Int) (c:Cf):Dl:=⟨[(YL c,.c (.i .i64 r.2))],[((Yo (Z6 c 0)),.own R r.1 (WM (ZQ (ZV c).M (Yo (Z6 c 0)))))],[],0⟩
def nDp {α:Type} (R:TRep α) (r:List α × Int) (c:Cf):Cf:=Xh (dDp R r c) c
theorem eDp {α:Type} {xs ys j:List α} {lo hi b e:Option Int} {r:List α × Int} {c:Cf} (htt:TTOk X.P tt) (R:TRep α) (n:lsl j b e=some ys) (o:QN xs lo hi ys=some r) (k:Wc X (nDp R r c))
  (l:(hB X.fn.ntmps c,(ZP c).dst,(ZP c).op,Z6 c 0,ZQ (ZV c).M (Yo (Z6 c 0)),Z6 c 1,ZQ (ZV c).V (Yo (Z6 c 1)),ZQ (ZV c).M (Xs (ZQ (ZV c).V (Yo (Z6 c 1)))),ZQ tt (Z8 (ZP c).op),RY tt R.sz c,lo,hi)=(true,some (YL c),.call { callee:=.builtin .copy,args:=#[Yl (ZP c).op 0,Yl (ZP c).op 1],argTypes:=#[Z8 (ZP c).op,Xy (ZP c).op] },some (.c (.sl (Yo (Z6 c 0)))),some (.own R xs (WM (ZQ (ZV c).M (Yo (Z6 c 0))))),some (.c (.sl (Yo (Z6 c 1)))),some (.vw (Xs (ZQ (ZV c).V (Yo (Z6 c 1)))) b e R.sz),some (.own R j (WM (ZQ (ZV c).M (Xs (ZQ (ZV c).V (Yo (Z6 c 1))))))),some (Yu tt (Z8 (ZP c).op)),true,none,none):=by kernel_rfl):Wc X c:=by
 simp only [Zp] at l
 have ⟨u,m,v,x,y,z,A,C,D,f,g,i⟩:=l
 have ⟨G,H⟩:=Xi u
 refine Wc.ev (d:=dDp R r c) G (Xl m rfl) (fun nk E0 F0 w0 n0 Z rest K p q h=>WPr.cp (X:=X.var nk E0 F0 w0 n0 Z) htt o (Zss n A C) p q v m x (.inr ⟨rfl,g,i⟩) y z D (Lq f H) h) k
end
end
section
variable [LxP]
def Sl {α:Type} (R:TRep α) (n1 b p0:Nat) (vs:List Value) (xss:List (List α)) (h:Option Nat):MC where
 fp c:=c=b\/∃ (j:Nat) (v:Value),vs[j]? = some v/\h≠some j/\YH v=some c
 ok F w:=(∃ arr el fz,w.heap[b]? = some (.cells arr el fz)/\RC fz arr.size/\∀ (j:Nat) (v:Value),vs[j]? = some v->arr[p0+j]? = some v)/\vs.length=xss.length/\n1<=b /\
  (∀ (j:Nat) v xs,vs[j]? = some v->xss[j]? = some xs->h≠some j->OwnR R F w xs v) /\
  (∀ (j:Nat) v c,vs[j]? = some v->h≠some j->YH v=some c->n1<=c/\c≠b) /\
  (∀ (i j:Nat) u v c,vs[i]? = some u->vs[j]? = some v->i≠j->h≠some i->h≠some j->YH u=some c->YH v≠some c)/\∀ v∈vs,v.oneCell'=true
 mono:=fun g hb ⟨⟨arr,el,fz,h1,h2,h3⟩,h4,h5,h6,h7,h8,h9⟩=>⟨⟨arr,el,fz,by rw [hb b (.inl rfl)];exact h1,h2,h3⟩,h4,h5,
  fun j v xs a1 a2 a3=>(h6 j v xs a1 a2 a3).mono g fun c hc=>hb c (.inr ⟨j,v,a1,a3,hc⟩),h7,h8,h9⟩
section
variable {X:Ctx} {s:St} {ops:Array Oper} {todo:Act->World->Prop} {tt:List (Nat × TD)}
theorem Sat.reM {E:Env} {F:YB} {w:World} {a:Act} (c:Sat X s E F w a) {M':List (Nat × MO)} (g:∀ k m,ZQ M' k=some m->k < s.nx/\m.kb s.nx) (h:∀ k m,ZQ M' k=some m->m.ok E F w k)
  (i:∀ k m,ZQ M' k=some m->∀ b,m.fp E k b->∃ d e,ZQ s.M d=some e/\e.fp E d b)
  (j:∀ k f m m',ZQ M' k=some m->ZQ M' f=some m'->k≠f->∀ b,m.fp E k b->¬ m'.fp E f b) (l:∀ k m,ZQ M' k=some m->m.isFresh=true->∀ b,m.fp E k b->X.n0<=b) :
  Sat X ⟨s.L,M',s.V,s.nx⟩ E F w a:={ c with
 wf:=⟨c.wf.hL,g,c.wf.hV⟩
 hM:=h
 dis:=j
 mF:=fun k m n b o=>let ⟨d,e,hm,hf⟩:=i k m n b o;c.mF d e hm b hf
 fresh:=l }
theorem Sat.addFn {E:Env} {F:YB} {w:World} {a:Act} (c:Sat X s E F w a) {k:Nat} {Φ:Value->Prop} (d:k < s.nx) (h:Φ (E.ρ k)):Sat X ⟨s.L,s.M,(k,.fn Φ)::s.V,s.nx⟩ E F w a:={ c with
 wf:=⟨c.wf.hL,c.wf.hM,fun j f b=>by
  rw [YG] at b
  split at b
  ·rename_i e;cases b;subst e;exact ⟨d,trivial⟩
  ·exact c.wf.hV j f b⟩
 hV:=fun j f b=>by
  rw [YG] at b
  split at b
  ·rename_i e;cases b;subst e;exact h
  ·exact c.hV j f b }
theorem Sat.take {α:Type} {R:TRep α} {b x j k:Nat} {o:List Value} {g:List (List α)} {v:Value} {xs:List α} {E:Env} {F:YB} {w:World} {a:Act} (I:Sat X s E F w a) (hM:ZQ s.M k=some (.abs (Sl R X.n0 b x o g none)))
  (D:o[j]? = some v) (T:g[j]? = some xs):∃ E',E'.ρ s.nx=v /\
   Sat X ⟨s.L,(s.nx,.own R xs true)::(k,.abs (Sl R X.n0 b x o g (some j)))::s.M,(s.nx,.fn (fun u=>o[j]? = some u))::s.V,s.nx+1⟩ E' F w a:=by
 have Y:(Sl R X.n0 b x o g none).ok F w:=I.hM k _ hM
 have ⟨o1,o2,o3,o4,W,o6,o7⟩:=Y
 have S:=o4 j v xs D T (by simp)
 have hE:E.Eqb s.nx (E.setρ s.nx v):=E.eqb_setρ _ _ _ (Zo _)
 have H:(E.setρ s.nx v).ρ s.nx=v:=by simp [Env.setρ]
 have Z:=(I.wf.hM k _ hM).1
 have C:=(I.env hE (fun i=>by
  simp only [Env.setρ];split
  ·exact o7 v (Zb D)
  ·exact I.one i)).nxt (n:=s.nx+1) (Nat.le_succ _)
 have q:∀ c,(Sl R X.n0 b x o g (some j)).fp c->(Sl R X.n0 b x o g none).fp c:=fun c f=>by
  rcases f with f | ⟨i,u,y,A,K⟩
  ·exact .inl f
  ·exact .inr ⟨i,u,y,by simp,K⟩
 have r:∀ c,YH v=some c->(Sl R X.n0 b x o g none).fp c:=fun c f=>.inr ⟨j,v,D,by simp,f⟩
 have d:∀ {i:Nat} {m:MO},ZQ ((s.nx,MO.own R xs true)::(k,.abs (Sl R X.n0 b x o g (some j)))::s.M) i=some m ->
   (s.nx=i/\m=.own R xs true)\/(k=i/\m=.abs (Sl R X.n0 b x o g (some j)))\/(i≠s.nx/\i≠k/\ZQ s.M i=some m):=fun {i m} h=>by
  rw [YG] at h
  split at h
  ·rename_i e;cases h;exact .inl ⟨e,rfl⟩
  ·rename_i e1
   rw [YG] at h
   split at h
   ·rename_i e;cases h;exact .inr (.inl ⟨e,rfl⟩)
   ·rename_i e2;exact .inr (.inr ⟨fun e=>e1 e.symm,fun e=>e2 e.symm,h⟩)
 have s2:=C.reM (M':=(s.nx,.own R xs true)::(k,.abs (Sl R X.n0 b x o g (some j)))::s.M) (fun i m h=>by
   rcases d h with ⟨rfl,rfl⟩ | ⟨rfl,rfl⟩ | ⟨_,_,h⟩
   ·exact ⟨Nat.lt_succ_self _,trivial⟩
   ·exact ⟨Nat.lt_succ_of_lt Z,trivial⟩
   ·have:=I.wf.hM i m h;exact ⟨Nat.lt_succ_of_lt this.1,this.2.mono (Nat.le_succ _)⟩) (fun i m h=>by
   rcases d h with ⟨rfl,rfl⟩ | ⟨rfl,rfl⟩ | ⟨_,_,h⟩
   ·show OwnR R F w xs ((E.setρ s.nx v).ρ s.nx);rw [H];exact S
   ·exact ⟨o1,o2,o3,fun i u ys y A _=>o4 i u ys y A (by simp),fun i u c y _ K=>W i u c y (by simp) K,fun i N u u' c y A K _ _ h6=>o6 i N u u' c y A K (by simp) (by simp) h6,o7⟩
   ·exact C.hM i m h) (fun i m h c f=>by
   rcases d h with ⟨rfl,rfl⟩ | ⟨rfl,rfl⟩ | ⟨_,_,h⟩
   ·have f:YH ((E.setρ s.nx v).ρ s.nx)=some c:=f
    rw [H] at f
    exact ⟨k,_,hM,r c f⟩
   ·exact ⟨_,_,hM,q c f⟩
   ·exact ⟨i,m,h,f⟩) (fun i N m m' h z p c f l=>by
   have U:∀ {c},(MO.own R xs true).fp (E.setρ s.nx v) s.nx c->YH v=some c:=fun {c} f=>by
    have f:YH ((E.setρ s.nx v).ρ s.nx)=some c:=f
    rwa [H] at f
   have T:∀ {c},YH v=some c->(Sl R X.n0 b x o g (some j)).fp c->False:=fun {c} y A=>by
    rcases A with A | ⟨i,u,g1,g2,g3⟩
    ·exact (W j v c D (by simp) y).2 A
    ·exact o6 j i v u c D g1 (fun e=>g2 (by rw [e])) (by simp) (by simp) y g3
   rcases d h with ⟨rfl,rfl⟩ | ⟨rfl,rfl⟩ | ⟨n1,n2,h⟩
   ·rcases d z with ⟨rfl,rfl⟩ | ⟨rfl,rfl⟩ | ⟨O,G,z⟩
    ·exact p rfl
    ·exact T (U f) l
    ·exact C.dis k N _ m' hM z (fun e=>G e.symm) c (r c (U f)) l
   ·rcases d z with ⟨rfl,rfl⟩ | ⟨rfl,rfl⟩ | ⟨O,G,z⟩
    ·exact T (U l) f
    ·exact p rfl
    ·exact C.dis k N _ m' hM z p c (q c f) l
   ·rcases d z with ⟨rfl,rfl⟩ | ⟨rfl,rfl⟩ | ⟨O,G,z⟩
    ·exact C.dis i k m _ h hM n2 c f (r c (U l))
    ·exact C.dis i k m _ h hM p c f (q c l)
    ·exact C.dis i N m m' h z p c f l) (fun i m h hf c f=>by
   rcases d h with ⟨rfl,rfl⟩ | ⟨rfl,rfl⟩ | ⟨_,_,h⟩
   ·have f:YH ((E.setρ s.nx v).ρ s.nx)=some c:=f
    rw [H] at f
    exact (W j v c D (by simp) f).1
   ·cases hf
   ·exact C.fresh i m h hf c f)
 exact ⟨_,H,s2.addFn (k:=s.nx) (Nat.lt_succ_self _) (by rw [H];exact D)⟩
end
end
section

end
section
variable [LxP]
open Go.Proofs
section
variable {X:Ctx} {s:St} {E:Env} {F:YB} {w:World} {a:Act} {ops:Array Oper} {todo:Act->World->Prop}
end
end
section
variable [LxP]
open Go.Proofs
theorem og {β:Type} {b:Bool} {x:Option β} {r:β} (h:(bif b then x else none)=some r):b=true/\x=some r:=by
 cases b with
 | true=>exact ⟨rfl,h⟩
 | false=>cases h
section
variable {X:Ctx} {tt:List (Nat × TD)}
def BT (tt:List (Nat × TD)) (nt:Nat):Nat->Cf->Cf
 | 0,c=>c
 | n+1,c=>match a1 tt nt c with
  | .no=>c
  | c'=>BT tt nt n c'
theorem ZlM (htt:TTOk X.P tt):∀ (n:Nat) {c:Cf},Wc X (BT tt X.fn.ntmps n c)->Wc X c
 | 0,_,h=>h
 | n+1,c,h=>by
  unfold BT at h
  split at h
  ·exact h
  ·exact ZhS htt (ZlM htt n h)
theorem wm (htt:TTOk X.P tt) {c:Cf} (k:Wc X (BT tt X.fn.ntmps 100 c)):Wc X c:=ZlM htt 100 k
def sl6 (tt:List (Nat × TD)) (nt:Nat) (c:Cf):Bool:=Nat.blt (YL c) nt && Nat.beq (Yu tt (Z8 (ZP c).op)).kd 6
def ZfO (ops:Array Oper) (n:Nat):Bool:=Nat.beq ops.size (n+1) && match ops[n]? with
 | some o=>o.after.toList.all (fun d => !Region.binds .any d || Nat.blt d.on n) && (List.range n).all fun j=>o.after.toList.any fun d=>Region.binds .any d && (Nat.beq d.on j || X7 (TN ops.pop.toList []) d.on j)
 | none=>false
def tlC:Cf->Cf
 | .rg (some q) ops i k s=>.rg none ops i k (WX q.2.2 s.nx q.2.1 fun _=>true)
 | _=>.no
def isT:Cf->Bool
 | .rg (some q) ops i _ _=>Nat.beq i q.2.2.length && ZfO ops i
 | _=>false
theorem eTt {c:Cf} (k:Wc X (tlC c)) (z:(isT c,X.P.follows .mixedOrders,MN c.ops.pop (QR c) (TN c.ops.pop.toList []) (GK c).nx c.st.nx,M9 (QR c) (TN c.ops.pop.toList []) (GK c))=(true,true,true,Lz (QR c)):=by kernel_rfl):Wc X c:=by
 simp only [Zp] at z
 have ⟨f,G,v,x⟩:=z
 cases c with
 | no=>cases f
 | co k s=>cases f
 | rg m ops i C s =>
  cases m with
  | none=>cases f
  | some q =>
   refine ⟨fun p I=>?_⟩
   have ⟨k⟩:=k
   have ⟨id,e,es⟩:=q
   replace v:MN ops.pop es (TN ops.pop.toList []) e.nx s.nx=true:=v
   replace x:M9 es (TN ops.pop.toList []) e=Lz es:=x
   replace p:AllLS X ops 0 es:=p
   replace f:(Nat.beq i es.length && ZfO ops i)=true:=f
   rw [Zc] at f
   have ⟨hi,b⟩:=f
   have hi:=Zd hi
   subst hi
   unfold ZfO at b
   rw [Zc] at b
   have ⟨l,b⟩:=b
   have l:=Zd l
   show WP X (.code (.region id ops true)::C) e
   intro E F w a g
   have c:=Zih v
   refine Zfz (wp_region_any G ?_)
   have y:Sat X e E F { w with drawn:=w.drawn+1 } a:=g.world rfl rfl .m (Zo _) fun _ _=>rfl
   have n:∀ j,(Array.replicate ops.size false).getD j false=false:=fun j=>by
    by_cases h:j < ops.size<;>simp [h]
   have:=ZkU (X:=X) (t:=1) (ops':=ops.pop) (todo:=rk X C) (Zo _) l (fun j r=>by rw [Array.getElem?_pop,if_pos (by omega)]) (fun j o r A=>by
    have H:=(Array.getElem?_eq_some_iff.1 A).1
    obtain rfl:j=es.length:=by omega
    rw [A] at b
    simp only [Zc] at b
    refine ⟨fun d u D=>?_,fun j r=>?_⟩
    ·have:=List.all_eq_true.1 b.1 d (by simpa using u)
     rw [D] at this
     exact YT (by simpa using this)
    ·have ⟨d,u,h⟩:=List.any_eq_true.1 (List.all_eq_true.1 b.2 j (List.mem_range.2 r))
     rw [Zc] at h
     exact ⟨d,by simpa using u,h.1,by
      rcases Bool.or_eq_true _ _ ▸ h.2 with h | h
      ·exact .inl (Zd h)
      ·exact .inr h⟩) p c x g.wf g.nk (fun E F w a g=>by
    have:=k E F w a g
    rw [l] at this
    rw [show es.length+1-es.length=1 by omega] at this
    exact this) es.length (Array.replicate ops.size false) E F _ a (by simp) (fun j _=>n j)
    (fun i hi=>by rw [n] at hi;cases hi) (Zek fun j _=>n j) (by
     have:WX es s.nx e (fun j=>(Array.replicate ops.size false).getD j false)=⟨e.L,e.M,e.V,s.nx⟩:=by
      rw [show (fun j=>(Array.replicate ops.size false).getD j false)=fun _=>false from funext n]
      unfold WX
      rw [QT,QT,QT]
     rw [this]
     exact y.nxt c.nxle)
   rw [<- l] at this
   exact this
end
end
section
variable [LxP]
section
variable {X:Ctx} {tt:List (Nat × TD)}
end
end
section
def Zly (P:Program) (g:Nat) (name:String) (k:IntKind) (zs:List Int):MC where
 fp _:=False
 ok F w:=F g/\P.globalNamed name=some g/\Lib.TabIs P w name k zs
 mono h _:=fun ⟨h1,h2,h3⟩=>⟨h.sub g h1,h2,by
  unfold Lib.TabIs World.var? at h3 ⊢
  rw [h2] at h3 ⊢
  simp only [Option.bind_some] at h3 ⊢
  rw [h.same g h1]
  exact h3⟩
end
end Go.Kx
section
namespace Go.Kx
variable [LxP]
section
variable {X:Ctx} {s:St} {ops:Array Oper} {todo:Act->World->Prop} {tt:List (Nat × TD)}
theorem WPr.cvi {i:Nat} {rest:List Nat} {o:Oper} {t u d:Nat} {x:Operand} {k g:IntKind} {n:Int}
  (h:ops[i]? = some o) (j:YO ops s.L o=some true) (e:o.op=.convert t u x) (l:o.dst=some d)
  (m:X.P.underlying t=some (.int g)) (p:X.P.underlying u=some .string)
  (q:Yd s.L x=some (.c (.i k n))) (r:Nat.blt d X.fn.ntmps=true)
  (y:WPr X ops rest todo ⟨(d,.c (.s (Utf8.encode n)))::s.L,s.M,s.V,s.nx⟩):WPr X ops (i::rest) todo s:=by
 refine WPr.op h j (fun E F w a f=>?_) y
 have ⟨z,_⟩:=f.eval q
 have b:(execOp a.eval o).run X.P w=.ok (.value (.string (Utf8.encode n))) w:=by
  simp only [execOp,e,z,Yc,ZZ]
  refine Y3 ?_
  simp [convert,Xb m,Xb p,Conv.intToString]
 refine XW b ⟨E,F,?_⟩
 rw [l]
 exact f.setL (v:=.c (.s (Utf8.encode n))) trivial (YT r)
end
section
variable {X:Ctx} {tt:List (Nat × TD)}
def Zph:Option TypeDesc->IntKind
 | some (.int k)=>k
 | _=>.i64
def dCr (c:Cf):Dl:=d1 c (.c (.s (Utf8.encode (ZjH (Z6 c 0)))))
def nCr (c:Cf):Cf:=Xh (dCr c) c
theorem Gd {c:Cf} (k:Wc X (nCr c))
  (b:(hB X.fn.ntmps c,(ZP c).dst,(ZP c).op,X.P.underlying (Z8 (ZP c).op),X.P.underlying (Xy (ZP c).op),Z6 c 0)=(true,some (YL c),.convert (Z8 (ZP c).op) (Xy (ZP c).op) (Yl (ZP c).op 0),some (.int (Zph (X.P.underlying (Z8 (ZP c).op)))),some .string,some (.c (.i (TY (Z6 c 0)) (ZjH (Z6 c 0))))):=by kernel_rfl):Wc X c:=by
 simp only [Zp] at b
 have ⟨j,e,l,m,n,o⟩:=b
 have ⟨p,q⟩:=Xi j
 refine Wc.ev (d:=dCr c) p (Xl e rfl) (fun nk E0 F0 w0 n0 Z rest K f g h=>WPr.cvi (X:=X.var nk E0 F0 w0 n0 Z) f g l e m n o q h) k
end
end Go.Kx
namespace Go.Kx
variable [LxP]
theorem ZpX {P:Program} {f:FuncId} {c:Ct} {k:Nat} {A:MC} (h:Fn P f c) (o:c.M0=[(k,.abs A)]) (i:c.res=.c (.b true)) (g:∀ b,¬ A.fp b) {E:Env} {w:World} (p:A.ok (Vz w) w) (l:∀ k,(E.ρ k).oneCell'=true) (hV:∀ k x,ZQ c.V0 k=some x->x.ok E (Vz w) w (E.ρ k)) :
  Calls P f (c.args.map (Yc E)).toArray w fun e w'=>e=.returned (.bool true)/\Ext (Vz w) w w':=by
 have n:∀ j m,ZQ c.M0 j=some m->m=.abs A:=fun j m h=>by
  rw [o,YG] at h
  split at h
  ·cases h;rfl
  ·cases h
 have v:c.Pre E (Vz w) w:=⟨l,fun _ h=>h,hV,fun j m h=>by rw [n j m h];exact p,fun j y m m' h _ _ b d=>by rw [n j m h] at d;exact absurd d (g b),fun j m h b d=>by rw [n j m h] at d;exact absurd d (g b)⟩
 refine (h.calls E (Vz w) w v).mono fun e w' ⟨z,C,q,r⟩=>?_
 refine ⟨by rw [q,i];rfl,r.ext.mono fun b d=>⟨d,?_⟩⟩
 rintro ⟨j,m,u,d⟩
 rw [n j m u] at d
 exact g b d
end Go.Kx
namespace Go.Kx
theorem Zj2 {P:Program} {w:World} {name:String} {d:DataW Unit}:∀ (l:List (String × DataW Unit)) (c:List MemPlace),DataW.LaidVars P w l c->(name,d)∈l ->
    ∃ g t cs b p,P.globalNamed name=some g/\(P.globals[g]?).map (·.type)=some t/\w.var? P name=some cs/\DataW.trod (fun _=>()) P w 0 (fun _=>true) false b t cs.toList=some (d,p)
  | [],_,_,h=>by cases h
  | (n,e)::r,c,⟨g,t,cs,b,p,q,h1,h2,h3,h4,h5,_⟩,h=>by
    rcases List.mem_cons.1 h with f | h
    · cases f
      exact ⟨g,t,cs,b,p,h1,h2,h3,h4⟩
    · exact Zj2 r q h5 h
theorem Zsx {P:Program} {W:World} {name:String} {k:IntKind} {zs:List Int} {l:List (String × DataW Unit)} {i:Nat} {g:Nat} {t e:TypeId} {n:Nat} (c:laidMetH P l W) (r:(l.filter fun x=>x.2.handleName?.isSome).isEmpty=true)
    (hi:l[i]? = some (name,Lib.tabData k zs)) (d:P.globalNamed name=some g) (f:(P.globals[g]?).map (·.type)=some t) (v:P.underlying t=some (.array n e)) (y:P.underlying e=some (.int k)) (j:P.cellsOf e=1) (m:P.cellsOf t=n) :
    (Zly P g name k zs).ok (Vz W) W:=by
  have D:laidMet P l W:=by
    unfold laidMetH at c
    split at c
    · exact c
    · rename_i h;rw [h] at r;cases r
  have ⟨z,A,_⟩:=D
  have ⟨H,I,cs,u,p,o,q,b,C⟩:=Zj2 l z A (Zb hi)
  obtain rfl:=Zk (d.symm.trans o)
  obtain rfl:=Zk (f.symm.trans q)
  have G:Lib.TabIs P W name k zs:=by
    unfold Lib.TabIs
    rw [b,<- Lib.cells_of_tab v y j m C]
  refine ⟨?_,d,G⟩
  show g < W.heap.size
  unfold World.var? at b
  rw [d] at b
  simp only [Option.bind_some] at b
  split at b
  · rename_i h;exact (Array.getElem?_eq_some_iff.1 h).1
  · cases b
end Go.Kx
end
section
namespace Go.Kx
variable [LxP]
def QJ (s m:ByteArray):Option ByteArray:=bif Nat.ble (s.size+m.size) lim then some (s++m) else none
theorem Znl {s m z:ByteArray} (h:QJ s m=some z):z=s++m/\s.size+m.size<=lim:=by
 unfold QJ at h
 cases b:Nat.ble (s.size+m.size) lim with
 | false=>rw [b] at h;cases h
 | true=>rw [b] at h;cases h;exact ⟨rfl,Ze b⟩
theorem ZnF (s m:ByteArray):W1 (s++m)=W1 s++W1 m:=by
 unfold W1
 rw [ByteArray.data_append,Array.toList_append,List.map_append]
def QB (ty:TypeId) (off:Nat) (el:TypeId):Prop:=off=0/\el=ty
theorem BufR.q {ty:TypeId} {F:YB} {w:World} {s:ByteArray} {v:Value} (h:BufR ty w s v):OwnQ (QB ty) (rI .u8) F w (W1 s) v:=by
 rcases h with ⟨h,rfl⟩ | ⟨b,cap,arr,fz,f,g,n,k,l,m⟩
 ·refine .inl ⟨List.eq_nil_of_length_eq_zero (by rw [SP];exact h),rfl⟩
 ·refine .inr ⟨b,0,cap,arr,ty,fz,⟨rfl,rfl⟩,by rw [SP];exact f,by rw [SP];exact g,?_,k,l,fun i x c=>?_⟩
  ·show 0+cap * 1<=_;omega
  ·refine ⟨[.int .u8 x],rfl,fun j v d=>?_⟩
   cases j with
   | succ j=>simp at d
   | zero =>
    simp only [List.getElem?_cons_zero,Option.some.injEq] at d
    subst d
    unfold W1 at c
    rw [List.getElem?_map,Zl] at c
    obtain ⟨u,e,rfl⟩:=c
    have:=m i u e
    show arr[0+i * 1+0]? = _
    rw [Nat.zero_add,Nat.mul_one,Nat.add_zero]
    exact this
theorem BufR.of {ty:TypeId} {F:YB} {w:World} {s:ByteArray} {v:Value} (h:OwnQ (QB ty) (rI .u8) F w (W1 s) v):BufR ty w s v:=by
 rcases h with ⟨h,rfl⟩ | ⟨b,off,cap,arr,el,fz,⟨rfl,rfl⟩,d,f,g,m,n,o⟩
 ·exact .inl ⟨by rw [<- SP,h];rfl,rfl⟩
 ·rw [SP] at d f
  refine .inr ⟨b,cap,arr,fz,d,f,?_,m,n,fun i u j=>?_⟩
  ·have g:0+cap * 1<=arr.size:=g
   omega
  ·have ⟨k,c,l⟩:=o i (u.toNat:Int) (by unfold W1;rw [List.getElem?_map,j];rfl)
   have c:k=[.int .u8 (u.toNat:Int)]:=c
   subst c
   have:=l 0 _ rfl
   have e:0+i * (rI .u8).sz+0=i:=by show 0+i * 1+0=i;omega
   rw [e] at this
   exact this
section
variable {X:Ctx} {s:St} {ops:Array Oper} {todo:Act->World->Prop} {tt:List (Nat × TD)}
theorem Sat.newBuf {E:Env} {F:YB} {w:World} {a:Act} {sb:ByteArray} {ty:TypeId} {v:Value} (d:Sat X s E F w a) (g:BufR ty w sb v)
  (e:∀ b,YH v=some b->¬ F b/\¬ X.Z b/\b < w.heap.size/\∀ k m',ZQ s.M k=some m'->¬ m'.fp E k b) :
  ∃ m,m.ρ s.nx=v/\Sat X ⟨s.L,(s.nx,.buf sb ty)::s.M,s.V,s.nx+1⟩ m F w a:=by
 have l:E.Eqb s.nx (E.setρ s.nx v):=E.eqb_setρ _ _ _ (Zo _)
 have f:(E.setρ s.nx v).ρ s.nx=v:=by simp [Env.setρ]
 have u:=d.env l (fun j=>by
  simp only [Env.setρ];split
  ·rcases g with ⟨_,rfl⟩ | ⟨_,_,_,_,rfl,_⟩<;>rfl
  ·exact d.one j)
 refine ⟨_,f,u.addM' ?_ trivial ?_ (fun h=>by cases h)⟩
 ·show BufR ty w sb ((E.setρ s.nx v).ρ s.nx)
  rw [f];exact g
 ·intro b c
  have c:YH ((E.setρ s.nx v).ρ s.nx)=some b:=c
  rw [f] at c
  have ⟨o,p,q,r⟩:=e b c
  exact ⟨o,p,q,fun k m' i n=>r k m' i ((MO.fp_eqb l (d.wf.hM k m' i).1).1 n)⟩
theorem WPr.apb (htt:TTOk X.P tt) {i:Nat} {rest:List Nat} {o:Oper} {t t2:TypeId} {u m:TD} {x y:Operand} {d k ty:Nat} {A:SC} {sb z:ByteArray} {ys:List Int}
  (I:W1 z=W1 sb++ys/\sb.size+ys.length<=lim) (C:Ui X s (rI .u8) ys A) (N:ops[i]? = some o) (hg:YO ops s.L o=some true) (O:o.op=.call { callee:=.builtin .append,args:=#[x,y],argTypes:=#[t,t2] }) (hd:o.dst=some d)
  (hx:Yd s.L x=some (.c (.sl k))) (K:ZQ s.M k=some (.buf sb ty)) (hy:Yd s.L y=some (.c A)) (ht:ZQ tt t=some u) (S:ZQ tt t2=some m)
  (Z:(Nat.blt d X.fn.ntmps && Nat.beq u.kd 6 && (Nat.beq m.kd 6 || Nat.beq m.kd 2) && Nat.beq u.es 1 && Nat.ble u.eb 32768 && Nat.beq u.el ty)=true)
  (kk:WPr X ops rest todo ⟨(d,.c (.sl s.nx))::s.L,(s.nx,.buf z ty)::(k,.gone)::s.M,s.V,s.nx+1⟩):WPr X ops (i::rest) todo s:=by
 refine WPr.op N hg (fun E F w a f=>?_) kk
 simp only [Zc] at Z
 obtain ⟨⟨⟨⟨⟨c1,c2⟩,T⟩,c3⟩,c4⟩,U⟩:=Z
 have U:=Zd U
 have ⟨e1,_⟩:=f.eval hx
 have ⟨e2,_⟩:=f.eval hy
 have N:BufR ty w sb (E.ρ k):=f.hM k _ K
 have r:∀ b,YH (E.ρ k)=some b->_:=f.mF k _ K
 have W:=ZeU (htt.get S) T
 have ⟨v',w',G,H,g1,g2,g3,g4,g5,g6⟩:=Zlb (QB ty) (ty:=o.type) ⟨rfl,U⟩ W (htt.get ht) c2 (R:=rI .u8) (Zd c3) (N.q (F:=F)) (C E F w a f) (fun b n=>(r b n).1) f.hF (fun b n=>(r b n).2.2) (by rw [SP];exact I.2) (Ze c4)
 rw [<- I.1] at H
 refine XW (v:=v') (w':=w') (Un O ?_) ?_
 ·simp only [List.map_toArray,List.map_cons,List.map_nil,e1,e2,Yc,ZZ]
  exact Y3 G
 ·have s1:=f.setM (m':=.gone) K g1 g2 g3 g4 (fun b n p=>g5 b n (fun e=>p e)) (fun _ h=>h.elim) trivial trivial (fun h=>by cases h)
  have ⟨E',hv,s2⟩:=s1.newBuf (BufR.of H) (fun b n=>by
    have ⟨l,h2⟩:=g6 b n
    rcases l with l | l
    ·have:=r b l
     refine ⟨this.1,this.2.1,h2,fun j m' g D=>?_⟩
     simp only [YG] at g
     split at g
     ·cases g;exact D.elim
     ·rename_i p;exact f.dis k j _ m' K g p b l D
    ·refine ⟨fun hF=>absurd (f.hF b hF) (Nat.not_lt.2 l),fun I=>absurd (Zh (f.hZ b I) f.ext.size) (Nat.not_lt.2 l),h2,fun j m' g D=>?_⟩
     simp only [YG] at g
     split at g
     ·cases g;exact D.elim
     ·exact absurd (f.mF j m' g b D).2.2 (Nat.not_lt.2 l))
  have Y:=s2.setL (d:=d) (v:=.c (.sl s.nx)) (Nat.lt_succ_self _) (YT c1)
  simp only [Yc,ZZ] at Y
  rw [show E'.ρ s.nx=v' from hv] at Y
  rw [hd]
  exact ⟨E',F,Y⟩
theorem WPr.usd {i:Nat} {rest:List Nat} {o:Oper} {x:Operand} {m:Array TypeId} {d k ty:Nat} {sb:ByteArray}
  (n:ops[i]? = some o) (p:YO ops s.L o=some true) (g:o.op=.call { callee:=.builtin .unsafeSliceData,args:=#[x],argTypes:=m }) (q:o.dst=some d)
  (r:Yd s.L x=some (.c (.sl k))) (l:ZQ s.M k=some (.buf sb ty)) (e:(Nat.beq sb.size 0)=false) (u:Nat.blt d X.fn.ntmps=true)
  (y:WPr X ops rest todo ⟨(d,.c (.px k 0))::s.L,s.M,s.V,s.nx⟩):WPr X ops (i::rest) todo s:=by
 refine WPr.val (v:=.c (.px k 0)) (fun E F w a j=>⟨?_,(j.wf.hM k _ l).1⟩) n p q u y
 have ⟨z,_⟩:=j.eval r
 have D:BufR ty w sb (E.ρ k):=j.hM k _ l
 rcases D with ⟨h,_⟩ | ⟨b,cap,arr,fz,A,C,G,H,I,K⟩
 ·rw [h] at e;cases e
 ·refine Un g ?_
  simp only [List.map_toArray,List.map_cons,List.map_nil,z,Yc,ZZ,A]
  have f:cap≠0:=by
   intro h;rw [h] at C
   have:sb.size=0:=by omega
   rw [this] at e;cases e
  exact Y3 ((Go.Lib.run_unsafeSliceData_row _ _ _ _ _ _ f).trans (by simp [WC]))
theorem WPr.bln (htt:TTOk X.P tt) {i:Nat} {rest:List Nat} {o:Oper} {t:TypeId} {j:TD} {x:Operand} {d k ty:Nat} {sb:ByteArray}
  (n:ops[i]? = some o) (p:YO ops s.L o=some true) (e:o.op=.call { callee:=.builtin .len,args:=#[x],argTypes:=#[t] }) (q:o.dst=some d)
  (r:Yd s.L x=some (.c (.sl k))) (u:ZQ s.M k=some (.buf sb ty)) (y:ZQ tt t=some j) (f:(Nat.blt d X.fn.ntmps && Nat.beq j.kd 6)=true)
  (z:WPr X ops rest todo ⟨(d,.c (.i .i64 sb.size))::s.L,s.M,s.V,s.nx⟩):WPr X ops (i::rest) todo s:=by
 simp only [Zc] at f
 refine WPr.val (v:=.c (.i .i64 sb.size)) (fun E F w a l=>⟨?_,trivial⟩) n p q f.1 z
 have ⟨el,m,D⟩:=(htt.get y).sliceOf f.2
 have ⟨A,_⟩:=l.eval r
 have C:BufR ty w sb (E.ρ k):=l.hM k _ u
 refine Un e ?_
 simp only [List.map_toArray,List.map_cons,List.map_nil,A,Yc,ZZ]
 rcases C with ⟨h,g⟩ | ⟨b,cap,arr,fz,g,_⟩
 ·rw [g,h];exact Y3 (by simp [Builtin.len_,Xb m,Builtin.lenOf,goInt])
 ·rw [g];exact Y3 (by simp [Builtin.len_,Xb m,Builtin.lenOf,goInt])
theorem ZoZ {w:World} {b n:Nat} {arr:Array Value} {ty:TypeId} {fz:Nat × Nat} (a:Addr):(w.freeze a n).os=w.os/\(w.freeze a n).tape=w.tape/\(w.freeze a n).output=w.output/\(w.freeze a n).drawn=w.drawn/\(w.freeze a n).heap.size=w.heap.size/\∀ c,c≠a.block->(w.freeze a n).heap[c]? = w.heap[c]? := by
 unfold World.freeze
 split
 ·exact ⟨rfl,rfl,rfl,rfl,rfl,fun _ _=>rfl⟩
 ·refine ⟨rfl,rfl,rfl,rfl,by simp,fun c d=>?_⟩
  simp only [Array.getElem?_modify]
  rw [if_neg (Ne.symm d)]
theorem WPr.ust {i:Nat} {rest:List Nat} {o:Oper} {x y:Operand} {u D:TypeId} {d k ty:Nat} {sb:ByteArray} {n:Int}
  (K:ops[i]? = some o) (N:YO ops s.L o=some true) (z:o.op=.call { callee:=.builtin .unsafeString,args:=#[x,y],argTypes:=#[u,D] }) (O:o.dst=some d)
  (R:Yd s.L x=some (.c (.px k 0))) (S:Yd s.L y=some (.c (.i .i64 n))) (hn0:n=(sb.size:Int)) (G:ZQ s.M k=some (.buf sb ty)) (f:(Nat.beq sb.size 0 || !(Nat.ble sb.size lim))=false)
  (A:X.P.underlying u=some (.pointer ty)) (C:X.P.cellsOf ty=1) (T:Nat.blt d X.fn.ntmps=true)
  (U:WPr X ops rest todo ⟨(d,.c (.s sb))::s.L,(k,.gone)::s.M,s.V,s.nx⟩):WPr X ops (i::rest) todo s:=by
 refine WPr.op K N (fun E F w a r=>?_) U
 have ⟨Y,_⟩:=r.eval R
 have ⟨Z,_⟩:=r.eval S
 rw [Bool.or_eq_false_iff,Bool.not_eq_false'] at f
 have ⟨f,g⟩:=f
 have g:=Ze g
 have hb:BufR ty w sb (E.ρ k):=r.hM k _ G
 rcases hb with ⟨h,_⟩ | ⟨b,cap,arr,fz,H,h1,h2,h3,I,h5⟩
 ·rw [h] at f;cases f
 have l:sb.data.toList.length=sb.size:=by rw [Array.length_toList];rfl
 have p:=Lib.run_unsafeString_row (P:=X.P) w u D o.type ty A C b arr.size (by simp [World.shape?,I]) sb.data.toList (fun h=>by rw [<- l,h] at f;cases f) (by rw [l];omega) (by rw [l];unfold lim at g;omega) (fun j x W=>by
  rw [WS,QL I,Nat.zero_add];exact h5 j x W)
 have e3:(⟨sb.data.toList.toArray⟩:ByteArray)=sb:=by rw [Array.toArray_toList]
 rw [l,e3] at p
 have ⟨f1,f2,f3,f4,f5,f6⟩:=ZoZ (w:=w) (b:=b) (n:=sb.size) (arr:=arr) (ty:=ty) (fz:=fz) ⟨b,0,none⟩
 refine XW (v:=.string sb) (w':=w.freeze ⟨b,0,none⟩ sb.size) (Un z ?_) ?_
 ·simp only [List.map_toArray,List.map_cons,List.map_nil,Y,Z,Yc,ZZ,H,WC,Nat.add_zero,hn0]
  exact Y3 p
 ·have s1:=r.setM (m':=.gone) (w':=w.freeze ⟨b,0,none⟩ sb.size) G f1 f2 (.m f3 (by rw [f4];exact Zo _)) (by rw [f5];exact Zo _) (fun c hc q=>f6 c (fun e=>q (by show YH (E.ρ k)=some c;rw [H,e];rfl))) (fun _ h=>h.elim) trivial trivial (fun h=>by cases h)
  have s3:=s1.setL (d:=d) (v:=.c (.s sb)) trivial (YT T)
  rw [O]
  exact ⟨E,F,s3⟩
theorem WPr.axa (j:Nat) {i:Nat} {rest:List Nat} {o:Oper} {t el len es d:Nat} {x y:Operand} {ik:IntKind} {n:Int} {cs:List SC}
    (q:n=(j:Int)) (r:ops[i]? = some o) (u:YO ops s.L o=some true) (f:o.op=.index t x y) (z:o.dst=some d) (A:X.P.underlying t=some (.array len el))
    (l:(X.P.info? el).map (·.size)=some es) (C:XY X.P el=true) (g:(X.P.underlying el).isSome=true) (b:Nat.blt j len=true)
    (D:Yd s.L x=some (.a cs)) (m:Nat.ble (j * es+es) cs.length=true) (h:Yd s.L y=some (.c (.i ik n))) (G:Nat.blt d X.fn.ntmps=true)
    (H:WPr X ops rest todo ⟨(d,.a ((cs.drop (j * es)).take es))::s.L,s.M,s.V,s.nx⟩):WPr X ops (i::rest) todo s:=by
  refine WPr.val (v:=.a ((cs.drop (j * es)).take es)) (fun E F w a p=>?_) r u z G H
  have ⟨I,K⟩:=p.eval D
  have ⟨N,_⟩:=p.eval h
  have ⟨W,k⟩:=Option.isSome_iff_exists.1 g
  refine ⟨?_,fun y h=>K y (List.mem_of_mem_drop (List.mem_of_mem_take h))⟩
  simp only [execOp,f,I,N,Yc,ZZ]
  refine Y3 ?_
  have e:=ZaQ w k
  rw [C] at e
  have T:(sizeOf el).run X.P w=.ok es w:=by
    rw [Zl] at l
    have ⟨O,R,S⟩:=l
    simp [sizeOf,typeInfo,R,S]
  have b:=YT b
  have m:=Ze m
  subst q
  have U:(0<=(j:Int)/\(j:Int) < (len:Int)):=⟨by omega,by omega⟩
  simp only [Instr.index,asIntOf,Sem.run_bind,Sem.run_pure,Result.andThen_ok,Xb A,U,and_self,if_true,T,part,e,Int.toNat_natCast]
  congr 2
  apply Array.ext'
  rw [Array.toList_extract]
  simp only [List.extract,List.map_take,List.map_drop]
  congr 1
  omega
theorem WPr.pps {i:Nat} {rest:List Nat} {o:Oper} {t el g d k off:Nat} {x y:Operand}
  (h:ops[i]? = some o) (l:YO ops s.L o=some true) (e:o.op=.binOp .neq t x y g) (m:o.dst=some d) (n:X.P.underlying t=some (.pointer el)) (hi:(X.P.info? el).isSome=true)
  (p:Yd s.L x=some (.c (.bp k off))) (q:Yd s.L y=some (.c (.bp k off))) (r:Nat.blt d X.fn.ntmps=true)
  (u:WPr X ops rest todo ⟨(d,.c (.b false))::s.L,s.M,s.V,s.nx⟩):WPr X ops (i::rest) todo s:=by
 refine WPr.val (v:=.c (.b false)) (fun E F w a f=>?_) h l m r u
 have ⟨z,_⟩:=f.eval p
 have ⟨A,_⟩:=f.eval q
 have ⟨j,C⟩:=Option.isSome_iff_exists.1 hi
 refine ⟨?_,trivial⟩
 simp only [execOp,e,z,A,Yc,ZZ]
 refine Y3 ?_
 have:=Lib.run_neq_ptr_same (P:=X.P) w ⟨E.β k,off,none⟩ n C
 simp only [eqGuard,Sem.run_bind,Sem.run_pure,Result.andThen_ok]
 exact this
theorem WPr.pnn {i:Nat} {rest:List Nat} {o:Oper} {t el h d:Nat} {x y:Operand}
  (j:ops[i]? = some o) (k:YO ops s.L o=some true) (e:o.op=.binOp .eql t x y h) (l:o.dst=some d) (m:X.P.underlying t=some (.pointer el))
  (n:Yd s.L x=some (.c (.v (.pointer none)))) (p:Yd s.L y=some (.c (.v (.pointer none)))) (r:Nat.blt d X.fn.ntmps=true)
  (u:WPr X ops rest todo ⟨(d,.c (.b true))::s.L,s.M,s.V,s.nx⟩):WPr X ops (i::rest) todo s:=by
 refine WPr.val (v:=.c (.b true)) (fun E F w a g=>?_) j k l r u
 have ⟨z,_⟩:=g.eval n
 have ⟨A,_⟩:=g.eval p
 refine ⟨?_,trivial⟩
 simp only [execOp,e,z,A,Yc,ZZ]
 refine Y3 ?_
 have f:(Op.equal t (.pointer none) (.pointer none)).run X.P w=.ok true w:=by
  show (Op.equalIn (9999+1) t _ _).run X.P w=.ok true w
  generalize 9999=q
  simp only [Op.equalIn,Sem.run_bind,Xb m,Result.andThen_ok,Sem.run_pure,Option.isNone_none]
 simp only [eqGuard,Sem.run_bind,Sem.run_pure,Result.andThen_ok]
 show (do pure (Value.bool (<- Op.equal t _ _)):Sem Value).run X.P w=_
 simp only [Sem.run_bind,f,Result.andThen_ok,Sem.run_pure]
theorem Zll {E:Env} {F:YB} {w:World} {a:Act} (b:Sat X s E F w a) {k ty:Nat} {cs:List SC} (hM:ZQ s.M k=some (.box cs ty)):w.shape? (E.β k)=some (ty,cs.length):=by
 have:w.heap[E.β k]? = some (.cells (cs.map (ZZ E)).toArray ty (0,0)):=b.hM k _ hM
 unfold World.shape?
 rw [this];simp
theorem WPr.cvu {i:Nat} {rest:List Nat} {o:Oper} {b dst t d k off ty:Nat} {x:Operand} {cs:List SC}
  (p:ops[i]? = some o) (q:YO ops s.L o=some true) (g:o.op=.convert b dst x) (r:o.dst=some d) (l:X.P.underlying b=some (.pointer t)) (m:X.P.underlying dst=some .unsafePointer)
  (hi:(X.P.info? t).map (fun j=>Nat.beq j.size 0)=some false) (u:Yd s.L x=some (.c (.bp k off))) (hM:ZQ s.M k=some (.box cs ty)) (e:Nat.blt off cs.length=true) (y:Nat.blt d X.fn.ntmps=true)
  (z:WPr X ops rest todo ⟨(d,.c (.bp k off))::s.L,s.M,s.V,s.nx⟩):WPr X ops (i::rest) todo s:=by
 refine WPr.val (v:=.c (.bp k off)) (fun E F w a n=>?_) p q r y z
 have ⟨A,C⟩:=n.eval u
 refine ⟨?_,C⟩
 rw [Zl] at hi
 have ⟨j,D,f⟩:=hi
 simp only [execOp,g,A,Yc,ZZ]
 refine Y3 ?_
 exact Lib.run_to_unsafe (P:=X.P) w ⟨E.β k,off,none⟩ l m D (fun h=>by rw [h] at f;cases f) (Zll n hM) (YT e)
theorem WPr.cvp {i:Nat} {rest:List Nat} {o:Oper} {b dst t d k off ty:Nat} {x:Operand} {cs:List SC}
  (l:ops[i]? = some o) (m:YO ops s.L o=some true) (e:o.op=.convert b dst x) (n:o.dst=some d) (f:X.P.underlying b=some .unsafePointer) (g:X.P.underlying dst=some (.pointer t))
  (hi:(X.P.info? t).isSome=true) (p:Yd s.L x=some (.c (.bp k off))) (hM:ZQ s.M k=some (.box cs ty)) (q:liesAt X.P X.P.depth ty (cs.length / X.P.cellsOf ty) off t 1=true) (r:Nat.blt d X.fn.ntmps=true)
  (u:WPr X ops rest todo ⟨(d,.c (.bp k off))::s.L,s.M,s.V,s.nx⟩):WPr X ops (i::rest) todo s:=by
 refine WPr.val (v:=.c (.bp k off)) (fun E F w a h=>?_) l m n r u
 have ⟨y,z⟩:=h.eval p
 refine ⟨?_,z⟩
 have ⟨j,A⟩:=Option.isSome_iff_exists.1 hi
 simp only [execOp,e,y,Yc,ZZ]
 refine Y3 ?_
 exact Lib.run_from_unsafe (P:=X.P) w ⟨E.β k,off,none⟩ f g A (Zll h hM) q
theorem WPr.nes {i:Nat} {rest:List Nat} {o:Oper} {f:FuncId} {fn:Func} {x:Operand} {h:Array TypeId} {d k off:Nat}
  (j:X.P.funcs[f]? = some fn) (b:(fn.name == "runtime.NumGoroutine")=false) (l:fn.body.isNone=true) (e:Extern.findNext fn=none) (m:Extern.find fn=some Extern.AbiNoEscape.same)
  (n:ops[i]? = some o) (p:YO ops s.L o=some true) (g:o.op=.call { callee:=.value (.func f),args:=#[x],argTypes:=h }) (q:o.dst=some d) (r:Yd s.L x=some (.c (.bp k off))) (u:Nat.blt d X.fn.ntmps=true)
  (y:WPr X ops rest todo ⟨(d,.c (.bp k off))::s.L,s.M,s.V,s.nx⟩):WPr X ops (i::rest) todo s:=by
 refine WPr.val (v:=.c (.bp k off)) (fun E F w a z=>?_) n p q u y
 have ⟨A,C⟩:=z.eval r
 refine ⟨?_,C⟩
 unfold execOp
 simp only [g,resolve,Deferred.ofValue,Act.eval,invoke,Sem.run_bind,Sem.run_pure,Result.andThen_ok]
 have:(callFunc f #[ZZ E (.bp k off)]).run X.P w=.ok (.value (ZZ E (.bp k off))) w:=by
  rw [run_callFunc_extern j b l e m,Lib.run_noEscape];rfl
 have D:#[x].map a.eval=#[ZZ E (.bp k off)]:=by simp [A,Yc]
 rw [show (#[]:Array Value)++Array.map a.eval #[x]++#[]=#[ZZ E (.bp k off)] by rw [D];simp]
 exact this
end
section
variable {X:Ctx} {tt:List (Nat × TD)}
def Vt (tt:List (Nat × TD)) (j:Nat) (c:Cf):TD:=Yu tt (match j with | 0=>Z8 (ZP c).op | _=>Xy (ZP c).op)
def Zaz (tt:List (Nat × TD)) (c:Cf):Bool:=Nat.beq (Vt tt 0 c).kd 6 && (Nat.beq (Vt tt 1 c).kd 6 || Nat.beq (Vt tt 1 c).kd 2) && Nat.beq (Vt tt 0 c).es 1 && Nat.ble (Vt tt 0 c).eb 32768
theorem ZpP {b d:Nat} {c:Cf} (h:Zaz tt c=true) (e:Nat.blt d b=true):(Nat.blt d b && Nat.beq (Vt tt 0 c).kd 6 && (Nat.beq (Vt tt 1 c).kd 6 || Nat.beq (Vt tt 1 c).kd 2) && Nat.beq (Vt tt 0 c).es 1 && Nat.ble (Vt tt 0 c).eb 32768)=true:=by
 unfold Zaz at h
 rw [e]
 simpa using h
def dBa (z:ByteArray) (ty:TypeId) (c:Cf):Dl:=⟨[(YL c,.c (.sl (ZV c).nx))],[((ZV c).nx,.buf z ty),(Yo (Z6 c 0),.gone)],[],1⟩
def nBa (z:ByteArray) (ty:TypeId) (c:Cf):Cf:=Xh (dBa z ty c) c
theorem eBa {sb z:ByteArray} {ys:List Int} {ty:TypeId} {c:Cf} (htt:TTOk X.P tt) (i:W1 z=W1 sb++ys/\sb.size+ys.length<=lim) (b:∀ nk E0 F0 w0 n0 Z,Ui (X.var nk E0 F0 w0 n0 Z) (ZV c) (rI .u8) ys (VB (Z6 c 1))) (k:Wc X (nBa z ty c))
  (f:(hB X.fn.ntmps c,(ZP c).dst,(ZP c).op,Z6 c 0,ZQ (ZV c).M (Yo (Z6 c 0)),Z6 c 1,ZQ tt (Z8 (ZP c).op),ZQ tt (Xy (ZP c).op),Zaz tt c,(Vt tt 0 c).el)=(true,some (YL c),.call { callee:=.builtin .append,args:=#[Yl (ZP c).op 0,Yl (ZP c).op 1],argTypes:=#[Z8 (ZP c).op,Xy (ZP c).op] },some (.c (.sl (Yo (Z6 c 0)))),some (.buf sb ty),some (.c (VB (Z6 c 1))),some (Vt tt 0 c),some (Vt tt 1 c),true,ty):=by kernel_rfl):Wc X c:=by
 simp only [Zp] at f
 have ⟨m,g,n,o,p,q,r,u,v,e⟩:=f
 have ⟨x,y⟩:=Xi m
 refine Wc.ev (d:=dBa z ty c) x (Xl g rfl) (fun nk E0 F0 w0 n0 Z rest K j l h=>WPr.apb (X:=X.var nk E0 F0 w0 n0 Z) htt i (b nk E0 F0 w0 n0 Z) j l n g o p q r u ?_ h) k
 rw [Zc]
 exact ⟨ZpP v y,by rw [e];exact Nat.beq_refl _⟩
theorem eBt {sb m z:ByteArray} {ty:TypeId} {c:Cf} (htt:TTOk X.P tt) (b:QJ sb m=some z) (k:Wc X (nBa z ty c))
  (d:VB (Z6 c 1)=.s m:=by kernel_rfl)
  (e:(hB X.fn.ntmps c,(ZP c).dst,(ZP c).op,Z6 c 0,ZQ (ZV c).M (Yo (Z6 c 0)),Z6 c 1,ZQ tt (Z8 (ZP c).op),ZQ tt (Xy (ZP c).op),Zaz tt c,(Vt tt 0 c).el)=(true,some (YL c),.call { callee:=.builtin .append,args:=#[Yl (ZP c).op 0,Yl (ZP c).op 1],argTypes:=#[Z8 (ZP c).op,Xy (ZP c).op] },some (.c (.sl (Yo (Z6 c 0)))),some (.buf sb ty),some (.c (VB (Z6 c 1))),some (Vt tt 0 c),some (Vt tt 1 c),true,ty):=by kernel_rfl):Wc X c:=by
 obtain ⟨rfl,f⟩:=Znl b
 exact eBa (ys:=W1 m) htt ⟨ZnF _ _,by rw [SP];exact f⟩ (fun _ _ _ _ _ _=>by rw [d];exact Zsr) k e
def nUd (c:Cf):Cf:=Xh (d1 c (.c (.px (Yo (Z6 c 0)) 0))) c
theorem eUd {sb:ByteArray} {ty:TypeId} {c:Cf} (b:(Nat.beq sb.size 0 || !(Nat.ble sb.size lim))=false) (k:Wc X (nUd c))
  (e:(hB X.fn.ntmps c,(ZP c).dst,(ZP c).op,Z6 c 0,ZQ (ZV c).M (Yo (Z6 c 0)))=(true,some (YL c),.call { callee:=.builtin .unsafeSliceData,args:=#[Yl (ZP c).op 0],argTypes:=Lw (ZP c).op },some (.c (.sl (Yo (Z6 c 0)))),some (.buf sb ty)):=by kernel_rfl):Wc X c:=by
 simp only [Zp] at e
 have ⟨j,f,l,m,n⟩:=e
 have ⟨o,p⟩:=Xi j
 rw [Bool.or_eq_false_iff] at b
 exact Wc.ev (d:=d1 c (.c (.px (Yo (Z6 c 0)) 0))) o (Xl f rfl) (fun nk E0 F0 w0 n0 Z rest K g i h=>WPr.usd (X:=X.var nk E0 F0 w0 n0 Z) g i l f m n b.1 p h) k
def nBl (sb:ByteArray) (c:Cf):Cf:=Xh (d1 c (.c (.i .i64 sb.size))) c
theorem eBl {sb:ByteArray} {ty:TypeId} {c:Cf} (htt:TTOk X.P tt) (k:Wc X (nBl sb c))
  (b:(hB X.fn.ntmps c,(ZP c).dst,(ZP c).op,Z6 c 0,ZQ (ZV c).M (Yo (Z6 c 0)),ZQ tt (Z8 (ZP c).op),sl6 tt X.fn.ntmps c)=(true,some (YL c),.call { callee:=.builtin .len,args:=#[Yl (ZP c).op 0],argTypes:=#[Z8 (ZP c).op] },some (.c (.sl (Yo (Z6 c 0)))),some (.buf sb ty),some (Yu tt (Z8 (ZP c).op)),true):=by kernel_rfl):Wc X c:=by
 simp only [Zp] at b
 have ⟨j,e,l,m,n,o,p⟩:=b
 have ⟨q,r⟩:=Xi j
 exact Wc.ev (d:=d1 c (.c (.i .i64 sb.size))) q (Xl e rfl) (fun nk E0 F0 w0 n0 Z rest K f g h=>WPr.bln (X:=X.var nk E0 F0 w0 n0 Z) htt f g l e m n o p h) k
def nUs (sb:ByteArray) (c:Cf):Cf:=Xh ⟨[(YL c,.c (.s sb))],[(Yo (Z6 c 0),.gone)],[],0⟩ c
theorem eUs {sb:ByteArray} {ty:TypeId} {c:Cf} (b:(Nat.beq sb.size 0 || !(Nat.ble sb.size lim))=false) (k:Wc X (nUs sb c))
  (e:(hB X.fn.ntmps c,(ZP c).dst,(ZP c).op,Z6 c 0,Z6 c 1,ZQ (ZV c).M (Yo (Z6 c 0)),X.P.underlying (Z8 (ZP c).op),X.P.cellsOf ty)=(true,some (YL c),.call { callee:=.builtin .unsafeString,args:=#[Yl (ZP c).op 0,Yl (ZP c).op 1],argTypes:=#[Z8 (ZP c).op,Xy (ZP c).op] },some (.c (.px (Yo (Z6 c 0)) 0)),some (.c (.i .i64 (sb.size:Int))),some (.buf sb ty),some (.pointer ty),1):=by kernel_rfl):Wc X c:=by
 simp only [Zp] at e
 have ⟨l,f,m,n,o,p,q,r⟩:=e
 have ⟨u,v⟩:=Xi l
 exact Wc.ev (d:=⟨[(YL c,.c (.s sb))],[(Yo (Z6 c 0),.gone)],[],0⟩) u (Xl f rfl) (fun nk E0 F0 w0 n0 Z rest K g j h=>WPr.ust (X:=X.var nk E0 F0 w0 n0 Z) g j m f n o rfl p b q r v h) k
def M4 (s:ByteArray):Option Unit:=bif (Nat.beq s.size 0 || !(Nat.ble s.size lim)) then none else some ()
theorem Zjs {s:ByteArray} {u:Unit} (h:M4 s=some u):(Nat.beq s.size 0 || !(Nat.ble s.size lim))=false:=by
 unfold M4 at h
 cases b:(Nat.beq s.size 0 || !(Nat.ble s.size lim)) with
 | false=>rfl
 | true=>rw [b] at h;cases h
def nUn (c:Cf):Cf:=Xh (d1 c (.c (.v (.pointer none)))) c
theorem eUn {c:Cf} (k:Wc X (nUn c))
  (b:(hB X.fn.ntmps c,(ZP c).dst,(ZP c).op,Z6 c 0)=(true,some (YL c),.call { callee:=.builtin .unsafeSliceData,args:=#[Yl (ZP c).op 0],argTypes:=Lw (ZP c).op },some (.c .nil)):=by kernel_rfl):Wc X c:=by
 simp only [Zp] at b
 have ⟨j,e,l,m⟩:=b
 have ⟨n,o⟩:=Xi j
 exact Wc.ev (d:=d1 c (.c (.v (.pointer none)))) n (Xl e rfl) (fun nk E0 F0 w0 n0 Z rest K f g h=>WPr.val (X:=X.var nk E0 F0 w0 n0 Z) (v:=.c (.v (.pointer none))) (fun E F w a i=>⟨by
  have ⟨p,_⟩:=i.eval m
  refine Un l ?_
  simp only [List.map_toArray,List.map_cons,List.map_nil,p,Yc,ZZ]
  exact Y3 (Go.Lib.run_unsafeSliceData_nil _ _ _ _ _),rfl⟩) f g e o h) k
def nUz (c:Cf):Cf:=Xh (d1 c (.c (.s ByteArray.empty))) c
theorem eUz {c:Cf} (k:Wc X (nUz c))
  (b:(hB X.fn.ntmps c,(ZP c).dst,(ZP c).op,Z6 c 0,Z6 c 1)=(true,some (YL c),.call { callee:=.builtin .unsafeString,args:=#[Yl (ZP c).op 0,Yl (ZP c).op 1],argTypes:=#[Z8 (ZP c).op,Xy (ZP c).op] },some (.c (.v (.pointer none))),some (.c (.i .i64 0))):=by kernel_rfl):Wc X c:=by
 simp only [Zp] at b
 have ⟨l,f,m,n,o⟩:=b
 have ⟨p,q⟩:=Xi l
 exact Wc.ev (d:=d1 c (.c (.s ByteArray.empty))) p (Xl f rfl) (fun nk E0 F0 w0 n0 Z rest K g j h=>WPr.val (X:=X.var nk E0 F0 w0 n0 Z) (v:=.c (.s ByteArray.empty)) (fun E F w a e=>⟨by
  have ⟨r,_⟩:=e.eval n
  have ⟨u,_⟩:=e.eval o
  refine Un m ?_
  simp only [List.map_toArray,List.map_cons,List.map_nil,r,u,Yc,ZZ]
  exact Y3 (Lib.run_unsafeString_none w _ _ _ none),trivial⟩) g j f q h) k
def nAa (P:Program) (j:Nat) (c:Cf):Cf:=Xh (d1 c (.a (((VX (Z6 c 0)).drop (j * Tx P (Xu P (Z8 (ZP c).op)))).take (Tx P (Xu P (Z8 (ZP c).op)))))) c
theorem eAa {m:Int} {c:Cf} (j:Nat) (l:m=(j:Int)) (k:Wc X (nAa X.P j c))
    (f:(hB X.fn.ntmps c,(ZP c).dst,(ZP c).op,X.P.underlying (Z8 (ZP c).op),(X.P.info? (Xu X.P (Z8 (ZP c).op))).map (·.size),XY X.P (Xu X.P (Z8 (ZP c).op)),(X.P.underlying (Xu X.P (Z8 (ZP c).op))).isSome,Nat.blt j (MK X.P (Z8 (ZP c).op)),Z6 c 0,Nat.ble (j * Tx X.P (Xu X.P (Z8 (ZP c).op))+Tx X.P (Xu X.P (Z8 (ZP c).op))) (VX (Z6 c 0)).length,Z6 c 1)=(true,some (YL c),.index (Z8 (ZP c).op) (Yl (ZP c).op 0) (Yl (ZP c).op 1),some (.array (MK X.P (Z8 (ZP c).op)) (Xu X.P (Z8 (ZP c).op))),some (Tx X.P (Xu X.P (Z8 (ZP c).op))),true,true,true,some (.a (VX (Z6 c 0))),true,some (.c (.i (TY (Z6 c 1)) m))):=by kernel_rfl):Wc X c:=by
  simp only [Zp] at f
  have ⟨p,g,q,r,u,v,x,y,z,b,e⟩:=f
  have ⟨A,C⟩:=Xi p
  exact Wc.ev (d:=d1 c (.a (((VX (Z6 c 0)).drop (j * Tx X.P (Xu X.P (Z8 (ZP c).op)))).take (Tx X.P (Xu X.P (Z8 (ZP c).op)))))) A (Xl g rfl) (fun nk E0 F0 w0 n0 Z rest K n o h=>WPr.axa (X:=X.var nk E0 F0 w0 n0 Z) j l n o q g r u v x y z b e C h) k
def nBo (b:Bool) (c:Cf):Cf:=Xh (d1 c (.c (.b b))) c
theorem ePs {c:Cf} (k:Wc X (nBo false c))
  (e:(hB X.fn.ntmps c,(ZP c).dst,(ZP c).op,X.P.underlying (Z8 (ZP c).op),(X.P.info? (Xu X.P (Z8 (ZP c).op))).isSome,Z6 c 0,Z6 c 1)=(true,some (YL c),.binOp .neq (Z8 (ZP c).op) (Yl (ZP c).op 0) (Yl (ZP c).op 1) (Xy (ZP c).op),some (.pointer (Xu X.P (Z8 (ZP c).op))),true,some (.c (.bp (Yo (Z6 c 0)) (Xe (Z6 c 0)))),some (.c (.bp (Yo (Z6 c 0)) (Xe (Z6 c 0))))):=by kernel_rfl):Wc X c:=by
 simp only [Zp] at e
 have ⟨j,f,l,m,n,o,p⟩:=e
 have ⟨q,r⟩:=Xi j
 exact Wc.ev (d:=d1 c (.c (.b false))) q (Xl f rfl) (fun nk E0 F0 w0 n0 Z rest K g i h=>WPr.pps (X:=X.var nk E0 F0 w0 n0 Z) g i l f m n o p r h) k
theorem ePz {c:Cf} (k:Wc X (nBo true c))
  (e:(hB X.fn.ntmps c,(ZP c).dst,(ZP c).op,X.P.underlying (Z8 (ZP c).op),Z6 c 0,Z6 c 1)=(true,some (YL c),.binOp .eql (Z8 (ZP c).op) (Yl (ZP c).op 0) (Yl (ZP c).op 1) (Xy (ZP c).op),some (.pointer (Xu X.P (Z8 (ZP c).op))),some (.c (.v (.pointer none))),some (.c (.v (.pointer none)))):=by kernel_rfl):Wc X c:=by
 simp only [Zp] at e
 have ⟨j,f,l,m,n,o⟩:=e
 have ⟨p,q⟩:=Xi j
 exact Wc.ev (d:=d1 c (.c (.b true))) p (Xl f rfl) (fun nk E0 F0 w0 n0 Z rest K g i h=>WPr.pnn (X:=X.var nk E0 F0 w0 n0 Z) g i l f m n o q h) k
def nSm (c:Cf):Cf:=Xh (d1 c (.c (.bp (Yo (Z6 c 0)) (Xe (Z6 c 0))))) c
theorem eCu {c:Cf} (k:Wc X (nSm c))
  (b:(hB X.fn.ntmps c,(ZP c).dst,(ZP c).op,X.P.underlying (Z8 (ZP c).op),X.P.underlying (Xy (ZP c).op),(X.P.info? (Xu X.P (Z8 (ZP c).op))).map (fun j=>Nat.beq j.size 0),Z6 c 0,ZQ (ZV c).M (Yo (Z6 c 0)),Nat.blt (Xe (Z6 c 0)) (RH (ZQ (ZV c).M (Yo (Z6 c 0)))).length)=(true,some (YL c),.convert (Z8 (ZP c).op) (Xy (ZP c).op) (Yl (ZP c).op 0),some (.pointer (Xu X.P (Z8 (ZP c).op))),some .unsafePointer,some false,some (.c (.bp (Yo (Z6 c 0)) (Xe (Z6 c 0)))),some (.box (RH (ZQ (ZV c).M (Yo (Z6 c 0)))) (H5 (ZQ (ZV c).M (Yo (Z6 c 0))))),true):=by kernel_rfl):Wc X c:=by
 simp only [Zp] at b
 have ⟨i,e,l,m,n,o,p,q,r⟩:=b
 have ⟨u,v⟩:=Xi i
 exact Wc.ev (d:=d1 c (.c (.bp (Yo (Z6 c 0)) (Xe (Z6 c 0))))) u (Xl e rfl) (fun nk E0 F0 w0 n0 Z rest K f g h=>WPr.cvu (X:=X.var nk E0 F0 w0 n0 Z) f g l e m n o p q r v h) k
theorem eCq {c:Cf} (k:Wc X (nSm c))
  (b:(hB X.fn.ntmps c,(ZP c).dst,(ZP c).op,X.P.underlying (Z8 (ZP c).op),X.P.underlying (Xy (ZP c).op),(X.P.info? (Xu X.P (Xy (ZP c).op))).isSome,Z6 c 0,ZQ (ZV c).M (Yo (Z6 c 0)),liesAt X.P X.P.depth (H5 (ZQ (ZV c).M (Yo (Z6 c 0)))) ((RH (ZQ (ZV c).M (Yo (Z6 c 0)))).length / X.P.cellsOf (H5 (ZQ (ZV c).M (Yo (Z6 c 0))))) (Xe (Z6 c 0)) (Xu X.P (Xy (ZP c).op)) 1)=(true,some (YL c),.convert (Z8 (ZP c).op) (Xy (ZP c).op) (Yl (ZP c).op 0),some .unsafePointer,some (.pointer (Xu X.P (Xy (ZP c).op))),true,some (.c (.bp (Yo (Z6 c 0)) (Xe (Z6 c 0)))),some (.box (RH (ZQ (ZV c).M (Yo (Z6 c 0)))) (H5 (ZQ (ZV c).M (Yo (Z6 c 0))))),true):=by kernel_rfl):Wc X c:=by
 simp only [Zp] at b
 have ⟨i,e,j,l,m,n,o,p,q⟩:=b
 have ⟨r,u⟩:=Xi i
 exact Wc.ev (d:=d1 c (.c (.bp (Yo (Z6 c 0)) (Xe (Z6 c 0))))) r (Xl e rfl) (fun nk E0 F0 w0 n0 Z rest K f g h=>WPr.cvp (X:=X.var nk E0 F0 w0 n0 Z) f g j e l m n o p q u h) k
theorem eNe {f:FuncId} {fn:Func} {c:Cf} (j:X.P.funcs[f]? = some fn) (b:(fn.name == "runtime.NumGoroutine")=false) (l:fn.body.isNone=true) (e:Extern.findNext fn=none) (m:Extern.find fn=some Extern.AbiNoEscape.same) (k:Wc X (nSm c))
  (g:(hB X.fn.ntmps c,(ZP c).dst,(ZP c).op,Z6 c 0)=(true,some (YL c),.call { callee:=.value (.func f),args:=#[Yl (ZP c).op 0],argTypes:=Lw (ZP c).op },some (.c (.bp (Yo (Z6 c 0)) (Xe (Z6 c 0))))):=by kernel_rfl):Wc X c:=by
 simp only [Zp] at g
 have ⟨p,i,q,r⟩:=g
 have ⟨u,v⟩:=Xi p
 exact Wc.ev (d:=d1 c (.c (.bp (Yo (Z6 c 0)) (Xe (Z6 c 0))))) u (Xl i rfl) (fun nk E0 F0 w0 n0 Z rest K n o h=>WPr.nes (X:=X.var nk E0 F0 w0 n0 Z) j b l e m n o q i r v h) k
def plC (c:Cf):Cf:=.co (.code (RQ c)::.inLoop (RQ c)::c.kk) c.st
def Zpn:Cf->Bool
 | .co (.code (.loop _)::_) _=>true
 | _=>false
theorem ePl {c:Cf} (k:Wc X (plC c)) (b:Zpn c=true:=by kernel_rfl):Wc X c:=by
 cases c with
 | no=>cases b
 | rg _ _ _ _ _=>cases b
 | co l s =>
  cases l with
  | nil=>cases b
  | cons x l =>
   cases x with
   | code y =>
    cases y with
    | loop z=>exact ⟨WP.loop k.1⟩
    | _=>cases b
   | _=>cases b
def lnC (c:Cf):Code:=match c with
 | .co (.inLoop x::_) _=>x
 | _=>.skip
def lnS (c:Cf) (s:St):Cf:=.co (.code (lnC c)::.inLoop (lnC c)::c.kk) s
def lnK (c:Cf):List Item:=.inLoop (lnC c)::c.kk
theorem Zot {σ ρ:Type} {r:ρ} (H:σ->St) (p:Nat->σ->Option ρ) (f:∀ b,p 0 b=none) {c:Cf}
  (d:∀ n,(∀ b,p n b=some r->WP X (lnK c) (H b))->∀ b,p (n+1) b=some r->Wc X (lnS c (H b)))
  (h:(∀ n b,p n b=some r->WP X (lnK c) (H b))->Wc X c):Wc X c:=by
 have key:∀ n b,p n b=some r->WP X (lnK c) (H b):=by
  intro n
  induction n with
  | zero=>intro b e;rw [f] at e;cases e
  | succ n i=>exact fun b g=>WP.inLoop (d n i b g).1
 exact h key
end
end Go.Kx
end
namespace Go.Kx
section
variable [LxP]
open Go
structure UD {α β:Type} (Φ:TRep α->TRep β):Prop where
 sz:∀ R R',R.sz=R'.sz->(Φ R).sz=(Φ R').sz
 sub:∀ R R',R.sz=R'.sz->(∀ F w x vs,R.rep F w x vs->R'.rep F w x vs)->∀ F w x vs,(Φ R).rep F w x vs->(Φ R').rep F w x vs
theorem Zkf {α:Type}:UD (fun R:TRep α=>R):=⟨fun _ _ h=>h,fun _ _ _ h=>h⟩
theorem UQ {α β:Type} (S:TRep β):UD (fun _:TRep α=>S):=⟨fun _ _ _=>rfl,fun _ _ _ _ _ _ _ _ h=>h⟩
theorem Zke {α β γ:Type} (f:γ->β) {Φ:TRep α->TRep β} (h:UD Φ):UD (fun R=>rM f (Φ R)) :=
 ⟨fun R R' e=>h.sz R R' e,fun R R' e s F w x b c=>h.sub R R' e s F w (f x) b c⟩
theorem UP {α β γ:Type} {Φ:TRep α->TRep β} {Ψ:TRep α->TRep γ} (h:UD Φ) (k:UD Ψ):UD (fun R=>rP (Φ R) (Ψ R)):=by
 refine ⟨fun R R' e=>?_,fun R R' e s F w x i c=>?_⟩
 ·show (Φ R).sz+(Ψ R).sz=(Φ R').sz+(Ψ R').sz
  rw [h.sz R R' e,k.sz R R' e]
 ·have ⟨a,b,d,f,g⟩:=c
  exact ⟨a,b,d,h.sub R R' e s _ _ _ _ f,k.sub R R' e s _ _ _ _ g⟩
theorem SlR.more {α:Type} {R R':TRep α} (e:R.sz=R'.sz) (s:∀ F w x c,R.rep F w x c->R'.rep F w x c) {F:YB} {w:World} {xs:List α} {v:Value} (h:SlR R F w xs v):SlR R' F w xs v:=by
 rcases h with h | ⟨b,off,cap,arr,el,fz,l,m,n,o,p⟩
 ·exact .inl h
 ·refine .inr ⟨b,off,cap,arr,el,fz,l,m,n,o,fun i x d=>?_⟩
  have ⟨c,g,k⟩:=p i x d
  exact ⟨c,s _ _ _ _ g,fun j v f=>by rw [<- e];exact k j v f⟩
theorem ZaG {α β:Type} {Φ:TRep α->TRep β} (h:UD Φ):UD (fun R=>Yx (Φ R)):=by
 refine ⟨fun _ _ _=>rfl,fun R R' e s F w xs f b=>?_⟩
 have ⟨v,c,d⟩:=b
 exact ⟨v,c,SlR.more (h.sz R R' e) (h.sub R R' e s) d⟩
def ZkP (α:Type) (n:Nat) (hn:0 < n):TRep α where
 sz:=n
 pos:=hn
 rep _ _ _ vs:=vs.length=n/\∀ v∈vs,v.oneCell'=true
 len h:=h.1
 mono _ h:=h
 one h:=h.2
def RW {α:Type} (Φ:TRep α->TRep α) (n:Nat) (hn:0 < n) (hs:∀ R,R.sz=n->(Φ R).sz=n):TRep α where
 sz:=n
 pos:=hn
 rep F w x vs:=∀ R:TRep α,R.sz=n->(∀ F w x vs,(Φ R).rep F w x vs->R.rep F w x vs)->R.rep F w x vs
 len h:=(h (ZkP α n hn) rfl (fun _ _ _ _ k=>⟨by rw [(Φ _).len k];exact hs _ rfl,(Φ _).one k⟩)).1
 mono g h:=fun R e k=>R.mono g (h R e k)
 one h:=(h (ZkP α n hn) rfl (fun _ _ _ _ k=>⟨by rw [(Φ _).len k];exact hs _ rfl,(Φ _).one k⟩)).2
theorem ZkN {α:Type} {Φ:TRep α->TRep α} {n:Nat} {f:0 < n} {b:∀ R,R.sz=n->(Φ R).sz=n} (g:UD Φ) (F:YB) (w:World) (x:α) (d:List Value) :
  (RW Φ n f b).rep F w x d↔(Φ (RW Φ n f b)).rep F w x d:=by
 have c:∀ F w x d,(Φ (RW Φ n f b)).rep F w x d->(RW Φ n f b).rep F w x d:=by
  intro F w x d h R e k
  exact k _ _ _ _ (g.sub (RW Φ n f b) R e.symm (fun _ _ _ _ q=>q R e k) _ _ _ _ h)
 refine ⟨fun h=>?_,c F w x d⟩
 exact h (Φ (RW Φ n f b)) (b _ rfl) (fun _ _ _ _ q=>g.sub _ _ (b _ rfl) c _ _ _ _ q)
def Opn.of {α:Type} {R R':TRep α} (h:∀ F w x vs,R.rep F w x vs↔R'.rep F w x vs) (o:Opn R'):Opn R where
 nk:=o.nk
 cells:=o.cells
 facts:=o.facts
 ok hr:=o.ok ((h _ _ _ _).1 hr)
 chk:=o.chk
 cok hc E F w hV:=(h _ _ _ _).2 (o.cok hc E F w hV)
 T:=o.T
 lq:=o.lq
 rq:=o.rq
 eqn:=o.eqn
end
section
variable [LxP]
def LB {α:Type} (f:α->Nat):List α->Nat
 | []=>0
 | x::l=>f x+LB f l
def RdbW (P:Program) (B:Bulk) (m:Nat) (t:TypeId) {α:Type} (R:TRep α) (ok:α->Prop) (wt:α->Nat):Prop:=R.sz=P.cellsOf t /\
 ∀ {H:Type} (enc:TypeId × Value->H) (w:World) (fuel:Nat) (cs:List Value) (x:DataW H × List MemPlace),fuel<=m->DataW.trod enc P w 0 (fun _=>true) true fuel t cs=some x->B.f x.1<=bd ->
  ∃ a,R.rep (Vz w) w a cs/\ok a/\wt a<=B.f x.1
section
variable {P:Program} {B:Bulk} {t:TypeId}
theorem RdbW.of {m:Nat} {α:Type} {R:TRep α} {ok:α->Prop} (h:Rdb P B t R ok):RdbW P B m t R ok (fun _=>0) :=
 ⟨h.1,fun enc w b cs x _ c d=>by have ⟨a,e,f⟩:=h.2 enc w b cs x c d;exact ⟨a,e,f,Nat.zero_le _⟩⟩
theorem RdbW.zero {α:Type} {R:TRep α} {ok:α->Prop} {wt:α->Nat} (h:R.sz=P.cellsOf t):RdbW P B 0 t R ok wt :=
 ⟨h,fun enc w b cs x d c e=>by
  obtain rfl:b=0:=by omega
  simp [DataW.trod] at c⟩
theorem RdbW.conv {m:Nat} {α:Type} {R R':TRep α} {ok b:α->Prop} {wt c:α->Nat} (h:RdbW P B m t R ok wt) (f:R'.sz=R.sz) (g:∀ F w x e,R.rep F w x e->R'.rep F w x e) (i:∀ a,ok a->b a) (j:∀ a,c a<=wt a):RdbW P B m t R' b c :=
 ⟨by rw [f];exact h.1,fun enc w d cs x k l n=>by
  have ⟨a,o,p,q⟩:=h.2 enc w d cs x k l n
  exact ⟨a,g _ _ _ _ o,i a p,Nat.le_trans (j a) q⟩⟩
theorem ZlQ {B:Bulk} {H:Type} {α:Type} {wt:α->Nat}:∀ {xs:List α} {es:List (DataW H × List MemPlace)},xs.length=es.length->(∀ (i:Nat) (x:α),xs[i]? = some x->∃ y:DataW H × List MemPlace,es[i]? = some y/\wt x<=B.f y.1)->LB wt xs<=B.all (es.map (·.1))
  | [],_,_,_=>Nat.zero_le _
  | x::xs,[],h,_=>by cases h
  | x::xs,e::es,h,hx=>by
    have ⟨y,b,d⟩:=hx 0 x rfl
    simp only [List.getElem?_cons_zero,Option.some.injEq] at b
    subst b
    have:=ZlQ (B:=B) (wt:=wt) (xs:=xs) (es:=es) (by simpa using h) fun i c hi=>by have:=hx (i+1) c (by simpa using hi);simpa using this
    rw [List.map_cons,B.cons]
    show wt x+LB wt xs<=_
    omega
theorem RdbW.slice {m:Nat} {α:Type} {R:TRep α} {ok:α->Prop} {wt:α->Nat} {e:TypeId} (hu:P.underlying t=some (.slice e)) (k:P.cellsOf t=1) (I:RdbW P B m e R ok wt) :
    RdbW P B (m+1) t (Yx R) (fun xs=>xs.length<=bd/\∀ x∈xs,ok x) (LB wt):=⟨k.symm,fun enc w Y cs x Z h hb=>by
  rcases DataW.trod_slice hu h with ⟨rfl,_⟩ | ⟨a,len,cap,b,rest,n,hn,rfl,rfl,_,hlc,_,A,hx,_⟩
  · exact ⟨[],⟨_,rfl,.inl ⟨rfl,_,_,rfl⟩⟩,⟨by simp [bd],by simp⟩,Nat.zero_le _⟩
  · simp only at hb
    rw [B.slice] at hb
    have C:=B.len (b.map (·.1))
    rw [List.length_map,A] at C
    have l:0 < P.cellsOf e:=by rw [<- I.1];exact R.pos
    have key:∀ i,i < len->∃ x,∃ cs y,w.cells? 0 (a.add (i * P.cellsOf e)) (P.cellsOf e)=some cs/\b[i]? = some y/\R.rep (Vz w) w x cs/\ok x/\wt x<=B.f y.1:=fun i hi=>by
      have h1:=hx i hi
      have d:i < b.length:=by omega
      rw [Za d,Option.bind_eq_some_iff] at h1
      have ⟨cs,h2,h3⟩:=h1
      have S:b[i].1∈b.map (·.1):=List.mem_map.2 ⟨_,List.getElem_mem d,rfl⟩
      have ⟨x,h4,h5,h6⟩:=I.2 enc w n cs _ (by omega) h3 (by have:=B.mem S;omega)
      exact ⟨x,cs,_,h2,Za d,h4,h5,h6⟩
    have ⟨xs,K,H⟩:=ZeD key
    have T:∀ x∈xs,ok x:=fun x Z=>by
      have ⟨i,hi⟩:=List.mem_iff_getElem?.1 Z
      have ⟨_,_,_,_,_,h,_⟩:=H i x hi
      exact h
    have hws:LB wt xs<=B.all (b.map (·.1)):=ZlQ (by rw [K,A]) fun i x hi=>by
      have ⟨_,y,_,hy,_,_,h⟩:=H i x hi
      exact ⟨y,hy,h⟩
    have U:LB wt xs<=B.f (DataW.slice (b.map (·.1)) (rest.map (·.1))):=by rw [B.slice];omega
    refine ⟨xs,⟨_,rfl,?_⟩,⟨by omega,T⟩,U⟩
    rcases Nat.eq_zero_or_pos len with N | N
    · subst N
      have:xs=[]:=List.eq_nil_of_length_eq_zero K
      subst this
      exact .inl ⟨rfl,_,_,rfl⟩
    · -- the block
      have g:∀ i j cs,i < len->w.cells? 0 (a.add (i * P.cellsOf e)) (P.cellsOf e)=some cs->j < P.cellsOf e->w.cell? ((a.add (i * P.cellsOf e)).add j)=cs[j]? := fun i j cs _ k G=>by
        unfold World.cells? at k
        rw [if_pos (Nat.zero_le _)] at k
        have:=mapM_some_get k j j (by simp [G])
        exact this
      have D:∀ i cs,w.cells? 0 (a.add (i * P.cellsOf e)) (P.cellsOf e)=some cs->cs.length=P.cellsOf e:=fun i cs k=>by
        unfold World.cells? at k
        rw [if_pos (Nat.zero_le _)] at k
        simpa using mapM_some_length k
      obtain ⟨L,M⟩:∃ L,xs[0]? = some L:=⟨_,Za (by omega)⟩
      have ⟨q,y0,r,_,_,_,_⟩:=H 0 L M
      have c:=g 0 0 q N r l
      have o:(a.add (0 * P.cellsOf e)).add 0=a:=by unfold Addr.add;simp
      rw [o,Za (by rw [D 0 q r];exact l)] at c
      unfold World.cell? at c
      split at c
      · rename_i arr ty fz O
        cases p:a.spot with
        | some s=>rw [p] at c;simp at c
        | none =>
          have ha:a=⟨a.block,a.off,none⟩:=by cases a;simp at p;simp [p]
          have d:a.block < w.heap.size:=(Array.getElem?_eq_some_iff.1 O).1
          refine .inr ⟨a.block,a.off,cap,arr,ty,fz,by rw [K,<- ha],by omega,d,O,fun i x hi=>?_⟩
          have ⟨cs,y,u,_,z,_,_⟩:=H i x hi
          have V:i < len:=by have:=(List.getElem?_eq_some_iff.1 hi).1;omega
          refine ⟨cs,z,fun j v G=>?_⟩
          have W:j < P.cellsOf e:=by have:=(List.getElem?_eq_some_iff.1 G).1;rw [D i cs u] at this;exact this
          have:=g i j cs V u W
          rw [ha,WS,WS,QL O,G] at this
          rw [I.1]
          exact this
      · cases c⟩
def RdFW (P:Program) (B:Bulk) (m:Nat) (fs:List Field) (off:Nat) {β:Type} (R:TRep β) (ok:β->Prop) (wt:β->Nat):Prop :=
  ∀ {H:Type} (enc:TypeId × Value->H) (w:World) (n:Nat) (cs:List Value) (xs:List (DataW H × List MemPlace)),n<=m->xs.length=fs.length ->
    (∀ (i:Nat) (f:Field),fs[i]? = some f->DataW.trod enc P w 0 (fun _=>true) true n f.type ((cs.drop f.offset).take (P.cellsOf f.type))=xs[i]?)->B.all (xs.map (·.1))<=bd ->
    ∃ y,R.rep (Vz w) w y ((cs.drop off).take R.sz)/\ok y/\wt y<=B.all (xs.map (·.1))
theorem RdFW.one {m:Nat} {f:Field} {α:Type} {R:TRep α} {ok:α->Prop} {wt:α->Nat} (h:RdbW P B m f.type R ok wt):RdFW P B m [f] f.offset R ok wt:=fun enc w n cs xs d e g b=>by
 obtain ⟨x,rfl⟩:=List.length_eq_one_iff.1 e
 have c:=g 0 f rfl
 simp only [List.getElem?_cons_zero] at c
 simp only [List.map_cons,List.map_nil] at b
 rw [B.cons,B.nil] at b
 have ⟨a,i,j,k⟩:=h.2 enc w n _ x d c (by omega)
 rw [h.1]
 refine ⟨a,i,j,?_⟩
 simp only [List.map_cons,List.map_nil]
 rw [B.cons,B.nil];omega
theorem RdFW.cons {m:Nat} {f:Field} {fs:List Field} {off:Nat} {α β:Type} {h:TRep α} {j:TRep β} {c:α->Prop} {d:β->Prop} {e:α->Nat} {g:β->Nat} (k:RdbW P B m f.type h c e) (v:RdFW P B m fs off j d g) (z:off=f.offset+h.sz) :
  RdFW P B m (f::fs) f.offset (rP h j) (fun y=>c y.1/\d y.2) (fun y=>e y.1+g y.2):=fun enc w n cs xs l o p q=>by
 cases xs with
 | nil=>cases o
 | cons x xs =>
  have u:=p 0 f rfl
  simp only [List.getElem?_cons_zero] at u
  simp only [List.map_cons] at q
  rw [B.cons] at q
  have ⟨a,r,D,I⟩:=k.2 enc w n _ x l u (by omega)
  have ⟨b,G,H,K⟩:=v enc w n cs xs l (by simpa using o) (fun i A C=>by have:=p (i+1) A (by simpa using C);simpa using this) (by omega)
  rw [<- k.1] at r
  refine ⟨(a,b),⟨_,_,?_,r,G⟩,⟨D,H⟩,by simp only [List.map_cons];rw [B.cons];omega⟩
  rw [z,<- List.drop_drop]
  exact List.take_add
theorem RdbW.struct {m:Nat} {α β:Type} {f:α->β} {g:β->α} {R:TRep β} {ok:β->Prop} {wt:β->Nat} {fs:List Field} (k:P.underlying t=some (.struct fs.toArray)) (c:P.cellsOf t=R.sz) (b:∀ y,f (g y)=y) (h:RdFW P B m fs 0 R ok wt) :
    RdbW P B (m+1) t (rM f R) (fun x=>ok (f x)) (fun x=>wt (f x)+1):=⟨c.symm,fun enc w d cs x z l e=>by
  obtain ⟨xs,n,p,rfl,q,r,u⟩:=DataW.trod_struct k l
  simp only at e
  rw [B.agg] at e
  have ⟨y,j,v,A⟩:=h enc w n cs xs (by omega) (by simpa using r) (fun i o hi=>u i o (by simpa using hi)) (by omega)
  rw [List.drop_zero,<- c,<- q,List.take_length] at j
  refine ⟨g y,?_,?_,?_⟩
  · show R.rep _ _ (f (g y)) cs
    rw [b];exact j
  · show ok (f (g y));rw [b];exact v
  · show wt (f (g y))+1<=B.f (DataW.agg (xs.map (·.1)));rw [b,B.agg];omega⟩
end
end
section
variable [LxP]
theorem ZnZ {α:Type} {P:Program} {t ty:TypeId} {W:TD} (ok:TD.Ok P t W) (hk:Nat.beq W.kd 6=true) {R:TRep α} (hR:W.es=R.sz) {F:YB} {w:World} {xs:List α} {v zv:Value} {l h:Option Int} {p:Nat × Nat} {z:α} {o:List Value}
  (Y:OwnR R F w xs v) (hp:W7 l h xs.length=some p) (Z:∀ w,(zeroValue W.el).run P w=.ok zv w) (H:(Builtin.zeroCells zv.cells (p.2-p.1)).toList=o) (x:RowL R F w (List.replicate (p.2-p.1) z) o)
  (I:∀ u∈o,u.oneCell'=true) (hF:∀ b,YH v=some b->¬ F b) :
  ∃ w',(Builtin.clear_ #[t] ty #[Wn l h R.sz v]).run P w=.ok (.tuple #[]) w'/\OwnR R F w' (xs.take p.1++List.replicate (p.2-p.1) z++xs.drop p.2) v/\w'.os=w.os/\w'.tape=w.tape/\Oq w w'/\w.heap.size<=w'.heap.size /\
   (∀ b,YH v≠some b->w'.heap[b]? = w.heap[b]?):=by
 have ⟨i,hu,hi,hsz,_⟩:=ok.slc hk
 have ⟨q1,q2,q3,q4⟩:=QK hp
 have ⟨K,L⟩:=BW hp
 have hle:p.1<=p.2:=by rw [q4];simp;omega
 have O:p.2<=xs.length:=by rw [q4];simp;omega
 by_cases hn0:p.2-p.1=0
 ·have e12:p.2=p.1:=by omega
  refine ⟨w,?_,by rw [hn0,e12];simpa using Y,rfl,rfl,.m,Zo _,fun _ _=>rfl⟩
  have ⟨a,c,hv⟩:=HZ Y
  have f:∃ a' c',Wn l h R.sz v=.slice a' 0 c':=by
   rw [hv,Rg,<- K,<- L,hn0]
   exact ⟨_,_,rfl⟩
  have ⟨a',c',f⟩:=f
  rw [f]
  cases a'<;>simp [Builtin.clear_,Xb hu]
 ·rcases Y with ⟨rfl,rfl⟩ | ⟨b,off,cap,arr,el,fz,rfl,hc,hs,ht,hh,hr⟩
  ·simp at O
   exact absurd (by omega) hn0
  ·have q:cap≠p.1:=fun e=>by omega
   have f:Wn l h R.sz (.slice (some ⟨b,off,none⟩) xs.length cap)=.slice (some ⟨b,off+p.1 * R.sz,none⟩) (p.2-p.1) (cap-p.1):=by
    rw [Rg,<- K,<- L]
    simp [q,WS]
   have r:o.length=(p.2-p.1) * R.sz:=by rw [x.1,List.length_replicate]
   have S:p.2 * R.sz<=cap * R.sz:=Nat.mul_le_mul_right _ (by omega)
   have hsum:p.1 * R.sz+(p.2-p.1) * R.sz=p.2 * R.sz:=by rw [<- Nat.add_mul];congr 1;omega
   have T:=Q7 (P:=P) b (off+p.1 * R.sz) el fz o 0 arr w hh ht (by rw [r];omega) I
   let d:=(arr.toList.take (off+p.1 * R.sz+0)++o++arr.toList.drop (off+p.1 * R.sz+0+o.length)).toArray
   have g:d.size=arr.size:=by
    simp only [d,List.size_toArray,List.length_append,List.length_take,List.length_drop,Array.length_toList]
    omega
   have hg:Wt F w F (w.setRow b d):=⟨fun _ h=>h,fun b' A=>setRow_other w b b' _ (fun e=>hF b rfl (e ▸ A))⟩
   have ⟨M,C,N,_⟩:=hr.cellsOf
   have U:RowL R F (w.setRow b d) (xs.take p.1++List.replicate (p.2-p.1) z++xs.drop p.2) (M.take (p.1 * R.sz)++o++M.drop (p.2 * R.sz)) :=
    ((((C.take (by omega)).append x).append (C.drop _)).mono hg)
   have k:(M.take (p.1 * R.sz)).length=p.1 * R.sz:=by
    rw [List.length_take,C.1];exact Nat.min_eq_left (Nat.mul_le_mul_right _ (by omega))
   have D:∀ (j:Nat) u,(M.take (p.1 * R.sz)++o++M.drop (p.2 * R.sz))[j]? = some u->d[off+j]? = some u:=by
    intro j u n
    have hal:arr.toList.length=arr.size:=Array.length_toList
    simp only [d,List.getElem?_toArray,Nat.add_zero]
    rw [List.append_assoc] at n ⊢
    have G:(arr.toList.take (off+p.1 * R.sz)).length=off+p.1 * R.sz:=by rw [List.length_take,hal];omega
    by_cases V:j < p.1 * R.sz
    ·rw [Zm (by rw [k];exact V),List.getElem?_take,if_pos V] at n
     rw [Zm (by rw [G];omega),List.getElem?_take,if_pos (by omega)]
     have:=N j u n
     simpa using this
    ·rw [Zn (by rw [k];omega),k] at n
     rw [Zn (by rw [G];omega),G]
     have e2:off+j-(off+p.1 * R.sz)=j-p.1 * R.sz:=by omega
     rw [e2]
     by_cases hj2:j-p.1 * R.sz < (p.2-p.1) * R.sz
     ·rw [Zm (by rw [r];exact hj2)] at n ⊢
      exact n
     ·rw [Zn (by rw [r];omega),r] at n ⊢
      rw [List.getElem?_drop] at n ⊢
      have e3:p.2 * R.sz+(j-p.1 * R.sz-(p.2-p.1) * R.sz)=j:=by omega
      rw [e3] at n
      have e4:off+p.1 * R.sz+(p.2-p.1) * R.sz+(j-p.1 * R.sz-(p.2-p.1) * R.sz)=off+j:=by omega
      rw [e4]
      have:=N j u n
      simpa using this
   have y:(xs.take p.1++List.replicate (p.2-p.1) z++xs.drop p.2).length=xs.length:=by simp;omega
   refine ⟨w.setRow b d,?_,.inr ⟨b,off,cap,d,el,fz,by rw [y],by rw [y];exact hc,by rw [g];exact hs,by rw [g];exact ht,setRow_heap w b arr _ el fz hh,U.row D⟩,rfl,rfl,.m,by simp,fun b' A=>setRow_other w b b' _ (fun e=>A (by rw [e];rfl))⟩
   rw [f]
   obtain ⟨m,hm⟩:∃ m,p.2-p.1=m+1:=⟨p.2-p.1-1,by omega⟩
   rw [hm] at H ⊢
   simp only [Nat.add_zero] at T
   simp [Builtin.clear_,Xb hu,Z,H,T,d]
section
variable {X:Ctx} {s:St} {ops:Array Oper} {todo:Act->World->Prop} {tt:List (Nat × TD)}
def MQ {α:Type} (z:α) (xs:List α) (l h:Option Int):Option (List α):=(W7 l h xs.length).map fun p=>xs.take p.1++List.replicate (p.2-p.1) z++xs.drop p.2
structure ZhR {α:Type} (P:Program) (R:TRep α) (el:TypeId) (z:α) (zv:Value):Prop where
 run:∀ w,(zeroValue el).run P w=.ok zv w
 row:∀ n F w,RowL R F w (List.replicate n z) (Builtin.zeroCells zv.cells n).toList
 one:∀ n,∀ u∈(Builtin.zeroCells zv.cells n).toList,u.oneCell'=true
theorem WPr.clr {α:Type} {R:TRep α} (htt:TTOk X.P tt) {i:Nat} {rest:List Nat} {o:Oper} {t:TypeId} {j:TD} {x:Operand} {k K:Nat} {fr:Bool} {xs r:List α} {l h:Option Int} {z:α} {H:Value}
  (m:MQ z xs l h=some r) (hZ:ZhR X.P R j.el z H) (I:ops[i]? = some o) (N:YO ops s.L o=some true) (n:o.op=.call { callee:=.builtin .clear,args:=#[x],argTypes:=#[t] }) (O:o.dst=none)
  (S:Yd s.L x=some (.c (.sl K))) (hV:ZQ s.V K=some (.vw k l h R.sz)\/(K=k/\l=none/\h=none)) (q:ZQ s.M k=some (.own R xs fr)) (T:ZQ tt t=some j)
  (G:(Nat.beq j.kd 6 && Nat.beq j.es R.sz)=true)
  (U:WPr X ops rest todo ⟨s.L,(k,.own R r fr)::s.M,s.V,s.nx⟩):WPr X ops (i::rest) todo s:=by
 refine WPr.op I N (fun E F w a f=>?_) U
 simp only [Zc] at G
 have ⟨W,Y⟩:=G
 have ⟨Z,_⟩:=f.eval S
 have C:=f.mF k _ q
 have d:OwnR R F w xs (E.ρ k):=f.hM k _ q
 have D:E.ρ K=Wn l h R.sz (E.ρ k):=by
  rcases hV with h | ⟨rfl,rfl,rfl⟩
  ·exact f.hV K _ h
  ·have ⟨b,c,hv⟩:=HZ d
   rw [hv]
   rw [Rg]
   simp only [Gl,Option.getD_none,Int.toNat_zero,Nat.sub_zero,Nat.zero_mul]
   cases b with
   | none=>simp
   | some b =>
    have:b.add 0=b:=by unfold Addr.add;simp
    simp [this]
 unfold MQ at m
 rw [Zl] at m
 obtain ⟨p,hp,rfl⟩:=m
 have ⟨w',g,A,g1,g2,g3,g4,g5⟩:=ZnZ (ty:=o.type) (htt.get T) W (Zd Y) d hp hZ.run rfl (hZ.row _ _ _) (hZ.one _) (fun b u=>(C b u).1)
 refine XW (v:=.tuple #[]) (w':=w') (Un n ?_) ?_
 ·simp only [List.map_toArray,List.map_cons,List.map_nil,Z,Yc]
  have:ZZ E (.sl K)=Wn l h R.sz (E.ρ k):=D
  rw [this]
  exact Y3 g
 ·have s1:=f.setM (m':=.own R (xs.take p.1++List.replicate (p.2-p.1) z++xs.drop p.2) fr) q g1 g2 g3 g4 (fun b _ y=>g5 b (fun e=>y e)) (fun b u=>u) A trivial (fun h=>h)
  rw [O]
  exact ⟨E,F,s1⟩
end
end
section
variable [LxP]
theorem ZvD {P:Program} {el:TypeId} {f:TD} (h:TD.Ok P el f) {z:ByteArray} (m:f.z=[.s z]):∃ b,ZhR P rS el z b:=by
 have ⟨i,b,o,_,_,p,q⟩:=h.info
 have r:b.cells=#[.string z]:=by
  have:=q ⟨fun _=>.bool true,fun _=>0⟩
  rw [m] at this
  simpa [ZZ] using this
 have l:∀ n,(Builtin.zeroCells b.cells n).toList=List.replicate n (.string z):=by
  intro n
  unfold Builtin.zeroCells
  rw [r]
  apply List.ext_getElem?
  intro j
  rw [Array.getElem?_toList,Array.getElem?_map,List.getElem?_replicate]
  by_cases c:j < n
  ·rw [if_pos c,Array.getElem?_eq_getElem (by simpa using c)]
   simp [Nat.mod_one]
  ·rw [if_neg c,Array.getElem?_eq_none (by simpa using c)]
   rfl
 refine ⟨b,?_,?_,?_⟩
 ·intro w
  simp [zeroValue,typeInfo,o,p]
 ·intro n F w
  rw [l]
  refine ⟨by simp [rS],fun j x d=>?_⟩
  rw [List.getElem?_replicate] at d
  split at d
  ·cases d
   rename_i c
   refine ⟨[.string z],rfl,fun k v e=>?_⟩
   cases k with
   | succ k=>simp at e
   | zero =>
    simp only [List.getElem?_cons_zero,Option.some.injEq] at e
    subst e
    show (List.replicate n (Value.string z))[j * 1+0]? = _
    rw [List.getElem?_replicate,if_pos (by omega)]
  ·cases d
 ·intro n u g
  rw [l] at g
  rw [List.eq_of_mem_replicate g];rfl
section
variable {X:Ctx} {tt:List (Nat × TD)}
def dCe (r:List ByteArray) (c:Cf):Dl:=⟨[],[((Xs (ZQ (ZV c).V (Yo (Z6 c 0)))),.own rS r (WM (ZQ (ZV c).M (Xs (ZQ (ZV c).V (Yo (Z6 c 0)))))))],[],0⟩
def nCe (r:List ByteArray) (c:Cf):Cf:=Xh (dCe r c) c
theorem eCe {xs:List ByteArray} {lo hi:Option Int} {r:List ByteArray} {c:Cf} (htt:TTOk X.P tt) (g:MQ (str []) xs lo hi=some r) (k:Wc X (nCe r c))
  (e:(UW c,(ZP c).dst,(ZP c).op,Z6 c 0,ZQ (ZV c).M (Xs (ZQ (ZV c).V (Yo (Z6 c 0)))),ZQ tt (Z8 (ZP c).op),(Nat.beq (Yu tt (Z8 (ZP c).op)).kd 6 && Nat.beq (Yu tt (Z8 (ZP c).op)).es 1),ZQ (ZV c).V (Yo (Z6 c 0)),ZQ tt (Yu tt (Z8 (ZP c).op)).el,(Yu tt (Yu tt (Z8 (ZP c).op)).el).z) =
   (true,none,.call { callee:=.builtin .clear,args:=#[Yl (ZP c).op 0],argTypes:=#[Z8 (ZP c).op] },some (.c (.sl (Yo (Z6 c 0)))),some (.own rS xs (WM (ZQ (ZV c).M (Xs (ZQ (ZV c).V (Yo (Z6 c 0))))))),some (Yu tt (Z8 (ZP c).op)),true,some (.vw (Xs (ZQ (ZV c).V (Yo (Z6 c 0)))) lo hi 1),some (Yu tt (Yu tt (Z8 (ZP c).op)).el),[.s (str [])]):=by kernel_rfl):Wc X c:=by
 simp only [Zp] at e
 have ⟨l,f,m,n,o,p,q,u,v,b⟩:=e
 have ⟨x,hZ⟩:=ZvD (htt.get v) b
 refine Wc.ev (d:=dCe r c) l (by rw [f];rfl) (fun nk E0 F0 w0 n0 Z rest K i j h=>WPr.clr (X:=X.var nk E0 F0 w0 n0 Z) (R:=rS) htt g hZ i j m f n (.inl u) o p q h) k
end
end
section
open Go.Proofs
def Xk (xs:List ByteArray):List (List UInt8):=xs.map (·.data.toList)
theorem Zjh (x:ByteArray):encStr x.data.toList=.string x:=by
 show Value.string ⟨x.data.toList.toArray⟩=.string x
 rw [Array.toArray_toList]
theorem Zpe {w:World} {b off n:Nat} {D:List (List UInt8)} {e:Array Obj} {arr:Array Value} {el:TypeId} {fz:Nat × Nat} (d:w.heap[b]? = some (.cells arr el fz)) :
  (Go.Sort.grow (Go.Sort.putRow encStr (Go.Sort.ahead w n) b off D.toArray) e).heap[b]? = some (.cells (Go.Sort.putCells encStr off D.toArray arr) el fz):=by
 have c:b < w.heap.size:=(Array.getElem?_eq_some_iff.1 d).1
 rw [Go.Sort.heap_grow_old _ _ (by simpa [Go.Sort.putRow,Go.Sort.mapBlock,Go.Sort.ahead] using c)]
 simp [Go.Sort.putRow,Go.Sort.mapBlock,Go.Sort.ahead,Array.getElem?_modify,d,Go.Sort.onCells]
theorem ZjD {w:World} {c off n b:Nat} {D:List (List UInt8)} {f:Array Obj} (g:b < w.heap.size) (d:b≠c) :
  (Go.Sort.grow (Go.Sort.putRow encStr (Go.Sort.ahead w n) c off D.toArray) f).heap[b]? = w.heap[b]? := by
 rw [Go.Sort.heap_grow_old _ _ (by simpa [Go.Sort.putRow,Go.Sort.mapBlock,Go.Sort.ahead] using g)]
 have:¬ c=b:=fun e=>d e.symm
 simp [Go.Sort.putRow,Go.Sort.mapBlock,Go.Sort.ahead,Array.getElem?_modify,this]
theorem Zln {w:World} {b off n:Nat} {D:List (List UInt8)} {c:Array Obj}:w.heap.size<=(Go.Sort.grow (Go.Sort.putRow encStr (Go.Sort.ahead w n) b off D.toArray) c).heap.size:=by
 simp [Go.Sort.grow,Go.Sort.putRow,Go.Sort.mapBlock,Go.Sort.ahead]
theorem ZjE {F:YB} {w:World} {xs:List ByteArray} {b off cap:Nat} {arr:Array Value} {el:TypeId} {fz:Nat × Nat} (n:xs.length<=cap) (e:off+cap * rS.sz<=arr.size) (h:RC fz arr.size)
  (f:w.heap[b]? = some (.cells arr el fz)) (i:Row rS F w xs arr off):Go.Sort.Holds encStr w b off (Xk xs).toArray:=by
 intro j g
 have d:j < xs.length:=by simpa [Xk] using g
 have ⟨k,c,l⟩:=i j xs[j] (Za d)
 have c:k=[.string xs[j]]:=c
 subst c
 have m:=l 0 _ rfl
 have e:off+cap<=arr.size:=by simpa [rS] using e
 refine ⟨?_,?_⟩
 ·unfold World.cell?
  rw [f]
  have:(Xk xs).toArray[j]! = xs[j].data.toList:=by
   rw [getElem!_pos _ j g];simp [Xk]
  show arr[off+j]? = some (encStr _)
  rw [this,Zjh]
  simpa [rS] using m
 ·unfold World.frozen?
  rw [f]
  exact h (off+j) (by omega)
theorem ZkD {F:YB} {w:World} {c:List ByteArray} {D:List (List UInt8)} {b off cap n:Nat} {k:Array Obj} {arr:Array Value} {el:TypeId} {fz:Nat × Nat} (l:∀ (i:Nat) x,c[i]? = some x->D[i]? = some x.data.toList) (y:D.length<=cap) (d:c.length<=cap)
  (e:off+cap * rS.sz<=arr.size) (m:RC fz arr.size) (o:w.heap[b]? = some (.cells arr el fz)) :
  OwnR rS F (Go.Sort.grow (Go.Sort.putRow encStr (Go.Sort.ahead w n) b off D.toArray) k) c (.slice (some ⟨b,off,none⟩) c.length cap):=by
 refine .inr ⟨b,off,cap,Go.Sort.putCells encStr off D.toArray arr,el,fz,rfl,d,by simpa [Go.Sort.putCells] using e,by simpa [Go.Sort.putCells] using m,Zpe o,fun i x p=>⟨[.string x],rfl,fun j v f=>?_⟩⟩
 cases j with
 | succ j=>simp at f
 | zero =>
  simp only [List.getElem?_cons_zero,Option.some.injEq] at f
  subst f
  have hi:=l i x p
  have g:i < D.length:=(List.getElem?_eq_some_iff.1 hi).1
  have e:off+cap<=arr.size:=by simpa [rS] using e
  have h:off+i * 1+0 < arr.size:=by omega
  show (Go.Sort.putCells encStr off D.toArray arr)[off+i * 1+0]? = _
  unfold Go.Sort.putCells
  rw [Array.getElem?_mapIdx,Array.getElem?_eq_getElem h]
  have q:off<=off+i * 1+0/\off+i * 1+0 < off+D.toArray.size:=⟨by omega,by simp;omega⟩
  have r:off+i * 1+0-off=i:=by omega
  have u:D.toArray[i]! = x.data.toList:=by
   rw [getElem!_pos _ i (by simpa using g)]
   have:=(List.getElem?_eq_some_iff.1 hi).2
   simpa using this
  simp only [Option.map_some,q,and_self,if_true,r,u,Zjh]
variable [LxP]
theorem Zqo {P:Program} {f:FuncId} {xs l:List ByteArray} (q:BM P f) (j:l.length=xs.length)
  (r:∀ b off cap w,Go.Sort.Holds encStr w b off (Xk xs).toArray->b < w.heap.size->xs.length<=cap->Calls P f #[.slice (some ⟨b,off,none⟩) xs.length cap] w fun e w'=>e=.returned (.tuple #[])/\∃ n K,w'=Go.Sort.grow (Go.Sort.putRow encStr (Go.Sort.ahead w n) b off (Xk l).toArray) K)
  (o:xs=[]->∀ p cap w,Calls P f #[.slice p 0 cap] w fun e w'=>e=.returned (.tuple #[])/\w'=w) :
  Fn P f ⟨1,[.c (.sl 0)],[],[(0,.own rS xs false)],1,.t [],[],[(0,.own rS l false)]⟩:=by
 refine ⟨q,fun E F w D=>?_⟩
 have g:OwnR rS F w xs (E.ρ 0):=D.M 0 (.own rS xs false) rfl
 have A:=D.mF 0 (.own rS xs false) rfl
 have C:∀ w',OwnR rS F w' l (E.ρ 0)->Ext (fun b=>b < w.heap.size/\¬ Ct.fp0 ⟨1,[.c (.sl 0)],[],[(0,.own rS xs false)],1,.t [],[],[(0,.own rS l false)]⟩ E b) w w' ->
   Ct.Post ⟨1,[.c (.sl 0)],[],[(0,.own rS xs false)],1,.t [],[],[(0,.own rS l false)]⟩ E F w E F w':=fun w' R u=>{
  env:=Env.Eqb.refl _ _
  one:=D.one
  V:=fun k f h=>nomatch h
  M:=fun k m h=>by
   rw [YG] at h;split at h
   ·rename_i e;cases h;subst e;exact R
   ·cases h
  dis:=fun k Z m m' h G d=>by
   rw [YG] at h G;split at h
   ·split at G
    ·rename_i U W;exact absurd (U.symm.trans W) d
    ·cases G
   ·cases h
  mF:=fun k m h b v=>by
   rw [YG] at h;split at h
   ·rename_i e;cases h;subst e
    exact ⟨(A b v).1,Zh (A b v).2 u.size,.inl ⟨0,_,rfl,v⟩⟩
   ·cases h
  fresh:=fun k m h S=>by
   rw [YG] at h;split at h
   ·cases h;cases S
   ·cases h
  F0:=fun _ h=>h
  F1:=fun _ h=>.inl h
  Fs:=fun b h=>Zh (D.hF b h) u.size
  ext:=u }
 show Calls P f #[E.ρ 0] w _
 by_cases d:xs=[]
 ·have Y:l=[]:=List.eq_nil_of_length_eq_zero (by rw [j,d];rfl)
  have z:∃ p cap,E.ρ 0=.slice p 0 cap:=by
   rcases g with ⟨_,h⟩ | ⟨b,off,cap,_,_,_,h,_⟩
   ·exact ⟨_,_,h⟩
   ·rw [d] at h;exact ⟨_,_,h⟩
  have ⟨p,cap,z⟩:=z
  have:=o d p cap w
  rw [<- z] at this
  refine this.mono ?_
  rintro e w' ⟨rfl,rfl⟩
  exact ⟨E,F,rfl,C _ (by rw [Y,<- d];exact g) (Ext.refl _ _)⟩
 ·rcases g with ⟨h,_⟩ | ⟨b,off,cap,arr,el,fz,H,L,N,O,I,z⟩
  ·exact absurd h d
  ·have v:b < w.heap.size:=(Array.getElem?_eq_some_iff.1 I).1
   have:=r b off cap w (ZjE L N O I z) v L
   rw [<- H] at this
   refine this.mono ?_
   rintro e w' ⟨rfl,n,K,rfl⟩
   refine ⟨E,F,rfl,C _ ?_ ⟨rfl,rfl,⟨rfl,.inr (Nat.le_add_right _ _)⟩,Zln,fun T y=>ZjD y.1 fun e=>y.2 ⟨0,_,rfl,?_⟩⟩⟩
   ·rw [H,<- j]
    exact ZkD (fun i x u=>by simp [Xk,u]) (by simp [Xk];omega) (by omega) N O I
   ·show YH (E.ρ 0)=some T
    rw [H,e];rfl
theorem Zsz {P:Program} {f:FuncId} {xs l:List ByteArray} (A:BM P f) (o:l.length<=xs.length)
  (C:∀ b off cap w,Go.Sort.Holds encStr w b off (Xk xs).toArray->b < w.heap.size->xs.length<=cap->Calls P f #[.slice (some ⟨b,off,none⟩) xs.length cap] w fun e w'=>e=.returned (.slice (some ⟨b,off,none⟩) l.length cap)/\∃ n U,∃ D:List (List UInt8),w'=Go.Sort.grow (Go.Sort.putRow encStr (Go.Sort.ahead w n) b off D.toArray) U/\D.length<=xs.length/\∀ (i:Nat) x,l[i]? = some x->D[i]? = some x.data.toList)
  (q:xs=[]->∀ p cap w,Calls P f #[.slice p 0 cap] w fun e w'=>e=.returned (.slice p 0 cap)/\w'=w) :
  Fn P f ⟨1,[.c (.sl 0)],[],[(0,.own rS xs false)],2,.c (.sl 1),[],[(1,.own rS l false),(0,.gone)]⟩:=by
 refine ⟨A,fun E F w N=>?_⟩
 have j:OwnR rS F w xs (E.ρ 0):=N.M 0 (.own rS xs false) rfl
 have K:=N.mF 0 (.own rS xs false) rfl
 have L:∀ v w',(∀ b,YH v=some b->YH (E.ρ 0)=some b)->OwnR rS F w' l v->Ext (fun b=>b < w.heap.size/\¬ Ct.fp0 ⟨1,[.c (.sl 0)],[],[(0,.own rS xs false)],2,.c (.sl 1),[],[(1,.own rS l false),(0,.gone)]⟩ E b) w w' ->
   ∃ z I,v=Yc z (.c (.sl 1))/\Ct.Post ⟨1,[.c (.sl 0)],[],[(0,.own rS xs false)],2,.c (.sl 1),[],[(1,.own rS l false),(0,.gone)]⟩ E F w z I w':=fun v w' O Z R=>by
  have r:(E.setρ 1 v).ρ 1=v:=by simp [Env.setρ]
  refine ⟨E.setρ 1 v,F,by show v=(E.setρ 1 v).ρ 1;rw [r],{
   env:=E.eqb_setρ _ _ _ (Zo _)
   one:=fun k=>by
    simp only [Env.setρ];split
    ·exact ZhP Z
    ·exact N.one k
   V:=fun k f h=>nomatch h
   M:=fun k m h=>by
    rw [YG] at h;split at h
    ·rename_i e;cases h;subst e
     show OwnR rS F w' l ((E.setρ 1 v).ρ 1)
     rw [r];exact Z
    ·rw [YG] at h;split at h
     ·cases h;trivial
     ·cases h
   dis:=fun k k' m m' h y d=>by
    rw [YG] at h y;split at h
    ·split at y
     ·rename_i e1 e2;exact absurd (e1.symm.trans e2) d
     ·rw [YG] at y;split at y
      ·cases y;exact fun b _ g=>g
      ·cases y
    ·rw [YG] at h;split at h
     ·cases h;exact fun b g=>g.elim
     ·cases h
   mF:=fun k m h b g=>by
    rw [YG] at h;split at h
    ·rename_i e;cases h;subst e
     have g:YH ((E.setρ 1 v).ρ 1)=some b:=g
     rw [r] at g
     have u:=O b g
     exact ⟨(K b u).1,Zh (K b u).2 R.size,.inl ⟨0,_,rfl,u⟩⟩
    ·rw [YG] at h;split at h
     ·cases h;exact g.elim
     ·cases h
   fresh:=fun k m h hf=>by
    rw [YG] at h;split at h
    ·cases h;cases hf
    ·rw [YG] at h;split at h
     ·cases h;cases hf
     ·cases h
   F0:=fun _ h=>h
   F1:=fun _ h=>.inl h
   Fs:=fun b h=>Zh (N.hF b h) R.size
   ext:=R }⟩
 show Calls P f #[E.ρ 0] w _
 by_cases d:xs=[]
 ·have hd:l=[]:=List.eq_nil_of_length_eq_zero (by rw [d] at o;simpa using o)
  have H:∃ p cap,E.ρ 0=.slice p 0 cap:=by
   rcases j with ⟨_,h⟩ | ⟨b,off,cap,_,_,_,h,_⟩
   ·exact ⟨_,_,h⟩
   ·rw [d] at h;exact ⟨_,_,h⟩
  have ⟨p,cap,H⟩:=H
  have:=q d p cap w
  rw [<- H] at this
  refine this.mono ?_
  rintro e w' ⟨rfl,rfl⟩
  have ⟨z,I,S,T⟩:=L _ _ (fun b h=>h) (by rw [hd,<- d];exact j) (Ext.refl _ _)
  exact ⟨z,I,congrArg _ S,T⟩
 ·rcases j with ⟨h,_⟩ | ⟨b,off,cap,arr,el,fz,r,hc,ha,ht,Y,H⟩
  ·exact absurd h d
  ·have g:b < w.heap.size:=(Array.getElem?_eq_some_iff.1 Y).1
   have:=C b off cap w (ZjE hc ha ht Y H) g hc
   rw [<- r] at this
   refine this.mono ?_
   rintro e w' ⟨rfl,n,U,D,rfl,hD1,W⟩
   have ⟨z,I,S,T⟩:=L _ (Go.Sort.grow (Go.Sort.putRow encStr (Go.Sort.ahead w n) b off D.toArray) U) (fun b' h=>by rw [r];exact h) (ZkD W (by omega) (by omega) ha ht Y) ⟨rfl,rfl,⟨rfl,.inr (Nat.le_add_right _ _)⟩,Zln,fun b' G=>ZjD G.1 fun e=>G.2 ⟨0,_,rfl,(by show YH (E.ρ 0)=some b';rw [r,e];rfl)⟩⟩
   exact ⟨z,I,congrArg _ S,T⟩
end
section
def Tq (l:List UInt8):ByteArray:=⟨l.toArray⟩
theorem Ze4 (x:ByteArray):Tq x.data.toList=x:=by
 unfold Tq
 rw [Array.toArray_toList]
theorem ZsF (l:List UInt8):(Tq l).data.toList=l:=by simp [Tq]
theorem ZlG (l:List (List UInt8)):Xk (l.map Tq)=l:=by
 unfold Xk
 rw [List.map_map]
 conv=>rhs;rw [<- List.map_id l]
 exact List.map_congr_left fun x _=>ZsF x
theorem Zj9 (xs:List ByteArray):(Xk xs).map Tq=xs:=by
 unfold Xk
 rw [List.map_map]
 conv=>rhs;rw [<- List.map_id xs]
 exact List.map_congr_left fun x _=>Ze4 x
def Sj (xs:List ByteArray):List ByteArray:=bif Nat.ble xs.length 1 then xs else ((Xk xs).mergeSort fun x y=>decide (x<=y)).map Tq
theorem ZlH (xs:List ByteArray):Xk (Sj xs)=(Xk xs).mergeSort fun x y=>decide (x<=y):=by
 unfold Sj
 match xs with
 | []=>simp [Xk]
 | [x]=>show Xk [x]=_;simp [Xk]
 | x::y::r =>
  have:Nat.ble (x::y::r).length 1=false:=by
   cases h:Nat.ble (x::y::r).length 1 with
   | false=>rfl
   | true=>have:=Ze h;simp at this
  rw [this,cond_false,ZlG]
theorem Zlp (xs:List ByteArray):(Sj xs).Perm xs:=by
 have h:=(List.mergeSort_perm (Xk xs) fun x y=>decide (x<=y)).map Tq
 rw [<- ZlH,Zj9,Zj9] at h
 exact h
theorem ZfK (xs:List ByteArray):(Sj xs).length=xs.length:=(Zlp xs).length_eq
def Tj (xs:List ByteArray):List ByteArray:=bif Nat.ble xs.length 1 then xs else (Go.Lib.compact (Xk xs)).map Tq
theorem ZfR (xs:List ByteArray):Xk (Tj xs)=Go.Lib.compact (Xk xs):=by
 unfold Tj
 match xs with
 | []=>rfl
 | [x] =>
  show Xk [x]=_
  rw [Go.Lib.compact_all]
  intro j b
  exact Go.Lib.keeps_lt_one _ j (by simpa [Xk] using b)
 | x::y::r =>
  have:Nat.ble (x::y::r).length 1=false:=by
   cases h:Nat.ble (x::y::r).length 1 with
   | false=>rfl
   | true=>have:=Ze h;simp at this
  rw [this,cond_false,ZlG]
theorem Zn3 {α:Type} [Inhabited α] [DecidableEq α] (zs:List α):(Go.Lib.compact zs).length<=zs.length:=by
 unfold Go.Lib.compact Go.Lib.compactUpTo
 rw [List.length_map]
 refine Nat.le_trans (List.length_filter_le _ _) ?_
 simp
theorem B8 (xs:List ByteArray):(Tj xs).length<=xs.length:=by
 have h:=Zn3 (Xk xs)
 rw [<- ZfR] at h
 simpa [Xk] using h
theorem Zqj {α:Type} [Inhabited α] [DecidableEq α] (zs:List α) (x:α):x∈Go.Lib.compact zs↔x∈zs:=by
 unfold Go.Lib.compact Go.Lib.compactUpTo
 constructor
 ·intro h
  rw [List.mem_map] at h
  obtain ⟨j,b,rfl⟩:=h
  have b:=List.mem_range.1 (List.mem_filter.1 b).1
  have:zs.toArray[j]! = zs[j]:=by rw [getElem!_pos _ j (by simpa using b)];simp
  rw [this]
  exact List.getElem_mem b
 ·intro h
  obtain ⟨i,hi,rfl⟩:=List.getElem_of_mem h
  rw [List.mem_map]
  have key:∀ i,∀ hi:i < zs.length,∃ j,j∈(List.range zs.length).filter (Go.Lib.keeps zs.toArray)/\zs.toArray[j]! = zs[i]:=by
   intro i
   induction i with
   | zero =>
    intro hi
    refine ⟨0,List.mem_filter.2 ⟨List.mem_range.2 hi,Go.Lib.keeps_lt_one _ 0 (by omega)⟩,?_⟩
    rw [getElem!_pos _ 0 (by simpa using hi)];simp
   | succ i l =>
    intro hi
    by_cases f:Go.Lib.keeps zs.toArray (i+1)=true
    ·refine ⟨i+1,List.mem_filter.2 ⟨List.mem_range.2 hi,f⟩,?_⟩
     rw [getElem!_pos _ (i+1) (by simpa using hi)];simp
    ·have d:zs.toArray[i+1]! = zs.toArray[i+1-1]! := by
      refine Classical.byContradiction fun c=>f (Go.Lib.keeps_pos c)
     have ⟨j,b,e⟩:=l (by omega)
     refine ⟨j,b,e.trans ?_⟩
     have g:zs.toArray[i+1]! = zs[i+1]:=by rw [getElem!_pos _ (i+1) (by simpa using hi)];simp
     have k:zs.toArray[i+1-1]! = zs[i]:=by
      rw [Nat.add_sub_cancel,getElem!_pos _ i (show i < zs.toArray.size by simp;omega)];simp
     rw [g,k] at d
     exact d.symm
  exact key i hi
theorem Zqi (xs:List ByteArray) (x:ByteArray):x∈Tj xs↔x∈xs:=by
 have h:=Zqj (Xk xs) x.data.toList
 rw [<- ZfR] at h
 have key:∀ l:List ByteArray,x.data.toList∈Xk l↔x∈l:=by
  intro l
  unfold Xk
  rw [List.mem_map]
  constructor
  ·rintro ⟨y,b,e⟩
   have:Tq y.data.toList=Tq x.data.toList:=by rw [e]
   rw [Ze4,Ze4] at this
   rw [<- this];exact b
  ·exact fun h=>⟨x,h,rfl⟩
 rw [key,key] at h
 exact h
end
section
variable [LxP]
section
variable {X:Ctx} {s:St} {ops:Array Oper} {todo:Act->World->Prop} {tt:List (Nat × TD)}
end
end
section
variable [LxP]
def M8 {α:Type}:List (ByteArray × α)->ByteArray->α->List (ByteArray × α)
 | [],a,x=>[(a,x)]
 | (k,v)::r,a,x=>bif k.data.toList==a.data.toList then (k,x)::r else (k,v)::M8 r a x
omit [LxP] in
theorem Zlt (a b:ByteArray):(a.data.toList==b.data.toList)=true↔a=b:=by
 rw [beq_iff_eq]
 constructor
 ·intro h
  have ⟨x⟩:=a
  have ⟨y⟩:=b
  have:x=y:=Array.toList_inj.1 h
  rw [this]
 ·rintro rfl;rfl
def Zfg (ag:Bool) (vs:List Value):Value:=bif ag then .agg vs.toArray else vs.headD undef
def MapL {α:Type} (R:TRep α) (ag:Bool) (F:YB) (w:World):List MapEntry->List (ByteArray × α)->Prop
 | [],[]=>True
 | e::es,(k,x)::r=>e.key=.string k/\(∃ vs,R.rep F w x vs/\e.val=Zfg ag vs)/\MapL R ag F w es r
 | _,_=>False
omit [LxP] in
theorem MapL.mono {α:Type} {R:TRep α} {ag F w F' w'} (g:Wt F w F' w'):∀ {es kvs},MapL R ag F w es kvs->MapL R ag F' w' es kvs
 | [],[],_=>trivial
 | [],_::_,h=>h.elim
 | _::_,[],h=>h.elim
 | e::es,(k,x)::r,⟨h1,⟨vs,h2,h3⟩,h4⟩=>⟨h1,⟨vs,R.mono g h2,h3⟩,MapL.mono g h4⟩
section
variable {P:Program} {t kt et:TypeId}
theorem MapL.put {α:Type} {R:TRep α} {ag F w} {a:ByteArray} {x:α} {d:List Value} (l:R.rep F w x d):∀ (es:List MapEntry) (c:List (ByteArray × α)) (i b:Nat),MapL R ag F w es c ->
  (Instr.findNow .string (.string a) es i=some none/\MapL R ag F w (es++[{ key:=.string a,val:=Zfg ag d,born:=b }]) (M8 c a x)) \/
  ∃ j e,Instr.findNow .string (.string a) es i=some (some (i+j,e.val))/\es[j]? = some e/\e.key=.string a/\MapL R ag F w (es.modify j fun e=>{ e with key:=.string a,val:=Zfg ag d }) (M8 c a x)
 | [],[],i,b,_=>.inl ⟨rfl,rfl,⟨d,l,rfl⟩,trivial⟩
 | [],_::_,_,_,h=>h.elim
 | _::_,[],_,_,h=>h.elim
 | e::es,(k,y)::r,i,b,⟨h1,h2,h4⟩=>by
  have o:Instr.sameNow .string (.string a) e.key=some (a==k):=by rw [h1];rfl
  by_cases p:a=k
  ·subst p
   have f:(a==a)=true:=(MapKept.bytes_beq a a).2 rfl
   have g:(a.data.toList==a.data.toList)=true:=(Zlt a a).2 rfl
   refine .inr ⟨0,e,by unfold Instr.findNow;rw [o,f];rfl,rfl,h1,?_⟩
   rw [M8,g]
   exact ⟨rfl,⟨d,l,rfl⟩,h4⟩
  ·have f:(a==k)=false:=by
    cases q:(a==k) with
    | false=>rfl
    | true=>exact absurd ((MapKept.bytes_beq a k).1 q) p
   have g:(k.data.toList==a.data.toList)=false:=by
    cases q:(k.data.toList==a.data.toList) with
    | false=>rfl
    | true=>exact absurd ((Zlt k a).1 q).symm p
   rcases MapL.put l es r (i+1) b h4 with ⟨m,n⟩ | ⟨j,u,m,n,v,z⟩
   ·refine .inl ⟨by unfold Instr.findNow;rw [o,f];exact m,?_⟩
    rw [M8,g]
    exact ⟨h1,h2,n⟩
   ·refine .inr ⟨j+1,u,?_,by simpa using n,v,?_⟩
    ·unfold Instr.findNow
     rw [o,f]
     show Instr.findNow .string (.string a) es (i+1)=_
     rw [m,show i+1+j=i+(j+1) by omega]
    ·rw [M8,g]
     exact ⟨h1,h2,z⟩
end
end
section
variable [LxP]
section
variable {X:Ctx} {s:St} {ops:Array Oper} {todo:Act->World->Prop} {tt:List (Nat × TD)}
end
end
section
variable [LxP]
section
variable {X:Ctx} {tt:List (Nat × TD)}
end
end
end Go.Kx
