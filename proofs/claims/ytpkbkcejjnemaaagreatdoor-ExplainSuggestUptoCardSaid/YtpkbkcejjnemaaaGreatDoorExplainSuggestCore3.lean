/- Aids for the walks, part 3: a symbolic state of the machine, and that each step of the machine keeps it. -/
import Derived.Scope
import Derived.KernelRfl
import Derived.Sort.AssemblyPlain
import Derived.Shelf.SlSortCmp.Insertion
import Derived.Shelf.SlSortCmp.NoneTotal
import Derived.Lib.LaidTab
import Derived.Lib.Builder
import Derived.Lib.UnsafeStr
import Derived.Test.YtpkbkcejjnemaaaGreatDoorExplainSuggestCore2
set_option linter.all false
namespace Go.Kx
section
variable [LxP]
structure Dl:Type 1 where
 dL:List (Nat × SV)
 dM:List (Nat × MO)
 dV:List (Nat × VF)
 n:Nat
def Dl.ap (d:Dl) (s:St):St:=⟨d.dL++s.L,d.dM++s.M,d.dV++s.V,s.nx+d.n⟩
inductive Cf:Type 1
 | co (k:List Item) (s:St)
 | rg (m:Option (Nat × St × List Ent)) (ops:Array Oper) (i:Nat) (k:List Item) (s:St)
 | no
def Wd (X:Ctx):Cf->Prop
 | .co k s=>WP X k s
 | .rg none ops i k s=>WPr X ops (List.range' i (ops.size-i)) (rk X k) s
 | .rg (some q) ops i k _=>AllLS X ops 0 q.2.2->q.2.2.length=i->WP X (.code (.region q.1 ops true)::k) q.2.1
 | .no=>False
structure Wc (X:Ctx) (c:Cf):Prop where
 h:Wd X c
def Zrd (ops:Array Oper) (o:Oper):List Nat:=(match o.guard with
 | none=>[]
 | some (j,_)=>match ops[j]? with
  | some oj=>oj.dst.toList
  | none=>[])++tmpsO o.op.operands.toList
where tmpsO:List Operand->List Nat
 | []=>[]
 | .tmp t::r=>t::tmpsO r
 | _::r=>tmpsO r
def Zd6 (L:List (Nat × SV)):List Nat->List (Nat × SV)
 | []=>[]
 | d::r=>match Z3 L d with
  | some v=>(d,v)::Zd6 L r
  | none=>Zd6 L r
def ZoJ:SC->List Nat
 | .bp k _ | .sp k _ _ _ | .sl k | .px k _=>[k]
 | .cl _ fs ks=>fs++ks
 | _=>[]
def BT:List SC->List Nat
 | []=>[]
 | c::r=>ZoJ c++BT r
def ZmL:SV->List SC
 | .c x=>[x]
 | .a cs=>cs
 | .t vs=>vs.flatMap fun v=>match v with | .inl x=>[x] | .inr cs=>cs
 | .u=>[]
def ZdF:List (Nat × SV)->List Nat
 | []=>[]
 | q::r=>BT (ZmL q.2)++ZdF r
def ZaB {α:Type _} (ks:List Nat):List (Nat × α)->List Nat->List (Nat × α)
 | [],_=>[]
 | (k,v)::r,seen=>bif R3 k ks && !(R3 k seen) then (k,v)::ZaB ks r (k::seen) else ZaB ks r seen
def Bf (V:List (Nat × VF)):List Nat->List Nat
 | []=>[]
 | k::r=>match Z3 V k with
  | some (.el j _)=>k::j::Bf V r
  | some (.vw j _ _ _)=>k::j::Bf V r
  | _=>k::Bf V r
def Zc1 (M:List (Nat × MO)) (V:List (Nat × VF)):Nat->List Nat->List Nat->List Nat
 | 0,_,acc=>acc
 | _+1,[],acc=>acc
 | n+1,k::r,acc=>bif R3 k acc then Zc1 M V n r acc else
  Zc1 M V n ((match Z3 M k with | some (.box cs _)=>BT cs | _=>[])++(match Z3 V k with | some (.el j _)=>[j] | some (.vw j _ _ _)=>[j] | some (.pl cs)=>BT cs | _=>[])++r) (k::acc)
def Zoo:Op->Bool
 | .call c=>match c.callee with
  | .value _=>true
  | _=>false
 | _=>false
def Zp6:Op->Bool
 | .move _ | .assign _ | .pick _ _ _ | .unOp _ _ _ | .extract _ _ | .field _ _ _ | .build _ _ | .alloc _ | .box _ _ | .nilCheck _ | .fieldAddr _ _ _ | .makeFunc _ _ _=>true
 | _=>false
def ZsK (o:Oper) (L:List (Nat × SV)) (s:St):List Nat:=match o.op with
 | .load _ x=>match Yq L x with
  | some (.c (.v _))=>(s.M.filterMap fun p=>match p.2 with | .abs _=>some p.1 | _=>none)++s.V.filterMap fun p=>match p.2 with | .fn _=>some p.1 | _=>none
  | _=>[]
 | _=>[]
def ZcI:List (Nat × MO)->List Nat
 | []=>[]
 | (k,.abs _)::r=>k::ZcI r
 | _::r=>ZcI r
def Zre (ops:Array Oper) (o:Oper) (s:St):St :=
 let L:=Zd6 s.L (Zrd ops o)
 let ks:=bif Zoo o.op then Zc1 s.M s.V 10000 (ZdF L) []++ZcI s.M else Bf s.V (ZdF L)++ZsK o L s
 ⟨L,bif Zp6 o.op then [] else ZaB ks s.M [],ZaB ks s.V [],s.nx⟩
def Bx (sv:St) (d:Dl):Ent:=⟨sv.L,sv.V,sv.M.filter (fun q=>Uu q.1 d.dM),sv.M.filter (fun q => !(Uu q.1 d.dM)),sv.nx,d.dL,d.dV,d.dM,sv.nx+d.n⟩
def TR (m:Option (Nat × St × List Ent)) (ops:Array Oper) (o:Oper) (s:St):St:=match m with
 | none=>s
 | some _=>Zre ops o s
def Ga (m:Option (Nat × St × List Ent)) (ops:Array Oper) (i:Nat) (k:List Item) (s sv:St) (d:Dl):Cf:=match m with
 | none=>.rg none ops (i+1) k (d.ap s)
 | some q=>.rg (some (q.1,q.2.1,q.2.2++[Bx sv d])) ops (i+1) k (d.ap s)
theorem AllLS.snoc {X:Ctx} {ops:Array Oper}:∀ {l:List Ent} {i:Nat} {e:Ent},AllLS X ops i l->LS X ops (i+l.length) e->AllLS X ops i (l++[e])
 | [],i,e,_,h=>.cons h .nil
 | x::l,i,e,.cons h1 h2,h=>.cons h1 (AllLS.snoc h2 (by rw [show i+1+l.length=i+(x::l).length by simp;omega];exact h))
theorem HN {α:Type _} {p:Nat->Bool}:∀ {l:List (Nat × α)} {k:Nat},Z3 (l.filter fun q=>p q.1) k=bif p k then Z3 l k else none
 | [],k=>by cases p k<;>rfl
 | (j,u)::r,k=>by
  rw [List.filter_cons]
  simp only []
  rw [YC]
  split
  ·rename_i b
   rw [YC,HN]
   split
   ·rename_i e;subst e;rw [b];rfl
   ·rfl
  ·rename_i b
   rw [HN]
   split
   ·rename_i e;subst e;simp only [Bool.not_eq_true] at b;rw [b];rfl
   ·rfl
theorem LS.ent {X:Ctx} {ops:Array Oper} {i:Nat} {o:Oper} {b:St} {d:Dl} (u:ops[i]? = some o) (x:YJ ops b.L o=some true) (y:d.dL.map (·.1)=o.dst.toList)
    (z:∀ nk E0 F0 w0 n0 Z E F w a,Sat (X.var nk E0 F0 w0 n0 Z) b E F w a->o.wp X.P a w (fun r w'=>∃ g j,Sat (X.var nk E0 F0 w0 n0 Z) (d.ap b) g j w' r) (fun _ _ _=>False)):LS X ops i (Bx b d):=by
  refine ⟨o,u,y,.inl ⟨x,fun nk E0 F0 w0 n0 Z E F w a A=>?_⟩⟩
  have key:∀ k m,Z3 b.M k=some m->Z3 ((Bx b d).W++(Bx b d).R) k=some m:=fun k m h=>by
    show Z3 (b.M.filter (fun q=>Uu q.1 d.dM)++b.M.filter (fun q => !(Uu q.1 d.dM))) k=some m
    rw [X3,HN (p:=fun k=>Uu k d.dM),HN (p:=fun k => !(Uu k d.dM))]
    cases c:Uu k d.dM with
    | true=>simp only [cond_true,h]
    | false=>simp only [cond_false,Bool.not_false,cond_true,h]
  have n:Sat (X.var nk E0 F0 w0 n0 Z) b E F w a:=A.weaken rfl (fun _ _ h=>h) key (fun _ _ h=>h)
  refine Oper.wp_imp (fun r w' c=>?_) (z nk E0 F0 w0 n0 Z E F w a n)
  have ⟨g,j,l⟩:=c
  refine ⟨g,j,l.weaken rfl (fun e v h=>?_) (fun k m h=>?_) (fun k f h=>?_)⟩
  · have h:Z3 d.dL e=some v:=h
    show Z3 (d.dL++b.L) e=some v
    rw [X3,h]
  · have h:Z3 (d.dM++b.M.filter (fun q => !(Uu q.1 d.dM))) k=some m:=h
    show Z3 (d.dM++b.M) k=some m
    rw [X3] at h ⊢
    cases t:Z3 d.dM k with
    | some v=>rw [t] at h;exact h
    | none =>
      rw [t] at h
      simp only [] at h ⊢
      rw [HN (p:=fun k => !(Uu k d.dM))] at h
      cases c:Uu k d.dM with
      | true=>rw [c] at h;cases h
      | false=>rw [c] at h;exact h
  · have h:Z3 d.dV k=some f:=h
    show Z3 (d.dV++b.V) k=some f
    rw [X3,h]
section
variable {X:Ctx} {tt:List (Nat × TD)}
theorem HX {ops:Array Oper} {i:Nat} {o:Oper} (h:ops[i]? = some o):List.range' i (ops.size-i)=i::List.range' (i+1) (ops.size-(i+1)):=by
 have:=(Array.getElem?_eq_some_iff.1 h).1
 rw [show ops.size-i=(ops.size-(i+1))+1 by omega,List.range'_succ]
theorem Zko {m:Option (Nat × St × List Ent)} {ops:Array Oper} {i:Nat} {k:List Item} {s:St} {o:Oper} {d:Dl} (b:ops[i]? = some o) (c:YJ ops (TR m ops o s).L o=some true) (g:d.dL.map (·.1)=o.dst.toList)
    (e:∀ nk E0 F0 w0 n0 Z E F w a,Sat (X.var nk E0 F0 w0 n0 Z) (TR m ops o s) E F w a->o.wp X.P a w (fun j w'=>∃ n p,Sat (X.var nk E0 F0 w0 n0 Z) (d.ap (TR m ops o s)) n p w' j) (fun _ _ _=>False))
    (h:Wc X (Ga m ops i k s (TR m ops o s) d)):Wc X (.rg m ops i k s):=by
  have ⟨h⟩:=h
  refine ⟨?_⟩
  cases m with
  | none =>
    show WPr X ops (List.range' i (ops.size-i)) (rk X k) s
    rw [HX b]
    exact WPr.op b c (e X.nk X.E0 X.F0 X.w0 X.n0 X.Z) h
  | some q =>
    intro l f
    refine h (l.snoc ?_) (by simp [f])
    rw [Nat.zero_add,f]
    exact LS.ent b c g e
theorem Zsf {m:Option (Nat × St × List Ent)} {ops:Array Oper} {i:Nat} {k:List Item} {s:St} {o:Oper} {d:Nat} (c:ops[i]? = some o) (e:YJ ops (TR m ops o s).L o=some false) (f:o.dst=some d) (g:Nat.blt d X.fn.ntmps=true)
  (h:Wc X (Ga m ops i k s (TR m ops o s) ⟨[(d,.u)],[],[],0⟩)):Wc X (.rg m ops i k s):=by
 have ⟨h⟩:=h
 refine ⟨?_⟩
 cases m with
 | none =>
  show WPr X ops (List.range' i (ops.size-i)) (rk X k) s
  rw [HX c]
  exact WPr.skip c e f (YZ g) h
 | some q =>
  intro n j
  refine h (n.snoc ?_) (by simp [j])
  rw [Nat.zero_add,j]
  exact ⟨o,c,by show [d]=_;rw [f];rfl,.inr ⟨e,fun l v b=>by
   have b:(l,v)∈[(d,SV.u)]:=b
   simp only [List.mem_singleton,Zq] at b
   exact ⟨b.2,by rw [b.1];exact YZ g⟩,rfl,rfl⟩⟩
def Zer (tt:List (Nat × TD)) (n:Nat) (o:Oper):St->Option Dl
 | ⟨L,M,V,nx⟩=>match o.op with
  | .alloc t=>match Z3 tt t with
   | some d=>match o.dst with
    | some x=>bif Nat.blt x n then some ⟨[(x,.c (.bp nx 0))],[(nx,.box d.z t)],[],1⟩ else none
    | none=>none
   | none=>none
  | .box t v=>match Yq L v with
   | some sv=>match Ug sv with
    | some cs=>match o.dst with
     | some x=>bif Nat.blt x n then some ⟨[(x,.c (.bp nx 0))],[(nx,.box cs t)],[],1⟩ else none
     | none=>none
    | none=>none
   | none=>none
  | .store t ad v=>match Z3 tt t with
   | some d=>match Yq L ad with
    | some (.c (.bp k off))=>match Yq L v with
     | some sv=>match Ug sv with
      | some ps=>match Z3 M k with
       | some (.box cs t')=>bif (Nat.beq ps.length d.sz && Nat.ble (off+ps.length) cs.length) then (match o.dst with
        | none=>some ⟨[],[(k,.box (cs.take off++ps++cs.drop (off+ps.length)) t')],[],0⟩
        | some _=>none) else none
       | _=>none
      | none=>none
     | none=>none
    | _=>none
   | none=>none
  | op=>match Gc tt ⟨L,M,V,nx⟩ op with
   | some v=>match o.dst with
    | some x=>bif Nat.blt x n then some ⟨[(x,v)],[],[],0⟩ else none
    | none=>none
   | none=>none
theorem Zsc {n:Nat} {o:Oper} {s:St} {d:Dl} (h:Zer tt n o s=some d):Zau tt n o s=some (d.ap s)/\d.dL.map (·.1)=o.dst.toList:=by
  have ⟨L,M,V,nx⟩:=s
  have ⟨dst,p,ty,pos,q,g⟩:=o
  unfold Zer at h
  unfold Zau
  simp only [] at h ⊢
  split at h
  · rename_i t
    cases e:Z3 tt t with
    | none=>rw [e] at h;cases h
    | some l =>
      rw [e] at h
      simp only [] at h ⊢
      cases dst with
      | none=>cases h
      | some x =>
        simp only [] at h ⊢
        cases b:Nat.blt x n with
        | false=>rw [b] at h;cases h
        | true=>rw [b] at h;cases h;refine ⟨?_,rfl⟩;simp only [e,b,cond_true];rfl
  · rename_i t v
    cases c:Yq L v with
    | none=>rw [c] at h;cases h
    | some j =>
      rw [c] at h
      simp only [] at h ⊢
      cases f:Ug j with
      | none=>rw [f] at h;cases h
      | some cs =>
        rw [f] at h
        simp only [] at h ⊢
        cases dst with
        | none=>cases h
        | some x =>
          simp only [] at h ⊢
          cases b:Nat.blt x n with
          | false=>rw [b] at h;cases h
          | true=>rw [b] at h;cases h;refine ⟨?_,rfl⟩;simp only [c,f,b,cond_true];rfl
  · rename_i t A v
    cases e:Z3 tt t with
    | none=>rw [e] at h;cases h
    | some l =>
      rw [e] at h
      simp only [] at h ⊢
      split at h
      · rename_i k off i
        cases c:Yq L v with
        | none=>rw [c] at h;cases h
        | some j =>
          rw [c] at h
          simp only [] at h ⊢
          cases f:Ug j with
          | none=>rw [f] at h;cases h
          | some m =>
            rw [f] at h
            simp only [] at h ⊢
            split at h
            · rename_i cs B r
              cases b:(Nat.beq m.length l.sz && Nat.ble (off+m.length) cs.length) with
              | false=>rw [b] at h;cases h
              | true =>
                rw [b] at h
                simp only [cond_true] at h ⊢
                cases dst with
                | some x=>cases h
                | none =>
                  cases h
                  refine ⟨?_,rfl⟩;simp only [e,i,c,f,r,b,cond_true];rfl
            · cases h
      · cases h
  · rename_i u y z
    cases c:Gc tt ⟨L,M,V,nx⟩ p with
    | none=>rw [c] at h;cases h
    | some v =>
      rw [c] at h
      simp only [] at h
      cases dst with
      | none=>cases h
      | some x =>
        simp only [] at h
        cases b:Nat.blt x n with
        | false=>rw [b] at h;cases h
        | true =>
          rw [b] at h;cases h
          refine ⟨?_,rfl⟩
          split
          · exact (u _ rfl).elim
          · exact (y _ _ rfl).elim
          · exact (z _ _ _ rfl).elim
          · simp only [c,b,cond_true];rfl
theorem WP.scope {X:Ctx} {s:St} {k:List Item} {c:Code} (h:WP X (.code c::.inScope c::k) s):WP X (.code (.scope c)::k) s :=
 fun E F w a b=>Runs.head (fun _ _ _ _=>.one step_scope) (h E F w a b)
theorem WP.inScope {X:Ctx} {s:St} {k:List Item} {c:Code} (h:WP X k s):WP X (.inScope c::k) s :=
 fun E F w a b=>Runs.head (fun _ _ _ _=>.one step_inScope) (h E F w a b)
def a1 (tt:List (Nat × TD)) (nt:Nat):Cf->Cf
 | .co k s=>match k with
  | .inBlock _::k'=>.co k' s
  | .inScope _::k'=>.co k' s
  | .code c::k'=>match c with
   | .seq x y=>.co (.code x::.code y::k') s
   | .skip=>.co k' s
   | .label _=>.co k' s
   | .block id x=>.co (.code x::.inBlock id::k') s
   | .scope x=>.co (.code x::.inScope x::k') s
   | .exit id=>match exitTo id k' with
    | some k2=>.co k2 s
    | none=>.no
   | .region id ops dr=>match dr with
    | true=>.rg (some (id,s,[])) ops 0 k' s
    | false=>.rg none ops 0 k' s
   | .cond x y z=>match x with
    | .tmp d=>match Z3 s.L d with
     | some (.c (.b t))=>match t with
      | true=>.co (.code y::k') s
      | false=>.co (.code z::k') s
     | _=>.no
    | .const (.bool t)=>match t with
     | true=>.co (.code y::k') s
     | false=>.co (.code z::k') s
    | _=>.no
   | _=>.no
  | _=>.no
 | .rg m ops i k s=>match ops[i]? with
  | none=>match m with
   | none=>bif Nat.beq i ops.size then .co k s else .no
   | some _=>.no
  | some o=>match YJ ops (TR m ops o s).L o with
   | some true=>match Zer tt nt o (TR m ops o s) with
    | some d=>Ga m ops i k s (TR m ops o s) d
    | none=>.no
   | some false=>match o.dst with
    | some d=>bif Nat.blt d nt then Ga m ops i k s (TR m ops o s) ⟨[(d,.u)],[],[],0⟩ else .no
    | none=>.no
   | none=>.no
 | .no=>.no
def Wo (tt:List (Nat × TD)) (nt:Nat):Nat->Cf->Cf
 | 0,c=>c
 | n+1,c=>Wo tt nt n (a1 tt nt c)
theorem ZgI (htt:TTOk X.P tt) {c:Cf} (h:Wc X (a1 tt X.fn.ntmps c)):Wc X c:=by
 unfold a1 at h
 split at h
 ·split at h
  ·exact ⟨WP.inBlock h.1⟩
  ·exact ⟨WP.inScope h.1⟩
  ·split at h
   ·exact ⟨WP.seq h.1⟩
   ·exact ⟨WP.skip h.1⟩
   ·exact ⟨WP.label h.1⟩
   ·exact ⟨WP.block h.1⟩
   ·exact ⟨WP.scope h.1⟩
   ·split at h
    ·rename_i p;exact ⟨WP.exit p h.1⟩
    ·exact h.1.elim
   ·split at h
    ·exact ⟨h.1 .nil rfl⟩
    ·refine ⟨WP.region ?_⟩
     have h:WPr X _ (List.range' 0 (_-0)) _ _:=h.1
     rw [List.range_eq_range'];exact h
   ·split at h
    ·split at h
     ·rename_i j
      split at h
      ·exact ⟨WP.condT rfl j h.1⟩
      ·exact ⟨WP.condF rfl j h.1⟩
     ·exact h.1.elim
    ·split at h
     ·exact ⟨WP.condCT h.1⟩
     ·exact ⟨WP.condCF h.1⟩
    ·exact h.1.elim
   ·exact h.1.elim
  ·exact h.1.elim
 ·rename_i m ops i k s
  split at h
  ·rename_i e
   split at h
   ·cases b:Nat.beq i ops.size with
    | false=>rw [b] at h;exact h.1.elim
    | true =>
     rw [b] at h
     refine ⟨?_⟩
     show WPr X ops (List.range' i (ops.size-i)) (rk X k) s
     rw [Zd b,Nat.sub_self]
     exact WPr.nil h.1
   ·exact h.1.elim
  ·rename_i o e
   split at h
   ·rename_i f
    split at h
    ·rename_i d g
     have ⟨l,n⟩:=Zsc g
     exact Zko e f n (fun nk E0 F0 w0 n0 Z=>Zsb (X:=X.var nk E0 F0 w0 n0 Z) htt l) h
    ·exact h.1.elim
   ·rename_i f
    split at h
    ·rename_i d g
     cases b:Nat.blt d X.fn.ntmps with
     | false=>rw [b] at h;exact h.1.elim
     | true=>rw [b] at h;exact Zsf e f g b h
    ·exact h.1.elim
   ·exact h.1.elim
 ·exact h.1.elim
theorem ZgJ (htt:TTOk X.P tt):∀ (n:Nat) {c:Cf},Wc X (Wo tt X.fn.ntmps n c)->Wc X c
 | 0,_,h=>h
 | n+1,_,h=>ZgI htt (ZgJ htt n h)
end
end
section
variable [LxP]
open Go
def VW (b:Nat) (s:ByteArray) (p:Nat):Ms where
 fp:=fun x=>x=b
 ok:=fun _ w=>w.heap[b]? = some (.stringIter s p)
 mono:=fun _ hb h=>by rw [hb b rfl];exact h
section
variable {X:Ctx} {s:St} {ops:Array Oper} {todo:Act->World->Prop} {tt:List (Nat × TD)}
theorem WPr.rng (htt:TTOk X.P tt) {i:Nat} {f:List Nat} {o:Oper} {t:TypeId} {r:TD} {x:Operand} {d:Nat} {m:ByteArray}
  (u:ops[i]? = some o) (y:YJ ops s.L o=some true) (n:o.op=.range t x) (z:o.dst=some d) (A:Z3 tt t=some r) (j:Nat.beq r.kd 2=true)
  (B:Yq s.L x=some (.c (.s m))) (C:Nat.blt d X.fn.ntmps=true)
  (D:∀ b,WPr X ops f todo ⟨(d,.c (.v (.pointer (some ⟨b,0,none⟩))))::s.L,(s.nx,.abs (VW b m 0))::s.M,s.V,s.nx+1⟩):WPr X ops (i::f) todo s:=by
 intro E F w a g
 simp only [wpOps,u,RV g y,if_true]
 have ⟨I,_⟩:=g.eval B
 have K:X.P.underlying t=some .string:=by
  have l:=(htt.get A).2.1
  have j:=Zd j
  unfold UJ at l
  split at l<;>simp_all
 have q:w.heap.size<=(w.alloc (.stringIter m 0)).heap.size:=by simp
 have N:=g.world (w':=w.alloc (.stringIter m 0)) rfl rfl .m q (fun b p=>heap_alloc_old w _ p)
 have l:=N.addM' (m:=.abs (VW w.heap.size m 0)) (heap_alloc_new w _) trivial (fun b p=>by
  have e:b=w.heap.size:=p
  subst e
  refine ⟨fun hF=>absurd (g.hF _ hF) (Nat.lt_irrefl _),fun hZ=>?_,by simp,fun k m' G H=>absurd (g.mF k m' G _ H).2.2 (Nat.lt_irrefl _)⟩
  have:=g.hZ _ hZ
  have:=g.ext.size
  omega) (fun h=>by cases h)
 refine .inl (Wx (w':=w.alloc (.stringIter m 0)) (v:=.pointer (some ⟨w.heap.size,0,none⟩)) ?_ (D w.heap.size E F _ _ ?_))
 ·simp only [execOp,n,I,Yj,Yd]
  refine Y9 ?_
  simp only [Instr.range,Sem.run_bind,Xm K,Result.andThen_ok,Sem.run_pure,run_newObj]
  rfl
 ·rw [z]
  exact l.setL (d:=d) (v:=.c (.v (.pointer (some ⟨w.heap.size,0,none⟩)))) (by first | trivial | rfl) (YZ C)
theorem WPr.nxtF {i:Nat} {e:List Nat} {o:Oper} {x:Operand} {d b p:Nat} (k:Nat) {m:ByteArray}
  (f:decide (p < m.size)=false) (l:ops[i]? = some o) (n:YJ ops s.L o=some true) (g:o.op=.next x true) (q:o.dst=some d)
  (r:Yq s.L x=some (.c (.v (.pointer (some ⟨b,0,none⟩))))) (u:Z3 s.M k=some (.abs (VW b m p))) (y:Nat.blt d X.fn.ntmps=true)
  (z:WPr X ops e todo ⟨(d,.t [.inl (.b false)])::s.L,s.M,s.V,s.nx⟩):WPr X ops (i::e) todo s:=by
 refine WPr.op l n (fun E F w a h=>?_) z
 have ⟨A,_⟩:=h.eval r
 have B:w.heap[b]? = some (.stringIter m p):=h.hM k _ u
 have f:¬ p < m.size:=of_decide_eq_false f
 refine Wx (w':=w) (v:=.tuple #[.bool false]) ?_ ⟨E,F,?_⟩
 ·simp only [execOp,g,A,Yj,Yd]
  refine Y9 ?_
  simp [Instr.next,getObj,Sem.run,B,f]
 ·rw [q]
  exact h.setL (d:=d) (v:=.t [.inl (.b false)]) (fun v j=>by simp at j;subst j;trivial) (YZ y)
theorem WPr.nxtT {i:Nat} {f:List Nat} {o:Oper} {x:Operand} {d b p:Nat} (k:Nat) {m:ByteArray}
  (g:decide (p < m.size)=true) (z:ops[i]? = some o) (A:YJ ops s.L o=some true) (j:o.op=.next x true) (B:o.dst=some d)
  (C:Yq s.L x=some (.c (.v (.pointer (some ⟨b,0,none⟩))))) (u:Z3 s.M k=some (.abs (VW b m p))) (D:Nat.blt d X.fn.ntmps=true)
  (G:WPr X ops f todo ⟨(d,.t [.inl (.b true),.inl (.i .i64 (p:Int)),.inl (.i .i32 ((Utf8.decode m p).1:Int))])::s.L,(k,.abs (VW b m (p+(Utf8.decode m p).2)))::s.M,s.V,s.nx⟩):WPr X ops (i::f) todo s:=by
 refine WPr.op z A (fun E F w a l=>?_) G
 have ⟨H,_⟩:=l.eval C
 have q:w.heap[b]? = some (.stringIter m p):=l.hM k _ u
 have g:p < m.size:=of_decide_eq_true g
 have r:b < w.heap.size:=by
  rcases Nat.lt_or_ge b w.heap.size with h | h
  ·exact h
  ·rw [Array.getElem?_eq_none h] at q;cases q
 have I:=l.setM (m':=.abs (VW b m (p+(Utf8.decode m p).2))) (w':={ w with heap:=w.heap.setIfInBounds b (.stringIter m (p+(Utf8.decode m p).2)) }) u rfl rfl .m (by simp)
  (fun c K n=>by
   have:c≠b:=fun e=>n e
   simp only [Array.getElem?_setIfInBounds]
   rw [if_neg (fun e=>this e.symm)])
  (fun _ h=>h) (by
   show (w.heap.setIfInBounds b _)[b]? = _
   simp [r]) trivial (fun h=>by cases h)
 refine Wx (w':={ w with heap:=w.heap.setIfInBounds b (.stringIter m (p+(Utf8.decode m p).2)) }) (v:=.tuple #[.bool true,goInt (p:Int),.int .i32 ((Utf8.decode m p).1:Int)]) ?_ ⟨E,F,?_⟩
 ·simp only [execOp,j,H,Yj,Yd]
  refine Y9 ?_
  simp [Instr.next,getObj,setObj,Sem.run,q,g]
 ·rw [B]
  exact I.setL (d:=d) (v:=.t [.inl (.b true),.inl (.i .i64 (p:Int)),.inl (.i .i32 ((Utf8.decode m p).1:Int))]) (fun v y=>by
   simp at y
   rcases y with rfl | rfl | rfl<;>trivial) (YZ D)
end
end
section
variable [LxP]
section
variable {X:Ctx} {s:St} {tt:List (Nat × TD)} {ops:Array Oper} {todo:Act->World->Prop}
end
end
section
variable [LxP]
def Cf.ops:Cf->Array Oper
 | .rg _ o _ _ _=>o
 | _=>#[]
def Cf.i:Cf->Nat
 | .rg _ _ i _ _=>i
 | _=>0
def Cf.md:Cf->Option (Nat × St × List Ent)
 | .rg m _ _ _ _=>m
 | _=>none
def Cf.kk:Cf->List Item
 | .rg _ _ _ k _=>k
 | .co (_::k) _=>k
 | _=>[]
def Cf.st:Cf->St
 | .rg _ _ _ _ s=>s
 | .co _ s=>s
 | .no=>⟨[],[],[],0⟩
def Cf.isR:Cf->Bool
 | .rg _ _ _ _ _=>true
 | _=>false
def Z4 (c:Cf):Oper:=(c.ops[c.i]?).getD default
def Z8 (c:Cf):St:=TR c.md c.ops (Z4 c) c.st
def Xi (d:Dl) (c:Cf):Cf:=Ga c.md c.ops c.i c.kk c.st (Z8 c) d
def Su (c:Cf):Bool:=c.isR && (c.ops[c.i]?).isSome && (match YJ c.ops (Z8 c).L (Z4 c) with | some b=>b | none=>false)
def YI (c:Cf):Nat:=(Z4 c).dst.getD 0
def U7 (s:St):List Nat->List (Nat × MO) × List (Nat × VF)
 | []=>([],[])
 | k::r=>match Z3 s.M k with
  | some (.own R xs _)=>match U7 s r with
   | q=>((k,.gone)::q.1,(k,.sl R xs)::q.2)
  | _=>([],[])
def Yv (s:St) (fz:List Nat):St:=⟨s.L,(U7 s fz).1++s.M,(U7 s fz).2++s.V,s.nx⟩
def Sq (s:St) (fz:List Nat):Bool:=X5 fz && fz.all fun k=>match Z3 s.M k with
 | some (.own _ _ fr)=>fr
 | _=>false
def Dl.fz (d:Dl) (s:St) (fz:List Nat):Dl:=⟨d.dL,d.dM++(U7 s fz).1,d.dV++(U7 s fz).2,d.n⟩
theorem Dl.fz_ap (d:Dl) (s:St) (fz:List Nat):(d.fz s fz).ap s=d.ap (Yv s fz):=by
 simp [Dl.fz,Dl.ap,Yv]
theorem Zh7 {s:St} {k:Nat}:∀ {fz:List Nat},k ∉ fz->Z3 (U7 s fz).1 k=none
 | [],_=>rfl
 | j::r,h=>by
  unfold U7
  split
  ·simp only []
   rw [YC,if_neg fun e=>h (by rw [e];exact Zk)]
   exact Zh7 fun b=>h (Zj _ b)
  ·rfl
theorem Zdr {X:Ctx} {s:St} {E F w a} (i:Sat X s E F w a):∀ {fz:List Nat},Sq s fz=true->∃ m,Sat X (Yv s fz) E m w a
 | [],_=>⟨F,i⟩
 | k::r,h=>by
  unfold Sq at h
  simp only [Zc,List.all_cons] at h
  have ⟨c,d,l⟩:=h
  have j:k ∉ r/\X5 r=true:=by
   have:=Pj c
   rw [List.nodup_cons] at this
   refine ⟨this.1,?_⟩
   unfold X5 at c
   rw [Zc] at c
   exact c.2
  have ⟨F1,f⟩:=Zdr i (fz:=r) (by unfold Sq;rw [Zc];exact ⟨j.2,l⟩)
  split at d
  ·rename_i α R xs fr hm
   subst d
   have g:Z3 (Yv s r).M k=some (.own R xs true):=by
    show Z3 ((U7 s r).1++s.M) k=_
    rw [X3,Zh7 j.1];exact hm
   refine ⟨fun b=>F1 b\/YQ (E.ρ k)=some b,?_⟩
   have:=f.freeze g
   have e:U7 s (k::r)=((k,.gone)::(U7 s r).1,(k,.sl R xs)::(U7 s r).2):=by
    conv=>lhs;unfold U7
    rw [hm]
   unfold Yv
   rw [e]
   exact this
  ·cases d
section
variable {X:Ctx} {tt:List (Nat × TD)}
theorem Stp.of {ops:Array Oper} {i:Nat} {o:Oper} {s d:St} (m:ops[i]? = some o) (n:YJ ops s.L o=some true) (r:∀ K,WPr X ops [] K d->WPr X ops [i] K s) :
  ∀ E F w a,Sat X s E F w a->o.wp X.P a w (fun f w'=>∃ k l,Sat X d k l w' f) (fun _ _ _=>False):=fun E F w a c=>by
 have h:=r (fun f w'=>∃ k l,Sat X d k l w' f) (fun E F w a c=>⟨rfl,E,F,c⟩) E F w a c
 have j:=RV c n
 simp only [wpOps,m,j,if_true] at h
 rcases h with h | ⟨_,h⟩
 ·unfold Oper.wp at h ⊢
  unfold Oper.upon at h ⊢
  split at h
  ·exact h.2
  ·exact h.2
  ·exact h.2
  ·refine Calls.mono h fun e w' b=>?_
   split at b
   ·exact b.2
   ·cases b.1
   ·have ⟨a1,p,g⟩:=b;cases g.1
  ·exact Rows.mono h fun v w' b=>b.2
  ·cases h.1
  ·exact h.elim
 ·have ⟨a1,p,g⟩:=h;cases g.1
theorem Wc.ev {c:Cf} {d:Dl} (g:Su c=true) (q:d.dL.map (·.1)=(Z4 c).dst.toList)
    (r:∀ nk E0 F0 w0 n0 Z e K,c.ops[c.i]? = some (Z4 c)->YJ c.ops (Z8 c).L (Z4 c)=some true->WPr (X.var nk E0 F0 w0 n0 Z) c.ops e K (d.ap (Z8 c))->WPr (X.var nk E0 F0 w0 n0 Z) c.ops (c.i::e) K (Z8 c))
    (k:Wc X (Xi d c)):Wc X c:=by
  unfold Su at g
  rw [Zc,Zc] at g
  obtain ⟨⟨n,t⟩,h⟩:=g
  cases c with
  | co k s=>cases n
  | no=>cases n
  | rg m ops i l s =>
    have f:ops[i]? = some (Z4 (.rg m ops i l s)):=by
      have ⟨o,f⟩:=Option.isSome_iff_exists.1 t
      have f:ops[i]? = some o:=f
      unfold Z4
      show _=some ((ops[i]?).getD default)
      rw [f];rfl
    have j:YJ ops (Z8 (.rg m ops i l s)).L (Z4 (.rg m ops i l s))=some true:=by
      split at h
      · rename_i b p;rw [h] at p;exact p
      · cases h
    exact Zko f j q (fun nk E0 F0 w0 n0 Z=>Stp.of (X:=X.var nk E0 F0 w0 n0 Z) f j (fun K=>r nk E0 F0 w0 n0 Z [] K f j)) k
theorem Wc.evz {c:Cf} {d:Dl} (fz:List Nat) (f:Su c=true) (g:Sq (Z8 c) fz=true) (j:d.dL.map (·.1)=(Z4 c).dst.toList)
    (r:∀ nk E0 F0 w0 n0 Z b K,c.ops[c.i]? = some (Z4 c)->YJ c.ops (Yv (Z8 c) fz).L (Z4 c)=some true->WPr (X.var nk E0 F0 w0 n0 Z) c.ops b K (d.ap (Yv (Z8 c) fz))->WPr (X.var nk E0 F0 w0 n0 Z) c.ops (c.i::b) K (Yv (Z8 c) fz))
    (k:Wc X (Xi (d.fz (Z8 c) fz) c)):Wc X c:=by
  refine Wc.ev (d:=d.fz (Z8 c) fz) f j (fun nk E0 F0 w0 n0 Z b K l m h=>?_) k
  rw [Dl.fz_ap] at h
  have:=r nk E0 F0 w0 n0 Z b K l m h
  intro E F w a o
  have ⟨n,e⟩:=Zdr o g
  exact this E n w a e
def Yu:Op->Nat->Operand
 | .indexAddr _ x y,j | .index _ x y,j | .store _ x y,j | .binOp _ _ x y _,j | .makeSlice _ x y,j=>match j with
  | 0=>x
  | _=>y
 | .load _ x,_ | .slice _ x _ _ _,_ | .convert _ _ x,_ | .range _ x,_ | .next x _,_=>x
 | .call c,j=>(c.args.toList[j]?).getD (.const (.bool true))
 | _,_=>.const (.bool true)
def Yg:Op->TypeId
 | .indexAddr t _ _ | .index t _ _ | .store t _ _ | .binOp _ t _ _ _ | .makeSlice t _ _ | .load t _ | .slice t _ _ _ _ | .convert t _ _ | .range t _ | .buildSlice t _ _=>t
 | .call c=>(c.argTypes.toList[0]?).getD 0
 | _=>0
def Xv:Op->TypeId
 | .convert _ t _ | .binOp _ _ _ _ t=>t
 | .call c=>(c.argTypes.toList[1]?).getD 0
 | _=>0
def U9:Op->Option Operand
 | .slice _ _ l _ _=>l
 | _=>none
def U8:Op->Option Operand
 | .slice _ _ _ h _=>h
 | _=>none
def U2:Op->Operand
 | .call c=>match c.callee with
  | .value f=>f
  | _=>.const (.bool true)
 | _=>.const (.bool true)
def Mx:Op->Array Operand
 | .call c=>c.args
 | _=>#[]
def Ld:Op->Array TypeId
 | .call c=>c.argTypes
 | _=>#[]
def UK:Op->Nat
 | .buildSlice _ n _=>n
 | _=>0
def MX:Op->Array (Nat × Operand)
 | .buildSlice _ _ p=>p
 | _=>#[]
def Z9 (c:Cf) (j:Nat):Option SV:=Yq (Z8 c).L (Yu (Z4 c).op j)
def Yx (tt:List (Nat × TD)) (t:TypeId):TD:=(Z3 tt t).getD ⟨0,0,false,[],[],0,0,0,none,0,0⟩
def Yr:Option SV->Nat
 | some (.c (.sl k)) | some (.c (.px k _)) | some (.c (.bp k _))=>k
 | _=>0
def Ws:Option SV->Nat
 | some (.c (.px _ o)) | some (.c (.bp _ o))=>o
 | _=>0
def TM:Option SV->IntKind
 | some (.c (.i k _))=>k
 | _=>.i64
def VT:Option SV->SC
 | some (.c x)=>x
 | _=>.nil
def Sj:Option SV->List SC
 | some (.a cs)=>cs
 | _=>[]
def Gb:Option SV->SV
 | some v=>v
 | none=>.u
def RR (v:Option SV):List SC:=((Ug (Gb v)).getD [])
def Zkq:Option SV->ByteArray
 | some (.c (.s m))=>m
 | _=>⟨#[]⟩
def Wa:Option MO->Bool
 | some (.own _ _ fr)=>fr
 | _=>false
def XJ:Option VF->Nat
 | some (.el k _)=>k
 | some (.vw k _ _ _)=>k
 | _=>0
structure SlF:Type 1 where
 {α:Type}
 R:TRep α
 xs:List α
def HC (s:St):SC->Option SlF
 | .sl k=>match Z3 s.M k with
  | some (.own R xs _)=>some ⟨R,xs⟩
  | _=>match Z3 s.V k with
   | some (.sl R xs)=>some ⟨R,xs⟩
   | _=>none
 | _=>none
theorem Zg6 {s:St} {c:SC} {α:Type} {R:TRep α} {xs:List α} (h:HC s c=some ⟨R,xs⟩):∃ k,c=.sl k/\(Z3 s.V k=some (.sl R xs)\/∃ fr,Z3 s.M k=some (.own R xs fr)):=by
 unfold HC at h
 split at h
 ·rename_i k
  refine ⟨k,rfl,?_⟩
  split at h
  ·rename_i b;cases h;exact .inr ⟨_,b⟩
  ·split at h
   ·rename_i d;cases h;exact .inl d
   ·cases h
 ·cases h
theorem ZmR {s:St} {c:SC} {α:Type} {R:TRep α} {xs:List α} (h:HC s c=some ⟨R,xs⟩):Sh X s R xs c:=by
 obtain ⟨k,rfl,h | ⟨fr,h⟩⟩:=Zg6 h
 ·exact Zss h
 ·exact Zkk h
def d1 (c:Cf) (v:SV):Dl:=⟨[(YI c,v)],[],[],0⟩
theorem Xo {c:Cf} {L:List (Nat × SV)} {v:SV} (h:(Z4 c).dst=some (YI c)) (b:L=[(YI c,v)]):L.map (·.1)=(Z4 c).dst.toList:=by rw [b,h];rfl
def hB (nt:Nat) (c:Cf):Bool:=Su c && Nat.blt (YI c) nt
def TO (tt:List (Nat × TD)) (sz:Nat) (c:Cf):Bool:=Nat.beq (Yx tt (Yg (Z4 c).op)).kd 6 && Nat.beq (Yx tt (Yg (Z4 c).op)).es sz
theorem Xl {b:Nat} {c:Cf} (h:hB b c=true):Su c=true/\Nat.blt (YI c) b=true:=by
 unfold hB at h;rwa [Zc] at h
theorem Rq {sz b:Nat} {c:Cf} (h:TO tt sz c=true) (d:Nat.blt (YI c) b=true):(Nat.blt (YI c) b && Nat.beq (Yx tt (Yg (Z4 c).op)).kd 6 && Nat.beq (Yx tt (Yg (Z4 c).op)).es sz)=true:=by
 unfold TO at h;rw [Bool.and_assoc,h,d];rfl
def M8 {α:Type} (s:St) (ys:List α) (c:SC):Option SlF × ULift.{1,0} (List α):=match c with
 | .nil=>(none,⟨ys⟩)
 | c=>(HC s c,⟨[]⟩)
def M9 {α:Type} (R:TRep α) (ys:List α) (c:SC):Option SlF × ULift.{1,0} (List α):=match c with
 | .nil=>(none,⟨[]⟩)
 | _=>(some ⟨R,ys⟩,⟨[]⟩)
theorem Zax {α:Type} {R:TRep α} {s:St} {ys:List α} {c:SC} (h:M8 s ys c=M9 R ys c):Sh X s R ys c:=by
 unfold M8 at h
 split at h
 ·have:=congrArg ULift.down (Prod.mk.inj h).2
  have h:ys=[]:=this
  rw [h];exact Zst
 ·rename_i b
  unfold M9 at h
  split at h
  ·exact (b rfl).elim
  ·exact ZmR (Prod.mk.inj h).1
def H4 {α:Type} {R:TRep α} (O:YU R) (V:Nat->Option VF):List α->List SC->List O.T
 | [],_=>[]
 | x::xs,cs=>O.lq V x (cs.take R.sz)::H4 O V xs (cs.drop R.sz)
def H5 {α:Type} {R:TRep α} (O:YU R) (V:Nat->Option VF):List α->List SC->List O.T
 | [],_=>[]
 | x::xs,cs=>O.rq V x (cs.take R.sz)::H5 O V xs (cs.drop R.sz)
def H3 (sz:Nat) {α:Type}:List α->List SC->List SC
 | [],cs=>cs
 | _::xs,cs=>H3 sz xs (cs.drop sz)
theorem Zar {α:Type} {R:TRep α} {O:YU R} {V:Nat->Option VF}:∀ {xs:List α} {cs:List SC},H4 O V xs cs=H5 O V xs cs->H3 R.sz xs cs=[]->ME O V xs cs
 | [],_,_,h=>h
 | _::_,_,h,g=>⟨O.eqn (List.cons.inj h).1,Zar (List.cons.inj h).2 g⟩
def Zi2:Op->Bool
 | .binOp .neq _ _ _ _=>true
 | _=>false
def Bo:Option SV->List Nat
 | some (.c (.cl _ fs _))=>fs
 | _=>[]
def MF:Option SV->List Nat
 | some (.c (.cl _ _ ks))=>ks
 | _=>[]
def ZmI (s:St) (c:Ct) (l:List (Nat × SC)) (d:Nat):Dl :=
 ⟨[(d,WY ⟨l,c.nk,s.nx⟩ c.res)],c.M1.filterMap fun p=>(Vt ⟨l,c.nk,s.nx⟩ p.1 p.2).map fun j=>(j,UZ s ⟨l,c.nk,s.nx⟩ (Rb s ⟨l,c.nk,s.nx⟩ c) c.nk p.1 p.2),c.V1.map fun p=>((⟨l,c.nk,s.nx⟩:Ren).sh p.1,p.2),c.nr-c.nk⟩
def Br {α:Type} {R:TRep α} (O:YU R) (e:α) (c:Cf):Dl:=⟨[(YI c,.c (.px (Z8 c).nx 0))],[],O.facts ((Z8 c).nx+1) e++[((Z8 c).nx,.pl (O.cells ((Z8 c).nx+1) e))],1+O.nk⟩
def nIx {α:Type} {R:TRep α} (O:YU R) (e:α) (c:Cf):Cf:=Xi (Br O e c) c
theorem Yc {α:Type} {R:TRep α} {xs:List α} {m:Int} {e:α} {c:Cf} (htt:TTOk X.P tt) (O:YU R) (hi:Z5 xs m=some e) (k:Wc X (nIx O e c))
  (b:(hB X.fn.ntmps c,(Z4 c).dst,(Z4 c).op,Z9 c 0,Z3 (Z8 c).V (Yr (Z9 c 0)),Z9 c 1,Z3 tt (Yg (Z4 c).op),TO tt R.sz c)=(true,some (YI c),.indexAddr (Yg (Z4 c).op) (Yu (Z4 c).op 0) (Yu (Z4 c).op 1),some (.c (.sl (Yr (Z9 c 0)))),some (.sl R xs),some (.c (.i (TM (Z9 c 1)) m)),some (Yx tt (Yg (Z4 c).op)),true):=by kernel_rfl):Wc X c:=by
 simp only [Zq] at b
 have ⟨n,g,o,p,q,r,t,u⟩:=b
 have ⟨v,x⟩:=Xl n
 refine Wc.ev (d:=Br O e c) v (Xo g rfl) (fun nk E0 F0 w0 n0 Z f K j l h=>WPr.ix (X:=X.var nk E0 F0 w0 n0 Z) O htt hi j l o g p q r t (Rq u x) ?_) k
 have y:(Br O e c).ap (Z8 c)=⟨(YI c,.c (.px (Z8 c).nx 0))::(Z8 c).L,(Z8 c).M,O.facts ((Z8 c).nx+1) e++((Z8 c).nx,.pl (O.cells ((Z8 c).nx+1) e))::(Z8 c).V,(Z8 c).nx+1+O.nk⟩:=by
  simp [Br,Dl.ap,Nat.add_assoc]
 rw [<- y];exact h
def dIo (m:Int) (sz:Nat) (c:Cf):Dl:=⟨[(YI c,.c (.px (Z8 c).nx 0))],[],[((Z8 c).nx,.el (Yr (Z9 c 0)) (m.toNat * sz))],1⟩
def nIo (m:Int) (sz:Nat) (c:Cf):Cf:=Xi (dIo m sz c) c
theorem YB {α:Type} {xs:List α} {m:Int} {e:α} {c:Cf} (htt:TTOk X.P tt) (R:TRep α) (hi:Z5 xs m=some e) (k:Wc X (nIo m R.sz c))
  (b:(hB X.fn.ntmps c,(Z4 c).dst,(Z4 c).op,Z9 c 0,Z3 (Z8 c).M (Yr (Z9 c 0)),Z9 c 1,Z3 tt (Yg (Z4 c).op),TO tt R.sz c)=(true,some (YI c),.indexAddr (Yg (Z4 c).op) (Yu (Z4 c).op 0) (Yu (Z4 c).op 1),some (.c (.sl (Yr (Z9 c 0)))),some (.own R xs (Wa (Z3 (Z8 c).M (Yr (Z9 c 0))))),some (.c (.i (TM (Z9 c 1)) m)),some (Yx tt (Yg (Z4 c).op)),true):=by kernel_rfl):Wc X c:=by
 simp only [Zq] at b
 have ⟨n,g,o,p,q,r,t,u⟩:=b
 have ⟨v,x⟩:=Xl n
 refine Wc.ev (d:=dIo m R.sz c) v (Xo g rfl) (fun nk E0 F0 w0 n0 Z f K j l h=>WPr.ixo (X:=X.var nk E0 F0 w0 n0 Z) htt hi j l o g p q r t (Rq u x) h) k
def dLd {α:Type} {R:TRep α} (O:YU R) (e:α) (tt:List (Nat × TD)) (c:Cf):Dl:=⟨[(YI c,Gb (Ta (Yx tt (Yg (Z4 c).op)) (Ws (Z9 c 0)) (O.cells (Z8 c).nx e)))],[],O.facts (Z8 c).nx e,O.nk⟩
def nLd {α:Type} {R:TRep α} (O:YU R) (e:α) (tt:List (Nat × TD)) (c:Cf):Cf:=Xi (dLd O e tt c) c
theorem Y1 {α:Type} {R:TRep α} {xs:List α} {m:Int} {e:α} {c:Cf} (htt:TTOk X.P tt) (O:YU R) (hi:Z5 xs m=some e) (k:Wc X (nLd O e tt c))
  (b:(hB X.fn.ntmps c,(Z4 c).dst,(Z4 c).op,Z9 c 0,Z3 (Z8 c).V (Yr (Z9 c 0)),Z3 (Z8 c).M (XJ (Z3 (Z8 c).V (Yr (Z9 c 0)))),Z3 tt (Yg (Z4 c).op),Ta (Yx tt (Yg (Z4 c).op)) (Ws (Z9 c 0)) (O.cells (Z8 c).nx e))=(true,some (YI c),.load (Yg (Z4 c).op) (Yu (Z4 c).op 0),some (.c (.px (Yr (Z9 c 0)) (Ws (Z9 c 0)))),some (.el (XJ (Z3 (Z8 c).V (Yr (Z9 c 0)))) (m.toNat * R.sz)),some (.own R xs (Wa (Z3 (Z8 c).M (XJ (Z3 (Z8 c).V (Yr (Z9 c 0))))))),some (Yx tt (Yg (Z4 c).op)),some (Gb (Ta (Yx tt (Yg (Z4 c).op)) (Ws (Z9 c 0)) (O.cells (Z8 c).nx e)))):=by kernel_rfl):Wc X c:=by
 simp only [Zq] at b
 have ⟨l,g,n,o,p,q,r,t⟩:=b
 have ⟨u,v⟩:=Xl l
 refine Wc.ev (d:=dLd O e tt c) u (Xo g rfl) (fun nk E0 F0 w0 n0 Z f K i j h=>WPr.ldo (X:=X.var nk E0 F0 w0 n0 Z) O htt hi i j n g o p q r t v h) k
def dSt {α:Type} (R:TRep α) (xs:List α) (m:Int) (e2:α) (fz:List Nat) (c:Cf):Dl:=⟨[],[((XJ (Z3 (Yv (Z8 c) fz).V (Yr (Yq (Yv (Z8 c) fz).L (Yu (Z4 c).op 0))))),.own R (YA xs m e2) (Wa (Z3 (Yv (Z8 c) fz).M (XJ (Z3 (Yv (Z8 c) fz).V (Yr (Yq (Yv (Z8 c) fz).L (Yu (Z4 c).op 0))))))))],[],0⟩
def nSt {α:Type} (R:TRep α) (xs:List α) (m:Int) (e2:α) (fz:List Nat) (c:Cf):Cf:=Xi ((dSt R xs m e2 fz c).fz (Z8 c) fz) c
theorem XS {α:Type} {R:TRep α} {xs:List α} {m:Int} {e:α} {c:Cf} (htt:TTOk X.P tt) (fz:List Nat) (O:YU R) (b:α) (hi:Z5 xs m=some e) (k:Wc X (nSt R xs m b fz c))
  (j:(Su c,(Z4 c).dst,Sq (Z8 c) fz,(Z4 c).op,(Yq (Yv (Z8 c) fz).L (Yu (Z4 c).op 0)),Z3 (Yv (Z8 c) fz).V (Yr (Yq (Yv (Z8 c) fz).L (Yu (Z4 c).op 0))),Z3 (Yv (Z8 c) fz).M (XJ (Z3 (Yv (Z8 c) fz).V (Yr (Yq (Yv (Z8 c) fz).L (Yu (Z4 c).op 0))))),Z3 tt (Yg (Z4 c).op),(Yq (Yv (Z8 c) fz).L (Yu (Z4 c).op 1)),Ug (Gb (Yq (Yv (Z8 c) fz).L (Yu (Z4 c).op 1))),O.lq (Z3 (Yv (Z8 c) fz).V) b ((O.cells (Yv (Z8 c) fz).nx e).take (Ws (Yq (Yv (Z8 c) fz).L (Yu (Z4 c).op 0)))++(RR (Yq (Yv (Z8 c) fz).L (Yu (Z4 c).op 1)))++(O.cells (Yv (Z8 c) fz).nx e).drop ((Ws (Yq (Yv (Z8 c) fz).L (Yu (Z4 c).op 0)))+(RR (Yq (Yv (Z8 c) fz).L (Yu (Z4 c).op 1))).length)),(Nat.beq (RR (Yq (Yv (Z8 c) fz).L (Yu (Z4 c).op 1))).length (Yx tt (Yg (Z4 c).op)).sz && Nat.ble ((Ws (Yq (Yv (Z8 c) fz).L (Yu (Z4 c).op 0)))+(RR (Yq (Yv (Z8 c) fz).L (Yu (Z4 c).op 1))).length) R.sz && (Nat.beq (RR (Yq (Yv (Z8 c) fz).L (Yu (Z4 c).op 1))).length R.sz || Nat.beq O.nk 0)))=(true,none,true,.store (Yg (Z4 c).op) (Yu (Z4 c).op 0) (Yu (Z4 c).op 1),some (.c (.px (Yr (Yq (Yv (Z8 c) fz).L (Yu (Z4 c).op 0))) (Ws (Yq (Yv (Z8 c) fz).L (Yu (Z4 c).op 0))))),some (.el (XJ (Z3 (Yv (Z8 c) fz).V (Yr (Yq (Yv (Z8 c) fz).L (Yu (Z4 c).op 0))))) (m.toNat * R.sz)),some (.own R xs (Wa (Z3 (Yv (Z8 c) fz).M (XJ (Z3 (Yv (Z8 c) fz).V (Yr (Yq (Yv (Z8 c) fz).L (Yu (Z4 c).op 0)))))))),some (Yx tt (Yg (Z4 c).op)),some (Gb (Yq (Yv (Z8 c) fz).L (Yu (Z4 c).op 1))),some (RR (Yq (Yv (Z8 c) fz).L (Yu (Z4 c).op 1))),O.rq (Z3 (Yv (Z8 c) fz).V) b ((O.cells (Yv (Z8 c) fz).nx e).take (Ws (Yq (Yv (Z8 c) fz).L (Yu (Z4 c).op 0)))++(RR (Yq (Yv (Z8 c) fz).L (Yu (Z4 c).op 1)))++(O.cells (Yv (Z8 c) fz).nx e).drop ((Ws (Yq (Yv (Z8 c) fz).L (Yu (Z4 c).op 0)))+(RR (Yq (Yv (Z8 c) fz).L (Yu (Z4 c).op 1))).length)),true):=by kernel_rfl):Wc X c:=by
 simp only [Zq] at j
 have ⟨q,n,r,t,u,v,x,y,z,f,g,i⟩:=j
 have A:=q
 refine Wc.evz (d:=dSt R xs m b fz c) fz A r (by rw [n];rfl) (fun nk E0 F0 w0 n0 Z l K o p h=>WPr.sto (X:=X.var nk E0 F0 w0 n0 Z) O htt b hi o p t n u v x y z f (O.eqn g) i h) k
def dAp {α:Type} (R:TRep α) (zs:List α) (c:Cf):Dl:=⟨[(YI c,.c (.sl (Z8 c).nx))],[((Z8 c).nx,.own R zs (Wa (Z3 (Z8 c).M (Yr (Z9 c 0))))),((Yr (Z9 c 0)),.gone)],[],1⟩
def nAp {α:Type} (R:TRep α) (zs:List α) (c:Cf):Cf:=Xi (dAp R zs c) c
theorem Xc {α:Type} {xs ys zs:List α} {c:Cf} (htt:TTOk X.P tt) (R:TRep α) (i:YT xs ys=some zs) (k:Wc X (nAp R zs c))
  (e:(hB X.fn.ntmps c,(Z4 c).dst,(Z4 c).op,Z9 c 0,Z3 (Z8 c).M (Yr (Z9 c 0)),Z9 c 1,Z3 tt (Yg (Z4 c).op),Z3 tt (Xv (Z4 c).op),(Nat.beq (Yx tt (Yg (Z4 c).op)).kd 6 && (Nat.beq (Yx tt (Xv (Z4 c).op)).kd 6 || Nat.beq (Yx tt (Xv (Z4 c).op)).kd 2) && Nat.beq (Yx tt (Yg (Z4 c).op)).es R.sz && Nat.ble (Yx tt (Yg (Z4 c).op)).eb 32768),M8 (Z8 c) ys (VT (Z9 c 1)))=(true,some (YI c),.call { callee:=.builtin .append,args:=#[Yu (Z4 c).op 0,Yu (Z4 c).op 1],argTypes:=#[Yg (Z4 c).op,Xv (Z4 c).op] },some (.c (.sl (Yr (Z9 c 0)))),some (.own R xs (Wa (Z3 (Z8 c).M (Yr (Z9 c 0))))),some (.c (VT (Z9 c 1))),some (Yx tt (Yg (Z4 c).op)),some (Yx tt (Xv (Z4 c).op)),true,M9 R ys (VT (Z9 c 1))):=by kernel_rfl):Wc X c:=by
 simp only [Zq] at e
 have ⟨m,g,n,o,p,q,r,t,u,b⟩:=e
 have ⟨v,x⟩:=Xl m
 refine Wc.ev (d:=dAp R zs c) v (Xo g rfl) (fun nk E0 F0 w0 n0 Z f K j l h=>WPr.app (X:=X.var nk E0 F0 w0 n0 Z) htt i (Zax b) j l n g o p q r t (by rw [x];simpa using u) h) k
def dBs {α:Type} (R:TRep α) (xs:List α) (fz:List Nat) (c:Cf):Dl:=⟨[(YI c,.c (.sl (Yv (Z8 c) fz).nx))],[((Yv (Z8 c) fz).nx,.own R xs true)],[],1⟩
def nBs {α:Type} (R:TRep α) (xs:List α) (fz:List Nat) (c:Cf):Cf:=Xi ((dBs R xs fz c).fz (Z8 c) fz) c
theorem YS {α:Type} {R:TRep α} {c:Cf} (htt:TTOk X.P tt) (fz:List Nat) (O:YU R) (xs:List α) (k:Wc X (nBs R xs fz c))
  (e:(hB X.fn.ntmps c,(Z4 c).dst,Sq (Z8 c) fz,(Z4 c).op,Z3 tt (Yg (Z4 c).op),Z3 tt (Yx tt (Yg (Z4 c).op)).el,(Uc (VC (Yx tt (Yg (Z4 c).op)).es (UK (Z4 c).op)) (Yv (Z8 c) fz).L (MX (Z4 c).op).toList (Tw (Yx tt (Yx tt (Yg (Z4 c).op)).el).z (UK (Z4 c).op * (Yx tt (Yg (Z4 c).op)).es))),H4 O (Z3 (Yv (Z8 c) fz).V) xs ((Uc (VC (Yx tt (Yg (Z4 c).op)).es (UK (Z4 c).op)) (Yv (Z8 c) fz).L (MX (Z4 c).op).toList (Tw (Yx tt (Yx tt (Yg (Z4 c).op)).el).z (UK (Z4 c).op * (Yx tt (Yg (Z4 c).op)).es))).getD []),H3 R.sz xs ((Uc (VC (Yx tt (Yg (Z4 c).op)).es (UK (Z4 c).op)) (Yv (Z8 c) fz).L (MX (Z4 c).op).toList (Tw (Yx tt (Yx tt (Yg (Z4 c).op)).el).z (UK (Z4 c).op * (Yx tt (Yg (Z4 c).op)).es))).getD []),(Nat.beq (Yx tt (Yg (Z4 c).op)).kd 6 && Nat.beq (Yx tt (Yg (Z4 c).op)).es R.sz && Nat.beq xs.length (UK (Z4 c).op) && Nat.ble (UK (Z4 c).op * (Yx tt (Yg (Z4 c).op)).es) 16777216 && !(Yx tt (Yx tt (Yg (Z4 c).op)).el).z.isEmpty))=(true,some (YI c),true,.buildSlice (Yg (Z4 c).op) (UK (Z4 c).op) (MX (Z4 c).op),some (Yx tt (Yg (Z4 c).op)),some (Yx tt (Yx tt (Yg (Z4 c).op)).el),some ((Uc (VC (Yx tt (Yg (Z4 c).op)).es (UK (Z4 c).op)) (Yv (Z8 c) fz).L (MX (Z4 c).op).toList (Tw (Yx tt (Yx tt (Yg (Z4 c).op)).el).z (UK (Z4 c).op * (Yx tt (Yg (Z4 c).op)).es))).getD []),H5 O (Z3 (Yv (Z8 c) fz).V) xs ((Uc (VC (Yx tt (Yg (Z4 c).op)).es (UK (Z4 c).op)) (Yv (Z8 c) fz).L (MX (Z4 c).op).toList (Tw (Yx tt (Yx tt (Yg (Z4 c).op)).el).z (UK (Z4 c).op * (Yx tt (Yg (Z4 c).op)).es))).getD []),[],true):=by kernel_rfl):Wc X c:=by
 simp only [Zq] at e
 have ⟨l,g,m,n,o,p,q,r,t,b⟩:=e
 have ⟨u,v⟩:=Xl l
 refine Wc.evz (d:=dBs R xs fz c) fz u m (Xo g rfl) (fun nk E0 F0 w0 n0 Z f K i j h=>WPr.bs (X:=X.var nk E0 F0 w0 n0 Z) O htt xs i j n g o p q (Zar r t) (by rw [v];simpa using b) h) k
def dMk {α:Type} (R:TRep α) (xs:List α) (c:Cf):Dl:=⟨[(YI c,.c (.sl (Z8 c).nx))],[((Z8 c).nx,.own R xs true)],[],1⟩
def nMk {α:Type} (R:TRep α) (xs:List α) (c:Cf):Cf:=Xi (dMk R xs c) c
theorem Ur {α:Type} {R:TRep α} {z:α} {l m:Int} {xs:List α} {c:Cf} (htt:TTOk X.P tt) (O:YU R) (j:Xs z l m=some xs) (k:Wc X (nMk R xs c))
  (e:(hB X.fn.ntmps c,(Z4 c).dst,(Z4 c).op,Z3 tt (Yg (Z4 c).op),Z3 tt (Yx tt (Yg (Z4 c).op)).el,Z9 c 0,Z9 c 1,H4 O (Z3 (Z8 c).V) [z] (Yx tt (Yx tt (Yg (Z4 c).op)).el).z,H3 R.sz [z] (Yx tt (Yx tt (Yg (Z4 c).op)).el).z,(Nat.beq (Yx tt (Yg (Z4 c).op)).kd 6 && Nat.beq (Yx tt (Yg (Z4 c).op)).es R.sz && Nat.ble (Yx tt (Yg (Z4 c).op)).eb 32768 && !(Yx tt (Yx tt (Yg (Z4 c).op)).el).z.isEmpty))=(true,some (YI c),.makeSlice (Yg (Z4 c).op) (Yu (Z4 c).op 0) (Yu (Z4 c).op 1),some (Yx tt (Yg (Z4 c).op)),some (Yx tt (Yx tt (Yg (Z4 c).op)).el),some (.c (.i (TM (Z9 c 0)) l)),some (.c (.i (TM (Z9 c 1)) m)),H5 O (Z3 (Z8 c).V) [z] (Yx tt (Yx tt (Yg (Z4 c).op)).el).z,[],true):=by kernel_rfl):Wc X c:=by
 simp only [Zq] at e
 have ⟨p,g,q,r,t,u,v,x,y,b⟩:=e
 have ⟨A,B⟩:=Xl p
 refine Wc.ev (d:=dMk R xs c) A (Xo g rfl) (fun nk E0 F0 w0 n0 Z f K n o h=>WPr.mk (X:=X.var nk E0 F0 w0 n0 Z) O htt z j n o q g r t u v (Zar x y) (by rw [B];simpa using b) h) k
def dIs {α:Type} (R:TRep α) (zs:List α) (c:Cf):Dl:=⟨[(YI c,.c (.sl (Z8 c).nx))],[],[((Z8 c).nx,.sl R zs)],1⟩
def nIs {α:Type} (R:TRep α) (zs:List α) (c:Cf):Cf:=Xi (dIs R zs c) c
theorem eIs {α:Type} {xs zs:List α} {lo hi:Option Int} {c:Cf} (htt:TTOk X.P tt) (R:TRep α) (j:lsl xs lo hi=some zs) (k:Wc X (nIs R zs c))
    (f:(hB X.fn.ntmps c,(Z4 c).dst,(Z4 c).op,Z3 tt (Yg (Z4 c).op),Z9 c 0,Z3 (Z8 c).V (Yr (Z9 c 0)),Wp (Z8 c).L (U9 (Z4 c).op),Wp (Z8 c).L (U8 (Z4 c).op),((Wp (Z8 c).L (U9 (Z4 c).op)).getD none).map (·.2),((Wp (Z8 c).L (U8 (Z4 c).op)).getD none).map (·.2),TO tt R.sz c)=(true,some (YI c),.slice (Yg (Z4 c).op) (Yu (Z4 c).op 0) (U9 (Z4 c).op) (U8 (Z4 c).op) none,some (Yx tt (Yg (Z4 c).op)),some (.c (.sl (Yr (Z9 c 0)))),some (.sl R xs),some ((Wp (Z8 c).L (U9 (Z4 c).op)).getD none),some ((Wp (Z8 c).L (U8 (Z4 c).op)).getD none),lo,hi,true):=by kernel_rfl):Wc X c:=by
  simp only [Zq] at f
  have ⟨n,i,o,p,q,r,t,u,v,b,e⟩:=f
  have ⟨x,y⟩:=Xl n
  refine Wc.ev (d:=dIs R zs c) x (Xo i rfl) (fun nk E0 F0 w0 n0 Z g K l m h=>WPr.isl (X:=X.var nk E0 F0 w0 n0 Z) htt (by rw [v,b];exact j) l m o i p q r t u (Rq e y) h) k
def dVw (lo hi:Option Int) (sz:Nat) (c:Cf):Dl:=⟨[(YI c,.c (.sl (Z8 c).nx))],[],[((Z8 c).nx,.vw (Yr (Z9 c 0)) lo hi sz)],1⟩
def nVw (lo hi:Option Int) (sz:Nat) (c:Cf):Cf:=Xi (dVw lo hi sz c) c
theorem TK {α:Type} {xs zs:List α} {lo hi:Option Int} {c:Cf} (htt:TTOk X.P tt) (R:TRep α) (l:lsl xs lo hi=some zs) (k:Wc X (nVw lo hi R.sz c))
    (f:(hB X.fn.ntmps c,(Z4 c).dst,(Z4 c).op,Z3 tt (Yg (Z4 c).op),Z9 c 0,Z3 (Z8 c).M (Yr (Z9 c 0)),Wp (Z8 c).L (U9 (Z4 c).op),Wp (Z8 c).L (U8 (Z4 c).op),((Wp (Z8 c).L (U9 (Z4 c).op)).getD none).map (·.2),((Wp (Z8 c).L (U8 (Z4 c).op)).getD none).map (·.2),TO tt R.sz c)=(true,some (YI c),.slice (Yg (Z4 c).op) (Yu (Z4 c).op 0) (U9 (Z4 c).op) (U8 (Z4 c).op) none,some (Yx tt (Yg (Z4 c).op)),some (.c (.sl (Yr (Z9 c 0)))),some (.own R xs (Wa (Z3 (Z8 c).M (Yr (Z9 c 0))))),some ((Wp (Z8 c).L (U9 (Z4 c).op)).getD none),some ((Wp (Z8 c).L (U8 (Z4 c).op)).getD none),lo,hi,true):=by kernel_rfl):Wc X c:=by
  simp only [Zq] at f
  have ⟨o,i,p,q,r,t,u,v,j,b,e⟩:=f
  have ⟨x,y⟩:=Xl o
  refine Wc.ev (d:=dVw lo hi R.sz c) x (Xo i rfl) (fun nk E0 F0 w0 n0 Z g K m n h=>WPr.vw (X:=X.var nk E0 F0 w0 n0 Z) htt (by rw [j,b];exact l) m n p i q r t u v (Rq e y) (by rw [j,b];exact h)) k
def dSs (z:ByteArray) (c:Cf):Dl:=d1 c (.c (.s z))
def nSs (z:ByteArray) (c:Cf):Cf:=Xi (dSs z c) c
theorem MJ {b z:ByteArray} {lo hi:Option Int} {c:Cf} (htt:TTOk X.P tt) (j:ssl b lo hi=some z) (k:Wc X (nSs z c))
    (f:(hB X.fn.ntmps c,(Z4 c).dst,(Z4 c).op,Z3 tt (Yg (Z4 c).op),Nat.beq (Yx tt (Yg (Z4 c).op)).kd 2,Z9 c 0,Wp (Z8 c).L (U9 (Z4 c).op),Wp (Z8 c).L (U8 (Z4 c).op),((Wp (Z8 c).L (U9 (Z4 c).op)).getD none).map (·.2),((Wp (Z8 c).L (U8 (Z4 c).op)).getD none).map (·.2))=(true,some (YI c),.slice (Yg (Z4 c).op) (Yu (Z4 c).op 0) (U9 (Z4 c).op) (U8 (Z4 c).op) none,some (Yx tt (Yg (Z4 c).op)),true,some (.c (.s b)),some ((Wp (Z8 c).L (U9 (Z4 c).op)).getD none),some ((Wp (Z8 c).L (U8 (Z4 c).op)).getD none),lo,hi):=by kernel_rfl):Wc X c:=by
  simp only [Zq] at f
  have ⟨n,i,o,p,q,r,t,u,v,e⟩:=f
  have ⟨x,y⟩:=Xl n
  refine Wc.ev (d:=dSs z c) x (Xo i rfl) (fun nk E0 F0 w0 n0 Z g K l m h=>WPr.ssl (X:=X.var nk E0 F0 w0 n0 Z) htt (by rw [v,e];exact j) l m o i p q r t u y h) k
def dSx (z:Int) (c:Cf):Dl:=d1 c (.c (.i .u8 z))
def nSx (z:Int) (c:Cf):Cf:=Xi (dSx z c) c
theorem Vh {b:ByteArray} {m z:Int} {c:Cf} (htt:TTOk X.P tt) (j:X7 b m=some z) (k:Wc X (nSx z c))
  (e:(hB X.fn.ntmps c,(Z4 c).dst,(Z4 c).op,Z3 tt (Yg (Z4 c).op),Nat.beq (Yx tt (Yg (Z4 c).op)).kd 2,Z9 c 0,Z9 c 1)=(true,some (YI c),.index (Yg (Z4 c).op) (Yu (Z4 c).op 0) (Yu (Z4 c).op 1),some (Yx tt (Yg (Z4 c).op)),true,some (.c (.s b)),some (.c (.i (TM (Z9 c 1)) m))):=by kernel_rfl):Wc X c:=by
 simp only [Zq] at e
 have ⟨o,g,p,q,r,t,u⟩:=e
 have ⟨v,x⟩:=Xl o
 refine Wc.ev (d:=dSx z c) v (Xo g rfl) (fun nk E0 F0 w0 n0 Z f K l n h=>WPr.sx (X:=X.var nk E0 F0 w0 n0 Z) htt j l n p g q r t u x h) k
def dCa (z:ByteArray) (c:Cf):Dl:=d1 c (.c (.s z))
def nCa (z:ByteArray) (c:Cf):Cf:=Xi (dCa z c) c
theorem YO {a b z:ByteArray} {c:Cf} (i:YK a b=some z) (k:Wc X (nCa z c))
  (e:(hB X.fn.ntmps c,(Z4 c).dst,(Z4 c).op,Z9 c 0,Z9 c 1)=(true,some (YI c),.binOp .add (Yg (Z4 c).op) (Yu (Z4 c).op 0) (Yu (Z4 c).op 1) (Xv (Z4 c).op),some (.c (.s a)),some (.c (.s b))):=by kernel_rfl):Wc X c:=by
 simp only [Zq] at e
 have ⟨m,g,n,o,p⟩:=e
 have ⟨q,r⟩:=Xl m
 refine Wc.ev (d:=dCa z c) q (Xo g rfl) (fun nk E0 F0 w0 n0 Z f K j l h=>WPr.cat (X:=X.var nk E0 F0 w0 n0 Z) i j l n g o p r h) k
def dBi (ik:IntKind) (z:Int) (c:Cf):Dl:=d1 c (.c (.i ik z))
def nBi (ik:IntKind) (z:Int) (c:Cf):Cf:=Xi (dBi ik z c) c
theorem RS {op:BinOp} {ik:IntKind} {m b z:Int} {c:Cf} (j:U1 op ik m b=some z) (k:Wc X (nBi ik z c))
  (e:(hB X.fn.ntmps c,(Z4 c).dst,(Z4 c).op,Z9 c 0,Z9 c 1,(BL op || decide (ik=TM (Z9 c 1))))=(true,some (YI c),.binOp op (Yg (Z4 c).op) (Yu (Z4 c).op 0) (Yu (Z4 c).op 1) (Xv (Z4 c).op),some (.c (.i ik m)),some (.c (.i (TM (Z9 c 1)) b)),true):=by kernel_rfl):Wc X c:=by
 simp only [Zq] at e
 have ⟨o,g,p,q,r,t⟩:=e
 have ⟨u,v⟩:=Xl o
 refine Wc.ev (d:=dBi ik z c) u (Xo g rfl) (fun nk E0 F0 w0 n0 Z f K l n h=>WPr.bin (X:=X.var nk E0 F0 w0 n0 Z) j l n p g q r t v h) k
def dEq (P:Program) (c:Cf):Dl:=d1 c (.c (.b (bif Zi2 (Z4 c).op then !((VU P 20 (Yg (Z4 c).op) (Sj (Z9 c 0)) (Sj (Z9 c 1))).getD false) else (VU P 20 (Yg (Z4 c).op) (Sj (Z9 c 0)) (Sj (Z9 c 1))).getD false)))
def nEq (P:Program) (c:Cf):Cf:=Xi (dEq P c) c
theorem RT {c:Cf}  (k:Wc X (nEq X.P c))
  (b:(hB X.fn.ntmps c,(Z4 c).dst,Wi X.P (Yg (Z4 c).op),(VU X.P 20 (Yg (Z4 c).op) (Sj (Z9 c 0)) (Sj (Z9 c 1))),X.P.eqGuardType X.P.depth (Yg (Z4 c).op),(Z4 c).op,Z9 c 0,Z9 c 1)=(true,some (YI c),true,some ((VU X.P 20 (Yg (Z4 c).op) (Sj (Z9 c 0)) (Sj (Z9 c 1))).getD false),false,.binOp (bif Zi2 (Z4 c).op then .neq else .eql) (Yg (Z4 c).op) (Yu (Z4 c).op 0) (Yu (Z4 c).op 1) (Xv (Z4 c).op),some (.a (Sj (Z9 c 0))),some (.a (Sj (Z9 c 1)))):=by kernel_rfl):Wc X c:=by
 simp only [Zq] at b
 have ⟨j,f,l,m,n,o,p,q⟩:=b
 have ⟨r,t⟩:=Xl j
 refine Wc.ev (d:=dEq X.P c) r (Xo f rfl) (fun nk E0 F0 w0 n0 Z e K g i h=>WPr.eqa (X:=X.var nk E0 F0 w0 n0 Z) (ZnD l m) n g i o f p q t h) k
def dCb (ct:Ct) (l:List (Nat × SC)) (fz:List Nat) (c:Cf):Dl:=ZmI (Yv (Z8 c) fz) ct l (YI c)
def nCb (ct:Ct) (l:List (Nat × SC)) (fz:List Nat) (c:Cf):Cf:=Xi ((dCb ct l fz c).fz (Z8 c) fz) c
theorem X2 {f:FuncId} {b:Ct} {c:Cf} (m:Fn X.P f b) (fz:List Nat) (l:List (Nat × SC)) (bor:List Nat) (e:bor=[]\/(b.V1=[]/\TA b.M1)) (k:Wc X (nCb b l fz c))
  (g:(hB X.fn.ntmps c,(Z4 c).dst,Sq (Z8 c) fz,(Z4 c).op,Yq (Yv (Z8 c) fz).L (U2 (Z4 c).op),(Us (Yv (Z8 c) fz).L (Mx (Z4 c).op).toList).map (fun vs=>UE (Bo (Yq (Yv (Z8 c) fz).L (U2 (Z4 c).op)))++vs++UE (MF (Yq (Yv (Z8 c) fz).L (U2 (Z4 c).op)))),b.V0.map (fun p=>Ri (Yv (Z8 c) fz) ⟨l,b.nk,(Yv (Z8 c) fz).nx⟩ bor p.1 p.2),b.M0.map (fun p=>Vr (Yv (Z8 c) fz) ⟨l,b.nk,(Yv (Z8 c) fz).nx⟩ p.1 p.2),Rh (Yv (Z8 c) fz) b l bor)=(true,some (YI c),true,.call { callee:=.value (U2 (Z4 c).op),args:=Mx (Z4 c).op,argTypes:=Ld (Z4 c).op },some (.c (.cl f (Bo (Yq (Yv (Z8 c) fz).L (U2 (Z4 c).op))) (MF (Yq (Yv (Z8 c) fz).L (U2 (Z4 c).op))))),some (b.args.map (WY ⟨l,b.nk,(Yv (Z8 c) fz).nx⟩)),b.V0.map (fun p=>some p.2),b.M0.map (fun p=>some (VI ⟨l,b.nk,(Yv (Z8 c) fz).nx⟩ p.2)),true):=by kernel_rfl):Wc X c:=by
 simp only [Zq] at g
 have ⟨q,j,r,t,u,v,x,y,z⟩:=g
 have ⟨A,B⟩:=Xl q
 refine Wc.evz (d:=dCb b l fz c) fz A r (Xo j rfl) (fun nk E0 F0 w0 n0 Z i K n o h=>WPr.callc (X:=X.var nk E0 F0 w0 n0 Z) m l bor n o t j B u v x y e z h) k
theorem Z6 {f:FuncId} {b:Ct} {c:Cf} (d:Fn X.P f b) (fz:List Nat) (l:List (Nat × SC)) (k:Wc X (nCb b l fz c))
  (e:(hB X.fn.ntmps c,(Z4 c).dst,Sq (Z8 c) fz,(Z4 c).op,Yq (Yv (Z8 c) fz).L (U2 (Z4 c).op),(Us (Yv (Z8 c) fz).L (Mx (Z4 c).op).toList).map (fun vs=>UE (Bo (Yq (Yv (Z8 c) fz).L (U2 (Z4 c).op)))++vs++UE (MF (Yq (Yv (Z8 c) fz).L (U2 (Z4 c).op)))),b.V0.map (fun p=>Ri (Yv (Z8 c) fz) ⟨l,b.nk,(Yv (Z8 c) fz).nx⟩ [] p.1 p.2),b.M0.map (fun p=>Vr (Yv (Z8 c) fz) ⟨l,b.nk,(Yv (Z8 c) fz).nx⟩ p.1 p.2),Rh (Yv (Z8 c) fz) b l [])=(true,some (YI c),true,.call { callee:=.value (U2 (Z4 c).op),args:=Mx (Z4 c).op,argTypes:=Ld (Z4 c).op },some (.c (.cl f (Bo (Yq (Yv (Z8 c) fz).L (U2 (Z4 c).op))) (MF (Yq (Yv (Z8 c) fz).L (U2 (Z4 c).op))))),some (b.args.map (WY ⟨l,b.nk,(Yv (Z8 c) fz).nx⟩)),b.V0.map (fun p=>some p.2),b.M0.map (fun p=>some (VI ⟨l,b.nk,(Yv (Z8 c) fz).nx⟩ p.2)),true):=by kernel_rfl):Wc X c:=X2 d fz l [] (.inl rfl) k e
end
end
section
variable [LxP]
def Cf.isC:Cf->Bool
 | .co _ _=>true
 | _=>false
def Cf.itm:Cf->List Item
 | .co k _=>k
 | _=>[]
section
variable {X:Ctx} {tt:List (Nat × TD)}
theorem Wc.co {c:Cf} (h:c.isC=true) (k:WP X c.itm c.st):Wc X c:=by
 cases c with
 | co _ _=>exact ⟨k⟩
 | rg _ _ _ _ _=>cases h
 | no=>cases h
def TP:Cf->Nat
 | .co (.code (.cond (.tmp d) _ _)::_) _=>d
 | .rg _ ops i _ _=>match ops[i]? with
  | some o=>match o.guard with
   | some (j,_)=>match ops[j]? with
    | some oj=>oj.dst.getD 0
    | none=>0
   | none=>0
  | none=>0
 | _=>0
def gjC (c:Cf):Nat:=match (Z4 c).guard with
 | some (j,_)=>j
 | none=>0
def La:Cf->Option (List (Nat × SV))
 | .rg (some q) ops i k s=>some (YL q.2.2 (gjC (.rg (some q) ops i k s))).dL
 | _=>none
def Lh (b:Bool):Cf->Option (List (Nat × SV))
 | .rg (some q) ops i k s=>some [(TP (.rg (some q) ops i k s),.c (.b b))]
 | _=>none
def setL (d:Nat) (b:Bool) (s:St):St:=⟨(d,.c (.b b))::s.L,s.M,s.V,s.nx⟩
def H8 (j d:Nat) (b:Bool) (es:List Ent):List Ent:=es.set j { YL es j with dL:=[(d,.c (.b b))] }
def Sw (t:Bool):Cf->Cf
 | .co k s=>.co k (setL (TP (.co k s)) t s)
 | .rg none ops i k s=>.rg none ops i k (setL (TP (.rg none ops i k s)) t s)
 | .rg (some q) ops i k s=>.rg (some (q.1,q.2.1,H8 (gjC (.rg (some q) ops i k s)) (TP (.rg (some q) ops i k s)) t q.2.2)) ops i k (setL (TP (.rg (some q) ops i k s)) t s)
 | .no=>.no
theorem Zr8 {j d:Nat} {b:Bool} {es:List Ent} (h:(YL es j).dL=[(d,.c (.b b))]):H8 j d b es=es:=by
 unfold H8
 rw [<- h]
 show es.set j (YL es j)=es
 unfold YL
 by_cases e:j < es.length
 ·rw [show es.getD j ZhQ=es[j] by simp [List.getD,e],List.set_getElem_self]
 ·exact List.set_eq_of_length_le (Nat.not_lt.1 e)
theorem eK {b t:Bool} (K:b=t) {c:Cf} (k:Wc X (Sw t c)) (g:(Z3 c.st.L (TP c),La c)=(some (.c (.b b)),Lh b c):=by kernel_rfl):Wc X c:=by
 subst K
 have ⟨d,n⟩:=Prod.mk.inj g
 cases c with
 | no=>exact k.1.elim
 | co f s=>exact ⟨fun E F w a h=>k.1 E F w a (Sat.setL0 h d rfl trivial)⟩
 | rg m ops i f s =>
  cases m with
  | none=>exact ⟨WPr.kb _ rfl d k.1⟩
  | some q =>
   refine ⟨fun j l=>?_⟩
   have e:=Zr8 (Zl n)
   have k:AllLS X ops 0 (H8 _ _ _ q.2.2)->(H8 _ _ _ q.2.2).length=i->WP X (.code (.region q.1 ops true)::f) q.2.1:=k.1
   rw [e] at k
   exact k j l
theorem wa (htt:TTOk X.P tt) (n:Nat) {c:Cf} (k:Wc X (Wo tt X.fn.ntmps n c)):Wc X c:=ZgJ htt n k
def ctS (c:Cf) (s:St):Cf:=.co c.kk s
theorem Yf {σ:Type} (J:σ->St) (Q:σ->Prop) {c:Cf} (d:∀ b,Q b->Wc X (ctS c (J b))) (h:(∀ b,Q b->WP X c.kk (J b))->Wc X c):Wc X c:=h fun b e=>(d b e).1
def MT (c:Cf):Code:=match c with
 | .co (.code (.loop x)::_) _=>x
 | _=>.skip
def lpS (c:Cf) (s:St):Cf:=.co (.code (MT c)::.inLoop (MT c)::c.kk) s
def lpK (c:Cf):List Item:=.inLoop (MT c)::c.kk
def lpI (c:Cf):List Item:=.code (.loop (MT c))::c.kk
theorem Yn {σ ρ:Type} {r:ρ} (H:σ->St) (p:Nat->σ->Option ρ) (f:∀ b,p 0 b=none) {c:Cf}
  (e:∀ n,(∀ b,p n b=some r->WP X (lpK c) (H b))->∀ b,p (n+1) b=some r->Wc X (lpS c (H b)))
  (h:(∀ n b,p n b=some r->WP X (lpI c) (H b))->Wc X c):Wc X c:=by
 have key:∀ n b,p n b=some r->WP X (.code (MT c)::.inLoop (MT c)::c.kk) (H b):=by
  intro n
  induction n with
  | zero=>intro b d;rw [f] at d;cases d
  | succ n i=>exact fun b g=>(e n (fun b d=>WP.inLoop (i b d)) b g).1
 exact h fun n b d=>WP.loop (key n b d)
theorem Z2 {t:St} {todo:List Item} (l:List (Nat × SC)) (k:WP X todo t) {c:Cf}
    (b:(c.isC,c.itm,t.L.map (fun p=>Z3 c.st.L p.1),t.V.map (fun p=>Sn c.st ⟨l,0,0⟩ p.1 p.2),t.M.map (fun p=>Vr c.st ⟨l,0,0⟩ p.1 p.2),
        (t.L.all (fun p=>Td ⟨l,0,0⟩ p.2) && X5 (t.M.filterMap fun p=>Wb ⟨l,0,0⟩ p.1 p.2) && X5 (t.M.map (·.1)) && Pw t.L t.M t.V t.nx && l.all (fun p=>Nat.ble X.nk p.1 && p.2.kbb c.st.nx) && Nat.ble X.nk t.nx)) =
      (true,todo,t.L.map (fun p=>some (WY ⟨l,0,0⟩ p.2)),t.V.map (fun p=>some p.2),t.M.map (fun p=>some (VI ⟨l,0,0⟩ p.2)),true):=by kernel_rfl):Wc X c:=by
  simp only [Zq] at b
  have ⟨d,e,f,g,h,i⟩:=b
  refine Wc.co d ?_
  rw [e]
  exact WP.sub l k f g h i
def RZ (f:St->St):Cf->Cf
 | .co k s=>.co k (f s)
 | .rg none ops i k s=>.rg none ops i k (f s)
 | _=>.no
theorem HQ {f:St->St} {c:Cf} (h:∀ E F w a,Sat X c.st E F w a->∃ b d,Sat X (f c.st) b d w a) (k:Wc X (RZ f c)):Wc X c:=by
 cases c with
 | no=>exact k.1.elim
 | co g s=>exact ⟨fun E F w a e=>let ⟨b,d,hs'⟩:=h E F w a e;k.1 b d w a hs'⟩
 | rg m ops i g s =>
  cases m with
  | none=>exact ⟨fun E F w a e=>let ⟨b,d,hs'⟩:=h E F w a e;k.1 b d w a hs'⟩
  | some q=>exact k.1.elim
theorem Uq (fz:List Nat) {c:Cf} (k:Wc X (RZ (fun s=>Yv s fz) c)) (b:Sq c.st fz=true:=by kernel_rfl):Wc X c :=
 HQ (fun _ _ _ _ d=>let ⟨F',h⟩:=Zdr d b;⟨_,F',h⟩) k
theorem eSl {α:Type} (R:TRep α) {xs zs:List α} {l h:Option Int} (K:Nat) (d:lsl xs l h=some zs) {c:Cf}
  (k:Wc X (RZ (fun s=>⟨s.L,(K,.own R zs (Wa (Z3 s.M (XJ (Z3 s.V K)))))::(XJ (Z3 s.V K),.gone)::s.M,s.V,s.nx⟩) c))
  (b:(Z3 c.st.V K,Z3 c.st.M (XJ (Z3 c.st.V K)),(Z3 c.st.M K).isNone)=(some (.vw (XJ (Z3 c.st.V K)) l h R.sz),some (.own R xs (Wa (Z3 c.st.M (XJ (Z3 c.st.V K))))),true):=by kernel_rfl):Wc X c:=by
 simp only [Zq,Option.isNone_iff_eq_none] at b
 have ⟨f,g,i⟩:=b
 exact HQ (fun E F w a e=>⟨E,F,e.settle d f g i⟩) k
def Zeg:Cf->Bool
 | .co [] _=>true
 | .co (.code .ret::_) _=>true
 | _=>false
theorem YW {P:Program} {f:FuncId} {fn:Func} {b:Ct} {E0:Env} {F0:YD} {w0:World} (htt:TTOk P tt) (e:P.funcs[f]? = some fn) (l:List (Nat × SC)) {c:Cf}
    (g:(Zeg c,M4 tt c.st fn.results.toList,b.V1.map (fun p=>Sn c.st ⟨l,0,0⟩ p.1 p.2),b.M1.map (fun p=>Vr c.st ⟨l,0,0⟩ p.1 p.2),
        (Td ⟨l,0,0⟩ b.res && X5 (b.M1.filterMap fun p=>Wb ⟨l,0,0⟩ p.1 p.2) && X5 (b.M1.map (·.1)) && l.all (fun p=>Nat.ble b.nk p.1 && p.2.kbb c.st.nx))) =
      (true,some (WY ⟨l,0,0⟩ b.res),b.V1.map (fun p=>some p.2),b.M1.map (fun p=>some (VI ⟨l,0,0⟩ p.2)),true):=by kernel_rfl):Wc (b.ctx P f fn E0 F0 w0) c:=by
  simp only [Zq] at g
  have ⟨d,h,i,j,k⟩:=g
  unfold Zeg at d
  split at d
  · exact ⟨WP.fin htt e l h i j k⟩
  · exact ⟨WP.ret htt e l h i j k⟩
  · cases d
theorem Ya {P:Program} {f:FuncId} {c:Ct} {fn:Func} {body:Code} (d:P.funcs[f]? = some fn) (e:fn.body=some body) (h:∀ E F w,Wc (c.ctx P f fn E F w) (.co [.code body] ⟨R4 0 c.args,c.M0,c.V0,c.nk⟩))
  (b:((fn.name == "runtime.NumGoroutine"),(Pw (R4 0 c.args) c.M0 c.V0 c.nk && c.M0.all (fun p => !p.2.isFresh) && Nat.ble c.args.length fn.ntmps))=(false,true):=by kernel_rfl):Fn P f c :=
 Fn.intro fn body d e (Prod.mk.inj b).1 (Prod.mk.inj b).2 fun E F w=>(h E F w).1
def Re:List Oper->List Nat->List Nat
 | [],acc=>acc
 | o::r,acc=>Re r (acc++[RN acc o.after.toList])
def Q2:Cf->List Ent
 | .rg (some q) _ _ _ _=>q.2.2
 | _=>[]
def H9:Cf->St
 | .rg (some q) _ _ _ _=>q.2.1
 | _=>⟨[],[],[],0⟩
def isD:Cf->Bool
 | .rg (some _) ops i _ _=>Nat.beq i ops.size
 | _=>false
def Znx (c:Cf):Cf:=.co c.kk (Vk (Q2 c) c.st.nx (H9 c) fun _=>true)
theorem Yl {c:Cf} (k:Wc X (Znx c)) (r:(isD c,X.P.follows .mixedOrders,MD c.ops (Q2 c) (Re c.ops.toList []) (H9 c).nx c.st.nx,MU (Q2 c) (Re c.ops.toList []) (H9 c))=(true,true,true,Li (Q2 c)):=by kernel_rfl):Wc X c:=by
 simp only [Zq] at r
 have ⟨f,t,g,l⟩:=r
 cases c with
 | no=>cases f
 | co p s=>cases f
 | rg m ops i p s =>
  cases m with
  | none=>cases f
  | some q =>
   refine ⟨fun e u=>?_⟩
   have ⟨k⟩:=k
   have ⟨id,b,es⟩:=q
   replace g:MD ops es (Re ops.toList []) b.nx s.nx=true:=g
   replace l:MU es (Re ops.toList []) b=Li es:=l
   replace e:AllLS X ops 0 es:=e
   show WP X (.code (.region id ops true)::p) b
   intro E F w a d
   have c:=ZgU g
   refine Zen (wp_region_any t ?_)
   have n:Sat X b E F { w with drawn:=w.drawn+1 } a:=d.world rfl rfl .m (Zp _) fun _ _=>rfl
   have o:∀ j,(Array.replicate ops.size false).getD j false=false:=fun j=>by
    by_cases h:j < ops.size<;>simp [h]
   refine Zrz (todo:=rk X p) e c l d.wf d.nk (fun E F w a d=>k E F w a d) ops.size _ E F _ a (by simp)
    (fun i hi=>by rw [o] at hi;cases hi) (by rw [c.size];exact ZcZ fun j _=>by rw [<- c.size];exact o j) ?_
   have:Vk es s.nx b (fun j=>(Array.replicate ops.size false).getD j false)=⟨b.L,b.M,b.V,s.nx⟩:=by
    rw [show (fun j=>(Array.replicate ops.size false).getD j false)=fun _=>false from funext o]
    unfold Vk
    rw [Q6,Q6,Q6]
   show Sat X (Vk es s.nx b _) E F _ a
   rw [this]
   exact n.nxt c.nxle
end
end
section
variable [LxP]
def Be (P:Program) (t:TypeId):Nat:=match P.underlying t with
 | some (.array n _)=>n
 | _=>0
def WB (P:Program) (t:TypeId):TypeId:=match P.underlying t with
 | some (.array _ e)=>e
 | some (.slice e)=>e
 | some (.pointer e)=>e
 | _=>0
def szT (P:Program) (t:TypeId):Nat:=((P.info? t).map (·.size)).getD 0
def Zdy:Option VF->Bool
 | some (.pl _)=>true
 | some (.el _ _)=>true
 | _=>false
theorem Zoq {V:List (Nat × VF)} {k:Nat} (h:Zdy (Z3 V k)=true):(∃ cs,Z3 V k=some (.pl cs))\/∃ q m,Z3 V k=some (.el q m):=by
 unfold Zdy at h
 split at h
 ·rename_i cs e;exact .inl ⟨cs,e⟩
 ·rename_i q m e;exact .inr ⟨q,m,e⟩
 ·cases h
def HA:Option MO->TypeId
 | some (.box _ t)=>t
 | _=>0
def RO:Option MO->List SC
 | some (.box cs _)=>cs
 | _=>[]
section
variable {X:Ctx} {tt:List (Nat × TD)}
def dAx (v:SC) (c:Cf):Dl:=d1 c (.c v)
def nAx (v:SC) (c:Cf):Cf:=Xi (dAx v c) c
theorem Bv {α:Type} {m:Int} {e:α} {c:Cf} (f:α->SC) (xs:List α) (hi:Z5 xs m=some e) (k:Wc X (nAx (f e) c))
    (b:(hB X.fn.ntmps c,(Z4 c).dst,(Z4 c).op,X.P.underlying (Yg (Z4 c).op),(X.P.info? (WB X.P (Yg (Z4 c).op))).map (·.size),Wi X.P (WB X.P (Yg (Z4 c).op)),(X.P.underlying (WB X.P (Yg (Z4 c).op))).isSome,Z9 c 0,Z9 c 1)=(true,some (YI c),.index (Yg (Z4 c).op) (Yu (Z4 c).op 0) (Yu (Z4 c).op 1),some (.array xs.length (WB X.P (Yg (Z4 c).op))),some 1,false,true,some (.a (xs.map f)),some (.c (.i (TM (Z9 c 1)) m))):=by kernel_rfl):Wc X c:=by
  simp only [Zq] at b
  have ⟨o,j,p,q,r,t,u,v,x⟩:=b
  have ⟨y,z⟩:=Xl o
  refine Wc.ev (d:=dAx (f e) c) y (Xo j rfl) (fun nk E0 F0 w0 n0 Z g K l n h=>WPr.ax (X:=X.var nk E0 F0 w0 n0 Z) f xs hi l n p j q r t u v rfl x z h) k
def dAb (P:Program) (j:Nat) (c:Cf):Dl:=d1 c (.c (.bp (Yr (Z9 c 0)) (Ws (Z9 c 0)+j * szT P (WB P (Yg (Z4 c).op)))))
def nAb (P:Program) (j:Nat) (c:Cf):Cf:=Xi (dAb P j c) c
theorem W7 {m:Int} {c:Cf} (j:Nat) (g:m=(j:Int)) (k:Wc X (nAb X.P j c))
    (b:(hB X.fn.ntmps c,(Z4 c).dst,(Z4 c).op,X.P.underlying (Yg (Z4 c).op),(X.P.info? (WB X.P (Yg (Z4 c).op))).map (·.size),Nat.blt j (Be X.P (Yg (Z4 c).op)),Z9 c 0,Z9 c 1)=(true,some (YI c),.indexAddr (Yg (Z4 c).op) (Yu (Z4 c).op 0) (Yu (Z4 c).op 1),some (.array (Be X.P (Yg (Z4 c).op)) (WB X.P (Yg (Z4 c).op))),some (szT X.P (WB X.P (Yg (Z4 c).op))),true,some (.c (.bp (Yr (Z9 c 0)) (Ws (Z9 c 0)))),some (.c (.i (TM (Z9 c 1)) m))):=by kernel_rfl):Wc X c:=by
  simp only [Zq] at b
  have ⟨o,f,p,q,r,t,u,v⟩:=b
  have ⟨x,y⟩:=Xl o
  refine Wc.ev (d:=dAb X.P j c) x (Xo f rfl) (fun nk E0 F0 w0 n0 Z e K l n h=>WPr.axb (X:=X.var nk E0 F0 w0 n0 Z) j g l n p f q r t u v y h) k
def dAq (P:Program) (j:Nat) (c:Cf):Dl:=d1 c (.c (.px (Yr (Z9 c 0)) (Ws (Z9 c 0)+j * szT P (WB P (Yg (Z4 c).op)))))
def nAq (P:Program) (j:Nat) (c:Cf):Cf:=Xi (dAq P j c) c
theorem Up {m:Int} {c:Cf} (j:Nat) (g:m=(j:Int)) (k:Wc X (nAq X.P j c))
    (b:(hB X.fn.ntmps c,(Z4 c).dst,(Z4 c).op,X.P.underlying (Yg (Z4 c).op),(X.P.info? (WB X.P (Yg (Z4 c).op))).map (·.size),Nat.blt j (Be X.P (Yg (Z4 c).op)),Z9 c 0,Zdy (Z3 (Z8 c).V (Yr (Z9 c 0))),Z9 c 1)=(true,some (YI c),.indexAddr (Yg (Z4 c).op) (Yu (Z4 c).op 0) (Yu (Z4 c).op 1),some (.array (Be X.P (Yg (Z4 c).op)) (WB X.P (Yg (Z4 c).op))),some (szT X.P (WB X.P (Yg (Z4 c).op))),true,some (.c (.px (Yr (Z9 c 0)) (Ws (Z9 c 0)))),true,some (.c (.i (TM (Z9 c 1)) m))):=by kernel_rfl):Wc X c:=by
  simp only [Zq] at b
  have ⟨o,f,p,q,r,t,u,v,x⟩:=b
  have ⟨y,z⟩:=Xl o
  refine Wc.ev (d:=dAq X.P j c) y (Xo f rfl) (fun nk E0 F0 w0 n0 Z e K l n h=>WPr.axp (X:=X.var nk E0 F0 w0 n0 Z) j g l n p f q r t u (Zoq v) x z h) k
def dPn (neg:Bool) (c:Cf):Dl:=d1 c (.c (.b neg))
def nPn (neg:Bool) (c:Cf):Cf:=Xi (dPn neg c) c
theorem ePn {c:Cf} (b:Bool) (k:Wc X (nPn b c))
  (e:(hB X.fn.ntmps c,(Z4 c).dst,(Z4 c).op,X.P.underlying (Yg (Z4 c).op),Z9 c 0,Z9 c 1)=(true,some (YI c),.binOp (bif b then .neq else .eql) (Yg (Z4 c).op) (Yu (Z4 c).op 0) (Yu (Z4 c).op 1) (Xv (Z4 c).op),some (.pointer (WB X.P (Yg (Z4 c).op))),some (.c (.bp (Yr (Z9 c 0)) (Ws (Z9 c 0)))),some (.c (.v (.pointer none)))):=by kernel_rfl):Wc X c:=by
 simp only [Zq] at e
 have ⟨l,g,m,n,o,p⟩:=e
 have ⟨q,r⟩:=Xl l
 refine Wc.ev (d:=dPn b c) q (Xo g rfl) (fun nk E0 F0 w0 n0 Z f K i j h=>WPr.pnil (X:=X.var nk E0 F0 w0 n0 Z) b i j m g n o p r h) k
def dSb {α:Type} (R:TRep α) (xs:List α) (fz:List Nat) (c:Cf):Dl:=⟨[(YI c,.c (.sl (Yv (Z8 c) fz).nx))],[((Yv (Z8 c) fz).nx,.own R xs false),((Yr (Yq (Yv (Z8 c) fz).L (Yu (Z4 c).op 0))),.gone)],[],1⟩
def nSb {α:Type} (R:TRep α) (xs:List α) (fz:List Nat) (c:Cf):Cf:=Xi ((dSb R xs fz c).fz (Z8 c) fz) c
theorem eSb {α:Type} {R:TRep α} {c:Cf} (fz:List Nat) (O:YU R) (xs:List α) (k:Wc X (nSb R xs fz c))
    (f:(hB X.fn.ntmps c,(Z4 c).dst,Sq (Z8 c) fz,(Z4 c).op,X.P.underlying (Yg (Z4 c).op),(X.P.info? (WB X.P (Yg (Z4 c).op))).map (·.size),Yq (Yv (Z8 c) fz).L (Yu (Z4 c).op 0),(Z3 (Yv (Z8 c) fz).M (Yr (Yq (Yv (Z8 c) fz).L (Yu (Z4 c).op 0)))),(Z3 (Yv (Z8 c) fz).M (Yv (Z8 c) fz).nx).isNone,H4 O (Z3 (Yv (Z8 c) fz).V) xs (RO (Z3 (Yv (Z8 c) fz).M (Yr (Yq (Yv (Z8 c) fz).L (Yu (Z4 c).op 0))))),H3 R.sz xs (RO (Z3 (Yv (Z8 c) fz).M (Yr (Yq (Yv (Z8 c) fz).L (Yu (Z4 c).op 0))))))=(true,some (YI c),true,.slice (Yg (Z4 c).op) (Yu (Z4 c).op 0) none none none,some (.array xs.length (WB X.P (Yg (Z4 c).op))),some R.sz,some (.c (.bp (Yr (Yq (Yv (Z8 c) fz).L (Yu (Z4 c).op 0))) 0)),some (.box (RO (Z3 (Yv (Z8 c) fz).M (Yr (Yq (Yv (Z8 c) fz).L (Yu (Z4 c).op 0))))) (HA (Z3 (Yv (Z8 c) fz).M (Yr (Yq (Yv (Z8 c) fz).L (Yu (Z4 c).op 0)))))),true,H5 O (Z3 (Yv (Z8 c) fz).V) xs (RO (Z3 (Yv (Z8 c) fz).M (Yr (Yq (Yv (Z8 c) fz).L (Yu (Z4 c).op 0))))),[]):=by kernel_rfl):Wc X c:=by
  simp only [Zq] at f
  have ⟨m,i,n,o,p,q,r,t,u,b,e⟩:=f
  have ⟨v,x⟩:=Xl m
  refine Wc.evz (d:=dSb R xs fz c) fz v n (Xo i rfl) (fun nk E0 F0 w0 n0 Z g K j l h=>WPr.slb (X:=X.var nk E0 F0 w0 n0 Z) O xs (Zar b e) j l o i p q r t (by rw [x,u];simp) h) k
def dEx (v:SV) (c:Cf):Dl:=d1 c v
def nEx (v:SV) (c:Cf):Cf:=Xi (dEx v c) c
theorem eEx {f:FuncId} {b:List SV} {v:SV} {c:Cf} (e:∀ (E:Env) (w:World),(callFunc f (b.map (Yj E)).toArray).run X.P w=.ok (.value (Yj E v)) w) (l:∀ n,v.kb n) (k:Wc X (nEx v c))
  (g:(hB X.fn.ntmps c,(Z4 c).dst,(Z4 c).op,Us (Z8 c).L (Mx (Z4 c).op).toList)=(true,some (YI c),.call { callee:=.value (.func f),args:=Mx (Z4 c).op,argTypes:=Ld (Z4 c).op },some b):=by kernel_rfl):Wc X c:=by
 simp only [Zq] at g
 have ⟨p,j,q,r⟩:=g
 have ⟨t,u⟩:=Xl p
 refine Wc.ev (d:=dEx v c) t (Xo j rfl) (fun nk E0 F0 w0 n0 Z i K m o h=>WPr.ext (X:=X.var nk E0 F0 w0 n0 Z) e l m o q j u r h) k
def dCp {α:Type} (R:TRep α) (r:List α × Int) (c:Cf):Dl:=⟨[(YI c,.c (.i .i64 r.2))],[((Yr (Z9 c 0)),.own R r.1 (Wa (Z3 (Z8 c).M (Yr (Z9 c 0)))))],[],0⟩
def nCp {α:Type} (R:TRep α) (r:List α × Int) (c:Cf):Cf:=Xi (dCp R r c) c
theorem eCp {α:Type} {xs ys:List α} {lo hi:Option Int} {r:List α × Int} {c:Cf} (htt:TTOk X.P tt) (R:TRep α) (j:Vf xs lo hi ys=some r) (k:Wc X (nCp R r c))
  (f:(hB X.fn.ntmps c,(Z4 c).dst,(Z4 c).op,Z9 c 0,Z3 (Z8 c).M (Yr (Z9 c 0)),Z9 c 1,Z3 tt (Yg (Z4 c).op),TO tt R.sz c,M8 (Z8 c) ys (VT (Z9 c 1)),lo,hi)=(true,some (YI c),.call { callee:=.builtin .copy,args:=#[Yu (Z4 c).op 0,Yu (Z4 c).op 1],argTypes:=#[Yg (Z4 c).op,Xv (Z4 c).op] },some (.c (.sl (Yr (Z9 c 0)))),some (.own R xs (Wa (Z3 (Z8 c).M (Yr (Z9 c 0))))),some (.c (VT (Z9 c 1))),some (Yx tt (Yg (Z4 c).op)),true,M9 R ys (VT (Z9 c 1)),none,none):=by kernel_rfl):Wc X c:=by
 simp only [Zq] at f
 have ⟨n,i,o,p,q,t,u,v,x,b,e⟩:=f
 have ⟨y,z⟩:=Xl n
 refine Wc.ev (d:=dCp R r c) y (Xo i rfl) (fun nk E0 F0 w0 n0 Z g K l m h=>WPr.cp (X:=X.var nk E0 F0 w0 n0 Z) htt j (Zax x) l m o i p (.inr ⟨rfl,b,e⟩) q t u (Rq v z) h) k
def dCw {α:Type} (R:TRep α) (r:List α × Int) (c:Cf):Dl:=⟨[(YI c,.c (.i .i64 r.2))],[((XJ (Z3 (Z8 c).V (Yr (Z9 c 0)))),.own R r.1 (Wa (Z3 (Z8 c).M (XJ (Z3 (Z8 c).V (Yr (Z9 c 0)))))))],[],0⟩
def nCw {α:Type} (R:TRep α) (r:List α × Int) (c:Cf):Cf:=Xi (dCw R r c) c
theorem eCw {α:Type} {xs ys:List α} {lo hi:Option Int} {r:List α × Int} {c:Cf} (htt:TTOk X.P tt) (R:TRep α) (i:Vf xs lo hi ys=some r) (k:Wc X (nCw R r c))
  (e:(hB X.fn.ntmps c,(Z4 c).dst,(Z4 c).op,Z9 c 0,Z3 (Z8 c).M (XJ (Z3 (Z8 c).V (Yr (Z9 c 0)))),Z9 c 1,Z3 tt (Yg (Z4 c).op),TO tt R.sz c,M8 (Z8 c) ys (VT (Z9 c 1)),Z3 (Z8 c).V (Yr (Z9 c 0)))=(true,some (YI c),.call { callee:=.builtin .copy,args:=#[Yu (Z4 c).op 0,Yu (Z4 c).op 1],argTypes:=#[Yg (Z4 c).op,Xv (Z4 c).op] },some (.c (.sl (Yr (Z9 c 0)))),some (.own R xs (Wa (Z3 (Z8 c).M (XJ (Z3 (Z8 c).V (Yr (Z9 c 0))))))),some (.c (VT (Z9 c 1))),some (Yx tt (Yg (Z4 c).op)),true,M9 R ys (VT (Z9 c 1)),some (.vw (XJ (Z3 (Z8 c).V (Yr (Z9 c 0)))) lo hi R.sz)):=by kernel_rfl):Wc X c:=by
 simp only [Zq] at e
 have ⟨m,g,n,o,p,q,t,u,v,b⟩:=e
 have ⟨x,y⟩:=Xl m
 refine Wc.ev (d:=dCw R r c) x (Xo g rfl) (fun nk E0 F0 w0 n0 Z f K j l h=>WPr.cp (X:=X.var nk E0 F0 w0 n0 Z) htt i (Zax v) j l n g o (.inl b) p q t (Rq u y) h) k
def Zp5 (neg b:Bool) (c:Cf):Cf:=Xi (d1 c (.c (.b (bif neg then !b else b)))) c
def inC:Cf->Bool
 | .rg none _ _ _ _=>true
 | _=>false
theorem eNi {α:Type} (R:TRep α) (xs:List α) (d:Bool) {c:Cf} (p:∀ b:Bool,(b=true->xs=[])->Wc X (Zp5 d b c))
  (n:(hB X.fn.ntmps c,(Z4 c).dst,inC c,(Z4 c).op,X.P.underlying (Yg (Z4 c).op),Z9 c 0,Z9 c 1,HC (Z8 c) (.sl (Yr (Z9 c 0)))) =
   (true,some (YI c),true,.binOp (bif d then .neq else .eql) (Yg (Z4 c).op) (Yu (Z4 c).op 0) (Yu (Z4 c).op 1) (Xv (Z4 c).op),some (.slice (WB X.P (Yg (Z4 c).op))),some (.c (.sl (Yr (Z9 c 0)))),some (.c .nil),some ⟨R,xs⟩):=by kernel_rfl):Wc X c:=by
 simp only [Zq] at n
 have ⟨r,t,g,u,v,x,y,z⟩:=n
 have ⟨h,A⟩:=Xl r
 have ⟨G,B,j⟩:=Zg6 z
 cases c with
 | co _ _=>cases g
 | no=>cases g
 | rg m ops i l s =>
  cases m with
  | some q=>cases g
  | none =>
   unfold Su at h
   rw [Zc,Zc] at h
   obtain ⟨⟨_,C⟩,k⟩:=h
   have e:ops[i]? = some (Z4 (.rg none ops i l s)):=by
    have ⟨o,e⟩:=Option.isSome_iff_exists.1 C
    have e:ops[i]? = some o:=e
    unfold Z4
    show _=some ((ops[i]?).getD default)
    rw [e];rfl
   have D:YJ ops s.L (Z4 (.rg none ops i l s))=some true:=by
    split at k
    ·rename_i b f;rw [k] at f;exact f
    ·cases k
   refine ⟨?_⟩
   show WPr X ops (List.range' i (ops.size-i)) (rk X l) s
   rw [HX e]
   cases B
   exact WPr.nilc d j e D u t v x y A fun b f=>(p b f).1
def ZrO (b:Nat) (m:ByteArray) (c:Cf):Cf:=Xi ⟨[(YI c,.c (.v (.pointer (some ⟨b,0,none⟩))))],[((Z8 c).nx,.abs (VW b m 0))],[],1⟩ c
def ZrP (b:Nat) (c:Cf):Cf:=ZrO b (Zkq (Z9 c 0)) c
theorem eRn (htt:TTOk X.P tt) {c:Cf} (l:∀ b,Wc X (ZrP b c))
  (j:(hB X.fn.ntmps c,(Z4 c).dst,inC c,(Z4 c).op,Z3 tt (Yg (Z4 c).op),Nat.beq (Yx tt (Yg (Z4 c).op)).kd 2,Z9 c 0) =
   (true,some (YI c),true,.range (Yg (Z4 c).op) (Yu (Z4 c).op 0),some (Yx tt (Yg (Z4 c).op)),true,some (.c (.s (Zkq (Z9 c 0))))):=by kernel_rfl):Wc X c:=by
 simp only [Zq] at j
 have ⟨n,p,e,r,t,u,v⟩:=j
 have ⟨f,x⟩:=Xl n
 cases c with
 | co _ _=>cases e
 | no=>cases e
 | rg m ops i h s =>
  cases m with
  | some q=>cases e
  | none =>
   unfold Su at f
   rw [Zc,Zc] at f
   obtain ⟨⟨_,y⟩,g⟩:=f
   have d:ops[i]? = some (Z4 (.rg none ops i h s)):=by
    have ⟨o,d⟩:=Option.isSome_iff_exists.1 y
    have d:ops[i]? = some o:=d
    unfold Z4
    show _=some ((ops[i]?).getD default)
    rw [d];rfl
   have z:YJ ops s.L (Z4 (.rg none ops i h s))=some true:=by
    split at g
    ·rename_i b k;rw [g] at k;exact k
    ·cases g
   refine ⟨?_⟩
   show WPr X ops (List.range' i (ops.size-i)) (rk X h) s
   rw [HX d]
   exact WPr.rng htt d z r p t u v x fun b=>(l b).1
def dNf (c:Cf):Dl:=d1 c (.t [.inl (.b false)])
def nNf (c:Cf):Cf:=Xi (dNf c) c
theorem eNf {p:Nat} {m:ByteArray} {c:Cf} (b f:Nat) (e:decide (p < m.size)=false) (k:Wc X (nNf c))
  (g:(hB X.fn.ntmps c,(Z4 c).dst,(Z4 c).op,Z9 c 0,Z3 (Z8 c).M f)=(true,some (YI c),.next (Yu (Z4 c).op 0) true,some (.c (.v (.pointer (some ⟨b,0,none⟩)))),some (.abs (VW b m p))):=by kernel_rfl):Wc X c:=by
 simp only [Zq] at g
 have ⟨o,j,q,r,t⟩:=g
 have ⟨u,x⟩:=Xl o
 refine Wc.ev (d:=dNf  c) u (Xo j rfl) (fun nk E0 F0 w0 n0 Z i K l n h=>WPr.nxtF (X:=X.var nk E0 F0 w0 n0 Z) f e l n q j r t x h) k
def dNt (b k0:Nat) (m:ByteArray) (p:Nat) (c:Cf):Dl:=⟨[(YI c,.t [.inl (.b true),.inl (.i .i64 (p:Int)),.inl (.i .i32 ((Utf8.decode m p).1:Int))])],[(k0,.abs (VW b m (p+(Utf8.decode m p).2)))],[],0⟩
def nNt (b k0:Nat) (m:ByteArray) (p:Nat) (c:Cf):Cf:=Xi (dNt b k0 m p c) c
theorem eNt {p:Nat} {m:ByteArray} {c:Cf} (b:Nat) (e:Nat) (f:decide (p < m.size)=true) (k:Wc X (nNt b e m p c))
  (g:(hB X.fn.ntmps c,(Z4 c).dst,(Z4 c).op,Z9 c 0,Z3 (Z8 c).M e)=(true,some (YI c),.next (Yu (Z4 c).op 0) true,some (.c (.v (.pointer (some ⟨b,0,none⟩)))),some (.abs (VW b m p))):=by kernel_rfl):Wc X c:=by
 simp only [Zq] at g
 have ⟨o,j,q,r,t⟩:=g
 have ⟨u,x⟩:=Xl o
 refine Wc.ev (d:=dNt b e m p c) u (Xo j rfl) (fun nk E0 F0 w0 n0 Z i K l n h=>WPr.nxtT (X:=X.var nk E0 F0 w0 n0 Z) e f l n q j r t x h) k
def dDp {α:Type} (R:TRep α) (r:List α × Int) (c:Cf):Dl:=⟨[(YI c,.c (.i .i64 r.2))],[((Yr (Z9 c 0)),.own R r.1 (Wa (Z3 (Z8 c).M (Yr (Z9 c 0)))))],[],0⟩
def nDp {α:Type} (R:TRep α) (r:List α × Int) (c:Cf):Cf:=Xi (dDp R r c) c
theorem eDp {α:Type} {xs ys j:List α} {lo hi b e:Option Int} {r:List α × Int} {c:Cf} (htt:TTOk X.P tt) (R:TRep α) (o:lsl j b e=some ys) (p:Vf xs lo hi ys=some r) (k:Wc X (nDp R r c))
  (l:(hB X.fn.ntmps c,(Z4 c).dst,(Z4 c).op,Z9 c 0,Z3 (Z8 c).M (Yr (Z9 c 0)),Z9 c 1,Z3 (Z8 c).V (Yr (Z9 c 1)),Z3 (Z8 c).M (XJ (Z3 (Z8 c).V (Yr (Z9 c 1)))),Z3 tt (Yg (Z4 c).op),TO tt R.sz c,lo,hi)=(true,some (YI c),.call { callee:=.builtin .copy,args:=#[Yu (Z4 c).op 0,Yu (Z4 c).op 1],argTypes:=#[Yg (Z4 c).op,Xv (Z4 c).op] },some (.c (.sl (Yr (Z9 c 0)))),some (.own R xs (Wa (Z3 (Z8 c).M (Yr (Z9 c 0))))),some (.c (.sl (Yr (Z9 c 1)))),some (.vw (XJ (Z3 (Z8 c).V (Yr (Z9 c 1)))) b e R.sz),some (.own R j (Wa (Z3 (Z8 c).M (XJ (Z3 (Z8 c).V (Yr (Z9 c 1))))))),some (Yx tt (Yg (Z4 c).op)),true,none,none):=by kernel_rfl):Wc X c:=by
 simp only [Zq] at l
 have ⟨u,n,v,x,y,z,A,B,C,f,g,i⟩:=l
 have ⟨D,G⟩:=Xl u
 refine Wc.ev (d:=dDp R r c) D (Xo n rfl) (fun nk E0 F0 w0 n0 Z m K q t h=>WPr.cp (X:=X.var nk E0 F0 w0 n0 Z) htt p (Ww o A B) q t v n x (.inr ⟨rfl,g,i⟩) y z C (Rq f G) h) k
def dDw {α:Type} (R:TRep α) (r:List α × Int) (c:Cf):Dl:=⟨[(YI c,.c (.i .i64 r.2))],[((XJ (Z3 (Z8 c).V (Yr (Z9 c 0)))),.own R r.1 (Wa (Z3 (Z8 c).M (XJ (Z3 (Z8 c).V (Yr (Z9 c 0)))))))],[],0⟩
def nDw {α:Type} (R:TRep α) (r:List α × Int) (c:Cf):Cf:=Xi (dDw R r c) c
theorem eDw {α:Type} {xs ys i:List α} {lo hi b e:Option Int} {r:List α × Int} {c:Cf} (htt:TTOk X.P tt) (R:TRep α) (n:lsl i b e=some ys) (o:Vf xs lo hi ys=some r) (k:Wc X (nDw R r c))
  (j:(hB X.fn.ntmps c,(Z4 c).dst,(Z4 c).op,Z9 c 0,Z3 (Z8 c).M (XJ (Z3 (Z8 c).V (Yr (Z9 c 0)))),Z9 c 1,Z3 (Z8 c).V (Yr (Z9 c 1)),Z3 (Z8 c).M (XJ (Z3 (Z8 c).V (Yr (Z9 c 1)))),Z3 tt (Yg (Z4 c).op),TO tt R.sz c,Z3 (Z8 c).V (Yr (Z9 c 0)))=(true,some (YI c),.call { callee:=.builtin .copy,args:=#[Yu (Z4 c).op 0,Yu (Z4 c).op 1],argTypes:=#[Yg (Z4 c).op,Xv (Z4 c).op] },some (.c (.sl (Yr (Z9 c 0)))),some (.own R xs (Wa (Z3 (Z8 c).M (XJ (Z3 (Z8 c).V (Yr (Z9 c 0))))))),some (.c (.sl (Yr (Z9 c 1)))),some (.vw (XJ (Z3 (Z8 c).V (Yr (Z9 c 1)))) b e R.sz),some (.own R i (Wa (Z3 (Z8 c).M (XJ (Z3 (Z8 c).V (Yr (Z9 c 1))))))),some (Yx tt (Yg (Z4 c).op)),true,some (.vw (XJ (Z3 (Z8 c).V (Yr (Z9 c 0)))) lo hi R.sz)):=by kernel_rfl):Wc X c:=by
 simp only [Zq] at j
 have ⟨t,m,u,v,x,y,z,A,B,f,g⟩:=j
 have ⟨C,D⟩:=Xl t
 refine Wc.ev (d:=dDw R r c) C (Xo m rfl) (fun nk E0 F0 w0 n0 Z l K p q h=>WPr.cp (X:=X.var nk E0 F0 w0 n0 Z) htt o (Ww n z A) p q u m v (.inl g) x y B (Rq f D) h) k
def dAv {α:Type} (R:TRep α) (zs:List α) (c:Cf):Dl:=⟨[(YI c,.c (.sl (Z8 c).nx))],[((Z8 c).nx,.own R zs (Wa (Z3 (Z8 c).M (Yr (Z9 c 0))))),((Yr (Z9 c 0)),.gone)],[],1⟩
def nAv {α:Type} (R:TRep α) (zs:List α) (c:Cf):Cf:=Xi (dAv R zs c) c
theorem eAv {α:Type} {xs ys zs i:List α} {b e:Option Int} {c:Cf} (htt:TTOk X.P tt) (R:TRep α) (n:lsl i b e=some ys) (o:YT xs ys=some zs) (k:Wc X (nAv R zs c))
  (j:(hB X.fn.ntmps c,(Z4 c).dst,(Z4 c).op,Z9 c 0,Z3 (Z8 c).M (Yr (Z9 c 0)),Z9 c 1,Z3 (Z8 c).V (Yr (Z9 c 1)),Z3 (Z8 c).M (XJ (Z3 (Z8 c).V (Yr (Z9 c 1)))),Z3 tt (Yg (Z4 c).op),Z3 tt (Xv (Z4 c).op),(Nat.beq (Yx tt (Yg (Z4 c).op)).kd 6 && (Nat.beq (Yx tt (Xv (Z4 c).op)).kd 6 || Nat.beq (Yx tt (Xv (Z4 c).op)).kd 2) && Nat.beq (Yx tt (Yg (Z4 c).op)).es R.sz && Nat.ble (Yx tt (Yg (Z4 c).op)).eb 32768))=(true,some (YI c),.call { callee:=.builtin .append,args:=#[Yu (Z4 c).op 0,Yu (Z4 c).op 1],argTypes:=#[Yg (Z4 c).op,Xv (Z4 c).op] },some (.c (.sl (Yr (Z9 c 0)))),some (.own R xs (Wa (Z3 (Z8 c).M (Yr (Z9 c 0))))),some (.c (.sl (Yr (Z9 c 1)))),some (.vw (XJ (Z3 (Z8 c).V (Yr (Z9 c 1)))) b e R.sz),some (.own R i (Wa (Z3 (Z8 c).M (XJ (Z3 (Z8 c).V (Yr (Z9 c 1))))))),some (Yx tt (Yg (Z4 c).op)),some (Yx tt (Xv (Z4 c).op)),true):=by kernel_rfl):Wc X c:=by
 simp only [Zq] at j
 have ⟨r,m,t,u,v,x,y,z,A,f,g⟩:=j
 have ⟨B,C⟩:=Xl r
 refine Wc.ev (d:=dAv R zs c) B (Xo m rfl) (fun nk E0 F0 w0 n0 Z l K p q h=>WPr.app (X:=X.var nk E0 F0 w0 n0 Z) htt o (Ww n y z) p q t m u v x A f (by rw [C];simpa using g) h) k
end
end
section
variable [LxP]
def Xg {α:Type} (R:TRep α) (n1 b p0:Nat) (vs:List Value) (xss:List (List α)) (h:Option Nat):Ms where
 fp c:=c=b\/∃ (j:Nat) (v:Value),vs[j]? = some v/\h≠some j/\YQ v=some c
 ok F w:=(∃ arr el fz,w.heap[b]? = some (.cells arr el fz)/\Ra fz arr.size/\∀ (j:Nat) (v:Value),vs[j]? = some v->arr[p0+j]? = some v)/\vs.length=xss.length/\n1<=b /\
  (∀ (j:Nat) v xs,vs[j]? = some v->xss[j]? = some xs->h≠some j->OwnR R F w xs v) /\
  (∀ (j:Nat) v c,vs[j]? = some v->h≠some j->YQ v=some c->n1<=c/\c≠b) /\
  (∀ (i j:Nat) u v c,vs[i]? = some u->vs[j]? = some v->i≠j->h≠some i->h≠some j->YQ u=some c->YQ v≠some c)/\∀ v∈vs,v.oneCell'=true
 mono:=fun g hb ⟨⟨arr,el,fz,h1,h2,h3⟩,h4,h5,h6,h7,h8,h9⟩=>⟨⟨arr,el,fz,by rw [hb b (.inl rfl)];exact h1,h2,h3⟩,h4,h5,
  fun j v xs a1 a2 a3=>(h6 j v xs a1 a2 a3).mono g fun c hc=>hb c (.inr ⟨j,v,a1,a3,hc⟩),h7,h8,h9⟩
section
variable {X:Ctx} {s:St} {ops:Array Oper} {todo:Act->World->Prop} {tt:List (Nat × TD)}
def UH (b p0 n:Nat) (v:Value):Prop:=∃ c,n<=c/\v=.slice (some ⟨b,p0,none⟩) n c
def HW:TRep Unit where
 sz:=1
 pos:=Nat.one_pos
 rep _ _ _ vs:=vs=[.slice none 0 0]
 len h:=by rw [h];rfl
 mono _ h:=h
 one h:=by rw [h];intro v hv;rw [List.mem_singleton.1 hv];rfl
def Zqd:YU HW where
 nk:=0
 cells _ _:=[.nil]
 facts _ _:=[]
 ok h j E ho:=⟨E,Env.Eqb.refl _ _,fun _=>rfl,fun _ _=>rfl,ho,h,by simp,by simp [SC.kb]⟩
 chk _ _ cs:=cs=[.nil]
 cok h E F w _:=by rw [h];rfl
 T:=ULift.{1,0} (List SC)
 lq _ _ cs:=⟨cs⟩
 rq _ _ _:=⟨[.nil]⟩
 eqn h:=congrArg ULift.down h
theorem WPr.tix {i:Nat} {e:List Nat} {o:Oper} {t:TypeId} {f:TD} {x y:Operand} {d k b p0 len:Nat} {ik:IntKind} {n:Int} (htt:TTOk X.P tt)
  (g:(decide (0<=n) && decide (n < (len:Int)))=true) (p:ops[i]? = some o) (q:YJ ops s.L o=some true) (h:o.op=.indexAddr t x y) (r:o.dst=some d)
  (u:Yq s.L x=some (.c (.sl k))) (hV:Z3 s.V k=some (.fn (UH b p0 len))) (z:Yq s.L y=some (.c (.i ik n))) (A:Z3 tt t=some f)
  (m:(Nat.blt d X.fn.ntmps && Nat.beq f.kd 6 && Nat.beq f.es 1)=true)
  (B:WPr X ops e todo ⟨(d,.c (.v (.pointer (some ⟨b,p0+n.toNat,none⟩))))::s.L,s.M,s.V,s.nx⟩):WPr X ops (i::e) todo s:=by
 simp only [Zc,decide_eq_true_eq] at m g
 obtain ⟨⟨C,D⟩,l⟩:=m
 have l:=Zd l
 refine WPr.val (v:=.c (.v (.pointer (some ⟨b,p0+n.toNat,none⟩)))) (fun E F w a j=>⟨?_,rfl⟩) p q r C B
 have ⟨el,G,H⟩:=(htt.get A).sliceOf D
 have ⟨I,_⟩:=j.eval u
 have ⟨K,_⟩:=j.eval z
 obtain ⟨Yk,_,N⟩:UH b p0 len (E.ρ k):=j.hV k _ hV
 simp only [execOp,h,I,K,Yj,Yd,N]
 refine Y9 ?_
 have:=Zek w (off:=p0) (b:=b) (len:=len) (Yk:=Yk) (k:=ik) G (H w) g.1 g.2
 rw [l] at this
 simpa using this
theorem WPr.tln {i:Nat} {e:List Nat} {o:Oper} {t:TypeId} {h:TD} {x:Operand} {d k b p0 len:Nat} (htt:TTOk X.P tt)
  (l:ops[i]? = some o) (m:YJ ops s.L o=some true) (f:o.op=.call { callee:=.builtin .len,args:=#[x],argTypes:=#[t] }) (n:o.dst=some d)
  (p:Yq s.L x=some (.c (.sl k))) (hV:Z3 s.V k=some (.fn (UH b p0 len))) (q:Z3 tt t=some h) (g:(Nat.blt d X.fn.ntmps && Nat.beq h.kd 6)=true)
  (r:WPr X ops e todo ⟨(d,.c (.i .i64 len))::s.L,s.M,s.V,s.nx⟩):WPr X ops (i::e) todo s:=by
 simp only [Zc] at g
 refine WPr.val (v:=.c (.i .i64 len)) (fun E F w a j=>⟨?_,trivial⟩) l m n g.1 r
 have ⟨el,u,A⟩:=(htt.get q).sliceOf g.2
 have ⟨y,_⟩:=j.eval p
 obtain ⟨Yk,_,z⟩:UH b p0 len (E.ρ k):=j.hV k _ hV
 refine Sm f ?_
 simp only [List.map_toArray,List.map_cons,List.map_nil,y,Yj,Yd,z]
 exact Y9 (by simp [Builtin.len_,Xm u,Builtin.lenOf,goInt])
theorem Sat.reM {E:Env} {F:YD} {w:World} {a:Act} (c:Sat X s E F w a) {M':List (Nat × MO)} (g:∀ k m,Z3 M' k=some m->k < s.nx/\m.kb s.nx) (h:∀ k m,Z3 M' k=some m->m.ok E F w k)
  (i:∀ k m,Z3 M' k=some m->∀ b,m.fp E k b->∃ d e,Z3 s.M d=some e/\e.fp E d b)
  (j:∀ k f m m',Z3 M' k=some m->Z3 M' f=some m'->k≠f->∀ b,m.fp E k b->¬ m'.fp E f b) (l:∀ k m,Z3 M' k=some m->m.isFresh=true->∀ b,m.fp E k b->X.n0<=b) :
  Sat X ⟨s.L,M',s.V,s.nx⟩ E F w a:={ c with
 wf:=⟨c.wf.hL,g,c.wf.hV⟩
 hM:=h
 dis:=j
 mF:=fun k m n b o=>let ⟨d,e,hm,hf⟩:=i k m n b o;c.mF d e hm b hf
 fresh:=l }
theorem Sat.addFn {E:Env} {F:YD} {w:World} {a:Act} (c:Sat X s E F w a) {k:Nat} {Φ:Value->Prop} (d:k < s.nx) (h:Φ (E.ρ k)):Sat X ⟨s.L,s.M,(k,.fn Φ)::s.V,s.nx⟩ E F w a:={ c with
 wf:=⟨c.wf.hL,c.wf.hM,fun j f b=>by
  rw [YC] at b
  split at b
  ·rename_i e;cases b;subst e;exact ⟨d,trivial⟩
  ·exact c.wf.hV j f b⟩
 hV:=fun j f b=>by
  rw [YC] at b
  split at b
  ·rename_i e;cases b;subst e;exact h
  ·exact c.hV j f b }
theorem Sat.tab {α:Type} (R:TRep α) {k:Nat} {xs:List Unit} {E:Env} {F:YD} {w:World} {a:Act} (r:Sat X s E F w a) (hM:Z3 s.M k=some (.own HW xs true)) (t:xs≠[]) :
  ∃ b p0,Sat X ⟨s.L,(k,.abs (Xg R X.n0 b p0 (List.replicate xs.length (.slice none 0 0)) (List.replicate xs.length []) none))::s.M,(k,.fn (UH b p0 xs.length))::s.V,s.nx⟩ E F w a:=by
 have q:OwnR HW F w xs (E.ρ k):=r.hM k _ hM
 rcases q with ⟨h,_⟩ | ⟨b,off,Yk,arr,el,fz,o,l,D,x,B,p⟩
 ·exact absurd h t
 have d:∀ {i:Nat} {v:Value},(List.replicate xs.length (Value.slice none 0 0))[i]? = some v->i < xs.length/\v=.slice none 0 0:=fun {i v} h=>by
  rw [List.getElem?_replicate] at h
  split at h
  ·rename_i y;cases h;exact ⟨y,rfl⟩
  ·cases h
 refine ⟨b,off,?_⟩
 have C:=r.setM (m':=.abs (Xg R X.n0 b off (List.replicate xs.length (.slice none 0 0)) (List.replicate xs.length []) none)) (w':=w) hM rfl rfl .m (Zp _) (fun _ _ _=>rfl) (fun c l=>by
   rcases l with l | ⟨j,v,f,_,n⟩
   ·show YQ (E.ρ k)=some c
    rw [o,l];rfl
   ·obtain ⟨_,rfl⟩:=d f;cases n) (by
   refine ⟨⟨arr,el,fz,B,x,fun j v h=>?_⟩,by simp,r.fresh k _ hM rfl b (by show YQ (E.ρ k)=some b;rw [o];rfl),fun j v ys f z _=>?_,fun j v c f _ n=>?_,fun i j u v c f _ _ _ _ n=>?_,fun v o=>by rw [List.eq_of_mem_replicate o];rfl⟩
   ·obtain ⟨A,rfl⟩:=d h
    have ⟨vs,e,g⟩:=p j () (by rw [Za A])
    have e:vs=[.slice none 0 0]:=e
    subst e
    have:=g 0 _ rfl
    simpa [HW] using this
   ·obtain ⟨_,rfl⟩:=d f
    rw [List.eq_of_mem_replicate (Zb z)]
    exact .inl ⟨rfl,rfl⟩
   ·obtain ⟨_,rfl⟩:=d f;cases n
   ·obtain ⟨_,rfl⟩:=d f;cases n) trivial (fun h=>by cases h)
 exact C.addFn (k:=k) (r.wf.hM k _ hM).1 ⟨Yk,l,o⟩
theorem Sat.take {α:Type} {R:TRep α} {b p0 j k:Nat} {vs:List Value} {xss:List (List α)} {v:Value} {xs:List α} {E:Env} {F:YD} {w:World} {a:Act} (B:Sat X s E F w a) (hM:Z3 s.M k=some (.abs (Xg R X.n0 b p0 vs xss none)))
  (y:vs[j]? = some v) (I:xss[j]? = some xs):∃ Y,Y.ρ s.nx=v /\
   Sat X ⟨s.L,(s.nx,.own R xs true)::(k,.abs (Xg R X.n0 b p0 vs xss (some j)))::s.M,(s.nx,.fn (fun u=>vs[j]? = some u))::s.V,s.nx+1⟩ Y F w a:=by
 have O:(Xg R X.n0 b p0 vs xss none).ok F w:=B.hM k _ hM
 have ⟨o1,o2,o3,T,N,U,W⟩:=O
 have H:=T j v xs y I (by simp)
 have hE:E.Eqb s.nx (E.setρ s.nx v):=E.eqb_setρ _ _ _ (Zp _)
 have A:(E.setρ s.nx v).ρ s.nx=v:=by simp [Env.setρ]
 have P:=(B.wf.hM k _ hM).1
 have x:=(B.env hE (fun i=>by
  simp only [Env.setρ];split
  ·exact W v (Zb y)
  ·exact B.one i)).nxt (n:=s.nx+1) (Nat.le_succ _)
 have o:∀ c,(Xg R X.n0 b p0 vs xss (some j)).fp c->(Xg R X.n0 b p0 vs xss none).fp c:=fun c f=>by
  rcases f with f | ⟨i,u,q,t,C⟩
  ·exact .inl f
  ·exact .inr ⟨i,u,q,by simp,C⟩
 have p:∀ c,YQ v=some c->(Xg R X.n0 b p0 vs xss none).fp c:=fun c f=>.inr ⟨j,v,y,by simp,f⟩
 have d:∀ {i:Nat} {m:MO},Z3 ((s.nx,MO.own R xs true)::(k,.abs (Xg R X.n0 b p0 vs xss (some j)))::s.M) i=some m ->
   (s.nx=i/\m=.own R xs true)\/(k=i/\m=.abs (Xg R X.n0 b p0 vs xss (some j)))\/(i≠s.nx/\i≠k/\Z3 s.M i=some m):=fun {i m} h=>by
  rw [YC] at h
  split at h
  ·rename_i e;cases h;exact .inl ⟨e,rfl⟩
  ·rename_i e1
   rw [YC] at h
   split at h
   ·rename_i e;cases h;exact .inr (.inl ⟨e,rfl⟩)
   ·rename_i e2;exact .inr (.inr ⟨fun e=>e1 e.symm,fun e=>e2 e.symm,h⟩)
 have s2:=x.reM (M':=(s.nx,.own R xs true)::(k,.abs (Xg R X.n0 b p0 vs xss (some j)))::s.M) (fun i m h=>by
   rcases d h with ⟨rfl,rfl⟩ | ⟨rfl,rfl⟩ | ⟨_,_,h⟩
   ·exact ⟨Nat.lt_succ_self _,trivial⟩
   ·exact ⟨Nat.lt_succ_of_lt P,trivial⟩
   ·have:=B.wf.hM i m h;exact ⟨Nat.lt_succ_of_lt this.1,this.2.mono (Nat.le_succ _)⟩) (fun i m h=>by
   rcases d h with ⟨rfl,rfl⟩ | ⟨rfl,rfl⟩ | ⟨_,_,h⟩
   ·show OwnR R F w xs ((E.setρ s.nx v).ρ s.nx);rw [A];exact H
   ·exact ⟨o1,o2,o3,fun i u ys q t _=>T i u ys q t (by simp),fun i u c q _ C=>N i u c q (by simp) C,fun i D u Z c q t C _ _ h6=>U i D u Z c q t C (by simp) (by simp) h6,W⟩
   ·exact x.hM i m h) (fun i m h c f=>by
   rcases d h with ⟨rfl,rfl⟩ | ⟨rfl,rfl⟩ | ⟨_,_,h⟩
   ·have f:YQ ((E.setρ s.nx v).ρ s.nx)=some c:=f
    rw [A] at f
    exact ⟨k,_,hM,p c f⟩
   ·exact ⟨_,_,hM,o c f⟩
   ·exact ⟨i,m,h,f⟩) (fun i D m m' h r l c f g=>by
   have K:∀ {c},(MO.own R xs true).fp (E.setρ s.nx v) s.nx c->YQ v=some c:=fun {c} f=>by
    have f:YQ ((E.setρ s.nx v).ρ s.nx)=some c:=f
    rwa [A] at f
   have I:∀ {c},YQ v=some c->(Xg R X.n0 b p0 vs xss (some j)).fp c->False:=fun {c} q t=>by
    rcases t with t | ⟨i,u,g1,g2,g3⟩
    ·exact (N j v c y (by simp) q).2 t
    ·exact U j i v u c y g1 (fun e=>g2 (by rw [e])) (by simp) (by simp) q g3
   rcases d h with ⟨rfl,rfl⟩ | ⟨rfl,rfl⟩ | ⟨n1,n2,h⟩
   ·rcases d r with ⟨rfl,rfl⟩ | ⟨rfl,rfl⟩ | ⟨G,z,r⟩
    ·exact l rfl
    ·exact I (K f) g
    ·exact x.dis k D _ m' hM r (fun e=>z e.symm) c (p c (K f)) g
   ·rcases d r with ⟨rfl,rfl⟩ | ⟨rfl,rfl⟩ | ⟨G,z,r⟩
    ·exact I (K g) f
    ·exact l rfl
    ·exact x.dis k D _ m' hM r l c (o c f) g
   ·rcases d r with ⟨rfl,rfl⟩ | ⟨rfl,rfl⟩ | ⟨G,z,r⟩
    ·exact x.dis i k m _ h hM n2 c f (p c (K g))
    ·exact x.dis i k m _ h hM l c f (o c g)
    ·exact x.dis i D m m' h r l c f g) (fun i m h S c f=>by
   rcases d h with ⟨rfl,rfl⟩ | ⟨rfl,rfl⟩ | ⟨_,_,h⟩
   ·have f:YQ ((E.setρ s.nx v).ρ s.nx)=some c:=f
    rw [A] at f
    exact (N j v c y (by simp) f).1
   ·cases S
   ·exact x.fresh i m h S c f)
 exact ⟨_,A,s2.addFn (k:=s.nx) (Nat.lt_succ_self _) (by rw [A];exact y)⟩
theorem WPr.tld {α:Type} {R:TRep α} (htt:TTOk X.P tt) {i:Nat} {e:List Nat} {o:Oper} {t:TypeId} {n:TD} {x:Operand} {d n1 b p0 j k q:Nat} {vs:List Value} {xss:List (List α)} {h:Option Nat}
  (r:ops[i]? = some o) (y:YJ ops s.L o=some true) (f:o.op=.load t x) (z:o.dst=some d)
  (A:Yq s.L x=some (.c (.v (.pointer (some ⟨b,p0+j,none⟩))))) (hM:Z3 s.M k=some (.abs (Xg R n1 b p0 vs xss h))) (hV:Z3 s.V q=some (.fn (fun u=>vs[j]? = some u))) (B:Nat.blt q s.nx=true)
  (C:Z3 tt t=some n) (p:(Nat.blt d X.fn.ntmps && !n.ag)=true)
  (D:WPr X ops e todo ⟨(d,.c (.sl q))::s.L,s.M,s.V,s.nx⟩):WPr X ops (i::e) todo s:=by
 simp only [Zc,Bool.not_eq_true'] at p
 have ⟨G,H⟩:=p
 refine WPr.val (v:=.c (.sl q)) (fun E F w a g=>⟨?_,YZ B⟩) r y z G D
 have ⟨I,_⟩:=g.eval A
 have l:(Xg R n1 b p0 vs xss h).ok F w:=g.hM k _ hM
 obtain ⟨⟨arr,el,fz,K,_,N⟩,_⟩:=l
 have O:vs[j]? = some (E.ρ q):=g.hV q _ hV
 have m:=H7 (P:=X.P) (w:=w) (E:=E) (htt.get C) (base:=p0+j) (off:=0) K (cs:=[.sl q]) (fun i c hi=>by
  cases i with
  | zero=>simp at hi;subst hi;exact N j _ O
  | succ i=>simp at hi) (v:=.c (.sl q)) (by unfold Ta;rw [H];rfl)
 simp only [execOp,f]
 refine Y9 ?_
 rw [I]
 simp only [Instr.loadAt,Yj,Yd,Instr.sureAddr,Sem.run_bind,Sem.run_pure,Result.andThen_ok]
 exact m
theorem Sat.putB {α:Type} {R:TRep α} {b p0 j k q:Nat} {vs:List Value} {xss:List (List α)} {v:Value} {xs:List α} {E:Env} {F:YD} {w:World} {a:Act} (l:Sat X s E F w a) (hM:Z3 s.M k=some (.abs (Xg R X.n0 b p0 vs xss (some j)))) (y:Z3 s.M q=some (.own R xs true))
  (hv:E.ρ q=v) {arr:Array Value} {el:TypeId} {fz:Nat × Nat} (hb:w.heap[b]? = some (.cells arr el fz)) (O:Ra fz arr.size) (H:∀ (i:Nat) (u:Value),(vs.set j v)[i]? = some u->arr[p0+i]? = some u) :
  Sat X ⟨s.L,(k,.abs (Xg R X.n0 b p0 (vs.set j v) (xss.set j xs) none))::(q,.gone)::s.M,s.V,s.nx⟩ E F w a:=by
 have W:(Xg R X.n0 b p0 vs xss (some j)).ok F w:=l.hM k _ hM
 have ⟨o1,o2,o3,o4,o5,o6,o7⟩:=W
 have A:OwnR R F w xs (E.ρ q):=l.hM q _ y
 rw [hv] at A
 have C:k≠q:=fun e=>by subst e;rw [hM] at y;cases y
 have Y:=(l.wf.hM k _ hM).1
 have Z:=(l.wf.hM q _ y).1
 have p:∀ {c},YQ v=some c->(MO.own R xs true).fp E q c:=fun {c} h=>by show YQ (E.ρ q)=some c;rw [hv];exact h
 have f:∀ {i:Nat} {u:Value},(vs.set j v)[i]? = some u->(j=i/\v=u)\/(i≠j/\vs[i]? = some u):=fun {i u} h=>by
  rw [List.getElem?_set] at h
  split at h
  ·rename_i e
   split at h
   ·cases h;exact .inl ⟨e,rfl⟩
   ·cases h
  ·rename_i e;exact .inr ⟨fun c=>e c.symm,h⟩
 have K:∀ {i:Nat} {ys:List α},(xss.set j xs)[i]? = some ys->(j=i/\xs=ys)\/(i≠j/\xss[i]? = some ys):=fun {i u} h=>by
  rw [List.getElem?_set] at h
  split at h
  ·rename_i e
   split at h
   ·cases h;exact .inl ⟨e,rfl⟩
   ·cases h
  ·rename_i e;exact .inr ⟨fun c=>e c.symm,h⟩
 have r:∀ {i:Nat},i≠j->(some j:Option Nat)≠some i:=fun {i} h e=>h (Zl e).symm
 have D:∀ c,(Xg R X.n0 b p0 (vs.set j v) (xss.set j xs) none).fp c->(Xg R X.n0 b p0 vs xss (some j)).fp c\/YQ v=some c:=fun c o=>by
  rcases o with o | ⟨i,u,n,_,B⟩
  ·exact .inl (.inl o)
  ·rcases f n with ⟨rfl,rfl⟩ | ⟨h,n⟩
   ·exact .inr B
   ·exact .inl (.inr ⟨i,u,n,r h,B⟩)
 have d:∀ {i:Nat} {m:MO},Z3 ((k,MO.abs (Xg R X.n0 b p0 (vs.set j v) (xss.set j xs) none))::(q,.gone)::s.M) i=some m ->
   (k=i/\m=.abs (Xg R X.n0 b p0 (vs.set j v) (xss.set j xs) none))\/(q=i/\m=.gone)\/(i≠k/\i≠q/\Z3 s.M i=some m):=fun {i m} h=>by
  rw [YC] at h
  split at h
  ·rename_i e;cases h;exact .inl ⟨e,rfl⟩
  ·rename_i e1
   rw [YC] at h
   split at h
   ·rename_i e;cases h;exact .inr (.inl ⟨e,rfl⟩)
   ·rename_i e2;exact .inr (.inr ⟨fun e=>e1 e.symm,fun e=>e2 e.symm,h⟩)
 exact l.reM (M':=(k,.abs (Xg R X.n0 b p0 (vs.set j v) (xss.set j xs) none))::(q,.gone)::s.M) (fun i m h=>by
   rcases d h with ⟨rfl,rfl⟩ | ⟨rfl,rfl⟩ | ⟨_,_,h⟩
   ·exact ⟨Y,trivial⟩
   ·exact ⟨Z,trivial⟩
   ·exact l.wf.hM i m h) (fun i m h=>by
   rcases d h with ⟨rfl,rfl⟩ | ⟨rfl,rfl⟩ | ⟨_,_,h⟩
   ·refine ⟨⟨arr,el,fz,hb,O,H⟩,by simpa using o2,o3,fun i u ys n z _=>?_,fun i u c n _ B=>?_,fun i G u u' c n z B _ _ P S=>?_,fun u hu=>?_⟩
    ·rcases f n with ⟨rfl,rfl⟩ | ⟨h,n⟩
     ·rcases K z with ⟨_,rfl⟩ | ⟨h,_⟩
      ·exact A
      ·exact absurd rfl h
     ·rcases K z with ⟨t,_⟩ | ⟨_,z⟩
      ·exact absurd t.symm h
      ·exact o4 i u ys n z (r h)
    ·rcases f n with ⟨rfl,rfl⟩ | ⟨h,n⟩
     ·exact ⟨l.fresh q _ y rfl c (p B),fun e=>l.dis k q _ _ hM y C c (.inl e) (p B)⟩
     ·exact o5 i u c n (r h) B
    ·rcases f n with ⟨rfl,rfl⟩ | ⟨h,n⟩
     ·rcases f z with ⟨e,_⟩ | ⟨t,z⟩
      ·exact B e
      ·exact l.dis k q _ _ hM y C c (.inr ⟨G,u',z,r t,S⟩) (p P)
     ·rcases f z with ⟨rfl,rfl⟩ | ⟨t,z⟩
      ·exact l.dis k q _ _ hM y C c (.inr ⟨i,u,n,r h,P⟩) (p S)
      ·exact o6 i G u u' c n z B (r h) (r t) P S
    ·rcases List.mem_or_eq_of_mem_set hu with h | h
     ·exact o7 u h
     ·rw [h];exact ZgE A
   ·trivial
   ·exact l.hM i m h) (fun i m h c o=>by
   rcases d h with ⟨rfl,rfl⟩ | ⟨rfl,rfl⟩ | ⟨_,_,h⟩
   ·rcases D c o with h | h
    ·exact ⟨_,_,hM,h⟩
    ·exact ⟨_,_,y,p h⟩
   ·exact o.elim
   ·exact ⟨i,m,h,o⟩) (fun i G m m' h t N c o x=>by
   rcases d h with ⟨rfl,rfl⟩ | ⟨rfl,rfl⟩ | ⟨n1,n2,h⟩
   ·rcases d t with ⟨rfl,rfl⟩ | ⟨rfl,rfl⟩ | ⟨U,I,t⟩
    ·exact N rfl
    ·exact x
    ·rcases D c o with g | g
     ·exact l.dis k G _ m' hM t N c g x
     ·exact l.dis q G _ m' y t (fun e=>I e.symm) c (p g) x
   ·exact o
   ·rcases d t with ⟨rfl,rfl⟩ | ⟨rfl,rfl⟩ | ⟨U,I,t⟩
    ·rcases D c x with g | g
     ·exact l.dis i k m _ h hM N c o g
     ·exact l.dis i q m _ h y n2 c o (p g)
    ·exact x
    ·exact l.dis i G m m' h t N c o x) (fun i m h T c o=>by
   rcases d h with ⟨rfl,rfl⟩ | ⟨rfl,rfl⟩ | ⟨_,_,h⟩
   ·cases T
   ·cases T
   ·exact l.fresh i m h T c o)
theorem WPr.tst {α:Type} {R:TRep α} (htt:TTOk X.P tt) {i:Nat} {B:List Nat} {o:Oper} {t:TypeId} {S:TD} {x y:Operand} {b p0 j k q:Nat} {vs:List Value} {xss:List (List α)} {xs:List α}
  (T:Nat.blt j xss.length=true) (ho:ops[i]? = some o) (U:YJ ops s.L o=some true) (W:o.op=.store t x y) (hd:o.dst=none)
  (hx:Yq s.L x=some (.c (.v (.pointer (some ⟨b,p0+j,none⟩))))) (hy:Yq s.L y=some (.c (.sl q))) (hM:Z3 s.M k=some (.abs (Xg R X.n0 b p0 vs xss (some j)))) (Y:Z3 s.M q=some (.own R xs true))
  (ht:Z3 tt t=some S) (z:Nat.beq S.sz 1=true)
  (kk:∀ v,WPr X ops B todo ⟨s.L,(k,.abs (Xg R X.n0 b p0 (vs.set j v) (xss.set j xs) none))::(q,.gone)::(k,.abs (Xg R X.n0 b p0 (vs.set j v) xss (some j)))::s.M,s.V,s.nx⟩):WPr X ops (i::B) todo s:=by
 intro E F w a G
 simp only [wpOps,ho,RV G U,if_true]
 refine .inl ?_
 have z:=Zd z
 have ⟨e1,_⟩:=G.eval hx
 have ⟨e2,_⟩:=G.eval hy
 have hok:(Xg R X.n0 b p0 vs xss (some j)).ok F w:=G.hM k _ hM
 obtain ⟨⟨arr,el,fz,h1,h2,h3⟩,o2,o3,o4,o5,o6,o7⟩:=hok
 have T:j < vs.length:=by rw [o2];exact YZ T
 have H:=h3 j _ (Za T)
 have hja:p0+j < arr.size:=(Array.getElem?_eq_some_iff.1 H).1
 have n:=G.one q
 have hst:=M5 (P:=X.P) b (p0+j) el fz [E.ρ q] 0 arr w h1 h2 (by simp;omega) (by intro u hu;rw [List.mem_singleton.1 hu];exact n)
 let d:Array Value:=(arr.toList.take (p0+j+0)++[E.ρ q]++arr.toList.drop (p0+j+0+[E.ρ q].length)).toArray
 have I:(E.ρ q).cells=#[E.ρ q]:=by
  revert n
  cases E.ρ q<;>simp [Value.oneCell',Value.cells]
 have K:(execOp a.eval o).run X.P w=.ok .skip (w.setRow b d):=by
  have hsv:(Instr.storeAt t (a.eval x) (a.eval y)).run X.P w=.ok () (w.setRow b d):=by
   rw [e1,e2]
   have hsz:(Yj E (.c (.sl q))).cells.size=S.sz:=by show (E.ρ q).cells.size=_;rw [I,z];rfl
   show (Instr.storeAt t (.pointer (some ⟨b,p0+j,none⟩)) (Yj E (.c (.sl q)))).run X.P w=_
   simp only [Instr.storeAt,Instr.sureAddr,Sem.run_bind,Sem.run_pure,Result.andThen_ok,storeVar,Zas w (htt.get ht),hsz,ne_eq,not_true_eq_false,if_false]
   have:(Yj E (.c (.sl q))).cells.toList=[E.ρ q]:=by show (E.ρ q).cells.toList=_;rw [I]
   rw [this]
   exact hst
  simp only [execOp,W,Sem.run_bind,hsv,Result.andThen_ok,Sem.run_pure]
 refine ZeH K ?_
 have N:arr.toList.length=arr.size:=Array.length_toList
 have C:d.size=arr.size:=by
  simp only [d,List.size_toArray,List.length_append,List.length_take,List.length_drop,N,Zg,List.length_nil];omega
 have f:∀ {i:Nat} {u:Value},(vs.set j (E.ρ q))[i]? = some u->(i=j/\u=E.ρ q)\/(i≠j/\vs[i]? = some u):=fun {i u} h=>by
  rw [List.getElem?_set] at h
  split at h
  ·rename_i e
   cases h;exact .inl ⟨e.symm,rfl⟩
  ·rename_i e;exact .inr ⟨fun c=>e c.symm,h⟩
 have hnj:∀ {i:Nat},i≠j->(some j:Option Nat)≠some i:=fun {i} h e=>h (Zl e).symm
 have p:∀ {i:Nat},(some j:Option Nat)≠some i->i≠j:=fun {i} h e=>h (by rw [e])
 have D:∀ (i:Nat) (u:Value),(vs.set j (E.ρ q))[i]? = some u->d[p0+i]? = some u:=fun i u h=>by
  have r:(arr.toList.take (p0+j+0)).length=p0+j:=by rw [List.length_take,N];omega
  show ((arr.toList.take (p0+j+0)++[E.ρ q]++arr.toList.drop (p0+j+0+[E.ρ q].length)).toArray)[p0+i]? = _
  simp only [List.getElem?_toArray,List.append_assoc]
  rcases f h with ⟨rfl,rfl⟩ | ⟨hn,h⟩
  ·rw [Zo (by rw [r];exact Zp _),r,Nat.sub_self];rfl
  ·have:=h3 i u h
   rcases Nat.lt_or_gt_of_ne hn with hlt | hgt
   ·rw [Zn (by rw [r];omega),List.getElem?_take,if_pos (by omega)]
    simpa using this
   ·rw [Zo (by rw [r];omega),r,Zo (by simp;omega),List.getElem?_drop]
    simp only [Zg,List.length_nil]
    rw [show p0+j+0+(0+1)+(p0+i-(p0+j)-(0+1))=p0+i by omega]
    simpa using this
 have U:W4 F w F (w.setRow b d):=⟨fun _ h=>h,fun Z hb'=>setRow_other w b Z _ (fun h=>(G.mF k _ hM b (.inl rfl)).1 (h ▸ hb'))⟩
 have O:=setRow_heap w b arr d el fz h1
 have s1:=G.setM (m':=.abs (Xg R X.n0 b p0 (vs.set j (E.ρ q)) xss (some j))) (w':=w.setRow b d) hM rfl rfl .m (by simp) (fun Z _ hne=>setRow_other w b Z _ (fun h=>hne (.inl h))) (fun c z=>by
   rcases z with z | ⟨i,u,g,l,A⟩
   ·exact .inl z
   ·rcases f g with ⟨e,_⟩ | ⟨_,g⟩
    ·exact absurd e (p l)
    ·exact .inr ⟨i,u,g,l,A⟩) (by
   refine ⟨⟨d,el,fz,O,by rw [C];exact h2,D⟩,by simpa using o2,o3,fun i u ys g l A=>?_,fun i u c g l A=>?_,fun i i' u u' c g l A g4 g5 g6=>?_,fun u hu=>?_⟩
   ·rcases f g with ⟨e,_⟩ | ⟨_,g⟩
    ·exact absurd e (p A)
    ·exact (o4 i u ys g l A).mono U fun c z=>setRow_other w b c _ (fun h=>(o5 i u c g A z).2 h)
   ·rcases f g with ⟨e,_⟩ | ⟨_,g⟩
    ·exact absurd e (p l)
    ·exact o5 i u c g l A
   ·rcases f g with ⟨e,_⟩ | ⟨_,g⟩
    ·exact absurd e (p g4)
    ·rcases f l with ⟨e,_⟩ | ⟨_,l⟩
     ·exact absurd e (p g5)
     ·exact o6 i i' u u' c g l A g4 g5 g6
   ·rcases List.mem_or_eq_of_mem_set hu with h | h
    ·exact o7 u h
    ·rw [h];exact n) trivial (fun h=>by cases h)
 have hqk:q≠k:=fun e=>by subst e;rw [hM] at Y;cases Y
 have s2:=s1.putB (q:=q) (v:=E.ρ q) (xs:=xs) (by rw [YC,if_pos rfl]) (by rw [YC,if_neg (fun e=>hqk e.symm)];exact Y) rfl O (by rw [C];exact h2) (by rw [List.set_set];exact D)
 rw [List.set_set] at s2
 rw [hd]
 exact kk _ _ _ _ _ s2
theorem Sat.frzT {α:Type} {R:TRep α} {b p0 k len:Nat} {vs:List Value} {xss:List (List α)} {E:Env} {F:YD} {w:World} {a:Act} (d:Sat X s E F w a) (hM:Z3 s.M k=some (.abs (Xg R X.n0 b p0 vs xss none))) (hV:Z3 s.V k=some (.fn (UH b p0 len)))
  (K:xss.length=len):Sat X ⟨s.L,(k,.gone)::s.M,(k,.sl (XO R) xss)::s.V,s.nx⟩ E (fun c=>F c\/(Xg R X.n0 b p0 vs xss none).fp c) w a:=by
 have P:=d.wf.hM k _ hM
 have G:W4 F w (fun c=>F c\/(Xg R X.n0 b p0 vs xss none).fp c) w:=⟨fun _ h=>.inl h,fun _ _=>rfl⟩
 have y:=d.mF k _ hM
 have H:(Xg R X.n0 b p0 vs xss none).ok F w:=d.hM k _ hM
 obtain ⟨⟨arr,el,fz,T,h2,U⟩,W,Y,Z,o5,o6,o7⟩:=H
 obtain ⟨Yk,p,hρ⟩:UH b p0 len (E.ρ k):=d.hV k _ hV
 exact {
  wf:=⟨d.wf.hL,fun j m h=>by
   rw [YC] at h
   split at h
   ·rename_i e;cases h;subst e;exact ⟨P.1,trivial⟩
   ·exact d.wf.hM j m h,fun j f h=>by
   rw [YC] at h
   split at h
   ·rename_i e;cases h;subst e;exact ⟨P.1,trivial⟩
   ·exact d.wf.hV j f h⟩
  nk:=d.nk
  defers:=d.defers
  size:=d.size
  hL:=d.hL
  hV:=fun j f h=>by
   rw [YC] at h
   split at h
   ·rename_i e;cases h;subst e
    refine .inr ⟨b,p0,Yk,arr,el,fz,by rw [hρ,K],by rw [K];exact p,.inr (.inl rfl),T,fun i x N=>?_⟩
    have hi:i < vs.length:=by rw [W];exact (List.getElem?_eq_some_iff.1 N).1
    have I:=Za hi
    refine ⟨[vs[i]],⟨vs[i],rfl,?_⟩,fun j v A=>?_⟩
    ·rcases Z i _ x I N (by simp) with ⟨o,q⟩ | ⟨b',off,r,t,C,D,o,q,_,_,g5,g6⟩
     ·exact .inl ⟨o,_,_,q⟩
     ·exact .inr ⟨b',off,r,t,C,D,o,q,.inr (.inr ⟨i,_,I,by simp,by rw [o];rfl⟩),g5,g6.mono G⟩
    ·cases j with
     | zero=>simp at A;subst A;show arr[p0+i * 1+0]? = _;simpa using U i _ I
     | succ j=>simp at A
   ·exact (d.hV j f h).mono G
  hM:=fun j m h=>by
   rw [YC] at h
   split at h
   ·cases h;trivial
   ·exact (d.hM j m h).mono G fun _ _=>rfl
  dis:=fun j S m m' h z l b O=>by
   rw [YC] at h z
   split at h
   ·cases h;exact O.elim
   ·split at z
    ·cases z;exact fun n=>n.elim
    ·exact d.dis j S m m' h z l b O
  mF:=fun j m h c g=>by
   rw [YC] at h
   split at h
   ·cases h;exact g.elim
   ·rename_i l
    have:=d.mF j m h c g
    refine ⟨?_,this.2⟩
    rintro (hF | n)
    ·exact this.1 hF
    ·exact d.dis k j _ m hM h l c n g
  fresh:=fun j m h B c g=>by
   rw [YC] at h
   split at h
   ·cases h;exact g.elim
   ·exact d.fresh j m h B c g
  hF:=fun c g=>by
   rcases g with g | g
   ·exact d.hF c g
   ·exact (y c g).2.2
  hF0:=fun c g=>.inl (d.hF0 c g)
  hF1:=fun c g=>by
   rcases g with g | g
   ·exact d.hF1 c g
   ·refine .inr ⟨?_,(y c g).2.1⟩
    rcases g with g | ⟨i,u,o,q,g3⟩
    ·rw [g];exact Y
    ·exact (o5 i u c o q g3).1
  hn0:=d.hn0
  hZ:=d.hZ
  ext:=d.ext
  link:=d.link
  one:=d.one }
end
end
section
def UF (cf:Int->Int->Int) (xs:List Int) (a b:{i:Int // i∈xs}):Bool:=Go.Proofs.ltOf (fun a b=>cf a.1 b.1) a b
abbrev Q9 (xs:List Int) (h:xs≠[]):Inhabited {i:Int // i∈xs}:=⟨⟨xs.head h,List.head_mem h⟩⟩
def WR (cf:Int->Int->Int):List Int->List Int
  | []=>[]
  | [x]=>[x]
  | x::y::r=>(@Go.Sort.pdq _ (Q9 (x::y::r) (List.cons_ne_nil _ _)) (UF cf (x::y::r)) (x::y::r).attach.toArray 0 (x::y::r).length (Go.Lib.bitLen (x::y::r).length) true true).toList.map (·.1)
abbrev U4 (xs:List Int) (a:{i:Int // i∈xs}):Value:=.int .i64 a.1
theorem Zkf (cf:Int->Int->Int) (xs:List Int) (b:xs≠[]) (e:Go.Sort.SWO (UF cf xs)) :
    (@Go.Sort.pdq _ (Q9 xs b) (UF cf xs) xs.attach.toArray 0 xs.length (Go.Lib.bitLen xs.length) true true).toList.map (·.1)=WR cf xs /\
    (@Go.Sort.pdq _ (Q9 xs b) (UF cf xs) xs.attach.toArray 0 xs.length (Go.Lib.bitLen xs.length) true true).size=xs.length:=by
  have f:xs.attach.toArray.size=xs.length:=by simp
  have h:=@Go.Sort.pdq_sorts _ (Q9 xs b) (UF cf xs) e xs.attach.toArray 0 xs.length (Go.Lib.bitLen xs.length) true true (Nat.zero_le _) (by simp) (Or.inl rfl)
  refine ⟨?_,h.1.1.trans f⟩
  match xs,b,e,h with
  | [x],b,e,h =>
    have c:=h.1.1
    generalize (@Go.Sort.pdq _ (Q9 [x] b) (UF cf [x]) [x].attach.toArray 0 [x].length (Go.Lib.bitLen [x].length) true true)=d at c
    have c:d.toList.length=1:=by rw [Array.length_toList,c];rfl
    generalize d.toList=l at c
    match l,c with
    | [⟨z,hz⟩],_=>simp at hz;subst hz;rfl
  | x::y::r,_,_,_=>rfl
theorem Zsl (cf:Int->Int->Int) (xs:List Int) (l:Go.Sort.SWO (UF cf xs)) :
  (WR cf xs).Perm xs/\∀ (i j:Nat) (a b:Int),i < j->(WR cf xs)[i]? = some a->(WR cf xs)[j]? = some b->¬ cf b a < 0:=by
 by_cases c:xs=[]
 ·subst c;exact ⟨List.Perm.refl _,fun i j a b _ h=>by simp [WR] at h⟩
 have ⟨q,m⟩:=Zkf cf xs c l
 rw [<- q]
 letI:=Q9 xs c
 have k:xs.attach.toArray.size=xs.length:=by simp
 have h:=Go.Sort.pdq_sorts (UF cf xs) l xs.attach.toArray 0 xs.length (Go.Lib.bitLen xs.length) true true (Nat.zero_le _) (by simp) (Or.inl rfl)
 generalize (Go.Sort.pdq (UF cf xs) xs.attach.toArray 0 xs.length (Go.Lib.bitLen xs.length) true true)=d at h m
 obtain ⟨⟨_,_,n⟩,r⟩:=h
 have t:d.extract 0 xs.length=d:=by rw [<- m];simp
 have u:xs.attach.toArray.extract 0 xs.length=xs.attach.toArray:=by rw [<- k,Array.extract_size]
 rw [t,u] at n
 refine ⟨?_,fun i j a b g f e=>?_⟩
 ·have:=n.map (fun a:{i:Int // i∈xs}=>a.1)
  simpa using this
 ·rw [List.getElem?_map,Zm] at f e
  obtain ⟨o,f,rfl⟩:=f
  obtain ⟨p,e,rfl⟩:=e
  have v:j < d.size:=by have:=(List.getElem?_eq_some_iff.1 e).1;simpa using this
  have:=r i j (Nat.zero_le _) g (by omega)
  have x:d[i]! = o:=by
   have:d[i]? = some o:=by simpa using f
   rw [getElem!_def,this]
  have eb:d[j]! = p:=by
   have:d[j]? = some p:=by simpa using e
   rw [getElem!_def,this]
  rw [x,eb] at this
  unfold UF Go.Proofs.ltOf at this
  simpa using this
def Gd (lt:Int->Int->Bool) (xs:List Int):Bool:=xs.all fun a => !lt a a && xs.all fun b=>xs.all fun c=>(!(lt a b && lt b c) || lt a c) && (lt a b || lt b c || !lt a c)
theorem ZsJ {d:Int->Int->Bool} {xs:List Int} (h:Gd d xs=true):Go.Sort.SWO (fun a b:{i:Int // i∈xs}=>d a.1 b.1):=by
 unfold Gd at h
 have f:=fun a e=>(Zc _ _ ▸ List.all_eq_true.1 h a e:_/\_)
 have g:=fun a e b j c k=>(Zc _ _ ▸ List.all_eq_true.1 (List.all_eq_true.1 (f a e).2 b j) c k:_/\_)
 refine ⟨fun x=>?_,fun x y z=>?_,fun x y z=>?_⟩
 ·have:=(f x.1 x.2).1
  revert this
  cases d x.1 x.1<;>simp
 ·have:=(g x.1 x.2 y.1 y.2 z.1 z.2).1
  revert this
  cases d x.1 y.1<;>cases d y.1 z.1<;>cases d x.1 z.1<;>simp
 ·have:=(g x.1 x.2 y.1 y.2 z.1 z.2).2
  revert this
  cases d x.1 y.1<;>cases d y.1 z.1<;>cases d x.1 z.1<;>simp
theorem Zks {cf:Int->Int->Int} {xs:List Int} (h:Gd (fun a b=>decide (cf a b < 0)) xs=true):Go.Sort.SWO (UF cf xs):=ZsJ h
end
section
variable [LxP]
open Go.Proofs
abbrev Mv:LxP:=⟨False⟩
theorem Ztc {w w':World} (g:w'.os=w.os) (j:w'.tape=w.tape) (n:Oq w w') (hL:¬ LxP.p) (o:w.heap.size<=w'.heap.size) (k:∀ b,b < w.heap.size->w'.heap[b]? = w.heap[b]?) :
  ∃ q os,w'=Go.Sort.grow (w.drewN q) os:=by
 refine ⟨w'.drawn-w.drawn,w'.heap.extract w.heap.size w'.heap.size,?_⟩
 have ⟨l,d⟩:=n
 have d:w.drawn<=w'.drawn:=d.elim (fun h=>(hL h).elim) id
 have ⟨e,f,c,r,m⟩:=w'
 have ⟨heap,tape,drawn,os,t⟩:=w
 simp only at g j l d o k
 subst g j l
 simp only [Go.Sort.grow,World.drewN,World.mk.injEq]
 refine ⟨?_,by first | rfl | trivial,by omega,by first | rfl | trivial,by first | rfl | trivial⟩
 apply Array.ext_getElem?
 intro i
 by_cases hi:i < heap.size
 ·rw [k i hi,Array.getElem?_append_left hi]
 ·rw [Array.getElem?_append_right (by omega),Array.getElem?_extract]
  split
  ·congr 1;omega
  ·rw [Array.getElem?_eq_none];omega
def Bh (c:Ct):Bool:=c.M0.all fun p=>match p.2 with
 | .box cs _=>Nat.blt p.1 c.nk && cs.all (SC.kbb c.nk)
 | _=>false
theorem Zqw {c:Ct} {E j:Env} {F l:YD} {w w':World} (n:c.Pre E F w) (d:c.Post E F w j l w') (hL:¬ LxP.p) (o:c.M1=c.M0) (r:Bh c=true):∃ q os,w'=Go.Sort.grow (w.drewN q) os:=by
 refine Ztc d.ext.os d.ext.tape d.ext.output hL d.ext.size fun b u=>?_
 by_cases i:c.fp0 E b
 ·have ⟨k,m,e,f⟩:=i
  have hB:=List.all_eq_true.1 r _ (Y2 e)
  cases m with
  | box cs t =>
   simp only [Zc] at hB
   have g:=n.M k _ e
   have h:=d.M k _ (by rw [o];exact e)
   have y:=d.env k (YZ hB.1)
   simp only [MO.ok] at g h
   have f:b=E.β k:=f
   rw [f,g,<- y.2,h,Q1 d.env fun x v=>SC.kbb_ok (List.all_eq_true.1 hB.2 x v)]
  | _=>cases hB
 ·exact d.ext.block b ⟨u,i⟩
section
variable {X:Ctx} {s:St} {E:Env} {F:YD} {w:World} {a:Act} {ops:Array Oper} {todo:Act->World->Prop}
theorem Zoh {xs:List Int} [Inhabited {i:Int // i∈xs}] {b off m:Nat} {d:Array {i:Int // i∈xs}} {f:Array Obj} {arr:Array Value} {el:TypeId} {fz:Nat × Nat} (e:w.heap[b]? = some (.cells arr el fz)) :
  (sortWorld (U4 xs) w b off m d f).heap[b]? = some (.cells (Go.Sort.putCells (U4 xs) off d arr) el fz):=by
 have c:b < w.heap.size:=(Array.getElem?_eq_some_iff.1 e).1
 unfold sortWorld
 rw [Go.Sort.heap_grow_old _ _ (by simpa [Go.Sort.ahead] using c)]
 simp [Go.Sort.putRow,Go.Sort.mapBlock,Go.Sort.ahead,Array.getElem?_modify,e,Go.Sort.onCells]
theorem Zoi {xs:List Int} [Inhabited {i:Int // i∈xs}] {c off m:Nat} {f:Array {i:Int // i∈xs}} {g:Array Obj} {b:Nat} (h:b < w.heap.size) (d:b≠c) :
  (sortWorld (U4 xs) w c off m f g).heap[b]? = w.heap[b]? := by
 unfold sortWorld
 rw [Go.Sort.heap_grow_old _ _ (by simpa [Go.Sort.ahead] using h)]
 have:¬ c=b:=fun e=>d e.symm
 simp [Go.Sort.putRow,Go.Sort.mapBlock,Go.Sort.ahead,Array.getElem?_modify,this]
theorem Sat.srt (z:Sat X s E F w a) {q c off Yk:Nat} {xs:List Int} [Inhabited {i:Int // i∈xs}] {fr:Bool} {arr:Array Value} {el:TypeId} {fz:Nat × Nat} (A:Z3 s.M q=some (.own (rI .i64) xs fr))
    (r:E.ρ q=.slice (some ⟨c,off,none⟩) xs.length Yk) (B:xs.length<=Yk) (C:off+Yk<=arr.size) (g:Ra fz arr.size) (k:w.heap[c]? = some (.cells arr el fz))
    (m:Nat) (t:Array Obj) (d:Array {i:Int // i∈xs}) (u:d.size=xs.length) :
    Sat X ⟨s.L,(q,.own (rI .i64) (d.toList.map (·.1)) fr)::s.M,s.V,s.nx⟩ E F (sortWorld (U4 xs) w c off m d t) a:=by
  refine z.setM (m':=.own (rI .i64) (d.toList.map (·.1)) fr) (w':=sortWorld (U4 xs) w c off m d t) A rfl rfl ⟨rfl,.inr (Nat.le_add_right _ _)⟩ (by simp [sortWorld,Go.Sort.ahead]) (fun b l n=>Zoi l fun e=>n ?_) (fun b k=>k) ?_ trivial (fun h=>h)
  · show YQ (E.ρ q)=some b
    rw [r,e];rfl
  · refine .inr ⟨c,off,Yk,Go.Sort.putCells (U4 xs) off d arr,el,fz,?_,?_,?_,?_,Zoh k,fun i x f=>?_⟩
    · rw [r];simp [u]
    · simpa [u] using B
    · simpa [Go.Sort.putCells,rI] using C
    · simpa [Go.Sort.putCells] using g
    · refine ⟨[.int .i64 x],rfl,fun j v o=>?_⟩
      rw [List.getElem?_map,Zm] at f
      obtain ⟨y,f,rfl⟩:=f
      have hi:i < d.size:=by have:=(List.getElem?_eq_some_iff.1 f).1;simpa using this
      cases j with
      | succ j=>simp at o
      | zero =>
        simp only [List.getElem?_cons_zero,Option.some.injEq] at o
        subst o
        have p:off+i * 1+0 < arr.size:=by omega
        show (Go.Sort.putCells (U4 xs) off d arr)[off+i * 1+0]? = _
        unfold Go.Sort.putCells
        rw [Array.getElem?_mapIdx,Array.getElem?_eq_getElem p]
        have D:off<=off+i * 1+0/\off+i * 1+0 < off+d.size:=⟨by omega,by omega⟩
        have G:off+i * 1+0-off=i:=by omega
        have H:d[i]! = y:=by
          have:d[i]? = some y:=by simpa using f
          rw [getElem!_def,this]
        simp only [Option.map_some,D,and_self,if_true,G,H]
def ZgZ (s2:St) (c:Ct) (l:List (Nat × SC)):Prop :=
 c.V0.map (fun p=>Ri s2 ⟨l,c.nk,s2.nx⟩ [] p.1 p.2)=c.V0.map (fun p=>some p.2) /\
 c.M0.map (fun p=>Vr s2 ⟨l,c.nk,s2.nx⟩ p.1 p.2)=c.M0.map (fun p=>some (VI ⟨l,c.nk,s2.nx⟩ p.2))/\Rh s2 c l []=true
theorem Zsm (H:Sat X s E F w a) {q j off Yk d:Nat} {xs:List Int} [Inhabited {i:Int // i∈xs}] {fr:Bool} {arr:Array Value} {el:TypeId} {fz:Nat × Nat} (I:Z3 s.M q=some (.own (rI .i64) xs fr))
    (t:E.ρ q=.slice (some ⟨j,off,none⟩) xs.length Yk) (K:xs.length<=Yk) (N:off+Yk<=arr.size) (u:Ra fz arr.size) (O:w.heap[j]? = some (.cells arr el fz))
    {f:FuncId} {o:List Nat} {cf:Int->Int->Int} {g:Int->Int->Ct} (z:∀ i k,i∈xs->k∈xs->@Fn Mv X.P f (g i k)) (l:List (Nat × SC)) (R:d < X.fn.ntmps)
    (A:∀ zs i k,ZgZ ⟨s.L,(q,.own (rI .i64) zs fr)::s.M,s.V,s.nx⟩ (g i k) l)
    (B:∀ i k,(g i k).args.map (WY ⟨l,(g i k).nk,s.nx⟩)=[.c (.i .i64 i),.c (.i .i64 k)]++UE o/\(g i k).res=.c (.i .i64 (cf i k))/\(g i k).M1=(g i k).M0/\Bh (g i k)=true) :
    CmpLays1 X.P f (X1 E o) (U4 xs) (fun a b=>cf a.1 b.1) j off xs.length w:=by
  intro m W G D x y
  have Y:=H.srt I t K N u O m W G D
  have ⟨S,T,C⟩:=A (G.toList.map (·.1)) x.1 y.1
  have ⟨a1,a2,a3,a4⟩:=B x.1 y.1
  have ⟨h,_⟩:=ZgT Y (c:=g x.1 y.1) (l:=l) (bor:=[]) (d:=d) R S T (.inl rfl) C
  have p:(g x.1 y.1).args.all (Td ⟨l,(g x.1 y.1).nk,s.nx⟩)=true:=by simp only [Rh,Zc] at C;exact C.2
  have n:((g x.1 y.1).args.map (Yj ((⟨l,(g x.1 y.1).nk,s.nx⟩:Ren).env E))).toArray=#[U4 xs x,U4 xs y]++X1 E o:=by
    have Z:(g x.1 y.1).args.map (Yj ((⟨l,(g x.1 y.1).nk,s.nx⟩:Ren).env E))=((g x.1 y.1).args.map (WY ⟨l,(g x.1 y.1).nk,s.nx⟩)).map (Yj E):=by
      rw [List.map_map]
      exact List.map_congr_left fun v t=>HD _ E (List.all_eq_true.1 p v t)
    have r:(UE o).map (Yj E)=(X1 E o).toList:=by simp [UE,X1,Yj,Yd,Function.comp_def]
    rw [Z,a1,List.map_append,r]
    apply Array.ext'
    simp [Yj,Yd]
  have:=@Fn.calls Mv _ _ _ (z x.1 y.1 x.2 y.2) _ _ _ h
  rw [n] at this
  refine this.mono ?_
  rintro e w' ⟨E',F',rfl,U⟩
  refine ⟨by rw [a2];rfl,?_⟩
  exact @Zqw Mv _ _ _ _ _ _ _ h U id a3 a4
theorem WPr.srt {ρ:Go.Shelf.Ren} {i:Nat} {B:List Nat} {o:Oper} {x y:Operand} {ts:Array TypeId} {d q:Nat} {xs:List Int} {fr:Bool} {f:FuncId} {I:List Nat} {cf:Int->Int->Int} {C:Int->Int->Ct}
  (L:SlLaysF.n6 X.P ρ) (K:xs.length < 4611686018427387904) (hO:Go.Sort.SWO (UF cf xs)) (hfn:∀ i k,i∈xs->k∈xs->@Fn Mv X.P f (C i k)) (l:List (Nat × SC))
  (ho:ops[i]? = some o) (hg:YJ ops s.L o=some true) (hop:o.op=.call { callee:=.value (.func (ρ.f 6)),args:=#[x,y],argTypes:=ts }) (hd:o.dst=some d) (N:Nat.blt d X.fn.ntmps=true)
  (hx:Yq s.L x=some (.c (.sl q))) (hy:Yq s.L y=some (.c (.cl f [] I))) (D:Z3 s.M q=some (.own (rI .i64) xs fr)) (O:D7 X.P f)
  (hck:∀ zs i k,ZgZ ⟨s.L,(q,.own (rI .i64) zs fr)::s.M,s.V,s.nx⟩ (C i k) l)
  (hct:∀ i k,(C i k).args.map (WY ⟨l,(C i k).nk,s.nx⟩)=[.c (.i .i64 i),.c (.i .i64 k)]++UE I/\(C i k).res=.c (.i .i64 (cf i k))/\(C i k).M1=(C i k).M0/\Bh (C i k)=true)
  (kk:WPr X ops B todo ⟨(d,.t [])::s.L,(q,.own (rI .i64) (WR cf xs) fr)::s.M,s.V,s.nx⟩):WPr X ops (i::B) todo s:=by
 refine WPr.op ho hg (fun E F w a g=>?_) kk
 have ⟨e1,_⟩:=g.eval hx
 have ⟨e2,_⟩:=g.eval hy
 have hev:(#[x,y]:Array Operand).map a.eval=#[E.ρ q,.func (.func f) #[] (X1 E I)]:=by
  simp [e1,e2,Yj,Yd,X1]
 have U:(execOp a.eval o).run X.P w=.ok (.enter (ρ.f 6) #[E.ρ q,.func (.func f) #[] (X1 E I)]) w:=by
  unfold execOp
  simp only [hop,resolve,Deferred.ofValue,Act.eval,invoke,Sem.run_bind,Sem.run_pure,Result.andThen_ok]
  have:=L.f6.enters rfl (#[]++(#[x,y]:Array Operand).map a.eval++#[]) w
  simpa [hev] using this
 unfold Oper.wp
 rw [U]
 show Calls _ _ _ _ _
 have G:OwnR (rI .i64) F w xs (E.ρ q):=g.hM q _ D
 have W:∀ w',Sat X ⟨s.L,(q,.own (rI .i64) (WR cf xs) fr)::s.M,s.V,s.nx⟩ E F w' a->∃ E' F',Sat X ⟨(d,.t [])::s.L,(q,.own (rI .i64) (WR cf xs) fr)::s.M,s.V,s.nx⟩ E' F' w' (a.put (some d) (.tuple #[])) :=
  fun w' h=>⟨E,F,h.setL (d:=d) (v:=.t []) (by intro v S;cases S) (YZ N)⟩
 by_cases z:xs=[]
 ·have hr:∃ p Yk,E.ρ q=.slice p 0 Yk:=by
   rcases G with ⟨_,h⟩ | ⟨b,off,Yk,_,_,_,h,_⟩
   ·exact ⟨_,_,h⟩
   ·rw [z] at h;exact ⟨_,_,h⟩
  have ⟨p,Yk,hr⟩:=hr
  rw [hr]
  refine (AnyF.slices_SortFunc_none { L with } p Yk _ w).mono ?_
  rintro e w' ⟨rfl,rfl⟩
  rw [hd]
  refine W _ ?_
  have:WR cf xs=xs:=by rw [z];rfl
  rw [this]
  exact g.reM (M':=(q,.own (rI .i64) xs fr)::s.M) (fun k m h=>by
    rw [YC] at h
    split at h
    ·rename_i e;cases h;subst e;exact g.wf.hM _ _ D
    ·exact g.wf.hM k m h) (fun k m h=>by
    rw [YC] at h
    split at h
    ·rename_i e;cases h;subst e;exact g.hM _ _ D
    ·exact g.hM k m h) (fun k m h b r=>by
    rw [YC] at h
    split at h
    ·rename_i e;cases h;subst e;exact ⟨_,_,D,r⟩
    ·exact ⟨k,m,h,r⟩) (fun k k' m m' h h' hn b r=>by
    have key:∀ {k m},Z3 ((q,MO.own (rI .i64) xs fr)::s.M) k=some m->Z3 s.M k=some m:=fun {k m} h=>by
     rw [YC] at h
     split at h
     ·rename_i e;cases h;subst e;exact D
     ·exact h
    exact g.dis k k' m m' (key h) (key h') hn b r) (fun k m h hf b r=>by
    rw [YC] at h
    split at h
    ·rename_i e;cases h;subst e;exact g.fresh _ _ D hf b r
    ·exact g.fresh k m h hf b r)
 ·rcases G with ⟨h,_⟩ | ⟨R,off,Yk,arr,el,fz,S,hc,ha,H,r,T⟩
  ·exact absurd h z
  ·letI:=Q9 xs z
   have ha:off+Yk<=arr.size:=by simpa [rI] using ha
   have A:xs.attach.toArray.size=xs.length:=by simp
   have Y:=Zsm g D S hc ha H r hfn l (YZ N) hck hct
   have hH:Go.Sort.Holds (U4 xs) w R off xs.attach.toArray:=fun j hj=>by
    have Z:j < xs.length:=by rwa [A] at hj
    have ⟨vs,h1,h2⟩:=T j xs[j] (Za Z)
    have h1:vs=[.int .i64 xs[j]]:=h1
    subst h1
    have h3:=h2 0 _ rfl
    refine ⟨?_,?_⟩
    ·unfold World.cell?
     rw [r]
     have:(xs.attach.toArray[j]! : {i:Int // i∈xs}).1=xs[j]:=by
      rw [getElem!_pos _ j (by simpa using Z)];simp
     show arr[off+j]? = some (.int .i64 _)
     rw [this]
     simpa [rI] using h3
    ·unfold World.frozen?
     rw [r]
     exact H (off+j) (by omega)
   have u:=Any.slices_SortFunc_eq L (U4 xs) (fun _=>rfl) (fun a b=>cf a.1 b.1) hO f (X1 E I) R off Yk xs.attach.toArray w (ZgS O) (by rw [A];exact Y) hH (Array.getElem?_eq_some_iff.1 r).1 (by rw [A];exact K)
   rw [A] at u
   rw [S]
   refine u.mono ?_
   rintro e w' ⟨rfl,n,os,rfl⟩
   rw [hd]
   refine W _ ?_
   have ⟨p1,p2⟩:=Zkf cf xs z hO
   have:=g.srt D S hc ha H r n os _ p2
   rw [p1] at this
   exact this
end
end
section
variable [LxP]
open Go.Proofs
theorem og {β:Type} {b:Bool} {x:Option β} {r:β} (h:(bif b then x else none)=some r):b=true/\x=some r:=by
 cases b with
 | true=>exact ⟨rfl,h⟩
 | false=>cases h
section
variable {X:Ctx} {tt:List (Nat × TD)}
def Bb (tt:List (Nat × TD)) (nt:Nat):Nat->Cf->Cf
 | 0,c=>c
 | n+1,c=>match a1 tt nt c with
  | .no=>c
  | c'=>Bb tt nt n c'
theorem ZkM (htt:TTOk X.P tt):∀ (n:Nat) {c:Cf},Wc X (Bb tt X.fn.ntmps n c)->Wc X c
 | 0,_,h=>h
 | n+1,c,h=>by
  unfold Bb at h
  split at h
  ·exact h
  ·exact ZgI htt (ZkM htt n h)
theorem wm (htt:TTOk X.P tt) {c:Cf} (k:Wc X (Bb tt X.fn.ntmps 100 c)):Wc X c:=ZkM htt 100 k
def ptV (b n:Nat):SV:=.c (.v (.pointer (some ⟨b,n,none⟩)))
def nTx (b n:Nat) (c:Cf):Cf:=Xi (d1 c (ptV b n)) c
theorem eTx {b p0 len:Nat} {n:Int} {c:Cf} (htt:TTOk X.P tt) (l:(decide (0<=n) && decide (n < (len:Int)))=true) (k:Wc X (nTx b (p0+n.toNat) c))
  (f:(hB X.fn.ntmps c,(Z4 c).dst,(Z4 c).op,Z9 c 0,Z3 (Z8 c).V (Yr (Z9 c 0)),Z9 c 1,Z3 tt (Yg (Z4 c).op),TO tt 1 c) =
   (true,some (YI c),.indexAddr (Yg (Z4 c).op) (Yu (Z4 c).op 0) (Yu (Z4 c).op 1),some (.c (.sl (Yr (Z9 c 0)))),some (.fn (UH b p0 len)),some (.c (.i (TM (Z9 c 1)) n)),some (Yx tt (Yg (Z4 c).op)),true):=by kernel_rfl):Wc X c:=by
 simp only [Zq] at f
 have ⟨p,j,q,r,t,u,v,x⟩:=f
 have ⟨y,e⟩:=Xl p
 exact Wc.ev (d:=d1 c (ptV b (p0+n.toNat))) y (Xo j rfl) (fun nk E0 F0 w0 n0 Z g K m o h=>WPr.tix (X:=X.var nk E0 F0 w0 n0 Z) htt l m o q j r t u v (Rq x e) h) k
def sl6 (tt:List (Nat × TD)) (nt:Nat) (c:Cf):Bool:=Nat.blt (YI c) nt && Nat.beq (Yx tt (Yg (Z4 c).op)).kd 6
theorem eTn {b p0 len:Nat} {c:Cf} (htt:TTOk X.P tt) (k:Wc X (Xi (d1 c (.c (.i .i64 len))) c))
  (e:(hB X.fn.ntmps c,(Z4 c).dst,(Z4 c).op,Z9 c 0,Z3 (Z8 c).V (Yr (Z9 c 0)),Z3 tt (Yg (Z4 c).op),sl6 tt X.fn.ntmps c) =
   (true,some (YI c),.call { callee:=.builtin .len,args:=#[Yu (Z4 c).op 0],argTypes:=#[Yg (Z4 c).op] },some (.c (.sl (Yr (Z9 c 0)))),some (.fn (UH b p0 len)),some (Yx tt (Yg (Z4 c).op)),true):=by kernel_rfl):Wc X c:=by
 simp only [Zq] at e
 have ⟨m,g,n,o,p,q,r⟩:=e
 have ⟨t,u⟩:=Xl m
 exact Wc.ev (d:=d1 c (.c (.i .i64 len))) t (Xo g rfl) (fun nk E0 F0 w0 n0 Z f K j l h=>WPr.tln (X:=X.var nk E0 F0 w0 n0 Z) htt j l n g o p q r h) k
def nTl (q:Nat) (c:Cf):Cf:=Xi (d1 c (.c (.sl q))) c
def ldB (tt:List (Nat × TD)) (nt q:Nat) (c:Cf):Bool:=Nat.blt (YI c) nt && !(Yx tt (Yg (Z4 c).op)).ag && Nat.blt q (Z8 c).nx
theorem eTl {α:Type} {R:TRep α} {n1 b p0:Nat} {vs:List Value} {xss:List (List α)} {h:Option Nat} (l q j:Nat) {c:Cf} (htt:TTOk X.P tt) (k:Wc X (nTl q c))
  (f:(hB X.fn.ntmps c,(Z4 c).dst,(Z4 c).op,Z9 c 0,Z3 (Z8 c).M l,Z3 (Z8 c).V q,Z3 tt (Yg (Z4 c).op),ldB tt X.fn.ntmps q c) =
   (true,some (YI c),.load (Yg (Z4 c).op) (Yu (Z4 c).op 0),some (ptV b (p0+j)),some (.abs (Xg R n1 b p0 vs xss h)),some (.fn (fun u=>vs[j]? = some u)),some (Yx tt (Yg (Z4 c).op)),true):=by kernel_rfl):Wc X c:=by
 simp only [Zq] at f
 have ⟨p,i,r,t,v,x,y,e⟩:=f
 have ⟨z,A⟩:=Xl p
 unfold ldB at e
 rw [Zc] at e
 exact Wc.ev (d:=d1 c (.c (.sl q))) z (Xo i rfl) (fun nk E0 F0 w0 n0 Z g K m n o=>WPr.tld (X:=X.var nk E0 F0 w0 n0 Z) htt m n r i t v x e.2 y e.1 o) k
def dSr (q:Nat) (zs:List Int) (c:Cf):Dl:=⟨[(YI c,.t [])],[(q,.own (rI .i64) zs (Wa (Z3 (Z8 c).M q)))],[],0⟩
def nSr (q:Nat) (zs:List Int) (c:Cf):Cf:=Xi (dSr q zs c) c
def Pt (q:Nat) (zs:List Int) (c:Cf):St:=⟨(Z8 c).L,(q,.own (rI .i64) zs (Wa (Z3 (Z8 c).M q)))::(Z8 c).M,(Z8 c).V,(Z8 c).nx⟩
theorem eSr {ρ:Go.Shelf.Ren} {q:Nat} {xs:List Int} {f:FuncId} {cf:Int->Int->Int} {b:Int->Int->Ct} {c:Cf} (L:SlLaysF.n6 X.P ρ) (g:xs.length < 4611686018427387904) (t:Go.Sort.SWO (UF cf xs))
  (h:D7 X.P f) (j:∀ i k,i∈xs->k∈xs->@Fn Mv X.P f (b i k)) (l:List (Nat × SC)) (k:Wc X (nSr q (WR cf xs) c))
  (n:(hB X.fn.ntmps c,(Z4 c).dst,(Z4 c).op,Z9 c 0,Z9 c 1,Z3 (Z8 c).M q) =
   (true,some (YI c),.call { callee:=.value (.func (ρ.f 6)),args:=#[Yu (Z4 c).op 0,Yu (Z4 c).op 1],argTypes:=Ld (Z4 c).op },some (.c (.sl q)),some (.c (.cl f [] (MF (Z9 c 1)))),some (.own (rI .i64) xs (Wa (Z3 (Z8 c).M q)))):=by kernel_rfl)
  (e:∀ (zs:List Int) (i k:Int),((b i k).V0.map (fun p=>Ri (Pt q zs c) ⟨l,(b i k).nk,(Pt q zs c).nx⟩ [] p.1 p.2),(b i k).M0.map (fun p=>Vr (Pt q zs c) ⟨l,(b i k).nk,(Pt q zs c).nx⟩ p.1 p.2),Rh (Pt q zs c) (b i k) l [],(b i k).args.map (WY ⟨l,(b i k).nk,(Pt q zs c).nx⟩),(b i k).res,(b i k).M1,Bh (b i k)) =
   ((b i k).V0.map (fun p=>some p.2),(b i k).M0.map (fun p=>some (VI ⟨l,(b i k).nk,(Pt q zs c).nx⟩ p.2)),true,[.c (.i .i64 i),.c (.i .i64 k)]++UE (MF (Z9 c 1)),.c (.i .i64 (cf i k)),(b i k).M0,true):=by intro _ _ _;kernel_rfl):Wc X c:=by
 simp only [Zq] at n e
 have ⟨y,r,z,A,B,C⟩:=n
 have ⟨D,m⟩:=Xl y
 exact Wc.ev (d:=dSr q (WR cf xs) c) D (Xo r rfl) (fun nk E0 F0 w0 n0 Z o K u v x=>WPr.srt (X:=X.var nk E0 F0 w0 n0 Z) L g t j l u v z r m A B C h
  (fun zs i k=>let ⟨a1,a2,a3,_,_,_,_⟩:=e zs i k;⟨a1,a2,a3⟩) (fun i k=>let ⟨_,_,_,a4,a5,a6,a7⟩:=e [] i k;⟨a4,a5,a6,a7⟩) x) k
def ZeA (ops:Array Oper) (n:Nat):Bool:=Nat.beq ops.size (n+1) && match ops[n]? with
 | some o=>o.after.toList.all (fun d => !Region.binds .any d || Nat.blt d.on n) && (List.range n).all fun j=>o.after.toList.any fun d=>Region.binds .any d && Nat.beq d.on j
 | none=>false
def tlC:Cf->Cf
 | .rg (some q) ops i k s=>.rg none ops i k (Vk q.2.2 s.nx q.2.1 fun _=>true)
 | _=>.no
def isT:Cf->Bool
 | .rg (some q) ops i _ _=>Nat.beq i q.2.2.length && ZeA ops i
 | _=>false
theorem eTt {c:Cf} (k:Wc X (tlC c)) (z:(isT c,X.P.follows .mixedOrders,MD c.ops.pop (Q2 c) (Re c.ops.pop.toList []) (H9 c).nx c.st.nx,MU (Q2 c) (Re c.ops.pop.toList []) (H9 c))=(true,true,true,Li (Q2 c)):=by kernel_rfl):Wc X c:=by
 simp only [Zq] at z
 have ⟨f,D,v,x⟩:=z
 cases c with
 | no=>cases f
 | co k s=>cases f
 | rg m ops i B s =>
  cases m with
  | none=>cases f
  | some q =>
   refine ⟨fun p H=>?_⟩
   have ⟨k⟩:=k
   have ⟨id,e,es⟩:=q
   replace v:MD ops.pop es (Re ops.pop.toList []) e.nx s.nx=true:=v
   replace x:MU es (Re ops.pop.toList []) e=Li es:=x
   replace p:AllLS X ops 0 es:=p
   replace f:(Nat.beq i es.length && ZeA ops i)=true:=f
   rw [Zc] at f
   have ⟨hi,b⟩:=f
   have hi:=Zd hi
   subst hi
   unfold ZeA at b
   rw [Zc] at b
   have ⟨l,b⟩:=b
   have l:=Zd l
   show WP X (.code (.region id ops true)::B) e
   intro E F w a g
   have c:=ZgU v
   refine Zen (wp_region_any D ?_)
   have y:Sat X e E F { w with drawn:=w.drawn+1 } a:=g.world rfl rfl .m (Zp _) fun _ _=>rfl
   have n:∀ j,(Array.replicate ops.size false).getD j false=false:=fun j=>by
    by_cases h:j < ops.size<;>simp [h]
   have:=ZjE (X:=X) (t:=1) (ops':=ops.pop) (todo:=rk X B) (Zp _) l (fun j r=>by rw [Array.getElem?_pop,if_pos (by omega)]) (fun j o r A=>by
    have G:=(Array.getElem?_eq_some_iff.1 A).1
    obtain rfl:j=es.length:=by omega
    rw [A] at b
    simp only [Zc] at b
    refine ⟨fun d u C=>?_,fun j r=>?_⟩
    ·have:=List.all_eq_true.1 b.1 d (by simpa using u)
     rw [C] at this
     exact YZ (by simpa using this)
    ·have ⟨d,u,h⟩:=List.any_eq_true.1 (List.all_eq_true.1 b.2 j (List.mem_range.2 r))
     rw [Zc] at h
     exact ⟨d,by simpa using u,h.1,Zd h.2⟩) p c x g.wf g.nk (fun E F w a g=>by
    have:=k E F w a g
    rw [l] at this
    rw [show es.length+1-es.length=1 by omega] at this
    exact this) es.length (Array.replicate ops.size false) E F _ a (by simp) (fun j _=>n j)
    (fun i hi=>by rw [n] at hi;cases hi) (ZcZ fun j _=>n j) (by
     have:Vk es s.nx e (fun j=>(Array.replicate ops.size false).getD j false)=⟨e.L,e.M,e.V,s.nx⟩:=by
      rw [show (fun j=>(Array.replicate ops.size false).getD j false)=fun _=>false from funext n]
      unfold Vk
      rw [Q6,Q6,Q6]
     rw [this]
     exact y.nxt c.nxle)
   rw [<- l] at this
   exact this
def nTs {α:Type} (R:TRep α) (n1 b p0:Nat) (vs:List Value) (xss:List (List α)) (kT q j:Nat) (xs:List α) (v:Value) (c:Cf):Cf :=
 Xi ⟨[],[(kT,.abs (Xg R n1 b p0 (vs.set j v) (xss.set j xs) none)),(q,.gone),(kT,.abs (Xg R n1 b p0 (vs.set j v) xss (some j)))],[],0⟩ c
theorem eTs {α:Type} {R:TRep α} {b p0:Nat} {vs:List Value} {xss:List (List α)} {xs:List α} (l q j:Nat) {c:Cf} (htt:TTOk X.P tt) (r:Nat.blt j xss.length=true) (t:∀ v,Wc X (nTs R X.n0 b p0 vs xss l q j xs v c))
  (n:(Su c,(Z4 c).dst,inC c,(Z4 c).op,Z9 c 0,Z9 c 1,Z3 (Z8 c).M l,Z3 (Z8 c).M q,Z3 tt (Yg (Z4 c).op),Nat.beq (Yx tt (Yg (Z4 c).op)).sz 1) =
   (true,none,true,.store (Yg (Z4 c).op) (Yu (Z4 c).op 0) (Yu (Z4 c).op 1),some (ptV b (p0+j)),some (.c (.sl q)),some (.abs (Xg R X.n0 b p0 vs xss (some j))),some (.own R xs true),some (Yx tt (Yg (Z4 c).op)),true):=by kernel_rfl):Wc X c:=by
 simp only [Zq] at n
 have ⟨e,u,f,x,y,z,A,B,C,g⟩:=n
 cases c with
 | co _ _=>cases f
 | no=>cases f
 | rg m ops i k s =>
  cases m with
  | some q=>cases f
  | none =>
   unfold Su at e
   rw [Zc,Zc] at e
   obtain ⟨⟨_,D⟩,h⟩:=e
   have d:ops[i]? = some (Z4 (.rg none ops i k s)):=by
    have ⟨o,d⟩:=Option.isSome_iff_exists.1 D
    have d:ops[i]? = some o:=d
    unfold Z4
    show _=some ((ops[i]?).getD default)
    rw [d];rfl
   have G:YJ ops s.L (Z4 (.rg none ops i k s))=some true:=by
    split at h
    ·rename_i b p;rw [h] at p;exact p
    ·cases h
   refine ⟨?_⟩
   show WPr X ops (List.range' i (ops.size-i)) (rk X k) s
   rw [HX d]
   exact WPr.tst htt r d G x u y z A B C g fun v=>(t v).1
def Zi5:Cf->Bool
 | .co _ _=>true
 | .rg none _ _ _ _=>true
 | _=>false
theorem Zpf {ι:Type} {f:ι->St->St} {c:Cf} (g:Zi5 c=true) (h:∀ E F w a,Sat X c.st E F w a->∃ i b d,Sat X (f i c.st) b d w a) (k:∀ i,Wc X (RZ (f i) c)):Wc X c:=by
 cases c with
 | no=>cases g
 | co j s=>exact ⟨fun E F w a e=>let ⟨i,b,d,hs'⟩:=h E F w a e;(k i).1 b d w a hs'⟩
 | rg m ops i j s =>
  cases m with
  | none=>exact ⟨fun E F w a e=>let ⟨i,b,d,hs'⟩:=h E F w a e;(k i).1 b d w a hs'⟩
  | some q=>cases g
def stG {α:Type} (R:TRep α) (n1 b p0:Nat) (kT n:Nat) (s:St):St:=⟨s.L,(kT,.abs (Xg R n1 b p0 (List.replicate n (.slice none 0 0)) (List.replicate n []) none))::s.M,(kT,.fn (UH b p0 n))::s.V,s.nx⟩
theorem eGt {α:Type} (R:TRep α) (f:Nat) {xs:List Unit} (d:xs≠[]) {c:Cf} (k:∀ q:Nat × Nat,Wc X (RZ (stG R X.n0 q.1 q.2 f xs.length) c))
  (e:(Zi5 c,Z3 c.st.M f)=(true,some (.own HW xs true)):=by kernel_rfl):Wc X c:=by
 simp only [Zq] at e
 exact Zpf e.1 (fun E F w a g=>let ⟨b,p0,h⟩:=g.tab R e.2 d;⟨(b,p0),E,F,h⟩) k
def stK {α:Type} (R:TRep α) (n1 b p0:Nat) (vs:List Value) (xss:List (List α)) (kT j:Nat) (xs:List α) (s:St):St:=⟨s.L,(s.nx,.own R xs true)::(kT,.abs (Xg R n1 b p0 vs xss (some j)))::s.M,(s.nx,.fn (fun u=>vs[j]? = some u))::s.V,s.nx+1⟩
theorem eGk {α:Type} {R:TRep α} {b p0:Nat} {vs:List Value} {xss:List (List α)} {j:Nat} {xs:List α} (d:Nat) (f:xss[j]? = some xs) {c:Cf} (k:Wc X (RZ (stK R X.n0 b p0 vs xss d j xs) c))
  (g:Z3 c.st.M d=some (.abs (Xg R X.n0 b p0 vs xss none)):=by kernel_rfl):Wc X c:=by
 refine HQ (fun E F w a i=>?_) k
 have e:(Xg R X.n0 b p0 vs xss none).ok F w:=i.hM d _ g
 have m:=e.2.1
 have n:j < vs.length:=by rw [m];exact (List.getElem?_eq_some_iff.1 f).1
 have ⟨l,_,h⟩:=i.take g (Za n) f
 exact ⟨l,F,h⟩
def stP {α:Type} (R:TRep α) (n1 b p0:Nat) (vs:List Value) (xss:List (List α)) (kT q:Nat) (s:St):St:=⟨s.L,(kT,.abs (Xg R n1 b p0 vs xss none))::(q,.gone)::s.M,s.V,s.nx⟩
theorem eGp {α:Type} {R:TRep α} {b p0:Nat} {vs:List Value} {xss:List (List α)} {j:Nat} {xs:List α} (d q:Nat) {c:Cf} (k:Wc X (RZ (stP R X.n0 b p0 vs (xss.set j xs) d q) c))
  (l:(Z3 c.st.M d,Z3 c.st.M q,Z3 c.st.V q)=(some (.abs (Xg R X.n0 b p0 vs xss (some j))),some (.own R xs true),some (.fn (fun u=>vs[j]? = some u))):=by kernel_rfl):Wc X c:=by
 simp only [Zq] at l
 have ⟨m,o,p⟩:=l
 refine HQ (fun E F w a f=>⟨E,F,?_⟩) k
 have n:vs[j]? = some (E.ρ q):=f.hV q _ p
 have g:(Xg R X.n0 b p0 vs xss (some j)).ok F w:=f.hM d _ m
 obtain ⟨⟨arr,el,fz,r,t,v⟩,_⟩:=g
 have e:vs.set j (E.ρ q)=vs:=by
  apply List.ext_getElem?
  intro i
  rw [List.getElem?_set]
  split
  ·rename_i h;subst h
   rw [if_pos (List.getElem?_eq_some_iff.1 n).1,n]
  ·rfl
 have:=f.putB m o rfl r t (by rw [e];exact v)
 rw [e] at this
 exact this
def stF {α:Type} (R:TRep α) (xss:List (List α)) (kT:Nat) (s:St):St:=⟨s.L,(kT,.gone)::s.M,(kT,.sl (XO R) xss)::s.V,s.nx⟩
theorem eGf {α:Type} {R:TRep α} {b p0 len:Nat} {vs:List Value} {xss:List (List α)} (d:Nat) (f:xss.length=len) {c:Cf} (k:Wc X (RZ (stF R xss d) c))
  (e:(Z3 c.st.M d,Z3 c.st.V d)=(some (.abs (Xg R X.n0 b p0 vs xss none)),some (.fn (UH b p0 len))):=by kernel_rfl):Wc X c:=by
 simp only [Zq] at e
 exact HQ (fun E F w a g=>⟨E,_,g.frzT e.1 e.2 f⟩) k
end
end
section
variable [LxP]
section
variable {X:Ctx} {tt:List (Nat × TD)}
def kZ (c:Cf):Nat:=XJ (Z3 (Z8 c).V (Yr (Z9 c 0)))
def stZ {α:Type} (R:TRep α) (xs':List α) (c:Cf):St:=⟨(Z8 c).L,(Yr (Z9 c 0),.own R xs' (Wa (Z3 (Z8 c).M (kZ c))))::(kZ c,.gone)::(Z8 c).M,(Z8 c).V,(Z8 c).nx⟩
def dAz {α:Type} (R:TRep α) (zs:List α) (c:Cf):Dl:=⟨[(YI c,.c (.sl (Z8 c).nx))],[((Z8 c).nx,.own R zs (Wa (Z3 (Z8 c).M (kZ c)))),(Yr (Z9 c 0),.gone),(kZ c,.gone)],[],1⟩
def nAz {α:Type} (R:TRep α) (zs:List α) (c:Cf):Cf:=Xi (dAz R zs c) c
theorem eAz {α:Type} {xs b ys zs:List α} {lo hi:Option Int} {c:Cf} (htt:TTOk X.P tt) (R:TRep α) (n:lsl xs lo hi=some b) (o:YT b ys=some zs) (k:Wc X (nAz R zs c))
  (l:(hB X.fn.ntmps c,(Z4 c).dst,(Z4 c).op,Z9 c 0,Z3 (Z8 c).V (Yr (Z9 c 0)),Z3 (Z8 c).M (kZ c),(Z3 (Z8 c).M (Yr (Z9 c 0))).isNone,Z9 c 1,Z3 tt (Yg (Z4 c).op),Z3 tt (Xv (Z4 c).op),(Nat.beq (Yx tt (Yg (Z4 c).op)).kd 6 && (Nat.beq (Yx tt (Xv (Z4 c).op)).kd 6 || Nat.beq (Yx tt (Xv (Z4 c).op)).kd 2) && Nat.beq (Yx tt (Yg (Z4 c).op)).es R.sz && Nat.ble (Yx tt (Yg (Z4 c).op)).eb 32768),M8 (stZ R b c) ys (VT (Z9 c 1))) =
   (true,some (YI c),.call { callee:=.builtin .append,args:=#[Yu (Z4 c).op 0,Yu (Z4 c).op 1],argTypes:=#[Yg (Z4 c).op,Xv (Z4 c).op] },some (.c (.sl (Yr (Z9 c 0)))),some (.vw (kZ c) lo hi R.sz),some (.own R xs (Wa (Z3 (Z8 c).M (kZ c)))),true,some (.c (VT (Z9 c 1))),some (Yx tt (Yg (Z4 c).op)),some (Yx tt (Xv (Z4 c).op)),true,M9 R ys (VT (Z9 c 1))):=by kernel_rfl):Wc X c:=by
 simp only [Zq,Option.isNone_iff_eq_none] at l
 have ⟨r,m,t,u,v,x,y,z,A,B,C,g⟩:=l
 have ⟨D,G⟩:=Xl r
 refine Wc.ev (d:=dAz R zs c) D (Xo m rfl) (fun nk E0 F0 w0 n0 Z e K p q h=>?_) k
 have f:WPr (X.var nk E0 F0 w0 n0 Z) c.ops (c.i::e) K (stZ R b c):=by
  refine WPr.app (X:=X.var nk E0 F0 w0 n0 Z) htt o (Zax g) p q t m u (by show Z3 (_::_) _=_;rw [YC,if_pos rfl]) z A B (by rw [G];simpa using C) ?_
  intro E F w a j
  refine h E F w a (j.same rfl (fun _=>rfl) (fun d=>?_) (fun _=>rfl))
  simp only [dAz,Dl.ap,stZ,List.cons_append,List.nil_append]
  simp only [YC]
  split
  ·rfl
  ·split
   ·rfl
   ·split<;>rfl
 intro E F w a j
 exact f E F w a (j.settle n v x y)
end
end
section
def Zkt (P:Program) (g:Nat) (name:String) (k:IntKind) (zs:List Int):Ms where
 fp _:=False
 ok F w:=F g/\P.globalNamed name=some g/\Lib.TabIs P w name k zs
 mono h _:=fun ⟨h1,h2,h3⟩=>⟨h.sub g h1,h2,by
  unfold Lib.TabIs World.var? at h3 ⊢
  rw [h2] at h3 ⊢
  simp only [Option.bind_some] at h3 ⊢
  rw [h.same g h1]
  exact h3⟩
end
end Go.Kx
section
namespace Go.Kx
variable [LxP]
section
variable {X:Ctx} {s:St} {ops:Array Oper} {todo:Act->World->Prop} {tt:List (Nat × TD)}
end
section
variable {X:Ctx} {tt:List (Nat × TD)}
end
end Go.Kx
namespace Go.Kx
variable [LxP]
theorem ZoT {P:Program} {f:FuncId} {c:Ct} {k:Nat} {A:Ms} (h:Fn P f c) (o:c.M0=[(k,.abs A)]) (i:c.res=.c (.b true)) (g:∀ b,¬ A.fp b) {E:Env} {w:World} (p:A.ok (UY w) w) (l:∀ k,(E.ρ k).oneCell'=true) (hV:∀ k x,Z3 c.V0 k=some x->x.ok E (UY w) w (E.ρ k)) :
  Calls P f (c.args.map (Yj E)).toArray w fun e w'=>e=.returned (.bool true)/\Ext (UY w) w w':=by
 have n:∀ j m,Z3 c.M0 j=some m->m=.abs A:=fun j m h=>by
  rw [o,YC] at h
  split at h
  ·cases h;rfl
  ·cases h
 have u:c.Pre E (UY w) w:=⟨l,fun _ h=>h,hV,fun j m h=>by rw [n j m h];exact p,fun j v m m' h _ _ b d=>by rw [n j m h] at d;exact absurd d (g b),fun j m h b d=>by rw [n j m h] at d;exact absurd d (g b)⟩
 refine (h.calls E (UY w) w u).mono fun e w' ⟨y,z,q,r⟩=>?_
 refine ⟨by rw [q,i];rfl,r.ext.mono fun b d=>⟨d,?_⟩⟩
 rintro ⟨j,m,t,d⟩
 rw [n j m t] at d
 exact g b d
end Go.Kx
namespace Go.Kx
theorem ZiC {P:Program} {w:World} {name:String} {d:DataW Unit}:∀ (l:List (String × DataW Unit)) (c:List MemPlace),DataW.LaidVars P w l c->(name,d)∈l ->
    ∃ g t cs b p,P.globalNamed name=some g/\(P.globals[g]?).map (·.type)=some t/\w.var? P name=some cs/\DataW.trod (fun _=>()) P w 0 (fun _=>true) false b t cs.toList=some (d,p)
  | [],_,_,h=>by cases h
  | (n,e)::r,c,⟨g,t,cs,b,p,q,h1,h2,h3,h4,h5,_⟩,h=>by
    rcases List.mem_cons.1 h with f | h
    · cases f
      exact ⟨g,t,cs,b,p,h1,h2,h3,h4⟩
    · exact ZiC r q h5 h
theorem ZsL {P:Program} {W:World} {name:String} {k:IntKind} {zs:List Int} {l:List (String × DataW Unit)} {i:Nat} {g:Nat} {t e:TypeId} {n:Nat} (c:laidMetH P l W) (r:(l.filter fun x=>x.2.handleName?.isSome).isEmpty=true)
    (hi:l[i]? = some (name,Lib.tabData k zs)) (d:P.globalNamed name=some g) (f:(P.globals[g]?).map (·.type)=some t) (v:P.underlying t=some (.array n e)) (y:P.underlying e=some (.int k)) (j:P.cellsOf e=1) (m:P.cellsOf t=n) :
    (Zkt P g name k zs).ok (UY W) W:=by
  have C:laidMet P l W:=by
    unfold laidMetH at c
    split at c
    · exact c
    · rename_i h;rw [h] at r;cases r
  have ⟨z,A,_⟩:=C
  have ⟨G,H,cs,u,p,o,q,b,B⟩:=ZiC l z A (Zb hi)
  obtain rfl:=Zl (d.symm.trans o)
  obtain rfl:=Zl (f.symm.trans q)
  have D:Lib.TabIs P W name k zs:=by
    unfold Lib.TabIs
    rw [b,<- Lib.cells_of_tab v y j m B]
  refine ⟨?_,d,D⟩
  show g < W.heap.size
  unfold World.var? at b
  rw [d] at b
  simp only [Option.bind_some] at b
  split at b
  · rename_i h;exact (Array.getElem?_eq_some_iff.1 h).1
  · cases b
end Go.Kx
end
section
namespace Go.Kx
variable [LxP]
def B7 (l:List Int):ByteArray:=⟨(l.map fun c=>c.toNat.toUInt8).toArray⟩
def apB (s m:ByteArray):Option ByteArray:=bif Nat.ble (s.size+m.size) lim then some (s++m) else none
theorem Zmf {s m z:ByteArray} (h:apB s m=some z):z=s++m/\s.size+m.size<=lim:=by
 unfold apB at h
 cases b:Nat.ble (s.size+m.size) lim with
 | false=>rw [b] at h;cases h
 | true=>rw [b] at h;cases h;exact ⟨rfl,Zf b⟩
def Hz (s:ByteArray) (l:List Int):Option ByteArray:=bif (l.all fun c=>decide (0<=c) && decide (c < 256)) then apB s (B7 l) else none
theorem ZmG (s m:ByteArray):Vp (s++m)=Vp s++Vp m:=by
 unfold Vp
 rw [ByteArray.data_append,Array.toList_append,List.map_append]
theorem ZmH {l:List Int} (h:(l.all fun c=>decide (0<=c) && decide (c < 256))=true):Vp (B7 l)=l:=by
 unfold Vp B7
 simp only [List.map_map]
 conv=>rhs;rw [<- List.map_id l]
 refine List.map_congr_left fun c b=>?_
 have:=List.all_eq_true.1 h c b
 simp only [Zc,decide_eq_true_eq] at this
 obtain ⟨n,rfl⟩:=Ze this.1
 have d:n < 256:=by omega
 simp [Function.comp,Nat.mod_eq_of_lt d]
theorem Zmg {s z:ByteArray} {l:List Int} (h:Hz s l=some z):Vp z=Vp s++l/\s.size+l.length<=lim:=by
 unfold Hz at h
 cases b:(l.all fun c=>decide (0<=c) && decide (c < 256)) with
 | false=>rw [b] at h;cases h
 | true =>
  rw [b] at h
  obtain ⟨rfl,d⟩:=Zmf h
  rw [ZmG,ZmH b]
  have e:(B7 l).size=l.length:=by
   show ((l.map _).toArray).size=_
   simp
  exact ⟨rfl,by omega⟩
def QB (ty:TypeId) (off:Nat) (el:TypeId):Prop:=off=0/\el=ty
theorem BufR.q {ty:TypeId} {F:YD} {w:World} {s:ByteArray} {v:Value} (h:BufR ty w s v):OwnQ (QB ty) (rI .u8) F w (Vp s) v:=by
 rcases h with ⟨h,rfl⟩ | ⟨b,Yk,arr,fz,f,g,n,k,l,m⟩
 ·refine .inl ⟨List.eq_nil_of_length_eq_zero (by rw [Mz];exact h),rfl⟩
 ·refine .inr ⟨b,0,Yk,arr,ty,fz,⟨rfl,rfl⟩,by rw [Mz];exact f,by rw [Mz];exact g,?_,k,l,fun i x c=>?_⟩
  ·show 0+Yk * 1<=_;omega
  ·refine ⟨[.int .u8 x],rfl,fun j v d=>?_⟩
   cases j with
   | succ j=>simp at d
   | zero =>
    simp only [List.getElem?_cons_zero,Option.some.injEq] at d
    subst d
    unfold Vp at c
    rw [List.getElem?_map,Zm] at c
    obtain ⟨u,e,rfl⟩:=c
    have:=m i u e
    show arr[0+i * 1+0]? = _
    rw [Nat.zero_add,Nat.mul_one,Nat.add_zero]
    exact this
theorem BufR.of {ty:TypeId} {F:YD} {w:World} {s:ByteArray} {v:Value} (h:OwnQ (QB ty) (rI .u8) F w (Vp s) v):BufR ty w s v:=by
 rcases h with ⟨h,rfl⟩ | ⟨b,off,Yk,arr,el,fz,⟨rfl,rfl⟩,d,f,g,l,m,n⟩
 ·exact .inl ⟨by rw [<- Mz,h];rfl,rfl⟩
 ·rw [Mz] at d f
  refine .inr ⟨b,Yk,arr,fz,d,f,?_,l,m,fun i u j=>?_⟩
  ·have g:0+Yk * 1<=arr.size:=g
   omega
  ·have ⟨vs,c,k⟩:=n i (u.toNat:Int) (by unfold Vp;rw [List.getElem?_map,j];rfl)
   have c:vs=[.int .u8 (u.toNat:Int)]:=c
   subst c
   have:=k 0 _ rfl
   have e:0+i * (rI .u8).sz+0=i:=by show 0+i * 1+0=i;omega
   rw [e] at this
   exact this
section
variable {X:Ctx} {s:St} {ops:Array Oper} {todo:Act->World->Prop} {tt:List (Nat × TD)}
theorem Sat.newBuf {E:Env} {F:YD} {w:World} {a:Act} {sb:ByteArray} {ty:TypeId} {v:Value} (d:Sat X s E F w a) (g:BufR ty w sb v)
  (e:∀ b,YQ v=some b->¬ F b/\¬ X.Z b/\b < w.heap.size/\∀ k m',Z3 s.M k=some m'->¬ m'.fp E k b) :
  ∃ m,m.ρ s.nx=v/\Sat X ⟨s.L,(s.nx,.buf sb ty)::s.M,s.V,s.nx+1⟩ m F w a:=by
 have l:E.Eqb s.nx (E.setρ s.nx v):=E.eqb_setρ _ _ _ (Zp _)
 have f:(E.setρ s.nx v).ρ s.nx=v:=by simp [Env.setρ]
 have t:=d.env l (fun j=>by
  simp only [Env.setρ];split
  ·rcases g with ⟨_,rfl⟩ | ⟨_,_,_,_,rfl,_⟩<;>rfl
  ·exact d.one j)
 refine ⟨_,f,t.addM' ?_ trivial ?_ (fun h=>by cases h)⟩
 ·show BufR ty w sb ((E.setρ s.nx v).ρ s.nx)
  rw [f];exact g
 ·intro b c
  have c:YQ ((E.setρ s.nx v).ρ s.nx)=some b:=c
  rw [f] at c
  have ⟨o,p,q,r⟩:=e b c
  exact ⟨o,p,q,fun k m' i n=>r k m' i ((MO.fp_eqb l (d.wf.hM k m' i).1).1 n)⟩
theorem WPr.apb (htt:TTOk X.P tt) {i:Nat} {l:List Nat} {o:Oper} {t t2:TypeId} {A n:TD} {x y:Operand} {d k ty:Nat} {B:SC} {sb z:ByteArray} {ys:List Int}
  (I:Vp z=Vp sb++ys/\sb.size+ys.length<=lim) (C:Sh X s (rI .u8) ys B) (N:ops[i]? = some o) (hg:YJ ops s.L o=some true) (O:o.op=.call { callee:=.builtin .append,args:=#[x,y],argTypes:=#[t,t2] }) (hd:o.dst=some d)
  (hx:Yq s.L x=some (.c (.sl k))) (K:Z3 s.M k=some (.buf sb ty)) (hy:Yq s.L y=some (.c B)) (ht:Z3 tt t=some A) (S:Z3 tt t2=some n)
  (Z:(Nat.blt d X.fn.ntmps && Nat.beq A.kd 6 && (Nat.beq n.kd 6 || Nat.beq n.kd 2) && Nat.beq A.es 1 && Nat.ble A.eb 32768 && Nat.beq A.el ty)=true)
  (kk:WPr X ops l todo ⟨(d,.c (.sl s.nx))::s.L,(s.nx,.buf z ty)::(k,.gone)::s.M,s.V,s.nx+1⟩):WPr X ops (i::l) todo s:=by
 refine WPr.op N hg (fun E F w a f=>?_) kk
 simp only [Zc] at Z
 obtain ⟨⟨⟨⟨⟨c1,c2⟩,T⟩,c3⟩,c4⟩,U⟩:=Z
 have U:=Zd U
 have ⟨e1,_⟩:=f.eval hx
 have ⟨e2,_⟩:=f.eval hy
 have N:BufR ty w sb (E.ρ k):=f.hM k _ K
 have u:∀ b,YQ (E.ρ k)=some b->_:=f.mF k _ K
 have W:=Ziv (htt.get S) T
 have ⟨v',w',G,H,g1,g2,g3,g4,g5,g6⟩:=ZjY (QB ty) (ty:=o.type) ⟨rfl,U⟩ W (htt.get ht) c2 (R:=rI .u8) (Zd c3) (N.q (F:=F)) (C E F w a f) (fun b p=>(u b p).1) f.hF (fun b p=>(u b p).2.2) (by rw [Mz];exact I.2) (Zf c4)
 rw [<- I.1] at H
 refine Wx (v:=v') (w':=w') (Sm O ?_) ?_
 ·simp only [List.map_toArray,List.map_cons,List.map_nil,e1,e2,Yj,Yd]
  exact Y9 G
 ·have s1:=f.setM (m':=.gone) K g1 g2 g3 g4 (fun b p r=>g5 b p (fun e=>r e)) (fun _ h=>h.elim) trivial trivial (fun h=>by cases h)
  have ⟨E',hv,s2⟩:=s1.newBuf (BufR.of H) (fun b p=>by
    have ⟨m,h2⟩:=g6 b p
    rcases m with m | m
    ·have:=u b m
     refine ⟨this.1,this.2.1,h2,fun j m' g D=>?_⟩
     simp only [YC] at g
     split at g
     ·cases g;exact D.elim
     ·rename_i r;exact f.dis k j _ m' K g r b m D
    ·refine ⟨fun hF=>absurd (f.hF b hF) (Nat.not_lt.2 m),fun I=>absurd (Zi (f.hZ b I) f.ext.size) (Nat.not_lt.2 m),h2,fun j m' g D=>?_⟩
     simp only [YC] at g
     split at g
     ·cases g;exact D.elim
     ·exact absurd (f.mF j m' g b D).2.2 (Nat.not_lt.2 m))
  have Y:=s2.setL (d:=d) (v:=.c (.sl s.nx)) (Nat.lt_succ_self _) (YZ c1)
  simp only [Yj,Yd] at Y
  rw [show E'.ρ s.nx=v' from hv] at Y
  rw [hd]
  exact ⟨E',F,Y⟩
theorem WPr.usd {i:Nat} {f:List Nat} {o:Oper} {x:Operand} {n:Array TypeId} {d k ty:Nat} {sb:ByteArray}
  (p:ops[i]? = some o) (q:YJ ops s.L o=some true) (j:o.op=.call { callee:=.builtin .unsafeSliceData,args:=#[x],argTypes:=n }) (r:o.dst=some d)
  (t:Yq s.L x=some (.c (.sl k))) (m:Z3 s.M k=some (.buf sb ty)) (e:(Nat.beq sb.size 0)=false) (u:Nat.blt d X.fn.ntmps=true)
  (y:WPr X ops f todo ⟨(d,.c (.px k 0))::s.L,s.M,s.V,s.nx⟩):WPr X ops (i::f) todo s:=by
 refine WPr.val (v:=.c (.px k 0)) (fun E F w a l=>⟨?_,(l.wf.hM k _ m).1⟩) p q r u y
 have ⟨z,_⟩:=l.eval t
 have C:BufR ty w sb (E.ρ k):=l.hM k _ m
 rcases C with ⟨h,_⟩ | ⟨b,Yk,arr,fz,A,B,D,G,H,I⟩
 ·rw [h] at e;cases e
 ·refine Sm j ?_
  simp only [List.map_toArray,List.map_cons,List.map_nil,z,Yj,Yd,A]
  have g:Yk≠0:=by
   intro h;rw [h] at B
   have:sb.size=0:=by omega
   rw [this] at e;cases e
  exact Y9 ((Go.Lib.run_unsafeSliceData_row _ _ _ _ _ _ g).trans (by simp [VQ]))
theorem WPr.bln (htt:TTOk X.P tt) {i:Nat} {e:List Nat} {o:Oper} {t:TypeId} {l:TD} {x:Operand} {d k ty:Nat} {sb:ByteArray}
  (p:ops[i]? = some o) (q:YJ ops s.L o=some true) (f:o.op=.call { callee:=.builtin .len,args:=#[x],argTypes:=#[t] }) (r:o.dst=some d)
  (u:Yq s.L x=some (.c (.sl k))) (y:Z3 s.M k=some (.buf sb ty)) (z:Z3 tt t=some l) (g:(Nat.blt d X.fn.ntmps && Nat.beq l.kd 6)=true)
  (A:WPr X ops e todo ⟨(d,.c (.i .i64 sb.size))::s.L,s.M,s.V,s.nx⟩):WPr X ops (i::e) todo s:=by
 simp only [Zc] at g
 refine WPr.val (v:=.c (.i .i64 sb.size)) (fun E F w a m=>⟨?_,trivial⟩) p q r g.1 A
 have ⟨el,n,D⟩:=(htt.get z).sliceOf g.2
 have ⟨B,_⟩:=m.eval u
 have C:BufR ty w sb (E.ρ k):=m.hM k _ y
 refine Sm f ?_
 simp only [List.map_toArray,List.map_cons,List.map_nil,B,Yj,Yd]
 rcases C with ⟨h,j⟩ | ⟨b,Yk,arr,fz,j,_⟩
 ·rw [j,h];exact Y9 (by simp [Builtin.len_,Xm n,Builtin.lenOf,goInt])
 ·rw [j];exact Y9 (by simp [Builtin.len_,Xm n,Builtin.lenOf,goInt])
theorem Zn7 {w:World} {b n:Nat} {arr:Array Value} {ty:TypeId} {fz:Nat × Nat} (a:Addr):(w.freeze a n).os=w.os/\(w.freeze a n).tape=w.tape/\(w.freeze a n).output=w.output/\(w.freeze a n).drawn=w.drawn/\(w.freeze a n).heap.size=w.heap.size/\∀ c,c≠a.block->(w.freeze a n).heap[c]? = w.heap[c]? := by
 unfold World.freeze
 split
 ·exact ⟨rfl,rfl,rfl,rfl,rfl,fun _ _=>rfl⟩
 ·refine ⟨rfl,rfl,rfl,rfl,by simp,fun c d=>?_⟩
  simp only [Array.getElem?_modify]
  rw [if_neg (Ne.symm d)]
theorem WPr.ust {i:Nat} {p:List Nat} {o:Oper} {x y:Operand} {u C:TypeId} {d k ty:Nat} {sb:ByteArray} {n:Int}
  (I:ops[i]? = some o) (K:YJ ops s.L o=some true) (z:o.op=.call { callee:=.builtin .unsafeString,args:=#[x,y],argTypes:=#[u,C] }) (N:o.dst=some d)
  (O:Yq s.L x=some (.c (.px k 0))) (R:Yq s.L y=some (.c (.i .i64 n))) (hn0:n=(sb.size:Int)) (D:Z3 s.M k=some (.buf sb ty)) (f:(Nat.beq sb.size 0 || !(Nat.ble sb.size lim))=false)
  (A:X.P.underlying u=some (.pointer ty)) (B:X.P.cellsOf ty=1) (S:Nat.blt d X.fn.ntmps=true)
  (T:WPr X ops p todo ⟨(d,.c (.s sb))::s.L,(k,.gone)::s.M,s.V,s.nx⟩):WPr X ops (i::p) todo s:=by
 refine WPr.op I K (fun E F w a t=>?_) T
 have ⟨W,_⟩:=t.eval O
 have ⟨Y,_⟩:=t.eval R
 rw [Bool.or_eq_false_iff,Bool.not_eq_false'] at f
 have ⟨f,g⟩:=f
 have g:=Zf g
 have hb:BufR ty w sb (E.ρ k):=t.hM k _ D
 rcases hb with ⟨h,_⟩ | ⟨b,Yk,arr,fz,G,h1,h2,h3,H,h5⟩
 ·rw [h] at f;cases f
 have l:sb.data.toList.length=sb.size:=by rw [Array.length_toList];rfl
 have q:=Lib.run_unsafeString_row (P:=X.P) w u C o.type ty A B b arr.size (by simp [World.shape?,H]) sb.data.toList (fun h=>by rw [<- l,h] at f;cases f) (by rw [l];omega) (by rw [l];unfold lim at g;omega) (fun j x U=>by
  rw [VR,MC H,Nat.zero_add];exact h5 j x U)
 have e3:(⟨sb.data.toList.toArray⟩:ByteArray)=sb:=by rw [Array.toArray_toList]
 rw [l,e3] at q
 have ⟨Z,f2,f3,f4,f5,f6⟩:=Zn7 (w:=w) (b:=b) (n:=sb.size) (arr:=arr) (ty:=ty) (fz:=fz) ⟨b,0,none⟩
 refine Wx (v:=.string sb) (w':=w.freeze ⟨b,0,none⟩ sb.size) (Sm z ?_) ?_
 ·simp only [List.map_toArray,List.map_cons,List.map_nil,W,Y,Yj,Yd,G,VQ,Nat.add_zero,hn0]
  exact Y9 q
 ·have s1:=t.setM (m':=.gone) (w':=w.freeze ⟨b,0,none⟩ sb.size) D Z f2 (.m f3 (by rw [f4];exact Zp _)) (by rw [f5];exact Zp _) (fun c hc r=>f6 c (fun e=>r (by show YQ (E.ρ k)=some c;rw [G,e];rfl))) (fun _ h=>h.elim) trivial trivial (fun h=>by cases h)
  have s3:=s1.setL (d:=d) (v:=.c (.s sb)) trivial (YZ S)
  rw [N]
  exact ⟨E,F,s3⟩
theorem WPr.pps {i:Nat} {e:List Nat} {o:Oper} {t el h d k off:Nat} {x y:Operand}
  (l:ops[i]? = some o) (m:YJ ops s.L o=some true) (f:o.op=.binOp .neq t x y h) (n:o.dst=some d) (p:X.P.underlying t=some (.pointer el)) (hi:(X.P.info? el).isSome=true)
  (q:Yq s.L x=some (.c (.bp k off))) (r:Yq s.L y=some (.c (.bp k off))) (u:Nat.blt d X.fn.ntmps=true)
  (z:WPr X ops e todo ⟨(d,.c (.b false))::s.L,s.M,s.V,s.nx⟩):WPr X ops (i::e) todo s:=by
 refine WPr.val (v:=.c (.b false)) (fun E F w a g=>?_) l m n u z
 have ⟨A,_⟩:=g.eval q
 have ⟨B,_⟩:=g.eval r
 have ⟨j,C⟩:=Option.isSome_iff_exists.1 hi
 refine ⟨?_,trivial⟩
 simp only [execOp,f,A,B,Yj,Yd]
 refine Y9 ?_
 have:=Lib.run_neq_ptr_same (P:=X.P) w ⟨E.β k,off,none⟩ p C
 simp only [eqGuard,Sem.run_bind,Sem.run_pure,Result.andThen_ok]
 exact this
theorem WPr.pnn {i:Nat} {e:List Nat} {o:Oper} {t el j d:Nat} {x y:Operand}
  (k:ops[i]? = some o) (l:YJ ops s.L o=some true) (f:o.op=.binOp .eql t x y j) (m:o.dst=some d) (n:X.P.underlying t=some (.pointer el))
  (p:Yq s.L x=some (.c (.v (.pointer none)))) (r:Yq s.L y=some (.c (.v (.pointer none)))) (u:Nat.blt d X.fn.ntmps=true)
  (z:WPr X ops e todo ⟨(d,.c (.b true))::s.L,s.M,s.V,s.nx⟩):WPr X ops (i::e) todo s:=by
 refine WPr.val (v:=.c (.b true)) (fun E F w a h=>?_) k l m u z
 have ⟨A,_⟩:=h.eval p
 have ⟨B,_⟩:=h.eval r
 refine ⟨?_,trivial⟩
 simp only [execOp,f,A,B,Yj,Yd]
 refine Y9 ?_
 have g:(Op.equal t (.pointer none) (.pointer none)).run X.P w=.ok true w:=by
  show (Op.equalIn (9999+1) t _ _).run X.P w=.ok true w
  generalize 9999=q
  simp only [Op.equalIn,Sem.run_bind,Xm n,Result.andThen_ok,Sem.run_pure,Option.isNone_none]
 simp only [eqGuard,Sem.run_bind,Sem.run_pure,Result.andThen_ok]
 show (do pure (Value.bool (<- Op.equal t _ _)):Sem Value).run X.P w=_
 simp only [Sem.run_bind,g,Result.andThen_ok,Sem.run_pure]
theorem Zj8 {E:Env} {F:YD} {w:World} {a:Act} (b:Sat X s E F w a) {k ty:Nat} {cs:List SC} (hM:Z3 s.M k=some (.box cs ty)):w.shape? (E.β k)=some (ty,cs.length):=by
 have:w.heap[E.β k]? = some (.cells (cs.map (Yd E)).toArray ty (0,0)):=b.hM k _ hM
 unfold World.shape?
 rw [this];simp
theorem WPr.cvu {i:Nat} {b:List Nat} {o:Oper} {e dst t d k off ty:Nat} {x:Operand} {cs:List SC}
  (q:ops[i]? = some o) (r:YJ ops s.L o=some true) (l:o.op=.convert e dst x) (u:o.dst=some d) (m:X.P.underlying e=some (.pointer t)) (n:X.P.underlying dst=some .unsafePointer)
  (hi:(X.P.info? t).map (fun j=>Nat.beq j.size 0)=some false) (y:Yq s.L x=some (.c (.bp k off))) (hM:Z3 s.M k=some (.box cs ty)) (f:Nat.blt off cs.length=true) (z:Nat.blt d X.fn.ntmps=true)
  (A:WPr X ops b todo ⟨(d,.c (.bp k off))::s.L,s.M,s.V,s.nx⟩):WPr X ops (i::b) todo s:=by
 refine WPr.val (v:=.c (.bp k off)) (fun E F w a p=>?_) q r u z A
 have ⟨B,C⟩:=p.eval y
 refine ⟨?_,C⟩
 rw [Zm] at hi
 have ⟨j,D,g⟩:=hi
 simp only [execOp,l,B,Yj,Yd]
 refine Y9 ?_
 exact Lib.run_to_unsafe (P:=X.P) w ⟨E.β k,off,none⟩ m n D (fun h=>by rw [h] at g;cases g) (Zj8 p hM) (YZ f)
theorem WPr.cvp {i:Nat} {b:List Nat} {o:Oper} {e dst t d k off ty:Nat} {x:Operand} {cs:List SC}
  (m:ops[i]? = some o) (n:YJ ops s.L o=some true) (f:o.op=.convert e dst x) (p:o.dst=some d) (g:X.P.underlying e=some .unsafePointer) (h:X.P.underlying dst=some (.pointer t))
  (hi:(X.P.info? t).isSome=true) (q:Yq s.L x=some (.c (.bp k off))) (hM:Z3 s.M k=some (.box cs ty)) (r:liesAt X.P X.P.depth ty (cs.length / X.P.cellsOf ty) off t 1=true) (u:Nat.blt d X.fn.ntmps=true)
  (y:WPr X ops b todo ⟨(d,.c (.bp k off))::s.L,s.M,s.V,s.nx⟩):WPr X ops (i::b) todo s:=by
 refine WPr.val (v:=.c (.bp k off)) (fun E F w a l=>?_) m n p u y
 have ⟨z,A⟩:=l.eval q
 refine ⟨?_,A⟩
 have ⟨j,B⟩:=Option.isSome_iff_exists.1 hi
 simp only [execOp,f,z,Yj,Yd]
 refine Y9 ?_
 exact Lib.run_from_unsafe (P:=X.P) w ⟨E.β k,off,none⟩ g h B (Zj8 l hM) r
theorem WPr.nes {i:Nat} {b:List Nat} {o:Oper} {f:FuncId} {fn:Func} {x:Operand} {j:Array TypeId} {d k off:Nat}
  (l:X.P.funcs[f]? = some fn) (e:(fn.name == "runtime.NumGoroutine")=false) (m:fn.body.isNone=true) (g:Extern.findNext fn=none) (n:Extern.find fn=some Extern.AbiNoEscape.same)
  (p:ops[i]? = some o) (q:YJ ops s.L o=some true) (h:o.op=.call { callee:=.value (.func f),args:=#[x],argTypes:=j }) (r:o.dst=some d) (t:Yq s.L x=some (.c (.bp k off))) (u:Nat.blt d X.fn.ntmps=true)
  (y:WPr X ops b todo ⟨(d,.c (.bp k off))::s.L,s.M,s.V,s.nx⟩):WPr X ops (i::b) todo s:=by
 refine WPr.val (v:=.c (.bp k off)) (fun E F w a z=>?_) p q r u y
 have ⟨A,B⟩:=z.eval t
 refine ⟨?_,B⟩
 unfold execOp
 simp only [h,resolve,Deferred.ofValue,Act.eval,invoke,Sem.run_bind,Sem.run_pure,Result.andThen_ok]
 have:(callFunc f #[Yd E (.bp k off)]).run X.P w=.ok (.value (Yd E (.bp k off))) w:=by
  rw [run_callFunc_extern l e m g n,Lib.run_noEscape];rfl
 have C:#[x].map a.eval=#[Yd E (.bp k off)]:=by simp [A,Yj]
 rw [show (#[]:Array Value)++Array.map a.eval #[x]++#[]=#[Yd E (.bp k off)] by rw [C];simp]
 exact this
end
section
variable {X:Ctx} {tt:List (Nat × TD)}
def VZ (tt:List (Nat × TD)) (j:Nat) (c:Cf):TD:=Yx tt (match j with | 0=>Yg (Z4 c).op | _=>Xv (Z4 c).op)
def BR (tt:List (Nat × TD)) (c:Cf):Bool:=Nat.beq (VZ tt 0 c).kd 6 && (Nat.beq (VZ tt 1 c).kd 6 || Nat.beq (VZ tt 1 c).kd 2) && Nat.beq (VZ tt 0 c).es 1 && Nat.ble (VZ tt 0 c).eb 32768
theorem ZoF {b d:Nat} {c:Cf} (h:BR tt c=true) (e:Nat.blt d b=true):(Nat.blt d b && Nat.beq (VZ tt 0 c).kd 6 && (Nat.beq (VZ tt 1 c).kd 6 || Nat.beq (VZ tt 1 c).kd 2) && Nat.beq (VZ tt 0 c).es 1 && Nat.ble (VZ tt 0 c).eb 32768)=true:=by
 unfold BR at h
 rw [e]
 simpa using h
def dBa (z:ByteArray) (ty:TypeId) (c:Cf):Dl:=⟨[(YI c,.c (.sl (Z8 c).nx))],[((Z8 c).nx,.buf z ty),(Yr (Z9 c 0),.gone)],[],1⟩
def nBa (z:ByteArray) (ty:TypeId) (c:Cf):Cf:=Xi (dBa z ty c) c
theorem eBa {sb z:ByteArray} {ys:List Int} {ty:TypeId} {c:Cf} (htt:TTOk X.P tt) (j:Vp z=Vp sb++ys/\sb.size+ys.length<=lim) (b:∀ nk E0 F0 w0 n0 Z,Sh (X.var nk E0 F0 w0 n0 Z) (Z8 c) (rI .u8) ys (VT (Z9 c 1))) (k:Wc X (nBa z ty c))
  (f:(hB X.fn.ntmps c,(Z4 c).dst,(Z4 c).op,Z9 c 0,Z3 (Z8 c).M (Yr (Z9 c 0)),Z9 c 1,Z3 tt (Yg (Z4 c).op),Z3 tt (Xv (Z4 c).op),BR tt c,(VZ tt 0 c).el)=(true,some (YI c),.call { callee:=.builtin .append,args:=#[Yu (Z4 c).op 0,Yu (Z4 c).op 1],argTypes:=#[Yg (Z4 c).op,Xv (Z4 c).op] },some (.c (.sl (Yr (Z9 c 0)))),some (.buf sb ty),some (.c (VT (Z9 c 1))),some (VZ tt 0 c),some (VZ tt 1 c),true,ty):=by kernel_rfl):Wc X c:=by
 simp only [Zq] at f
 have ⟨n,i,o,p,q,r,t,u,v,e⟩:=f
 have ⟨x,y⟩:=Xl n
 refine Wc.ev (d:=dBa z ty c) x (Xo i rfl) (fun nk E0 F0 w0 n0 Z g K l m h=>WPr.apb (X:=X.var nk E0 F0 w0 n0 Z) htt j (b nk E0 F0 w0 n0 Z) l m o i p q r t u ?_ h) k
 rw [Zc]
 exact ⟨ZoF v y,by rw [e];exact Nat.beq_refl _⟩
theorem eBo {sb z:ByteArray} {ys:List Int} {ty:TypeId} {fr:Bool} {q:Nat} {c:Cf} (htt:TTOk X.P tt) (d:Hz sb ys=some z) (k:Wc X (nBa z ty c))
  (b:(VT (Z9 c 1),Z3 (Z8 c).M q)=(.sl q,some (.own (rI .u8) ys fr)):=by kernel_rfl)
  (e:(hB X.fn.ntmps c,(Z4 c).dst,(Z4 c).op,Z9 c 0,Z3 (Z8 c).M (Yr (Z9 c 0)),Z9 c 1,Z3 tt (Yg (Z4 c).op),Z3 tt (Xv (Z4 c).op),BR tt c,(VZ tt 0 c).el)=(true,some (YI c),.call { callee:=.builtin .append,args:=#[Yu (Z4 c).op 0,Yu (Z4 c).op 1],argTypes:=#[Yg (Z4 c).op,Xv (Z4 c).op] },some (.c (.sl (Yr (Z9 c 0)))),some (.buf sb ty),some (.c (VT (Z9 c 1))),some (VZ tt 0 c),some (VZ tt 1 c),true,ty):=by kernel_rfl):Wc X c:=by
 simp only [Zq] at b
 exact eBa (ys:=ys) htt (Zmg d) (fun _ _ _ _ _ _=>by rw [b.1];exact Zkk b.2) k e
def nUd (c:Cf):Cf:=Xi (d1 c (.c (.px (Yr (Z9 c 0)) 0))) c
theorem eUd {sb:ByteArray} {ty:TypeId} {c:Cf} (b:(Nat.beq sb.size 0 || !(Nat.ble sb.size lim))=false) (k:Wc X (nUd c))
  (e:(hB X.fn.ntmps c,(Z4 c).dst,(Z4 c).op,Z9 c 0,Z3 (Z8 c).M (Yr (Z9 c 0)))=(true,some (YI c),.call { callee:=.builtin .unsafeSliceData,args:=#[Yu (Z4 c).op 0],argTypes:=Ld (Z4 c).op },some (.c (.sl (Yr (Z9 c 0)))),some (.buf sb ty)):=by kernel_rfl):Wc X c:=by
 simp only [Zq] at e
 have ⟨l,g,m,n,o⟩:=e
 have ⟨p,q⟩:=Xl l
 rw [Bool.or_eq_false_iff] at b
 exact Wc.ev (d:=d1 c (.c (.px (Yr (Z9 c 0)) 0))) p (Xo g rfl) (fun nk E0 F0 w0 n0 Z f K i j h=>WPr.usd (X:=X.var nk E0 F0 w0 n0 Z) i j m g n o b.1 q h) k
def nBl (sb:ByteArray) (c:Cf):Cf:=Xi (d1 c (.c (.i .i64 sb.size))) c
theorem eBl {sb:ByteArray} {ty:TypeId} {c:Cf} (htt:TTOk X.P tt) (k:Wc X (nBl sb c))
  (b:(hB X.fn.ntmps c,(Z4 c).dst,(Z4 c).op,Z9 c 0,Z3 (Z8 c).M (Yr (Z9 c 0)),Z3 tt (Yg (Z4 c).op),sl6 tt X.fn.ntmps c)=(true,some (YI c),.call { callee:=.builtin .len,args:=#[Yu (Z4 c).op 0],argTypes:=#[Yg (Z4 c).op] },some (.c (.sl (Yr (Z9 c 0)))),some (.buf sb ty),some (Yx tt (Yg (Z4 c).op)),true):=by kernel_rfl):Wc X c:=by
 simp only [Zq] at b
 have ⟨l,f,m,n,o,p,q⟩:=b
 have ⟨r,t⟩:=Xl l
 exact Wc.ev (d:=d1 c (.c (.i .i64 sb.size))) r (Xo f rfl) (fun nk E0 F0 w0 n0 Z e K g j h=>WPr.bln (X:=X.var nk E0 F0 w0 n0 Z) htt g j m f n o p q h) k
def nUs (sb:ByteArray) (c:Cf):Cf:=Xi ⟨[(YI c,.c (.s sb))],[(Yr (Z9 c 0),.gone)],[],0⟩ c
theorem eUs {sb:ByteArray} {ty:TypeId} {c:Cf} (b:(Nat.beq sb.size 0 || !(Nat.ble sb.size lim))=false) (k:Wc X (nUs sb c))
  (e:(hB X.fn.ntmps c,(Z4 c).dst,(Z4 c).op,Z9 c 0,Z9 c 1,Z3 (Z8 c).M (Yr (Z9 c 0)),X.P.underlying (Yg (Z4 c).op),X.P.cellsOf ty)=(true,some (YI c),.call { callee:=.builtin .unsafeString,args:=#[Yu (Z4 c).op 0,Yu (Z4 c).op 1],argTypes:=#[Yg (Z4 c).op,Xv (Z4 c).op] },some (.c (.px (Yr (Z9 c 0)) 0)),some (.c (.i .i64 (sb.size:Int))),some (.buf sb ty),some (.pointer ty),1):=by kernel_rfl):Wc X c:=by
 simp only [Zq] at e
 have ⟨m,g,n,o,p,q,r,t⟩:=e
 have ⟨u,v⟩:=Xl m
 exact Wc.ev (d:=⟨[(YI c,.c (.s sb))],[(Yr (Z9 c 0),.gone)],[],0⟩) u (Xo g rfl) (fun nk E0 F0 w0 n0 Z f K j l h=>WPr.ust (X:=X.var nk E0 F0 w0 n0 Z) j l n g o p rfl q b r t v h) k
def BF (s:ByteArray):Option Unit:=bif (Nat.beq s.size 0 || !(Nat.ble s.size lim)) then none else some ()
theorem Zib {s:ByteArray} {u:Unit} (h:BF s=some u):(Nat.beq s.size 0 || !(Nat.ble s.size lim))=false:=by
 unfold BF at h
 cases b:(Nat.beq s.size 0 || !(Nat.ble s.size lim)) with
 | false=>rfl
 | true=>rw [b] at h;cases h
def nBo (b:Bool) (c:Cf):Cf:=Xi (d1 c (.c (.b b))) c
theorem ePs {c:Cf} (k:Wc X (nBo false c))
  (e:(hB X.fn.ntmps c,(Z4 c).dst,(Z4 c).op,X.P.underlying (Yg (Z4 c).op),(X.P.info? (WB X.P (Yg (Z4 c).op))).isSome,Z9 c 0,Z9 c 1)=(true,some (YI c),.binOp .neq (Yg (Z4 c).op) (Yu (Z4 c).op 0) (Yu (Z4 c).op 1) (Xv (Z4 c).op),some (.pointer (WB X.P (Yg (Z4 c).op))),true,some (.c (.bp (Yr (Z9 c 0)) (Ws (Z9 c 0)))),some (.c (.bp (Yr (Z9 c 0)) (Ws (Z9 c 0))))):=by kernel_rfl):Wc X c:=by
 simp only [Zq] at e
 have ⟨l,g,m,n,o,p,q⟩:=e
 have ⟨r,t⟩:=Xl l
 exact Wc.ev (d:=d1 c (.c (.b false))) r (Xo g rfl) (fun nk E0 F0 w0 n0 Z f K i j h=>WPr.pps (X:=X.var nk E0 F0 w0 n0 Z) i j m g n o p q t h) k
theorem ePz {c:Cf} (k:Wc X (nBo true c))
  (e:(hB X.fn.ntmps c,(Z4 c).dst,(Z4 c).op,X.P.underlying (Yg (Z4 c).op),Z9 c 0,Z9 c 1)=(true,some (YI c),.binOp .eql (Yg (Z4 c).op) (Yu (Z4 c).op 0) (Yu (Z4 c).op 1) (Xv (Z4 c).op),some (.pointer (WB X.P (Yg (Z4 c).op))),some (.c (.v (.pointer none))),some (.c (.v (.pointer none)))):=by kernel_rfl):Wc X c:=by
 simp only [Zq] at e
 have ⟨l,g,m,n,o,p⟩:=e
 have ⟨q,r⟩:=Xl l
 exact Wc.ev (d:=d1 c (.c (.b true))) q (Xo g rfl) (fun nk E0 F0 w0 n0 Z f K i j h=>WPr.pnn (X:=X.var nk E0 F0 w0 n0 Z) i j m g n o p r h) k
def nSm (c:Cf):Cf:=Xi (d1 c (.c (.bp (Yr (Z9 c 0)) (Ws (Z9 c 0))))) c
theorem eCu {c:Cf} (k:Wc X (nSm c))
  (b:(hB X.fn.ntmps c,(Z4 c).dst,(Z4 c).op,X.P.underlying (Yg (Z4 c).op),X.P.underlying (Xv (Z4 c).op),(X.P.info? (WB X.P (Yg (Z4 c).op))).map (fun j=>Nat.beq j.size 0),Z9 c 0,Z3 (Z8 c).M (Yr (Z9 c 0)),Nat.blt (Ws (Z9 c 0)) (RO (Z3 (Z8 c).M (Yr (Z9 c 0)))).length)=(true,some (YI c),.convert (Yg (Z4 c).op) (Xv (Z4 c).op) (Yu (Z4 c).op 0),some (.pointer (WB X.P (Yg (Z4 c).op))),some .unsafePointer,some false,some (.c (.bp (Yr (Z9 c 0)) (Ws (Z9 c 0)))),some (.box (RO (Z3 (Z8 c).M (Yr (Z9 c 0)))) (HA (Z3 (Z8 c).M (Yr (Z9 c 0))))),true):=by kernel_rfl):Wc X c:=by
 simp only [Zq] at b
 have ⟨l,f,m,n,o,p,q,r,t⟩:=b
 have ⟨u,v⟩:=Xl l
 exact Wc.ev (d:=d1 c (.c (.bp (Yr (Z9 c 0)) (Ws (Z9 c 0))))) u (Xo f rfl) (fun nk E0 F0 w0 n0 Z e K g i h=>WPr.cvu (X:=X.var nk E0 F0 w0 n0 Z) g i m f n o p q r t v h) k
theorem eCq {c:Cf} (k:Wc X (nSm c))
  (b:(hB X.fn.ntmps c,(Z4 c).dst,(Z4 c).op,X.P.underlying (Yg (Z4 c).op),X.P.underlying (Xv (Z4 c).op),(X.P.info? (WB X.P (Xv (Z4 c).op))).isSome,Z9 c 0,Z3 (Z8 c).M (Yr (Z9 c 0)),liesAt X.P X.P.depth (HA (Z3 (Z8 c).M (Yr (Z9 c 0)))) ((RO (Z3 (Z8 c).M (Yr (Z9 c 0)))).length / X.P.cellsOf (HA (Z3 (Z8 c).M (Yr (Z9 c 0))))) (Ws (Z9 c 0)) (WB X.P (Xv (Z4 c).op)) 1)=(true,some (YI c),.convert (Yg (Z4 c).op) (Xv (Z4 c).op) (Yu (Z4 c).op 0),some .unsafePointer,some (.pointer (WB X.P (Xv (Z4 c).op))),true,some (.c (.bp (Yr (Z9 c 0)) (Ws (Z9 c 0)))),some (.box (RO (Z3 (Z8 c).M (Yr (Z9 c 0)))) (HA (Z3 (Z8 c).M (Yr (Z9 c 0))))),true):=by kernel_rfl):Wc X c:=by
 simp only [Zq] at b
 have ⟨j,f,l,m,n,o,p,q,r⟩:=b
 have ⟨t,u⟩:=Xl j
 exact Wc.ev (d:=d1 c (.c (.bp (Yr (Z9 c 0)) (Ws (Z9 c 0))))) t (Xo f rfl) (fun nk E0 F0 w0 n0 Z e K g i h=>WPr.cvp (X:=X.var nk E0 F0 w0 n0 Z) g i l f m n o p q r u h) k
theorem eNe {f:FuncId} {fn:Func} {c:Cf} (l:X.P.funcs[f]? = some fn) (b:(fn.name == "runtime.NumGoroutine")=false) (m:fn.body.isNone=true) (e:Extern.findNext fn=none) (n:Extern.find fn=some Extern.AbiNoEscape.same) (k:Wc X (nSm c))
  (g:(hB X.fn.ntmps c,(Z4 c).dst,(Z4 c).op,Z9 c 0)=(true,some (YI c),.call { callee:=.value (.func f),args:=#[Yu (Z4 c).op 0],argTypes:=Ld (Z4 c).op },some (.c (.bp (Yr (Z9 c 0)) (Ws (Z9 c 0))))):=by kernel_rfl):Wc X c:=by
 simp only [Zq] at g
 have ⟨q,j,r,t⟩:=g
 have ⟨u,v⟩:=Xl q
 exact Wc.ev (d:=d1 c (.c (.bp (Yr (Z9 c 0)) (Ws (Z9 c 0))))) u (Xo j rfl) (fun nk E0 F0 w0 n0 Z i K o p h=>WPr.nes (X:=X.var nk E0 F0 w0 n0 Z) l b m e n o p r j t v h) k
end
end Go.Kx
end
