/- Aids for the walks, part 3: a symbolic state of the machine, and that each step of the machine keeps it. -/
import Derived.KernelRfl
import Derived.Lib.Builder
import Derived.Lib.UnsafeStr
import Derived.Test.YtngljfgicoflaaaGreatDoorGuardFillCore2
set_option linter.all false
section
namespace Go.Kx
structure Dl:Type 1 where
 dL:List (Nat × SV)
 dM:List (Nat × MO)
 dV:List (Nat × VF)
 n:Nat
def Dl.ap (d:Dl) (s:St):St:=⟨d.dL++s.L,d.dM++s.M,d.dV++s.V,s.nx+d.n⟩
inductive Cf:Type 1
 | co (k:List Item) (s:St)
 | rg (m:Option (Nat × St × List Ent)) (ops:Array Oper) (i:Nat) (k:List Item) (s:St)
 | no
def Wd (X:Ctx):Cf→Prop
 | .co k s=>WP X k s
 | .rg none ops i k s=>WPr X ops (List.range' i (ops.size-i)) (rk X k) s
 | .rg (some q) ops i k _=>AllLS X ops 0 q.2.2→q.2.2.length=i→WP X (.code (.region q.1 ops true)::k) q.2.1
 | .no=>False
structure Wc (X:Ctx) (c:Cf):Prop where
 h:Wd X c
def readsR (ops:Array Oper) (o:Oper):List Nat:=(match o.guard with
 | none=>[]
 | some (j,_)=>match ops[j]? with
  | some oj=>oj.dst.toList
  | none=>[])++tmpsO o.op.operands.toList
where tmpsO:List Operand→List Nat
 | []=>[]
 | .tmp t::r=>t::tmpsO r
 | _::r=>tmpsO r
def pickR (L:List (Nat × SV)):List Nat→List (Nat × SV)
 | []=>[]
 | d::r=>match look L d with
  | some v=>(d,v)::pickR L r
  | none=>pickR L r
def keysC:SC→List Nat
 | .bp k _ | .sp k _ _ _ | .sl k | .px k _=>[k]
 | .cl _ fs ks=>fs++ks
 | _=>[]
def keysL:List SC→List Nat
 | []=>[]
 | c::r=>keysC c++keysL r
def cellsV:SV→List SC
 | .c x=>[x]
 | .a cs=>cs
 | .t vs=>vs.flatMap fun v=>match v with | .inl x=>[x] | .inr cs=>cs
 | .u=>[]
def keysP:List (Nat × SV)→List Nat
 | []=>[]
 | q::r=>keysL (cellsV q.2)++keysP r
def subR {α:Type _} (ks:List Nat):List (Nat × α)→List Nat→List (Nat × α)
 | [],_=>[]
 | (k,v)::r,seen=>bif memB k ks && !(memB k seen) then (k,v)::subR ks r (k::seen) else subR ks r seen
def baseK (V:List (Nat × VF)):List Nat→List Nat
 | []=>[]
 | k::r=>match look V k with
  | some (.el j _)=>k::j::baseK V r
  | some (.vw j _ _ _)=>k::j::baseK V r
  | _=>k::baseK V r
def deepK (M:List (Nat × MO)) (V:List (Nat × VF)):Nat→List Nat→List Nat→List Nat
 | 0,_,acc=>acc
 | _+1,[],acc=>acc
 | n+1,k::r,acc=>bif memB k acc then deepK M V n r acc else
  deepK M V n ((match look M k with | some (.box cs _)=>keysL cs | _=>[])++(match look V k with | some (.el j _)=>[j] | some (.vw j _ _ _)=>[j] | some (.pl cs)=>keysL cs | _=>[])++r) (k::acc)
def isCallO:Op→Bool
 | .call c=>match c.callee with
  | .value _=>true
  | _=>false
 | _=>false
def noMem:Op→Bool
 | .move _ | .assign _ | .pick _ _ _ | .unOp _ _ _ | .extract _ _ | .field _ _ _ | .build _ _ | .alloc _ | .box _ _ | .nilCheck _ | .fieldAddr _ _ _ | .makeFunc _ _ _=>true
 | _=>false
def redS (ops:Array Oper) (o:Oper) (s:St):St :=
 let L:=pickR s.L (readsR ops o)
 let ks:=bif isCallO o.op then deepK s.M s.V 10000 (keysP L) [] else baseK s.V (keysP L)
 ⟨L,bif noMem o.op then [] else subR ks s.M [],subR ks s.V [],s.nx⟩
def entD (sv:St) (d:Dl):Ent:=⟨sv.L,sv.V,sv.M.filter (fun q=>memK q.1 d.dM),sv.M.filter (fun q => !(memK q.1 d.dM)),sv.nx,d.dL,d.dV,d.dM,sv.nx+d.n⟩
def vwS (m:Option (Nat × St × List Ent)) (ops:Array Oper) (o:Oper) (s:St):St:=match m with
 | none=>s
 | some _=>redS ops o s
def stepR (m:Option (Nat × St × List Ent)) (ops:Array Oper) (i:Nat) (k:List Item) (s sv:St) (d:Dl):Cf:=match m with
 | none=>.rg none ops (i+1) k (d.ap s)
 | some q=>.rg (some (q.1,q.2.1,q.2.2++[entD sv d])) ops (i+1) k (d.ap s)
theorem AllLS.snoc {X:Ctx} {ops:Array Oper}:∀ {l:List Ent} {i:Nat} {e:Ent},AllLS X ops i l→LS X ops (i+l.length) e→AllLS X ops i (l++[e])
 | [],i,e,_,h=>.cons h .nil
 | x::l,i,e,.cons h1 h2,h=>.cons h1 (AllLS.snoc h2 (by rw [show i+1+l.length=i+(x::l).length by simp;omega];exact h))
theorem look_filterK {α:Type _} {p:Nat→Bool}:∀ {l:List (Nat × α)} {k:Nat},look (l.filter fun q=>p q.1) k=bif p k then look l k else none
 | [],k=>by cases p k<;>rfl
 | (j,u)::r,k=>by
  rw [List.filter_cons]
  simp only []
  rw [look_cons]
  split
  ·rename_i hj
   rw [look_cons,look_filterK]
   split
   ·rename_i e;subst e;rw [hj];rfl
   ·rfl
  ·rename_i hj
   rw [look_filterK]
   split
   ·rename_i e;subst e;simp only [Bool.not_eq_true] at hj;rw [hj];rfl
   ·rfl
theorem LS.ent {X:Ctx} {ops:Array Oper} {i:Nat} {o:Oper} {sv:St} {d:Dl} (ho:ops[i]? = some o) (hg:guardV ops sv.L o=some true) (hd:d.dL.map (·.1)=o.dst.toList)
    (st:∀ nk E0 F0 w0 n0 Z E F w a,Sat (X.var nk E0 F0 w0 n0 Z) sv E F w a→o.wp X.P a w (fun a' w'=>∃ E' F',Sat (X.var nk E0 F0 w0 n0 Z) (d.ap sv) E' F' w' a') (fun _ _ _=>False)):LS X ops i (entD sv d):=by
  refine ⟨o,ho,hd,.inl ⟨hg,fun nk E0 F0 w0 n0 Z E F w a hs=>?_⟩⟩
  have key:∀ k m,look sv.M k=some m→look ((entD sv d).W++(entD sv d).R) k=some m:=fun k m h=>by
    show look (sv.M.filter (fun q=>memK q.1 d.dM)++sv.M.filter (fun q => !(memK q.1 d.dM))) k=some m
    rw [look_append,look_filterK (p:=fun k=>memK k d.dM),look_filterK (p:=fun k => !(memK k d.dM))]
    cases hq:memK k d.dM with
    | true=>simp only [cond_true,h]
    | false=>simp only [cond_false,Bool.not_false,cond_true,h]
  have hs1:Sat (X.var nk E0 F0 w0 n0 Z) sv E F w a:=hs.weaken rfl (fun _ _ h=>h) key (fun _ _ h=>h)
  refine Oper.wp_imp (fun a' w' hq=>?_) (st nk E0 F0 w0 n0 Z E F w a hs1)
  obtain ⟨E',F',hs2⟩:=hq
  refine ⟨E',F',hs2.weaken rfl (fun e v h=>?_) (fun k m h=>?_) (fun k f h=>?_)⟩
  · have h:look d.dL e=some v:=h
    show look (d.dL++sv.L) e=some v
    rw [look_append,h]
  · have h:look (d.dM++sv.M.filter (fun q => !(memK q.1 d.dM))) k=some m:=h
    show look (d.dM++sv.M) k=some m
    rw [look_append] at h ⊢
    cases hl:look d.dM k with
    | some v=>rw [hl] at h;exact h
    | none =>
      rw [hl] at h
      simp only [] at h ⊢
      rw [look_filterK (p:=fun k => !(memK k d.dM))] at h
      cases hq:memK k d.dM with
      | true=>rw [hq] at h;cases h
      | false=>rw [hq] at h;exact h
  · have h:look d.dV k=some f:=h
    show look (d.dV++sv.V) k=some f
    rw [look_append,h]
section
variable {X:Ctx} {tt:List (Nat × TD)}
theorem range_cons {ops:Array Oper} {i:Nat} {o:Oper} (h:ops[i]? = some o):List.range' i (ops.size-i)=i::List.range' (i+1) (ops.size-(i+1)):=by
 have:=(Array.getElem?_eq_some_iff.1 h).1
 rw [show ops.size-i=(ops.size-(i+1))+1 by omega,List.range'_succ]
theorem stepR_ok {m:Option (Nat × St × List Ent)} {ops:Array Oper} {i:Nat} {k:List Item} {s:St} {o:Oper} {d:Dl} (ho:ops[i]? = some o) (hg:guardV ops (vwS m ops o s).L o=some true) (hd:d.dL.map (·.1)=o.dst.toList)
    (st:∀ nk E0 F0 w0 n0 Z E F w a,Sat (X.var nk E0 F0 w0 n0 Z) (vwS m ops o s) E F w a→o.wp X.P a w (fun a' w'=>∃ E' F',Sat (X.var nk E0 F0 w0 n0 Z) (d.ap (vwS m ops o s)) E' F' w' a') (fun _ _ _=>False))
    (h:Wc X (stepR m ops i k s (vwS m ops o s) d)):Wc X (.rg m ops i k s):=by
  obtain ⟨h⟩:=h
  refine ⟨?_⟩
  cases m with
  | none =>
    show WPr X ops (List.range' i (ops.size-i)) (rk X k) s
    rw [range_cons ho]
    exact WPr.op ho hg (st X.nk X.E0 X.F0 X.w0 X.n0 X.Z) h
  | some q =>
    intro hA hl
    refine h (hA.snoc ?_) (by simp [hl])
    rw [Nat.zero_add,hl]
    exact LS.ent ho hg hd st
theorem skipR_ok {m:Option (Nat × St × List Ent)} {ops:Array Oper} {i:Nat} {k:List Item} {s:St} {o:Oper} {d:Nat} (ho:ops[i]? = some o) (hg:guardV ops (vwS m ops o s).L o=some false) (hd:o.dst=some d) (hn:Nat.blt d X.fn.ntmps=true)
  (h:Wc X (stepR m ops i k s (vwS m ops o s) ⟨[(d,.u)],[],[],0⟩)):Wc X (.rg m ops i k s):=by
 obtain ⟨h⟩:=h
 refine ⟨?_⟩
 cases m with
 | none =>
  show WPr X ops (List.range' i (ops.size-i)) (rk X k) s
  rw [range_cons ho]
  exact WPr.skip ho hg hd (blt_lt hn) h
 | some q =>
  intro hA hl
  refine h (hA.snoc ?_) (by simp [hl])
  rw [Nat.zero_add,hl]
  exact ⟨o,ho,by show [d]=_;rw [hd];rfl,.inr ⟨hg,fun d' v hm=>by
   have hm:(d',v)∈[(d,SV.u)]:=hm
   simp only [List.mem_singleton,Prod.mk.injEq] at hm
   exact ⟨hm.2,by rw [hm.1];exact blt_lt hn⟩,rfl,rfl⟩⟩
def silD (tt:List (Nat × TD)) (n:Nat) (o:Oper):St→Option Dl
 | ⟨L,M,V,nx⟩=>match o.op with
  | .alloc t=>match look tt t with
   | some d=>match o.dst with
    | some x=>bif Nat.blt x n then some ⟨[(x,.c (.bp nx 0))],[(nx,.box d.z t)],[],1⟩ else none
    | none=>none
   | none=>none
  | .box t v=>match evalO L v with
   | some sv=>match svCells sv with
    | some cs=>match o.dst with
     | some x=>bif Nat.blt x n then some ⟨[(x,.c (.bp nx 0))],[(nx,.box cs t)],[],1⟩ else none
     | none=>none
    | none=>none
   | none=>none
  | .store t ad v=>match look tt t with
   | some d=>match evalO L ad with
    | some (.c (.bp k off))=>match evalO L v with
     | some sv=>match svCells sv with
      | some ps=>match look M k with
       | some (.box cs t')=>bif (Nat.beq ps.length d.sz && Nat.ble (off+ps.length) cs.length) then (match o.dst with
        | none=>some ⟨[],[(k,.box (cs.take off++ps++cs.drop (off+ps.length)) t')],[],0⟩
        | some _=>none) else none
       | _=>none
      | none=>none
     | none=>none
    | _=>none
   | none=>none
  | op=>match sval tt ⟨L,M,V,nx⟩ op with
   | some v=>match o.dst with
    | some x=>bif Nat.blt x n then some ⟨[(x,v)],[],[],0⟩ else none
    | none=>none
   | none=>none
theorem silD_ok {n:Nat} {o:Oper} {s:St} {d:Dl} (h:silD tt n o s=some d):sil1 tt n o s=some (d.ap s)∧d.dL.map (·.1)=o.dst.toList:=by
  obtain ⟨L,M,V,nx⟩:=s
  obtain ⟨dst,op,ty,pos,aft,g⟩:=o
  unfold silD at h
  unfold sil1
  simp only [] at h ⊢
  split at h
  · rename_i t
    cases hd:look tt t with
    | none=>rw [hd] at h;cases h
    | some td =>
      rw [hd] at h
      simp only [] at h ⊢
      cases dst with
      | none=>cases h
      | some x =>
        simp only [] at h ⊢
        cases hb:Nat.blt x n with
        | false=>rw [hb] at h;cases h
        | true=>rw [hb] at h;cases h;refine ⟨?_,rfl⟩;simp only [hd,hb,cond_true];rfl
  · rename_i t v
    cases hv:evalO L v with
    | none=>rw [hv] at h;cases h
    | some sv =>
      rw [hv] at h
      simp only [] at h ⊢
      cases hc:svCells sv with
      | none=>rw [hc] at h;cases h
      | some cs =>
        rw [hc] at h
        simp only [] at h ⊢
        cases dst with
        | none=>cases h
        | some x =>
          simp only [] at h ⊢
          cases hb:Nat.blt x n with
          | false=>rw [hb] at h;cases h
          | true=>rw [hb] at h;cases h;refine ⟨?_,rfl⟩;simp only [hv,hc,hb,cond_true];rfl
  · rename_i t ad v
    cases hd:look tt t with
    | none=>rw [hd] at h;cases h
    | some td =>
      rw [hd] at h
      simp only [] at h ⊢
      split at h
      · rename_i k off had
        cases hv:evalO L v with
        | none=>rw [hv] at h;cases h
        | some sv =>
          rw [hv] at h
          simp only [] at h ⊢
          cases hc:svCells sv with
          | none=>rw [hc] at h;cases h
          | some ps =>
            rw [hc] at h
            simp only [] at h ⊢
            split at h
            · rename_i cs t' hm
              cases hb:(Nat.beq ps.length td.sz && Nat.ble (off+ps.length) cs.length) with
              | false=>rw [hb] at h;cases h
              | true =>
                rw [hb] at h
                simp only [cond_true] at h ⊢
                cases dst with
                | some x=>cases h
                | none =>
                  cases h
                  refine ⟨?_,rfl⟩;simp only [hd,had,hv,hc,hm,hb,cond_true];rfl
            · cases h
      · cases h
  · rename_i h1 h2 h3
    cases hv:sval tt ⟨L,M,V,nx⟩ op with
    | none=>rw [hv] at h;cases h
    | some v =>
      rw [hv] at h
      simp only [] at h
      cases dst with
      | none=>cases h
      | some x =>
        simp only [] at h
        cases hb:Nat.blt x n with
        | false=>rw [hb] at h;cases h
        | true =>
          rw [hb] at h;cases h
          refine ⟨?_,rfl⟩
          split
          · exact (h1 _ rfl).elim
          · exact (h2 _ _ rfl).elim
          · exact (h3 _ _ _ rfl).elim
          · simp only [hv,hb,cond_true];rfl
def a1 (tt:List (Nat × TD)) (nt:Nat):Cf→Cf
 | .co k s=>match k with
  | .inBlock _::k'=>.co k' s
  | .code c::k'=>match c with
   | .seq x y=>.co (.code x::.code y::k') s
   | .skip=>.co k' s
   | .label _=>.co k' s
   | .block id x=>.co (.code x::.inBlock id::k') s
   | .exit id=>match exitTo id k' with
    | some k2=>.co k2 s
    | none=>.no
   | .region id ops dr=>match dr with
    | true=>.rg (some (id,s,[])) ops 0 k' s
    | false=>.rg none ops 0 k' s
   | .cond x y z=>match x with
    | .tmp d=>match look s.L d with
     | some (.c (.b t))=>match t with
      | true=>.co (.code y::k') s
      | false=>.co (.code z::k') s
     | _=>.no
    | .const (.bool t)=>match t with
     | true=>.co (.code y::k') s
     | false=>.co (.code z::k') s
    | _=>.no
   | _=>.no
  | _=>.no
 | .rg m ops i k s=>match ops[i]? with
  | none=>match m with
   | none=>bif Nat.beq i ops.size then .co k s else .no
   | some _=>.no
  | some o=>match guardV ops (vwS m ops o s).L o with
   | some true=>match silD tt nt o (vwS m ops o s) with
    | some d=>stepR m ops i k s (vwS m ops o s) d
    | none=>.no
   | some false=>match o.dst with
    | some d=>bif Nat.blt d nt then stepR m ops i k s (vwS m ops o s) ⟨[(d,.u)],[],[],0⟩ else .no
    | none=>.no
   | none=>.no
 | .no=>.no
def adv (tt:List (Nat × TD)) (nt:Nat):Nat→Cf→Cf
 | 0,c=>c
 | n+1,c=>adv tt nt n (a1 tt nt c)
theorem a1_ok (htt:TTOk X.P tt) {c:Cf} (h:Wc X (a1 tt X.fn.ntmps c)):Wc X c:=by
 unfold a1 at h
 split at h
 ·split at h
  ·exact ⟨WP.inBlock h.1⟩
  ·split at h
   ·exact ⟨WP.seq h.1⟩
   ·exact ⟨WP.skip h.1⟩
   ·exact ⟨WP.label h.1⟩
   ·exact ⟨WP.block h.1⟩
   ·split at h
    ·rename_i he;exact ⟨WP.exit he h.1⟩
    ·exact h.1.elim
   ·split at h
    ·exact ⟨h.1 .nil rfl⟩
    ·refine ⟨WP.region ?_⟩
     have h:WPr X _ (List.range' 0 (_-0)) _ _:=h.1
     rw [List.range_eq_range'];exact h
   ·split at h
    ·split at h
     ·rename_i hl
      split at h
      ·exact ⟨WP.condT rfl hl h.1⟩
      ·exact ⟨WP.condF rfl hl h.1⟩
     ·exact h.1.elim
    ·split at h
     ·exact ⟨WP.condCT h.1⟩
     ·exact ⟨WP.condCF h.1⟩
    ·exact h.1.elim
   ·exact h.1.elim
  ·exact h.1.elim
 ·rename_i m ops i k s
  split at h
  ·rename_i ho
   split at h
   ·cases hb:Nat.beq i ops.size with
    | false=>rw [hb] at h;exact h.1.elim
    | true =>
     rw [hb] at h
     refine ⟨?_⟩
     show WPr X ops (List.range' i (ops.size-i)) (rk X k) s
     rw [Nat.eq_of_beq_eq_true hb,Nat.sub_self]
     exact WPr.nil h.1
   ·exact h.1.elim
  ·rename_i o ho
   split at h
   ·rename_i hg
    split at h
    ·rename_i d hd
     obtain ⟨h1,h2⟩:=silD_ok hd
     exact stepR_ok ho hg h2 (fun nk E0 F0 w0 n0 Z=>sil1_ok (X:=X.var nk E0 F0 w0 n0 Z) htt h1) h
    ·exact h.1.elim
   ·rename_i hg
    split at h
    ·rename_i d hd
     cases hb:Nat.blt d X.fn.ntmps with
     | false=>rw [hb] at h;exact h.1.elim
     | true=>rw [hb] at h;exact skipR_ok ho hg hd hb h
    ·exact h.1.elim
   ·exact h.1.elim
 ·exact h.1.elim
theorem adv_ok (htt:TTOk X.P tt):∀ (n:Nat) {c:Cf},Wc X (adv tt X.fn.ntmps n c)→Wc X c
 | 0,_,h=>h
 | n+1,_,h=>a1_ok htt (adv_ok htt n h)
end
end Go.Kx
end
section
namespace Go.Kx
open Go
def itR (b:Nat) (s:ByteArray) (p:Nat):AbsR where
 fp:=fun x=>x=b
 ok:=fun _ w=>w.heap[b]? = some (.stringIter s p)
 mono:=fun _ hb h=>by rw [hb b rfl];exact h
section
variable {X:Ctx} {s:St} {ops:Array Oper} {todo:Act→World→Prop} {tt:List (Nat × TD)}
theorem WPr.rng (htt:TTOk X.P tt) {i:Nat} {rest:List Nat} {o:Oper} {t:TypeId} {td:TD} {x:Operand} {d:Nat} {m:ByteArray}
  (ho:ops[i]? = some o) (hg:guardV ops s.L o=some true) (hop:o.op=.range t x) (hd:o.dst=some d) (ht:look tt t=some td) (hkd:Nat.beq td.kd 2=true)
  (hx:evalO s.L x=some (.c (.s m))) (hn:Nat.blt d X.fn.ntmps=true)
  (kk:∀ b,WPr X ops rest todo ⟨(d,.c (.v (.pointer (some ⟨b,0,none⟩))))::s.L,(s.nx,.abs (itR b m 0))::s.M,s.V,s.nx+1⟩):WPr X ops (i::rest) todo s:=by
 intro E F w a hs
 simp only [wpOps,ho,guardV_ok hs hg,if_true]
 obtain ⟨e1,_⟩:=hs.eval hx
 have hu:X.P.underlying t=some .string:=by
  have h2:=(htt.get ht).2.1
  have hkd:=Nat.eq_of_beq_eq_true hkd
  unfold kindOk at h2
  split at h2<;>simp_all
 have hsz:w.heap.size≤(w.alloc (.stringIter m 0)).heap.size:=by simp
 have h1:=hs.world (w':=w.alloc (.stringIter m 0)) rfl rfl rfl hsz (fun b hb=>heap_alloc_old w _ hb)
 have h2:=h1.addM' (m:=.abs (itR w.heap.size m 0)) (heap_alloc_new w _) trivial (fun b hb=>by
  have e:b=w.heap.size:=hb
  subst e
  refine ⟨fun hF=>absurd (hs.hF _ hF) (Nat.lt_irrefl _),fun hZ=>?_,by simp,fun k m' hm hf=>absurd (hs.mF k m' hm _ hf).2.2 (Nat.lt_irrefl _)⟩
  have:=hs.hZ _ hZ
  have:=hs.ext.size
  omega) (fun h=>by cases h)
 refine .inl (wp_value (w':=w.alloc (.stringIter m 0)) (v:=.pointer (some ⟨w.heap.size,0,none⟩)) ?_ (kk w.heap.size E F _ _ ?_))
 ·simp only [execOp,hop,e1,denV,den]
  refine exec_v ?_
  simp only [Instr.range,Sem.run_bind,run_underlying' hu,Result.andThen_ok,Sem.run_pure,run_newObj]
  rfl
 ·rw [hd]
  exact h2.setL (d:=d) (v:=.c (.v (.pointer (some ⟨w.heap.size,0,none⟩)))) (by first | trivial | rfl) (blt_lt hn)
theorem WPr.nxtF {i:Nat} {rest:List Nat} {o:Oper} {x:Operand} {d b p:Nat} (k:Nat) {m:ByteArray}
  (hlt:decide (p < m.size)=false) (ho:ops[i]? = some o) (hg:guardV ops s.L o=some true) (hop:o.op=.next x true) (hd:o.dst=some d)
  (hx:evalO s.L x=some (.c (.v (.pointer (some ⟨b,0,none⟩))))) (hm:look s.M k=some (.abs (itR b m p))) (hn:Nat.blt d X.fn.ntmps=true)
  (kk:WPr X ops rest todo ⟨(d,.t [.inl (.b false)])::s.L,s.M,s.V,s.nx⟩):WPr X ops (i::rest) todo s:=by
 refine WPr.op ho hg (fun E F w a hs=>?_) kk
 obtain ⟨e1,_⟩:=hs.eval hx
 have hb:w.heap[b]? = some (.stringIter m p):=hs.hM k _ hm
 have hlt:¬ p < m.size:=of_decide_eq_false hlt
 refine wp_value (w':=w) (v:=.tuple #[.bool false]) ?_ ⟨E,F,?_⟩
 ·simp only [execOp,hop,e1,denV,den]
  refine exec_v ?_
  simp [Instr.next,getObj,Sem.run,hb,hlt]
 ·rw [hd]
  exact hs.setL (d:=d) (v:=.t [.inl (.b false)]) (fun v hv=>by simp at hv;subst hv;trivial) (blt_lt hn)
theorem WPr.nxtT {i:Nat} {rest:List Nat} {o:Oper} {x:Operand} {d b p:Nat} (k:Nat) {m:ByteArray}
  (hlt:decide (p < m.size)=true) (ho:ops[i]? = some o) (hg:guardV ops s.L o=some true) (hop:o.op=.next x true) (hd:o.dst=some d)
  (hx:evalO s.L x=some (.c (.v (.pointer (some ⟨b,0,none⟩))))) (hm:look s.M k=some (.abs (itR b m p))) (hn:Nat.blt d X.fn.ntmps=true)
  (kk:WPr X ops rest todo ⟨(d,.t [.inl (.b true),.inl (.i .i64 (p:Int)),.inl (.i .i32 ((Utf8.decode m p).1:Int))])::s.L,(k,.abs (itR b m (p+(Utf8.decode m p).2)))::s.M,s.V,s.nx⟩):WPr X ops (i::rest) todo s:=by
 refine WPr.op ho hg (fun E F w a hs=>?_) kk
 obtain ⟨e1,_⟩:=hs.eval hx
 have hb:w.heap[b]? = some (.stringIter m p):=hs.hM k _ hm
 have hlt:p < m.size:=of_decide_eq_true hlt
 have hbs:b < w.heap.size:=by
  rcases Nat.lt_or_ge b w.heap.size with h | h
  ·exact h
  ·rw [Array.getElem?_eq_none h] at hb;cases hb
 have h1:=hs.setM (m':=.abs (itR b m (p+(Utf8.decode m p).2))) (w':={ w with heap:=w.heap.setIfInBounds b (.stringIter m (p+(Utf8.decode m p).2)) }) hm rfl rfl rfl (by simp)
  (fun c hc hne=>by
   have:c≠b:=fun e=>hne e
   simp only [Array.getElem?_setIfInBounds]
   rw [if_neg (fun e=>this e.symm)])
  (fun _ h=>h) (by
   show (w.heap.setIfInBounds b _)[b]? = _
   simp [hbs]) trivial (fun h=>by cases h)
 refine wp_value (w':={ w with heap:=w.heap.setIfInBounds b (.stringIter m (p+(Utf8.decode m p).2)) }) (v:=.tuple #[.bool true,goInt (p:Int),.int .i32 ((Utf8.decode m p).1:Int)]) ?_ ⟨E,F,?_⟩
 ·simp only [execOp,hop,e1,denV,den]
  refine exec_v ?_
  simp [Instr.next,getObj,setObj,Sem.run,hb,hlt]
 ·rw [hd]
  exact h1.setL (d:=d) (v:=.t [.inl (.b true),.inl (.i .i64 (p:Int)),.inl (.i .i32 ((Utf8.decode m p).1:Int))]) (fun v hv=>by
   simp at hv
   rcases hv with rfl | rfl | rfl<;>trivial) (blt_lt hn)
end
end Go.Kx
end
section
namespace Go.Kx
section
variable {X:Ctx} {s:St} {tt:List (Nat × TD)} {ops:Array Oper} {todo:Act→World→Prop}
end
end Go.Kx
end
section
namespace Go.Kx
def Cf.ops:Cf→Array Oper
 | .rg _ o _ _ _=>o
 | _=>#[]
def Cf.i:Cf→Nat
 | .rg _ _ i _ _=>i
 | _=>0
def Cf.md:Cf→Option (Nat × St × List Ent)
 | .rg m _ _ _ _=>m
 | _=>none
def Cf.kk:Cf→List Item
 | .rg _ _ _ k _=>k
 | .co (_::k) _=>k
 | _=>[]
def Cf.st:Cf→St
 | .rg _ _ _ _ s=>s
 | .co _ s=>s
 | .no=>⟨[],[],[],0⟩
def Cf.isR:Cf→Bool
 | .rg _ _ _ _ _=>true
 | _=>false
def opC (c:Cf):Oper:=(c.ops[c.i]?).getD default
def vwC (c:Cf):St:=vwS c.md c.ops (opC c) c.st
def goC (d:Dl) (c:Cf):Cf:=stepR c.md c.ops c.i c.kk c.st (vwC c) d
def rdyB (c:Cf):Bool:=c.isR && (c.ops[c.i]?).isSome && (match guardV c.ops (vwC c).L (opC c) with | some b=>b | none=>false)
def dstC (c:Cf):Nat:=(opC c).dst.getD 0
def frzD (s:St):List Nat→List (Nat × MO) × List (Nat × VF)
 | []=>([],[])
 | k::r=>match look s.M k with
  | some (.own R xs _)=>match frzD s r with
   | q=>((k,.gone)::q.1,(k,.sl R xs)::q.2)
  | _=>([],[])
def frzS (s:St) (fz:List Nat):St:=⟨s.L,(frzD s fz).1++s.M,(frzD s fz).2++s.V,s.nx⟩
def frzB (s:St) (fz:List Nat):Bool:=nodupB fz && fz.all fun k=>match look s.M k with
 | some (.own _ _ fr)=>fr
 | _=>false
def Dl.fz (d:Dl) (s:St) (fz:List Nat):Dl:=⟨d.dL,d.dM++(frzD s fz).1,d.dV++(frzD s fz).2,d.n⟩
theorem Dl.fz_ap (d:Dl) (s:St) (fz:List Nat):(d.fz s fz).ap s=d.ap (frzS s fz):=by
 simp [Dl.fz,Dl.ap,frzS]
theorem frzD_none {s:St} {k:Nat}:∀ {fz:List Nat},k ∉ fz→look (frzD s fz).1 k=none
 | [],_=>rfl
 | j::r,h=>by
  unfold frzD
  split
  ·simp only []
   rw [look_cons,if_neg fun e=>h (by rw [e];exact List.mem_cons_self)]
   exact frzD_none fun hm=>h (List.mem_cons_of_mem _ hm)
  ·rfl
theorem frzS_sat {X:Ctx} {s:St} {E F w a} (hs:Sat X s E F w a):∀ {fz:List Nat},frzB s fz=true→∃ F',Sat X (frzS s fz) E F' w a
 | [],_=>⟨F,hs⟩
 | k::r,h=>by
  unfold frzB at h
  simp only [Bool.and_eq_true,List.all_cons] at h
  obtain ⟨h1,h2,h3⟩:=h
  have hk:k ∉ r∧nodupB r=true:=by
   have:=nodupB_ok h1
   rw [List.nodup_cons] at this
   refine ⟨this.1,?_⟩
   unfold nodupB at h1
   rw [Bool.and_eq_true] at h1
   exact h1.2
  obtain ⟨F1,hs1⟩:=frzS_sat hs (fz:=r) (by unfold frzB;rw [Bool.and_eq_true];exact ⟨hk.2,h3⟩)
  split at h2
  ·rename_i α R xs fr hm
   subst h2
   have hm':look (frzS s r).M k=some (.own R xs true):=by
    show look ((frzD s r).1++s.M) k=_
    rw [look_append,frzD_none hk.1];exact hm
   refine ⟨fun b=>F1 b∨blockOf (E.ρ k)=some b,?_⟩
   have:=hs1.freeze hm'
   have e:frzD s (k::r)=((k,.gone)::(frzD s r).1,(k,.sl R xs)::(frzD s r).2):=by
    conv=>lhs;unfold frzD
    rw [hm]
   unfold frzS
   rw [e]
   exact this
  ·cases h2
section
variable {X:Ctx} {tt:List (Nat × TD)}
theorem Stp.of {ops:Array Oper} {i:Nat} {o:Oper} {s s1:St} (ho:ops[i]? = some o) (hg:guardV ops s.L o=some true) (r:∀ K,WPr X ops [] K s1→WPr X ops [i] K s) :
  ∀ E F w a,Sat X s E F w a→o.wp X.P a w (fun a' w'=>∃ E' F',Sat X s1 E' F' w' a') (fun _ _ _=>False):=fun E F w a hs=>by
 have h:=r (fun a' w'=>∃ E' F',Sat X s1 E' F' w' a') (fun E F w a hs=>⟨rfl,E,F,hs⟩) E F w a hs
 have hgk:=guardV_ok hs hg
 simp only [wpOps,ho,hgk,if_true] at h
 rcases h with h | ⟨_,h⟩
 ·unfold Oper.wp at h ⊢
  unfold Oper.upon at h ⊢
  split at h
  ·exact h.2
  ·exact h.2
  ·exact h.2
  ·refine Calls.mono h fun e w' hr=>?_
   split at hr
   ·exact hr.2
   ·cases hr.1
   ·obtain ⟨a1,w1,hf⟩:=hr;cases hf.1
  ·exact Rows.mono h fun v w' hr=>hr.2
  ·cases h.1
  ·exact h.elim
 ·obtain ⟨a1,w1,hf⟩:=h;cases hf.1
theorem Wc.ev {c:Cf} {d:Dl} (hr:rdyB c=true) (hd:d.dL.map (·.1)=(opC c).dst.toList)
    (r:∀ nk E0 F0 w0 n0 Z rest K,c.ops[c.i]? = some (opC c)→guardV c.ops (vwC c).L (opC c)=some true→WPr (X.var nk E0 F0 w0 n0 Z) c.ops rest K (d.ap (vwC c))→WPr (X.var nk E0 F0 w0 n0 Z) c.ops (c.i::rest) K (vwC c))
    (k:Wc X (goC d c)):Wc X c:=by
  unfold rdyB at hr
  rw [Bool.and_eq_true,Bool.and_eq_true] at hr
  obtain ⟨⟨h1,h2⟩,h3⟩:=hr
  cases c with
  | co k s=>cases h1
  | no=>cases h1
  | rg m ops i k' s =>
    have ho:ops[i]? = some (opC (.rg m ops i k' s)):=by
      obtain ⟨o,ho⟩:=Option.isSome_iff_exists.1 h2
      have ho:ops[i]? = some o:=ho
      unfold opC
      show _=some ((ops[i]?).getD default)
      rw [ho];rfl
    have hg:guardV ops (vwC (.rg m ops i k' s)).L (opC (.rg m ops i k' s))=some true:=by
      split at h3
      · rename_i b hb;rw [h3] at hb;exact hb
      · cases h3
    exact stepR_ok ho hg hd (fun nk E0 F0 w0 n0 Z=>Stp.of (X:=X.var nk E0 F0 w0 n0 Z) ho hg (fun K=>r nk E0 F0 w0 n0 Z [] K ho hg)) k
theorem Wc.evz {c:Cf} {d:Dl} (fz:List Nat) (hr:rdyB c=true) (hz:frzB (vwC c) fz=true) (hd:d.dL.map (·.1)=(opC c).dst.toList)
    (r:∀ nk E0 F0 w0 n0 Z rest K,c.ops[c.i]? = some (opC c)→guardV c.ops (frzS (vwC c) fz).L (opC c)=some true→WPr (X.var nk E0 F0 w0 n0 Z) c.ops rest K (d.ap (frzS (vwC c) fz))→WPr (X.var nk E0 F0 w0 n0 Z) c.ops (c.i::rest) K (frzS (vwC c) fz))
    (k:Wc X (goC (d.fz (vwC c) fz) c)):Wc X c:=by
  refine Wc.ev (d:=d.fz (vwC c) fz) hr hd (fun nk E0 F0 w0 n0 Z rest K ho hg h=>?_) k
  rw [Dl.fz_ap] at h
  have:=r nk E0 F0 w0 n0 Z rest K ho hg h
  intro E F w a hs
  obtain ⟨F',hs'⟩:=frzS_sat hs hz
  exact this E F' w a hs'
def argO:Op→Nat→Operand
 | .indexAddr _ x y,j | .index _ x y,j | .store _ x y,j | .binOp _ _ x y _,j | .makeSlice _ x y,j=>match j with
  | 0=>x
  | _=>y
 | .load _ x,_ | .slice _ x _ _ _,_ | .convert _ _ x,_ | .range _ x,_ | .next x _,_=>x
 | .call c,j=>(c.args.toList[j]?).getD (.const (.bool true))
 | _,_=>.const (.bool true)
def tyO:Op→TypeId
 | .indexAddr t _ _ | .index t _ _ | .store t _ _ | .binOp _ t _ _ _ | .makeSlice t _ _ | .load t _ | .slice t _ _ _ _ | .convert t _ _ | .range t _ | .buildSlice t _ _=>t
 | .call c=>(c.argTypes.toList[0]?).getD 0
 | _=>0
def tyO2:Op→TypeId
 | .convert _ t _ | .binOp _ _ _ _ t=>t
 | .call c=>(c.argTypes.toList[1]?).getD 0
 | _=>0
def loO:Op→Option Operand
 | .slice _ _ l _ _=>l
 | _=>none
def hiO:Op→Option Operand
 | .slice _ _ _ h _=>h
 | _=>none
def calO:Op→Operand
 | .call c=>match c.callee with
  | .value f=>f
  | _=>.const (.bool true)
 | _=>.const (.bool true)
def argsO:Op→Array Operand
 | .call c=>c.args
 | _=>#[]
def tysO:Op→Array TypeId
 | .call c=>c.argTypes
 | _=>#[]
def lenO:Op→Nat
 | .buildSlice _ n _=>n
 | _=>0
def partO:Op→Array (Nat × Operand)
 | .buildSlice _ _ p=>p
 | _=>#[]
def argV (c:Cf) (j:Nat):Option SV:=evalO (vwC c).L (argO (opC c).op j)
def tdO (tt:List (Nat × TD)) (t:TypeId):TD:=(look tt t).getD ⟨0,0,false,[],[],0,0,0,none,0,0⟩
def keyV:Option SV→Nat
 | some (.c (.sl k)) | some (.c (.px k _)) | some (.c (.bp k _))=>k
 | _=>0
def offV:Option SV→Nat
 | some (.c (.px _ o)) | some (.c (.bp _ o))=>o
 | _=>0
def ikV:Option SV→IntKind
 | some (.c (.i k _))=>k
 | _=>.i64
def cellV':Option SV→SC
 | some (.c x)=>x
 | _=>.nil
def aggV:Option SV→List SC
 | some (.a cs)=>cs
 | _=>[]
def svO:Option SV→SV
 | some v=>v
 | none=>.u
def csV (v:Option SV):List SC:=((svCells (svO v)).getD [])
def strV:Option SV→ByteArray
 | some (.c (.s m))=>m
 | _=>⟨#[]⟩
def fwM:Option MO→Bool
 | some (.own _ _ fr)=>fr
 | _=>false
def elK:Option VF→Nat
 | some (.el k _)=>k
 | some (.vw k _ _ _)=>k
 | _=>0
structure SlF:Type 1 where
 {α:Type}
 R:TRep α
 xs:List α
def conC (s:St):SC→Option SlF
 | .sl k=>match look s.M k with
  | some (.own R xs _)=>some ⟨R,xs⟩
  | _=>match look s.V k with
   | some (.sl R xs)=>some ⟨R,xs⟩
   | _=>none
 | _=>none
theorem conC_ok {s:St} {c:SC} {α:Type} {R:TRep α} {xs:List α} (h:conC s c=some ⟨R,xs⟩):∃ k,c=.sl k∧(look s.V k=some (.sl R xs)∨∃ fr,look s.M k=some (.own R xs fr)):=by
 unfold conC at h
 split at h
 ·rename_i k
  refine ⟨k,rfl,?_⟩
  split at h
  ·rename_i hm;cases h;exact .inr ⟨_,hm⟩
  ·split at h
   ·rename_i hv;cases h;exact .inl hv
   ·cases h
 ·cases h
theorem conC_src {s:St} {c:SC} {α:Type} {R:TRep α} {xs:List α} (h:conC s c=some ⟨R,xs⟩):SrcOk X s R xs c:=by
 obtain ⟨k,rfl,h | ⟨fr,h⟩⟩:=conC_ok h
 ·exact srcI h
 ·exact srcO h
def d1 (c:Cf) (v:SV):Dl:=⟨[(dstC c,v)],[],[],0⟩
theorem d1_dst {c:Cf} {L:List (Nat × SV)} {v:SV} (h:(opC c).dst=some (dstC c)) (hl:L=[(dstC c,v)]):L.map (·.1)=(opC c).dst.toList:=by rw [hl,h];rfl
def hB (nt:Nat) (c:Cf):Bool:=rdyB c && Nat.blt (dstC c) nt
def slB (tt:List (Nat × TD)) (sz:Nat) (c:Cf):Bool:=Nat.beq (tdO tt (tyO (opC c).op)).kd 6 && Nat.beq (tdO tt (tyO (opC c).op)).es sz
theorem hB_ok {nt:Nat} {c:Cf} (h:hB nt c=true):rdyB c=true∧Nat.blt (dstC c) nt=true:=by
 unfold hB at h;rwa [Bool.and_eq_true] at h
theorem slB_ok {sz nt:Nat} {c:Cf} (h:slB tt sz c=true) (hn:Nat.blt (dstC c) nt=true):(Nat.blt (dstC c) nt && Nat.beq (tdO tt (tyO (opC c).op)).kd 6 && Nat.beq (tdO tt (tyO (opC c).op)).es sz)=true:=by
 unfold slB at h;rw [Bool.and_assoc,h,hn];rfl
def srcL {α:Type} (s:St) (ys:List α) (c:SC):Option SlF × ULift.{1,0} (List α):=match c with
 | .nil=>(none,⟨ys⟩)
 | c=>(conC s c,⟨[]⟩)
def srcR {α:Type} (R:TRep α) (ys:List α) (c:SC):Option SlF × ULift.{1,0} (List α):=match c with
 | .nil=>(none,⟨[]⟩)
 | _=>(some ⟨R,ys⟩,⟨[]⟩)
theorem src_ok {α:Type} {R:TRep α} {s:St} {ys:List α} {c:SC} (h:srcL s ys c=srcR R ys c):SrcOk X s R ys c:=by
 unfold srcL at h
 split at h
 ·have:=congrArg ULift.down (Prod.mk.inj h).2
  have h:ys=[]:=this
  rw [h];exact srcN
 ·rename_i h1
  unfold srcR at h
  split at h
  ·exact (h1 rfl).elim
  ·exact conC_src (Prod.mk.inj h).1
def rowL {α:Type} {R:TRep α} (O:Opn R) (V:Nat→Option VF):List α→List SC→List O.T
 | [],_=>[]
 | x::xs,cs=>O.lq V x (cs.take R.sz)::rowL O V xs (cs.drop R.sz)
def rowR {α:Type} {R:TRep α} (O:Opn R) (V:Nat→Option VF):List α→List SC→List O.T
 | [],_=>[]
 | x::xs,cs=>O.rq V x (cs.take R.sz)::rowR O V xs (cs.drop R.sz)
def rowE (sz:Nat) {α:Type}:List α→List SC→List SC
 | [],cs=>cs
 | _::xs,cs=>rowE sz xs (cs.drop sz)
theorem row_ok {α:Type} {R:TRep α} {O:Opn R} {V:Nat→Option VF}:∀ {xs:List α} {cs:List SC},rowL O V xs cs=rowR O V xs cs→rowE R.sz xs cs=[]→chkRow O V xs cs
 | [],_,_,h=>h
 | _::_,_,h,g=>⟨O.eqn (List.cons.inj h).1,row_ok (List.cons.inj h).2 g⟩
def negO:Op→Bool
 | .binOp .neq _ _ _ _=>true
 | _=>false
def clF:Option SV→List Nat
 | some (.c (.cl _ fs _))=>fs
 | _=>[]
def clK:Option SV→List Nat
 | some (.c (.cl _ _ ks))=>ks
 | _=>[]
def callD (s:St) (c:Ct) (l:List (Nat × SC)) (d:Nat):Dl :=
 ⟨[(d,renV ⟨l,c.nk,s.nx⟩ c.res)],c.M1.filterMap fun p=>(keyMc ⟨l,c.nk,s.nx⟩ p.1 p.2).map fun j=>(j,backM s ⟨l,c.nk,s.nx⟩ (allFr s ⟨l,c.nk,s.nx⟩ c.M0) c.nk p.1 p.2),c.V1.map fun p=>((⟨l,c.nk,s.nx⟩:Ren).sh p.1,p.2),c.nr-c.nk⟩
def dIx {α:Type} {R:TRep α} (O:Opn R) (e:α) (c:Cf):Dl:=⟨[(dstC c,.c (.px (vwC c).nx 0))],[],O.facts ((vwC c).nx+1) e++[((vwC c).nx,.pl (O.cells ((vwC c).nx+1) e))],1+O.nk⟩
def nIx {α:Type} {R:TRep α} (O:Opn R) (e:α) (c:Cf):Cf:=goC (dIx O e c) c
theorem eIx {α:Type} {R:TRep α} {xs:List α} {m:Int} {e:α} {c:Cf} (htt:TTOk X.P tt) (O:Opn R) (hi:idx xs m=some e) (k:Wc X (nIx O e c))
  (hp:(hB X.fn.ntmps c,(opC c).dst,(opC c).op,argV c 0,look (vwC c).V (keyV (argV c 0)),argV c 1,look tt (tyO (opC c).op),slB tt R.sz c)=(true,some (dstC c),.indexAddr (tyO (opC c).op) (argO (opC c).op 0) (argO (opC c).op 1),some (.c (.sl (keyV (argV c 0)))),some (.sl R xs),some (.c (.i (ikV (argV c 1)) m)),some (tdO tt (tyO (opC c).op)),true):=by kernel_rfl):Wc X c:=by
 simp only [Prod.mk.injEq] at hp
 obtain ⟨h1,h2,h3,h4,h5,h6,h7,h8⟩:=hp
 obtain ⟨h0,hn⟩:=hB_ok h1
 refine Wc.ev (d:=dIx O e c) h0 (d1_dst h2 rfl) (fun nk E0 F0 w0 n0 Z rest K ho hg h=>WPr.ix (X:=X.var nk E0 F0 w0 n0 Z) O htt hi ho hg h3 h2 h4 h5 h6 h7 (slB_ok h8 hn) ?_) k
 have e1:(dIx O e c).ap (vwC c)=⟨(dstC c,.c (.px (vwC c).nx 0))::(vwC c).L,(vwC c).M,O.facts ((vwC c).nx+1) e++((vwC c).nx,.pl (O.cells ((vwC c).nx+1) e))::(vwC c).V,(vwC c).nx+1+O.nk⟩:=by
  simp [dIx,Dl.ap,Nat.add_assoc]
 rw [← e1];exact h
def dIo (m:Int) (sz:Nat) (c:Cf):Dl:=⟨[(dstC c,.c (.px (vwC c).nx 0))],[],[((vwC c).nx,.el (keyV (argV c 0)) (m.toNat * sz))],1⟩
def nIo (m:Int) (sz:Nat) (c:Cf):Cf:=goC (dIo m sz c) c
theorem eIo {α:Type} {xs:List α} {m:Int} {e:α} {c:Cf} (htt:TTOk X.P tt) (R:TRep α) (hi:idx xs m=some e) (k:Wc X (nIo m R.sz c))
  (hp:(hB X.fn.ntmps c,(opC c).dst,(opC c).op,argV c 0,look (vwC c).M (keyV (argV c 0)),argV c 1,look tt (tyO (opC c).op),slB tt R.sz c)=(true,some (dstC c),.indexAddr (tyO (opC c).op) (argO (opC c).op 0) (argO (opC c).op 1),some (.c (.sl (keyV (argV c 0)))),some (.own R xs (fwM (look (vwC c).M (keyV (argV c 0))))),some (.c (.i (ikV (argV c 1)) m)),some (tdO tt (tyO (opC c).op)),true):=by kernel_rfl):Wc X c:=by
 simp only [Prod.mk.injEq] at hp
 obtain ⟨h1,h2,h3,h4,h5,h6,h7,h8⟩:=hp
 obtain ⟨h0,hn⟩:=hB_ok h1
 refine Wc.ev (d:=dIo m R.sz c) h0 (d1_dst h2 rfl) (fun nk E0 F0 w0 n0 Z rest K ho hg h=>WPr.ixo (X:=X.var nk E0 F0 w0 n0 Z) htt hi ho hg h3 h2 h4 h5 h6 h7 (slB_ok h8 hn) h) k
def dLd {α:Type} {R:TRep α} (O:Opn R) (e:α) (tt:List (Nat × TD)) (c:Cf):Dl:=⟨[(dstC c,svO (loadC (tdO tt (tyO (opC c).op)) (offV (argV c 0)) (O.cells (vwC c).nx e)))],[],O.facts (vwC c).nx e,O.nk⟩
def nLd {α:Type} {R:TRep α} (O:Opn R) (e:α) (tt:List (Nat × TD)) (c:Cf):Cf:=goC (dLd O e tt c) c
theorem eLd {α:Type} {R:TRep α} {xs:List α} {m:Int} {e:α} {c:Cf} (htt:TTOk X.P tt) (O:Opn R) (hi:idx xs m=some e) (k:Wc X (nLd O e tt c))
  (hp:(hB X.fn.ntmps c,(opC c).dst,(opC c).op,argV c 0,look (vwC c).V (keyV (argV c 0)),look (vwC c).M (elK (look (vwC c).V (keyV (argV c 0)))),look tt (tyO (opC c).op),loadC (tdO tt (tyO (opC c).op)) (offV (argV c 0)) (O.cells (vwC c).nx e))=(true,some (dstC c),.load (tyO (opC c).op) (argO (opC c).op 0),some (.c (.px (keyV (argV c 0)) (offV (argV c 0)))),some (.el (elK (look (vwC c).V (keyV (argV c 0)))) (m.toNat * R.sz)),some (.own R xs (fwM (look (vwC c).M (elK (look (vwC c).V (keyV (argV c 0))))))),some (tdO tt (tyO (opC c).op)),some (svO (loadC (tdO tt (tyO (opC c).op)) (offV (argV c 0)) (O.cells (vwC c).nx e)))):=by kernel_rfl):Wc X c:=by
 simp only [Prod.mk.injEq] at hp
 obtain ⟨h1,h2,h3,h4,h5,h6,h7,h8⟩:=hp
 obtain ⟨h0,hn⟩:=hB_ok h1
 refine Wc.ev (d:=dLd O e tt c) h0 (d1_dst h2 rfl) (fun nk E0 F0 w0 n0 Z rest K ho hg h=>WPr.ldo (X:=X.var nk E0 F0 w0 n0 Z) O htt hi ho hg h3 h2 h4 h5 h6 h7 h8 hn h) k
def dSt {α:Type} (R:TRep α) (xs:List α) (m:Int) (e2:α) (fz:List Nat) (c:Cf):Dl:=⟨[],[((elK (look (frzS (vwC c) fz).V (keyV (evalO (frzS (vwC c) fz).L (argO (opC c).op 0))))),.own R (setL' xs m e2) (fwM (look (frzS (vwC c) fz).M (elK (look (frzS (vwC c) fz).V (keyV (evalO (frzS (vwC c) fz).L (argO (opC c).op 0))))))))],[],0⟩
def nSt {α:Type} (R:TRep α) (xs:List α) (m:Int) (e2:α) (fz:List Nat) (c:Cf):Cf:=goC ((dSt R xs m e2 fz c).fz (vwC c) fz) c
theorem eSt {α:Type} {R:TRep α} {xs:List α} {m:Int} {e:α} {c:Cf} (htt:TTOk X.P tt) (fz:List Nat) (O:Opn R) (e2:α) (hi:idx xs m=some e) (k:Wc X (nSt R xs m e2 fz c))
  (hp:(rdyB c,(opC c).dst,frzB (vwC c) fz,(opC c).op,(evalO (frzS (vwC c) fz).L (argO (opC c).op 0)),look (frzS (vwC c) fz).V (keyV (evalO (frzS (vwC c) fz).L (argO (opC c).op 0))),look (frzS (vwC c) fz).M (elK (look (frzS (vwC c) fz).V (keyV (evalO (frzS (vwC c) fz).L (argO (opC c).op 0))))),look tt (tyO (opC c).op),(evalO (frzS (vwC c) fz).L (argO (opC c).op 1)),svCells (svO (evalO (frzS (vwC c) fz).L (argO (opC c).op 1))),O.lq (look (frzS (vwC c) fz).V) e2 ((O.cells (frzS (vwC c) fz).nx e).take (offV (evalO (frzS (vwC c) fz).L (argO (opC c).op 0)))++(csV (evalO (frzS (vwC c) fz).L (argO (opC c).op 1)))++(O.cells (frzS (vwC c) fz).nx e).drop ((offV (evalO (frzS (vwC c) fz).L (argO (opC c).op 0)))+(csV (evalO (frzS (vwC c) fz).L (argO (opC c).op 1))).length)),(Nat.beq (csV (evalO (frzS (vwC c) fz).L (argO (opC c).op 1))).length (tdO tt (tyO (opC c).op)).sz && Nat.ble ((offV (evalO (frzS (vwC c) fz).L (argO (opC c).op 0)))+(csV (evalO (frzS (vwC c) fz).L (argO (opC c).op 1))).length) R.sz && (Nat.beq (csV (evalO (frzS (vwC c) fz).L (argO (opC c).op 1))).length R.sz || Nat.beq O.nk 0)))=(true,none,true,.store (tyO (opC c).op) (argO (opC c).op 0) (argO (opC c).op 1),some (.c (.px (keyV (evalO (frzS (vwC c) fz).L (argO (opC c).op 0))) (offV (evalO (frzS (vwC c) fz).L (argO (opC c).op 0))))),some (.el (elK (look (frzS (vwC c) fz).V (keyV (evalO (frzS (vwC c) fz).L (argO (opC c).op 0))))) (m.toNat * R.sz)),some (.own R xs (fwM (look (frzS (vwC c) fz).M (elK (look (frzS (vwC c) fz).V (keyV (evalO (frzS (vwC c) fz).L (argO (opC c).op 0)))))))),some (tdO tt (tyO (opC c).op)),some (svO (evalO (frzS (vwC c) fz).L (argO (opC c).op 1))),some (csV (evalO (frzS (vwC c) fz).L (argO (opC c).op 1))),O.rq (look (frzS (vwC c) fz).V) e2 ((O.cells (frzS (vwC c) fz).nx e).take (offV (evalO (frzS (vwC c) fz).L (argO (opC c).op 0)))++(csV (evalO (frzS (vwC c) fz).L (argO (opC c).op 1)))++(O.cells (frzS (vwC c) fz).nx e).drop ((offV (evalO (frzS (vwC c) fz).L (argO (opC c).op 0)))+(csV (evalO (frzS (vwC c) fz).L (argO (opC c).op 1))).length)),true):=by kernel_rfl):Wc X c:=by
 simp only [Prod.mk.injEq] at hp
 obtain ⟨h1,h2,h3,h4,h5,h6,h7,h8,h9,h10,h11,h12⟩:=hp
 have h0:=h1
 refine Wc.evz (d:=dSt R xs m e2 fz c) fz h0 h3 (by rw [h2];rfl) (fun nk E0 F0 w0 n0 Z rest K ho hg h=>WPr.sto (X:=X.var nk E0 F0 w0 n0 Z) O htt e2 hi ho hg h4 h2 h5 h6 h7 h8 h9 h10 (O.eqn h11) h12 h) k
def dAp {α:Type} (R:TRep α) (zs:List α) (c:Cf):Dl:=⟨[(dstC c,.c (.sl (vwC c).nx))],[((vwC c).nx,.own R zs (fwM (look (vwC c).M (keyV (argV c 0))))),((keyV (argV c 0)),.gone)],[],1⟩
def nAp {α:Type} (R:TRep α) (zs:List α) (c:Cf):Cf:=goC (dAp R zs c) c
theorem eAp {α:Type} {xs ys zs:List α} {c:Cf} (htt:TTOk X.P tt) (R:TRep α) (hz:appL xs ys=some zs) (k:Wc X (nAp R zs c))
  (hp:(hB X.fn.ntmps c,(opC c).dst,(opC c).op,argV c 0,look (vwC c).M (keyV (argV c 0)),argV c 1,look tt (tyO (opC c).op),look tt (tyO2 (opC c).op),(Nat.beq (tdO tt (tyO (opC c).op)).kd 6 && (Nat.beq (tdO tt (tyO2 (opC c).op)).kd 6 || Nat.beq (tdO tt (tyO2 (opC c).op)).kd 2) && Nat.beq (tdO tt (tyO (opC c).op)).es R.sz && Nat.ble (tdO tt (tyO (opC c).op)).eb 32768),srcL (vwC c) ys (cellV' (argV c 1)))=(true,some (dstC c),.call { callee:=.builtin .append,args:=#[argO (opC c).op 0,argO (opC c).op 1],argTypes:=#[tyO (opC c).op,tyO2 (opC c).op] },some (.c (.sl (keyV (argV c 0)))),some (.own R xs (fwM (look (vwC c).M (keyV (argV c 0))))),some (.c (cellV' (argV c 1))),some (tdO tt (tyO (opC c).op)),some (tdO tt (tyO2 (opC c).op)),true,srcR R ys (cellV' (argV c 1))):=by kernel_rfl):Wc X c:=by
 simp only [Prod.mk.injEq] at hp
 obtain ⟨h1,h2,h3,h4,h5,h6,h7,h8,h9,h10⟩:=hp
 obtain ⟨h0,hn⟩:=hB_ok h1
 refine Wc.ev (d:=dAp R zs c) h0 (d1_dst h2 rfl) (fun nk E0 F0 w0 n0 Z rest K ho hg h=>WPr.app (X:=X.var nk E0 F0 w0 n0 Z) htt hz (src_ok h10) ho hg h3 h2 h4 h5 h6 h7 h8 (by rw [hn];simpa using h9) h) k
def dBs {α:Type} (R:TRep α) (xs:List α) (fz:List Nat) (c:Cf):Dl:=⟨[(dstC c,.c (.sl (frzS (vwC c) fz).nx))],[((frzS (vwC c) fz).nx,.own R xs true)],[],1⟩
def nBs {α:Type} (R:TRep α) (xs:List α) (fz:List Nat) (c:Cf):Cf:=goC ((dBs R xs fz c).fz (vwC c) fz) c
theorem eBs {α:Type} {R:TRep α} {c:Cf} (htt:TTOk X.P tt) (fz:List Nat) (O:Opn R) (xs:List α) (k:Wc X (nBs R xs fz c))
  (hp:(hB X.fn.ntmps c,(opC c).dst,frzB (vwC c) fz,(opC c).op,look tt (tyO (opC c).op),look tt (tdO tt (tyO (opC c).op)).el,(fillS (elemsFo (tdO tt (tyO (opC c).op)).es (lenO (opC c).op)) (frzS (vwC c) fz).L (partO (opC c).op).toList (zeroRow (tdO tt (tdO tt (tyO (opC c).op)).el).z (lenO (opC c).op * (tdO tt (tyO (opC c).op)).es))),rowL O (look (frzS (vwC c) fz).V) xs ((fillS (elemsFo (tdO tt (tyO (opC c).op)).es (lenO (opC c).op)) (frzS (vwC c) fz).L (partO (opC c).op).toList (zeroRow (tdO tt (tdO tt (tyO (opC c).op)).el).z (lenO (opC c).op * (tdO tt (tyO (opC c).op)).es))).getD []),rowE R.sz xs ((fillS (elemsFo (tdO tt (tyO (opC c).op)).es (lenO (opC c).op)) (frzS (vwC c) fz).L (partO (opC c).op).toList (zeroRow (tdO tt (tdO tt (tyO (opC c).op)).el).z (lenO (opC c).op * (tdO tt (tyO (opC c).op)).es))).getD []),(Nat.beq (tdO tt (tyO (opC c).op)).kd 6 && Nat.beq (tdO tt (tyO (opC c).op)).es R.sz && Nat.beq xs.length (lenO (opC c).op) && Nat.ble (lenO (opC c).op * (tdO tt (tyO (opC c).op)).es) 16777216 && !(tdO tt (tdO tt (tyO (opC c).op)).el).z.isEmpty))=(true,some (dstC c),true,.buildSlice (tyO (opC c).op) (lenO (opC c).op) (partO (opC c).op),some (tdO tt (tyO (opC c).op)),some (tdO tt (tdO tt (tyO (opC c).op)).el),some ((fillS (elemsFo (tdO tt (tyO (opC c).op)).es (lenO (opC c).op)) (frzS (vwC c) fz).L (partO (opC c).op).toList (zeroRow (tdO tt (tdO tt (tyO (opC c).op)).el).z (lenO (opC c).op * (tdO tt (tyO (opC c).op)).es))).getD []),rowR O (look (frzS (vwC c) fz).V) xs ((fillS (elemsFo (tdO tt (tyO (opC c).op)).es (lenO (opC c).op)) (frzS (vwC c) fz).L (partO (opC c).op).toList (zeroRow (tdO tt (tdO tt (tyO (opC c).op)).el).z (lenO (opC c).op * (tdO tt (tyO (opC c).op)).es))).getD []),[],true):=by kernel_rfl):Wc X c:=by
 simp only [Prod.mk.injEq] at hp
 obtain ⟨h1,h2,h3,h4,h5,h6,h7,h8,h9,h10⟩:=hp
 obtain ⟨h0,hn⟩:=hB_ok h1
 refine Wc.evz (d:=dBs R xs fz c) fz h0 h3 (d1_dst h2 rfl) (fun nk E0 F0 w0 n0 Z rest K ho hg h=>WPr.bs (X:=X.var nk E0 F0 w0 n0 Z) O htt xs ho hg h4 h2 h5 h6 h7 (row_ok h8 h9) (by rw [hn];simpa using h10) h) k
def dMk {α:Type} (R:TRep α) (xs:List α) (c:Cf):Dl:=⟨[(dstC c,.c (.sl (vwC c).nx))],[((vwC c).nx,.own R xs true)],[],1⟩
def nMk {α:Type} (R:TRep α) (xs:List α) (c:Cf):Cf:=goC (dMk R xs c) c
theorem eMk {α:Type} {R:TRep α} {z:α} {l m:Int} {xs:List α} {c:Cf} (htt:TTOk X.P tt) (O:Opn R) (hm:mkL z l m=some xs) (k:Wc X (nMk R xs c))
  (hp:(hB X.fn.ntmps c,(opC c).dst,(opC c).op,look tt (tyO (opC c).op),look tt (tdO tt (tyO (opC c).op)).el,argV c 0,argV c 1,rowL O (look (vwC c).V) [z] (tdO tt (tdO tt (tyO (opC c).op)).el).z,rowE R.sz [z] (tdO tt (tdO tt (tyO (opC c).op)).el).z,(Nat.beq (tdO tt (tyO (opC c).op)).kd 6 && Nat.beq (tdO tt (tyO (opC c).op)).es R.sz && Nat.ble (tdO tt (tyO (opC c).op)).eb 32768 && !(tdO tt (tdO tt (tyO (opC c).op)).el).z.isEmpty))=(true,some (dstC c),.makeSlice (tyO (opC c).op) (argO (opC c).op 0) (argO (opC c).op 1),some (tdO tt (tyO (opC c).op)),some (tdO tt (tdO tt (tyO (opC c).op)).el),some (.c (.i (ikV (argV c 0)) l)),some (.c (.i (ikV (argV c 1)) m)),rowR O (look (vwC c).V) [z] (tdO tt (tdO tt (tyO (opC c).op)).el).z,[],true):=by kernel_rfl):Wc X c:=by
 simp only [Prod.mk.injEq] at hp
 obtain ⟨h1,h2,h3,h4,h5,h6,h7,h8,h9,h10⟩:=hp
 obtain ⟨h0,hn⟩:=hB_ok h1
 refine Wc.ev (d:=dMk R xs c) h0 (d1_dst h2 rfl) (fun nk E0 F0 w0 n0 Z rest K ho hg h=>WPr.mk (X:=X.var nk E0 F0 w0 n0 Z) O htt z hm ho hg h3 h2 h4 h5 h6 h7 (row_ok h8 h9) (by rw [hn];simpa using h10) h) k
def dIs {α:Type} (R:TRep α) (zs:List α) (c:Cf):Dl:=⟨[(dstC c,.c (.sl (vwC c).nx))],[],[((vwC c).nx,.sl R zs)],1⟩
def nIs {α:Type} (R:TRep α) (zs:List α) (c:Cf):Cf:=goC (dIs R zs c) c
theorem eIs {α:Type} {xs zs:List α} {lo hi:Option Int} {c:Cf} (htt:TTOk X.P tt) (R:TRep α) (hz:lsl xs lo hi=some zs) (k:Wc X (nIs R zs c))
    (hp:(hB X.fn.ntmps c,(opC c).dst,(opC c).op,look tt (tyO (opC c).op),argV c 0,look (vwC c).V (keyV (argV c 0)),evOI (vwC c).L (loO (opC c).op),evOI (vwC c).L (hiO (opC c).op),((evOI (vwC c).L (loO (opC c).op)).getD none).map (·.2),((evOI (vwC c).L (hiO (opC c).op)).getD none).map (·.2),slB tt R.sz c)=(true,some (dstC c),.slice (tyO (opC c).op) (argO (opC c).op 0) (loO (opC c).op) (hiO (opC c).op) none,some (tdO tt (tyO (opC c).op)),some (.c (.sl (keyV (argV c 0)))),some (.sl R xs),some ((evOI (vwC c).L (loO (opC c).op)).getD none),some ((evOI (vwC c).L (hiO (opC c).op)).getD none),lo,hi,true):=by kernel_rfl):Wc X c:=by
  simp only [Prod.mk.injEq] at hp
  obtain ⟨h1,h2,h3,h4,h5,h6,h7,h8,h9,h10,h11⟩:=hp
  obtain ⟨h0,hn⟩:=hB_ok h1
  refine Wc.ev (d:=dIs R zs c) h0 (d1_dst h2 rfl) (fun nk E0 F0 w0 n0 Z rest K ho hg h=>WPr.isl (X:=X.var nk E0 F0 w0 n0 Z) htt (by rw [h9,h10];exact hz) ho hg h3 h2 h4 h5 h6 h7 h8 (slB_ok h11 hn) h) k
def dVw (lo hi:Option Int) (sz:Nat) (c:Cf):Dl:=⟨[(dstC c,.c (.sl (vwC c).nx))],[],[((vwC c).nx,.vw (keyV (argV c 0)) lo hi sz)],1⟩
def nVw (lo hi:Option Int) (sz:Nat) (c:Cf):Cf:=goC (dVw lo hi sz c) c
theorem eVw {α:Type} {xs zs:List α} {lo hi:Option Int} {c:Cf} (htt:TTOk X.P tt) (R:TRep α) (hz:lsl xs lo hi=some zs) (k:Wc X (nVw lo hi R.sz c))
    (hp:(hB X.fn.ntmps c,(opC c).dst,(opC c).op,look tt (tyO (opC c).op),argV c 0,look (vwC c).M (keyV (argV c 0)),evOI (vwC c).L (loO (opC c).op),evOI (vwC c).L (hiO (opC c).op),((evOI (vwC c).L (loO (opC c).op)).getD none).map (·.2),((evOI (vwC c).L (hiO (opC c).op)).getD none).map (·.2),slB tt R.sz c)=(true,some (dstC c),.slice (tyO (opC c).op) (argO (opC c).op 0) (loO (opC c).op) (hiO (opC c).op) none,some (tdO tt (tyO (opC c).op)),some (.c (.sl (keyV (argV c 0)))),some (.own R xs (fwM (look (vwC c).M (keyV (argV c 0))))),some ((evOI (vwC c).L (loO (opC c).op)).getD none),some ((evOI (vwC c).L (hiO (opC c).op)).getD none),lo,hi,true):=by kernel_rfl):Wc X c:=by
  simp only [Prod.mk.injEq] at hp
  obtain ⟨h1,h2,h3,h4,h5,h6,h7,h8,h9,h10,h11⟩:=hp
  obtain ⟨h0,hn⟩:=hB_ok h1
  refine Wc.ev (d:=dVw lo hi R.sz c) h0 (d1_dst h2 rfl) (fun nk E0 F0 w0 n0 Z rest K ho hg h=>WPr.vw (X:=X.var nk E0 F0 w0 n0 Z) htt (by rw [h9,h10];exact hz) ho hg h3 h2 h4 h5 h6 h7 h8 (slB_ok h11 hn) (by rw [h9,h10];exact h)) k
def dSs (z:ByteArray) (c:Cf):Dl:=d1 c (.c (.s z))
def nSs (z:ByteArray) (c:Cf):Cf:=goC (dSs z c) c
theorem eSs {b z:ByteArray} {lo hi:Option Int} {c:Cf} (htt:TTOk X.P tt) (hz:ssl b lo hi=some z) (k:Wc X (nSs z c))
    (hp:(hB X.fn.ntmps c,(opC c).dst,(opC c).op,look tt (tyO (opC c).op),Nat.beq (tdO tt (tyO (opC c).op)).kd 2,argV c 0,evOI (vwC c).L (loO (opC c).op),evOI (vwC c).L (hiO (opC c).op),((evOI (vwC c).L (loO (opC c).op)).getD none).map (·.2),((evOI (vwC c).L (hiO (opC c).op)).getD none).map (·.2))=(true,some (dstC c),.slice (tyO (opC c).op) (argO (opC c).op 0) (loO (opC c).op) (hiO (opC c).op) none,some (tdO tt (tyO (opC c).op)),true,some (.c (.s b)),some ((evOI (vwC c).L (loO (opC c).op)).getD none),some ((evOI (vwC c).L (hiO (opC c).op)).getD none),lo,hi):=by kernel_rfl):Wc X c:=by
  simp only [Prod.mk.injEq] at hp
  obtain ⟨h1,h2,h3,h4,h5,h6,h7,h8,h9,h10⟩:=hp
  obtain ⟨h0,hn⟩:=hB_ok h1
  refine Wc.ev (d:=dSs z c) h0 (d1_dst h2 rfl) (fun nk E0 F0 w0 n0 Z rest K ho hg h=>WPr.ssl (X:=X.var nk E0 F0 w0 n0 Z) htt (by rw [h9,h10];exact hz) ho hg h3 h2 h4 h5 h6 h7 h8 hn h) k
def dSx (z:Int) (c:Cf):Dl:=d1 c (.c (.i .u8 z))
def nSx (z:Int) (c:Cf):Cf:=goC (dSx z c) c
theorem eSx {b:ByteArray} {m z:Int} {c:Cf} (htt:TTOk X.P tt) (hz:sidx b m=some z) (k:Wc X (nSx z c))
  (hp:(hB X.fn.ntmps c,(opC c).dst,(opC c).op,look tt (tyO (opC c).op),Nat.beq (tdO tt (tyO (opC c).op)).kd 2,argV c 0,argV c 1)=(true,some (dstC c),.index (tyO (opC c).op) (argO (opC c).op 0) (argO (opC c).op 1),some (tdO tt (tyO (opC c).op)),true,some (.c (.s b)),some (.c (.i (ikV (argV c 1)) m))):=by kernel_rfl):Wc X c:=by
 simp only [Prod.mk.injEq] at hp
 obtain ⟨h1,h2,h3,h4,h5,h6,h7⟩:=hp
 obtain ⟨h0,hn⟩:=hB_ok h1
 refine Wc.ev (d:=dSx z c) h0 (d1_dst h2 rfl) (fun nk E0 F0 w0 n0 Z rest K ho hg h=>WPr.sx (X:=X.var nk E0 F0 w0 n0 Z) htt hz ho hg h3 h2 h4 h5 h6 h7 hn h) k
def dCa (z:ByteArray) (c:Cf):Dl:=d1 c (.c (.s z))
def nCa (z:ByteArray) (c:Cf):Cf:=goC (dCa z c) c
theorem eCa {a b z:ByteArray} {c:Cf} (hz:catS a b=some z) (k:Wc X (nCa z c))
  (hp:(hB X.fn.ntmps c,(opC c).dst,(opC c).op,argV c 0,argV c 1)=(true,some (dstC c),.binOp .add (tyO (opC c).op) (argO (opC c).op 0) (argO (opC c).op 1) (tyO2 (opC c).op),some (.c (.s a)),some (.c (.s b))):=by kernel_rfl):Wc X c:=by
 simp only [Prod.mk.injEq] at hp
 obtain ⟨h1,h2,h3,h4,h5⟩:=hp
 obtain ⟨h0,hn⟩:=hB_ok h1
 refine Wc.ev (d:=dCa z c) h0 (d1_dst h2 rfl) (fun nk E0 F0 w0 n0 Z rest K ho hg h=>WPr.cat (X:=X.var nk E0 F0 w0 n0 Z) hz ho hg h3 h2 h4 h5 hn h) k
def dEq (P:Program) (c:Cf):Dl:=d1 c (.c (.b (bif negO (opC c).op then !((eqS P 20 (tyO (opC c).op) (aggV (argV c 0)) (aggV (argV c 1))).getD false) else (eqS P 20 (tyO (opC c).op) (aggV (argV c 0)) (aggV (argV c 1))).getD false)))
def nEq (P:Program) (c:Cf):Cf:=goC (dEq P c) c
theorem eEq {c:Cf}  (k:Wc X (nEq X.P c))
  (hp:(hB X.fn.ntmps c,(opC c).dst,aggOf X.P (tyO (opC c).op),(eqS X.P 20 (tyO (opC c).op) (aggV (argV c 0)) (aggV (argV c 1))),X.P.eqGuardType X.P.depth (tyO (opC c).op),(opC c).op,argV c 0,argV c 1)=(true,some (dstC c),true,some ((eqS X.P 20 (tyO (opC c).op) (aggV (argV c 0)) (aggV (argV c 1))).getD false),false,.binOp (bif negO (opC c).op then .neq else .eql) (tyO (opC c).op) (argO (opC c).op 0) (argO (opC c).op 1) (tyO2 (opC c).op),some (.a (aggV (argV c 0))),some (.a (aggV (argV c 1)))):=by kernel_rfl):Wc X c:=by
 simp only [Prod.mk.injEq] at hp
 obtain ⟨h1,h2,h3,h4,h5,h6,h7,h8⟩:=hp
 obtain ⟨h0,hn⟩:=hB_ok h1
 refine Wc.ev (d:=dEq X.P c) h0 (d1_dst h2 rfl) (fun nk E0 F0 w0 n0 Z rest K ho hg h=>WPr.eqa (X:=X.var nk E0 F0 w0 n0 Z) (equal_run h3 h4) h5 ho hg h6 h2 h7 h8 hn h) k
def dCb (ct:Ct) (l:List (Nat × SC)) (fz:List Nat) (c:Cf):Dl:=callD (frzS (vwC c) fz) ct l (dstC c)
def nCb (ct:Ct) (l:List (Nat × SC)) (fz:List Nat) (c:Cf):Cf:=goC ((dCb ct l fz c).fz (vwC c) fz) c
theorem eCb {f:FuncId} {ct:Ct} {c:Cf} (hf:Fn X.P f ct) (fz:List Nat) (l:List (Nat × SC)) (bor:List Nat) (hflat:bor=[]∨(ct.V1=[]∧FlatM ct.M1)) (k:Wc X (nCb ct l fz c))
  (hp:(hB X.fn.ntmps c,(opC c).dst,frzB (vwC c) fz,(opC c).op,evalO (frzS (vwC c) fz).L (calO (opC c).op),(evalL (frzS (vwC c) fz).L (argsO (opC c).op).toList).map (fun vs=>boxA (clF (evalO (frzS (vwC c) fz).L (calO (opC c).op)))++vs++boxA (clK (evalO (frzS (vwC c) fz).L (calO (opC c).op)))),ct.V0.map (fun p=>findVb (frzS (vwC c) fz) ⟨l,ct.nk,(frzS (vwC c) fz).nx⟩ bor p.1 p.2),ct.M0.map (fun p=>findM (frzS (vwC c) fz) ⟨l,ct.nk,(frzS (vwC c) fz).nx⟩ p.1 p.2),callB (frzS (vwC c) fz) ct l bor)=(true,some (dstC c),true,.call { callee:=.value (calO (opC c).op),args:=argsO (opC c).op,argTypes:=tysO (opC c).op },some (.c (.cl f (clF (evalO (frzS (vwC c) fz).L (calO (opC c).op))) (clK (evalO (frzS (vwC c) fz).L (calO (opC c).op))))),some (ct.args.map (renV ⟨l,ct.nk,(frzS (vwC c) fz).nx⟩)),ct.V0.map (fun p=>some p.2),ct.M0.map (fun p=>some (renM ⟨l,ct.nk,(frzS (vwC c) fz).nx⟩ p.2)),true):=by kernel_rfl):Wc X c:=by
 simp only [Prod.mk.injEq] at hp
 obtain ⟨h1,h2,h3,h4,h5,h6,h7,h8,h9⟩:=hp
 obtain ⟨h0,hn⟩:=hB_ok h1
 refine Wc.evz (d:=dCb ct l fz c) fz h0 h3 (d1_dst h2 rfl) (fun nk E0 F0 w0 n0 Z rest K ho hg h=>WPr.callc (X:=X.var nk E0 F0 w0 n0 Z) hf l bor ho hg h4 h2 hn h5 h6 h7 h8 hflat h9 h) k
theorem eCl {f:FuncId} {ct:Ct} {c:Cf} (hf:Fn X.P f ct) (fz:List Nat) (l:List (Nat × SC)) (k:Wc X (nCb ct l fz c))
  (hp:(hB X.fn.ntmps c,(opC c).dst,frzB (vwC c) fz,(opC c).op,evalO (frzS (vwC c) fz).L (calO (opC c).op),(evalL (frzS (vwC c) fz).L (argsO (opC c).op).toList).map (fun vs=>boxA (clF (evalO (frzS (vwC c) fz).L (calO (opC c).op)))++vs++boxA (clK (evalO (frzS (vwC c) fz).L (calO (opC c).op)))),ct.V0.map (fun p=>findVb (frzS (vwC c) fz) ⟨l,ct.nk,(frzS (vwC c) fz).nx⟩ [] p.1 p.2),ct.M0.map (fun p=>findM (frzS (vwC c) fz) ⟨l,ct.nk,(frzS (vwC c) fz).nx⟩ p.1 p.2),callB (frzS (vwC c) fz) ct l [])=(true,some (dstC c),true,.call { callee:=.value (calO (opC c).op),args:=argsO (opC c).op,argTypes:=tysO (opC c).op },some (.c (.cl f (clF (evalO (frzS (vwC c) fz).L (calO (opC c).op))) (clK (evalO (frzS (vwC c) fz).L (calO (opC c).op))))),some (ct.args.map (renV ⟨l,ct.nk,(frzS (vwC c) fz).nx⟩)),ct.V0.map (fun p=>some p.2),ct.M0.map (fun p=>some (renM ⟨l,ct.nk,(frzS (vwC c) fz).nx⟩ p.2)),true):=by kernel_rfl):Wc X c:=eCb hf fz l [] (.inl rfl) k hp
end
end Go.Kx
end
section
namespace Go.Kx
def Cf.isC:Cf→Bool
 | .co _ _=>true
 | _=>false
def Cf.itm:Cf→List Item
 | .co k _=>k
 | _=>[]
section
variable {X:Ctx} {tt:List (Nat × TD)}
theorem Wc.co {c:Cf} (h:c.isC=true) (k:WP X c.itm c.st):Wc X c:=by
 cases c with
 | co _ _=>exact ⟨k⟩
 | rg _ _ _ _ _=>cases h
 | no=>cases h
def slC:Cf→Nat
 | .co (.code (.cond (.tmp d) _ _)::_) _=>d
 | .rg _ ops i _ _=>match ops[i]? with
  | some o=>match o.guard with
   | some (j,_)=>match ops[j]? with
    | some oj=>oj.dst.getD 0
    | none=>0
   | none=>0
  | none=>0
 | _=>0
def gjC (c:Cf):Nat:=match (opC c).guard with
 | some (j,_)=>j
 | none=>0
def stepC:Cf→Option (List (Nat × SV))
 | .rg (some q) ops i k s=>some (entA q.2.2 (gjC (.rg (some q) ops i k s))).dL
 | _=>none
def wantC (b:Bool):Cf→Option (List (Nat × SV))
 | .rg (some q) ops i k s=>some [(slC (.rg (some q) ops i k s),.c (.b b))]
 | _=>none
def setL (d:Nat) (b:Bool) (s:St):St:=⟨(d,.c (.b b))::s.L,s.M,s.V,s.nx⟩
def setE (j d:Nat) (b:Bool) (es:List Ent):List Ent:=es.set j { entA es j with dL:=[(d,.c (.b b))] }
def setC (t:Bool):Cf→Cf
 | .co k s=>.co k (setL (slC (.co k s)) t s)
 | .rg none ops i k s=>.rg none ops i k (setL (slC (.rg none ops i k s)) t s)
 | .rg (some q) ops i k s=>.rg (some (q.1,q.2.1,setE (gjC (.rg (some q) ops i k s)) (slC (.rg (some q) ops i k s)) t q.2.2)) ops i k (setL (slC (.rg (some q) ops i k s)) t s)
 | .no=>.no
theorem setE_same {j d:Nat} {b:Bool} {es:List Ent} (h:(entA es j).dL=[(d,.c (.b b))]):setE j d b es=es:=by
 unfold setE
 rw [← h]
 show es.set j (entA es j)=es
 unfold entA
 by_cases hj:j < es.length
 ·rw [show es.getD j ent0=es[j] by simp [List.getD,hj],List.set_getElem_self]
 ·exact List.set_eq_of_length_le (Nat.not_lt.1 hj)
theorem eK {b t:Bool} (K:b=t) {c:Cf} (k:Wc X (setC t c)) (hp:(look c.st.L (slC c),stepC c)=(some (.c (.b b)),wantC b c):=by kernel_rfl):Wc X c:=by
 subst K
 obtain ⟨h1,h2⟩:=Prod.mk.inj hp
 cases c with
 | no=>exact k.1.elim
 | co k' s=>exact ⟨fun E F w a hs=>k.1 E F w a (Sat.setL0 hs h1 rfl trivial)⟩
 | rg m ops i k' s =>
  cases m with
  | none=>exact ⟨WPr.kb _ rfl h1 k.1⟩
  | some q =>
   refine ⟨fun hA hl=>?_⟩
   have e:=setE_same (Option.some.inj h2)
   have k:AllLS X ops 0 (setE _ _ _ q.2.2)→(setE _ _ _ q.2.2).length=i→WP X (.code (.region q.1 ops true)::k') q.2.1:=k.1
   rw [e] at k
   exact k hA hl
theorem wa (htt:TTOk X.P tt) (n:Nat) {c:Cf} (k:Wc X (adv tt X.fn.ntmps n c)):Wc X c:=adv_ok htt n k
def ctS (c:Cf) (s:St):Cf:=.co c.kk s
theorem eCut {σ:Type} (J:σ→St) (Q:σ→Prop) {c:Cf} (hk:∀ st,Q st→Wc X (ctS c (J st))) (h:(∀ st,Q st→WP X c.kk (J st))→Wc X c):Wc X c:=h fun st hq=>(hk st hq).1
def lpC (c:Cf):Code:=match c with
 | .co (.code (.loop x)::_) _=>x
 | _=>.skip
def lpS (c:Cf) (s:St):Cf:=.co (.code (lpC c)::.inLoop (lpC c)::c.kk) s
def lpK (c:Cf):List Item:=.inLoop (lpC c)::c.kk
def lpI (c:Cf):List Item:=.code (.loop (lpC c))::c.kk
theorem eLoop {σ ρ:Type} {r:ρ} (H:σ→St) (p:Nat→σ→Option ρ) (h0:∀ st,p 0 st=none) {c:Cf}
  (step:∀ n,(∀ st,p n st=some r→WP X (lpK c) (H st))→∀ st,p (n+1) st=some r→Wc X (lpS c (H st)))
  (h:(∀ n st,p n st=some r→WP X (lpI c) (H st))→Wc X c):Wc X c:=by
 have key:∀ n st,p n st=some r→WP X (.code (lpC c)::.inLoop (lpC c)::c.kk) (H st):=by
  intro n
  induction n with
  | zero=>intro st hp;rw [h0] at hp;cases hp
  | succ n ih=>exact fun st hq=>(step n (fun st hp=>WP.inLoop (ih st hp)) st hq).1
 exact h fun n st hp=>WP.loop (key n st hp)
theorem eSub {t:St} {todo:List Item} (l:List (Nat × SC)) (k:WP X todo t) {c:Cf}
    (hp:(c.isC,c.itm,t.L.map (fun p=>look c.st.L p.1),t.V.map (fun p=>findV c.st ⟨l,0,0⟩ p.1 p.2),t.M.map (fun p=>findM c.st ⟨l,0,0⟩ p.1 p.2),
        (t.L.all (fun p=>okV ⟨l,0,0⟩ p.2) && nodupB (t.M.filterMap fun p=>keyM ⟨l,0,0⟩ p.1 p.2) && nodupB (t.M.map (·.1)) && wfb t.L t.M t.V t.nx && l.all (fun p=>Nat.ble X.nk p.1 && p.2.kbb c.st.nx) && Nat.ble X.nk t.nx)) =
      (true,todo,t.L.map (fun p=>some (renV ⟨l,0,0⟩ p.2)),t.V.map (fun p=>some p.2),t.M.map (fun p=>some (renM ⟨l,0,0⟩ p.2)),true):=by kernel_rfl):Wc X c:=by
  simp only [Prod.mk.injEq] at hp
  obtain ⟨h1,h2,h3,h4,h5,h6⟩:=hp
  refine Wc.co h1 ?_
  rw [h2]
  exact WP.sub l k h3 h4 h5 h6
def mapC (f:St→St):Cf→Cf
 | .co k s=>.co k (f s)
 | .rg none ops i k s=>.rg none ops i k (f s)
 | _=>.no
theorem mapC_ok {f:St→St} {c:Cf} (h:∀ E F w a,Sat X c.st E F w a→∃ E' F',Sat X (f c.st) E' F' w a) (k:Wc X (mapC f c)):Wc X c:=by
 cases c with
 | no=>exact k.1.elim
 | co k' s=>exact ⟨fun E F w a hs=>let ⟨E',F',hs'⟩:=h E F w a hs;k.1 E' F' w a hs'⟩
 | rg m ops i k' s =>
  cases m with
  | none=>exact ⟨fun E F w a hs=>let ⟨E',F',hs'⟩:=h E F w a hs;k.1 E' F' w a hs'⟩
  | some q=>exact k.1.elim
theorem eFr (fz:List Nat) {c:Cf} (k:Wc X (mapC (fun s=>frzS s fz) c)) (hp:frzB c.st fz=true:=by kernel_rfl):Wc X c :=
 mapC_ok (fun _ _ _ _ hs=>let ⟨F',h⟩:=frzS_sat hs hp;⟨_,F',h⟩) k
theorem eSl {α:Type} (R:TRep α) {xs zs:List α} {l h:Option Int} (K:Nat) (hz:lsl xs l h=some zs) {c:Cf}
  (k:Wc X (mapC (fun s=>⟨s.L,(K,.own R zs (fwM (look s.M (elK (look s.V K)))))::(elK (look s.V K),.gone)::s.M,s.V,s.nx⟩) c))
  (hp:(look c.st.V K,look c.st.M (elK (look c.st.V K)),(look c.st.M K).isNone)=(some (.vw (elK (look c.st.V K)) l h R.sz),some (.own R xs (fwM (look c.st.M (elK (look c.st.V K))))),true):=by kernel_rfl):Wc X c:=by
 simp only [Prod.mk.injEq,Option.isNone_iff_eq_none] at hp
 obtain ⟨h1,h2,h3⟩:=hp
 exact mapC_ok (fun E F w a hs=>⟨E,F,hs.settle hz h1 h2 h3⟩) k
def retC:Cf→Bool
 | .co [] _=>true
 | .co (.code .ret::_) _=>true
 | _=>false
theorem eRet {P:Program} {f:FuncId} {fn:Func} {ct:Ct} {E0:Env} {F0:FSet} {w0:World} (htt:TTOk P tt) (hf:P.funcs[f]? = some fn) (l:List (Nat × SC)) {c:Cf}
    (hp:(retC c,resV tt c.st fn.results.toList,ct.V1.map (fun p=>findV c.st ⟨l,0,0⟩ p.1 p.2),ct.M1.map (fun p=>findM c.st ⟨l,0,0⟩ p.1 p.2),
        (okV ⟨l,0,0⟩ ct.res && nodupB (ct.M1.filterMap fun p=>keyM ⟨l,0,0⟩ p.1 p.2) && nodupB (ct.M1.map (·.1)) && l.all (fun p=>Nat.ble ct.nk p.1 && p.2.kbb c.st.nx))) =
      (true,some (renV ⟨l,0,0⟩ ct.res),ct.V1.map (fun p=>some p.2),ct.M1.map (fun p=>some (renM ⟨l,0,0⟩ p.2)),true):=by kernel_rfl):Wc (ct.ctx P f fn E0 F0 w0) c:=by
  simp only [Prod.mk.injEq] at hp
  obtain ⟨h1,h2,h3,h4,h5⟩:=hp
  unfold retC at h1
  split at h1
  · exact ⟨WP.fin htt hf l h2 h3 h4 h5⟩
  · exact ⟨WP.ret htt hf l h2 h3 h4 h5⟩
  · cases h1
theorem eFn {P:Program} {f:FuncId} {c:Ct} {fn:Func} {body:Code} (hf:P.funcs[f]? = some fn) (hb:fn.body=some body) (h:∀ E F w,Wc (c.ctx P f fn E F w) (.co [.code body] ⟨numL 0 c.args,c.M0,c.V0,c.nk⟩))
  (hp:((fn.name == "runtime.NumGoroutine"),(wfb (numL 0 c.args) c.M0 c.V0 c.nk && c.M0.all (fun p => !p.2.isFresh) && Nat.ble c.args.length fn.ntmps))=(false,true):=by kernel_rfl):Fn P f c :=
 Fn.intro fn body hf hb (Prod.mk.inj hp).1 (Prod.mk.inj hp).2 fun E F w=>(h E F w).1
def ancR:List Oper→List Nat→List Nat
 | [],acc=>acc
 | o::r,acc=>ancR r (acc++[ancF acc o.after.toList])
def entsC:Cf→List Ent
 | .rg (some q) _ _ _ _=>q.2.2
 | _=>[]
def st0C:Cf→St
 | .rg (some q) _ _ _ _=>q.2.1
 | _=>⟨[],[],[],0⟩
def isD:Cf→Bool
 | .rg (some _) ops i _ _=>Nat.beq i ops.size
 | _=>false
def endC (c:Cf):Cf:=.co c.kk (stD (entsC c) c.st.nx (st0C c) fun _=>true)
theorem eEnd {c:Cf} (k:Wc X (endC c)) (hp:(isD c,X.P.follows .mixedOrders,chkB c.ops (entsC c) (ancR c.ops.toList []) (st0C c).nx c.st.nx,needs (entsC c) (ancR c.ops.toList []) (st0C c))=(true,true,true,wants (entsC c)):=by kernel_rfl):Wc X c:=by
 simp only [Prod.mk.injEq] at hp
 obtain ⟨h1,h2,h3,h4⟩:=hp
 cases c with
 | no=>cases h1
 | co k' s=>cases h1
 | rg m ops i k' s =>
  cases m with
  | none=>cases h1
  | some q =>
   refine ⟨fun hA hl=>?_⟩
   obtain ⟨k⟩:=k
   obtain ⟨id,s0,es⟩:=q
   replace h3:chkB ops es (ancR ops.toList []) s0.nx s.nx=true:=h3
   replace h4:needs es (ancR ops.toList []) s0=wants es:=h4
   replace hA:AllLS X ops 0 es:=hA
   show WP X (.code (.region id ops true)::k') s0
   intro E F w a hs
   have c:=chkB_ok h3
   refine runs_of_wp (wp_region_any h2 ?_)
   have hs':Sat X s0 E F { w with drawn:=w.drawn+1 } a:=hs.world rfl rfl rfl (Nat.le_refl _) fun _ _=>rfl
   have hf:∀ j,(Array.replicate ops.size false).getD j false=false:=fun j=>by
    by_cases h:j < ops.size<;>simp [h]
   refine regionD_aux (todo:=rk X k') hA c h4 hs.wf hs.nk (fun E F w a hs=>k E F w a hs) ops.size _ E F _ a (by simp)
    (fun i hi=>by rw [hf] at hi;cases hi) (by rw [c.size];exact cnt_false fun j _=>by rw [← c.size];exact hf j) ?_
   have:stD es s.nx s0 (fun j=>(Array.replicate ops.size false).getD j false)=⟨s0.L,s0.M,s0.V,s.nx⟩:=by
    rw [show (fun j=>(Array.replicate ops.size false).getD j false)=fun _=>false from funext hf]
    unfold stD
    rw [gath_false,gath_false,gath_false]
   show Sat X (stD es s.nx s0 _) E F _ a
   rw [this]
   exact hs'.nxt c.nxle
end
end Go.Kx
end
section
namespace Go.Kx
def arrN (P:Program) (t:TypeId):Nat:=match P.underlying t with
 | some (.array n _)=>n
 | _=>0
def elT (P:Program) (t:TypeId):TypeId:=match P.underlying t with
 | some (.array _ e)=>e
 | some (.slice e)=>e
 | some (.pointer e)=>e
 | _=>0
def szT (P:Program) (t:TypeId):Nat:=((P.info? t).map (·.size)).getD 0
def isPx:Option VF→Bool
 | some (.pl _)=>true
 | some (.el _ _)=>true
 | _=>false
theorem isPx_ok {V:List (Nat × VF)} {k:Nat} (h:isPx (look V k)=true):(∃ cs,look V k=some (.pl cs))∨∃ q m,look V k=some (.el q m):=by
 unfold isPx at h
 split at h
 ·rename_i cs e;exact .inl ⟨cs,e⟩
 ·rename_i q m e;exact .inr ⟨q,m,e⟩
 ·cases h
def boxT:Option MO→TypeId
 | some (.box _ t)=>t
 | _=>0
def boxC:Option MO→List SC
 | some (.box cs _)=>cs
 | _=>[]
section
variable {X:Ctx} {tt:List (Nat × TD)}
def dAx (v:SC) (c:Cf):Dl:=d1 c (.c v)
def nAx (v:SC) (c:Cf):Cf:=goC (dAx v c) c
theorem eAx {α:Type} {m:Int} {e:α} {c:Cf} (f:α→SC) (xs:List α) (hi:idx xs m=some e) (k:Wc X (nAx (f e) c))
    (hp:(hB X.fn.ntmps c,(opC c).dst,(opC c).op,X.P.underlying (tyO (opC c).op),(X.P.info? (elT X.P (tyO (opC c).op))).map (·.size),aggOf X.P (elT X.P (tyO (opC c).op)),(X.P.underlying (elT X.P (tyO (opC c).op))).isSome,argV c 0,argV c 1)=(true,some (dstC c),.index (tyO (opC c).op) (argO (opC c).op 0) (argO (opC c).op 1),some (.array xs.length (elT X.P (tyO (opC c).op))),some 1,false,true,some (.a (xs.map f)),some (.c (.i (ikV (argV c 1)) m))):=by kernel_rfl):Wc X c:=by
  simp only [Prod.mk.injEq] at hp
  obtain ⟨h1,h2,h3,h4,h5,h6,h7,h8,h9⟩:=hp
  obtain ⟨h0,hn⟩:=hB_ok h1
  refine Wc.ev (d:=dAx (f e) c) h0 (d1_dst h2 rfl) (fun nk E0 F0 w0 n0 Z rest K ho hg h=>WPr.ax (X:=X.var nk E0 F0 w0 n0 Z) f xs hi ho hg h3 h2 h4 h5 h6 h7 h8 rfl h9 hn h) k
def dAb (P:Program) (j:Nat) (c:Cf):Dl:=d1 c (.c (.bp (keyV (argV c 0)) (offV (argV c 0)+j * szT P (elT P (tyO (opC c).op)))))
def nAb (P:Program) (j:Nat) (c:Cf):Cf:=goC (dAb P j c) c
theorem eAb {m:Int} {c:Cf} (j:Nat) (hj:m=(j:Int)) (k:Wc X (nAb X.P j c))
    (hp:(hB X.fn.ntmps c,(opC c).dst,(opC c).op,X.P.underlying (tyO (opC c).op),(X.P.info? (elT X.P (tyO (opC c).op))).map (·.size),Nat.blt j (arrN X.P (tyO (opC c).op)),argV c 0,argV c 1)=(true,some (dstC c),.indexAddr (tyO (opC c).op) (argO (opC c).op 0) (argO (opC c).op 1),some (.array (arrN X.P (tyO (opC c).op)) (elT X.P (tyO (opC c).op))),some (szT X.P (elT X.P (tyO (opC c).op))),true,some (.c (.bp (keyV (argV c 0)) (offV (argV c 0)))),some (.c (.i (ikV (argV c 1)) m))):=by kernel_rfl):Wc X c:=by
  simp only [Prod.mk.injEq] at hp
  obtain ⟨h1,h2,h3,h4,h5,h6,h7,h8⟩:=hp
  obtain ⟨h0,hn⟩:=hB_ok h1
  refine Wc.ev (d:=dAb X.P j c) h0 (d1_dst h2 rfl) (fun nk E0 F0 w0 n0 Z rest K ho hg h=>WPr.axb (X:=X.var nk E0 F0 w0 n0 Z) j hj ho hg h3 h2 h4 h5 h6 h7 h8 hn h) k
def dAq (P:Program) (j:Nat) (c:Cf):Dl:=d1 c (.c (.px (keyV (argV c 0)) (offV (argV c 0)+j * szT P (elT P (tyO (opC c).op)))))
def nAq (P:Program) (j:Nat) (c:Cf):Cf:=goC (dAq P j c) c
theorem eAq {m:Int} {c:Cf} (j:Nat) (hj:m=(j:Int)) (k:Wc X (nAq X.P j c))
    (hp:(hB X.fn.ntmps c,(opC c).dst,(opC c).op,X.P.underlying (tyO (opC c).op),(X.P.info? (elT X.P (tyO (opC c).op))).map (·.size),Nat.blt j (arrN X.P (tyO (opC c).op)),argV c 0,isPx (look (vwC c).V (keyV (argV c 0))),argV c 1)=(true,some (dstC c),.indexAddr (tyO (opC c).op) (argO (opC c).op 0) (argO (opC c).op 1),some (.array (arrN X.P (tyO (opC c).op)) (elT X.P (tyO (opC c).op))),some (szT X.P (elT X.P (tyO (opC c).op))),true,some (.c (.px (keyV (argV c 0)) (offV (argV c 0)))),true,some (.c (.i (ikV (argV c 1)) m))):=by kernel_rfl):Wc X c:=by
  simp only [Prod.mk.injEq] at hp
  obtain ⟨h1,h2,h3,h4,h5,h6,h7,h8,h9⟩:=hp
  obtain ⟨h0,hn⟩:=hB_ok h1
  refine Wc.ev (d:=dAq X.P j c) h0 (d1_dst h2 rfl) (fun nk E0 F0 w0 n0 Z rest K ho hg h=>WPr.axp (X:=X.var nk E0 F0 w0 n0 Z) j hj ho hg h3 h2 h4 h5 h6 h7 (isPx_ok h8) h9 hn h) k
def dSb {α:Type} (R:TRep α) (xs:List α) (fz:List Nat) (c:Cf):Dl:=⟨[(dstC c,.c (.sl (frzS (vwC c) fz).nx))],[((frzS (vwC c) fz).nx,.own R xs false),((keyV (evalO (frzS (vwC c) fz).L (argO (opC c).op 0))),.gone)],[],1⟩
def nSb {α:Type} (R:TRep α) (xs:List α) (fz:List Nat) (c:Cf):Cf:=goC ((dSb R xs fz c).fz (vwC c) fz) c
theorem eSb {α:Type} {R:TRep α} {c:Cf} (fz:List Nat) (O:Opn R) (xs:List α) (k:Wc X (nSb R xs fz c))
    (hp:(hB X.fn.ntmps c,(opC c).dst,frzB (vwC c) fz,(opC c).op,X.P.underlying (tyO (opC c).op),(X.P.info? (elT X.P (tyO (opC c).op))).map (·.size),evalO (frzS (vwC c) fz).L (argO (opC c).op 0),(look (frzS (vwC c) fz).M (keyV (evalO (frzS (vwC c) fz).L (argO (opC c).op 0)))),(look (frzS (vwC c) fz).M (frzS (vwC c) fz).nx).isNone,rowL O (look (frzS (vwC c) fz).V) xs (boxC (look (frzS (vwC c) fz).M (keyV (evalO (frzS (vwC c) fz).L (argO (opC c).op 0))))),rowE R.sz xs (boxC (look (frzS (vwC c) fz).M (keyV (evalO (frzS (vwC c) fz).L (argO (opC c).op 0))))))=(true,some (dstC c),true,.slice (tyO (opC c).op) (argO (opC c).op 0) none none none,some (.array xs.length (elT X.P (tyO (opC c).op))),some R.sz,some (.c (.bp (keyV (evalO (frzS (vwC c) fz).L (argO (opC c).op 0))) 0)),some (.box (boxC (look (frzS (vwC c) fz).M (keyV (evalO (frzS (vwC c) fz).L (argO (opC c).op 0))))) (boxT (look (frzS (vwC c) fz).M (keyV (evalO (frzS (vwC c) fz).L (argO (opC c).op 0)))))),true,rowR O (look (frzS (vwC c) fz).V) xs (boxC (look (frzS (vwC c) fz).M (keyV (evalO (frzS (vwC c) fz).L (argO (opC c).op 0))))),[]):=by kernel_rfl):Wc X c:=by
  simp only [Prod.mk.injEq] at hp
  obtain ⟨h1,h2,h3,h4,h5,h6,h7,h8,h9,h10,h11⟩:=hp
  obtain ⟨h0,hn⟩:=hB_ok h1
  refine Wc.evz (d:=dSb R xs fz c) fz h0 h3 (d1_dst h2 rfl) (fun nk E0 F0 w0 n0 Z rest K ho hg h=>WPr.slb (X:=X.var nk E0 F0 w0 n0 Z) O xs (row_ok h10 h11) ho hg h4 h2 h5 h6 h7 h8 (by rw [hn,h9];simp) h) k
def dEx (v:SV) (c:Cf):Dl:=d1 c v
def nEx (v:SV) (c:Cf):Cf:=goC (dEx v c) c
theorem eEx {f:FuncId} {svs:List SV} {v:SV} {c:Cf} (hrun:∀ (E:Env) (w:World),(callFunc f (svs.map (denV E)).toArray).run X.P w=.ok (.value (denV E v)) w) (hv:∀ n,v.kb n) (k:Wc X (nEx v c))
  (hp:(hB X.fn.ntmps c,(opC c).dst,(opC c).op,evalL (vwC c).L (argsO (opC c).op).toList)=(true,some (dstC c),.call { callee:=.value (.func f),args:=argsO (opC c).op,argTypes:=tysO (opC c).op },some svs):=by kernel_rfl):Wc X c:=by
 simp only [Prod.mk.injEq] at hp
 obtain ⟨h1,h2,h3,h4⟩:=hp
 obtain ⟨h0,hn⟩:=hB_ok h1
 refine Wc.ev (d:=dEx v c) h0 (d1_dst h2 rfl) (fun nk E0 F0 w0 n0 Z rest K ho hg h=>WPr.ext (X:=X.var nk E0 F0 w0 n0 Z) hrun hv ho hg h3 h2 hn h4 h) k
def dCw {α:Type} (R:TRep α) (r:List α × Int) (c:Cf):Dl:=⟨[(dstC c,.c (.i .i64 r.2))],[((elK (look (vwC c).V (keyV (argV c 0)))),.own R r.1 (fwM (look (vwC c).M (elK (look (vwC c).V (keyV (argV c 0)))))))],[],0⟩
def nCw {α:Type} (R:TRep α) (r:List α × Int) (c:Cf):Cf:=goC (dCw R r c) c
theorem eCw {α:Type} {xs ys:List α} {lo hi:Option Int} {r:List α × Int} {c:Cf} (htt:TTOk X.P tt) (R:TRep α) (hz:cpL xs lo hi ys=some r) (k:Wc X (nCw R r c))
  (hp:(hB X.fn.ntmps c,(opC c).dst,(opC c).op,argV c 0,look (vwC c).M (elK (look (vwC c).V (keyV (argV c 0)))),argV c 1,look tt (tyO (opC c).op),slB tt R.sz c,srcL (vwC c) ys (cellV' (argV c 1)),look (vwC c).V (keyV (argV c 0)))=(true,some (dstC c),.call { callee:=.builtin .copy,args:=#[argO (opC c).op 0,argO (opC c).op 1],argTypes:=#[tyO (opC c).op,tyO2 (opC c).op] },some (.c (.sl (keyV (argV c 0)))),some (.own R xs (fwM (look (vwC c).M (elK (look (vwC c).V (keyV (argV c 0))))))),some (.c (cellV' (argV c 1))),some (tdO tt (tyO (opC c).op)),true,srcR R ys (cellV' (argV c 1)),some (.vw (elK (look (vwC c).V (keyV (argV c 0)))) lo hi R.sz)):=by kernel_rfl):Wc X c:=by
 simp only [Prod.mk.injEq] at hp
 obtain ⟨h1,h2,h3,h4,h5,h6,h7,h8,h9,h10⟩:=hp
 obtain ⟨h0,hn⟩:=hB_ok h1
 refine Wc.ev (d:=dCw R r c) h0 (d1_dst h2 rfl) (fun nk E0 F0 w0 n0 Z rest K ho hg h=>WPr.cp (X:=X.var nk E0 F0 w0 n0 Z) htt hz (src_ok h9) ho hg h3 h2 h4 (.inl h10) h5 h6 h7 (slB_ok h8 hn) h) k
def nilD (neg b:Bool) (c:Cf):Cf:=goC (d1 c (.c (.b (bif neg then !b else b)))) c
def inC:Cf→Bool
 | .rg none _ _ _ _=>true
 | _=>false
theorem eNi {α:Type} (R:TRep α) (xs:List α) (neg:Bool) {c:Cf} (kk:∀ b:Bool,(b=true→xs=[])→Wc X (nilD neg b c))
  (hp:(hB X.fn.ntmps c,(opC c).dst,inC c,(opC c).op,X.P.underlying (tyO (opC c).op),argV c 0,argV c 1,conC (vwC c) (.sl (keyV (argV c 0)))) =
   (true,some (dstC c),true,.binOp (bif neg then .neq else .eql) (tyO (opC c).op) (argO (opC c).op 0) (argO (opC c).op 1) (tyO2 (opC c).op),some (.slice (elT X.P (tyO (opC c).op))),some (.c (.sl (keyV (argV c 0)))),some (.c .nil),some ⟨R,xs⟩):=by kernel_rfl):Wc X c:=by
 simp only [Prod.mk.injEq] at hp
 obtain ⟨h1,h2,h3,h4,h5,h6,h7,h8⟩:=hp
 obtain ⟨h0,hn⟩:=hB_ok h1
 obtain ⟨k0,e0,hor⟩:=conC_ok h8
 cases c with
 | co _ _=>cases h3
 | no=>cases h3
 | rg m ops i k' s =>
  cases m with
  | some q=>cases h3
  | none =>
   unfold rdyB at h0
   rw [Bool.and_eq_true,Bool.and_eq_true] at h0
   obtain ⟨⟨_,g2⟩,g3⟩:=h0
   have ho:ops[i]? = some (opC (.rg none ops i k' s)):=by
    obtain ⟨o,ho⟩:=Option.isSome_iff_exists.1 g2
    have ho:ops[i]? = some o:=ho
    unfold opC
    show _=some ((ops[i]?).getD default)
    rw [ho];rfl
   have hg:guardV ops s.L (opC (.rg none ops i k' s))=some true:=by
    split at g3
    ·rename_i b hb;rw [g3] at hb;exact hb
    ·cases g3
   refine ⟨?_⟩
   show WPr X ops (List.range' i (ops.size-i)) (rk X k') s
   rw [range_cons ho]
   cases e0
   exact WPr.nilc neg hor ho hg h4 h2 h5 h6 h7 hn fun b hb=>(kk b hb).1
def rngD (b:Nat) (m:ByteArray) (c:Cf):Cf:=goC ⟨[(dstC c,.c (.v (.pointer (some ⟨b,0,none⟩))))],[((vwC c).nx,.abs (itR b m 0))],[],1⟩ c
def rngE (b:Nat) (c:Cf):Cf:=rngD b (strV (argV c 0)) c
theorem eRn (htt:TTOk X.P tt) {c:Cf} (kk:∀ b,Wc X (rngE b c))
  (hp:(hB X.fn.ntmps c,(opC c).dst,inC c,(opC c).op,look tt (tyO (opC c).op),Nat.beq (tdO tt (tyO (opC c).op)).kd 2,argV c 0) =
   (true,some (dstC c),true,.range (tyO (opC c).op) (argO (opC c).op 0),some (tdO tt (tyO (opC c).op)),true,some (.c (.s (strV (argV c 0))))):=by kernel_rfl):Wc X c:=by
 simp only [Prod.mk.injEq] at hp
 obtain ⟨h1,h2,h3,h4,h5,h6,h7⟩:=hp
 obtain ⟨h0,hn⟩:=hB_ok h1
 cases c with
 | co _ _=>cases h3
 | no=>cases h3
 | rg m ops i k' s =>
  cases m with
  | some q=>cases h3
  | none =>
   unfold rdyB at h0
   rw [Bool.and_eq_true,Bool.and_eq_true] at h0
   obtain ⟨⟨_,g2⟩,g3⟩:=h0
   have ho:ops[i]? = some (opC (.rg none ops i k' s)):=by
    obtain ⟨o,ho⟩:=Option.isSome_iff_exists.1 g2
    have ho:ops[i]? = some o:=ho
    unfold opC
    show _=some ((ops[i]?).getD default)
    rw [ho];rfl
   have hg:guardV ops s.L (opC (.rg none ops i k' s))=some true:=by
    split at g3
    ·rename_i b hb;rw [g3] at hb;exact hb
    ·cases g3
   refine ⟨?_⟩
   show WPr X ops (List.range' i (ops.size-i)) (rk X k') s
   rw [range_cons ho]
   exact WPr.rng htt ho hg h4 h2 h5 h6 h7 hn fun b=>(kk b).1
def dNf (c:Cf):Dl:=d1 c (.t [.inl (.b false)])
def nNf (c:Cf):Cf:=goC (dNf c) c
theorem eNf {p:Nat} {m:ByteArray} {c:Cf} (b k0:Nat) (hlt:decide (p < m.size)=false) (k:Wc X (nNf c))
  (hp:(hB X.fn.ntmps c,(opC c).dst,(opC c).op,argV c 0,look (vwC c).M k0)=(true,some (dstC c),.next (argO (opC c).op 0) true,some (.c (.v (.pointer (some ⟨b,0,none⟩)))),some (.abs (itR b m p))):=by kernel_rfl):Wc X c:=by
 simp only [Prod.mk.injEq] at hp
 obtain ⟨h1,h2,h3,h4,h5⟩:=hp
 obtain ⟨h0,hn⟩:=hB_ok h1
 refine Wc.ev (d:=dNf  c) h0 (d1_dst h2 rfl) (fun nk E0 F0 w0 n0 Z rest K ho hg h=>WPr.nxtF (X:=X.var nk E0 F0 w0 n0 Z) k0 hlt ho hg h3 h2 h4 h5 hn h) k
def dNt (b k0:Nat) (m:ByteArray) (p:Nat) (c:Cf):Dl:=⟨[(dstC c,.t [.inl (.b true),.inl (.i .i64 (p:Int)),.inl (.i .i32 ((Utf8.decode m p).1:Int))])],[(k0,.abs (itR b m (p+(Utf8.decode m p).2)))],[],0⟩
def nNt (b k0:Nat) (m:ByteArray) (p:Nat) (c:Cf):Cf:=goC (dNt b k0 m p c) c
theorem eNt {p:Nat} {m:ByteArray} {c:Cf} (b:Nat) (k0:Nat) (hlt:decide (p < m.size)=true) (k:Wc X (nNt b k0 m p c))
  (hp:(hB X.fn.ntmps c,(opC c).dst,(opC c).op,argV c 0,look (vwC c).M k0)=(true,some (dstC c),.next (argO (opC c).op 0) true,some (.c (.v (.pointer (some ⟨b,0,none⟩)))),some (.abs (itR b m p))):=by kernel_rfl):Wc X c:=by
 simp only [Prod.mk.injEq] at hp
 obtain ⟨h1,h2,h3,h4,h5⟩:=hp
 obtain ⟨h0,hn⟩:=hB_ok h1
 refine Wc.ev (d:=dNt b k0 m p c) h0 (d1_dst h2 rfl) (fun nk E0 F0 w0 n0 Z rest K ho hg h=>WPr.nxtT (X:=X.var nk E0 F0 w0 n0 Z) k0 hlt ho hg h3 h2 h4 h5 hn h) k
def dDp {α:Type} (R:TRep α) (r:List α × Int) (c:Cf):Dl:=⟨[(dstC c,.c (.i .i64 r.2))],[((keyV (argV c 0)),.own R r.1 (fwM (look (vwC c).M (keyV (argV c 0)))))],[],0⟩
def nDp {α:Type} (R:TRep α) (r:List α × Int) (c:Cf):Cf:=goC (dDp R r c) c
theorem eDp {α:Type} {xs ys ws:List α} {lo hi lo2 hi2:Option Int} {r:List α × Int} {c:Cf} (htt:TTOk X.P tt) (R:TRep α) (hw:lsl ws lo2 hi2=some ys) (hz:cpL xs lo hi ys=some r) (k:Wc X (nDp R r c))
  (hp:(hB X.fn.ntmps c,(opC c).dst,(opC c).op,argV c 0,look (vwC c).M (keyV (argV c 0)),argV c 1,look (vwC c).V (keyV (argV c 1)),look (vwC c).M (elK (look (vwC c).V (keyV (argV c 1)))),look tt (tyO (opC c).op),slB tt R.sz c,lo,hi)=(true,some (dstC c),.call { callee:=.builtin .copy,args:=#[argO (opC c).op 0,argO (opC c).op 1],argTypes:=#[tyO (opC c).op,tyO2 (opC c).op] },some (.c (.sl (keyV (argV c 0)))),some (.own R xs (fwM (look (vwC c).M (keyV (argV c 0))))),some (.c (.sl (keyV (argV c 1)))),some (.vw (elK (look (vwC c).V (keyV (argV c 1)))) lo2 hi2 R.sz),some (.own R ws (fwM (look (vwC c).M (elK (look (vwC c).V (keyV (argV c 1))))))),some (tdO tt (tyO (opC c).op)),true,none,none):=by kernel_rfl):Wc X c:=by
 simp only [Prod.mk.injEq] at hp
 obtain ⟨h1,h2,h3,h4,h5,h6,h7,h8,h9,h10,h11,h12⟩:=hp
 obtain ⟨h0,hn⟩:=hB_ok h1
 refine Wc.ev (d:=dDp R r c) h0 (d1_dst h2 rfl) (fun nk E0 F0 w0 n0 Z rest K ho hg h=>WPr.cp (X:=X.var nk E0 F0 w0 n0 Z) htt hz (srcV hw h7 h8) ho hg h3 h2 h4 (.inr ⟨rfl,h11,h12⟩) h5 h6 h9 (slB_ok h10 hn) h) k
end
end Go.Kx
end
section
namespace Go.Kx
open Go
structure MonoR {α β:Type} (Φ:TRep α→TRep β):Prop where
 sz:∀ R R',R.sz=R'.sz→(Φ R).sz=(Φ R').sz
 sub:∀ R R',R.sz=R'.sz→(∀ F w x vs,R.rep F w x vs→R'.rep F w x vs)→∀ F w x vs,(Φ R).rep F w x vs→(Φ R').rep F w x vs
def Opn.of {α:Type} {R R':TRep α} (h:∀ F w x vs,R.rep F w x vs↔R'.rep F w x vs) (o:Opn R'):Opn R where
 nk:=o.nk
 cells:=o.cells
 facts:=o.facts
 ok hr:=o.ok ((h _ _ _ _).1 hr)
 chk:=o.chk
 cok hc E F w hV:=(h _ _ _ _).2 (o.cok hc E F w hV)
 T:=o.T
 lq:=o.lq
 rq:=o.rq
 eqn:=o.eqn
end Go.Kx
end
section
namespace Go.Kx
def Stp (X:Ctx) (o:Oper) (s s':St):Prop:=∀ E F w a,Sat X s E F w a→o.wp X.P a w (fun a' w'=>∃ E' F',Sat X s' E' F' w' a') (fun _ _ _=>False)
section
variable {X:Ctx} {s:St} {E:Env} {F:FSet} {w:World} {a:Act}
theorem Sat.newArr {cs:List SC} {es κ:Nat} (hs:Sat X s E F w a) (hk:∀ x∈cs,SC.kb s.nx x) {arr:Array Value} {ty:TypeId} {fz:Nat × Nat}
  (hp:∀ (j:Nat) (x:SC),cs[j]? = some x→arr[j]? = some (den E x)) (hc:cs.length≤κ * es) (ha:κ * es≤arr.size) (he:0 < es) (hfz:ThawAt fz arr.size) {w2:World}
  (hw2:w2.heap=w.heap.push (.cells arr ty fz)) (ho:w2.os=w.os) (ht:w2.tape=w.tape) (hu:w2.output=w.output) :
  ∃ E',E'.β s.nx=w.heap.size∧capOf (E'.ρ s.nx)=κ∧Sat X ⟨s.L,(s.nx,.arr cs es ty)::s.M,s.V,s.nx+1⟩ E' F w2 a:=by
 have hold:∀ b,b < w.heap.size→w2.heap[b]? = w.heap[b]? := fun b hb=>by
  rw [hw2,Array.getElem?_push,if_neg (Nat.ne_of_lt hb)]
 have hnew:w2.heap[w.heap.size]? = some (.cells arr ty fz):=by rw [hw2];simp
 have hsize:w2.heap.size=w.heap.size+1:=by rw [hw2];simp
 have s1:=hs.world ho ht hu (by omega) hold
 have hE:E.Eqb s.nx ((E.setβ s.nx w.heap.size).setρ s.nx (.slice none 0 κ)):=(E.eqb_setβ _ _ _ (Nat.le_refl _)).trans (Env.eqb_setρ _ _ _ _ (Nat.le_refl _))
 have e1:((E.setβ s.nx w.heap.size).setρ s.nx (.slice none 0 κ)).β s.nx=w.heap.size:=by simp [Env.setβ,Env.setρ]
 have e2:((E.setβ s.nx w.heap.size).setρ s.nx (.slice none 0 κ)).ρ s.nx=.slice none 0 κ:=by simp [Env.setρ]
 have s2:=s1.env hE (fun j=>by
  simp only [Env.setρ,Env.setβ];split
  ·rfl
  ·exact hs.one j)
 refine ⟨_,e1,by rw [e2];rfl,s2.addM' ?_ (fun x hx=>(hk x hx).mono (Nat.le_succ _)) ?_ (fun h=>by cases h)⟩
 ·refine ⟨arr,ty,fz,by rw [e1];exact hnew,hfz,fun j x hj=>?_,by rw [e2];exact hc,by rw [e2];exact ha,he,rfl⟩
  rw [den_eqb hE (hk x (List.mem_of_getElem? hj))];exact hp j x hj
 ·intro b hb
  have hb:b=_:=hb
  rw [e1] at hb
  subst hb
  exact ⟨fun hF=>absurd (hs.hF _ hF) (Nat.lt_irrefl _),fun hz=>absurd (Nat.lt_of_lt_of_le (hs.hZ _ hz) hs.ext.size) (Nat.lt_irrefl _),by omega,
   fun k m' hm hf=>absurd (hs.mF k m' hm _ ((MO.fp_eqb hE (hs.wf.hM k m' hm).1).1 hf)).2.2 (Nat.lt_irrefl _)⟩
theorem Sat.storeArr (hs:Sat X s E F w a) {k:Nat} {cs ps:List SC} {es:Nat} {ty:TypeId} (hm:look s.M k=some (.arr cs es ty)) {off:Nat} (hle:off+ps.length≤cs.length)
  (hk:∀ x∈ps,SC.kb s.nx x):∃ w',(storeCells ⟨E.β k,off,none⟩ (ps.map (den E))).run X.P w=.ok () w' ∧
   Sat X ⟨s.L,(k,.arr (cs.take off++ps++cs.drop (off+ps.length)) es ty)::s.M,s.V,s.nx⟩ E F w' a:=by
 obtain ⟨arr,el,fz,hb,hth,hpre,hc,ha,he,hty⟩:=(hs.hM k _ hm:MO.ok E F w k (.arr cs es ty))
 have hlen:cs.length≤arr.size:=Nat.le_trans hc ha
 have hr:=run_storeCells_thaw (P:=X.P) (E.β k) off el fz (ps.map (den E)) 0 arr w hb hth (by simp;omega)
  (by intro v hv;obtain ⟨x,hx,rfl⟩:=List.mem_map.1 hv;exact den_one hs.one (hk x hx))
 refine ⟨_,hr,hs.setM hm rfl rfl rfl (by simp) (fun b _ hne=>setRow_other w _ b _ (fun e=>hne e)) (fun _ h=>h) ?_ ?_ (fun h=>by cases h)⟩
 ·have h2:=setRow_heap w (E.β k) arr ((List.take (off+0) arr.toList++List.map (den E) ps++List.drop (off+0+(List.map (den E) ps).length) arr.toList).toArray) el fz hb
  have hsz:((List.take (off+0) arr.toList++List.map (den E) ps++List.drop (off+0+(List.map (den E) ps).length) arr.toList).toArray).size=arr.size:=by
   simp only [List.size_toArray,List.length_append,List.length_take,List.length_drop,Array.length_toList,List.length_map];omega
  have hl2:(cs.take off++ps++cs.drop (off+ps.length)).length=cs.length:=by
   simp only [List.length_append,List.length_take,List.length_drop];omega
  refine ⟨_,el,fz,h2,by rw [hsz];exact hth,fun j x hj=>?_,by rw [hl2];exact hc,by rw [hsz];exact ha,he,hty⟩
  have hal:arr.toList.length=arr.size:=Array.length_toList
  simp only [Nat.add_zero,List.length_map,List.getElem?_toArray,List.append_assoc] at hj ⊢
  have htl:(arr.toList.take off).length=off:=by rw [List.length_take,hal];omega
  have hcl:(cs.take off).length=off:=by rw [List.length_take];omega
  by_cases h1:j < off
  ·rw [List.getElem?_append_left (by omega),List.getElem?_take,if_pos h1] at hj
   rw [List.getElem?_append_left (by omega),List.getElem?_take,if_pos h1]
   have:=hpre j x hj
   simpa using this
  ·rw [List.getElem?_append_right (by omega),hcl] at hj
   rw [List.getElem?_append_right (by omega),htl]
   by_cases h3:j-off < ps.length
   ·rw [List.getElem?_append_left h3] at hj
    rw [List.getElem?_append_left (by simpa using h3),List.getElem?_map,hj];rfl
   ·rw [List.getElem?_append_right (by omega),List.getElem?_drop] at hj
    rw [List.getElem?_append_right (by simp;omega),List.getElem?_drop,List.length_map]
    have:=hpre _ x hj
    simpa using this
 ·intro x hx
  simp only [List.mem_append] at hx
  rcases hx with (hx | hx) | hx
  ·exact (hs.wf.hM k _ hm).2 x (List.mem_of_mem_take hx)
  ·exact hk x hx
  ·exact (hs.wf.hM k _ hm).2 x (List.mem_of_mem_drop hx)
theorem Sat.movBlk {k:Nat} {m0:MO} {cs':List SC} {es κ b:Nat} (hs:Sat X s E F w a) (hm:look s.M k=some m0) (hf0:∀ b,m0.fp E k b↔b=E.β k) (hk:∀ x∈cs',SC.kb s.nx x) {arr:Array Value} {ty:TypeId} {fz:Nat × Nat} {w2:World}
  (hb:w2.heap[b]? = some (.cells arr ty fz)) (hbb:b=E.β k∨w.heap.size≤b)
  (hp:∀ (j:Nat) (x:SC),cs'[j]? = some x→arr[j]? = some (den E x)) (hc:cs'.length≤κ * es) (ha:κ * es≤arr.size) (he:0 < es) (hfz:ThawAt fz arr.size)
  (ho:w2.os=w.os) (ht:w2.tape=w.tape) (hu:w2.output=w.output) (hsz:w.heap.size≤w2.heap.size) (hold:∀ b,b < w.heap.size→b≠E.β k→w2.heap[b]? = w.heap[b]?) :
  ∃ E',E'.β s.nx=b∧capOf (E'.ρ s.nx)=κ∧Sat X ⟨s.L,(s.nx,.arr cs' es ty)::(k,.gone)::s.M,s.V,s.nx+1⟩ E' F w2 a:=by
 have hlt:b < w2.heap.size:=(Array.getElem?_eq_some_iff.1 hb).1
 have hmf:=hs.mF k _ hm
 have s1:=hs.setM (m':=.gone) hm ho ht hu hsz (fun b' hb' hne=>hold b' hb' (fun e=>hne ((hf0 _).2 e))) (fun _ h=>h.elim) trivial trivial (fun h=>by cases h)
 have hE:E.Eqb s.nx ((E.setβ s.nx b).setρ s.nx (.slice none 0 κ)):=(E.eqb_setβ _ _ _ (Nat.le_refl _)).trans (Env.eqb_setρ _ _ _ _ (Nat.le_refl _))
 have e1:((E.setβ s.nx b).setρ s.nx (.slice none 0 κ)).β s.nx=b:=by simp [Env.setβ,Env.setρ]
 have e2:((E.setβ s.nx b).setρ s.nx (.slice none 0 κ)).ρ s.nx=.slice none 0 κ:=by simp [Env.setρ]
 have s2:=s1.env hE (fun j=>by
  simp only [Env.setρ,Env.setβ];split
  ·rfl
  ·exact hs.one j)
 refine ⟨_,e1,by rw [e2];rfl,s2.addM' ?_ (fun x hx=>(hk x hx).mono (Nat.le_succ _)) ?_ (fun h=>by cases h)⟩
 ·refine ⟨arr,ty,fz,by rw [e1];exact hb,hfz,fun j x hj=>?_,by rw [e2];exact hc,by rw [e2];exact ha,he,rfl⟩
  rw [den_eqb hE (hk x (List.mem_of_getElem? hj))];exact hp j x hj
 ·intro b' hb'
  have hb':b'=_:=hb'
  rw [e1] at hb'
  subst hb'
  rcases hbb with h1 | h1
  ·have h1:=(hf0 _).2 h1
   have:=hmf b' h1
   refine ⟨this.1,this.2.1,hlt,fun j m' hj hf=>?_⟩
   have hf:=(MO.fp_eqb hE (s1.wf.hM j m' hj).1).1 hf
   rw [look_cons] at hj
   split at hj
   ·cases hj;exact hf.elim
   ·rename_i hne;exact hs.dis k j _ m' hm hj hne b' h1 hf
  ·refine ⟨fun hF=>absurd (hs.hF b' hF) (Nat.not_lt.2 h1),fun hz=>absurd (Nat.lt_of_lt_of_le (hs.hZ b' hz) hs.ext.size) (Nat.not_lt.2 h1),hlt,fun j m' hj hf=>?_⟩
   have hf:=(MO.fp_eqb hE (s1.wf.hM j m' hj).1).1 hf
   rw [look_cons] at hj
   split at hj
   ·cases hj;exact hf.elim
   ·exact absurd (hs.mF j m' hj b' hf).2.2 (Nat.not_lt.2 h1)
theorem Sat.movArr {k:Nat} {cs cs':List SC} {es κ b:Nat} {ty0:TypeId} (hs:Sat X s E F w a) (hm:look s.M k=some (.arr cs es ty0)) (hk:∀ x∈cs',SC.kb s.nx x) {arr:Array Value} {ty:TypeId} {fz:Nat × Nat} {w2:World}
  (hb:w2.heap[b]? = some (.cells arr ty fz)) (hbb:b=E.β k∨w.heap.size≤b)
  (hp:∀ (j:Nat) (x:SC),cs'[j]? = some x→arr[j]? = some (den E x)) (hc:cs'.length≤κ * es) (ha:κ * es≤arr.size) (he:0 < es) (hfz:ThawAt fz arr.size)
  (ho:w2.os=w.os) (ht:w2.tape=w.tape) (hu:w2.output=w.output) (hsz:w.heap.size≤w2.heap.size) (hold:∀ b,b < w.heap.size→b≠E.β k→w2.heap[b]? = w.heap[b]?) :
  ∃ E',E'.β s.nx=b∧capOf (E'.ρ s.nx)=κ∧Sat X ⟨s.L,(s.nx,.arr cs' es ty)::(k,.gone)::s.M,s.V,s.nx+1⟩ E' F w2 a :=
 hs.movBlk hm (fun _=>Iff.rfl) hk hb hbb hp hc ha he hfz ho ht hu hsz hold
def srcC (s:St) (es:Nat):SC→Option (Nat × List SC)
 | .nil=>some (0,[])
 | .s x=>bif Nat.beq es 1 then some (x.size,x.data.toList.map fun b=>.i .u8 b.toNat) else none
 | .sp k i n e=>match look s.M k with
  | some (.arr cs e' _)=>bif Nat.beq e es && Nat.beq e' es && Nat.ble ((i+n) * es) cs.length then some (n,(cs.drop (i * es)).take (n * es)) else none
  | _=>none
 | .sl k=>match look s.V k with
  | some (.sl _ [])=>some (0,[])
  | _=>none
 | _=>none
theorem srcC_ok (hs:Sat X s E F w a) {es n:Nat} {c:SC} {ns:List SC} (h:srcC s es c=some (n,ns)):ns.length=n * es∧(∀ x∈ns,SC.kb s.nx x)∧(∀ w',(Builtin.lenOf (den E c)).run X.P w'=.ok n w') ∧
  (∀ m w',m≤n→w'.heap=w.heap→(Builtin.firstCells es m (den E c)).run X.P w'=.ok ((ns.take (m * es)).map (den E)).toArray w'):=by
 unfold srcC at h
 split at h
 ·cases h
  exact ⟨by simp,by simp,fun w'=>by simp [Builtin.lenOf,den],fun m w' hm _=>by simp [Builtin.firstCells,den]⟩
 ·rename_i x
  cases hb:Nat.beq es 1 with
  | false=>rw [hb] at h;cases h
  | true =>
   rw [hb] at h
   have:=Nat.eq_of_beq_eq_true hb
   subst this
   cases h
   refine ⟨by simp,by simp [SC.kb],fun w'=>by simp [Builtin.lenOf,den],fun m w' hm _=>?_⟩
   obtain ⟨ns,_,_,h3,_⟩:=srcS (X:=X) (s:=s) (b:=x) E F w a hs
   have:=h3 m w' (by rw [bytesL_len];exact hm) (by assumption)
   simp only [Builtin.firstCells,den,Sem.run_pure]
   congr 1
   apply Array.ext'
   have h1:(x.extract 0 m).data.toList=x.data.toList.take m:=by
    rw [ByteArray.data_extract,Array.toList_extract];simp [List.extract]
   rw [Array.toList_map,h1,Nat.mul_one]
   simp only [List.map_take,List.map_map]
   rfl
 ·rename_i k i n' e
  split at h
  ·rename_i cs e' ty hm
   cases hb:(Nat.beq e es && Nat.beq e' es && Nat.ble ((i+n') * es) cs.length) with
   | false=>rw [hb] at h;cases h
   | true =>
    rw [hb] at h
    cases h
    simp only [Bool.and_eq_true] at hb
    obtain ⟨⟨h1,h2⟩,h3⟩:=hb
    have h1:=Nat.eq_of_beq_eq_true h1
    have h2:=Nat.eq_of_beq_eq_true h2
    have h3:=Nat.le_of_ble_eq_true h3
    subst h1 h2
    rw [Nat.add_mul] at h3
    obtain ⟨arr,el,fz,hb,hth,hpre,hc,ha,he,_⟩:=(hs.hM k _ hm:MO.ok E F w k (.arr cs e' ty))
    have hl:((cs.drop (i * e')).take (n * e')).length=n * e':=by rw [List.length_take,List.length_drop];omega
    refine ⟨hl,fun x hx=>(hs.wf.hM k _ hm).2 x (List.mem_of_mem_drop (List.mem_of_mem_take hx)),fun w'=>by simp [Builtin.lenOf,den],fun m w' hm' hw=>?_⟩
    simp only [Builtin.firstCells,den]
    have hml:m * e'≤n * e':=Nat.mul_le_mul_right _ hm'
    have hl':(((cs.drop (i * e')).take (n * e')).take (m * e')).length=m * e':=by rw [List.length_take,hl];omega
    have:=run_loadCells_list (P:=X.P) w' ⟨E.β k,i * e',none⟩ ((((cs.drop (i * e')).take (n * e')).take (m * e')).map (den E)) fun j v hj=>by
     rw [addr_add,cell_at (by rw [hw];exact hb)]
     rw [List.getElem?_map,Option.map_eq_some_iff] at hj
     obtain ⟨x,hx,rfl⟩:=hj
     rw [List.getElem?_take] at hx
     split at hx
     ·rw [List.getElem?_take] at hx
      split at hx
      ·rw [List.getElem?_drop] at hx
       exact hpre _ x hx
      ·cases hx
     ·cases hx
    rw [List.length_map,hl'] at this
    exact this
  ·cases h
 ·rename_i k
  split at h
  ·rename_i R hV
   cases h
   rcases (hs.hV k _ hV:SlR R F w [] (E.ρ k)) with ⟨_,a',c',h2⟩ | ⟨b,off,cap,arr,elt,fz,h1,_⟩
   ·refine ⟨by simp,by simp,fun w'=>by simp [Builtin.lenOf,den,h2],fun m w' hm _=>?_⟩
    have:m=0:=by omega
    subst this
    simp only [den,h2]
    cases a' with
    | none=>simp [Builtin.firstCells]
    | some a' =>
     simp only [Builtin.firstCells,Nat.zero_mul,List.take_zero]
     exact run_loadCells_list w' a' [] (by simp)
   ·refine ⟨by simp,by simp,fun w'=>by simp [Builtin.lenOf,den,h1],fun m w' hm _=>?_⟩
    have:m=0:=by omega
    subst this
    simp only [den,h1,Builtin.firstCells,Nat.zero_mul,List.take_zero]
    exact run_loadCells_list w' _ [] (by simp)
  ·cases h
 ·cases h
end
end Go.Kx
end
section
namespace Go.Kx
def setd (n:Nat) (o:Oper) (s:St) (v:SV):Option St:=match o.dst with
 | some d=>bif Nat.blt d n then some ⟨(d,v)::s.L,s.M,s.V,s.nx⟩ else none
 | none=>none
section
variable {X:Ctx} {s s':St} {o:Oper}
theorem Stp.val {v:SV} (hrun:∀ E F w a,Sat X s E F w a→(execOp a.eval o).run X.P w=.ok (.value (denV E v)) w∧v.kb s.nx) (h:setd X.fn.ntmps o s v=some s'):Stp X o s s':=by
 intro E F w a hs
 unfold setd at h
 split at h
 ·rename_i d hd
  cases hb:Nat.blt d X.fn.ntmps with
  | false=>rw [hb] at h;cases h
  | true =>
   rw [hb] at h;cases h
   obtain ⟨h1,h2⟩:=hrun E F w a hs
   refine wp_value h1 ⟨E,F,?_⟩
   rw [hd]
   exact hs.setL h2 (blt_lt hb)
 ·cases h
end
def inB (n:Int) (len:Nat):Bool:=decide (0≤n) && decide (n < (len:Int))
def cellsAt (M:List (Nat × MO)) (k:Nat):Option (List SC):=match look M k with
 | some (.box cs _)=>some cs
 | some (.arr cs _ _)=>some cs
 | _=>none
def xlen (M:List (Nat × MO)) (k i n es:Nat):Bool:=match look M k with
 | some (.arr cs e _)=>Nat.beq e es && Nat.ble ((i+n) * es) cs.length
 | _=>false
def xvLoad (tt:List (Nat × TD)) (s:St) (t:TypeId) (ad:Operand):Option SV:=match look tt t with
 | some d=>match evalO s.L ad with
  | some (.c (.bp k off))=>match look s.M k with
   | some (.arr cs _ _)=>loadC d off cs
   | _=>none
  | _=>none
 | none=>none
def xvIdxA (tt:List (Nat × TD)) (s:St) (t:TypeId) (x ix:Operand):Option SV:=match look tt t with
 | some d=>match evalO s.L ix with
  | some (.c (.i _ n))=>match evalO s.L x with
   | some (.c (.sp k i len es))=>bif inB n len && Nat.beq d.kd 6 && Nat.beq d.es es then some (.c (.bp k (i * es+n.toNat * es))) else none
   | some (.c (.bp k off))=>bif inB n d.n && Nat.beq d.kd 5 then some (.c (.bp k (off+n.toNat * d.es))) else none
   | _=>none
  | _=>none
 | none=>none
def xvIdx (tt:List (Nat × TD)) (s:St) (t:TypeId) (x ix:Operand):Option SV:=match look tt t with
 | some d=>match evalO s.L ix with
  | some (.c (.i _ n))=>match evalO s.L x with
   | some (.c (.s m))=>bif Nat.beq d.kd 2 then (match sidx m n with
    | some z=>some (.c (.i .u8 z))
    | none=>none) else none
   | _=>none
  | _=>none
 | none=>none
def xvSlice (tt:List (Nat × TD)) (s:St) (t:TypeId) (x:Operand) (lo hi:Option Operand):Option SV:=match look tt t with
  | some d=>match evOI s.L lo with
    | some l=>match evOI s.L hi with
      | some h=>match evalO s.L x with
        | some (.c (.s m))=>bif Nat.beq d.kd 2 then (match ssl m (l.map (·.2)) (h.map (·.2)) with
          | some z=>some (.c (.s z))
          | none=>none) else none
        | some (.c (.sp k i len es))=>bif Nat.beq d.kd 6 && Nat.beq d.es es && xlen s.M k i len es then (match bnd (l.map (·.2)) (h.map (·.2)) len with
          | some p=>bif Nat.beq p.1 0 || Nat.blt p.1 p.2 then some (.c (.sp k (i+p.1) (p.2-p.1) es)) else none
          | none=>none) else none
        | some (.c .nil)=>bif Nat.beq d.kd 6 then (match bnd (l.map (·.2)) (h.map (·.2)) 0 with
          | some _=>some (.c .nil)
          | none=>none) else none
        | _=>none
      | none=>none
    | none=>none
  | none=>none
def eqO (op:BinOp) (b:Bool):Option SV:=match op with
 | .eql=>some (.c (.b b))
 | .neq=>some (.c (.b (!b)))
 | _=>none
def xvBin (P:Program) (tt:List (Nat × TD)) (s:St) (op:BinOp) (t:TypeId) (x y:Operand):Option SV:=match evalO s.L x with
 | some vx=>match evalO s.L y with
  | some vy=>match vx,vy with
   | .c (.i k m),.c (.i k' n)=>bif isSh op || decide (k=k') then (match binO op k m n with
    | some z=>some (.c (.i k z))
    | none=>none) else none
   | .c (.s m),.c (.s n)=>match op with
    | .add=>match catS m n with
     | some z=>some (.c (.s z))
     | none=>none
    | _=>none
   | .a cs,.a ds=>bif aggOf P t && !(P.eqGuardType P.depth t) then (match eqS P 20 t cs ds with
    | some b=>eqO op b
    | none=>none) else none
   | .c (.sp _ _ _ _),.c .nil=>match look tt t with
    | some d=>bif Nat.beq d.kd 6 then eqO op false else none
    | none=>none
   | .c .nil,.c .nil=>match look tt t with
    | some d=>bif Nat.beq d.kd 6 then eqO op true else none
    | none=>none
   | _,_=>none
  | none=>none
 | none=>none
def byteOfC:SC→Option Int
 | .i .u8 z=>some z
 | _=>none
def bytesOfC:List SC→Option (List Int)
 | []=>some []
 | c::r=>match byteOfC c with
  | some z=>match bytesOfC r with
   | some zs=>some (z::zs)
   | none=>none
  | none=>none
def notS:SC→Bool
 | .s _=>false
 | _=>true
def xvConv (tt:List (Nat × TD)) (s:St) (t u:TypeId) (x:Operand):Option SV:=match look tt t with
 | some d=>match look tt u with
  | some du=>match look tt d.el with
   | some de=>match evalO s.L x with
    | some (.c c)=>match srcC s 1 c with
     | some (n,ns)=>bif Nat.beq d.kd 6 && Nat.beq du.kd 2 && decide (de.ik=some .u8) && notS c then
       (match bytesOfC ns with
       | some ys=>some (.c (.s (strOf ys)))
       | none=>none) else none
     | none=>none
    | _=>none
   | none=>none
  | none=>none
 | none=>none
def xvLen (tt:List (Nat × TD)) (s:St) (x:Operand) (t:TypeId):Option SV:=match look tt t with
 | some d=>match evalO s.L x with
  | some (.c (.sp _ _ n _))=>bif Nat.beq d.kd 6 then some (.c (.i .i64 n)) else none
  | _=>none
 | none=>none
def xval (P:Program) (tt:List (Nat × TD)) (s:St) (op:Op):Option SV :=
 match op with
 | .load t ad=>xvLoad tt s t ad
 | .indexAddr t x ix=>xvIdxA tt s t x ix
 | .index t x ix=>xvIdx tt s t x ix
 | .slice t x lo hi none=>xvSlice tt s t x lo hi
 | .binOp op t x y _=>xvBin P tt s op t x y
 | .convert t u x=>xvConv tt s t u x
 | .call c=>match c.callee with
  | .builtin .len=>match c.args.toList with
   | [x]=>match c.argTypes.toList with
    | [t]=>xvLen tt s x t
    | _=>none
   | _=>none
  | _=>none
 | _=>none
theorem inB_ok {n:Int} {len:Nat} (h:inB n len=true):0≤n∧n < (len:Int):=by
 unfold inB at h
 simp only [Bool.and_eq_true,decide_eq_true_eq] at h
 exact h
theorem TD.Ok.arr {P:Program} {t:TypeId} {d:TD} (h:TD.Ok P t d) (hk:Nat.beq d.kd 5=true):P.underlying t=some (.array d.n d.el)∧∀ w,(sizeOf d.el).run P w=.ok d.es w:=by
 have hk:=Nat.eq_of_beq_eq_true hk
 have h2:=h.2.1
 unfold kindOk at h2
 split at h2<;>(try (simp [hk] at h2;done))
 rename_i n e hu
 simp only [Bool.and_eq_true,beq_iff_eq] at h2
 have h3:=h2.1.1.1.1.2
 have h4:=h2.1.1.1.2
 have h5:=h2.2
 rw [h5,h3]
 rw [Option.any_eq_true_iff_get] at h4
 obtain ⟨hs,h4⟩:=h4
 simp only [Bool.and_eq_true,beq_iff_eq,bne_iff_ne,ne_eq] at h4
 have hi:P.info? e=some ((P.info? e).get hs):=(Option.some_get hs).symm
 generalize (P.info? e).get hs=i at hi h4
 exact ⟨hu,fun w=>by simp [sizeOf,typeInfo,hi,h4.1]⟩
section
variable {X:Ctx} {s:St} {E:Env} {F:FSet} {w:World} {a:Act} {tt:List (Nat × TD)} {o:Oper}
theorem xvLoad_ok (htt:TTOk X.P tt) (hs:Sat X s E F w a) {t:TypeId} {ad:Operand} {v:SV} (ho:o.op=.load t ad) (h:xvLoad tt s t ad=some v) :
  (execOp a.eval o).run X.P w=.ok (.value (denV E v)) w∧v.kb s.nx:=by
 unfold xvLoad at h
 split at h
 ·rename_i d hd
  split at h
  ·rename_i k off hx
   split at h
   ·rename_i cs es ty hm
    obtain ⟨arr,el,fz,hb,_,hpre,_⟩:=(hs.hM k _ hm:MO.ok E F w k (.arr cs es ty))
    have hld:=run_loadVar_cells (E:=E) (base:=0) (htt.get hd) hb (cs:=cs) (fun i x hj=>by rw [Nat.zero_add];exact hpre i x hj) h
    rw [Nat.zero_add] at hld
    refine ⟨?_,loadC_kb h (hs.wf.hM k _ hm).2⟩
    have e1:a.eval ad=.pointer (some ⟨E.β k,off,none⟩):=(hs.eval hx).1
    simp only [execOp,ho,e1]
    refine exec_v ?_
    simpa [Instr.loadAt,Instr.sureAddr] using hld
   ·cases h
  ·cases h
 ·cases h
theorem xvIdxA_ok (htt:TTOk X.P tt) (hs:Sat X s E F w a) {t:TypeId} {x ix:Operand} {v:SV} (ho:o.op=.indexAddr t x ix) (h:xvIdxA tt s t x ix=some v) :
  (execOp a.eval o).run X.P w=.ok (.value (denV E v)) w∧v.kb s.nx:=by
 unfold xvIdxA at h
 split at h
 ·rename_i d hd
  split at h
  ·rename_i ik n hi
   obtain ⟨e2,_⟩:=hs.eval hi
   split at h
   ·rename_i k i len es hx
    obtain ⟨e1,k1⟩:=hs.eval hx
    cases hb:(inB n len && Nat.beq d.kd 6 && Nat.beq d.es es) with
    | false=>rw [hb] at h;cases h
    | true =>
     rw [hb] at h;cases h
     simp only [Bool.and_eq_true] at hb
     obtain ⟨⟨h1,h2⟩,h3⟩:=hb
     have h3:=Nat.eq_of_beq_eq_true h3
     obtain ⟨h4,h5⟩:=inB_ok h1
     obtain ⟨e,hu,hz⟩:=(htt.get hd).sliceOf h2
     refine ⟨?_,k1⟩
     simp only [execOp,ho,e1,e2,denV,den]
     refine exec_v ?_
     rw [← h3]
     exact run_indexAt_ok w hu (hz w) h4 h5
   ·rename_i k off hx
    obtain ⟨e1,k1⟩:=hs.eval hx
    cases hb:(inB n d.n && Nat.beq d.kd 5) with
    | false=>rw [hb] at h;cases h
    | true =>
     rw [hb] at h;cases h
     simp only [Bool.and_eq_true] at hb
     obtain ⟨h1,h2⟩:=hb
     obtain ⟨h4,h5⟩:=inB_ok h1
     obtain ⟨hu,hz⟩:=(htt.get hd).arr h2
     refine ⟨?_,k1⟩
     simp only [execOp,ho,e1,e2,denV,den]
     refine exec_v ?_
     simp only [Instr.indexAt,asIntOf,Sem.run_bind,Sem.run_pure,Result.andThen_ok,run_underlying' hu,Instr.sureAddr,h4,h5,and_self,if_true,hz,addr_add]
   ·cases h
  ·cases h
 ·cases h
theorem xvIdx_ok (htt:TTOk X.P tt) (hs:Sat X s E F w a) {t:TypeId} {x ix:Operand} {v:SV} (ho:o.op=.index t x ix) (h:xvIdx tt s t x ix=some v) :
  (execOp a.eval o).run X.P w=.ok (.value (denV E v)) w∧v.kb s.nx:=by
 unfold xvIdx at h
 split at h
 ·rename_i d hd
  split at h
  ·rename_i ik n hi
   obtain ⟨e2,_⟩:=hs.eval hi
   split at h
   ·rename_i m hx
    obtain ⟨e1,k1⟩:=hs.eval hx
    cases hb:Nat.beq d.kd 2 with
    | false=>rw [hb] at h;cases h
    | true =>
     rw [hb] at h
     simp only [cond_true] at h
     cases hz:sidx m n with
     | none=>rw [hz] at h;cases h
     | some z =>
      rw [hz] at h;cases h
      refine ⟨?_,trivial⟩
      have hu:=(htt.get hd).str hb
      simp only [execOp,ho,e1,e2,denV,den]
      refine exec_v ?_
      unfold sidx at hz
      cases hq:decide (0≤n) with
      | false=>rw [hq] at hz;cases hz
      | true =>
       rw [hq] at hz
       simp only [cond_true,Option.map_eq_some_iff] at hz
       obtain ⟨b,hb,rfl⟩:=hz
       have h0:0≤n:=by simpa using hq
       simp only [Instr.index,asIntOf,Sem.run_bind,Sem.run_pure,Result.andThen_ok,run_underlying' hu,h0,if_true,hb]
   ·cases h
  ·cases h
 ·cases h
theorem xlen_ok (hs:Sat X s E F w a) {k i n es:Nat} (h:xlen s.M k i n es=true):i+n≤capOf (E.ρ k):=by
 unfold xlen at h
 split at h
 ·rename_i cs e ty hm
  simp only [Bool.and_eq_true] at h
  have h1:=Nat.eq_of_beq_eq_true h.1
  have h2:=Nat.le_of_ble_eq_true h.2
  subst h1
  obtain ⟨arr,el,fz,hb,_,hpre,hc,_,he,_⟩:=(hs.hM k _ hm:MO.ok E F w k (.arr cs e ty))
  exact Nat.le_of_mul_le_mul_right (Nat.le_trans h2 hc) he
 ·cases h
theorem xvSlice_ok (htt:TTOk X.P tt) (hs:Sat X s E F w a) {t:TypeId} {x:Operand} {lo hi:Option Operand} {v:SV} (ho:o.op=.slice t x lo hi none) (h:xvSlice tt s t x lo hi=some v) :
  (execOp a.eval o).run X.P w=.ok (.value (denV E v)) w∧v.kb s.nx:=by
 unfold xvSlice at h
 split at h
 ·rename_i d hd
  split at h
  ·rename_i l hl
   split at h
   ·rename_i h' hh
    split at h
    ·rename_i m hx
     obtain ⟨e1,k1⟩:=hs.eval hx
     cases hb:Nat.beq d.kd 2 with
     | false=>rw [hb] at h;cases h
     | true =>
      rw [hb] at h
      simp only [cond_true] at h
      split at h
      ·rename_i z hz
       cases h
       refine ⟨?_,trivial⟩
       unfold Kx.ssl at hz
       rw [Option.map_eq_some_iff] at hz
       obtain ⟨p,hp,rfl⟩:=hz
       simp only [execOp,ho,e1,denV,den,evOI_ok hs hl,evOI_ok hs hh]
       exact exec_v (run_slice_s ((htt.get hd).str hb) hp)
      ·cases h
    ·rename_i k i len es hx
     obtain ⟨e1,k1⟩:=hs.eval hx
     cases hb:(Nat.beq d.kd 6 && Nat.beq d.es es && xlen s.M k i len es) with
     | false=>rw [hb] at h;cases h
     | true =>
      rw [hb] at h
      simp only [cond_true] at h
      simp only [Bool.and_eq_true] at hb
      obtain ⟨⟨h1,h2⟩,h3⟩:=hb
      have h2:=Nat.eq_of_beq_eq_true h2
      have h3:=xlen_ok hs h3
      obtain ⟨e,hu,hz⟩:=(htt.get hd).sliceOf h1
      split at h
      ·rename_i p hp
       cases hq:(Nat.beq p.1 0 || Nat.blt p.1 p.2) with
       | false=>rw [hq] at h;cases h
       | true =>
        rw [hq] at h;cases h
        refine ⟨?_,k1⟩
        obtain ⟨q1,q2,q3,q4⟩:=bnd_ok hp
        have hp2:p.2≤len:=by rw [q4];simp;omega
        simp only [execOp,ho,e1,denV,den,evOI_ok hs hl,evOI_ok hs hh,Option.map_none]
        refine exec_v ?_
        have hcap:len≤capOf (E.ρ k)-i:=by omega
        rw [run_slice_sl hu (hz w) hcap hp]
        rw [Bool.or_eq_true] at hq
        rcases hq with hq | hq
        ·have hq:=Nat.eq_of_beq_eq_true hq
         rw [hq]
         simp [Addr.add]
        ·have hq:=blt_lt hq
         rw [if_neg (by omega)]
         simp only [Option.map_some,addr_add,h2,Nat.add_mul,Nat.sub_sub]
      ·cases h
    ·rename_i hx
     obtain ⟨e1,k1⟩:=hs.eval hx
     cases hb:Nat.beq d.kd 6 with
     | false=>rw [hb] at h;cases h
     | true =>
      rw [hb] at h
      simp only [cond_true] at h
      obtain ⟨e,hu,hz⟩:=(htt.get hd).sliceOf hb
      split at h
      ·rename_i p hp
       cases h
       refine ⟨?_,trivial⟩
       obtain ⟨q1,q2,q3,q4⟩:=bnd_ok hp
       have hp2:p.2=0:=by rw [q4];simp;omega
       have hp1:p.1=0:=by rw [q4];simp;omega
       simp only [execOp,ho,e1,denV,den,evOI_ok hs hl,evOI_ok hs hh,Option.map_none]
       refine exec_v ?_
       rw [run_slice_sl hu (hz w) (Nat.le_refl _) hp,hp1,hp2]
       simp
      ·cases h
    ·cases h
   ·cases h
  ·cases h
 ·cases h
theorem xvLen_ok (htt:TTOk X.P tt) (hs:Sat X s E F w a) {x:Operand} {t ty:TypeId} {v:SV} (h:xvLen tt s x t=some v) :
  (Builtin.len_ #[t] ty #[a.eval x]).run X.P w=.ok (denV E v) w∧v.kb s.nx:=by
 unfold xvLen at h
 split at h
 ·rename_i d hd
  split at h
  ·rename_i k i n es hx
   cases hb:Nat.beq d.kd 6 with
   | false=>rw [hb] at h;cases h
   | true =>
    rw [hb] at h;cases h
    obtain ⟨e1,_⟩:=hs.eval hx
    obtain ⟨_,he,_⟩:=(htt.get hd).slc hb
    exact ⟨by simp [e1,Builtin.len_,run_underlying' he,denV,den,goInt],trivial⟩
  ·cases h
 ·cases h
theorem eqO_run {P:Program} {op:BinOp} {t:TypeId} {x y:Operand} {u v:Value} {b:Bool} {r:SV} (hq:(Op.equal t u v).run P w=.ok b w) (h:eqO op b=some r)
  (hg:∀ op,(eqGuard op t x y u v).run P w=.ok () w) (h1:binOp .eql t u v=(do pure (Value.bool (← Op.equal t u v)))) (h2:binOp .neq t u v=(do pure (Value.bool (!(← Op.equal t u v))))) :
  (do eqGuard op t x y u v;binOp op t u v:Sem Value).run P w=.ok (denV E r) w∧∀ n,r.kb n:=by
 unfold eqO at h
 split at h
 ·cases h
  refine ⟨?_,fun _=>trivial⟩
  simp only [Sem.run_bind,hg,Result.andThen_ok]
  rw [h1]
  simp only [Sem.run_bind,hq,Result.andThen_ok,Sem.run_pure];rfl
 ·cases h
  refine ⟨?_,fun _=>trivial⟩
  simp only [Sem.run_bind,hg,Result.andThen_ok]
  rw [h2]
  simp only [Sem.run_bind,hq,Result.andThen_ok,Sem.run_pure];rfl
 ·cases h
theorem xvBin_ok (htt:TTOk X.P tt) (hs:Sat X s E F w a) {op:BinOp} {t yt:TypeId} {x y:Operand} {v:SV} (ho:o.op=.binOp op t x y yt) (h:xvBin X.P tt s op t x y=some v) :
  (execOp a.eval o).run X.P w=.ok (.value (denV E v)) w∧v.kb s.nx:=by
 unfold xvBin at h
 split at h
 ·rename_i vx hx
  obtain ⟨e1,k1⟩:=hs.eval hx
  split at h
  ·rename_i vy hy
   obtain ⟨e2,k2⟩:=hs.eval hy
   have go:∀ r:SV,(do eqGuard op t x y (denV E vx) (denV E vy);binOp op t (denV E vx) (denV E vy):Sem Value).run X.P w=.ok (denV E r) w →
     (execOp a.eval o).run X.P w=.ok (.value (denV E r)) w:=fun r hr=>by
    simp only [execOp,ho,e1,e2]
    exact exec_v hr
   split at h
   ·rename_i k m k' n
    cases hb:(isSh op || decide (k=k')) with
    | false=>rw [hb] at h;cases h
    | true =>
     rw [hb] at h
     simp only [cond_true] at h
     split at h
     ·rename_i z hz
      cases h
      exact ⟨go _ (binO_run hz hb),trivial⟩
     ·cases h
   ·rename_i m n
    split at h
    ·split at h
     ·rename_i z hz
      cases h
      refine ⟨go _ ?_,trivial⟩
      unfold catS at hz
      cases hq:decide (((m.size+n.size:Nat):Int) > IntKind.i64.max) with
      | true=>rw [hq] at hz;cases hz
      | false =>
       rw [hq] at hz;cases hz
       have:¬ ((m.size+n.size:Nat):Int) > IntKind.i64.max:=by simpa using hq
       simp only [denV,den,eqGuard,binOp,Op.stringOp,this,if_false,Sem.run_bind,Sem.run_pure]
       rfl
     ·cases h
    ·cases h
   ·rename_i cs ds
    cases hb:(aggOf X.P t && !(X.P.eqGuardType X.P.depth t)) with
    | false=>rw [hb] at h;cases h
    | true =>
     rw [hb] at h
     simp only [cond_true] at h
     split at h
     ·rename_i b hq
      simp only [Bool.and_eq_true,Bool.not_eq_true'] at hb
      obtain ⟨g1,g2⟩:=eqO_run (E:=E) (x:=x) (y:=y) (equal_run hb.1 hq E w) h (fun op=>by
       unfold eqGuard
       cases op<;>simp [hb.2]) rfl rfl
      exact ⟨go _ g1,g2 _⟩
     ·cases h
   ·split at h
    ·rename_i d hd
     cases hb:Nat.beq d.kd 6 with
     | false=>rw [hb] at h;cases h
     | true =>
      rw [hb] at h
      simp only [cond_true] at h
      obtain ⟨e,hu,_⟩:=(htt.get hd).sliceOf hb
      rename_i k i n es _ _
      obtain ⟨g1,g2⟩:=eqO_run (P:=X.P) (w:=w) (E:=E) (op:=op) (t:=t) (x:=x) (y:=y) (u:=denV E (.c (.sp k i n es))) (v:=denV E (.c .nil)) (b:=false) (r:=v) (by
       show (Op.equalIn (9999+1) t _ _).run X.P w=_
       generalize 9999=q
       simp only [denV,den,Op.equalIn,Sem.run_bind,run_underlying' hu,Result.andThen_ok,Sem.run_pure,Option.isNone_none,Option.isNone_some]) h
       (fun op=>by unfold eqGuard;cases op<;>simp [denV,den]) rfl rfl
      exact ⟨go _ g1,g2 _⟩
    ·cases h
   ·split at h
    ·rename_i d hd
     cases hb:Nat.beq d.kd 6 with
     | false=>rw [hb] at h;cases h
     | true =>
      rw [hb] at h
      simp only [cond_true] at h
      obtain ⟨e,hu,_⟩:=(htt.get hd).sliceOf hb
      obtain ⟨g1,g2⟩:=eqO_run (P:=X.P) (w:=w) (E:=E) (op:=op) (t:=t) (x:=x) (y:=y) (u:=denV E (.c .nil)) (v:=denV E (.c .nil)) (b:=true) (r:=v) (by
       show (Op.equalIn (9999+1) t _ _).run X.P w=_
       generalize 9999=q
       simp only [denV,den,Op.equalIn,Sem.run_bind,run_underlying' hu,Result.andThen_ok,Sem.run_pure,Option.isNone_none,Option.isNone_some]) h
       (fun op=>by unfold eqGuard;cases op<;>simp [denV,den]) rfl rfl
      exact ⟨go _ g1,g2 _⟩
    ·cases h
   ·cases h
  ·cases h
 ·cases h
theorem bytesOfC_ok:∀ {ns:List SC} {ys:List Int},bytesOfC ns=some ys→ns=ys.map (SC.i .u8)
 | [],ys,h=>by cases h;rfl
 | c::r,ys,h=>by
  unfold bytesOfC at h
  cases hc:byteOfC c with
  | none=>rw [hc] at h;cases h
  | some z =>
   rw [hc] at h
   simp only [] at h
   cases hr:bytesOfC r with
   | none=>rw [hr] at h;cases h
   | some zs =>
    rw [hr] at h
    cases h
    rw [bytesOfC_ok hr]
    unfold byteOfC at hc
    split at hc
    ·cases hc;rfl
    ·cases hc
theorem TD.Ok.ints {P:Program} {t:TypeId} {d:TD} {k:IntKind} (h:TD.Ok P t d) (hk:d.ik=some k):P.underlying t=some (.int k):=by
 have h2:=h.2.1
 unfold kindOk at h2
 split at h2<;>(try (simp [hk] at h2;done))
 rename_i k' hu
 simp [hk] at h2
 rw [hu,h2.1.2]
theorem slOf (hs:Sat X s E F w a) {es n:Nat} {c:SC} {ns:List SC} (h:srcC s es c=some (n,ns)) (hn:notS c=true):∃ b cap,den E c=.slice b n cap:=by
 unfold srcC at h
 split at h
 ·cases h;exact ⟨_,_,rfl⟩
 ·cases hn
 ·rename_i k i n' e
  split at h
  ·rename_i cs e' ty hm
   cases hb:(Nat.beq e es && Nat.beq e' es && Nat.ble ((i+n') * es) cs.length) with
   | false=>rw [hb] at h;cases h
   | true=>rw [hb] at h;cases h;exact ⟨_,_,rfl⟩
  ·cases h
 ·rename_i k
  split at h
  ·rename_i R hV
   cases h
   obtain ⟨b,c,hv⟩:=SlR_len (hs.hV k _ hV)
   exact ⟨b,c,hv⟩
  ·cases h
 ·cases h
theorem xvConv_ok (htt:TTOk X.P tt) (hs:Sat X s E F w a) {t u:TypeId} {x:Operand} {v:SV} (ho:o.op=.convert t u x) (h:xvConv tt s t u x=some v) :
  (execOp a.eval o).run X.P w=.ok (.value (denV E v)) w∧v.kb s.nx:=by
 unfold xvConv at h
 split at h
 ·rename_i d hd
  split at h
  ·rename_i du hdu
   split at h
   ·rename_i de hde
    split at h
    ·rename_i c hx
     split at h
     ·rename_i n ns hsc
      cases hb:(Nat.beq d.kd 6 && Nat.beq du.kd 2 && decide (de.ik=some .u8) && notS c) with
      | false=>rw [hb] at h;cases h
      | true =>
       rw [hb] at h
       simp only [cond_true] at h
       split at h
       ·rename_i ys hys
        cases h
        refine ⟨?_,trivial⟩
        simp only [Bool.and_eq_true,decide_eq_true_eq] at hb
        obtain ⟨⟨⟨b1,b2⟩,b3⟩,b4⟩:=hb
        obtain ⟨e1,_⟩:=hs.eval hx
        obtain ⟨i,hu,_⟩:=(htt.get hd).slc b1
        have hu2:=(htt.get hdu).str b2
        have he:=(htt.get hde).ints b3
        obtain ⟨b,cap,hv⟩:=slOf hs hsc b4
        obtain ⟨g1,_,_,g4⟩:=srcC_ok hs hsc
        have h1:=g4 n w (Nat.le_refl _) rfl
        have hns:=bytesOfC_ok hys
        have hl:ys.length=n:=by
         have:=congrArg List.length hns
         rw [List.length_map] at this
         omega
        rw [Nat.mul_one,← hl,← List.length_map (f:=SC.i .u8) (as:=ys),← hns,List.take_length,hns,List.map_map] at h1
        simp only [execOp,ho]
        rw [e1]
        simp only [denV,hv]
        refine exec_v ?_
        rw [run_convert_bytes_string w t u d.el b n cap hu he hu2]
        rw [hv] at h1
        cases b with
        | none =>
         simp only [Builtin.firstCells,Sem.run_pure,Result.ok.injEq,and_true] at h1
         have:ys=[]:=by
          cases ys with
          | nil=>rfl
          | cons y ys=>simp at h1
         subst this
         simp [Conv.bytesToString,strOf];rfl
        | some ad =>
         simp only [Builtin.firstCells] at h1
         rw [List.length_map,hl] at h1
         have h2:(loadCells ad ys.length).run X.P w=.ok (ys.map (Value.int .u8)).toArray w:=by
          rw [hl];have e:(den E ∘ SC.i .u8)=Value.int .u8:=rfl
          rw [e,Nat.mul_one] at h1;exact h1
         rw [← hl]
         exact run_bytesToString w ad ys.length cap ys h2
       ·cases h
     ·cases h
    ·cases h
   ·cases h
  ·cases h
 ·cases h
theorem xval_ok (htt:TTOk X.P tt) (hs:Sat X s E F w a) {v:SV} (h:xval X.P tt s o.op=some v):(execOp a.eval o).run X.P w=.ok (.value (denV E v)) w∧v.kb s.nx:=by
 unfold xval at h
 split at h
 ·rename_i ho;exact xvLoad_ok htt hs ho h
 ·rename_i ho;exact xvIdxA_ok htt hs ho h
 ·rename_i ho;exact xvIdx_ok htt hs ho h
 ·rename_i ho;exact xvSlice_ok htt hs ho h
 ·rename_i ho;exact xvBin_ok htt hs ho h
 ·rename_i ho;exact xvConv_ok htt hs ho h
 ·rename_i c ho
  obtain ⟨callee,args,ts⟩:=c
  simp only [] at h
  split at h
  ·split at h
   ·rename_i x hargs
    split at h
    ·rename_i t hts
     have e1:args=#[x]:=by apply Array.ext';rw [hargs]
     have e2:ts=#[t]:=by apply Array.ext';rw [hts]
     subst e1 e2
     obtain ⟨g1,g2⟩:=xvLen_ok (ty:=o.type) htt hs h
     refine ⟨exec_call_builtin ho ?_,g2⟩
     simp only [List.map_toArray,List.map_cons,List.map_nil]
     exact exec_v g1
    ·cases h
   ·cases h
  ·cases h
 ·cases h
end
end Go.Kx
end
section
namespace Go.Kx
def xeStore (tt:List (Nat × TD)) (o:Oper) (s:St) (t:TypeId) (ad v:Operand):Option St:=match look tt t with
 | some d=>match evalO s.L ad with
  | some (.c (.bp k off))=>match evalO s.L v with
   | some sv=>match svCells sv with
    | some ps=>match look s.M k with
     | some (.arr cs es ty)=>bif Nat.beq ps.length d.sz && Nat.ble (off+ps.length) cs.length && o.dst.isNone then
       some ⟨s.L,(k,.arr (cs.take off++ps++cs.drop (off+ps.length)) es ty)::s.M,s.V,s.nx⟩ else none
     | _=>none
    | none=>none
   | none=>none
  | _=>none
 | none=>none
def newA (nt:Nat) (o:Oper) (s:St) (cs:List SC) (m es:Nat) (ty:TypeId):Option St:=match o.dst with
 | some d=>bif Nat.blt d nt then some ⟨(d,.c (.sp s.nx 0 m es))::s.L,(s.nx,.arr cs es ty)::s.M,s.V,s.nx+1⟩ else none
 | none=>none
def xeBuild (tt:List (Nat × TD)) (nt:Nat) (o:Oper) (s:St) (t len:Nat) (parts:Array (Nat × Operand)):Option St:=match look tt t with
 | some td=>match look tt td.el with
  | some te=>bif Nat.beq td.kd 6 && Nat.ble (len * td.es) 16777216 && !te.z.isEmpty then (match fillS (elemsFo td.es len) s.L parts.toList (zeroRow te.z (len * td.es)) with
   | some cs=>bif Nat.beq cs.length (len * td.es) then newA nt o s cs len td.es td.el else none
   | none=>none) else none
  | none=>none
 | none=>none
def xeMake (tt:List (Nat × TD)) (nt:Nat) (o:Oper) (s:St) (t:TypeId) (x y:Operand):Option St:=match look tt t with
 | some td=>match look tt td.el with
  | some te=>match evalO s.L x with
   | some (.c (.i _ l))=>match evalO s.L y with
    | some (.c (.i _ c))=>bif decide (0≤l) && decide (l≤c) && decide (c≤4294967296) && Nat.beq td.kd 6 && Nat.ble td.eb 32768 && !te.z.isEmpty then
      newA nt o s (zeroRow te.z (l.toNat * td.es)) l.toNat td.es td.el else none
    | _=>none
   | _=>none
  | none=>none
 | none=>none
def xeBytes (tt:List (Nat × TD)) (nt:Nat) (o:Oper) (s:St) (t u:TypeId) (x:Operand):Option St:=match look tt t with
 | some d=>match look tt u with
  | some du=>match look tt du.el with
   | some de=>match evalO s.L x with
    | some (.c (.s m))=>bif Nat.beq d.kd 2 && Nat.beq du.kd 6 && decide (de.ik=some .u8) then newA nt o s (m.data.toList.map fun b=>.i .u8 b.toNat) m.size 1 du.el else none
    | _=>none
   | none=>none
  | none=>none
 | none=>none
section
variable {X:Ctx} {s s':St} {E:Env} {F:FSet} {w:World} {a:Act} {tt:List (Nat × TD)} {o:Oper}
theorem xeStore_ok (htt:TTOk X.P tt) {t:TypeId} {ad v:Operand} (ho:o.op=.store t ad v) (h:xeStore tt o s t ad v=some s'):Stp X o s s':=by
 intro E F w a hs
 unfold xeStore at h
 split at h
 ·rename_i d hd
  split at h
  ·rename_i k off had
   split at h
   ·rename_i sv hv
    split at h
    ·rename_i ps hc
     split at h
     ·rename_i cs es ty hm
      cases hb:(Nat.beq ps.length d.sz && Nat.ble (off+ps.length) cs.length && o.dst.isNone) with
      | false=>rw [hb] at h;cases h
      | true =>
       rw [hb] at h
       cases h
       simp only [Bool.and_eq_true,Option.isNone_iff_eq_none] at hb
       obtain ⟨⟨b1,b2⟩,b3⟩:=hb
       have b1:=Nat.eq_of_beq_eq_true b1
       have b2:=Nat.le_of_ble_eq_true b2
       obtain ⟨ev,ek⟩:=hs.eval hv
       obtain ⟨ea,_⟩:=hs.eval had
       obtain ⟨ec,ekk⟩:=svCells_ok (s:=s) hs.one hc ek
       obtain ⟨w',hr,hs'⟩:=hs.storeArr hm b2 ekk
       refine wp_skip' (w':=w') ?_ ⟨E,F,by rw [b3];exact hs'⟩
       have hsv:(Instr.storeAt t (denV E (.c (.bp k off))) (denV E sv)).run X.P w=.ok () w':=by
        have:(denV E sv).cells.size=d.sz:=by rw [ec];simp [b1]
        show (Instr.storeAt t (.pointer (some ⟨E.β k,off,none⟩)) (denV E sv)).run X.P w=.ok () w'
        simp only [Instr.storeAt,Instr.sureAddr,Sem.run_bind,Sem.run_pure,Result.andThen_ok,storeVar,run_sizeOf' w (htt.get hd),this,ne_eq,not_true_eq_false,if_false]
        rw [ec]
        exact hr
       simp only [execOp,ho,ev,ea,Sem.run_bind,hsv,Result.andThen_ok,Sem.run_pure]
     ·cases h
    ·cases h
   ·cases h
  ·cases h
 ·cases h
theorem newA_ok {cs:List SC} {m es κ:Nat} {arr:Array Value} {ty:TypeId} {fz:Nat × Nat} {w2:World} (hs:Sat X s E F w a) (h:newA X.fn.ntmps o s cs m es ty=some s') (hk:∀ x∈cs,SC.kb s.nx x)
  (hrun:(execOp a.eval o).run X.P w=.ok (.value (.slice (some ⟨w.heap.size,0,none⟩) m κ)) w2) (hp:∀ (j:Nat) (x:SC),cs[j]? = some x→arr[j]? = some (den E x)) (hc:cs.length≤κ * es) (ha:κ * es≤arr.size) (he:0 < es) (hfz:ThawAt fz arr.size)
  (hw2:w2.heap=w.heap.push (.cells arr ty fz)) (h1:w2.os=w.os) (h2:w2.tape=w.tape) (h3:w2.output=w.output):o.wp X.P a w (fun a' w'=>∃ E' F',Sat X s' E' F' w' a') (fun _ _ _=>False):=by
 unfold newA at h
 split at h
 ·rename_i d hd
  cases hb:Nat.blt d X.fn.ntmps with
  | false=>rw [hb] at h;cases h
  | true =>
   rw [hb] at h;cases h
   obtain ⟨E',e1,e2,s1⟩:=hs.newArr hk hp hc ha he hfz hw2 h1 h2 h3
   have s2:=s1.setL (d:=d) (v:=.c (.sp s.nx 0 m es)) (Nat.lt_succ_self _) (blt_lt hb)
   simp only [denV,den,e1,e2,Nat.zero_mul,Nat.sub_zero] at s2
   refine wp_value hrun ⟨E',F,?_⟩
   rw [hd]
   exact s2
 ·cases h
theorem xeBytes_ok (htt:TTOk X.P tt) {t u:TypeId} {x:Operand} (ho:o.op=.convert t u x) (h:xeBytes tt X.fn.ntmps o s t u x=some s'):Stp X o s s':=by
 intro E F w a hs
 unfold xeBytes at h
 split at h
 ·rename_i d hd
  split at h
  ·rename_i du hdu
   split at h
   ·rename_i de hde
    split at h
    ·rename_i m hx
     cases hb:(Nat.beq d.kd 2 && Nat.beq du.kd 6 && decide (de.ik=some .u8)) with
     | false=>rw [hb] at h;cases h
     | true =>
      rw [hb] at h
      simp only [cond_true] at h
      simp only [Bool.and_eq_true,decide_eq_true_eq] at hb
      obtain ⟨⟨b1,b2⟩,b3⟩:=hb
      obtain ⟨e1,_⟩:=hs.eval hx
      have ht:=(htt.get hd).str b1
      obtain ⟨i,hu,_⟩:=(htt.get hdu).slc b2
      have he:=(htt.get hde).ints b3
      have hrun:(execOp a.eval o).run X.P w=.ok (.value (.slice (some ⟨w.heap.size,0,none⟩) m.size (grownCap w m.size 0 du.el)))
        (w.drew.alloc (.cells (bytesRow m (grownCap w m.size 0 du.el)) du.el ((bytesRow m (grownCap w m.size 0 du.el)).size,(bytesRow m (grownCap w m.size 0 du.el)).size+1))):=by
       simp only [execOp,ho,e1,denV,den]
       exact exec_v (run_bytes_of_string w t u du.el m ht hu he)
      have hcap:m.size≤grownCap w m.size 0 du.el:=Nat.le_add_right _ _
      have hds:m.data.size=m.size:=rfl
      refine newA_ok hs h (by simp [SC.kb]) hrun (arr:=bytesRow m (grownCap w m.size 0 du.el)) (fz:=_) (fun j x hj=>?_) (by simp [hds];exact hcap) (by simp [bytesRow,hds];omega) Nat.one_pos (fun j hj=>?_) rfl rfl rfl rfl
      ·rw [List.getElem?_map,Option.map_eq_some_iff] at hj
       obtain ⟨b,hb,rfl⟩:=hj
       have hlt:j < m.data.size:=by
        have:=(List.getElem?_eq_some_iff.1 hb).1
        simpa using this
       unfold bytesRow
       rw [Array.getElem?_append_left (by simpa using hlt)]
       have hb':m.data[j]? = some b:=by rw [← Array.getElem?_toList];exact hb
       simp only [Array.getElem?_map,hb',Option.map_some]
       rfl
      ·have:¬ ((bytesRow m (grownCap w m.size 0 du.el)).size≤j):=by omega
       simp [this]
    ·cases h
   ·cases h
  ·cases h
 ·cases h
theorem zeroRow_get {z:List SC} {n j:Nat} {x:SC} (h:(zeroRow z n)[j]? = some x):j < n∧x=z.getD (j % z.length) .nil:=by
 unfold zeroRow at h
 rw [List.getElem?_map,Option.map_eq_some_iff] at h
 obtain ⟨i,hi,rfl⟩:=h
 obtain ⟨h1,h2⟩:=List.getElem?_eq_some_iff.1 hi
 simp at h1 h2
 subst h2
 exact ⟨h1,rfl⟩
theorem xeBuild_ok (htt:TTOk X.P tt) {t len:Nat} {parts:Array (Nat × Operand)} (ho:o.op=.buildSlice t len parts) (h:xeBuild tt X.fn.ntmps o s t len parts=some s'):Stp X o s s':=by
 intro E F w a hs
 unfold xeBuild at h
 split at h
 ·rename_i td ht
  split at h
  ·rename_i te hte
   cases hb:(Nat.beq td.kd 6 && Nat.ble (len * td.es) 16777216 && !te.z.isEmpty) with
   | false=>rw [hb] at h;cases h
   | true =>
    rw [hb] at h
    simp only [cond_true] at h
    simp only [Bool.and_eq_true] at hb
    obtain ⟨⟨c2,c5⟩,c6⟩:=hb
    have c5:=Nat.le_of_ble_eq_true c5
    split at h
    ·rename_i cs hf
     cases hl:Nat.beq cs.length (len * td.es) with
     | false=>rw [hl] at h;cases h
     | true =>
      rw [hl] at h
      simp only [cond_true] at h
      have hl:=Nat.eq_of_beq_eq_true hl
      obtain ⟨ie,hu,hie,hsz,_,hne0,_⟩:=(htt.get ht).slc c2
      have hz:(sizeOf td.el).run X.P w=.ok td.es w:=by simp [sizeOf,typeInfo,hie,hsz]
      obtain ⟨z,hzr,hzc⟩:=run_zeroValue' w (htt.get hte)
      have hzne:te.z≠[]:=by intro h;rw [h] at c6;simp at c6
      obtain ⟨arr',hfl,harr,hkb⟩:=fillS_ok hs (elemsFo td.es len) (fun i=>some (i * td.es,td.es)) (fun i o sz g hi=>by
       have:=elemsFo_get _ _ _ _ hi;simp only [Prod.mk.injEq] at this;rw [this.1,this.2.1]) parts.toList (zeroRow te.z (len * td.es)) cs
       ((Array.range (len * td.es)).map fun i=>z.cells[i % z.cells.size]!) hf (by
        intro y hy
        simp only [zeroRow,List.mem_map] at hy
        obtain ⟨j,_,rfl⟩:=hy
        have hm:j % te.z.length < te.z.length:=Nat.mod_lt _ (List.length_pos_iff.2 hzne)
        simp only [List.getD,List.getElem?_eq_getElem hm,Option.getD_some]
        exact kb_zero (htt.get hte) _ (List.getElem_mem hm)) (zeroRow_ok (hzc E) _ (.inr hzne))
      have hrun:(execOp a.eval o).run X.P w=.ok (.value (.slice (some ⟨w.heap.size,0,none⟩) len len)) (w.alloc (.cells arr' td.el)):=by
       simp only [execOp,ho]
       refine exec_v ?_
       have hpar:(parts.map fun (i,x)=>(i,a.eval x)).toList=parts.toList.map fun (i,x)=>(i,a.eval x):=by simp
       have hne:¬ (2 ^ 24 < len * td.es):=by omega
       simp only [Instr.buildSlice,Sem.run_bind,run_underlying' hu,Result.andThen_ok,hz,hpar]
       by_cases h0:len * td.es=0
       ·have key:∀ f:Nat→Value,(Array.range (len * td.es)).map f=#[]:=by intro f;rw [h0];simp
        rw [key] at hfl
        have hgt:¬ ((0:Nat) > 2 ^ 24):=by omega
        rw [h0] at key ⊢
        simp only [hgt,if_false,Sem.run_bind,if_true,Sem.run_pure,Result.andThen_ok,newRow]
        rw [key]
        simp only [hfl,Sem.run_pure,Sem.run_bind,run_newObj,Result.andThen_ok]
        rfl
       ·simp [h0,hne,hzr,hfl,newRow]
      have hal:arr'.size=len * td.es:=by rw [← Array.length_toList,harr,List.length_map,hl]
      refine newA_ok hs h hkb hrun (arr:=arr') (fz:=(0,0)) (fun j x hj=>?_) (by rw [hl];exact Nat.le_refl _) (by rw [hal];exact Nat.le_refl _) (Nat.pos_of_ne_zero (hsz ▸ hne0)) (thaw_zero _) rfl rfl rfl rfl
      rw [← Array.getElem?_toList,harr,List.getElem?_map,hj];rfl
    ·cases h
  ·cases h
 ·cases h
theorem xeMake_ok (htt:TTOk X.P tt) {t:Nat} {x y:Operand} (ho:o.op=.makeSlice t x y) (h:xeMake tt X.fn.ntmps o s t x y=some s'):Stp X o s s':=by
  intro E F w a hs
  unfold xeMake at h
  split at h
  · rename_i td ht
    split at h
    · rename_i te hte
      split at h
      · rename_i k l hx
        split at h
        · rename_i k' c hy
          cases hb:(decide (0≤l) && decide (l≤c) && decide (c≤4294967296) && Nat.beq td.kd 6 && Nat.ble td.eb 32768 && !te.z.isEmpty) with
          | false=>rw [hb] at h;cases h
          | true =>
            rw [hb] at h
            simp only [cond_true] at h
            simp only [Bool.and_eq_true,decide_eq_true_eq] at hb
            obtain ⟨⟨⟨⟨⟨q0,q1⟩,q2⟩,c2⟩,c4⟩,c5⟩:=hb
            have c4:=Nat.le_of_ble_eq_true c4
            obtain ⟨e1,_⟩:=hs.eval hx
            obtain ⟨e2,_⟩:=hs.eval hy
            obtain ⟨ie,hu,hie,hsz,heb,hne0,_⟩:=(htt.get ht).slc c2
            have hz:(sizeOf td.el).run X.P w=.ok td.es w:=by simp [sizeOf,typeInfo,hie,hsz]
            obtain ⟨zv,hzr,hzc⟩:=run_zeroValue' w (htt.get hte)
            have hzl:te.z.length=td.es:=by
              have h1:=(htt.get hte).2.2.2
              obtain ⟨i',z',hi',hs',_⟩:=(htt.get hte).info
              rw [hie] at hi'
              cases hi'
              rw [h1,← hs',hsz]
            have hzne:te.z≠[]:=by intro h;rw [h] at c5;simp at c5
            have hcc:(c.toNat:Int)=c:=Int.toNat_of_nonneg (by omega)
            have hrun:(execOp a.eval o).run X.P w=.ok (.value (.slice (some ⟨w.heap.size,0,none⟩) l.toNat c.toNat)) (w.alloc (.cells ((Array.range (c.toNat * td.es)).map (zv.cells[· % zv.cells.size]!)) td.el)):=by
              simp only [execOp,ho,e1,e2,denV,den]
              refine exec_v ?_
              have w1:IntKind.i64.wrap l=l:=wrap_small q0 (by omega)
              have w2:IntKind.i64.wrap c=c:=wrap_small (by omega) q2
              have hmul:(td.eb:Int) * c≤32768 * 4294967296:=Int.mul_le_mul (by omega) q2 (by omega) (by omega)
              have n1:¬ c < 0:=by omega
              have n2:¬ l < 0:=by omega
              have n3:¬ c < l:=by omega
              have n4:¬ (2:Int) ^ 48 < (td.eb:Int) * c:=by omega
              have n5:¬ roomBytes < c.toNat * td.eb:=by
                have:((c.toNat * td.eb:Nat):Int)=c * td.eb:=by rw [Int.natCast_mul,hcc]
                have h3:c * (td.eb:Int)=td.eb * c:=Int.mul_comm _ _
                show ¬ 2 ^ 47 < c.toNat * td.eb
                omega
              have hti:(typeInfo td.el).run X.P w=.ok ie w:=by simp [typeInfo,hie]
              simp only [Instr.makeSlice,Sem.run_bind,run_underlying' hu,Result.andThen_ok,asInt,asIntOf,Sem.run_pure,hti,heb,w1,w2]
              simp only [n1,n2,n3,n4,decide_false,Bool.or_false,Bool.or_self,gt_iff_lt,Bool.false_eq_true,if_false,askRoom,n5,Sem.run_pure,Sem.run_bind,Result.andThen_ok,hz]
              by_cases h0:c.toNat * td.es=0
              · have key:∀ f:Nat→Value,(Array.range (c.toNat * td.es)).map f=#[]:=by intro f;rw [h0];simp
                simp only [h0,if_true,Sem.run_pure,Result.andThen_ok]
                rw [h0] at key
                rw [key]
                simp [newRow]
                congr 2
                apply Array.ext<;>simp
              · simp [h0,hzr,newRow]
            have harr:=zeroRow_ok (hzc E) (c.toNat * td.es) (.inr hzne)
            have hlc:l.toNat≤c.toNat:=by omega
            have hmul:l.toNat * td.es≤c.toNat * td.es:=Nat.mul_le_mul_right _ hlc
            have hzlen:∀ n,(zeroRow te.z n).length=n:=fun n=>by simp [zeroRow]
            refine newA_ok hs h (fun y hy=>?_) hrun (arr:=(Array.range (c.toNat * td.es)).map (zv.cells[· % zv.cells.size]!)) (fz:=(0,0)) (fun j y hj=>?_) (by rw [hzlen];exact hmul) (by simp) (Nat.pos_of_ne_zero (hsz ▸ hne0)) (thaw_zero _) rfl rfl rfl rfl
            · simp only [zeroRow,List.mem_map] at hy
              obtain ⟨j,_,rfl⟩:=hy
              have hm:j % te.z.length < te.z.length:=Nat.mod_lt _ (List.length_pos_iff.2 hzne)
              simp only [List.getD,List.getElem?_eq_getElem hm,Option.getD_some]
              exact kb_zero (htt.get hte) _ (List.getElem_mem hm)
            · obtain ⟨hj1,hj2⟩:=zeroRow_get hj
              rw [← Array.getElem?_toList,harr,List.getElem?_map]
              have:(zeroRow te.z (c.toNat * td.es))[j]? = some y:=by
                simp only [zeroRow,List.getElem?_map,List.getElem?_range (show j < c.toNat * td.es by omega),Option.map_some,hj2]
              rw [this];rfl
        · cases h
      · cases h
    · cases h
  · cases h
end
end Go.Kx
end
section
namespace Go.Kx
def xeApp (tt:List (Nat × TD)) (nt:Nat) (o:Oper) (s:St) (x y:Operand) (t t2:TypeId):Option St:=match look tt t with
  | some td=>match look tt t2 with
    | some td2=>match evalO s.L y with
      | some (.c src)=>match srcC s td.es src with
        | some (m,ns)=>bif Nat.beq td.kd 6 && (Nat.beq td2.kd 6 || Nat.beq td2.kd 2) && Nat.ble td.eb 32768 && Nat.ble m lim then (match evalO s.L x with
          | some (.c .nil)=>bif Nat.beq m 0 then setd nt o s (.c .nil) else newA nt o s ns m td.es td.el
          | some (.c (.sp k i len es))=>match look s.M k with
            | some (.arr cs es' ty)=>bif Nat.beq es td.es && Nat.beq es' td.es && Nat.beq ty td.el && Nat.ble ((i+len) * es) cs.length && Nat.ble (len+m) lim then
                (bif Nat.beq m 0 then setd nt o s (.c (.sp k i len es))
                 else bif Nat.ble ((i+len+m) * es) cs.length then
                  setd nt o ⟨s.L,(k,.arr (cs.take ((i+len) * es)++ns++cs.drop ((i+len) * es+ns.length)) es' ty)::s.M,s.V,s.nx⟩ (.c (.sp k i (len+m) es))
                 else bif Nat.beq i 0 && Nat.beq (len * es) cs.length then
                  (match o.dst with
                  | some d=>bif Nat.blt d nt then some ⟨(d,.c (.sp s.nx 0 (len+m) es))::s.L,(s.nx,.arr (cs++ns) es ty)::(k,.gone)::s.M,s.V,s.nx+1⟩ else none
                  | none=>none) else none) else none
            | _=>none
          | _=>none) else none
        | none=>none
      | _=>none
    | none=>none
  | none=>none
theorem setRow_same {w:World} {g:Nat} {cur:Array Value} {t:TypeId} {fz:Nat × Nat} (hg:w.heap[g]? = some (.cells cur t fz)):w.setRow g cur=w:=by
 have hv:w.heap[g]'(Array.getElem?_eq_some_iff.1 hg).1=.cells cur t fz:=(Array.getElem?_eq_some_iff.1 hg).2
 unfold World.setRow
 cases w with
 | mk heap tape drawn os output =>
  congr 1
  apply Array.ext
  ·simp
  ·intro k h1 h2
   simp only [Array.getElem_modify]
   split
   ·rename_i hk;subst hk;simp at hv;simp [hv]
   ·rfl
theorem run_app_room {P:Program} {t t2 ty:TypeId} {td:TD} (hu2:P.underlying t2=some .string∨∃ e2,P.underlying t2=some (.slice e2)) (ok:TD.Ok P t td) (hk:Nat.beq td.kd 6=true) {w:World} {b o len cap m:Nat} {ns:List Value} {sv:Value}
  {arr:Array Value} {el:TypeId} {fz:Nat × Nat} (hh:w.heap[b]? = some (.cells arr el fz)) (hth:ThawAt fz arr.size) (hlen:∀ w',(Builtin.lenOf sv).run P w'=.ok m w')
  (hfc:∀ w',w'.heap=w.heap→(Builtin.firstCells td.es m sv).run P w'=.ok ns.toArray w') (hns:ns.length=m * td.es) (hone:∀ u∈ns,u.oneCell'=true) (hroom:len+m≤cap) (hsz:o+(len+m) * td.es≤arr.size) {arr':Array Value} (harr:arr'=(arr.toList.take (o+len * td.es)++ns++arr.toList.drop (o+len * td.es+ns.length)).toArray) :
  (Builtin.append_ #[t,t2] ty #[.slice (some ⟨b,o,none⟩) len cap,sv]).run P w=.ok (.slice (some ⟨b,o,none⟩) (len+m) cap)
   (w.setRow b arr'):=by
 obtain ⟨i,hu,hi,hsz',hby,hne,z,hz,hzs⟩:=ok.slc hk
 have hrunsz:∀ w',(sizeOf td.el).run P w'=.ok td.es w':=fun w'=>by simp [sizeOf,typeInfo,hi,hsz']
 rw [Nat.add_mul] at hsz
 have hst:=run_storeCells_thaw (P:=P) b (o+len * td.es) el fz ns 0 arr w hh hth (by omega) hone
 rw [Nat.add_zero,← harr] at hst
 have h2:=hfc w rfl
 rcases hu2 with hu2 | ⟨_,hu2⟩<;>simp [Builtin.append_,run_underlying' hu,run_underlying' hu2,hrunsz,hlen,hroom,h2,addr_add] <;>
  (rw [hst];rfl)
theorem run_app_grow {P:Program} {t t2 ty:TypeId} {td:TD} (hu2:P.underlying t2=some .string∨∃ e2,P.underlying t2=some (.slice e2)) (ok:TD.Ok P t td) (hk:Nat.beq td.kd 6=true) {w:World} {base:Option Addr} {len cap m:Nat} {ms ns:List Value} {sv:Value}
  (hlen:∀ w',(Builtin.lenOf sv).run P w'=.ok m w') (hfo:∀ w',w'.heap=w.heap→(Builtin.firstCells td.es len (.slice base len cap)).run P w'=.ok ms.toArray w')
  (hfc:∀ w',w'.heap=w.heap→(Builtin.firstCells td.es m sv).run P w'=.ok ns.toArray w') (hms:ms.length=len * td.es) (hns:ns.length=m * td.es) (hcap:cap < len+m) (hlim:len+m≤lim) (heb:td.eb≤32768) :
  ∃ nc rest,len+m≤nc∧nc * td.es≤(ms.toArray++ns.toArray++rest:Array Value).size∧(Builtin.append_ #[t,t2] ty #[.slice base len cap,sv]).run P w=.ok (.slice (some ⟨w.heap.size,0,none⟩) (len+m) nc) (w.drew.alloc (.cells (ms.toArray++ns.toArray++rest) td.el)):=by
 obtain ⟨i,hu,hi,hsz,hby,hne,z,hz,hzs⟩:=ok.slc hk
 have hrunsz:∀ w',(sizeOf td.el).run P w'=.ok td.es w':=fun w'=>by simp [sizeOf,typeInfo,hi,hsz]
 unfold lim at hlim
 have hbytes:(len+m) * td.eb≤140737488355328:=Nat.le_trans (Nat.mul_le_mul hlim heb) (by decide)
 have h63:¬ ((9223372036854775807:Int) < ((len:Int)+(m:Int))):=by omega
 let nc:=(Question.appendCap (len+m) cap td.el).cut (w.tape w.drawn (.appendCap (len+m) cap td.el))
 have hnc:len+m≤nc:=Nat.le_add_right _ _
 have hcapn:¬ (len+m≤cap):=by omega
 have hfit:¬ (281474976710656 < Builtin.nextslicecap (len+m) cap * i.bytes):=by
  have:=growslice_fits hcap (by rw [← hby] at hbytes;exact hbytes)
  omega
 have h1:=hfo w.drew rfl
 have h2:=hfc w.drew rfl
 refine ⟨nc,Builtin.zeroCells z.cells (nc-(len+m)),hnc,?_,?_⟩
 ·have hzc:(Builtin.zeroCells z.cells (nc-(len+m))).size=(nc-(len+m)) * td.es:=by simp [Builtin.zeroCells,hzs,hsz]
  rw [Array.size_append,Array.size_append,hzc,List.size_toArray,List.size_toArray,hms,hns,← Nat.add_mul,← Nat.add_mul]
  exact Nat.mul_le_mul_right _ (by omega)
 ·rcases hu2 with hu2 | ⟨_,hu2⟩<;>simp [Builtin.append_,run_underlying' hu,run_underlying' hu2,hrunsz,typeInfo,zeroValue,hi,hz,hlen,hcapn,h63,hfit,Question.forced,h1,h2,newRow] <;>
   simp [nc,← Array.append_assoc]
section
variable {X:Ctx} {s s':St} {E:Env} {F:FSet} {w:World} {a:Act} {tt:List (Nat × TD)} {o:Oper}
theorem setd_wp {v:SV} {w':World} (hs':Sat X s E F w' a) (h:setd X.fn.ntmps o s v=some s') (hv:v.kb s.nx) (hrun:(execOp a.eval o).run X.P w=.ok (.value (denV E v)) w') :
  o.wp X.P a w (fun a' w'=>∃ E' F',Sat X s' E' F' w' a') (fun _ _ _=>False):=by
 unfold setd at h
 split at h
 ·rename_i d hd
  cases hb:Nat.blt d X.fn.ntmps with
  | false=>rw [hb] at h;cases h
  | true =>
   rw [hb] at h;cases h
   refine wp_value hrun ⟨E,F,?_⟩
   rw [hd]
   exact hs'.setL hv (blt_lt hb)
 ·cases h
theorem xeApp_ok (htt:TTOk X.P tt) {x y:Operand} {t t2:TypeId} (ho:o.op=.call { callee:=.builtin .append,args:=#[x,y],argTypes:=#[t,t2] }) (h:xeApp tt X.fn.ntmps o s x y t t2=some s'):Stp X o s s':=by
 intro E F w a hs
 unfold xeApp at h
 split at h
 ·rename_i td ht
  split at h
  ·rename_i td2 ht2
   split at h
   ·rename_i src hy
    split at h
    ·rename_i m ns hsc
     cases hb:(Nat.beq td.kd 6 && (Nat.beq td2.kd 6 || Nat.beq td2.kd 2) && Nat.ble td.eb 32768 && Nat.ble m lim) with
     | false=>rw [hb] at h;cases h
     | true =>
      rw [hb] at h
      simp only [cond_true] at h
      simp only [Bool.and_eq_true] at hb
      obtain ⟨⟨⟨b1,b2⟩,b3⟩,b4⟩:=hb
      have b3:=Nat.le_of_ble_eq_true b3
      have b4:=Nat.le_of_ble_eq_true b4
      obtain ⟨e2,_⟩:=hs.eval hy
      obtain ⟨n1,n2,n3,n4⟩:=srcC_ok hs hsc
      have n5:∀ w',w'.heap=w.heap→(Builtin.firstCells td.es m (den E src)).run X.P w'=.ok (ns.map (den E)).toArray w':=fun w' hw=>by
       have:=n4 m w' (Nat.le_refl _) hw
       rwa [← n1,List.take_length] at this
      have hone:∀ u∈ns.map (den E),u.oneCell'=true:=fun u hu=>by
       obtain ⟨c,hc,rfl⟩:=List.mem_map.1 hu;exact den_one hs.one (n2 c hc)
      have hu2:=kd62 (htt.get ht2) b2
      obtain ⟨_,hu,_,_,_,hne0,_⟩:=(htt.get ht).slc b1
      have hes:0 < td.es:=by
       obtain ⟨_,_,_,h3,_,h4,_⟩:=(htt.get ht).slc b1
       exact Nat.pos_of_ne_zero (h3 ▸ h4)
      have lift:∀ {vx v:Value} {w':World},a.eval x=vx→(Builtin.append_ #[t,t2] o.type #[vx,den E src]).run X.P w=.ok v w'→(execOp a.eval o).run X.P w=.ok (.value v) w':=fun hx hr=>by
       refine exec_call_builtin ho ?_
       simp only [List.map_toArray,List.map_cons,List.map_nil,hx,e2,denV]
       exact exec_v hr
      split at h
      ·rename_i hx
       obtain ⟨e1,_⟩:=hs.eval hx
       cases hm:Nat.beq m 0 with
       | true =>
        rw [hm] at h
        have hm:=Nat.eq_of_beq_eq_true hm
        subst hm
        refine setd_wp hs h trivial (lift e1 ?_)
        have h5:=n5 w rfl
        have h0:ns=[]:=List.eq_nil_of_length_eq_zero (by omega)
        subst h0
        have hz:(sizeOf td.el).run X.P w=.ok td.es w:=by
         obtain ⟨_,_,h2,h3,_⟩:=(htt.get ht).slc b1
         simp [sizeOf,typeInfo,h2,h3]
        show (Builtin.append_ #[t,t2] o.type #[.slice none 0 0,den E src]).run X.P w=.ok (.slice none 0 0) w
        rcases hu2 with hu2 | ⟨_,hu2⟩<;>simp [Builtin.append_,run_underlying' hu,run_underlying' hu2,hz,n3,h5]
       | false =>
        rw [hm] at h
        simp only [cond_false] at h
        have hm0:0 < m:=Nat.pos_of_ne_zero fun e=>by subst e;cases hm
        obtain ⟨nc,rest,g1,g2,g3⟩:=run_app_grow (P:=X.P) (t2:=t2) (ty:=o.type) (w:=w) hu2 (htt.get ht) b1 (base:=none) (len:=0) (cap:=0) (ms:=[]) n3 (fun w' _=>by simp [Builtin.firstCells]) n5 (by simp) (by simpa using n1) (by omega) (by omega) b3
        have hrun:=lift e1 g3
        rw [Nat.zero_add] at hrun g1
        refine newA_ok hs h n2 hrun (arr:=_) (fz:=(0,0)) (fun j c hj=>?_) (by rw [n1];exact Nat.mul_le_mul_right _ g1) g2 hes (thaw_zero _) rfl rfl rfl rfl
        have hlt:=(List.getElem?_eq_some_iff.1 hj).1
        rw [Array.getElem?_append_left (by simpa using hlt),Array.getElem?_append_right (by simp)]
        simp [hj]
      ·rename_i k i len es hx
       obtain ⟨e1,k1⟩:=hs.eval hx
       split at h
       ·rename_i cs es' ty hM
        cases hc:(Nat.beq es td.es && Nat.beq es' td.es && Nat.beq ty td.el && Nat.ble ((i+len) * es) cs.length && Nat.ble (len+m) lim) with
        | false=>rw [hc] at h;cases h
        | true =>
         rw [hc] at h
         simp only [cond_true] at h
         simp only [Bool.and_eq_true] at hc
         obtain ⟨⟨⟨⟨c1,c2⟩,c5⟩,c3⟩,c4⟩:=hc
         have c5:=Nat.eq_of_beq_eq_true c5
         have c1:=Nat.eq_of_beq_eq_true c1
         have c2:=Nat.eq_of_beq_eq_true c2
         have c3:=Nat.le_of_ble_eq_true c3
         have c4:=Nat.le_of_ble_eq_true c4
         subst c1
         subst c2
         obtain ⟨arr,el,fz,hh,hth,hpre,hcl,hca,he,hty⟩:=(hs.hM k _ hM:MO.ok E F w k (.arr cs td.es ty))
         subst hty
         have hil:i+len≤capOf (E.ρ k):=Nat.le_of_mul_le_mul_right (Nat.le_trans c3 hcl) he
         have hal:arr.toList.length=arr.size:=Array.length_toList
         cases hm:Nat.beq m 0 with
         | true =>
          rw [hm] at h
          simp only [cond_true] at h
          have hm:=Nat.eq_of_beq_eq_true hm
          subst hm
          have h0:ns=[]:=List.eq_nil_of_length_eq_zero (by omega)
          subst h0
          have hsz:i * td.es+(len+0) * td.es≤arr.size:=by
           rw [Nat.add_zero,← Nat.add_mul];exact Nat.le_trans c3 (Nat.le_trans hcl hca)
          have hr:=run_app_room (ty:=o.type) hu2 (htt.get ht) b1 hh hth n3 n5 (by simp) hone (len:=len) (cap:=capOf (E.ρ k)-i) (o:=i * td.es) (by omega) hsz (arr':=arr) (by
           apply Array.ext';simp [List.take_append_drop])
          have hsame:w.setRow (E.β k) arr=w:=setRow_same hh
          rw [hsame,Nat.add_zero] at hr
          exact setd_wp hs h k1 (lift e1 hr)
         | false =>
          rw [hm] at h
          simp only [cond_false] at h
          have hm0:0 < m:=Nat.pos_of_ne_zero fun e=>by subst e;cases hm
          cases hin:Nat.ble ((i+len+m) * td.es) cs.length with
          | true =>
           rw [hin] at h
           simp only [cond_true] at h
           have hin:=Nat.le_of_ble_eq_true hin
           have hroom:i+len+m≤capOf (E.ρ k):=Nat.le_of_mul_le_mul_right (Nat.le_trans hin hcl) he
           have hle:(i+len) * td.es+ns.length≤cs.length:=by rw [n1,← Nat.add_mul];exact hin
           obtain ⟨w',hst,hs'⟩:=hs.storeArr hM hle n2
           have hst0:=run_storeCells_thaw (P:=X.P) (E.β k) ((i+len) * td.es) el fz (ns.map (den E)) 0 arr w hh hth (by rw [List.length_map];omega) hone
           rw [hst0] at hst
           simp only [Result.ok.injEq,true_and] at hst
           have hsz:i * td.es+(len+m) * td.es≤arr.size:=by
            rw [← Nat.add_mul,← Nat.add_assoc];exact Nat.le_trans hin (Nat.le_trans hcl hca)
           have hr:=run_app_room (ty:=o.type) hu2 (htt.get ht) b1 hh hth n3 n5 (by rw [List.length_map,n1]) hone (len:=len) (cap:=capOf (E.ρ k)-i) (o:=i * td.es) (by omega) hsz rfl
           rw [← Nat.add_mul,← Nat.add_zero ((i+len) * td.es),hst] at hr
           exact setd_wp hs' h k1 (lift e1 hr)
          | false =>
           rw [hin] at h
           simp only [cond_false] at h
           cases hfin:(Nat.beq i 0 && Nat.beq (len * td.es) cs.length) with
           | false=>rw [hfin] at h;cases h
           | true =>
            rw [hfin] at h
            simp only [cond_true] at h
            simp only [Bool.and_eq_true] at hfin
            have f1:=Nat.eq_of_beq_eq_true hfin.1
            have f2:=Nat.eq_of_beq_eq_true hfin.2
            subst f1
            split at h
            ·rename_i d hd
             cases hbd:Nat.blt d X.fn.ntmps with
             | false=>rw [hbd] at h;cases h
             | true =>
              rw [hbd] at h;cases h
              have hkb:∀ c∈cs++ns,SC.kb s.nx c:=fun c hc=>by
               rcases List.mem_append.1 hc with hc | hc
               ·exact (hs.wf.hM k _ hM).2 c hc
               ·exact n2 c hc
              have e1':a.eval x=.slice (some ⟨E.β k,0,none⟩) len (capOf (E.ρ k)):=by rw [e1];simp [denV,den]
              have hcnl:(cs++ns).length=(len+m) * td.es:=by rw [List.length_append,n1,← f2,Nat.add_mul]
              by_cases hroom:len+m≤capOf (E.ρ k)
              ·have hsz:0+(len+m) * td.es≤arr.size:=by rw [Nat.zero_add];exact Nat.le_trans (Nat.mul_le_mul_right _ hroom) hca
               have hr:=run_app_room (ty:=o.type) hu2 (htt.get ht) b1 hh hth n3 n5 (by rw [List.length_map,n1]) hone (len:=len) (cap:=capOf (E.ρ k)) (o:=0) hroom hsz rfl
               generalize harr:(arr.toList.take (0+len * td.es)++ns.map (den E)++arr.toList.drop (0+len * td.es+(ns.map (den E)).length)).toArray=arr' at hr
               have hsize:arr'.size=arr.size:=by
                rw [← harr]
                simp only [List.size_toArray,List.length_append,List.length_take,List.length_drop,List.length_map,hal,n1]
                rw [Nat.add_mul] at hsz
                omega
               obtain ⟨E',q1,q2,s1⟩:=hs.movArr (b:=E.β k) (κ:=capOf (E.ρ k)) (cs':=cs++ns) (w2:=w.setRow (E.β k) arr') hM hkb (setRow_heap w _ arr _ el fz hh) (.inl rfl) (fun j c hj=>by
                 rw [← harr]
                 simp only [List.getElem?_toArray,Nat.zero_add,List.append_assoc]
                 have htl:(arr.toList.take (len * td.es)).length=len * td.es:=by
                  rw [List.length_take,hal];rw [Nat.add_mul] at hsz;omega
                 by_cases hlt:j < cs.length
                 ·rw [List.getElem?_append_left hlt] at hj
                  rw [List.getElem?_append_left (by rw [htl];omega),List.getElem?_take,if_pos (by omega)]
                  have:=hpre j c hj
                  simpa using this
                 ·rw [List.getElem?_append_right (by omega)] at hj
                  have hl2:=(List.getElem?_eq_some_iff.1 hj).1
                  rw [List.getElem?_append_right (by rw [htl];omega),htl,List.getElem?_append_left (by rw [List.length_map];omega),List.getElem?_map,f2,hj];rfl)
                (by rw [hcnl];exact Nat.mul_le_mul_right _ hroom) (by rw [hsize];exact hca) he (by rw [hsize];exact hth) rfl rfl rfl (by simp) (fun b' _ hne=>setRow_other w _ b' _ hne)
               have s2:=s1.setL (d:=d) (v:=.c (.sp s.nx 0 (len+m) td.es)) (Nat.lt_succ_self _) (blt_lt hbd)
               simp only [denV,den,q1,q2,Nat.zero_mul,Nat.sub_zero] at s2
               refine wp_value (lift e1' hr) ⟨E',F,?_⟩
               rw [hd]
               exact s2
              ·obtain ⟨nc,rest,g1,g2,g3⟩:=run_app_grow (P:=X.P) (t2:=t2) (ty:=o.type) (w:=w) hu2 (htt.get ht) b1 (base:=some ⟨E.β k,0,none⟩) (len:=len) (cap:=capOf (E.ρ k)) (ms:=cs.map (den E)) n3 (fun w' hw=>by
                 simp only [Builtin.firstCells]
                 rw [f2,← List.length_map (f:=den E) (as:=cs)]
                 exact run_loadCells_list w' _ _ fun j u hj=>by
                  rw [addr_add,cell_at (by rw [hw];exact hh),Nat.zero_add]
                  rw [List.getElem?_map,Option.map_eq_some_iff] at hj
                  obtain ⟨c,hc,rfl⟩:=hj
                  exact hpre j c hc) n5 (by rw [List.length_map,f2]) (by rw [List.length_map,n1]) (by omega) c4 b3
               have hwsz:(w.drew.alloc (.cells ((cs.map (den E)).toArray++(ns.map (den E)).toArray++rest) td.el)).heap=w.heap.push (.cells ((cs.map (den E)).toArray++(ns.map (den E)).toArray++rest) td.el):=rfl
               obtain ⟨E',q1,q2,s1⟩:=hs.movArr (b:=w.heap.size) (κ:=nc) (cs':=cs++ns) (fz:=(0,0)) (w2:=w.drew.alloc (.cells ((cs.map (den E)).toArray++(ns.map (den E)).toArray++rest) td.el)) hM hkb (heap_alloc_new w.drew _) (.inr (Nat.le_refl _)) (fun j c hj=>by
                 by_cases hlt:j < cs.length
                 ·rw [List.getElem?_append_left hlt] at hj
                  rw [Array.getElem?_append_left (by simp;omega),Array.getElem?_append_left (by simpa using hlt)]
                  simp [hj]
                 ·rw [List.getElem?_append_right (by omega)] at hj
                  have hl2:=(List.getElem?_eq_some_iff.1 hj).1
                  rw [Array.getElem?_append_left (by simp;omega),Array.getElem?_append_right (by simp;omega)]
                  simp [hj])
                (by rw [hcnl];exact Nat.mul_le_mul_right _ g1) g2 he (thaw_zero _) rfl rfl rfl (by rw [hwsz];simp) (fun b' hb' _=>by rw [hwsz,Array.getElem?_push,if_neg (Nat.ne_of_lt hb')])
               have s2:=s1.setL (d:=d) (v:=.c (.sp s.nx 0 (len+m) td.es)) (Nat.lt_succ_self _) (blt_lt hbd)
               simp only [denV,den,q1,q2,Nat.zero_mul,Nat.sub_zero] at s2
               refine wp_value (lift e1' g3) ⟨E',F,?_⟩
               rw [hd]
               rw [show MO.arr (cs++ns) td.es el=MO.arr (cs++ns) td.es td.el by rw [c5]]
               exact s2
            ·cases h
       ·cases h
      ·cases h
    ·cases h
   ·cases h
  ·cases h
 ·cases h
end
end Go.Kx
end
section
namespace Go.Kx
def xvIdxG (tt:List (Nat × TD)) (s:St) (t:TypeId) (x ix:Operand):Option SV:=match look tt t with
 | some d=>match look tt d.el with
  | some de=>match evalO s.L ix with
   | some (.c (.i _ n))=>match evalO s.L x with
    | some (.a cs)=>bif Nat.beq d.kd 5 && inB n d.n then loadC de (n.toNat * d.es) cs else none
    | _=>none
   | _=>none
  | none=>none
 | none=>none
def ptrOf (P:Program) (t:TypeId):Option TypeId:=match P.underlying t with
 | some (.pointer e)=>some e
 | _=>none
def unsT (P:Program) (t:TypeId):Bool:=match P.underlying t with
 | some .unsafePointer=>true
 | _=>false
def hasSz (P:Program) (t:TypeId):Bool:=match P.info? t with
 | some i=>Nat.blt 0 i.size
 | none=>false
def xvPtr (P:Program) (s:St) (op:BinOp) (t:TypeId) (x y:Operand):Option SV:=match ptrOf P t with
 | some e=>match evalO s.L x with
  | some (.c vx)=>match evalO s.L y with
   | some (.c vy)=>match vx,vy with
    | .v (.pointer none),.v (.pointer none)=>eqO op true
    | .bp _ _,.v (.pointer none)=>eqO op false
    | .v (.pointer none),.bp _ _=>eqO op false
    | .bp k i,.bp k' j=>bif Nat.beq k k' && Nat.beq i j && hasSz P e then eqO op true else none
    | _,_=>none
   | _=>none
  | _=>none
 | none=>none
def xvUns (P:Program) (s:St) (t u:TypeId) (x:Operand):Option SV:=match evalO s.L x with
 | some (.c (.bp k off))=>match look s.M k with
  | some (.box cs ty)=>match ptrOf P t with
   | some e=>bif unsT P u && hasSz P e && Nat.blt off cs.length then some (.c (.bp k off)) else none
   | none=>match ptrOf P u with
    | some e=>bif unsT P t && hasSz P e && liesAt P P.depth ty (cs.length / P.cellsOf ty) off e 1 then some (.c (.bp k off)) else none
    | none=>none
  | _=>none
 | _=>none
def xvBuil (tt:List (Nat × TD)) (s:St) (b:Builtin) (args:List Operand) (ts:List TypeId):Option SV:=match b,args,ts with
 | .cap,[x],[t]=>match look tt t with
  | some d=>match evalO s.L x with
   | some (.c .nil)=>bif Nat.beq d.kd 6 then some (.c (.i .i64 0)) else none
   | _=>none
  | none=>none
 | .unsafeSliceData,[x],_=>match evalO s.L x with
  | some (.c .nil)=>some (.c (.v (.pointer none)))
  | some (.c (.sp k i n es))=>bif Nat.blt 0 n && xlen s.M k i n es then some (.c (.bp k (i * es))) else none
  | _=>none
 | .unsafeString,[x,y],[_,_]=>match evalO s.L x with
  | some (.c vx)=>match evalO s.L y with
   | some (.c (.i .i64 n))=>bif decide (n=0) then (match vx with
    | .bp _ _=>some (.c (.s .empty))
    | .v (.pointer none)=>some (.c (.s .empty))
    | _=>none) else none
   | _=>none
  | _=>none
 | _,_,_=>none
def xval2 (P:Program) (tt:List (Nat × TD)) (s:St) (op:Op):Option SV:=match xval P tt s op with
 | some v=>some v
 | none=>match op with
  | .index t x ix=>xvIdxG tt s t x ix
  | .binOp op t x y _=>xvPtr P s op t x y
  | .convert t u x=>xvUns P s t u x
  | .call c=>match c.callee with
   | .builtin b=>xvBuil tt s b c.args.toList c.argTypes.toList
   | _=>none
  | _=>none
section
variable {X:Ctx} {s:St} {E:Env} {F:FSet} {w:World} {a:Act} {tt:List (Nat × TD)} {o:Oper}
theorem run_part' {P:Program} {t:TypeId} {d:TD} {cs:List SC} {off:Nat} {v:SV} (htd:TD.Ok P t d) (h:loadC d off cs=some v) (w:World) (E:Env):(part t (cs.map (den E)).toArray off).run P w=.ok (denV E v) w:=by
 obtain ⟨ds,hu⟩:=htd.und
 unfold loadC at h
 simp only [part,Sem.run_bind,run_isAgg' w hu,htd.agg,Result.andThen_ok]
 cases hg:d.ag with
 | true =>
  rw [hg] at h
  simp only [cond_true] at h
  cases hn:Nat.beq ((cs.drop off).take d.sz).length d.sz with
  | false=>rw [hn] at h;cases h
  | true =>
   rw [hn] at h
   cases h
   simp only [if_true,Sem.run_bind,run_sizeOf' w htd,Result.andThen_ok,Sem.run_pure,denV]
   congr 2
   apply Array.ext'
   simp [List.map_drop,List.map_take,List.take_drop]
 | false =>
  rw [hg] at h
  simp only [cond_false] at h
  cases hc:cs[off]? with
  | none=>rw [hc] at h;cases h
  | some c =>
   rw [hc] at h
   cases h
   simp [hc,denV]
theorem xvIdxG_ok (htt:TTOk X.P tt) (hs:Sat X s E F w a) {t:TypeId} {x ix:Operand} {v:SV} (ho:o.op=.index t x ix) (h:xvIdxG tt s t x ix=some v) :
  (execOp a.eval o).run X.P w=.ok (.value (denV E v)) w∧v.kb s.nx:=by
 unfold xvIdxG at h
 split at h
 ·rename_i d hd
  split at h
  ·rename_i de hde
   split at h
   ·rename_i ik n hi
    obtain ⟨e2,_⟩:=hs.eval hi
    split at h
    ·rename_i cs hx
     obtain ⟨e1,k1⟩:=hs.eval hx
     cases hb:(Nat.beq d.kd 5 && inB n d.n) with
     | false=>rw [hb] at h;cases h
     | true =>
      rw [hb] at h
      simp only [cond_true] at h
      simp only [Bool.and_eq_true] at hb
      obtain ⟨h4,h5⟩:=inB_ok hb.2
      obtain ⟨hu,hz⟩:=(htt.get hd).arr hb.1
      refine ⟨?_,loadC_kb h k1⟩
      simp only [execOp,ho,e1,e2,denV,den]
      refine exec_v ?_
      simp only [Instr.index,asIntOf,Sem.run_bind,Sem.run_pure,Result.andThen_ok,run_underlying' hu,h4,h5,and_self,if_true,hz]
      exact run_part' (htt.get hde) h w E
    ·cases h
   ·cases h
  ·cases h
 ·cases h
theorem ptrOf_ok {P:Program} {t e:TypeId} (h:ptrOf P t=some e):P.underlying t=some (.pointer e):=by
 unfold ptrOf at h
 split at h
 ·rename_i hu;cases h;exact hu
 ·cases h
theorem unsT_ok {P:Program} {t:TypeId} (h:unsT P t=true):P.underlying t=some .unsafePointer:=by
 unfold unsT at h
 split at h
 ·rename_i hu;exact hu
 ·cases h
theorem hasSz_ok {P:Program} {t:TypeId} (h:hasSz P t=true):∃ i,P.info? t=some i∧i.size≠0:=by
 unfold hasSz at h
 split at h
 ·rename_i i hi;exact ⟨i,hi,Nat.ne_of_gt (blt_lt h)⟩
 ·cases h
theorem xvPtr_ok (hs:Sat X s E F w a) {op:BinOp} {t yt:TypeId} {x y:Operand} {v:SV} (ho:o.op=.binOp op t x y yt) (h:xvPtr X.P s op t x y=some v) :
  (execOp a.eval o).run X.P w=.ok (.value (denV E v)) w∧v.kb s.nx:=by
 unfold xvPtr at h
 split at h
 ·rename_i e he
  have hu:=ptrOf_ok he
  split at h
  ·rename_i vx hx
   obtain ⟨e1,k1⟩:=hs.eval hx
   split at h
   ·rename_i vy hy
    obtain ⟨e2,k2⟩:=hs.eval hy
    have go:∀ {b:Bool},(Op.equal t (den E vx) (den E vy)).run X.P w=.ok b w→eqO op b=some v→(∀ op,(eqGuard op t x y (den E vx) (den E vy)).run X.P w=.ok () w) →
      binOp .eql t (den E vx) (den E vy)=(do pure (Value.bool (← Op.equal t (den E vx) (den E vy))))→binOp .neq t (den E vx) (den E vy)=(do pure (Value.bool (!(← Op.equal t (den E vx) (den E vy))))) →
      (execOp a.eval o).run X.P w=.ok (.value (denV E v)) w∧v.kb s.nx:=fun {b} hq h hg h1 h2=>by
     obtain ⟨g1,g2⟩:=eqO_run (E:=E) (x:=x) (y:=y) hq h hg h1 h2
     refine ⟨?_,g2 _⟩
     simp only [execOp,ho,e1,e2]
     exact exec_v g1
    have q0:∀ {u v:Value} {b:Bool},(∀ d:Nat,(Op.equalIn (d+1) t u v).run X.P w=.ok b w)→(Op.equal t u v).run X.P w=.ok b w:=fun hd=>hd 9999
    split at h
    ·exact go (b:=true) (q0 fun d=>by simp [den,Op.equalIn,run_underlying' hu]) h (fun op=>by unfold eqGuard;cases op<;>simp [den]) rfl rfl
    ·exact go (b:=false) (q0 fun d=>by simp [den,Op.equalIn,run_underlying' hu]) h (fun op=>by unfold eqGuard;cases op<;>simp [den]) rfl rfl
    ·exact go (b:=false) (q0 fun d=>by simp [den,Op.equalIn,run_underlying' hu]) h (fun op=>by unfold eqGuard;cases op<;>simp [den]) rfl rfl
    ·rename_i k i k' j
     cases hb:(Nat.beq k k' && Nat.beq i j && hasSz X.P e) with
     | false=>rw [hb] at h;cases h
     | true =>
      rw [hb] at h
      simp only [cond_true] at h
      simp only [Bool.and_eq_true] at hb
      have b1:=Nat.eq_of_beq_eq_true hb.1.1
      have b2:=Nat.eq_of_beq_eq_true hb.1.2
      obtain ⟨i',hi,hne⟩:=hasSz_ok hb.2
      subst b1 b2
      exact go (b:=true) (q0 fun d=>by simp [den,Op.equalIn,run_underlying' hu,sizeOf,typeInfo,hi,Go.run_sameAddr_same]) h (fun op=>by unfold eqGuard;cases op<;>simp [den]) rfl rfl
    ·cases h
   ·cases h
  ·cases h
 ·cases h
theorem xvUns_ok (hs:Sat X s E F w a) {t u:TypeId} {x:Operand} {v:SV} (ho:o.op=.convert t u x) (h:xvUns X.P s t u x=some v) :
  (execOp a.eval o).run X.P w=.ok (.value (denV E v)) w∧v.kb s.nx:=by
 unfold xvUns at h
 split at h
 ·rename_i k off hx
  obtain ⟨e1,k1⟩:=hs.eval hx
  split at h
  ·rename_i cs ty hm
   have hb:w.heap[E.β k]? = some (.cells (cs.map (den E)).toArray ty (0,0)):=hs.hM k _ hm
   have hsh:w.shape? (E.β k)=some (ty,cs.length):=by simp [World.shape?,hb]
   split at h
   ·rename_i e he
    have hp:=ptrOf_ok he
    cases hq:(unsT X.P u && hasSz X.P e && Nat.blt off cs.length) with
    | false=>rw [hq] at h;cases h
    | true =>
     rw [hq] at h;cases h
     simp only [Bool.and_eq_true] at hq
     obtain ⟨j,hj,hne⟩:=hasSz_ok hq.1.2
     refine ⟨?_,k1⟩
     simp only [execOp,ho,e1,denV,den]
     exact exec_v (Go.Lib.run_to_unsafe w ⟨E.β k,off,none⟩ hp (unsT_ok hq.1.1) hj hne hsh (blt_lt hq.2))
   ·split at h
    ·rename_i e he
     have hp:=ptrOf_ok he
     cases hq:(unsT X.P t && hasSz X.P e && liesAt X.P X.P.depth ty (cs.length / X.P.cellsOf ty) off e 1) with
     | false=>rw [hq] at h;cases h
     | true =>
      rw [hq] at h;cases h
      simp only [Bool.and_eq_true] at hq
      obtain ⟨j,hj,hne⟩:=hasSz_ok hq.1.2
      refine ⟨?_,k1⟩
      simp only [execOp,ho,e1,denV,den]
      exact exec_v (Go.Lib.run_from_unsafe w ⟨E.β k,off,none⟩ (unsT_ok hq.1.1) hp hj hsh hq.2)
    ·cases h
  ·cases h
 ·cases h
theorem xvBuil_ok (htt:TTOk X.P tt) (hs:Sat X s E F w a) {b:Builtin} {args:Array Operand} {ts:Array TypeId} {v:SV} (ho:o.op=.call { callee:=.builtin b,args:=args,argTypes:=ts })
  (h:xvBuil tt s b args.toList ts.toList=some v):(execOp a.eval o).run X.P w=.ok (.value (denV E v)) w∧v.kb s.nx:=by
 unfold xvBuil at h
 split at h
 ·rename_i x t hargs hts
  have e1:args=#[x]:=by apply Array.ext';rw [hargs]
  have e2:ts=#[t]:=by apply Array.ext';rw [hts]
  subst e1 e2
  split at h
  ·rename_i d hd
   split at h
   ·rename_i hx
    obtain ⟨q1,_⟩:=hs.eval hx
    cases hb:Nat.beq d.kd 6 with
    | false=>rw [hb] at h;cases h
    | true =>
     rw [hb] at h;cases h
     obtain ⟨e,hu,_⟩:=(htt.get hd).sliceOf hb
     refine ⟨exec_call_builtin ho ?_,trivial⟩
     simp only [List.map_toArray,List.map_cons,List.map_nil,q1]
     refine exec_v ?_
     show (Builtin.cap_ #[t] o.type #[.slice none 0 0]).run X.P w=_
     simp [Builtin.cap_,run_underlying' hu,denV,den,goInt]
   ·cases h
  ·cases h
 ·rename_i x hargs
  have e1:args=#[x]:=by apply Array.ext';rw [hargs]
  subst e1
  split at h
  ·rename_i hx
   obtain ⟨q1,_⟩:=hs.eval hx
   cases h
   refine ⟨exec_call_builtin ho ?_,rfl⟩
   simp only [List.map_toArray,List.map_cons,List.map_nil,q1]
   refine exec_v ?_
   exact Go.Lib.run_unsafeSliceData_nil (P:=X.P) w ts o.type 0 0
  ·rename_i k i n es hx
   obtain ⟨q1,k1⟩:=hs.eval hx
   cases hb:(Nat.blt 0 n && xlen s.M k i n es) with
   | false=>rw [hb] at h;cases h
   | true =>
    rw [hb] at h;cases h
    rw [Bool.and_eq_true] at hb
    have h0:=blt_lt hb.1
    have hl:=xlen_ok hs hb.2
    refine ⟨exec_call_builtin ho ?_,k1⟩
    simp only [List.map_toArray,List.map_cons,List.map_nil,q1]
    refine exec_v ?_
    exact Go.Lib.run_unsafeSliceData_row (P:=X.P) w ts o.type ⟨E.β k,i * es,none⟩ n (capOf (E.ρ k)-i) (by omega)
  ·cases h
 ·rename_i x y t1 t2 hargs hts
  have e1:args=#[x,y]:=by apply Array.ext';rw [hargs]
  have e2:ts=#[t1,t2]:=by apply Array.ext';rw [hts]
  subst e1 e2
  split at h
  ·rename_i vx hx
   obtain ⟨q1,kq1⟩:=hs.eval hx
   split at h
   ·rename_i n hy
    obtain ⟨q2,kq2⟩:=hs.eval hy
    cases hb:decide (n=0) with
    | false=>rw [hb] at h;cases h
    | true =>
     rw [hb] at h
     simp only [cond_true] at h
     have hn:n=0:=of_decide_eq_true hb
     subst hn
     split at h
     ·rename_i k off
      cases h
      refine ⟨exec_call_builtin ho ?_,trivial⟩
      simp only [List.map_toArray,List.map_cons,List.map_nil,q1,q2]
      refine exec_v ?_
      exact Go.Lib.run_unsafeString_none (P:=X.P) w t1 t2 o.type (some ⟨E.β k,off,none⟩)
     ·cases h
      refine ⟨exec_call_builtin ho ?_,trivial⟩
      simp only [List.map_toArray,List.map_cons,List.map_nil,q1,q2]
      refine exec_v ?_
      exact Go.Lib.run_unsafeString_none (P:=X.P) w t1 t2 o.type none
     ·cases h
   ·cases h
  ·cases h
 ·cases h
theorem xval2_ok (htt:TTOk X.P tt) (hs:Sat X s E F w a) {v:SV} (h:xval2 X.P tt s o.op=some v):(execOp a.eval o).run X.P w=.ok (.value (denV E v)) w∧v.kb s.nx:=by
 unfold xval2 at h
 split at h
 ·rename_i v' hv;cases h;exact xval_ok htt hs hv
 ·split at h
  ·rename_i ho;exact xvIdxG_ok htt hs ho h
  ·rename_i ho;exact xvPtr_ok hs ho h
  ·rename_i ho;exact xvUns_ok hs ho h
  ·rename_i c ho
   obtain ⟨callee,args,ts⟩:=c
   simp only [] at h
   split at h
   ·exact xvBuil_ok htt hs ho h
   ·cases h
  ·cases h
end
end Go.Kx
end
section
namespace Go.Kx
def setdN (n:Nat) (o:Oper) (s:St) (v:SV):Option St:=match o.dst with
 | some d=>bif Nat.blt d n then some ⟨(d,v)::s.L,s.M,s.V,s.nx⟩ else none
 | none=>some s
def minN (m n:Nat):Nat:=bif Nat.ble m n then m else n
theorem minN_eq (m n:Nat):minN m n=Nat.min m n:=by
 unfold minN
 cases h:Nat.ble m n with
 | true=>have:=Nat.le_of_ble_eq_true h;simp only [cond_true];exact (Nat.min_eq_left this).symm
 | false =>
  have:¬ m≤n:=fun hc=>by rw [Nat.ble_eq_true_of_le hc] at h;cases h
  simp only [cond_false];exact (Nat.min_eq_right (by omega)).symm
def xeCopy (tt:List (Nat × TD)) (nt:Nat) (o:Oper) (s:St) (x y:Operand) (t:TypeId):Option St:=match look tt t with
 | some td=>match evalO s.L y with
  | some (.c src)=>match srcC s td.es src with
   | some (m,ns)=>bif Nat.beq td.kd 6 then (match evalO s.L x with
    | some (.c .nil)=>setdN nt o s (.c (.i .i64 (0:Nat)))
    | some (.c (.sp k i len es))=>match look s.M k with
     | some (.arr cs es' ty)=>bif Nat.beq es td.es && Nat.beq es' td.es && Nat.ble ((i+len) * es) cs.length then
       setdN nt o ⟨s.L,(k,.arr (cs.take (i * es)++ns.take (minN m len * es)++cs.drop (i * es+(ns.take (minN m len * es)).length)) es' ty)::s.M,s.V,s.nx⟩ (.c (.i .i64 (minN m len:Nat))) else none
     | _=>none
    | _=>none) else none
   | none=>none
  | _=>none
 | none=>none
def u8Of:SC→Option UInt8
 | .i .u8 z=>bif decide (((UInt8.ofNat z.toNat).toNat:Int)=z) then some (UInt8.ofNat z.toNat) else none
 | _=>none
def u8sOf:List SC→Option (List UInt8)
 | []=>some []
 | c::r=>match u8Of c with
  | some b=>match u8sOf r with
   | some l=>some (b::l)
   | none=>none
  | none=>none
theorem u8Of_ok {c:SC} {b:UInt8} (h:u8Of c=some b) (E:Env):den E c=.int .u8 b.toNat:=by
 unfold u8Of at h
 split at h
 ·rename_i z
  cases hb:decide (((UInt8.ofNat z.toNat).toNat:Int)=z) with
  | false=>rw [hb] at h;cases h
  | true =>
   rw [hb] at h;cases h
   have:=of_decide_eq_true hb
   rw [this];rfl
 ·cases h
theorem u8sOf_ok:∀ {cs:List SC} {l:List UInt8},u8sOf cs=some l→l.length=cs.length∧∀ (j:Nat) (b:UInt8),l[j]? = some b→∃ c,cs[j]? = some c∧u8Of c=some b
 | [],l,h=>by cases h;exact ⟨rfl,fun j b hj=>by simp at hj⟩
 | c::r,l,h=>by
  unfold u8sOf at h
  cases hc:u8Of c with
  | none=>rw [hc] at h;cases h
  | some b =>
   rw [hc] at h
   simp only [] at h
   cases hr:u8sOf r with
   | none=>rw [hr] at h;cases h
   | some l' =>
    rw [hr] at h
    cases h
    obtain ⟨h1,h2⟩:=u8sOf_ok hr
    refine ⟨by simp [h1],fun j b' hj=>?_⟩
    cases j with
    | zero=>simp at hj;subst hj;exact ⟨c,rfl,hc⟩
    | succ j=>exact h2 j b' (by simpa using hj)
def xeUS (P:Program) (nt:Nat) (o:Oper) (s:St) (x y:Operand) (pt:TypeId):Option St:=match ptrOf P pt with
 | some e=>match evalO s.L x with
  | some (.c (.bp k 0))=>match evalO s.L y with
   | some (.c (.i .i64 n))=>match look s.M k with
    | some (.arr cs _ ty)=>bif decide (0 < n) && Nat.ble n.toNat cs.length && Nat.beq ty e && Nat.beq (P.cellsOf e) 1 && decide (n≤9223372036854775807) then (match u8sOf (cs.take n.toNat) with
     | some l=>setd nt o ⟨s.L,(k,.gone)::s.M,s.V,s.nx⟩ (.c (.s ⟨l.toArray⟩))
     | none=>none) else none
    | _=>none
   | _=>none
  | _=>none
 | none=>none
def arrTy (P:Program) (t:TypeId):TypeId:=match ptrOf P t with
 | some e=>e
 | none=>t
def xeArr (P:Program) (tt:List (Nat × TD)) (nt:Nat) (o:Oper) (s:St) (t:TypeId) (x:Operand):Option St:=match look tt (arrTy P t) with
 | some d=>match evalO s.L x with
  | some (.c (.bp k 0))=>match look s.M k with
   | some (.box cs ty)=>bif Nat.beq d.kd 5 && Nat.beq cs.length (d.n * d.es) && Nat.blt 0 d.es && Nat.blt 0 d.n then (match o.dst with
    | some dd=>bif Nat.blt dd nt then some ⟨(dd,.c (.sp s.nx 0 d.n d.es))::s.L,(s.nx,.arr cs d.es ty)::(k,.gone)::s.M,s.V,s.nx+1⟩ else none
    | none=>none) else none
   | _=>none
  | _=>none
 | none=>none
section
variable {X:Ctx} {s s':St} {E:Env} {F:FSet} {w:World} {a:Act} {tt:List (Nat × TD)} {o:Oper}
theorem setdN_wp {v:SV} {w':World} (hs':Sat X s E F w' a) (h:setdN X.fn.ntmps o s v=some s') (hv:v.kb s.nx) (hrun:(execOp a.eval o).run X.P w=.ok (.value (denV E v)) w') :
  o.wp X.P a w (fun a' w'=>∃ E' F',Sat X s' E' F' w' a') (fun _ _ _=>False):=by
 unfold setdN at h
 split at h
 ·rename_i d hd
  cases hb:Nat.blt d X.fn.ntmps with
  | false=>rw [hb] at h;cases h
  | true =>
   rw [hb] at h;cases h
   refine wp_value hrun ⟨E,F,?_⟩
   rw [hd]
   exact hs'.setL hv (blt_lt hb)
 ·rename_i hd
  cases h
  refine wp_value hrun ⟨E,F,?_⟩
  rw [hd]
  exact hs'
theorem xeCopy_ok (htt:TTOk X.P tt) {x y:Operand} {t t2:TypeId} (ho:o.op=.call { callee:=.builtin .copy,args:=#[x,y],argTypes:=#[t,t2] }) (h:xeCopy tt X.fn.ntmps o s x y t=some s'):Stp X o s s':=by
 intro E F w a hs
 unfold xeCopy at h
 split at h
 ·rename_i td ht
  split at h
  ·rename_i src hy
   split at h
   ·rename_i m ns hsc
    cases hb:Nat.beq td.kd 6 with
    | false=>rw [hb] at h;cases h
    | true =>
     rw [hb] at h
     simp only [cond_true] at h
     obtain ⟨e2,_⟩:=hs.eval hy
     obtain ⟨n1,n2,n3,n4⟩:=srcC_ok hs hsc
     obtain ⟨_,hu,hi,hsz,_⟩:=(htt.get ht).slc hb
     have hz:∀ w',(sizeOf td.el).run X.P w'=.ok td.es w':=fun w'=>by simp [sizeOf,typeInfo,hi,hsz]
     have lift:∀ {vx v:Value} {w':World},a.eval x=vx→(Builtin.copy_ #[t,t2] o.type #[vx,den E src]).run X.P w=.ok v w'→(execOp a.eval o).run X.P w=.ok (.value v) w':=fun hx hr=>by
      refine exec_call_builtin ho ?_
      simp only [List.map_toArray,List.map_cons,List.map_nil,hx,e2,denV]
      exact exec_v hr
     split at h
     ·rename_i hx
      obtain ⟨e1,_⟩:=hs.eval hx
      refine setdN_wp hs h trivial (lift e1 ?_)
      have h0:=n4 0 w (Nat.zero_le _) rfl
      simp only [Nat.zero_mul,List.take_zero,List.map_nil] at h0
      show (Builtin.copy_ #[t,t2] o.type #[.slice none 0 0,den E src]).run X.P w=_
      have hmin:Nat.min m 0=0:=Nat.min_eq_right (Nat.zero_le _)
      have n3:=n3 w
      generalize den E src=vs at h0 n3 ⊢
      simp [Builtin.copy_,run_underlying' hu,n3,hz,h0,denV,den,goInt,hmin]
     ·rename_i k i len es hx
      obtain ⟨e1,k1⟩:=hs.eval hx
      split at h
      ·rename_i cs es' ty hM
       cases hc:(Nat.beq es td.es && Nat.beq es' td.es && Nat.ble ((i+len) * es) cs.length) with
       | false=>rw [hc] at h;cases h
       | true =>
        rw [hc] at h
        simp only [cond_true] at h
        simp only [Bool.and_eq_true] at hc
        obtain ⟨⟨c1,c2⟩,c3⟩:=hc
        have c1:=Nat.eq_of_beq_eq_true c1
        have c2:=Nat.eq_of_beq_eq_true c2
        have c3:=Nat.le_of_ble_eq_true c3
        subst c1
        subst c2
        have hle:minN m len≤len:=by rw [minN_eq];exact Nat.min_le_right _ _
        have hle2:minN m len≤m:=by rw [minN_eq];exact Nat.min_le_left _ _
        have hlen:(ns.take (minN m len * td.es)).length=minN m len * td.es:=by
         rw [List.length_take,n1];exact Nat.min_eq_left (Nat.mul_le_mul_right _ hle2)
        have hfit:i * td.es+(ns.take (minN m len * td.es)).length≤cs.length:=by
         rw [hlen,← Nat.add_mul];exact Nat.le_trans (Nat.mul_le_mul_right _ (by omega)) c3
        obtain ⟨w',hst,hs'⟩:=hs.storeArr hM hfit (fun c hc=>n2 c (List.mem_of_mem_take hc))
        refine setdN_wp (w:=w) hs' h trivial (lift e1 ?_)
        have h0:=n4 (minN m len) w hle2 rfl
        show (Builtin.copy_ #[t,t2] o.type #[.slice (some ⟨E.β k,i * td.es,none⟩) len (capOf (E.ρ k)-i),den E src]).run X.P w=_
        rw [minN_eq] at h0 hst ⊢
        rw [List.map_take] at hst
        have n3:=n3 w
        generalize den E src=vs at h0 n3 ⊢
        simp [Builtin.copy_,run_underlying' hu,n3,hz,h0,hst,denV,den,goInt]
      ·cases h
     ·cases h
   ·cases h
  ·cases h
 ·cases h
theorem xeUS_ok {x y:Operand} {pt it:TypeId} (ho:o.op=.call { callee:=.builtin .unsafeString,args:=#[x,y],argTypes:=#[pt,it] }) (h:xeUS X.P X.fn.ntmps o s x y pt=some s'):Stp X o s s':=by
 intro E F w a hs
 unfold xeUS at h
 split at h
 ·rename_i e he
  have hp:=ptrOf_ok he
  split at h
  ·rename_i k hx
   obtain ⟨e1,k1⟩:=hs.eval hx
   split at h
   ·rename_i n hy
    obtain ⟨e2,_⟩:=hs.eval hy
    split at h
    ·rename_i cs es ty hM
     cases hb:(decide (0 < n) && Nat.ble n.toNat cs.length && Nat.beq ty e && Nat.beq (X.P.cellsOf e) 1 && decide (n≤9223372036854775807)) with
     | false=>rw [hb] at h;cases h
     | true =>
      rw [hb] at h
      simp only [cond_true] at h
      simp only [Bool.and_eq_true,decide_eq_true_eq] at hb
      obtain ⟨⟨⟨⟨b1,b2⟩,b3⟩,b4⟩,b5⟩:=hb
      have b2:=Nat.le_of_ble_eq_true b2
      have b3:=Nat.eq_of_beq_eq_true b3
      have b4:=Nat.eq_of_beq_eq_true b4
      subst b3
      split at h
      ·rename_i l hl
       obtain ⟨hl1,hl2⟩:=u8sOf_ok hl
       have hln:l.length=n.toNat:=by rw [hl1,List.length_take];omega
       have hnn:(n.toNat:Int)=n:=Int.toNat_of_nonneg (by omega)
       obtain ⟨arr,el,fz,hh,hth,hpre,hcl,hca,hes,hty⟩:=(hs.hM k _ hM:MO.ok E F w k (.arr cs es ty))
       subst hty
       have hlt:E.β k < w.heap.size:=(Array.getElem?_eq_some_iff.1 hh).1
       have hsh:w.shape? (E.β k)=some (el,arr.size):=by simp [World.shape?,hh]
       have hrun:=Go.Lib.run_unsafeString_row (P:=X.P) w pt it o.type el hp b4 (E.β k) arr.size hsh l (fun e=>by subst e;simp at hln;omega) (by omega) (by omega) (fun j b hj=>by
        obtain ⟨c,hc,hcb⟩:=hl2 j b hj
        rw [List.getElem?_take] at hc
        split at hc
        ·rw [addr_add,cell_at hh,Nat.zero_add,hpre j c hc,u8Of_ok hcb E]
        ·cases hc)
       have hs':Sat X ⟨s.L,(k,.gone)::s.M,s.V,s.nx⟩ E F (w.freeze ⟨E.β k,0,none⟩ l.length) a :=
        hs.setM (m':=.gone) hM (by unfold World.freeze;split<;>rfl) (by unfold World.freeze;split<;>rfl) (by unfold World.freeze;split<;>rfl) (by unfold World.freeze;split<;>simp)
         (fun b' hb' hne=>by
          unfold World.freeze
          split
          ·rfl
          ·simp only [Array.getElem?_modify]
           rw [if_neg (fun e=>hne e.symm)]) (fun _ h=>h.elim) trivial trivial (fun h=>by cases h)
       refine setd_wp (w:=w) hs' h trivial ?_
       refine exec_call_builtin ho ?_
       simp only [List.map_toArray,List.map_cons,List.map_nil,e1,e2,denV,den]
       refine exec_v ?_
       have hnl:((l.length:Nat):Int)=n:=by rw [hln,hnn]
       rw [hnl] at hrun
       exact hrun
      ·cases h
    ·cases h
   ·cases h
  ·cases h
 ·cases h
theorem xeArr_ok (htt:TTOk X.P tt) {t:TypeId} {x:Operand} (ho:o.op=.slice t x none none none) (h:xeArr X.P tt X.fn.ntmps o s t x=some s'):Stp X o s s':=by
 intro E F w a hs
 unfold xeArr at h
 split at h
 ·rename_i d hd
  split at h
  ·rename_i k hx
   obtain ⟨e1,_⟩:=hs.eval hx
   split at h
   ·rename_i cs ty hM
    cases hb:(Nat.beq d.kd 5 && Nat.beq cs.length (d.n * d.es) && Nat.blt 0 d.es && Nat.blt 0 d.n) with
    | false=>rw [hb] at h;cases h
    | true =>
     rw [hb] at h
     simp only [cond_true] at h
     simp only [Bool.and_eq_true] at hb
     obtain ⟨⟨⟨b1,b2⟩,b3⟩,b4⟩:=hb
     have b2:=Nat.eq_of_beq_eq_true b2
     have b3:=blt_lt b3
     have b4:=blt_lt b4
     obtain ⟨hu,hz⟩:=(htt.get hd).arr b1
     split at h
     ·rename_i dd hdd
      cases hlt:Nat.blt dd X.fn.ntmps with
      | false=>rw [hlt] at h;cases h
      | true =>
       rw [hlt] at h;cases h
       have hbk:w.heap[E.β k]? = some (.cells (cs.map (den E)).toArray ty (0,0)):=hs.hM k _ hM
       obtain ⟨E',q1,q2,s1⟩:=hs.movBlk (b:=E.β k) (κ:=d.n) (cs':=cs) (es:=d.es) (fz:=(0,0)) (w2:=w) hM (fun _=>Iff.rfl) (hs.wf.hM k _ hM).2 hbk (.inl rfl)
        (fun j c hj=>by simp [hj]) (by rw [b2];exact Nat.le_refl _) (by simp [b2]) b3 (thaw_zero _) rfl rfl rfl (Nat.le_refl _) (fun _ _ _=>rfl)
       have s2:=s1.setL (d:=dd) (v:=.c (.sp s.nx 0 d.n d.es)) (Nat.lt_succ_self _) (blt_lt hlt)
       simp only [denV,den,q1,q2,Nat.zero_mul,Nat.sub_zero] at s2
       refine wp_value (w':=w) (v:=.slice (some ⟨E.β k,0,none⟩) d.n d.n) ?_ ⟨E',F,by rw [hdd];exact s2⟩
       simp only [execOp,ho,e1,denV,den,Option.map_none]
       refine exec_v ?_
       have h0:¬ (d.n=0):=by omega
       unfold arrTy at hu
       split at hu
       ·rename_i e he
        simp [Instr.sliceAt,Instr.sureAddr,Instr.slice,run_underlying' (ptrOf_ok he),run_underlying' hu,Instr.sliceBounds,hz,asAddr,h0,Addr.add]
       ·simp [Instr.sliceAt,Instr.sureAddr,run_underlying' hu,Instr.sliceBounds,hz,asAddr,h0,Addr.add]
     ·cases h
   ·cases h
  ·cases h
 ·cases h
end
end Go.Kx
end
section
namespace Go.Kx
abbrev Cal:=FuncId→List SV→List (Nat × MO)→List (Nat × VF)→Nat→Option (SV × List (Nat × MO) × List (Nat × VF) × Nat)
abbrev ctOf (args:List SV) (M:List (Nat × MO)) (V:List (Nat × VF)) (nx:Nat) (v:SV) (M':List (Nat × MO)) (V':List (Nat × VF)) (nx':Nat):Ct:=⟨nx,args,V,M,nx',v,V',M'⟩
def CalOk (P:Program) (call:Cal):Prop:=∀ f args M V nx v M' V' nx',call f args M V nx=some (v,M',V',nx')→Callable P f∧∀ E F w,St.Wf ⟨numL 0 args,M,V,nx⟩→(ctOf args M V nx v M' V' nx').Pre E F w →
 Calls P f (args.map (denV E)).toArray w fun e w'=>∃ E' F',e=.returned (denV E' v)∧(ctOf args M V nx v M' V' nx').Post E F w E' F' w'∧St.Wf ⟨[(0,v)],M',V',nx'⟩∧nx≤nx'
structure Xt where
 val:FuncId→List SV→Option SV
 mz:FuncId
 el:TypeId
def MzOk (P:Program) (f:FuncId) (el:TypeId):Prop:=∀ (n:Nat) (w:World),n≤4096→∃ arr:Array Value,(∀ j:Nat,(arr[j]!).oneCell'=true)∧n≤arr.size ∧
 (callFunc f #[.int .i64 n]).run P w=.ok (.value (.slice (some ⟨w.heap.size,0,none⟩) n arr.size)) (w.drew.drew.alloc (.cells arr el))
def ExtOk (P:Program) (ext:Xt):Prop:=MzOk P ext.mz ext.el∧∀ f svs v,ext.val f svs=some v→∀ (E:Env) (w:World),(callFunc f (svs.map (denV E)).toArray).run P w=.ok (.value (denV E v)) w∧∀ n,(∀ u∈svs,u.kb n)→v.kb n
def calS (nt:Nat) (o:Oper) (s:St):SV × List (Nat × MO) × List (Nat × VF) × Nat→Option St
 | (v,M',V',nx')=>match o.dst with
  | some d=>bif Nat.blt d nt then some ⟨(d,v)::s.L,M',V',nx'⟩ else none
  | none=>some ⟨s.L,M',V',nx'⟩
def keysFrom (nx:Nat):Nat→Nat→List SC
 | 0,_=>[]
 | n+1,j=>.sl (nx+j)::keysFrom nx n (j+1)
def xeMnz (el:TypeId) (nt:Nat) (o:Oper) (s:St) (as:List SV):Option St:=match as with
 | [.c (.i .i64 n)]=>bif decide (0≤n) && Nat.ble n.toNat 4096 then newA nt o ⟨s.L,s.M,s.V,s.nx+n.toNat⟩ (keysFrom s.nx n.toNat 0) n.toNat 1 el else none
 | _=>none
def xeCall (call:Cal) (ext:Xt) (nt:Nat) (o:Oper) (s:St) (cal:Operand) (args:Array Operand):Option St:=match evalO s.L cal with
 | some (.c (.cl f fs ks))=>match evalL s.L args.toList with
  | some vs=>match ext.val f (boxA fs++vs++boxA ks) with
   | some v=>setd nt o s v
   | none=>bif Nat.beq f ext.mz then xeMnz ext.el nt o s (boxA fs++vs++boxA ks) else (match call f (boxA fs++vs++boxA ks) s.M s.V s.nx with
    | some r=>calS nt o s r
    | none=>none)
  | none=>none
 | _=>none
def evOp (P:Program) (tt:List (Nat × TD)) (call:Cal) (ext:Xt) (nt:Nat) (o:Oper) (s:St):Option St:=match sil1 tt nt o s with
 | some s'=>some s'
 | none=>match xval2 P tt s o.op with
  | some v=>setd nt o s v
  | none=>match o.op with
   | .store t ad v=>xeStore tt o s t ad v
   | .buildSlice t len parts=>xeBuild tt nt o s t len parts
   | .makeSlice t x y=>xeMake tt nt o s t x y
   | .convert t u x=>xeBytes tt nt o s t u x
   | .slice t x none none none=>xeArr P tt nt o s t x
   | .call c=>match c.callee with
    | .value cal=>xeCall call ext nt o s cal c.args
    | .builtin .append=>match c.args.toList with
     | [x,y]=>match c.argTypes.toList with
      | [t,t2]=>xeApp tt nt o s x y t t2
      | _=>none
     | _=>none
    | .builtin .copy=>match c.args.toList with
     | [x,y]=>match c.argTypes.toList with
      | [t,_]=>xeCopy tt nt o s x y t
      | _=>none
     | _=>none
    | .builtin .unsafeString=>match c.args.toList with
     | [x,y]=>match c.argTypes.toList with
      | [t,_]=>xeUS P nt o s x y t
      | _=>none
     | _=>none
    | _=>none
   | _=>none
section
variable {X:Ctx} {s s':St} {E:Env} {F:FSet} {w:World} {a:Act} {tt:List (Nat × TD)} {o:Oper} {call:Cal} {ext:Xt}
theorem numL_kb {n:Nat}:∀ {l:List SV} {j:Nat},(∀ v∈l,v.kb n)→∀ d v,look (numL j l) d=some v→v.kb n:=fun {l j} h d v hl=>by
 obtain ⟨i,_,hi⟩:=look_numL l j d v hl
 exact h v (List.mem_of_getElem? hi)
theorem after_call {args:List SV} {v:SV} {M':List (Nat × MO)} {V':List (Nat × VF)} {nx':Nat} {E':Env} {F':FSet} {w':World} (hs:Sat X s E F w a) (h:calS X.fn.ntmps o s (v,M',V',nx')=some s')
  (hp:(ctOf args s.M s.V s.nx v M' V' nx').Post E F w E' F' w') (hwf:St.Wf ⟨[(0,v)],M',V',nx'⟩) (hle:s.nx≤nx'):Sat X s' E' F' w' (a.put o.dst (denV E' v)):=by
 have hv:v.kb nx':=hwf.hL 0 v rfl
 have hE:E.Eqb s.nx E':=hp.env
 have base:Sat X ⟨s.L,M',V',nx'⟩ E' F' w' a:={
  wf:=⟨fun d u hd=>(hs.wf.hL d u hd).mono hle,hwf.hM,hwf.hV⟩
  nk:=Nat.le_trans hs.nk hle
  defers:=hs.defers
  size:=hs.size
  hL:=fun d u hd=>by rw [denV_eqb hE (hs.wf.hL d u hd)];exact hs.hL d u hd
  hV:=hp.V
  hM:=hp.M
  dis:=hp.dis
  mF:=fun k m hm b hb=>by
   obtain ⟨h1,h2,h3⟩:=hp.mF k m hm b hb
   refine ⟨h1,fun hz=>?_,h2⟩
   rcases h3 with ⟨k0,m0,hm0,hb0⟩ | h3
   ·exact (hs.mF k0 m0 hm0 b hb0).2.1 hz
   ·have:=hs.hZ b hz;have:=hs.ext.size;omega
  fresh:=fun k m hm hf b hb=>Nat.le_trans hs.hn0 (Nat.le_trans hs.ext.size (hp.fresh k m hm hf b hb))
  hF:=hp.Fs
  hF0:=fun b hb=>hp.F0 b (hs.hF0 b hb)
  hn0:=hs.hn0
  hF1:=fun b hb=>by
   rcases hp.F1 b hb with h | h
   ·exact hs.hF1 b h
   ·have h1:=hs.ext.size;have h2:=hs.hn0;exact .inr ⟨by omega,fun hz=>by have:=hs.hZ b hz;omega⟩
  hZ:=hs.hZ
  ext:=hs.ext.trans (hp.ext.mono fun b hz=>⟨Nat.lt_of_lt_of_le (hs.hZ b hz) hs.ext.size,fun ⟨k0,m0,hm0,hb0⟩=>(hs.mF k0 m0 hm0 b hb0).2.1 hz⟩)
  link:=hs.link.trans (hE.mono hs.nk)
  one:=hp.one }
 unfold calS at h
 simp only [] at h
 split at h
 ·rename_i d hd
  cases hb:Nat.blt d X.fn.ntmps with
  | false=>rw [hb] at h;cases h
  | true =>
   rw [hb] at h;cases h
   rw [hd]
   exact base.setL hv (blt_lt hb)
 ·rename_i hd
  cases h
  rw [hd]
  exact base
theorem boxA_kb {n:Nat} {ks:List Nat} (h:∀ k∈ks,k < n):∀ v∈boxA ks,v.kb n:=fun v hv=>by
 obtain ⟨k,hk,rfl⟩:=List.mem_map.1 hv
 exact h k hk
theorem keysFrom_len (nx:Nat):∀ (n j:Nat),(keysFrom nx n j).length=n
 | 0,_=>rfl
 | n+1,j=>by simp [keysFrom,keysFrom_len nx n]
theorem keysFrom_get (nx:Nat):∀ (n j i:Nat) (x:SC),(keysFrom nx n j)[i]? = some x→i < n∧x=.sl (nx+(j+i))
 | 0,_,_,_,h=>by simp [keysFrom] at h
 | n+1,j,0,x,h=>by simp [keysFrom] at h;exact ⟨Nat.succ_pos _,h.symm⟩
 | n+1,j,i+1,x,h=>by
  have h:(keysFrom nx n (j+1))[i]? = some x:=by simpa [keysFrom] using h
  obtain ⟨h1,h2⟩:=keysFrom_get nx n (j+1) i x h
  exact ⟨by omega,by rw [h2];congr 2;omega⟩
theorem xeMnz_ok {f:FuncId} {el:TypeId} {as:List SV} (hz:MzOk X.P f el) (hs:Sat X s E F w a) (hrun:(execOp a.eval o).run X.P w=(callFunc f (as.map (denV E)).toArray).run X.P w) (h:xeMnz el X.fn.ntmps o s as=some s') :
  o.wp X.P a w (fun a' w'=>∃ E' F',Sat X s' E' F' w' a') (fun _ _ _=>False):=by
 unfold xeMnz at h
 split at h
 ·rename_i n
  cases hb:(decide (0≤n) && Nat.ble n.toNat 4096) with
  | false=>rw [hb] at h;cases h
  | true =>
   rw [hb] at h
   simp only [cond_true] at h
   rw [Bool.and_eq_true,decide_eq_true_eq] at hb
   have hnn:(n.toNat:Int)=n:=Int.toNat_of_nonneg hb.1
   generalize n.toNat=m at h hb hnn
   subst hnn
   obtain ⟨arr,h1,h2,h3⟩:=hz m w (Nat.le_of_ble_eq_true hb.2)
   have hE:E.Eqb s.nx ⟨fun j=>if s.nx≤j∧j < s.nx+m then arr[j-s.nx]! else E.ρ j,E.β⟩:=fun k hk=>by
    have:¬ (s.nx≤k∧k < s.nx+m):=by omega
    simp only [if_neg this,and_self]
   have s1:=hs.env hE (fun j=>by
    simp only []
    split
    ·exact h1 _
    ·exact hs.one j)
   have s2:=s1.nxt (Nat.le_add_right s.nx m)
   have hr:(execOp a.eval o).run X.P w=.ok (.value (.slice (some ⟨w.heap.size,0,none⟩) m arr.size)) (w.drew.drew.alloc (.cells arr el)):=by rw [hrun];exact h3
   refine newA_ok s2 h (fun x hx=>?_) hr (arr:=arr) (fz:=(0,0)) (fun j x hj=>?_) (by rw [keysFrom_len];omega) (by omega) Nat.one_pos (thaw_zero _) rfl rfl rfl rfl
   ·obtain ⟨i,hi⟩:=List.getElem?_of_mem hx
    obtain ⟨q1,q2⟩:=keysFrom_get _ _ _ _ _ hi
    rw [q2]
    show s.nx+(0+i) < s.nx+m
    omega
   ·obtain ⟨q1,q2⟩:=keysFrom_get _ _ _ _ _ hj
    subst q2
    have hlt:j < arr.size:=by omega
    show _=some (if s.nx≤s.nx+(0+j)∧s.nx+(0+j) < s.nx+m then arr[s.nx+(0+j)-s.nx]! else _)
    have e:s.nx+(0+j)-s.nx=j:=by omega
    rw [if_pos (by omega),e]
    simp [hlt]
 ·cases h
theorem xeCall_ok (hc:CalOk X.P call) (hx:ExtOk X.P ext) {cal:Operand} {args:Array Operand} {ts:Array TypeId} (ho:o.op=.call { callee:=.value cal,args:=args,argTypes:=ts })
  (h:xeCall call ext X.fn.ntmps o s cal args=some s'):Stp X o s s':=by
 intro E F w a hs
 unfold xeCall at h
 split at h
 ·rename_i f fs ks hcal
  split at h
  ·rename_i vs hvs
   obtain ⟨hev,hkb⟩:=evalL_ok hs hvs
   obtain ⟨hcv,hck⟩:=hs.eval hcal
   have hbox:∀ ks:List Nat,(boxA ks).map (denV E)=(denB E ks).toList:=fun ks=>by simp [boxA,denB,denV,den,Function.comp_def]
   have hargv:denB E fs++args.map a.eval++denB E ks=((boxA fs++vs++boxA ks).map (denV E)).toArray:=by
    apply Array.ext'
    rw [Array.toList_append,Array.toList_append,Array.toList_map,hev,← hbox,← hbox,← List.map_append,← List.map_append]
   have hall:∀ v∈boxA fs++vs++boxA ks,v.kb s.nx:=fun v hv=>by
    rcases List.mem_append.1 hv with hv | hv
    ·rcases List.mem_append.1 hv with hv | hv
     ·exact boxA_kb hck.1 v hv
     ·exact hkb v hv
    ·exact boxA_kb hck.2 v hv
   generalize boxA fs++vs++boxA ks=as at *
   split at h
   ·rename_i v hv
    obtain ⟨h1,h2⟩:=hx.2 f as v hv E w
    refine setd_wp hs h (h2 _ hall) ?_
    unfold execOp
    simp only [ho,resolve,hcv,denV,den,Deferred.ofValue,invoke,Sem.run_bind,Sem.run_pure,Result.andThen_ok]
    rw [hargv]
    exact h1
   ·cases hmz:Nat.beq f ext.mz with
    | true =>
     rw [hmz] at h
     simp only [cond_true] at h
     have hf:=Nat.eq_of_beq_eq_true hmz
     refine xeMnz_ok (f:=f) (by rw [hf];exact hx.1) hs ?_ h
     unfold execOp
     simp only [ho,resolve,hcv,denV,den,Deferred.ofValue,invoke,Sem.run_bind,Sem.run_pure,Result.andThen_ok]
     rw [hargv]
    | false =>
     rw [hmz] at h
     simp only [cond_false] at h
     split at h
     ·rename_i r hr
      obtain ⟨v,M',V',nx'⟩:=r
      obtain ⟨hcb,hcs⟩:=hc _ _ _ _ _ _ _ _ _ hr
      have hrun:(execOp a.eval o).run X.P w=.ok (.enter f (as.map (denV E)).toArray) w:=by
       unfold execOp
       simp only [ho,resolve,hcv,denV,den,Deferred.ofValue,invoke,Sem.run_bind,Sem.run_pure,Result.andThen_ok]
       rw [hargv]
       exact callFunc_run hcb _ w
      unfold Oper.wp
      rw [hrun]
      show Calls _ _ _ _ _
      refine (hcs E F w ⟨numL_kb hall,hs.wf.hM,hs.wf.hV⟩ ⟨hs.one,hs.hF,hs.hV,hs.hM,hs.dis,fun k m hm b hb=>⟨(hs.mF k m hm b hb).1,(hs.mF k m hm b hb).2.2⟩⟩).mono ?_
      rintro e w' ⟨E',F',rfl,hp,hwf,hle⟩
      exact ⟨E',F',after_call hs h hp hwf hle⟩
     ·cases h
  ·cases h
 ·cases h
theorem evOp_ok (htt:TTOk X.P tt) (hc:CalOk X.P call) (hx:ExtOk X.P ext) (h:evOp X.P tt call ext X.fn.ntmps o s=some s'):Stp X o s s':=by
 unfold evOp at h
 split at h
 ·rename_i s1 h1
  cases h
  exact sil1_ok htt h1
 ·split at h
  ·rename_i v hv
   exact Stp.val (fun E F w a hs=>xval2_ok htt hs hv) h
  ·split at h
   ·rename_i ho;exact xeStore_ok htt ho h
   ·rename_i ho;exact xeBuild_ok htt ho h
   ·rename_i ho;exact xeMake_ok htt ho h
   ·rename_i ho;exact xeBytes_ok htt ho h
   ·rename_i ho;exact xeArr_ok htt ho h
   ·rename_i c ho
    obtain ⟨callee,args,ts⟩:=c
    simp only [] at h
    split at h
    ·exact xeCall_ok hc hx ho h
    ·split at h
     ·rename_i x y hargs
      split at h
      ·rename_i t t2 hts
       have e1:args=#[x,y]:=by apply Array.ext';rw [hargs]
       have e2:ts=#[t,t2]:=by apply Array.ext';rw [hts]
       subst e1 e2
       exact xeApp_ok htt ho h
      ·cases h
     ·cases h
    ·split at h
     ·rename_i x y hargs
      split at h
      ·rename_i t t2 hts
       have e1:args=#[x,y]:=by apply Array.ext';rw [hargs]
       have e2:ts=#[t,t2]:=by apply Array.ext';rw [hts]
       subst e1 e2
       exact xeCopy_ok htt ho h
      ·cases h
     ·cases h
    ·split at h
     ·rename_i x y hargs
      split at h
      ·rename_i t t2 hts
       have e1:args=#[x,y]:=by apply Array.ext';rw [hargs]
       have e2:ts=#[t,t2]:=by apply Array.ext';rw [hts]
       subst e1 e2
       exact xeUS_ok ho h
      ·cases h
     ·cases h
    ·cases h
   ·cases h
end
end Go.Kx
end
