/- Aids for the walks, part 3: a symbolic state of the machine, and that each step of the machine keeps it. -/
import Derived.KernelRfl
import Derived.Sort.AssemblyPlain
import Derived.Shelf.SlSortCmp.Insertion
import Derived.Shelf.SlSortCmp.NoneTotal
import Derived.Lib.LaidTab
import Derived.Lib.Builder
import Derived.Lib.UnsafeStr
import Derived.Test.YtaahbojckmgghaaGreatDoorMonitorActorsCore2
set_option linter.all false
namespace Go.Kx
section
variable [LxP]
open Go
def W4 (b:Nat) (s:ByteArray) (p:Nat):ZdW where
 fp:=fun x=>x=b
 ok:=fun _ w=>w.heap[b]? = some (.stringIter s p)
 mono:=fun _ hb h=>by rw [hb b rfl];exact h
section
variable {X:Ctx} {s:St} {ops:Array Oper} {todo:Act→World→Prop} {tt:List (Nat × TD)}
theorem WPr.rng (htt:TTOk X.P tt) {i:Nat} {rest:List Nat} {o:Oper} {t:TypeId} {td:TD} {x:Operand} {d:Nat} {m:ByteArray}
  (ho:ops[i]? = some o) (hg:Z3 ops s.L o=some true) (hop:o.op=.range t x) (hd:o.dst=some d) (ht:Zl tt t=some td) (hkd:Nat.beq td.kd 2=true)
  (hx:ZF s.L x=some (.c (.s m))) (hn:Nat.blt d X.fn.ntmps=true)
  (kk:∀ b,WPr X ops rest todo ⟨(d,.c (.v (.pointer (some ⟨b,0,none⟩))))::s.L,(s.nx,.abs (W4 b m 0))::s.M,s.V,s.nx+1⟩):WPr X ops (i::rest) todo s:=by
 intro E F w a hs
 simp only [wpOps,ho,RE hs hg,if_true]
 obtain ⟨e1,_⟩:=hs.eval hx
 have hu:X.P.underlying t=some .string:=by
  have h2:=(htt.get ht).2.1
  have hkd:=Zd hkd
  unfold Uf at h2
  split at h2<;>simp_all
 have hsz:w.heap.size≤(w.alloc (.stringIter m 0)).heap.size:=by simp
 have h1:=hs.world (w':=w.alloc (.stringIter m 0)) rfl rfl .m hsz (fun b hb=>heap_alloc_old w _ hb)
 have h2:=h1.addM' (m:=.abs (W4 w.heap.size m 0)) (heap_alloc_new w _) trivial (fun b hb=>by
  have e:b=w.heap.size:=hb
  subst e
  refine ⟨fun hF=>absurd (hs.hF _ hF) (Nat.lt_irrefl _),fun hZ=>?_,by simp,fun k m' hm hf=>absurd (hs.mF k m' hm _ hf).2.2 (Nat.lt_irrefl _)⟩
  have:=hs.hZ _ hZ
  have:=hs.ext.size
  omega) (fun h=>by cases h)
 refine .inl (XY (w':=w.alloc (.stringIter m 0)) (v:=.pointer (some ⟨w.heap.size,0,none⟩)) ?_ (kk w.heap.size E F _ _ ?_))
 ·simp only [execOp,hop,e1,ZD,Zu]
  refine YE ?_
  simp only [Instr.range,Sem.run_bind,Yz hu,Result.andThen_ok,Sem.run_pure,run_newObj]
  rfl
 ·rw [hd]
  exact h2.setL (d:=d) (v:=.c (.v (.pointer (some ⟨w.heap.size,0,none⟩)))) (by first | trivial | rfl) (Yp hn)
theorem WPr.nxtF {i:Nat} {rest:List Nat} {o:Oper} {x:Operand} {d b p:Nat} (k:Nat) {m:ByteArray}
  (hlt:decide (p < m.size)=false) (ho:ops[i]? = some o) (hg:Z3 ops s.L o=some true) (hop:o.op=.next x true) (hd:o.dst=some d)
  (hx:ZF s.L x=some (.c (.v (.pointer (some ⟨b,0,none⟩))))) (hm:Zl s.M k=some (.abs (W4 b m p))) (hn:Nat.blt d X.fn.ntmps=true)
  (kk:WPr X ops rest todo ⟨(d,.t [.inl (.b false)])::s.L,s.M,s.V,s.nx⟩):WPr X ops (i::rest) todo s:=by
 refine WPr.op ho hg (fun E F w a hs=>?_) kk
 obtain ⟨e1,_⟩:=hs.eval hx
 have hb:w.heap[b]? = some (.stringIter m p):=hs.hM k _ hm
 have hlt:¬ p < m.size:=of_decide_eq_false hlt
 refine XY (w':=w) (v:=.tuple #[.bool false]) ?_ ⟨E,F,?_⟩
 ·simp only [execOp,hop,e1,ZD,Zu]
  refine YE ?_
  simp [Instr.next,getObj,Sem.run,hb,hlt]
 ·rw [hd]
  exact hs.setL (d:=d) (v:=.t [.inl (.b false)]) (fun v hv=>by simp at hv;subst hv;trivial) (Yp hn)
theorem WPr.nxtT {i:Nat} {rest:List Nat} {o:Oper} {x:Operand} {d b p:Nat} (k:Nat) {m:ByteArray}
  (hlt:decide (p < m.size)=true) (ho:ops[i]? = some o) (hg:Z3 ops s.L o=some true) (hop:o.op=.next x true) (hd:o.dst=some d)
  (hx:ZF s.L x=some (.c (.v (.pointer (some ⟨b,0,none⟩))))) (hm:Zl s.M k=some (.abs (W4 b m p))) (hn:Nat.blt d X.fn.ntmps=true)
  (kk:WPr X ops rest todo ⟨(d,.t [.inl (.b true),.inl (.i .i64 (p:Int)),.inl (.i .i32 ((Utf8.decode m p).1:Int))])::s.L,(k,.abs (W4 b m (p+(Utf8.decode m p).2)))::s.M,s.V,s.nx⟩):WPr X ops (i::rest) todo s:=by
 refine WPr.op ho hg (fun E F w a hs=>?_) kk
 obtain ⟨e1,_⟩:=hs.eval hx
 have hb:w.heap[b]? = some (.stringIter m p):=hs.hM k _ hm
 have hlt:p < m.size:=of_decide_eq_true hlt
 have hbs:b < w.heap.size:=by
  rcases Nat.lt_or_ge b w.heap.size with h | h
  ·exact h
  ·rw [Array.getElem?_eq_none h] at hb;cases hb
 have h1:=hs.setM (m':=.abs (W4 b m (p+(Utf8.decode m p).2))) (w':={ w with heap:=w.heap.setIfInBounds b (.stringIter m (p+(Utf8.decode m p).2)) }) hm rfl rfl .m (by simp)
  (fun c hc hne=>by
   have:c≠b:=fun e=>hne e
   simp only [Array.getElem?_setIfInBounds]
   rw [if_neg (fun e=>this e.symm)])
  (fun _ h=>h) (by
   show (w.heap.setIfInBounds b _)[b]? = _
   simp [hbs]) trivial (fun h=>by cases h)
 refine XY (w':={ w with heap:=w.heap.setIfInBounds b (.stringIter m (p+(Utf8.decode m p).2)) }) (v:=.tuple #[.bool true,goInt (p:Int),.int .i32 ((Utf8.decode m p).1:Int)]) ?_ ⟨E,F,?_⟩
 ·simp only [execOp,hop,e1,ZD,Zu]
  refine YE ?_
  simp [Instr.next,getObj,setObj,Sem.run,hb,hlt]
 ·rw [hd]
  exact h1.setL (d:=d) (v:=.t [.inl (.b true),.inl (.i .i64 (p:Int)),.inl (.i .i32 ((Utf8.decode m p).1:Int))]) (fun v hv=>by
   simp at hv
   rcases hv with rfl | rfl | rfl<;>trivial) (Yp hn)
end
end
section
variable [LxP]
section
variable {X:Ctx} {s:St} {tt:List (Nat × TD)} {ops:Array Oper} {todo:Act→World→Prop}
theorem WPr.stp {α:Type} {R:TRep α} (O:Z2 R) (htt:TTOk X.P tt) {i:Nat} {rest:List Nat} {o:Oper} {t:TypeId} {td:TD} {x y:Operand} {k q off:Nat} {n:Int} {xs:List α} {e:α} {fr:Bool} {v:SV} {ps:List SC} (e':α)
  (hi:Zm xs n=some e) (ho:ops[i]? = some o) (hg:Z3 ops s.L o=some true) (hop:o.op=.store t x y) (hd:o.dst=none)
  (hx:ZF s.L x=some (.c (.px q off))) (hV:Zl s.V q=some (.el k (n.toNat * R.sz))) (hM:Zl s.M k=some (.own R xs fr)) (ht:Zl tt t=some td)
  (hy:ZF s.L y=some v) (hp:W0 v=some ps)
  (hk:O.chk (Zl (O.facts s.nx e++s.V)) e' ((O.cells s.nx e).take off++ps++(O.cells s.nx e).drop (off+ps.length)))
  (hc:(Nat.beq ps.length td.sz && Nat.ble (off+ps.length) R.sz)=true)
  (k:WPr X ops rest todo ⟨s.L,(k,.own R (ZW xs n e') fr)::s.M,O.facts s.nx e++s.V,s.nx+O.nk⟩):WPr X ops (i::rest) todo s:=by
 refine WPr.op ho hg (fun E F w a hs=>?_) k
 rename_i k0
 simp only [Zc] at hc
 obtain ⟨c1,c2⟩:=hc
 have c1:=Zd c1
 have c2:=Zf c2
 obtain ⟨_,_,hxs⟩:=QY hi
 have hsl:=hs.hM k0 _ hM
 simp only [MO.ok] at hsl
 rcases hsl with ⟨rfl,_⟩ | ⟨b,o',ZC,arr,ty,fz,hv,hcap,hsza,hth,hh,hr⟩
 ·simp at hxs
 obtain ⟨vs,hrep,hvs⟩:=hr n.toNat e hxs
 obtain ⟨E2,a1,_,a2,a3,a4,a5,a6⟩:=O.ok hrep s.nx E hs.one
 obtain ⟨hq,_⟩:=hs.hV q _ hV
 have hqn:=(hs.wf.hV q _ hV).1
 have hk0:=(hs.wf.hM k0 _ hM).1
 rw [← (a1 q hqn).1,← (a1 k0 hk0).1] at hq
 rw [← (a1 k0 hk0).1] at hv
 have hs2:=(hs.env a1 a3).addF (fs:=O.facts s.nx e) (n:=O.nk) (fun p hp=>a5 p hp)
 replace hs:=hs2
 obtain ⟨e1,_⟩:=hs.eval hx
 obtain ⟨e2,ek⟩:=hs.eval hy
 obtain ⟨ec,ekk⟩:=DL (s:=⟨s.L,s.M,O.facts s.nx e++s.V,s.nx+O.nk⟩) hs.one hp ek
 have hvl:=R.len hrep
 have hcl:(O.cells s.nx e).length=R.sz:=by rw [← hvl,a4,List.length_map]
 have hin:n.toNat < xs.length:=(List.getElem?_eq_some_iff.1 hxs).1
 have hroom:o'+n.toNat * R.sz+R.sz≤arr.size:=by
  have:(n.toNat+1) * R.sz≤ZC * R.sz:=Nat.mul_le_mul_right _ (by omega)
  rw [Nat.add_mul] at this
  omega
 have hpl:(ps.map (Zu E2)).length=ps.length:=List.length_map ..
 have hst:=PZ (P:=X.P) b (o'+n.toNat * R.sz+off) ty fz (ps.map (Zu E2)) 0 arr w hh hth (by rw [hpl];omega)
  (by intro u hu;obtain ⟨c,hc',rfl⟩:=List.mem_map.1 hu;exact PJ hs.one (ekk c hc'))
 let arr':=(arr.toList.take (o'+n.toNat * R.sz+off+0)++ps.map (Zu E2)++arr.toList.drop (o'+n.toNat * R.sz+off+0+(ps.map (Zu E2)).length)).toArray
 have hrun:(execOp a.eval o).run X.P w=.ok .skip (w.setRow b arr'):=by
  have hsv:(Instr.storeAt t (a.eval x) (a.eval y)).run X.P w=.ok () (w.setRow b arr'):=by
   rw [e1,e2]
   have hsz:(ZD E2 v).cells.size=td.sz:=by rw [ec];simp [c1]
   have hp:ZD E2 (.c (.px q off))=.pointer (some ⟨b,o'+n.toNat * R.sz+off,none⟩):=by
    show Vg (E2.ρ q) off=_
    rw [hq,hv];rfl
   rw [hp]
   simp only [Instr.storeAt,Instr.sureAddr,Sem.run_bind,Sem.run_pure,Result.andThen_ok,storeVar,Gv w (htt.get ht),hsz,ne_eq,not_true_eq_false,if_false]
   have:(ZD E2 v).cells.toList=ps.map (Zu E2):=by rw [ec]
   rw [this]
   exact hst
  simp only [execOp,hop,Sem.run_bind,hsv,Result.andThen_ok,Sem.run_pure]
 refine ZbC hrun ?_
 have hmf:=hs.mF k0 _ hM
 have hbF:¬ F b:=(hmf b (by show Ya (E2.ρ k0)=some b;rw [hv];rfl)).1
 have hg:Wa F w F (w.setRow b arr'):=⟨fun _ h=>h,fun b' hb'=>setRow_other w b b' _ (fun h=>hbF (h ▸ hb'))⟩
 have hasz:arr'.size=arr.size:=by
  have hal:arr.toList.length=arr.size:=Array.length_toList
  simp only [arr',List.size_toArray,List.length_append,List.length_take,List.length_drop,hal,hpl];omega
 -- what the cells are now
 have hget:∀ j,arr'[j]? = if o'+n.toNat * R.sz+off≤j∧j < o'+n.toNat * R.sz+off+ps.length then (ps.map (Zu E2))[j-(o'+n.toNat * R.sz+off)]? else arr[j]? := by
  intro j
  have hal:arr.toList.length=arr.size:=Array.length_toList
  have htk:(arr.toList.take (o'+n.toNat * R.sz+off)).length=o'+n.toNat * R.sz+off:=by rw [List.length_take,hal];omega
  show ((arr.toList.take (o'+n.toNat * R.sz+off+0)++ps.map (Zu E2)++arr.toList.drop (o'+n.toNat * R.sz+off+0+(ps.map (Zu E2)).length)).toArray)[j]? = _
  simp only [Nat.add_zero,List.getElem?_toArray,List.append_assoc,hpl]
  by_cases c:j < o'+n.toNat * R.sz+off
  ·rw [List.getElem?_append_left (by rw [htk];exact c),List.getElem?_take,if_pos c,if_neg (by omega)];simp
  ·rw [List.getElem?_append_right (by rw [htk];omega),htk]
   by_cases c':j < o'+n.toNat * R.sz+off+ps.length
   ·rw [List.getElem?_append_left (by rw [hpl];omega),if_pos ⟨by omega,c'⟩]
   ·rw [List.getElem?_append_right (by rw [hpl];omega),hpl,List.getElem?_drop,if_neg (by omega)]
    rw [show o'+n.toNat * R.sz+off+ps.length+(j-(o'+n.toNat * R.sz+off)-ps.length)=j by omega]
    simp
 have hnewrep:R.rep F (w.setRow b arr') e' (((O.cells s.nx e).take off++ps++(O.cells s.nx e).drop (off+ps.length)).map (Zu E2)) :=
  R.mono hg (O.cok hk E2 F w (fun k f h=>hs.hV k f h))
 have hrow:Row R F (w.setRow b arr') (ZW xs n e') arr' o':=by
  intro i' x' hx'
  unfold ZW at hx'
  rw [List.getElem?_set] at hx'
  split at hx'
  ·rename_i hii
   try rw [if_pos hin] at hx'
   cases hx'
   refine ⟨_,hnewrep,fun j u hj=>?_⟩
   rw [hget,← hii]
   rw [List.getElem?_map] at hj
   have hcl2:((O.cells s.nx e).take off).length=off:=by rw [List.length_take,hcl];omega
   by_cases c:off≤j∧j < off+ps.length
   ·rw [if_pos ⟨by omega,by omega⟩,show o'+n.toNat * R.sz+j-(o'+n.toNat * R.sz+off)=j-off by omega,List.getElem?_map]
    rw [List.append_assoc,List.getElem?_append_right (by rw [hcl2];exact c.1),hcl2,List.getElem?_append_left (by omega)] at hj
    exact hj
   ·rw [if_neg (by omega)]
    have hkeep:∃ cc,(O.cells s.nx e)[j]? = some cc∧u=Zu E2 cc:=by
     rcases Nat.lt_or_ge j off with hlt | hge
     ·rw [List.append_assoc,List.getElem?_append_left (by rw [hcl2];exact hlt),List.getElem?_take,if_pos hlt] at hj
      rw [Option.map_eq_some_iff] at hj
      obtain ⟨cc,h1,h2⟩:=hj
      exact ⟨cc,h1,h2.symm⟩
     ·rw [List.append_assoc,List.getElem?_append_right (by rw [hcl2];exact hge),hcl2,List.getElem?_append_right (by omega),List.getElem?_drop,
       show off+ps.length+(j-off-ps.length)=j by omega,Option.map_eq_some_iff] at hj
      obtain ⟨cc,h1,h2⟩:=hj
      exact ⟨cc,h1,h2.symm⟩
    obtain ⟨cc,h1,h2⟩:=hkeep
    have:=hvs j (Zu E2 cc) (by rw [a4,List.getElem?_map,h1];rfl)
    rw [h2]
    exact this
  ·rename_i hne
   obtain ⟨us,hu,huv⟩:=hr i' x' hx'
   refine ⟨us,R.mono hg hu,fun j u hj=>?_⟩
   have hjl:j < R.sz:=by rw [← R.len hu];exact (List.getElem?_eq_some_iff.1 hj).1
   rw [hget,if_neg]
   ·exact huv j u hj
   ·rintro ⟨g1,g2⟩
    rcases Nat.lt_or_ge i' n.toNat with hlt | hge
    ·have:(i'+1) * R.sz≤n.toNat * R.sz:=Nat.mul_le_mul_right _ hlt
     rw [Nat.add_mul] at this;omega
    ·have:(n.toNat+1) * R.sz≤i' * R.sz:=Nat.mul_le_mul_right _ (by omega)
     rw [Nat.add_mul] at this;omega
 refine ⟨E2,F,?_⟩
 rw [hd]
 refine hs.setM (m':=.own R (ZW xs n e') fr) hM rfl rfl .m (by simp) (fun b' _ hne=>setRow_other w b b' _ (fun h=>hne (by subst h;show Ya (E2.ρ k0)=some b';rw [hv];rfl))) (fun _ h=>h) ?_ trivial (fun h=>h)
 refine .inr ⟨b,o',ZC,arr',ty,fz,?_,?_,by rw [hasz];exact hsza,by rw [hasz];exact hth,setRow_heap w b arr _ ty fz hh,hrow⟩
 ·rw [hv];simp [ZW]
 ·simpa [ZW] using hcap
end
end
section
variable [LxP]
def Cf.ops:Cf→Array Oper
 | .rg _ o _ _ _=>o
 | _=>#[]
def Cf.i:Cf→Nat
 | .rg _ _ i _ _=>i
 | _=>0
def Cf.md:Cf→Option (Nat × St × List Ent)
 | .rg m _ _ _ _=>m
 | _=>none
def Cf.kk:Cf→List Item
 | .rg _ _ _ k _=>k
 | .co (_::k) _=>k
 | _=>[]
def Cf.st:Cf→St
 | .rg _ _ _ _ s=>s
 | .co _ s=>s
 | .no=>⟨[],[],[],0⟩
def Cf.isR:Cf→Bool
 | .rg _ _ _ _ _=>true
 | _=>false
def Zn (c:Cf):Oper:=(c.ops[c.i]?).getD default
def Zq (c:Cf):St:=Tg c.md c.ops (Zn c) c.st
def YH (d:Dl) (c:Cf):Cf:=HR c.md c.ops c.i c.kk c.st (Zq c) d
def Tv (c:Cf):Bool:=c.isR && (c.ops[c.i]?).isSome && (match Z3 c.ops (Zq c).L (Zn c) with | some b=>b | none=>false)
def Yb (c:Cf):Nat:=(Zn c).dst.getD 0
def UQ (s:St):List Nat→List (Nat × MO) × List (Nat × VF)
 | []=>([],[])
 | k::r=>match Zl s.M k with
  | some (.own R xs _)=>match UQ s r with
   | q=>((k,.gone)::q.1,(k,.sl R xs)::q.2)
  | _=>([],[])
def ZI (s:St) (fz:List Nat):St:=⟨s.L,(UQ s fz).1++s.M,(UQ s fz).2++s.V,s.nx⟩
def Tc (s:St) (fz:List Nat):Bool:=Y2 fz && fz.all fun k=>match Zl s.M k with
 | some (.own _ _ fr)=>fr
 | _=>false
def Dl.fz (d:Dl) (s:St) (fz:List Nat):Dl:=⟨d.dL,d.dM++(UQ s fz).1,d.dV++(UQ s fz).2,d.n⟩
theorem Dl.fz_ap (d:Dl) (s:St) (fz:List Nat):(d.fz s fz).ap s=d.ap (ZI s fz):=by
 simp [Dl.fz,Dl.ap,ZI]
theorem ZjE {s:St} {k:Nat}:∀ {fz:List Nat},k ∉ fz→Zl (UQ s fz).1 k=none
 | [],_=>rfl
 | j::r,h=>by
  unfold UQ
  split
  ·simp only []
   rw [ZY,if_neg fun e=>h (by rw [e];exact List.mem_cons_self)]
   exact ZjE fun hm=>h (List.mem_cons_of_mem _ hm)
  ·rfl
theorem Zd0 {X:Ctx} {s:St} {E F w a} (hs:Sat X s E F w a):∀ {fz:List Nat},Tc s fz=true→∃ F',Sat X (ZI s fz) E F' w a
 | [],_=>⟨F,hs⟩
 | k::r,h=>by
  unfold Tc at h
  simp only [Zc,List.all_cons] at h
  obtain ⟨h1,h2,h3⟩:=h
  have hk:k ∉ r∧Y2 r=true:=by
   have:=PG h1
   rw [List.nodup_cons] at this
   refine ⟨this.1,?_⟩
   unfold Y2 at h1
   rw [Zc] at h1
   exact h1.2
  obtain ⟨F1,hs1⟩:=Zd0 hs (fz:=r) (by unfold Tc;rw [Zc];exact ⟨hk.2,h3⟩)
  split at h2
  ·rename_i α R xs fr hm
   subst h2
   have hm':Zl (ZI s r).M k=some (.own R xs true):=by
    show Zl ((UQ s r).1++s.M) k=_
    rw [Xn,ZjE hk.1];exact hm
   refine ⟨fun b=>F1 b∨Ya (E.ρ k)=some b,?_⟩
   have:=hs1.freeze hm'
   have e:UQ s (k::r)=((k,.gone)::(UQ s r).1,(k,.sl R xs)::(UQ s r).2):=by
    conv=>lhs;unfold UQ
    rw [hm]
   unfold ZI
   rw [e]
   exact this
  ·cases h2
section
variable {X:Ctx} {tt:List (Nat × TD)}
theorem Stp.of {ops:Array Oper} {i:Nat} {o:Oper} {s s1:St} (ho:ops[i]? = some o) (hg:Z3 ops s.L o=some true) (r:∀ K,WPr X ops [] K s1→WPr X ops [i] K s) :
  ∀ E F w a,Sat X s E F w a→o.wp X.P a w (fun a' w'=>∃ E' F',Sat X s1 E' F' w' a') (fun _ _ _=>False):=fun E F w a hs=>by
 have h:=r (fun a' w'=>∃ E' F',Sat X s1 E' F' w' a') (fun E F w a hs=>⟨rfl,E,F,hs⟩) E F w a hs
 have hgk:=RE hs hg
 simp only [wpOps,ho,hgk,if_true] at h
 rcases h with h | ⟨_,h⟩
 ·unfold Oper.wp at h ⊢
  unfold Oper.upon at h ⊢
  split at h
  ·exact h.2
  ·exact h.2
  ·exact h.2
  ·refine Calls.mono h fun e w' hr=>?_
   split at hr
   ·exact hr.2
   ·cases hr.1
   ·obtain ⟨a1,w1,hf⟩:=hr;cases hf.1
  ·exact Rows.mono h fun v w' hr=>hr.2
  ·cases h.1
  ·exact h.elim
 ·obtain ⟨a1,w1,hf⟩:=h;cases hf.1
theorem Wc.ev {c:Cf} {d:Dl} (hr:Tv c=true) (hd:d.dL.map (·.1)=(Zn c).dst.toList)
    (r:∀ nk E0 F0 w0 n0 Z rest K,c.ops[c.i]? = some (Zn c)→Z3 c.ops (Zq c).L (Zn c)=some true→WPr (X.var nk E0 F0 w0 n0 Z) c.ops rest K (d.ap (Zq c))→WPr (X.var nk E0 F0 w0 n0 Z) c.ops (c.i::rest) K (Zq c))
    (k:Wc X (YH d c)):Wc X c:=by
  unfold Tv at hr
  rw [Zc,Zc] at hr
  obtain ⟨⟨h1,h2⟩,h3⟩:=hr
  cases c with
  | co k s=>cases h1
  | no=>cases h1
  | rg m ops i k' s =>
    have ho:ops[i]? = some (Zn (.rg m ops i k' s)):=by
      obtain ⟨o,ho⟩:=Option.isSome_iff_exists.1 h2
      have ho:ops[i]? = some o:=ho
      unfold Zn
      show _=some ((ops[i]?).getD default)
      rw [ho];rfl
    have hg:Z3 ops (Zq (.rg m ops i k' s)).L (Zn (.rg m ops i k' s))=some true:=by
      split at h3
      · rename_i b hb;rw [h3] at hb;exact hb
      · cases h3
    exact Zjs ho hg hd (fun nk E0 F0 w0 n0 Z=>Stp.of (X:=X.var nk E0 F0 w0 n0 Z) ho hg (fun K=>r nk E0 F0 w0 n0 Z [] K ho hg)) k
theorem Wc.evz {c:Cf} {d:Dl} (fz:List Nat) (hr:Tv c=true) (hz:Tc (Zq c) fz=true) (hd:d.dL.map (·.1)=(Zn c).dst.toList)
    (r:∀ nk E0 F0 w0 n0 Z rest K,c.ops[c.i]? = some (Zn c)→Z3 c.ops (ZI (Zq c) fz).L (Zn c)=some true→WPr (X.var nk E0 F0 w0 n0 Z) c.ops rest K (d.ap (ZI (Zq c) fz))→WPr (X.var nk E0 F0 w0 n0 Z) c.ops (c.i::rest) K (ZI (Zq c) fz))
    (k:Wc X (YH (d.fz (Zq c) fz) c)):Wc X c:=by
  refine Wc.ev (d:=d.fz (Zq c) fz) hr hd (fun nk E0 F0 w0 n0 Z rest K ho hg h=>?_) k
  rw [Dl.fz_ap] at h
  have:=r nk E0 F0 w0 n0 Z rest K ho hg h
  intro E F w a hs
  obtain ⟨F',hs'⟩:=Zd0 hs hz
  exact this E F' w a hs'
def ZL:Op→Nat→Operand
 | .indexAddr _ x y,j | .index _ x y,j | .store _ x y,j | .binOp _ _ x y _,j | .makeSlice _ x y,j=>match j with
  | 0=>x
  | _=>y
 | .load _ x,_ | .slice _ x _ _ _,_ | .convert _ _ x,_ | .range _ x,_ | .next x _,_=>x
 | .call c,j=>(c.args.toList[j]?).getD (.const (.bool true))
 | _,_=>.const (.bool true)
def ZE:Op→TypeId
 | .indexAddr t _ _ | .index t _ _ | .store t _ _ | .binOp _ t _ _ _ | .makeSlice t _ _ | .load t _ | .slice t _ _ _ _ | .convert t _ _ | .range t _ | .buildSlice t _ _=>t
 | .call c=>(c.argTypes.toList[0]?).getD 0
 | _=>0
def XV:Op→TypeId
 | .convert _ t _ | .binOp _ _ _ _ t=>t
 | .call c=>(c.argTypes.toList[1]?).getD 0
 | _=>0
def Uk:Op→Option Operand
 | .slice _ _ l _ _=>l
 | _=>none
def Ux:Op→Option Operand
 | .slice _ _ _ h _=>h
 | _=>none
def Uv:Op→Operand
 | .call c=>match c.callee with
  | .value f=>f
  | _=>.const (.bool true)
 | _=>.const (.bool true)
def LG:Op→Array Operand
 | .call c=>c.args
 | _=>#[]
def ZcV:Op→Array TypeId
 | .call c=>c.argTypes
 | _=>#[]
def V4:Op→Nat
 | .buildSlice _ n _=>n
 | _=>0
def Ha:Op→Array (Nat × Operand)
 | .buildSlice _ _ p=>p
 | _=>#[]
def ZB (c:Cf) (j:Nat):Option SV:=ZF (Zq c).L (ZL (Zn c).op j)
def ZO (tt:List (Nat × TD)) (t:TypeId):TD:=(Zl tt t).getD ⟨0,0,false,[],[],0,0,0,none,0,0⟩
def ZP:Option SV→Nat
 | some (.c (.sl k)) | some (.c (.px k _)) | some (.c (.bp k _))=>k
 | _=>0
def Wr:Option SV→Nat
 | some (.c (.px _ o)) | some (.c (.bp _ o))=>o
 | _=>0
def U5:Option SV→IntKind
 | some (.c (.i k _))=>k
 | _=>.i64
def UE:Option SV→SC
 | some (.c x)=>x
 | _=>.nil
def TW:Option SV→List SC
 | some (.a cs)=>cs
 | _=>[]
def Pe:Option SV→SV
 | some v=>v
 | none=>.u
def Vq (v:Option SV):List SC:=((W0 (Pe v)).getD [])
def ZgW:Option SV→ByteArray
 | some (.c (.s m))=>m
 | _=>⟨#[]⟩
def Xy:Option MO→Bool
 | some (.own _ _ fr)=>fr
 | _=>false
def YR:Option VF→Nat
 | some (.el k _)=>k
 | some (.vw k _ _ _)=>k
 | _=>0
structure SlF:Type 1 where
 {α:Type}
 R:TRep α
 xs:List α
def GW (s:St):SC→Option SlF
 | .sl k=>match Zl s.M k with
  | some (.own R xs _)=>some ⟨R,xs⟩
  | _=>match Zl s.V k with
   | some (.sl R xs)=>some ⟨R,xs⟩
   | _=>none
 | _=>none
theorem ZhB {s:St} {c:SC} {α:Type} {R:TRep α} {xs:List α} (h:GW s c=some ⟨R,xs⟩):∃ k,c=.sl k∧(Zl s.V k=some (.sl R xs)∨∃ fr,Zl s.M k=some (.own R xs fr)):=by
 unfold GW at h
 split at h
 ·rename_i k
  refine ⟨k,rfl,?_⟩
  split at h
  ·rename_i hm;cases h;exact .inr ⟨_,hm⟩
  ·split at h
   ·rename_i hv;cases h;exact .inl hv
   ·cases h
 ·cases h
theorem ZnF {s:St} {c:SC} {α:Type} {R:TRep α} {xs:List α} (h:GW s c=some ⟨R,xs⟩):Qz X s R xs c:=by
 obtain ⟨k,rfl,h | ⟨fr,h⟩⟩:=ZhB h
 ·exact ZlY h
 ·exact ZqS h
def d1 (c:Cf) (v:SV):Dl:=⟨[(Yb c,v)],[],[],0⟩
theorem Xe {c:Cf} {L:List (Nat × SV)} {v:SV} (h:(Zn c).dst=some (Yb c)) (hl:L=[(Yb c,v)]):L.map (·.1)=(Zn c).dst.toList:=by rw [hl,h];rfl
def hB (nt:Nat) (c:Cf):Bool:=Tv c && Nat.blt (Yb c) nt
def TX (tt:List (Nat × TD)) (sz:Nat) (c:Cf):Bool:=Nat.beq (ZO tt (ZE (Zn c).op)).kd 6 && Nat.beq (ZO tt (ZE (Zn c).op)).es sz
theorem Y1 {nt:Nat} {c:Cf} (h:hB nt c=true):Tv c=true∧Nat.blt (Yb c) nt=true:=by
 unfold hB at h;rwa [Zc] at h
theorem RK {sz nt:Nat} {c:Cf} (h:TX tt sz c=true) (hn:Nat.blt (Yb c) nt=true):(Nat.blt (Yb c) nt && Nat.beq (ZO tt (ZE (Zn c).op)).kd 6 && Nat.beq (ZO tt (ZE (Zn c).op)).es sz)=true:=by
 unfold TX at h;rw [Bool.and_assoc,h,hn];rfl
def LR {α:Type} (s:St) (ys:List α) (c:SC):Option SlF × ULift.{1,0} (List α):=match c with
 | .nil=>(none,⟨ys⟩)
 | c=>(GW s c,⟨[]⟩)
def Lb {α:Type} (R:TRep α) (ys:List α) (c:SC):Option SlF × ULift.{1,0} (List α):=match c with
 | .nil=>(none,⟨[]⟩)
 | _=>(some ⟨R,ys⟩,⟨[]⟩)
theorem ZaQ {α:Type} {R:TRep α} {s:St} {ys:List α} {c:SC} (h:LR s ys c=Lb R ys c):Qz X s R ys c:=by
 unfold LR at h
 split at h
 ·have:=congrArg ULift.down (Prod.mk.inj h).2
  have h:ys=[]:=this
  rw [h];exact ZqM
 ·rename_i h1
  unfold Lb at h
  split at h
  ·exact (h1 rfl).elim
  ·exact ZnF (Prod.mk.inj h).1
def HZ {α:Type} {R:TRep α} (O:Z2 R) (V:Nat→Option VF):List α→List SC→List O.T
 | [],_=>[]
 | x::xs,cs=>O.lq V x (cs.take R.sz)::HZ O V xs (cs.drop R.sz)
def GV {α:Type} {R:TRep α} (O:Z2 R) (V:Nat→Option VF):List α→List SC→List O.T
 | [],_=>[]
 | x::xs,cs=>O.rq V x (cs.take R.sz)::GV O V xs (cs.drop R.sz)
def Gz (sz:Nat) {α:Type}:List α→List SC→List SC
 | [],cs=>cs
 | _::xs,cs=>Gz sz xs (cs.drop sz)
theorem Zau {α:Type} {R:TRep α} {O:Z2 R} {V:Nat→Option VF}:∀ {xs:List α} {cs:List SC},HZ O V xs cs=GV O V xs cs→Gz R.sz xs cs=[]→M5 O V xs cs
 | [],_,_,h=>h
 | _::_,_,h,g=>⟨O.eqn (List.cons.inj h).1,Zau (List.cons.inj h).2 g⟩
def ZhJ:Op→Bool
 | .binOp .neq _ _ _ _=>true
 | _=>false
def clF:Option SV→List Nat
 | some (.c (.cl _ fs _))=>fs
 | _=>[]
def Hm:Option SV→List Nat
 | some (.c (.cl _ _ ks))=>ks
 | _=>[]
def ZqD (s:St) (c:Ct) (l:List (Nat × SC)) (d:Nat):Dl :=
 ⟨[(d,X2 ⟨l,c.nk,s.nx⟩ c.res)],c.M1.filterMap fun p=>(WJ ⟨l,c.nk,s.nx⟩ p.1 p.2).map fun j=>(j,Um s ⟨l,c.nk,s.nx⟩ (SM s ⟨l,c.nk,s.nx⟩ c) c.nk p.1 p.2),c.V1.map fun p=>((⟨l,c.nk,s.nx⟩:Ren).sh p.1,p.2),c.nr-c.nk⟩
def dIx {α:Type} {R:TRep α} (O:Z2 R) (e:α) (c:Cf):Dl:=⟨[(Yb c,.c (.px (Zq c).nx 0))],[],O.facts ((Zq c).nx+1) e++[((Zq c).nx,.pl (O.cells ((Zq c).nx+1) e))],1+O.nk⟩
def nIx {α:Type} {R:TRep α} (O:Z2 R) (e:α) (c:Cf):Cf:=YH (dIx O e c) c
theorem Zt {α:Type} {R:TRep α} {xs:List α} {m:Int} {e:α} {c:Cf} (htt:TTOk X.P tt) (O:Z2 R) (hi:Zm xs m=some e) (k:Wc X (nIx O e c))
  (hp:(hB X.fn.ntmps c,(Zn c).dst,(Zn c).op,ZB c 0,Zl (Zq c).V (ZP (ZB c 0)),ZB c 1,Zl tt (ZE (Zn c).op),TX tt R.sz c)=(true,some (Yb c),.indexAddr (ZE (Zn c).op) (ZL (Zn c).op 0) (ZL (Zn c).op 1),some (.c (.sl (ZP (ZB c 0)))),some (.sl R xs),some (.c (.i (U5 (ZB c 1)) m)),some (ZO tt (ZE (Zn c).op)),true):=by kernel_rfl):Wc X c:=by
 simp only [Prod.mk.injEq] at hp
 obtain ⟨h1,h2,h3,h4,h5,h6,h7,h8⟩:=hp
 obtain ⟨h0,hn⟩:=Y1 h1
 refine Wc.ev (d:=dIx O e c) h0 (Xe h2 rfl) (fun nk E0 F0 w0 n0 Z rest K ho hg h=>WPr.ix (X:=X.var nk E0 F0 w0 n0 Z) O htt hi ho hg h3 h2 h4 h5 h6 h7 (RK h8 hn) ?_) k
 have e1:(dIx O e c).ap (Zq c)=⟨(Yb c,.c (.px (Zq c).nx 0))::(Zq c).L,(Zq c).M,O.facts ((Zq c).nx+1) e++((Zq c).nx,.pl (O.cells ((Zq c).nx+1) e))::(Zq c).V,(Zq c).nx+1+O.nk⟩:=by
  simp [dIx,Dl.ap,Nat.add_assoc]
 rw [← e1];exact h
def dIo (m:Int) (sz:Nat) (c:Cf):Dl:=⟨[(Yb c,.c (.px (Zq c).nx 0))],[],[((Zq c).nx,.el (ZP (ZB c 0)) (m.toNat * sz))],1⟩
def nIo (m:Int) (sz:Nat) (c:Cf):Cf:=YH (dIo m sz c) c
theorem ZT {α:Type} {xs:List α} {m:Int} {e:α} {c:Cf} (htt:TTOk X.P tt) (R:TRep α) (hi:Zm xs m=some e) (k:Wc X (nIo m R.sz c))
  (hp:(hB X.fn.ntmps c,(Zn c).dst,(Zn c).op,ZB c 0,Zl (Zq c).M (ZP (ZB c 0)),ZB c 1,Zl tt (ZE (Zn c).op),TX tt R.sz c)=(true,some (Yb c),.indexAddr (ZE (Zn c).op) (ZL (Zn c).op 0) (ZL (Zn c).op 1),some (.c (.sl (ZP (ZB c 0)))),some (.own R xs (Xy (Zl (Zq c).M (ZP (ZB c 0))))),some (.c (.i (U5 (ZB c 1)) m)),some (ZO tt (ZE (Zn c).op)),true):=by kernel_rfl):Wc X c:=by
 simp only [Prod.mk.injEq] at hp
 obtain ⟨h1,h2,h3,h4,h5,h6,h7,h8⟩:=hp
 obtain ⟨h0,hn⟩:=Y1 h1
 refine Wc.ev (d:=dIo m R.sz c) h0 (Xe h2 rfl) (fun nk E0 F0 w0 n0 Z rest K ho hg h=>WPr.ixo (X:=X.var nk E0 F0 w0 n0 Z) htt hi ho hg h3 h2 h4 h5 h6 h7 (RK h8 hn) h) k
def dLd {α:Type} {R:TRep α} (O:Z2 R) (e:α) (tt:List (Nat × TD)) (c:Cf):Dl:=⟨[(Yb c,Pe (Uo (ZO tt (ZE (Zn c).op)) (Wr (ZB c 0)) (O.cells (Zq c).nx e)))],[],O.facts (Zq c).nx e,O.nk⟩
def nLd {α:Type} {R:TRep α} (O:Z2 R) (e:α) (tt:List (Nat × TD)) (c:Cf):Cf:=YH (dLd O e tt c) c
theorem Z9 {α:Type} {R:TRep α} {xs:List α} {m:Int} {e:α} {c:Cf} (htt:TTOk X.P tt) (O:Z2 R) (hi:Zm xs m=some e) (k:Wc X (nLd O e tt c))
  (hp:(hB X.fn.ntmps c,(Zn c).dst,(Zn c).op,ZB c 0,Zl (Zq c).V (ZP (ZB c 0)),Zl (Zq c).M (YR (Zl (Zq c).V (ZP (ZB c 0)))),Zl tt (ZE (Zn c).op),Uo (ZO tt (ZE (Zn c).op)) (Wr (ZB c 0)) (O.cells (Zq c).nx e))=(true,some (Yb c),.load (ZE (Zn c).op) (ZL (Zn c).op 0),some (.c (.px (ZP (ZB c 0)) (Wr (ZB c 0)))),some (.el (YR (Zl (Zq c).V (ZP (ZB c 0)))) (m.toNat * R.sz)),some (.own R xs (Xy (Zl (Zq c).M (YR (Zl (Zq c).V (ZP (ZB c 0))))))),some (ZO tt (ZE (Zn c).op)),some (Pe (Uo (ZO tt (ZE (Zn c).op)) (Wr (ZB c 0)) (O.cells (Zq c).nx e)))):=by kernel_rfl):Wc X c:=by
 simp only [Prod.mk.injEq] at hp
 obtain ⟨h1,h2,h3,h4,h5,h6,h7,h8⟩:=hp
 obtain ⟨h0,hn⟩:=Y1 h1
 refine Wc.ev (d:=dLd O e tt c) h0 (Xe h2 rfl) (fun nk E0 F0 w0 n0 Z rest K ho hg h=>WPr.ldo (X:=X.var nk E0 F0 w0 n0 Z) O htt hi ho hg h3 h2 h4 h5 h6 h7 h8 hn h) k
def dSt {α:Type} (R:TRep α) (xs:List α) (m:Int) (e2:α) (fz:List Nat) (c:Cf):Dl:=⟨[],[((YR (Zl (ZI (Zq c) fz).V (ZP (ZF (ZI (Zq c) fz).L (ZL (Zn c).op 0))))),.own R (ZW xs m e2) (Xy (Zl (ZI (Zq c) fz).M (YR (Zl (ZI (Zq c) fz).V (ZP (ZF (ZI (Zq c) fz).L (ZL (Zn c).op 0))))))))],[],0⟩
def nSt {α:Type} (R:TRep α) (xs:List α) (m:Int) (e2:α) (fz:List Nat) (c:Cf):Cf:=YH ((dSt R xs m e2 fz c).fz (Zq c) fz) c
theorem XW {α:Type} {R:TRep α} {xs:List α} {m:Int} {e:α} {c:Cf} (htt:TTOk X.P tt) (fz:List Nat) (O:Z2 R) (e2:α) (hi:Zm xs m=some e) (k:Wc X (nSt R xs m e2 fz c))
  (hp:(Tv c,(Zn c).dst,Tc (Zq c) fz,(Zn c).op,(ZF (ZI (Zq c) fz).L (ZL (Zn c).op 0)),Zl (ZI (Zq c) fz).V (ZP (ZF (ZI (Zq c) fz).L (ZL (Zn c).op 0))),Zl (ZI (Zq c) fz).M (YR (Zl (ZI (Zq c) fz).V (ZP (ZF (ZI (Zq c) fz).L (ZL (Zn c).op 0))))),Zl tt (ZE (Zn c).op),(ZF (ZI (Zq c) fz).L (ZL (Zn c).op 1)),W0 (Pe (ZF (ZI (Zq c) fz).L (ZL (Zn c).op 1))),O.lq (Zl (ZI (Zq c) fz).V) e2 ((O.cells (ZI (Zq c) fz).nx e).take (Wr (ZF (ZI (Zq c) fz).L (ZL (Zn c).op 0)))++(Vq (ZF (ZI (Zq c) fz).L (ZL (Zn c).op 1)))++(O.cells (ZI (Zq c) fz).nx e).drop ((Wr (ZF (ZI (Zq c) fz).L (ZL (Zn c).op 0)))+(Vq (ZF (ZI (Zq c) fz).L (ZL (Zn c).op 1))).length)),(Nat.beq (Vq (ZF (ZI (Zq c) fz).L (ZL (Zn c).op 1))).length (ZO tt (ZE (Zn c).op)).sz && Nat.ble ((Wr (ZF (ZI (Zq c) fz).L (ZL (Zn c).op 0)))+(Vq (ZF (ZI (Zq c) fz).L (ZL (Zn c).op 1))).length) R.sz && (Nat.beq (Vq (ZF (ZI (Zq c) fz).L (ZL (Zn c).op 1))).length R.sz || Nat.beq O.nk 0)))=(true,none,true,.store (ZE (Zn c).op) (ZL (Zn c).op 0) (ZL (Zn c).op 1),some (.c (.px (ZP (ZF (ZI (Zq c) fz).L (ZL (Zn c).op 0))) (Wr (ZF (ZI (Zq c) fz).L (ZL (Zn c).op 0))))),some (.el (YR (Zl (ZI (Zq c) fz).V (ZP (ZF (ZI (Zq c) fz).L (ZL (Zn c).op 0))))) (m.toNat * R.sz)),some (.own R xs (Xy (Zl (ZI (Zq c) fz).M (YR (Zl (ZI (Zq c) fz).V (ZP (ZF (ZI (Zq c) fz).L (ZL (Zn c).op 0)))))))),some (ZO tt (ZE (Zn c).op)),some (Pe (ZF (ZI (Zq c) fz).L (ZL (Zn c).op 1))),some (Vq (ZF (ZI (Zq c) fz).L (ZL (Zn c).op 1))),O.rq (Zl (ZI (Zq c) fz).V) e2 ((O.cells (ZI (Zq c) fz).nx e).take (Wr (ZF (ZI (Zq c) fz).L (ZL (Zn c).op 0)))++(Vq (ZF (ZI (Zq c) fz).L (ZL (Zn c).op 1)))++(O.cells (ZI (Zq c) fz).nx e).drop ((Wr (ZF (ZI (Zq c) fz).L (ZL (Zn c).op 0)))+(Vq (ZF (ZI (Zq c) fz).L (ZL (Zn c).op 1))).length)),true):=by kernel_rfl):Wc X c:=by
 simp only [Prod.mk.injEq] at hp
 obtain ⟨h1,h2,h3,h4,h5,h6,h7,h8,h9,h10,h11,h12⟩:=hp
 have h0:=h1
 refine Wc.evz (d:=dSt R xs m e2 fz c) fz h0 h3 (by rw [h2];rfl) (fun nk E0 F0 w0 n0 Z rest K ho hg h=>WPr.sto (X:=X.var nk E0 F0 w0 n0 Z) O htt e2 hi ho hg h4 h2 h5 h6 h7 h8 h9 h10 (O.eqn h11) h12 h) k
def dSp {α:Type} {R:TRep α} (O:Z2 R) (xs:List α) (m:Int) (e e2:α) (fz:List Nat) (c:Cf):Dl:=⟨[],[((YR (Zl (ZI (Zq c) fz).V (ZP (ZF (ZI (Zq c) fz).L (ZL (Zn c).op 0))))),.own R (ZW xs m e2) (Xy (Zl (ZI (Zq c) fz).M (YR (Zl (ZI (Zq c) fz).V (ZP (ZF (ZI (Zq c) fz).L (ZL (Zn c).op 0))))))))],O.facts (ZI (Zq c) fz).nx e,O.nk⟩
def nSp {α:Type} {R:TRep α} (O:Z2 R) (xs:List α) (m:Int) (e e2:α) (fz:List Nat) (c:Cf):Cf:=YH ((dSp O xs m e e2 fz c).fz (Zq c) fz) c
theorem eSp {α:Type} {R:TRep α} {xs:List α} {m:Int} {e:α} {c:Cf} (htt:TTOk X.P tt) (fz:List Nat) (O:Z2 R) (e2:α) (hi:Zm xs m=some e) (k:Wc X (nSp O xs m e e2 fz c))
  (hp:(Tv c,(Zn c).dst,Tc (Zq c) fz,(Zn c).op,(ZF (ZI (Zq c) fz).L (ZL (Zn c).op 0)),Zl (ZI (Zq c) fz).V (ZP (ZF (ZI (Zq c) fz).L (ZL (Zn c).op 0))),Zl (ZI (Zq c) fz).M (YR (Zl (ZI (Zq c) fz).V (ZP (ZF (ZI (Zq c) fz).L (ZL (Zn c).op 0))))),Zl tt (ZE (Zn c).op),(ZF (ZI (Zq c) fz).L (ZL (Zn c).op 1)),W0 (Pe (ZF (ZI (Zq c) fz).L (ZL (Zn c).op 1))),O.lq (Zl (O.facts (ZI (Zq c) fz).nx e++(ZI (Zq c) fz).V)) e2 ((O.cells (ZI (Zq c) fz).nx e).take (Wr (ZF (ZI (Zq c) fz).L (ZL (Zn c).op 0)))++(Vq (ZF (ZI (Zq c) fz).L (ZL (Zn c).op 1)))++(O.cells (ZI (Zq c) fz).nx e).drop ((Wr (ZF (ZI (Zq c) fz).L (ZL (Zn c).op 0)))+(Vq (ZF (ZI (Zq c) fz).L (ZL (Zn c).op 1))).length)),(Nat.beq (Vq (ZF (ZI (Zq c) fz).L (ZL (Zn c).op 1))).length (ZO tt (ZE (Zn c).op)).sz && Nat.ble ((Wr (ZF (ZI (Zq c) fz).L (ZL (Zn c).op 0)))+(Vq (ZF (ZI (Zq c) fz).L (ZL (Zn c).op 1))).length) R.sz))=(true,none,true,.store (ZE (Zn c).op) (ZL (Zn c).op 0) (ZL (Zn c).op 1),some (.c (.px (ZP (ZF (ZI (Zq c) fz).L (ZL (Zn c).op 0))) (Wr (ZF (ZI (Zq c) fz).L (ZL (Zn c).op 0))))),some (.el (YR (Zl (ZI (Zq c) fz).V (ZP (ZF (ZI (Zq c) fz).L (ZL (Zn c).op 0))))) (m.toNat * R.sz)),some (.own R xs (Xy (Zl (ZI (Zq c) fz).M (YR (Zl (ZI (Zq c) fz).V (ZP (ZF (ZI (Zq c) fz).L (ZL (Zn c).op 0)))))))),some (ZO tt (ZE (Zn c).op)),some (Pe (ZF (ZI (Zq c) fz).L (ZL (Zn c).op 1))),some (Vq (ZF (ZI (Zq c) fz).L (ZL (Zn c).op 1))),O.rq (Zl (O.facts (ZI (Zq c) fz).nx e++(ZI (Zq c) fz).V)) e2 ((O.cells (ZI (Zq c) fz).nx e).take (Wr (ZF (ZI (Zq c) fz).L (ZL (Zn c).op 0)))++(Vq (ZF (ZI (Zq c) fz).L (ZL (Zn c).op 1)))++(O.cells (ZI (Zq c) fz).nx e).drop ((Wr (ZF (ZI (Zq c) fz).L (ZL (Zn c).op 0)))+(Vq (ZF (ZI (Zq c) fz).L (ZL (Zn c).op 1))).length)),true):=by kernel_rfl):Wc X c:=by
 simp only [Prod.mk.injEq] at hp
 obtain ⟨h1,h2,h3,h4,h5,h6,h7,h8,h9,h10,h11,h12⟩:=hp
 have h0:=h1
 refine Wc.evz (d:=dSp O xs m e e2 fz c) fz h0 h3 (by rw [h2];rfl) (fun nk E0 F0 w0 n0 Z rest K ho hg h=>WPr.stp (X:=X.var nk E0 F0 w0 n0 Z) O htt e2 hi ho hg h4 h2 h5 h6 h7 h8 h9 h10 (O.eqn h11) h12 h) k
def dAp {α:Type} (R:TRep α) (zs:List α) (c:Cf):Dl:=⟨[(Yb c,.c (.sl (Zq c).nx))],[((Zq c).nx,.own R zs (Xy (Zl (Zq c).M (ZP (ZB c 0))))),((ZP (ZB c 0)),.gone)],[],1⟩
def nAp {α:Type} (R:TRep α) (zs:List α) (c:Cf):Cf:=YH (dAp R zs c) c
theorem Yk {α:Type} {xs ys zs:List α} {c:Cf} (htt:TTOk X.P tt) (R:TRep α) (hz:Z4 xs ys=some zs) (k:Wc X (nAp R zs c))
  (hp:(hB X.fn.ntmps c,(Zn c).dst,(Zn c).op,ZB c 0,Zl (Zq c).M (ZP (ZB c 0)),ZB c 1,Zl tt (ZE (Zn c).op),Zl tt (XV (Zn c).op),(Nat.beq (ZO tt (ZE (Zn c).op)).kd 6 && (Nat.beq (ZO tt (XV (Zn c).op)).kd 6 || Nat.beq (ZO tt (XV (Zn c).op)).kd 2) && Nat.beq (ZO tt (ZE (Zn c).op)).es R.sz && Nat.ble (ZO tt (ZE (Zn c).op)).eb 32768),LR (Zq c) ys (UE (ZB c 1)))=(true,some (Yb c),.call { callee:=.builtin .append,args:=#[ZL (Zn c).op 0,ZL (Zn c).op 1],argTypes:=#[ZE (Zn c).op,XV (Zn c).op] },some (.c (.sl (ZP (ZB c 0)))),some (.own R xs (Xy (Zl (Zq c).M (ZP (ZB c 0))))),some (.c (UE (ZB c 1))),some (ZO tt (ZE (Zn c).op)),some (ZO tt (XV (Zn c).op)),true,Lb R ys (UE (ZB c 1))):=by kernel_rfl):Wc X c:=by
 simp only [Prod.mk.injEq] at hp
 obtain ⟨h1,h2,h3,h4,h5,h6,h7,h8,h9,h10⟩:=hp
 obtain ⟨h0,hn⟩:=Y1 h1
 refine Wc.ev (d:=dAp R zs c) h0 (Xe h2 rfl) (fun nk E0 F0 w0 n0 Z rest K ho hg h=>WPr.app (X:=X.var nk E0 F0 w0 n0 Z) htt hz (ZaQ h10) ho hg h3 h2 h4 h5 h6 h7 h8 (by rw [hn];simpa using h9) h) k
def dBs {α:Type} (R:TRep α) (xs:List α) (fz:List Nat) (c:Cf):Dl:=⟨[(Yb c,.c (.sl (ZI (Zq c) fz).nx))],[((ZI (Zq c) fz).nx,.own R xs true)],[],1⟩
def nBs {α:Type} (R:TRep α) (xs:List α) (fz:List Nat) (c:Cf):Cf:=YH ((dBs R xs fz c).fz (Zq c) fz) c
theorem Z5 {α:Type} {R:TRep α} {c:Cf} (htt:TTOk X.P tt) (fz:List Nat) (O:Z2 R) (xs:List α) (k:Wc X (nBs R xs fz c))
  (hp:(hB X.fn.ntmps c,(Zn c).dst,Tc (Zq c) fz,(Zn c).op,Zl tt (ZE (Zn c).op),Zl tt (ZO tt (ZE (Zn c).op)).el,(Vi (WU (ZO tt (ZE (Zn c).op)).es (V4 (Zn c).op)) (ZI (Zq c) fz).L (Ha (Zn c).op).toList (UB (ZO tt (ZO tt (ZE (Zn c).op)).el).z (V4 (Zn c).op * (ZO tt (ZE (Zn c).op)).es))),HZ O (Zl (ZI (Zq c) fz).V) xs ((Vi (WU (ZO tt (ZE (Zn c).op)).es (V4 (Zn c).op)) (ZI (Zq c) fz).L (Ha (Zn c).op).toList (UB (ZO tt (ZO tt (ZE (Zn c).op)).el).z (V4 (Zn c).op * (ZO tt (ZE (Zn c).op)).es))).getD []),Gz R.sz xs ((Vi (WU (ZO tt (ZE (Zn c).op)).es (V4 (Zn c).op)) (ZI (Zq c) fz).L (Ha (Zn c).op).toList (UB (ZO tt (ZO tt (ZE (Zn c).op)).el).z (V4 (Zn c).op * (ZO tt (ZE (Zn c).op)).es))).getD []),(Nat.beq (ZO tt (ZE (Zn c).op)).kd 6 && Nat.beq (ZO tt (ZE (Zn c).op)).es R.sz && Nat.beq xs.length (V4 (Zn c).op) && Nat.ble (V4 (Zn c).op * (ZO tt (ZE (Zn c).op)).es) 16777216 && !(ZO tt (ZO tt (ZE (Zn c).op)).el).z.isEmpty))=(true,some (Yb c),true,.buildSlice (ZE (Zn c).op) (V4 (Zn c).op) (Ha (Zn c).op),some (ZO tt (ZE (Zn c).op)),some (ZO tt (ZO tt (ZE (Zn c).op)).el),some ((Vi (WU (ZO tt (ZE (Zn c).op)).es (V4 (Zn c).op)) (ZI (Zq c) fz).L (Ha (Zn c).op).toList (UB (ZO tt (ZO tt (ZE (Zn c).op)).el).z (V4 (Zn c).op * (ZO tt (ZE (Zn c).op)).es))).getD []),GV O (Zl (ZI (Zq c) fz).V) xs ((Vi (WU (ZO tt (ZE (Zn c).op)).es (V4 (Zn c).op)) (ZI (Zq c) fz).L (Ha (Zn c).op).toList (UB (ZO tt (ZO tt (ZE (Zn c).op)).el).z (V4 (Zn c).op * (ZO tt (ZE (Zn c).op)).es))).getD []),[],true):=by kernel_rfl):Wc X c:=by
 simp only [Prod.mk.injEq] at hp
 obtain ⟨h1,h2,h3,h4,h5,h6,h7,h8,h9,h10⟩:=hp
 obtain ⟨h0,hn⟩:=Y1 h1
 refine Wc.evz (d:=dBs R xs fz c) fz h0 h3 (Xe h2 rfl) (fun nk E0 F0 w0 n0 Z rest K ho hg h=>WPr.bs (X:=X.var nk E0 F0 w0 n0 Z) O htt xs ho hg h4 h2 h5 h6 h7 (Zau h8 h9) (by rw [hn];simpa using h10) h) k
def dMk {α:Type} (R:TRep α) (xs:List α) (c:Cf):Dl:=⟨[(Yb c,.c (.sl (Zq c).nx))],[((Zq c).nx,.own R xs true)],[],1⟩
def nMk {α:Type} (R:TRep α) (xs:List α) (c:Cf):Cf:=YH (dMk R xs c) c
theorem UM {α:Type} {R:TRep α} {z:α} {l m:Int} {xs:List α} {c:Cf} (htt:TTOk X.P tt) (O:Z2 R) (hm:YG z l m=some xs) (k:Wc X (nMk R xs c))
  (hp:(hB X.fn.ntmps c,(Zn c).dst,(Zn c).op,Zl tt (ZE (Zn c).op),Zl tt (ZO tt (ZE (Zn c).op)).el,ZB c 0,ZB c 1,HZ O (Zl (Zq c).V) [z] (ZO tt (ZO tt (ZE (Zn c).op)).el).z,Gz R.sz [z] (ZO tt (ZO tt (ZE (Zn c).op)).el).z,(Nat.beq (ZO tt (ZE (Zn c).op)).kd 6 && Nat.beq (ZO tt (ZE (Zn c).op)).es R.sz && Nat.ble (ZO tt (ZE (Zn c).op)).eb 32768 && !(ZO tt (ZO tt (ZE (Zn c).op)).el).z.isEmpty))=(true,some (Yb c),.makeSlice (ZE (Zn c).op) (ZL (Zn c).op 0) (ZL (Zn c).op 1),some (ZO tt (ZE (Zn c).op)),some (ZO tt (ZO tt (ZE (Zn c).op)).el),some (.c (.i (U5 (ZB c 0)) l)),some (.c (.i (U5 (ZB c 1)) m)),GV O (Zl (Zq c).V) [z] (ZO tt (ZO tt (ZE (Zn c).op)).el).z,[],true):=by kernel_rfl):Wc X c:=by
 simp only [Prod.mk.injEq] at hp
 obtain ⟨h1,h2,h3,h4,h5,h6,h7,h8,h9,h10⟩:=hp
 obtain ⟨h0,hn⟩:=Y1 h1
 refine Wc.ev (d:=dMk R xs c) h0 (Xe h2 rfl) (fun nk E0 F0 w0 n0 Z rest K ho hg h=>WPr.mk (X:=X.var nk E0 F0 w0 n0 Z) O htt z hm ho hg h3 h2 h4 h5 h6 h7 (Zau h8 h9) (by rw [hn];simpa using h10) h) k
def dIs {α:Type} (R:TRep α) (zs:List α) (c:Cf):Dl:=⟨[(Yb c,.c (.sl (Zq c).nx))],[],[((Zq c).nx,.sl R zs)],1⟩
def nIs {α:Type} (R:TRep α) (zs:List α) (c:Cf):Cf:=YH (dIs R zs c) c
theorem Qn {α:Type} {xs zs:List α} {lo hi:Option Int} {c:Cf} (htt:TTOk X.P tt) (R:TRep α) (hz:lsl xs lo hi=some zs) (k:Wc X (nIs R zs c))
    (hp:(hB X.fn.ntmps c,(Zn c).dst,(Zn c).op,Zl tt (ZE (Zn c).op),ZB c 0,Zl (Zq c).V (ZP (ZB c 0)),XC (Zq c).L (Uk (Zn c).op),XC (Zq c).L (Ux (Zn c).op),((XC (Zq c).L (Uk (Zn c).op)).getD none).map (·.2),((XC (Zq c).L (Ux (Zn c).op)).getD none).map (·.2),TX tt R.sz c)=(true,some (Yb c),.slice (ZE (Zn c).op) (ZL (Zn c).op 0) (Uk (Zn c).op) (Ux (Zn c).op) none,some (ZO tt (ZE (Zn c).op)),some (.c (.sl (ZP (ZB c 0)))),some (.sl R xs),some ((XC (Zq c).L (Uk (Zn c).op)).getD none),some ((XC (Zq c).L (Ux (Zn c).op)).getD none),lo,hi,true):=by kernel_rfl):Wc X c:=by
  simp only [Prod.mk.injEq] at hp
  obtain ⟨h1,h2,h3,h4,h5,h6,h7,h8,h9,h10,h11⟩:=hp
  obtain ⟨h0,hn⟩:=Y1 h1
  refine Wc.ev (d:=dIs R zs c) h0 (Xe h2 rfl) (fun nk E0 F0 w0 n0 Z rest K ho hg h=>WPr.isl (X:=X.var nk E0 F0 w0 n0 Z) htt (by rw [h9,h10];exact hz) ho hg h3 h2 h4 h5 h6 h7 h8 (RK h11 hn) h) k
def dVw (lo hi:Option Int) (sz:Nat) (c:Cf):Dl:=⟨[(Yb c,.c (.sl (Zq c).nx))],[],[((Zq c).nx,.vw (ZP (ZB c 0)) lo hi sz)],1⟩
def nVw (lo hi:Option Int) (sz:Nat) (c:Cf):Cf:=YH (dVw lo hi sz c) c
theorem SO {α:Type} {xs zs:List α} {lo hi:Option Int} {c:Cf} (htt:TTOk X.P tt) (R:TRep α) (hz:lsl xs lo hi=some zs) (k:Wc X (nVw lo hi R.sz c))
    (hp:(hB X.fn.ntmps c,(Zn c).dst,(Zn c).op,Zl tt (ZE (Zn c).op),ZB c 0,Zl (Zq c).M (ZP (ZB c 0)),XC (Zq c).L (Uk (Zn c).op),XC (Zq c).L (Ux (Zn c).op),((XC (Zq c).L (Uk (Zn c).op)).getD none).map (·.2),((XC (Zq c).L (Ux (Zn c).op)).getD none).map (·.2),TX tt R.sz c)=(true,some (Yb c),.slice (ZE (Zn c).op) (ZL (Zn c).op 0) (Uk (Zn c).op) (Ux (Zn c).op) none,some (ZO tt (ZE (Zn c).op)),some (.c (.sl (ZP (ZB c 0)))),some (.own R xs (Xy (Zl (Zq c).M (ZP (ZB c 0))))),some ((XC (Zq c).L (Uk (Zn c).op)).getD none),some ((XC (Zq c).L (Ux (Zn c).op)).getD none),lo,hi,true):=by kernel_rfl):Wc X c:=by
  simp only [Prod.mk.injEq] at hp
  obtain ⟨h1,h2,h3,h4,h5,h6,h7,h8,h9,h10,h11⟩:=hp
  obtain ⟨h0,hn⟩:=Y1 h1
  refine Wc.ev (d:=dVw lo hi R.sz c) h0 (Xe h2 rfl) (fun nk E0 F0 w0 n0 Z rest K ho hg h=>WPr.vw (X:=X.var nk E0 F0 w0 n0 Z) htt (by rw [h9,h10];exact hz) ho hg h3 h2 h4 h5 h6 h7 h8 (RK h11 hn) (by rw [h9,h10];exact h)) k
def dSs (z:ByteArray) (c:Cf):Dl:=d1 c (.c (.s z))
def nSs (z:ByteArray) (c:Cf):Cf:=YH (dSs z c) c
theorem Q6 {b z:ByteArray} {lo hi:Option Int} {c:Cf} (htt:TTOk X.P tt) (hz:ssl b lo hi=some z) (k:Wc X (nSs z c))
    (hp:(hB X.fn.ntmps c,(Zn c).dst,(Zn c).op,Zl tt (ZE (Zn c).op),Nat.beq (ZO tt (ZE (Zn c).op)).kd 2,ZB c 0,XC (Zq c).L (Uk (Zn c).op),XC (Zq c).L (Ux (Zn c).op),((XC (Zq c).L (Uk (Zn c).op)).getD none).map (·.2),((XC (Zq c).L (Ux (Zn c).op)).getD none).map (·.2))=(true,some (Yb c),.slice (ZE (Zn c).op) (ZL (Zn c).op 0) (Uk (Zn c).op) (Ux (Zn c).op) none,some (ZO tt (ZE (Zn c).op)),true,some (.c (.s b)),some ((XC (Zq c).L (Uk (Zn c).op)).getD none),some ((XC (Zq c).L (Ux (Zn c).op)).getD none),lo,hi):=by kernel_rfl):Wc X c:=by
  simp only [Prod.mk.injEq] at hp
  obtain ⟨h1,h2,h3,h4,h5,h6,h7,h8,h9,h10⟩:=hp
  obtain ⟨h0,hn⟩:=Y1 h1
  refine Wc.ev (d:=dSs z c) h0 (Xe h2 rfl) (fun nk E0 F0 w0 n0 Z rest K ho hg h=>WPr.ssl (X:=X.var nk E0 F0 w0 n0 Z) htt (by rw [h9,h10];exact hz) ho hg h3 h2 h4 h5 h6 h7 h8 hn h) k
def dSx (z:Int) (c:Cf):Dl:=d1 c (.c (.i .u8 z))
def nSx (z:Int) (c:Cf):Cf:=YH (dSx z c) c
theorem W3 {b:ByteArray} {m z:Int} {c:Cf} (htt:TTOk X.P tt) (hz:Xq b m=some z) (k:Wc X (nSx z c))
  (hp:(hB X.fn.ntmps c,(Zn c).dst,(Zn c).op,Zl tt (ZE (Zn c).op),Nat.beq (ZO tt (ZE (Zn c).op)).kd 2,ZB c 0,ZB c 1)=(true,some (Yb c),.index (ZE (Zn c).op) (ZL (Zn c).op 0) (ZL (Zn c).op 1),some (ZO tt (ZE (Zn c).op)),true,some (.c (.s b)),some (.c (.i (U5 (ZB c 1)) m))):=by kernel_rfl):Wc X c:=by
 simp only [Prod.mk.injEq] at hp
 obtain ⟨h1,h2,h3,h4,h5,h6,h7⟩:=hp
 obtain ⟨h0,hn⟩:=Y1 h1
 refine Wc.ev (d:=dSx z c) h0 (Xe h2 rfl) (fun nk E0 F0 w0 n0 Z rest K ho hg h=>WPr.sx (X:=X.var nk E0 F0 w0 n0 Z) htt hz ho hg h3 h2 h4 h5 h6 h7 hn h) k
def dCa (z:ByteArray) (c:Cf):Dl:=d1 c (.c (.s z))
def nCa (z:ByteArray) (c:Cf):Cf:=YH (dCa z c) c
theorem eCa {a b z:ByteArray} {c:Cf} (hz:U7 a b=some z) (k:Wc X (nCa z c))
  (hp:(hB X.fn.ntmps c,(Zn c).dst,(Zn c).op,ZB c 0,ZB c 1)=(true,some (Yb c),.binOp .add (ZE (Zn c).op) (ZL (Zn c).op 0) (ZL (Zn c).op 1) (XV (Zn c).op),some (.c (.s a)),some (.c (.s b))):=by kernel_rfl):Wc X c:=by
 simp only [Prod.mk.injEq] at hp
 obtain ⟨h1,h2,h3,h4,h5⟩:=hp
 obtain ⟨h0,hn⟩:=Y1 h1
 refine Wc.ev (d:=dCa z c) h0 (Xe h2 rfl) (fun nk E0 F0 w0 n0 Z rest K ho hg h=>WPr.cat (X:=X.var nk E0 F0 w0 n0 Z) hz ho hg h3 h2 h4 h5 hn h) k
def dBi (ik:IntKind) (z:Int) (c:Cf):Dl:=d1 c (.c (.i ik z))
def nBi (ik:IntKind) (z:Int) (c:Cf):Cf:=YH (dBi ik z c) c
theorem UV {op:BinOp} {ik:IntKind} {m m2 z:Int} {c:Cf} (hz:WL op ik m m2=some z) (k:Wc X (nBi ik z c))
  (hp:(hB X.fn.ntmps c,(Zn c).dst,(Zn c).op,ZB c 0,ZB c 1,(Zc0 op || decide (ik=U5 (ZB c 1))))=(true,some (Yb c),.binOp op (ZE (Zn c).op) (ZL (Zn c).op 0) (ZL (Zn c).op 1) (XV (Zn c).op),some (.c (.i ik m)),some (.c (.i (U5 (ZB c 1)) m2)),true):=by kernel_rfl):Wc X c:=by
 simp only [Prod.mk.injEq] at hp
 obtain ⟨h1,h2,h3,h4,h5,h6⟩:=hp
 obtain ⟨h0,hn⟩:=Y1 h1
 refine Wc.ev (d:=dBi ik z c) h0 (Xe h2 rfl) (fun nk E0 F0 w0 n0 Z rest K ho hg h=>WPr.bin (X:=X.var nk E0 F0 w0 n0 Z) hz ho hg h3 h2 h4 h5 h6 hn h) k
def dEq (P:Program) (c:Cf):Dl:=d1 c (.c (.b (bif ZhJ (Zn c).op then !((W9 P 20 (ZE (Zn c).op) (TW (ZB c 0)) (TW (ZB c 1))).getD false) else (W9 P 20 (ZE (Zn c).op) (TW (ZB c 0)) (TW (ZB c 1))).getD false)))
def nEq (P:Program) (c:Cf):Cf:=YH (dEq P c) c
theorem QU {c:Cf}  (k:Wc X (nEq X.P c))
  (hp:(hB X.fn.ntmps c,(Zn c).dst,Xu X.P (ZE (Zn c).op),(W9 X.P 20 (ZE (Zn c).op) (TW (ZB c 0)) (TW (ZB c 1))),X.P.eqGuardType X.P.depth (ZE (Zn c).op),(Zn c).op,ZB c 0,ZB c 1)=(true,some (Yb c),true,some ((W9 X.P 20 (ZE (Zn c).op) (TW (ZB c 0)) (TW (ZB c 1))).getD false),false,.binOp (bif ZhJ (Zn c).op then .neq else .eql) (ZE (Zn c).op) (ZL (Zn c).op 0) (ZL (Zn c).op 1) (XV (Zn c).op),some (.a (TW (ZB c 0))),some (.a (TW (ZB c 1)))):=by kernel_rfl):Wc X c:=by
 simp only [Prod.mk.injEq] at hp
 obtain ⟨h1,h2,h3,h4,h5,h6,h7,h8⟩:=hp
 obtain ⟨h0,hn⟩:=Y1 h1
 refine Wc.ev (d:=dEq X.P c) h0 (Xe h2 rfl) (fun nk E0 F0 w0 n0 Z rest K ho hg h=>WPr.eqa (X:=X.var nk E0 F0 w0 n0 Z) (Ztb h3 h4) h5 ho hg h6 h2 h7 h8 hn h) k
def dCb (ct:Ct) (l:List (Nat × SC)) (fz:List Nat) (c:Cf):Dl:=ZqD (ZI (Zq c) fz) ct l (Yb c)
def nCb (ct:Ct) (l:List (Nat × SC)) (fz:List Nat) (c:Cf):Cf:=YH ((dCb ct l fz c).fz (Zq c) fz) c
theorem W2 {f:FuncId} {ct:Ct} {c:Cf} (hf:Fn X.P f ct) (fz:List Nat) (l:List (Nat × SC)) (bor:List Nat) (hflat:bor=[]∨(ct.V1=[]∧U8 ct.M1)) (k:Wc X (nCb ct l fz c))
  (hp:(hB X.fn.ntmps c,(Zn c).dst,Tc (Zq c) fz,(Zn c).op,ZF (ZI (Zq c) fz).L (Uv (Zn c).op),(VL (ZI (Zq c) fz).L (LG (Zn c).op).toList).map (fun vs=>VW (clF (ZF (ZI (Zq c) fz).L (Uv (Zn c).op)))++vs++VW (Hm (ZF (ZI (Zq c) fz).L (Uv (Zn c).op)))),ct.V0.map (fun p=>Sx (ZI (Zq c) fz) ⟨l,ct.nk,(ZI (Zq c) fz).nx⟩ bor p.1 p.2),ct.M0.map (fun p=>Wx (ZI (Zq c) fz) ⟨l,ct.nk,(ZI (Zq c) fz).nx⟩ p.1 p.2),S5 (ZI (Zq c) fz) ct l bor)=(true,some (Yb c),true,.call { callee:=.value (Uv (Zn c).op),args:=LG (Zn c).op,argTypes:=ZcV (Zn c).op },some (.c (.cl f (clF (ZF (ZI (Zq c) fz).L (Uv (Zn c).op))) (Hm (ZF (ZI (Zq c) fz).L (Uv (Zn c).op))))),some (ct.args.map (X2 ⟨l,ct.nk,(ZI (Zq c) fz).nx⟩)),ct.V0.map (fun p=>some p.2),ct.M0.map (fun p=>some (WB ⟨l,ct.nk,(ZI (Zq c) fz).nx⟩ p.2)),true):=by kernel_rfl):Wc X c:=by
 simp only [Prod.mk.injEq] at hp
 obtain ⟨h1,h2,h3,h4,h5,h6,h7,h8,h9⟩:=hp
 obtain ⟨h0,hn⟩:=Y1 h1
 refine Wc.evz (d:=dCb ct l fz c) fz h0 h3 (Xe h2 rfl) (fun nk E0 F0 w0 n0 Z rest K ho hg h=>WPr.callc (X:=X.var nk E0 F0 w0 n0 Z) hf l bor ho hg h4 h2 hn h5 h6 h7 h8 hflat h9 h) k
theorem Zo {f:FuncId} {ct:Ct} {c:Cf} (hf:Fn X.P f ct) (fz:List Nat) (l:List (Nat × SC)) (k:Wc X (nCb ct l fz c))
  (hp:(hB X.fn.ntmps c,(Zn c).dst,Tc (Zq c) fz,(Zn c).op,ZF (ZI (Zq c) fz).L (Uv (Zn c).op),(VL (ZI (Zq c) fz).L (LG (Zn c).op).toList).map (fun vs=>VW (clF (ZF (ZI (Zq c) fz).L (Uv (Zn c).op)))++vs++VW (Hm (ZF (ZI (Zq c) fz).L (Uv (Zn c).op)))),ct.V0.map (fun p=>Sx (ZI (Zq c) fz) ⟨l,ct.nk,(ZI (Zq c) fz).nx⟩ [] p.1 p.2),ct.M0.map (fun p=>Wx (ZI (Zq c) fz) ⟨l,ct.nk,(ZI (Zq c) fz).nx⟩ p.1 p.2),S5 (ZI (Zq c) fz) ct l [])=(true,some (Yb c),true,.call { callee:=.value (Uv (Zn c).op),args:=LG (Zn c).op,argTypes:=ZcV (Zn c).op },some (.c (.cl f (clF (ZF (ZI (Zq c) fz).L (Uv (Zn c).op))) (Hm (ZF (ZI (Zq c) fz).L (Uv (Zn c).op))))),some (ct.args.map (X2 ⟨l,ct.nk,(ZI (Zq c) fz).nx⟩)),ct.V0.map (fun p=>some p.2),ct.M0.map (fun p=>some (WB ⟨l,ct.nk,(ZI (Zq c) fz).nx⟩ p.2)),true):=by kernel_rfl):Wc X c:=W2 hf fz l [] (.inl rfl) k hp
end
end
section
variable [LxP]
def Cf.isC:Cf→Bool
 | .co _ _=>true
 | _=>false
def Cf.itm:Cf→List Item
 | .co k _=>k
 | _=>[]
section
variable {X:Ctx} {tt:List (Nat × TD)}
theorem Wc.co {c:Cf} (h:c.isC=true) (k:WP X c.itm c.st):Wc X c:=by
 cases c with
 | co _ _=>exact ⟨k⟩
 | rg _ _ _ _ _=>cases h
 | no=>cases h
def UL:Cf→Nat
 | .co (.code (.cond (.tmp d) _ _)::_) _=>d
 | .rg _ ops i _ _=>match ops[i]? with
  | some o=>match o.guard with
   | some (j,_)=>match ops[j]? with
    | some oj=>oj.dst.getD 0
    | none=>0
   | none=>0
  | none=>0
 | _=>0
def gjC (c:Cf):Nat:=match (Zn c).guard with
 | some (j,_)=>j
 | none=>0
def P2:Cf→Option (List (Nat × SV))
 | .rg (some q) ops i k s=>some (ZZ q.2.2 (gjC (.rg (some q) ops i k s))).dL
 | _=>none
def Pj (b:Bool):Cf→Option (List (Nat × SV))
 | .rg (some q) ops i k s=>some [(UL (.rg (some q) ops i k s),.c (.b b))]
 | _=>none
def setL (d:Nat) (b:Bool) (s:St):St:=⟨(d,.c (.b b))::s.L,s.M,s.V,s.nx⟩
def Bo (j d:Nat) (b:Bool) (es:List Ent):List Ent:=es.set j { ZZ es j with dL:=[(d,.c (.b b))] }
def Vd (t:Bool):Cf→Cf
 | .co k s=>.co k (setL (UL (.co k s)) t s)
 | .rg none ops i k s=>.rg none ops i k (setL (UL (.rg none ops i k s)) t s)
 | .rg (some q) ops i k s=>.rg (some (q.1,q.2.1,Bo (gjC (.rg (some q) ops i k s)) (UL (.rg (some q) ops i k s)) t q.2.2)) ops i k (setL (UL (.rg (some q) ops i k s)) t s)
 | .no=>.no
theorem Zo8 {j d:Nat} {b:Bool} {es:List Ent} (h:(ZZ es j).dL=[(d,.c (.b b))]):Bo j d b es=es:=by
 unfold Bo
 rw [← h]
 show es.set j (ZZ es j)=es
 unfold ZZ
 by_cases hj:j < es.length
 ·rw [show es.getD j Zit=es[j] by simp [List.getD,hj],List.set_getElem_self]
 ·exact List.set_eq_of_length_le (Nat.not_lt.1 hj)
theorem eK {b t:Bool} (K:b=t) {c:Cf} (k:Wc X (Vd t c)) (hp:(Zl c.st.L (UL c),P2 c)=(some (.c (.b b)),Pj b c):=by kernel_rfl):Wc X c:=by
 subst K
 obtain ⟨h1,h2⟩:=Prod.mk.inj hp
 cases c with
 | no=>exact k.1.elim
 | co k' s=>exact ⟨fun E F w a hs=>k.1 E F w a (Sat.setL0 hs h1 rfl trivial)⟩
 | rg m ops i k' s =>
  cases m with
  | none=>exact ⟨WPr.kb _ rfl h1 k.1⟩
  | some q =>
   refine ⟨fun hA hl=>?_⟩
   have e:=Zo8 (Option.some.inj h2)
   have k:AllLS X ops 0 (Bo _ _ _ q.2.2)→(Bo _ _ _ q.2.2).length=i→WP X (.code (.region q.1 ops true)::k') q.2.1:=k.1
   rw [e] at k
   exact k hA hl
theorem wa (htt:TTOk X.P tt) (n:Nat) {c:Cf} (k:Wc X (Ys tt X.fn.ntmps n c)):Wc X c:=ZgT htt n k
def ctS (c:Cf) (s:St):Cf:=.co c.kk s
theorem Zz {σ:Type} (J:σ→St) (Q:σ→Prop) {c:Cf} (hk:∀ st,Q st→Wc X (ctS c (J st))) (h:(∀ st,Q st→WP X c.kk (J st))→Wc X c):Wc X c:=h fun st hq=>(hk st hq).1
def LL (c:Cf):Code:=match c with
 | .co (.code (.loop x)::_) _=>x
 | _=>.skip
def lpS (c:Cf) (s:St):Cf:=.co (.code (LL c)::.inLoop (LL c)::c.kk) s
def lpK (c:Cf):List Item:=.inLoop (LL c)::c.kk
def lpI (c:Cf):List Item:=.code (.loop (LL c))::c.kk
theorem ZH {σ ρ:Type} {r:ρ} (H:σ→St) (p:Nat→σ→Option ρ) (h0:∀ st,p 0 st=none) {c:Cf}
  (step:∀ n,(∀ st,p n st=some r→WP X (lpK c) (H st))→∀ st,p (n+1) st=some r→Wc X (lpS c (H st)))
  (h:(∀ n st,p n st=some r→WP X (lpI c) (H st))→Wc X c):Wc X c:=by
 have ZR:∀ n st,p n st=some r→WP X (.code (LL c)::.inLoop (LL c)::c.kk) (H st):=by
  intro n
  induction n with
  | zero=>intro st hp;rw [h0] at hp;cases hp
  | succ n ih=>exact fun st hq=>(step n (fun st hp=>WP.inLoop (ih st hp)) st hq).1
 exact h fun n st hp=>WP.loop (ZR n st hp)
theorem Zj {t:St} {todo:List Item} (l:List (Nat × SC)) (k:WP X todo t) {c:Cf}
    (hp:(c.isC,c.itm,t.L.map (fun p=>Zl c.st.L p.1),t.V.map (fun p=>Ut c.st ⟨l,0,0⟩ p.1 p.2),t.M.map (fun p=>Wx c.st ⟨l,0,0⟩ p.1 p.2),
        (t.L.all (fun p=>VN ⟨l,0,0⟩ p.2) && Y2 (t.M.filterMap fun p=>Xj ⟨l,0,0⟩ p.1 p.2) && Y2 (t.M.map (·.1)) && PK t.L t.M t.V t.nx && l.all (fun p=>Nat.ble X.nk p.1 && p.2.kbb c.st.nx) && Nat.ble X.nk t.nx)) =
      (true,todo,t.L.map (fun p=>some (X2 ⟨l,0,0⟩ p.2)),t.V.map (fun p=>some p.2),t.M.map (fun p=>some (WB ⟨l,0,0⟩ p.2)),true):=by kernel_rfl):Wc X c:=by
  simp only [Prod.mk.injEq] at hp
  obtain ⟨h1,h2,h3,h4,h5,h6⟩:=hp
  refine Wc.co h1 ?_
  rw [h2]
  exact WP.sub l k h3 h4 h5 h6
def R8 (f:St→St):Cf→Cf
 | .co k s=>.co k (f s)
 | .rg none ops i k s=>.rg none ops i k (f s)
 | _=>.no
theorem H8 {f:St→St} {c:Cf} (h:∀ E F w a,Sat X c.st E F w a→∃ E' F',Sat X (f c.st) E' F' w a) (k:Wc X (R8 f c)):Wc X c:=by
 cases c with
 | no=>exact k.1.elim
 | co k' s=>exact ⟨fun E F w a hs=>let ⟨E',F',hs'⟩:=h E F w a hs;k.1 E' F' w a hs'⟩
 | rg m ops i k' s =>
  cases m with
  | none=>exact ⟨fun E F w a hs=>let ⟨E',F',hs'⟩:=h E F w a hs;k.1 E' F' w a hs'⟩
  | some q=>exact k.1.elim
theorem Xh (fz:List Nat) {c:Cf} (k:Wc X (R8 (fun s=>ZI s fz) c)) (hp:Tc c.st fz=true:=by kernel_rfl):Wc X c :=
 H8 (fun _ _ _ _ hs=>let ⟨F',h⟩:=Zd0 hs hp;⟨_,F',h⟩) k
theorem eSl {α:Type} (R:TRep α) {xs zs:List α} {l h:Option Int} (K:Nat) (hz:lsl xs l h=some zs) {c:Cf}
  (k:Wc X (R8 (fun s=>⟨s.L,(K,.own R zs (Xy (Zl s.M (YR (Zl s.V K)))))::(YR (Zl s.V K),.gone)::s.M,s.V,s.nx⟩) c))
  (hp:(Zl c.st.V K,Zl c.st.M (YR (Zl c.st.V K)),(Zl c.st.M K).isNone)=(some (.vw (YR (Zl c.st.V K)) l h R.sz),some (.own R xs (Xy (Zl c.st.M (YR (Zl c.st.V K))))),true):=by kernel_rfl):Wc X c:=by
 simp only [Prod.mk.injEq,Option.isNone_iff_eq_none] at hp
 obtain ⟨h1,h2,h3⟩:=hp
 exact H8 (fun E F w a hs=>⟨E,F,hs.settle hz h1 h2 h3⟩) k
def Gq:Cf→Bool
 | .co [] _=>true
 | .co (.code .ret::_) _=>true
 | _=>false
theorem Yc {P:Program} {f:FuncId} {fn:Func} {ct:Ct} {E0:Env} {F0:ZV} {w0:World} (htt:TTOk P tt) (hf:P.funcs[f]? = some fn) (l:List (Nat × SC)) {c:Cf}
    (hp:(Gq c,Qh tt c.st fn.results.toList,ct.V1.map (fun p=>Ut c.st ⟨l,0,0⟩ p.1 p.2),ct.M1.map (fun p=>Wx c.st ⟨l,0,0⟩ p.1 p.2),
        (VN ⟨l,0,0⟩ ct.res && Y2 (ct.M1.filterMap fun p=>Xj ⟨l,0,0⟩ p.1 p.2) && Y2 (ct.M1.map (·.1)) && l.all (fun p=>Nat.ble ct.nk p.1 && p.2.kbb c.st.nx))) =
      (true,some (X2 ⟨l,0,0⟩ ct.res),ct.V1.map (fun p=>some p.2),ct.M1.map (fun p=>some (WB ⟨l,0,0⟩ p.2)),true):=by kernel_rfl):Wc (ct.ctx P f fn E0 F0 w0) c:=by
  simp only [Prod.mk.injEq] at hp
  obtain ⟨h1,h2,h3,h4,h5⟩:=hp
  unfold Gq at h1
  split at h1
  · exact ⟨WP.fin htt hf l h2 h3 h4 h5⟩
  · exact ⟨WP.ret htt hf l h2 h3 h4 h5⟩
  · cases h1
theorem Zv {P:Program} {f:FuncId} {c:Ct} {fn:Func} {body:Code} (hf:P.funcs[f]? = some fn) (hb:fn.body=some body) (h:∀ E F w,Wc (c.ctx P f fn E F w) (.co [.code body] ⟨R9 0 c.args,c.M0,c.V0,c.nk⟩))
  (hp:((fn.name == "runtime.NumGoroutine"),(PK (R9 0 c.args) c.M0 c.V0 c.nk && c.M0.all (fun p => !p.2.isFresh) && Nat.ble c.args.length fn.ntmps))=(false,true):=by kernel_rfl):Fn P f c :=
 Fn.intro fn body hf hb (Prod.mk.inj hp).1 (Prod.mk.inj hp).2 fun E F w=>(h E F w).1
def SE:List Oper→List Nat→List Nat
 | [],acc=>acc
 | o::r,acc=>SE r (acc++[Qp acc o.after.toList])
def Mn:Cf→List Ent
 | .rg (some q) _ _ _ _=>q.2.2
 | _=>[]
def Dx:Cf→St
 | .rg (some q) _ _ _ _=>q.2.1
 | _=>⟨[],[],[],0⟩
def isD:Cf→Bool
 | .rg (some _) ops i _ _=>Nat.beq i ops.size
 | _=>false
def Zuj (c:Cf):Cf:=.co c.kk (WE (Mn c) c.st.nx (Dx c) fun _=>true)
theorem Zy {c:Cf} (k:Wc X (Zuj c)) (hp:(isD c,X.P.follows .mixedOrders,Hx c.ops (Mn c) (SE c.ops.toList []) (Dx c).nx c.st.nx,Hh (Mn c) (SE c.ops.toList []) (Dx c))=(true,true,true,Ho (Mn c)):=by kernel_rfl):Wc X c:=by
 simp only [Prod.mk.injEq] at hp
 obtain ⟨h1,h2,h3,h4⟩:=hp
 cases c with
 | no=>cases h1
 | co k' s=>cases h1
 | rg m ops i k' s =>
  cases m with
  | none=>cases h1
  | some q =>
   refine ⟨fun hA hl=>?_⟩
   obtain ⟨k⟩:=k
   obtain ⟨id,s0,es⟩:=q
   replace h3:Hx ops es (SE ops.toList []) s0.nx s.nx=true:=h3
   replace h4:Hh es (SE ops.toList []) s0=Ho es:=h4
   replace hA:AllLS X ops 0 es:=hA
   show WP X (.code (.region id ops true)::k') s0
   intro E F w a hs
   have c:=Zi6 h3
   refine ZeZ (wp_region_any h2 ?_)
   have hs':Sat X s0 E F { w with drawn:=w.drawn+1 } a:=hs.world rfl rfl .m (Nat.le_refl _) fun _ _=>rfl
   have hf:∀ j,(Array.replicate ops.size false).getD j false=false:=fun j=>by
    by_cases h:j < ops.size<;>simp [h]
   refine Zo7 (todo:=rk X k') hA c h4 hs.wf hs.nk (fun E F w a hs=>k E F w a hs) ops.size _ E F _ a (by simp)
    (fun i hi=>by rw [hf] at hi;cases hi) (by rw [c.size];exact Zey fun j _=>by rw [← c.size];exact hf j) ?_
   have:WE es s.nx s0 (fun j=>(Array.replicate ops.size false).getD j false)=⟨s0.L,s0.M,s0.V,s.nx⟩:=by
    rw [show (fun j=>(Array.replicate ops.size false).getD j false)=fun _=>false from funext hf]
    unfold WE
    rw [PW,PW,PW]
   show Sat X (WE es s.nx s0 _) E F _ a
   rw [this]
   exact hs'.nxt c.nxle
end
end
section
variable [LxP]
def ZaA (P:Program) (t:TypeId):Nat:=match P.underlying t with
 | some (.array n _)=>n
 | _=>0
def W6 (P:Program) (t:TypeId):TypeId:=match P.underlying t with
 | some (.array _ e)=>e
 | some (.slice e)=>e
 | some (.pointer e)=>e
 | _=>0
def szT (P:Program) (t:TypeId):Nat:=((P.info? t).map (·.size)).getD 0
def ZfV:Option VF→Bool
 | some (.pl _)=>true
 | some (.el _ _)=>true
 | _=>false
theorem ZlA {V:List (Nat × VF)} {k:Nat} (h:ZfV (Zl V k)=true):(∃ cs,Zl V k=some (.pl cs))∨∃ q m,Zl V k=some (.el q m):=by
 unfold ZfV at h
 split at h
 ·rename_i cs e;exact .inl ⟨cs,e⟩
 ·rename_i q m e;exact .inr ⟨q,m,e⟩
 ·cases h
def Zum:Option MO→TypeId
 | some (.box _ t)=>t
 | _=>0
def ZbW:Option MO→List SC
 | some (.box cs _)=>cs
 | _=>[]
section
variable {X:Ctx} {tt:List (Nat × TD)}
def dAx (v:SC) (c:Cf):Dl:=d1 c (.c v)
def nAx (v:SC) (c:Cf):Cf:=YH (dAx v c) c
theorem eAx {α:Type} {m:Int} {e:α} {c:Cf} (f:α→SC) (xs:List α) (hi:Zm xs m=some e) (k:Wc X (nAx (f e) c))
    (hp:(hB X.fn.ntmps c,(Zn c).dst,(Zn c).op,X.P.underlying (ZE (Zn c).op),(X.P.info? (W6 X.P (ZE (Zn c).op))).map (·.size),Xu X.P (W6 X.P (ZE (Zn c).op)),(X.P.underlying (W6 X.P (ZE (Zn c).op))).isSome,ZB c 0,ZB c 1)=(true,some (Yb c),.index (ZE (Zn c).op) (ZL (Zn c).op 0) (ZL (Zn c).op 1),some (.array xs.length (W6 X.P (ZE (Zn c).op))),some 1,false,true,some (.a (xs.map f)),some (.c (.i (U5 (ZB c 1)) m))):=by kernel_rfl):Wc X c:=by
  simp only [Prod.mk.injEq] at hp
  obtain ⟨h1,h2,h3,h4,h5,h6,h7,h8,h9⟩:=hp
  obtain ⟨h0,hn⟩:=Y1 h1
  refine Wc.ev (d:=dAx (f e) c) h0 (Xe h2 rfl) (fun nk E0 F0 w0 n0 Z rest K ho hg h=>WPr.ax (X:=X.var nk E0 F0 w0 n0 Z) f xs hi ho hg h3 h2 h4 h5 h6 h7 h8 rfl h9 hn h) k
def dAb (P:Program) (j:Nat) (c:Cf):Dl:=d1 c (.c (.bp (ZP (ZB c 0)) (Wr (ZB c 0)+j * szT P (W6 P (ZE (Zn c).op)))))
def nAb (P:Program) (j:Nat) (c:Cf):Cf:=YH (dAb P j c) c
theorem US {m:Int} {c:Cf} (j:Nat) (hj:m=(j:Int)) (k:Wc X (nAb X.P j c))
    (hp:(hB X.fn.ntmps c,(Zn c).dst,(Zn c).op,X.P.underlying (ZE (Zn c).op),(X.P.info? (W6 X.P (ZE (Zn c).op))).map (·.size),Nat.blt j (ZaA X.P (ZE (Zn c).op)),ZB c 0,ZB c 1)=(true,some (Yb c),.indexAddr (ZE (Zn c).op) (ZL (Zn c).op 0) (ZL (Zn c).op 1),some (.array (ZaA X.P (ZE (Zn c).op)) (W6 X.P (ZE (Zn c).op))),some (szT X.P (W6 X.P (ZE (Zn c).op))),true,some (.c (.bp (ZP (ZB c 0)) (Wr (ZB c 0)))),some (.c (.i (U5 (ZB c 1)) m))):=by kernel_rfl):Wc X c:=by
  simp only [Prod.mk.injEq] at hp
  obtain ⟨h1,h2,h3,h4,h5,h6,h7,h8⟩:=hp
  obtain ⟨h0,hn⟩:=Y1 h1
  refine Wc.ev (d:=dAb X.P j c) h0 (Xe h2 rfl) (fun nk E0 F0 w0 n0 Z rest K ho hg h=>WPr.axb (X:=X.var nk E0 F0 w0 n0 Z) j hj ho hg h3 h2 h4 h5 h6 h7 h8 hn h) k
def dAq (P:Program) (j:Nat) (c:Cf):Dl:=d1 c (.c (.px (ZP (ZB c 0)) (Wr (ZB c 0)+j * szT P (W6 P (ZE (Zn c).op)))))
def nAq (P:Program) (j:Nat) (c:Cf):Cf:=YH (dAq P j c) c
theorem UD {m:Int} {c:Cf} (j:Nat) (hj:m=(j:Int)) (k:Wc X (nAq X.P j c))
    (hp:(hB X.fn.ntmps c,(Zn c).dst,(Zn c).op,X.P.underlying (ZE (Zn c).op),(X.P.info? (W6 X.P (ZE (Zn c).op))).map (·.size),Nat.blt j (ZaA X.P (ZE (Zn c).op)),ZB c 0,ZfV (Zl (Zq c).V (ZP (ZB c 0))),ZB c 1)=(true,some (Yb c),.indexAddr (ZE (Zn c).op) (ZL (Zn c).op 0) (ZL (Zn c).op 1),some (.array (ZaA X.P (ZE (Zn c).op)) (W6 X.P (ZE (Zn c).op))),some (szT X.P (W6 X.P (ZE (Zn c).op))),true,some (.c (.px (ZP (ZB c 0)) (Wr (ZB c 0)))),true,some (.c (.i (U5 (ZB c 1)) m))):=by kernel_rfl):Wc X c:=by
  simp only [Prod.mk.injEq] at hp
  obtain ⟨h1,h2,h3,h4,h5,h6,h7,h8,h9⟩:=hp
  obtain ⟨h0,hn⟩:=Y1 h1
  refine Wc.ev (d:=dAq X.P j c) h0 (Xe h2 rfl) (fun nk E0 F0 w0 n0 Z rest K ho hg h=>WPr.axp (X:=X.var nk E0 F0 w0 n0 Z) j hj ho hg h3 h2 h4 h5 h6 h7 (ZlA h8) h9 hn h) k
def dSb {α:Type} (R:TRep α) (xs:List α) (fz:List Nat) (c:Cf):Dl:=⟨[(Yb c,.c (.sl (ZI (Zq c) fz).nx))],[((ZI (Zq c) fz).nx,.own R xs false),((ZP (ZF (ZI (Zq c) fz).L (ZL (Zn c).op 0))),.gone)],[],1⟩
def nSb {α:Type} (R:TRep α) (xs:List α) (fz:List Nat) (c:Cf):Cf:=YH ((dSb R xs fz c).fz (Zq c) fz) c
theorem eSb {α:Type} {R:TRep α} {c:Cf} (fz:List Nat) (O:Z2 R) (xs:List α) (k:Wc X (nSb R xs fz c))
    (hp:(hB X.fn.ntmps c,(Zn c).dst,Tc (Zq c) fz,(Zn c).op,X.P.underlying (ZE (Zn c).op),(X.P.info? (W6 X.P (ZE (Zn c).op))).map (·.size),ZF (ZI (Zq c) fz).L (ZL (Zn c).op 0),(Zl (ZI (Zq c) fz).M (ZP (ZF (ZI (Zq c) fz).L (ZL (Zn c).op 0)))),(Zl (ZI (Zq c) fz).M (ZI (Zq c) fz).nx).isNone,HZ O (Zl (ZI (Zq c) fz).V) xs (ZbW (Zl (ZI (Zq c) fz).M (ZP (ZF (ZI (Zq c) fz).L (ZL (Zn c).op 0))))),Gz R.sz xs (ZbW (Zl (ZI (Zq c) fz).M (ZP (ZF (ZI (Zq c) fz).L (ZL (Zn c).op 0))))))=(true,some (Yb c),true,.slice (ZE (Zn c).op) (ZL (Zn c).op 0) none none none,some (.array xs.length (W6 X.P (ZE (Zn c).op))),some R.sz,some (.c (.bp (ZP (ZF (ZI (Zq c) fz).L (ZL (Zn c).op 0))) 0)),some (.box (ZbW (Zl (ZI (Zq c) fz).M (ZP (ZF (ZI (Zq c) fz).L (ZL (Zn c).op 0))))) (Zum (Zl (ZI (Zq c) fz).M (ZP (ZF (ZI (Zq c) fz).L (ZL (Zn c).op 0)))))),true,GV O (Zl (ZI (Zq c) fz).V) xs (ZbW (Zl (ZI (Zq c) fz).M (ZP (ZF (ZI (Zq c) fz).L (ZL (Zn c).op 0))))),[]):=by kernel_rfl):Wc X c:=by
  simp only [Prod.mk.injEq] at hp
  obtain ⟨h1,h2,h3,h4,h5,h6,h7,h8,h9,h10,h11⟩:=hp
  obtain ⟨h0,hn⟩:=Y1 h1
  refine Wc.evz (d:=dSb R xs fz c) fz h0 h3 (Xe h2 rfl) (fun nk E0 F0 w0 n0 Z rest K ho hg h=>WPr.slb (X:=X.var nk E0 F0 w0 n0 Z) O xs (Zau h10 h11) ho hg h4 h2 h5 h6 h7 h8 (by rw [hn,h9];simp) h) k
def dEx (v:SV) (c:Cf):Dl:=d1 c v
def nEx (v:SV) (c:Cf):Cf:=YH (dEx v c) c
theorem eEx {f:FuncId} {svs:List SV} {v:SV} {c:Cf} (hrun:∀ (E:Env) (w:World),(callFunc f (svs.map (ZD E)).toArray).run X.P w=.ok (.value (ZD E v)) w) (hv:∀ n,v.kb n) (k:Wc X (nEx v c))
  (hp:(hB X.fn.ntmps c,(Zn c).dst,(Zn c).op,VL (Zq c).L (LG (Zn c).op).toList)=(true,some (Yb c),.call { callee:=.value (.func f),args:=LG (Zn c).op,argTypes:=ZcV (Zn c).op },some svs):=by kernel_rfl):Wc X c:=by
 simp only [Prod.mk.injEq] at hp
 obtain ⟨h1,h2,h3,h4⟩:=hp
 obtain ⟨h0,hn⟩:=Y1 h1
 refine Wc.ev (d:=dEx v c) h0 (Xe h2 rfl) (fun nk E0 F0 w0 n0 Z rest K ho hg h=>WPr.ext (X:=X.var nk E0 F0 w0 n0 Z) hrun hv ho hg h3 h2 hn h4 h) k
def dCp {α:Type} (R:TRep α) (r:List α × Int) (c:Cf):Dl:=⟨[(Yb c,.c (.i .i64 r.2))],[((ZP (ZB c 0)),.own R r.1 (Xy (Zl (Zq c).M (ZP (ZB c 0)))))],[],0⟩
def nCp {α:Type} (R:TRep α) (r:List α × Int) (c:Cf):Cf:=YH (dCp R r c) c
theorem eCp {α:Type} {xs ys:List α} {lo hi:Option Int} {r:List α × Int} {c:Cf} (htt:TTOk X.P tt) (R:TRep α) (hz:Vv xs lo hi ys=some r) (k:Wc X (nCp R r c))
  (hp:(hB X.fn.ntmps c,(Zn c).dst,(Zn c).op,ZB c 0,Zl (Zq c).M (ZP (ZB c 0)),ZB c 1,Zl tt (ZE (Zn c).op),TX tt R.sz c,LR (Zq c) ys (UE (ZB c 1)),lo,hi)=(true,some (Yb c),.call { callee:=.builtin .copy,args:=#[ZL (Zn c).op 0,ZL (Zn c).op 1],argTypes:=#[ZE (Zn c).op,XV (Zn c).op] },some (.c (.sl (ZP (ZB c 0)))),some (.own R xs (Xy (Zl (Zq c).M (ZP (ZB c 0))))),some (.c (UE (ZB c 1))),some (ZO tt (ZE (Zn c).op)),true,Lb R ys (UE (ZB c 1)),none,none):=by kernel_rfl):Wc X c:=by
 simp only [Prod.mk.injEq] at hp
 obtain ⟨h1,h2,h3,h4,h5,h6,h7,h8,h9,h10,h11⟩:=hp
 obtain ⟨h0,hn⟩:=Y1 h1
 refine Wc.ev (d:=dCp R r c) h0 (Xe h2 rfl) (fun nk E0 F0 w0 n0 Z rest K ho hg h=>WPr.cp (X:=X.var nk E0 F0 w0 n0 Z) htt hz (ZaQ h9) ho hg h3 h2 h4 (.inr ⟨rfl,h10,h11⟩) h5 h6 h7 (RK h8 hn) h) k
def dCw {α:Type} (R:TRep α) (r:List α × Int) (c:Cf):Dl:=⟨[(Yb c,.c (.i .i64 r.2))],[((YR (Zl (Zq c).V (ZP (ZB c 0)))),.own R r.1 (Xy (Zl (Zq c).M (YR (Zl (Zq c).V (ZP (ZB c 0)))))))],[],0⟩
def nCw {α:Type} (R:TRep α) (r:List α × Int) (c:Cf):Cf:=YH (dCw R r c) c
theorem eCw {α:Type} {xs ys:List α} {lo hi:Option Int} {r:List α × Int} {c:Cf} (htt:TTOk X.P tt) (R:TRep α) (hz:Vv xs lo hi ys=some r) (k:Wc X (nCw R r c))
  (hp:(hB X.fn.ntmps c,(Zn c).dst,(Zn c).op,ZB c 0,Zl (Zq c).M (YR (Zl (Zq c).V (ZP (ZB c 0)))),ZB c 1,Zl tt (ZE (Zn c).op),TX tt R.sz c,LR (Zq c) ys (UE (ZB c 1)),Zl (Zq c).V (ZP (ZB c 0)))=(true,some (Yb c),.call { callee:=.builtin .copy,args:=#[ZL (Zn c).op 0,ZL (Zn c).op 1],argTypes:=#[ZE (Zn c).op,XV (Zn c).op] },some (.c (.sl (ZP (ZB c 0)))),some (.own R xs (Xy (Zl (Zq c).M (YR (Zl (Zq c).V (ZP (ZB c 0))))))),some (.c (UE (ZB c 1))),some (ZO tt (ZE (Zn c).op)),true,Lb R ys (UE (ZB c 1)),some (.vw (YR (Zl (Zq c).V (ZP (ZB c 0)))) lo hi R.sz)):=by kernel_rfl):Wc X c:=by
 simp only [Prod.mk.injEq] at hp
 obtain ⟨h1,h2,h3,h4,h5,h6,h7,h8,h9,h10⟩:=hp
 obtain ⟨h0,hn⟩:=Y1 h1
 refine Wc.ev (d:=dCw R r c) h0 (Xe h2 rfl) (fun nk E0 F0 w0 n0 Z rest K ho hg h=>WPr.cp (X:=X.var nk E0 F0 w0 n0 Z) htt hz (ZaQ h9) ho hg h3 h2 h4 (.inl h10) h5 h6 h7 (RK h8 hn) h) k
def ZlN (neg b:Bool) (c:Cf):Cf:=YH (d1 c (.c (.b (bif neg then !b else b)))) c
def inC:Cf→Bool
 | .rg none _ _ _ _=>true
 | _=>false
theorem eNi {α:Type} (R:TRep α) (xs:List α) (neg:Bool) {c:Cf} (kk:∀ b:Bool,(b=true→xs=[])→Wc X (ZlN neg b c))
  (hp:(hB X.fn.ntmps c,(Zn c).dst,inC c,(Zn c).op,X.P.underlying (ZE (Zn c).op),ZB c 0,ZB c 1,GW (Zq c) (.sl (ZP (ZB c 0)))) =
   (true,some (Yb c),true,.binOp (bif neg then .neq else .eql) (ZE (Zn c).op) (ZL (Zn c).op 0) (ZL (Zn c).op 1) (XV (Zn c).op),some (.slice (W6 X.P (ZE (Zn c).op))),some (.c (.sl (ZP (ZB c 0)))),some (.c .nil),some ⟨R,xs⟩):=by kernel_rfl):Wc X c:=by
 simp only [Prod.mk.injEq] at hp
 obtain ⟨h1,h2,h3,h4,h5,h6,h7,h8⟩:=hp
 obtain ⟨h0,hn⟩:=Y1 h1
 obtain ⟨k0,e0,hor⟩:=ZhB h8
 cases c with
 | co _ _=>cases h3
 | no=>cases h3
 | rg m ops i k' s =>
  cases m with
  | some q=>cases h3
  | none =>
   unfold Tv at h0
   rw [Zc,Zc] at h0
   obtain ⟨⟨_,g2⟩,g3⟩:=h0
   have ho:ops[i]? = some (Zn (.rg none ops i k' s)):=by
    obtain ⟨o,ho⟩:=Option.isSome_iff_exists.1 g2
    have ho:ops[i]? = some o:=ho
    unfold Zn
    show _=some ((ops[i]?).getD default)
    rw [ho];rfl
   have hg:Z3 ops s.L (Zn (.rg none ops i k' s))=some true:=by
    split at g3
    ·rename_i b hb;rw [g3] at hb;exact hb
    ·cases g3
   refine ⟨?_⟩
   show WPr X ops (List.range' i (ops.size-i)) (rk X k') s
   rw [DR ho]
   cases e0
   exact WPr.nilc neg hor ho hg h4 h2 h5 h6 h7 hn fun b hb=>(kk b hb).1
def ZlE (b:Nat) (m:ByteArray) (c:Cf):Cf:=YH ⟨[(Yb c,.c (.v (.pointer (some ⟨b,0,none⟩))))],[((Zq c).nx,.abs (W4 b m 0))],[],1⟩ c
def Zqy (b:Nat) (c:Cf):Cf:=ZlE b (ZgW (ZB c 0)) c
theorem eRn (htt:TTOk X.P tt) {c:Cf} (kk:∀ b,Wc X (Zqy b c))
  (hp:(hB X.fn.ntmps c,(Zn c).dst,inC c,(Zn c).op,Zl tt (ZE (Zn c).op),Nat.beq (ZO tt (ZE (Zn c).op)).kd 2,ZB c 0) =
   (true,some (Yb c),true,.range (ZE (Zn c).op) (ZL (Zn c).op 0),some (ZO tt (ZE (Zn c).op)),true,some (.c (.s (ZgW (ZB c 0))))):=by kernel_rfl):Wc X c:=by
 simp only [Prod.mk.injEq] at hp
 obtain ⟨h1,h2,h3,h4,h5,h6,h7⟩:=hp
 obtain ⟨h0,hn⟩:=Y1 h1
 cases c with
 | co _ _=>cases h3
 | no=>cases h3
 | rg m ops i k' s =>
  cases m with
  | some q=>cases h3
  | none =>
   unfold Tv at h0
   rw [Zc,Zc] at h0
   obtain ⟨⟨_,g2⟩,g3⟩:=h0
   have ho:ops[i]? = some (Zn (.rg none ops i k' s)):=by
    obtain ⟨o,ho⟩:=Option.isSome_iff_exists.1 g2
    have ho:ops[i]? = some o:=ho
    unfold Zn
    show _=some ((ops[i]?).getD default)
    rw [ho];rfl
   have hg:Z3 ops s.L (Zn (.rg none ops i k' s))=some true:=by
    split at g3
    ·rename_i b hb;rw [g3] at hb;exact hb
    ·cases g3
   refine ⟨?_⟩
   show WPr X ops (List.range' i (ops.size-i)) (rk X k') s
   rw [DR ho]
   exact WPr.rng htt ho hg h4 h2 h5 h6 h7 hn fun b=>(kk b).1
def dNf (c:Cf):Dl:=d1 c (.t [.inl (.b false)])
def nNf (c:Cf):Cf:=YH (dNf c) c
theorem eNf {p:Nat} {m:ByteArray} {c:Cf} (b k0:Nat) (hlt:decide (p < m.size)=false) (k:Wc X (nNf c))
  (hp:(hB X.fn.ntmps c,(Zn c).dst,(Zn c).op,ZB c 0,Zl (Zq c).M k0)=(true,some (Yb c),.next (ZL (Zn c).op 0) true,some (.c (.v (.pointer (some ⟨b,0,none⟩)))),some (.abs (W4 b m p))):=by kernel_rfl):Wc X c:=by
 simp only [Prod.mk.injEq] at hp
 obtain ⟨h1,h2,h3,h4,h5⟩:=hp
 obtain ⟨h0,hn⟩:=Y1 h1
 refine Wc.ev (d:=dNf  c) h0 (Xe h2 rfl) (fun nk E0 F0 w0 n0 Z rest K ho hg h=>WPr.nxtF (X:=X.var nk E0 F0 w0 n0 Z) k0 hlt ho hg h3 h2 h4 h5 hn h) k
def dNt (b k0:Nat) (m:ByteArray) (p:Nat) (c:Cf):Dl:=⟨[(Yb c,.t [.inl (.b true),.inl (.i .i64 (p:Int)),.inl (.i .i32 ((Utf8.decode m p).1:Int))])],[(k0,.abs (W4 b m (p+(Utf8.decode m p).2)))],[],0⟩
def nNt (b k0:Nat) (m:ByteArray) (p:Nat) (c:Cf):Cf:=YH (dNt b k0 m p c) c
theorem eNt {p:Nat} {m:ByteArray} {c:Cf} (b:Nat) (k0:Nat) (hlt:decide (p < m.size)=true) (k:Wc X (nNt b k0 m p c))
  (hp:(hB X.fn.ntmps c,(Zn c).dst,(Zn c).op,ZB c 0,Zl (Zq c).M k0)=(true,some (Yb c),.next (ZL (Zn c).op 0) true,some (.c (.v (.pointer (some ⟨b,0,none⟩)))),some (.abs (W4 b m p))):=by kernel_rfl):Wc X c:=by
 simp only [Prod.mk.injEq] at hp
 obtain ⟨h1,h2,h3,h4,h5⟩:=hp
 obtain ⟨h0,hn⟩:=Y1 h1
 refine Wc.ev (d:=dNt b k0 m p c) h0 (Xe h2 rfl) (fun nk E0 F0 w0 n0 Z rest K ho hg h=>WPr.nxtT (X:=X.var nk E0 F0 w0 n0 Z) k0 hlt ho hg h3 h2 h4 h5 hn h) k
def dDw {α:Type} (R:TRep α) (r:List α × Int) (c:Cf):Dl:=⟨[(Yb c,.c (.i .i64 r.2))],[((YR (Zl (Zq c).V (ZP (ZB c 0)))),.own R r.1 (Xy (Zl (Zq c).M (YR (Zl (Zq c).V (ZP (ZB c 0)))))))],[],0⟩
def nDw {α:Type} (R:TRep α) (r:List α × Int) (c:Cf):Cf:=YH (dDw R r c) c
theorem eDw {α:Type} {xs ys ws:List α} {lo hi lo2 hi2:Option Int} {r:List α × Int} {c:Cf} (htt:TTOk X.P tt) (R:TRep α) (hw:lsl ws lo2 hi2=some ys) (hz:Vv xs lo hi ys=some r) (k:Wc X (nDw R r c))
  (hp:(hB X.fn.ntmps c,(Zn c).dst,(Zn c).op,ZB c 0,Zl (Zq c).M (YR (Zl (Zq c).V (ZP (ZB c 0)))),ZB c 1,Zl (Zq c).V (ZP (ZB c 1)),Zl (Zq c).M (YR (Zl (Zq c).V (ZP (ZB c 1)))),Zl tt (ZE (Zn c).op),TX tt R.sz c,Zl (Zq c).V (ZP (ZB c 0)))=(true,some (Yb c),.call { callee:=.builtin .copy,args:=#[ZL (Zn c).op 0,ZL (Zn c).op 1],argTypes:=#[ZE (Zn c).op,XV (Zn c).op] },some (.c (.sl (ZP (ZB c 0)))),some (.own R xs (Xy (Zl (Zq c).M (YR (Zl (Zq c).V (ZP (ZB c 0))))))),some (.c (.sl (ZP (ZB c 1)))),some (.vw (YR (Zl (Zq c).V (ZP (ZB c 1)))) lo2 hi2 R.sz),some (.own R ws (Xy (Zl (Zq c).M (YR (Zl (Zq c).V (ZP (ZB c 1))))))),some (ZO tt (ZE (Zn c).op)),true,some (.vw (YR (Zl (Zq c).V (ZP (ZB c 0)))) lo hi R.sz)):=by kernel_rfl):Wc X c:=by
 simp only [Prod.mk.injEq] at hp
 obtain ⟨h1,h2,h3,h4,h5,h6,h7,h8,h9,h10,h11⟩:=hp
 obtain ⟨h0,hn⟩:=Y1 h1
 refine Wc.ev (d:=dDw R r c) h0 (Xe h2 rfl) (fun nk E0 F0 w0 n0 Z rest K ho hg h=>WPr.cp (X:=X.var nk E0 F0 w0 n0 Z) htt hz (XM hw h7 h8) ho hg h3 h2 h4 (.inl h11) h5 h6 h9 (RK h10 hn) h) k
def dAv {α:Type} (R:TRep α) (zs:List α) (c:Cf):Dl:=⟨[(Yb c,.c (.sl (Zq c).nx))],[((Zq c).nx,.own R zs (Xy (Zl (Zq c).M (ZP (ZB c 0))))),((ZP (ZB c 0)),.gone)],[],1⟩
def nAv {α:Type} (R:TRep α) (zs:List α) (c:Cf):Cf:=YH (dAv R zs c) c
theorem eAv {α:Type} {xs ys zs ws:List α} {lo2 hi2:Option Int} {c:Cf} (htt:TTOk X.P tt) (R:TRep α) (hw:lsl ws lo2 hi2=some ys) (hz:Z4 xs ys=some zs) (k:Wc X (nAv R zs c))
  (hp:(hB X.fn.ntmps c,(Zn c).dst,(Zn c).op,ZB c 0,Zl (Zq c).M (ZP (ZB c 0)),ZB c 1,Zl (Zq c).V (ZP (ZB c 1)),Zl (Zq c).M (YR (Zl (Zq c).V (ZP (ZB c 1)))),Zl tt (ZE (Zn c).op),Zl tt (XV (Zn c).op),(Nat.beq (ZO tt (ZE (Zn c).op)).kd 6 && (Nat.beq (ZO tt (XV (Zn c).op)).kd 6 || Nat.beq (ZO tt (XV (Zn c).op)).kd 2) && Nat.beq (ZO tt (ZE (Zn c).op)).es R.sz && Nat.ble (ZO tt (ZE (Zn c).op)).eb 32768))=(true,some (Yb c),.call { callee:=.builtin .append,args:=#[ZL (Zn c).op 0,ZL (Zn c).op 1],argTypes:=#[ZE (Zn c).op,XV (Zn c).op] },some (.c (.sl (ZP (ZB c 0)))),some (.own R xs (Xy (Zl (Zq c).M (ZP (ZB c 0))))),some (.c (.sl (ZP (ZB c 1)))),some (.vw (YR (Zl (Zq c).V (ZP (ZB c 1)))) lo2 hi2 R.sz),some (.own R ws (Xy (Zl (Zq c).M (YR (Zl (Zq c).V (ZP (ZB c 1))))))),some (ZO tt (ZE (Zn c).op)),some (ZO tt (XV (Zn c).op)),true):=by kernel_rfl):Wc X c:=by
 simp only [Prod.mk.injEq] at hp
 obtain ⟨h1,h2,h3,h4,h5,h6,h7,h8,h9,h10,h11⟩:=hp
 obtain ⟨h0,hn⟩:=Y1 h1
 refine Wc.ev (d:=dAv R zs c) h0 (Xe h2 rfl) (fun nk E0 F0 w0 n0 Z rest K ho hg h=>WPr.app (X:=X.var nk E0 F0 w0 n0 Z) htt hz (XM hw h7 h8) ho hg h3 h2 h4 h5 h6 h9 h10 (by rw [hn];simpa using h11) h) k
end
end
section
variable [LxP]
def Yu {α:Type} (R:TRep α) (n1 b p0:Nat) (vs:List Value) (xss:List (List α)) (h:Option Nat):ZdW where
 fp c:=c=b∨∃ (j:Nat) (v:Value),vs[j]? = some v∧h≠some j∧Ya v=some c
 ok F w:=(∃ arr el fz,w.heap[b]? = some (.cells arr el fz)∧SY fz arr.size∧∀ (j:Nat) (v:Value),vs[j]? = some v→arr[p0+j]? = some v)∧vs.length=xss.length∧n1≤b ∧
  (∀ (j:Nat) v xs,vs[j]? = some v→xss[j]? = some xs→h≠some j→OwnR R F w xs v) ∧
  (∀ (j:Nat) v c,vs[j]? = some v→h≠some j→Ya v=some c→n1≤c∧c≠b) ∧
  (∀ (i j:Nat) u v c,vs[i]? = some u→vs[j]? = some v→i≠j→h≠some i→h≠some j→Ya u=some c→Ya v≠some c)∧∀ v∈vs,v.oneCell'=true
 mono:=fun g hb ⟨⟨arr,el,fz,h1,h2,h3⟩,h4,h5,h6,h7,h8,h9⟩=>⟨⟨arr,el,fz,by rw [hb b (.inl rfl)];exact h1,h2,h3⟩,h4,h5,
  fun j v xs a1 a2 a3=>(h6 j v xs a1 a2 a3).mono g fun c hc=>hb c (.inr ⟨j,v,a1,a3,hc⟩),h7,h8,h9⟩
section
variable {X:Ctx} {s:St} {ops:Array Oper} {todo:Act→World→Prop} {tt:List (Nat × TD)}
def VQ (b p0 n:Nat) (v:Value):Prop:=∃ c,n≤c∧v=.slice (some ⟨b,p0,none⟩) n c
def DK:TRep Unit where
 sz:=1
 pos:=Nat.one_pos
 rep _ _ _ vs:=vs=[.slice none 0 0]
 len h:=by rw [h];rfl
 mono _ h:=h
 one h:=by rw [h];intro v hv;rw [List.mem_singleton.1 hv];rfl
def ZoB:Z2 DK where
 nk:=0
 cells _ _:=[.nil]
 facts _ _:=[]
 ok h j E ho:=⟨E,Env.Eqb.refl _ _,fun _=>rfl,fun _ _=>rfl,ho,h,by simp,by simp [SC.kb]⟩
 chk _ _ cs:=cs=[.nil]
 cok h E F w _:=by rw [h];rfl
 T:=ULift.{1,0} (List SC)
 lq _ _ cs:=⟨cs⟩
 rq _ _ _:=⟨[.nil]⟩
 eqn h:=congrArg ULift.down h
theorem WPr.tix {i:Nat} {rest:List Nat} {o:Oper} {t:TypeId} {td:TD} {x y:Operand} {d k b p0 len:Nat} {ik:IntKind} {n:Int} (htt:TTOk X.P tt)
  (hn:(decide (0≤n) && decide (n < (len:Int)))=true) (ho:ops[i]? = some o) (hg:Z3 ops s.L o=some true) (hop:o.op=.indexAddr t x y) (hd:o.dst=some d)
  (hx:ZF s.L x=some (.c (.sl k))) (hV:Zl s.V k=some (.fn (VQ b p0 len))) (hy:ZF s.L y=some (.c (.i ik n))) (ht:Zl tt t=some td)
  (hc:(Nat.blt d X.fn.ntmps && Nat.beq td.kd 6 && Nat.beq td.es 1)=true)
  (kk:WPr X ops rest todo ⟨(d,.c (.v (.pointer (some ⟨b,p0+n.toNat,none⟩))))::s.L,s.M,s.V,s.nx⟩):WPr X ops (i::rest) todo s:=by
 simp only [Zc,decide_eq_true_eq] at hc hn
 obtain ⟨⟨c1,c2⟩,c3⟩:=hc
 have c3:=Zd c3
 refine WPr.val (v:=.c (.v (.pointer (some ⟨b,p0+n.toNat,none⟩)))) (fun E F w a hs=>⟨?_,rfl⟩) ho hg hd c1 kk
 obtain ⟨el,hu,hz⟩:=(htt.get ht).sliceOf c2
 obtain ⟨e1,_⟩:=hs.eval hx
 obtain ⟨e3,_⟩:=hs.eval hy
 obtain ⟨ZC,_,hv⟩:VQ b p0 len (E.ρ k):=hs.hV k _ hV
 simp only [execOp,hop,e1,e3,ZD,Zu,hv]
 refine YE ?_
 have:=Ze5 w (off:=p0) (b:=b) (len:=len) (ZC:=ZC) (k:=ik) hu (hz w) hn.1 hn.2
 rw [c3] at this
 simpa using this
theorem WPr.tln {i:Nat} {rest:List Nat} {o:Oper} {t:TypeId} {td:TD} {x:Operand} {d k b p0 len:Nat} (htt:TTOk X.P tt)
  (ho:ops[i]? = some o) (hg:Z3 ops s.L o=some true) (hop:o.op=.call { callee:=.builtin .len,args:=#[x],argTypes:=#[t] }) (hd:o.dst=some d)
  (hx:ZF s.L x=some (.c (.sl k))) (hV:Zl s.V k=some (.fn (VQ b p0 len))) (ht:Zl tt t=some td) (hc:(Nat.blt d X.fn.ntmps && Nat.beq td.kd 6)=true)
  (kk:WPr X ops rest todo ⟨(d,.c (.i .i64 len))::s.L,s.M,s.V,s.nx⟩):WPr X ops (i::rest) todo s:=by
 simp only [Zc] at hc
 refine WPr.val (v:=.c (.i .i64 len)) (fun E F w a hs=>⟨?_,trivial⟩) ho hg hd hc.1 kk
 obtain ⟨el,hu,hz⟩:=(htt.get ht).sliceOf hc.2
 obtain ⟨e1,_⟩:=hs.eval hx
 obtain ⟨ZC,_,hv⟩:VQ b p0 len (E.ρ k):=hs.hV k _ hV
 refine MJ hop ?_
 simp only [List.map_toArray,List.map_cons,List.map_nil,e1,ZD,Zu,hv]
 exact YE (by simp [Builtin.len_,Yz hu,Builtin.lenOf,goInt])
theorem Sat.reM {E:Env} {F:ZV} {w:World} {a:Act} (hs:Sat X s E F w a) {M':List (Nat × MO)} (h1:∀ k m,Zl M' k=some m→k < s.nx∧m.kb s.nx) (h2:∀ k m,Zl M' k=some m→m.ok E F w k)
  (h3:∀ k m,Zl M' k=some m→∀ b,m.fp E k b→∃ k0 m0,Zl s.M k0=some m0∧m0.fp E k0 b)
  (h4:∀ k k' m m',Zl M' k=some m→Zl M' k'=some m'→k≠k'→∀ b,m.fp E k b→¬ m'.fp E k' b) (h5:∀ k m,Zl M' k=some m→m.isFresh=true→∀ b,m.fp E k b→X.n0≤b) :
  Sat X ⟨s.L,M',s.V,s.nx⟩ E F w a:={ hs with
 wf:=⟨hs.wf.hL,h1,hs.wf.hV⟩
 hM:=h2
 dis:=h4
 mF:=fun k m hk b hb=>let ⟨k0,m0,hm,hf⟩:=h3 k m hk b hb;hs.mF k0 m0 hm b hf
 fresh:=h5 }
theorem Sat.addFn {E:Env} {F:ZV} {w:World} {a:Act} (hs:Sat X s E F w a) {k:Nat} {Φ:Value→Prop} (hk:k < s.nx) (h:Φ (E.ρ k)):Sat X ⟨s.L,s.M,(k,.fn Φ)::s.V,s.nx⟩ E F w a:={ hs with
 wf:=⟨hs.wf.hL,hs.wf.hM,fun j f hj=>by
  rw [ZY] at hj
  split at hj
  ·rename_i e;cases hj;subst e;exact ⟨hk,trivial⟩
  ·exact hs.wf.hV j f hj⟩
 hV:=fun j f hj=>by
  rw [ZY] at hj
  split at hj
  ·rename_i e;cases hj;subst e;exact h
  ·exact hs.hV j f hj }
theorem Sat.tab {α:Type} (R:TRep α) {k:Nat} {xs:List Unit} {E:Env} {F:ZV} {w:World} {a:Act} (hs:Sat X s E F w a) (hM:Zl s.M k=some (.own DK xs true)) (hne:xs≠[]) :
  ∃ b p0,Sat X ⟨s.L,(k,.abs (Yu R X.n0 b p0 (List.replicate xs.length (.slice none 0 0)) (List.replicate xs.length []) none))::s.M,(k,.fn (VQ b p0 xs.length))::s.V,s.nx⟩ E F w a:=by
 have hown:OwnR DK F w xs (E.ρ k):=hs.hM k _ hM
 rcases hown with ⟨h,_⟩ | ⟨b,off,ZC,arr,el,fz,hv,hc,ha,hth,hb,hrow⟩
 ·exact absurd h hne
 have hrep:∀ {i:Nat} {v:Value},(List.replicate xs.length (Value.slice none 0 0))[i]? = some v→i < xs.length∧v=.slice none 0 0:=fun {i v} h=>by
  rw [List.getElem?_replicate] at h
  split at h
  ·rename_i hlt;cases h;exact ⟨hlt,rfl⟩
  ·cases h
 refine ⟨b,off,?_⟩
 have s1:=hs.setM (m':=.abs (Yu R X.n0 b off (List.replicate xs.length (.slice none 0 0)) (List.replicate xs.length []) none)) (w':=w) hM rfl rfl .m (Nat.le_refl _) (fun _ _ _=>rfl) (fun c hc=>by
   rcases hc with hc | ⟨j,v,h1,_,h3⟩
   ·show Ya (E.ρ k)=some c
    rw [hv,hc];rfl
   ·obtain ⟨_,rfl⟩:=hrep h1;cases h3) (by
   refine ⟨⟨arr,el,fz,hb,hth,fun j v h=>?_⟩,by simp,hs.fresh k _ hM rfl b (by show Ya (E.ρ k)=some b;rw [hv];rfl),fun j v ys h1 h2 _=>?_,fun j v c h1 _ h3=>?_,fun i j u v c h1 _ _ _ _ h3=>?_,fun v hv=>by rw [List.eq_of_mem_replicate hv];rfl⟩
   ·obtain ⟨hj,rfl⟩:=hrep h
    obtain ⟨vs,e,g⟩:=hrow j () (by rw [Za hj])
    have e:vs=[.slice none 0 0]:=e
    subst e
    have:=g 0 _ rfl
    simpa [DK] using this
   ·obtain ⟨_,rfl⟩:=hrep h1
    rw [List.eq_of_mem_replicate (Zb h2)]
    exact .inl ⟨rfl,rfl⟩
   ·obtain ⟨_,rfl⟩:=hrep h1;cases h3
   ·obtain ⟨_,rfl⟩:=hrep h1;cases h3) trivial (fun h=>by cases h)
 exact s1.addFn (k:=k) (hs.wf.hM k _ hM).1 ⟨ZC,hc,hv⟩
theorem Sat.take {α:Type} {R:TRep α} {b p0 j k:Nat} {vs:List Value} {xss:List (List α)} {v:Value} {xs:List α} {E:Env} {F:ZV} {w:World} {a:Act} (hs:Sat X s E F w a) (hM:Zl s.M k=some (.abs (Yu R X.n0 b p0 vs xss none)))
  (hv:vs[j]? = some v) (hx:xss[j]? = some xs):∃ E',E'.ρ s.nx=v ∧
   Sat X ⟨s.L,(s.nx,.own R xs true)::(k,.abs (Yu R X.n0 b p0 vs xss (some j)))::s.M,(s.nx,.fn (fun u=>vs[j]? = some u))::s.V,s.nx+1⟩ E' F w a:=by
 have hok:(Yu R X.n0 b p0 vs xss none).ok F w:=hs.hM k _ hM
 obtain ⟨o1,o2,o3,o4,o5,o6,o7⟩:=hok
 have hown:=o4 j v xs hv hx (by simp)
 have hE:E.Eqb s.nx (E.setρ s.nx v):=E.eqb_setρ _ _ _ (Nat.le_refl _)
 have hρ:(E.setρ s.nx v).ρ s.nx=v:=by simp [Env.setρ]
 have hkn:=(hs.wf.hM k _ hM).1
 have s1:=(hs.env hE (fun i=>by
  simp only [Env.setρ];split
  ·exact o7 v (Zb hv)
  ·exact hs.one i)).nxt (n:=s.nx+1) (Nat.le_succ _)
 have hfpk:∀ c,(Yu R X.n0 b p0 vs xss (some j)).fp c→(Yu R X.n0 b p0 vs xss none).fp c:=fun c hc=>by
  rcases hc with hc | ⟨i,u,h1,h2,h3⟩
  ·exact .inl hc
  ·exact .inr ⟨i,u,h1,by simp,h3⟩
 have hfpo:∀ c,Ya v=some c→(Yu R X.n0 b p0 vs xss none).fp c:=fun c hc=>.inr ⟨j,v,hv,by simp,hc⟩
 have hcase:∀ {i:Nat} {m:MO},Zl ((s.nx,MO.own R xs true)::(k,.abs (Yu R X.n0 b p0 vs xss (some j)))::s.M) i=some m →
   (s.nx=i∧m=.own R xs true)∨(k=i∧m=.abs (Yu R X.n0 b p0 vs xss (some j)))∨(i≠s.nx∧i≠k∧Zl s.M i=some m):=fun {i m} h=>by
  rw [ZY] at h
  split at h
  ·rename_i e;cases h;exact .inl ⟨e,rfl⟩
  ·rename_i e1
   rw [ZY] at h
   split at h
   ·rename_i e;cases h;exact .inr (.inl ⟨e,rfl⟩)
   ·rename_i e2;exact .inr (.inr ⟨fun e=>e1 e.symm,fun e=>e2 e.symm,h⟩)
 have s2:=s1.reM (M':=(s.nx,.own R xs true)::(k,.abs (Yu R X.n0 b p0 vs xss (some j)))::s.M) (fun i m h=>by
   rcases hcase h with ⟨rfl,rfl⟩ | ⟨rfl,rfl⟩ | ⟨_,_,h⟩
   ·exact ⟨Nat.lt_succ_self _,trivial⟩
   ·exact ⟨Nat.lt_succ_of_lt hkn,trivial⟩
   ·have:=hs.wf.hM i m h;exact ⟨Nat.lt_succ_of_lt this.1,this.2.mono (Nat.le_succ _)⟩) (fun i m h=>by
   rcases hcase h with ⟨rfl,rfl⟩ | ⟨rfl,rfl⟩ | ⟨_,_,h⟩
   ·show OwnR R F w xs ((E.setρ s.nx v).ρ s.nx);rw [hρ];exact hown
   ·exact ⟨o1,o2,o3,fun i u ys h1 h2 _=>o4 i u ys h1 h2 (by simp),fun i u c h1 _ h3=>o5 i u c h1 (by simp) h3,fun i i' u u' c h1 h2 h3 _ _ h6=>o6 i i' u u' c h1 h2 h3 (by simp) (by simp) h6,o7⟩
   ·exact s1.hM i m h) (fun i m h c hc=>by
   rcases hcase h with ⟨rfl,rfl⟩ | ⟨rfl,rfl⟩ | ⟨_,_,h⟩
   ·have hc:Ya ((E.setρ s.nx v).ρ s.nx)=some c:=hc
    rw [hρ] at hc
    exact ⟨k,_,hM,hfpo c hc⟩
   ·exact ⟨_,_,hM,hfpk c hc⟩
   ·exact ⟨i,m,h,hc⟩) (fun i i' m m' h h' hne c hc hc'=>by
   have hb:∀ {c},(MO.own R xs true).fp (E.setρ s.nx v) s.nx c→Ya v=some c:=fun {c} hc=>by
    have hc:Ya ((E.setρ s.nx v).ρ s.nx)=some c:=hc
    rwa [hρ] at hc
   have hx:∀ {c},Ya v=some c→(Yu R X.n0 b p0 vs xss (some j)).fp c→False:=fun {c} h1 h2=>by
    rcases h2 with h2 | ⟨i,u,g1,g2,g3⟩
    ·exact (o5 j v c hv (by simp) h1).2 h2
    ·exact o6 j i v u c hv g1 (fun e=>g2 (by rw [e])) (by simp) (by simp) h1 g3
   rcases hcase h with ⟨rfl,rfl⟩ | ⟨rfl,rfl⟩ | ⟨n1,n2,h⟩
   ·rcases hcase h' with ⟨rfl,rfl⟩ | ⟨rfl,rfl⟩ | ⟨n1',n2',h'⟩
    ·exact hne rfl
    ·exact hx (hb hc) hc'
    ·exact s1.dis k i' _ m' hM h' (fun e=>n2' e.symm) c (hfpo c (hb hc)) hc'
   ·rcases hcase h' with ⟨rfl,rfl⟩ | ⟨rfl,rfl⟩ | ⟨n1',n2',h'⟩
    ·exact hx (hb hc') hc
    ·exact hne rfl
    ·exact s1.dis k i' _ m' hM h' hne c (hfpk c hc) hc'
   ·rcases hcase h' with ⟨rfl,rfl⟩ | ⟨rfl,rfl⟩ | ⟨n1',n2',h'⟩
    ·exact s1.dis i k m _ h hM n2 c hc (hfpo c (hb hc'))
    ·exact s1.dis i k m _ h hM hne c hc (hfpk c hc')
    ·exact s1.dis i i' m m' h h' hne c hc hc') (fun i m h hf c hc=>by
   rcases hcase h with ⟨rfl,rfl⟩ | ⟨rfl,rfl⟩ | ⟨_,_,h⟩
   ·have hc:Ya ((E.setρ s.nx v).ρ s.nx)=some c:=hc
    rw [hρ] at hc
    exact (o5 j v c hv (by simp) hc).1
   ·cases hf
   ·exact s1.fresh i m h hf c hc)
 exact ⟨_,hρ,s2.addFn (k:=s.nx) (Nat.lt_succ_self _) (by rw [hρ];exact hv)⟩
theorem WPr.tld {α:Type} {R:TRep α} (htt:TTOk X.P tt) {i:Nat} {rest:List Nat} {o:Oper} {t:TypeId} {td:TD} {x:Operand} {d n1 b p0 j k q:Nat} {vs:List Value} {xss:List (List α)} {h:Option Nat}
  (ho:ops[i]? = some o) (hg:Z3 ops s.L o=some true) (hop:o.op=.load t x) (hd:o.dst=some d)
  (hx:ZF s.L x=some (.c (.v (.pointer (some ⟨b,p0+j,none⟩))))) (hM:Zl s.M k=some (.abs (Yu R n1 b p0 vs xss h))) (hV:Zl s.V q=some (.fn (fun u=>vs[j]? = some u))) (hq:Nat.blt q s.nx=true)
  (ht:Zl tt t=some td) (hc:(Nat.blt d X.fn.ntmps && !td.ag)=true)
  (kk:WPr X ops rest todo ⟨(d,.c (.sl q))::s.L,s.M,s.V,s.nx⟩):WPr X ops (i::rest) todo s:=by
 simp only [Zc,Bool.not_eq_true'] at hc
 obtain ⟨c1,c2⟩:=hc
 refine WPr.val (v:=.c (.sl q)) (fun E F w a hs=>⟨?_,Yp hq⟩) ho hg hd c1 kk
 obtain ⟨e1,_⟩:=hs.eval hx
 have hok:(Yu R n1 b p0 vs xss h).ok F w:=hs.hM k _ hM
 obtain ⟨⟨arr,el,fz,h1,_,h3⟩,_⟩:=hok
 have hv:vs[j]? = some (E.ρ q):=hs.hV q _ hV
 have hld:=BU (P:=X.P) (w:=w) (E:=E) (htt.get ht) (base:=p0+j) (off:=0) h1 (cs:=[.sl q]) (fun i c hi=>by
  cases i with
  | zero=>simp at hi;subst hi;exact h3 j _ hv
  | succ i=>simp at hi) (v:=.c (.sl q)) (by unfold Uo;rw [c2];rfl)
 simp only [execOp,hop]
 refine YE ?_
 rw [e1]
 simp only [Instr.loadAt,ZD,Zu,Instr.sureAddr,Sem.run_bind,Sem.run_pure,Result.andThen_ok]
 exact hld
theorem Sat.putB {α:Type} {R:TRep α} {b p0 j k q:Nat} {vs:List Value} {xss:List (List α)} {v:Value} {xs:List α} {E:Env} {F:ZV} {w:World} {a:Act} (hs:Sat X s E F w a) (hM:Zl s.M k=some (.abs (Yu R X.n0 b p0 vs xss (some j)))) (hq:Zl s.M q=some (.own R xs true))
  (hv:E.ρ q=v) {arr:Array Value} {el:TypeId} {fz:Nat × Nat} (hb:w.heap[b]? = some (.cells arr el fz)) (hth:SY fz arr.size) (harr:∀ (i:Nat) (u:Value),(vs.set j v)[i]? = some u→arr[p0+i]? = some u) :
  Sat X ⟨s.L,(k,.abs (Yu R X.n0 b p0 (vs.set j v) (xss.set j xs) none))::(q,.gone)::s.M,s.V,s.nx⟩ E F w a:=by
 have hok:(Yu R X.n0 b p0 vs xss (some j)).ok F w:=hs.hM k _ hM
 obtain ⟨o1,o2,o3,o4,o5,o6,o7⟩:=hok
 have hown:OwnR R F w xs (E.ρ q):=hs.hM q _ hq
 rw [hv] at hown
 have hne:k≠q:=fun e=>by subst e;rw [hM] at hq;cases hq
 have hkn:=(hs.wf.hM k _ hM).1
 have hqn:=(hs.wf.hM q _ hq).1
 have hqf:∀ {c},Ya v=some c→(MO.own R xs true).fp E q c:=fun {c} h=>by show Ya (E.ρ q)=some c;rw [hv];exact h
 have hset:∀ {i:Nat} {u:Value},(vs.set j v)[i]? = some u→(j=i∧v=u)∨(i≠j∧vs[i]? = some u):=fun {i u} h=>by
  rw [List.getElem?_set] at h
  split at h
  ·rename_i e
   split at h
   ·cases h;exact .inl ⟨e,rfl⟩
   ·cases h
  ·rename_i e;exact .inr ⟨fun c=>e c.symm,h⟩
 have hsx:∀ {i:Nat} {ys:List α},(xss.set j xs)[i]? = some ys→(j=i∧xs=ys)∨(i≠j∧xss[i]? = some ys):=fun {i u} h=>by
  rw [List.getElem?_set] at h
  split at h
  ·rename_i e
   split at h
   ·cases h;exact .inl ⟨e,rfl⟩
   ·cases h
  ·rename_i e;exact .inr ⟨fun c=>e c.symm,h⟩
 have hnj:∀ {i:Nat},i≠j→(some j:Option Nat)≠some i:=fun {i} h e=>h (Option.some.inj e).symm
 have hfp:∀ c,(Yu R X.n0 b p0 (vs.set j v) (xss.set j xs) none).fp c→(Yu R X.n0 b p0 vs xss (some j)).fp c∨Ya v=some c:=fun c hc=>by
  rcases hc with hc | ⟨i,u,h1,_,h3⟩
  ·exact .inl (.inl hc)
  ·rcases hset h1 with ⟨rfl,rfl⟩ | ⟨h,h1⟩
   ·exact .inr h3
   ·exact .inl (.inr ⟨i,u,h1,hnj h,h3⟩)
 have hcase:∀ {i:Nat} {m:MO},Zl ((k,MO.abs (Yu R X.n0 b p0 (vs.set j v) (xss.set j xs) none))::(q,.gone)::s.M) i=some m →
   (k=i∧m=.abs (Yu R X.n0 b p0 (vs.set j v) (xss.set j xs) none))∨(q=i∧m=.gone)∨(i≠k∧i≠q∧Zl s.M i=some m):=fun {i m} h=>by
  rw [ZY] at h
  split at h
  ·rename_i e;cases h;exact .inl ⟨e,rfl⟩
  ·rename_i e1
   rw [ZY] at h
   split at h
   ·rename_i e;cases h;exact .inr (.inl ⟨e,rfl⟩)
   ·rename_i e2;exact .inr (.inr ⟨fun e=>e1 e.symm,fun e=>e2 e.symm,h⟩)
 exact hs.reM (M':=(k,.abs (Yu R X.n0 b p0 (vs.set j v) (xss.set j xs) none))::(q,.gone)::s.M) (fun i m h=>by
   rcases hcase h with ⟨rfl,rfl⟩ | ⟨rfl,rfl⟩ | ⟨_,_,h⟩
   ·exact ⟨hkn,trivial⟩
   ·exact ⟨hqn,trivial⟩
   ·exact hs.wf.hM i m h) (fun i m h=>by
   rcases hcase h with ⟨rfl,rfl⟩ | ⟨rfl,rfl⟩ | ⟨_,_,h⟩
   ·refine ⟨⟨arr,el,fz,hb,hth,harr⟩,by simpa using o2,o3,fun i u ys h1 h2 _=>?_,fun i u c h1 _ h3=>?_,fun i i' u u' c h1 h2 h3 _ _ h6 h7=>?_,fun u hu=>?_⟩
    ·rcases hset h1 with ⟨rfl,rfl⟩ | ⟨h,h1⟩
     ·rcases hsx h2 with ⟨_,rfl⟩ | ⟨h,_⟩
      ·exact hown
      ·exact absurd rfl h
     ·rcases hsx h2 with ⟨h',_⟩ | ⟨_,h2⟩
      ·exact absurd h'.symm h
      ·exact o4 i u ys h1 h2 (hnj h)
    ·rcases hset h1 with ⟨rfl,rfl⟩ | ⟨h,h1⟩
     ·exact ⟨hs.fresh q _ hq rfl c (hqf h3),fun e=>hs.dis k q _ _ hM hq hne c (.inl e) (hqf h3)⟩
     ·exact o5 i u c h1 (hnj h) h3
    ·rcases hset h1 with ⟨rfl,rfl⟩ | ⟨h,h1⟩
     ·rcases hset h2 with ⟨e,_⟩ | ⟨h',h2⟩
      ·exact h3 e
      ·exact hs.dis k q _ _ hM hq hne c (.inr ⟨i',u',h2,hnj h',h7⟩) (hqf h6)
     ·rcases hset h2 with ⟨rfl,rfl⟩ | ⟨h',h2⟩
      ·exact hs.dis k q _ _ hM hq hne c (.inr ⟨i,u,h1,hnj h,h6⟩) (hqf h7)
      ·exact o6 i i' u u' c h1 h2 h3 (hnj h) (hnj h') h6 h7
    ·rcases List.mem_or_eq_of_mem_set hu with h | h
     ·exact o7 u h
     ·rw [h];exact ZkP hown
   ·trivial
   ·exact hs.hM i m h) (fun i m h c hc=>by
   rcases hcase h with ⟨rfl,rfl⟩ | ⟨rfl,rfl⟩ | ⟨_,_,h⟩
   ·rcases hfp c hc with h | h
    ·exact ⟨_,_,hM,h⟩
    ·exact ⟨_,_,hq,hqf h⟩
   ·exact hc.elim
   ·exact ⟨i,m,h,hc⟩) (fun i i' m m' h h' hn c hc hc'=>by
   rcases hcase h with ⟨rfl,rfl⟩ | ⟨rfl,rfl⟩ | ⟨n1,n2,h⟩
   ·rcases hcase h' with ⟨rfl,rfl⟩ | ⟨rfl,rfl⟩ | ⟨n1',n2',h'⟩
    ·exact hn rfl
    ·exact hc'
    ·rcases hfp c hc with g | g
     ·exact hs.dis k i' _ m' hM h' hn c g hc'
     ·exact hs.dis q i' _ m' hq h' (fun e=>n2' e.symm) c (hqf g) hc'
   ·exact hc
   ·rcases hcase h' with ⟨rfl,rfl⟩ | ⟨rfl,rfl⟩ | ⟨n1',n2',h'⟩
    ·rcases hfp c hc' with g | g
     ·exact hs.dis i k m _ h hM hn c hc g
     ·exact hs.dis i q m _ h hq n2 c hc (hqf g)
    ·exact hc'
    ·exact hs.dis i i' m m' h h' hn c hc hc') (fun i m h hf c hc=>by
   rcases hcase h with ⟨rfl,rfl⟩ | ⟨rfl,rfl⟩ | ⟨_,_,h⟩
   ·cases hf
   ·cases hf
   ·exact hs.fresh i m h hf c hc)
theorem WPr.tst {α:Type} {R:TRep α} (htt:TTOk X.P tt) {i:Nat} {rest:List Nat} {o:Oper} {t:TypeId} {td:TD} {x y:Operand} {b p0 j k q:Nat} {vs:List Value} {xss:List (List α)} {xs:List α}
  (hj:Nat.blt j xss.length=true) (ho:ops[i]? = some o) (hg:Z3 ops s.L o=some true) (hop:o.op=.store t x y) (hd:o.dst=none)
  (hx:ZF s.L x=some (.c (.v (.pointer (some ⟨b,p0+j,none⟩))))) (hy:ZF s.L y=some (.c (.sl q))) (hM:Zl s.M k=some (.abs (Yu R X.n0 b p0 vs xss (some j)))) (hq:Zl s.M q=some (.own R xs true))
  (ht:Zl tt t=some td) (hc:Nat.beq td.sz 1=true)
  (kk:∀ v,WPr X ops rest todo ⟨s.L,(k,.abs (Yu R X.n0 b p0 (vs.set j v) (xss.set j xs) none))::(q,.gone)::(k,.abs (Yu R X.n0 b p0 (vs.set j v) xss (some j)))::s.M,s.V,s.nx⟩):WPr X ops (i::rest) todo s:=by
 intro E F w a hs
 simp only [wpOps,ho,RE hs hg,if_true]
 refine .inl ?_
 have hc:=Zd hc
 obtain ⟨e1,_⟩:=hs.eval hx
 obtain ⟨e2,_⟩:=hs.eval hy
 have hok:(Yu R X.n0 b p0 vs xss (some j)).ok F w:=hs.hM k _ hM
 obtain ⟨⟨arr,el,fz,h1,h2,h3⟩,o2,o3,o4,o5,o6,o7⟩:=hok
 have hj:j < vs.length:=by rw [o2];exact Yp hj
 have hcell:=h3 j _ (Za hj)
 have hja:p0+j < arr.size:=(Array.getElem?_eq_some_iff.1 hcell).1
 have hone:=hs.one q
 have hst:=PZ (P:=X.P) b (p0+j) el fz [E.ρ q] 0 arr w h1 h2 (by simp;omega) (by intro u hu;rw [List.mem_singleton.1 hu];exact hone)
 let arr':Array Value:=(arr.toList.take (p0+j+0)++[E.ρ q]++arr.toList.drop (p0+j+0+[E.ρ q].length)).toArray
 have hcs:(E.ρ q).cells=#[E.ρ q]:=by
  revert hone
  cases E.ρ q<;>simp [Value.oneCell',Value.cells]
 have hrun:(execOp a.eval o).run X.P w=.ok .skip (w.setRow b arr'):=by
  have hsv:(Instr.storeAt t (a.eval x) (a.eval y)).run X.P w=.ok () (w.setRow b arr'):=by
   rw [e1,e2]
   have hsz:(ZD E (.c (.sl q))).cells.size=td.sz:=by show (E.ρ q).cells.size=_;rw [hcs,hc];rfl
   show (Instr.storeAt t (.pointer (some ⟨b,p0+j,none⟩)) (ZD E (.c (.sl q)))).run X.P w=_
   simp only [Instr.storeAt,Instr.sureAddr,Sem.run_bind,Sem.run_pure,Result.andThen_ok,storeVar,Gv w (htt.get ht),hsz,ne_eq,not_true_eq_false,if_false]
   have:(ZD E (.c (.sl q))).cells.toList=[E.ρ q]:=by show (E.ρ q).cells.toList=_;rw [hcs]
   rw [this]
   exact hst
  simp only [execOp,hop,Sem.run_bind,hsv,Result.andThen_ok,Sem.run_pure]
 refine ZbC hrun ?_
 have hal:arr.toList.length=arr.size:=Array.length_toList
 have hasz:arr'.size=arr.size:=by
  simp only [arr',List.size_toArray,List.length_append,List.length_take,List.length_drop,hal,Zg,List.length_nil];omega
 have hset:∀ {i:Nat} {u:Value},(vs.set j (E.ρ q))[i]? = some u→(i=j∧u=E.ρ q)∨(i≠j∧vs[i]? = some u):=fun {i u} h=>by
  rw [List.getElem?_set] at h
  split at h
  ·rename_i e
   cases h;exact .inl ⟨e.symm,rfl⟩
  ·rename_i e;exact .inr ⟨fun c=>e c.symm,h⟩
 have hnj:∀ {i:Nat},i≠j→(some j:Option Nat)≠some i:=fun {i} h e=>h (Option.some.inj e).symm
 have hjn:∀ {i:Nat},(some j:Option Nat)≠some i→i≠j:=fun {i} h e=>h (by rw [e])
 have harr:∀ (i:Nat) (u:Value),(vs.set j (E.ρ q))[i]? = some u→arr'[p0+i]? = some u:=fun i u h=>by
  have htk:(arr.toList.take (p0+j+0)).length=p0+j:=by rw [List.length_take,hal];omega
  show ((arr.toList.take (p0+j+0)++[E.ρ q]++arr.toList.drop (p0+j+0+[E.ρ q].length)).toArray)[p0+i]? = _
  simp only [List.getElem?_toArray,List.append_assoc]
  rcases hset h with ⟨rfl,rfl⟩ | ⟨hn,h⟩
  ·rw [List.getElem?_append_right (by rw [htk];exact Nat.le_refl _),htk,Nat.sub_self];rfl
  ·have:=h3 i u h
   rcases Nat.lt_or_gt_of_ne hn with hlt | hgt
   ·rw [List.getElem?_append_left (by rw [htk];omega),List.getElem?_take,if_pos (by omega)]
    simpa using this
   ·rw [List.getElem?_append_right (by rw [htk];omega),htk,List.getElem?_append_right (by simp;omega),List.getElem?_drop]
    simp only [Zg,List.length_nil]
    rw [show p0+j+0+(0+1)+(p0+i-(p0+j)-(0+1))=p0+i by omega]
    simpa using this
 have hg:Wa F w F (w.setRow b arr'):=⟨fun _ h=>h,fun b' hb'=>setRow_other w b b' _ (fun h=>(hs.mF k _ hM b (.inl rfl)).1 (h ▸ hb'))⟩
 have hsr:=setRow_heap w b arr arr' el fz h1
 have s1:=hs.setM (m':=.abs (Yu R X.n0 b p0 (vs.set j (E.ρ q)) xss (some j))) (w':=w.setRow b arr') hM rfl rfl .m (by simp) (fun b' _ hne=>setRow_other w b b' _ (fun h=>hne (.inl h))) (fun c hc=>by
   rcases hc with hc | ⟨i,u,g1,g2,g3⟩
   ·exact .inl hc
   ·rcases hset g1 with ⟨e,_⟩ | ⟨_,g1⟩
    ·exact absurd e (hjn g2)
    ·exact .inr ⟨i,u,g1,g2,g3⟩) (by
   refine ⟨⟨arr',el,fz,hsr,by rw [hasz];exact h2,harr⟩,by simpa using o2,o3,fun i u ys g1 g2 g3=>?_,fun i u c g1 g2 g3=>?_,fun i i' u u' c g1 g2 g3 g4 g5 g6=>?_,fun u hu=>?_⟩
   ·rcases hset g1 with ⟨e,_⟩ | ⟨_,g1⟩
    ·exact absurd e (hjn g3)
    ·exact (o4 i u ys g1 g2 g3).mono hg fun c hc=>setRow_other w b c _ (fun h=>(o5 i u c g1 g3 hc).2 h)
   ·rcases hset g1 with ⟨e,_⟩ | ⟨_,g1⟩
    ·exact absurd e (hjn g2)
    ·exact o5 i u c g1 g2 g3
   ·rcases hset g1 with ⟨e,_⟩ | ⟨_,g1⟩
    ·exact absurd e (hjn g4)
    ·rcases hset g2 with ⟨e,_⟩ | ⟨_,g2⟩
     ·exact absurd e (hjn g5)
     ·exact o6 i i' u u' c g1 g2 g3 g4 g5 g6
   ·rcases List.mem_or_eq_of_mem_set hu with h | h
    ·exact o7 u h
    ·rw [h];exact hone) trivial (fun h=>by cases h)
 have hqk:q≠k:=fun e=>by subst e;rw [hM] at hq;cases hq
 have s2:=s1.putB (q:=q) (v:=E.ρ q) (xs:=xs) (by rw [ZY,if_pos rfl]) (by rw [ZY,if_neg (fun e=>hqk e.symm)];exact hq) rfl hsr (by rw [hasz];exact h2) (by rw [List.set_set];exact harr)
 rw [List.set_set] at s2
 rw [hd]
 exact kk _ _ _ _ _ s2
theorem Sat.frzT {α:Type} {R:TRep α} {b p0 k len:Nat} {vs:List Value} {xss:List (List α)} {E:Env} {F:ZV} {w:World} {a:Act} (hs:Sat X s E F w a) (hM:Zl s.M k=some (.abs (Yu R X.n0 b p0 vs xss none))) (hV:Zl s.V k=some (.fn (VQ b p0 len)))
  (hl:xss.length=len):Sat X ⟨s.L,(k,.gone)::s.M,(k,.sl (Yf R) xss)::s.V,s.nx⟩ E (fun c=>F c∨(Yu R X.n0 b p0 vs xss none).fp c) w a:=by
 have hk:=hs.wf.hM k _ hM
 have hg:Wa F w (fun c=>F c∨(Yu R X.n0 b p0 vs xss none).fp c) w:=⟨fun _ h=>.inl h,fun _ _=>rfl⟩
 have hmf:=hs.mF k _ hM
 have hok:(Yu R X.n0 b p0 vs xss none).ok F w:=hs.hM k _ hM
 obtain ⟨⟨arr,el,fz,h1,h2,h3⟩,o2,o3,o4,o5,o6,o7⟩:=hok
 obtain ⟨ZC,hcap,hρ⟩:VQ b p0 len (E.ρ k):=hs.hV k _ hV
 exact {
  wf:=⟨hs.wf.hL,fun j m h=>by
   rw [ZY] at h
   split at h
   ·rename_i e;cases h;subst e;exact ⟨hk.1,trivial⟩
   ·exact hs.wf.hM j m h,fun j f h=>by
   rw [ZY] at h
   split at h
   ·rename_i e;cases h;subst e;exact ⟨hk.1,trivial⟩
   ·exact hs.wf.hV j f h⟩
  nk:=hs.nk
  defers:=hs.defers
  size:=hs.size
  hL:=hs.hL
  hV:=fun j f h=>by
   rw [ZY] at h
   split at h
   ·rename_i e;cases h;subst e
    refine .inr ⟨b,p0,ZC,arr,el,fz,by rw [hρ,hl],by rw [hl];exact hcap,.inr (.inl rfl),h1,fun i x hx=>?_⟩
    have hi:i < vs.length:=by rw [o2];exact (List.getElem?_eq_some_iff.1 hx).1
    have hv:=Za hi
    refine ⟨[vs[i]],⟨vs[i],rfl,?_⟩,fun j v hj=>?_⟩
    ·rcases o4 i _ x hv hx (by simp) with ⟨g1,g2⟩ | ⟨b',off,cap',arr',el',fz',g1,g2,_,_,g5,g6⟩
     ·exact .inl ⟨g1,_,_,g2⟩
     ·exact .inr ⟨b',off,cap',arr',el',fz',g1,g2,.inr (.inr ⟨i,_,hv,by simp,by rw [g1];rfl⟩),g5,g6.mono hg⟩
    ·cases j with
     | zero=>simp at hj;subst hj;show arr[p0+i * 1+0]? = _;simpa using h3 i _ hv
     | succ j=>simp at hj
   ·exact (hs.hV j f h).mono hg
  hM:=fun j m h=>by
   rw [ZY] at h
   split at h
   ·cases h;trivial
   ·exact (hs.hM j m h).mono hg fun _ _=>rfl
  dis:=fun j j' m m' h h' hne b hb=>by
   rw [ZY] at h h'
   split at h
   ·cases h;exact hb.elim
   ·split at h'
    ·cases h';exact fun hb'=>hb'.elim
    ·exact hs.dis j j' m m' h h' hne b hb
  mF:=fun j m h c hc=>by
   rw [ZY] at h
   split at h
   ·cases h;exact hc.elim
   ·rename_i hne
    have:=hs.mF j m h c hc
    refine ⟨?_,this.2⟩
    rintro (hF | hb')
    ·exact this.1 hF
    ·exact hs.dis k j _ m hM h hne c hb' hc
  fresh:=fun j m h hfr c hc=>by
   rw [ZY] at h
   split at h
   ·cases h;exact hc.elim
   ·exact hs.fresh j m h hfr c hc
  hF:=fun c hc=>by
   rcases hc with hc | hc
   ·exact hs.hF c hc
   ·exact (hmf c hc).2.2
  hF0:=fun c hc=>.inl (hs.hF0 c hc)
  hF1:=fun c hc=>by
   rcases hc with hc | hc
   ·exact hs.hF1 c hc
   ·refine .inr ⟨?_,(hmf c hc).2.1⟩
    rcases hc with hc | ⟨i,u,g1,g2,g3⟩
    ·rw [hc];exact o3
    ·exact (o5 i u c g1 g2 g3).1
  hn0:=hs.hn0
  hZ:=hs.hZ
  ext:=hs.ext
  link:=hs.link
  one:=hs.one }
end
end
section
def V2 (cf:Int→Int→Int) (xs:List Int) (a b:{i:Int // i∈xs}):Bool:=Go.Proofs.ltOf (fun a b=>cf a.1 b.1) a b
abbrev Pt (xs:List Int) (h:xs≠[]):Inhabited {i:Int // i∈xs}:=⟨⟨xs.head h,List.head_mem h⟩⟩
def X3 (cf:Int→Int→Int):List Int→List Int
  | []=>[]
  | [x]=>[x]
  | x::y::r=>(@Go.Sort.pdq _ (Pt (x::y::r) (List.cons_ne_nil _ _)) (V2 cf (x::y::r)) (x::y::r).attach.toArray 0 (x::y::r).length (Go.Lib.bitLen (x::y::r).length) true true).toList.map (·.1)
abbrev Un (xs:List Int) (a:{i:Int // i∈xs}):Value:=.int .i64 a.1
theorem Zgi (cf:Int→Int→Int) (xs:List Int) (hne:xs≠[]) (hO:Go.Sort.SWO (V2 cf xs)) :
    (@Go.Sort.pdq _ (Pt xs hne) (V2 cf xs) xs.attach.toArray 0 xs.length (Go.Lib.bitLen xs.length) true true).toList.map (·.1)=X3 cf xs ∧
    (@Go.Sort.pdq _ (Pt xs hne) (V2 cf xs) xs.attach.toArray 0 xs.length (Go.Lib.bitLen xs.length) true true).size=xs.length:=by
  have hsz:xs.attach.toArray.size=xs.length:=by simp
  have h:=@Go.Sort.pdq_sorts _ (Pt xs hne) (V2 cf xs) hO xs.attach.toArray 0 xs.length (Go.Lib.bitLen xs.length) true true (Nat.zero_le _) (by simp) (Or.inl rfl)
  refine ⟨?_,h.1.1.trans hsz⟩
  match xs,hne,hO,h with
  | [x],hne,hO,h =>
    have hl:=h.1.1
    generalize (@Go.Sort.pdq _ (Pt [x] hne) (V2 cf [x]) [x].attach.toArray 0 [x].length (Go.Lib.bitLen [x].length) true true)=d at hl
    have hl:d.toList.length=1:=by rw [Array.length_toList,hl];rfl
    generalize d.toList=l at hl
    match l,hl with
    | [⟨z,hz⟩],_=>simp at hz;subst hz;rfl
  | x::y::r,_,_,_=>rfl
theorem ZlG (cf:Int→Int→Int) (xs:List Int) (hO:Go.Sort.SWO (V2 cf xs)) :
  (X3 cf xs).Perm xs∧∀ (i j:Nat) (a b:Int),i < j→(X3 cf xs)[i]? = some a→(X3 cf xs)[j]? = some b→¬ cf b a < 0:=by
 by_cases hne:xs=[]
 ·subst hne;exact ⟨List.Perm.refl _,fun i j a b _ h=>by simp [X3] at h⟩
 obtain ⟨h1,h2⟩:=Zgi cf xs hne hO
 rw [← h1]
 letI:=Pt xs hne
 have hsz:xs.attach.toArray.size=xs.length:=by simp
 have h:=Go.Sort.pdq_sorts (V2 cf xs) hO xs.attach.toArray 0 xs.length (Go.Lib.bitLen xs.length) true true (Nat.zero_le _) (by simp) (Or.inl rfl)
 generalize (Go.Sort.pdq (V2 cf xs) xs.attach.toArray 0 xs.length (Go.Lib.bitLen xs.length) true true)=d at h h2
 obtain ⟨⟨_,_,hp⟩,hs⟩:=h
 have e1:d.extract 0 xs.length=d:=by rw [← h2];simp
 have e2:xs.attach.toArray.extract 0 xs.length=xs.attach.toArray:=by rw [← hsz,Array.extract_size]
 rw [e1,e2] at hp
 refine ⟨?_,fun i j a b hij ha hb=>?_⟩
 ·have:=hp.map (fun a:{i:Int // i∈xs}=>a.1)
  simpa using this
 ·rw [List.getElem?_map,Option.map_eq_some_iff] at ha hb
  obtain ⟨a',ha,rfl⟩:=ha
  obtain ⟨b',hb,rfl⟩:=hb
  have hjl:j < d.size:=by have:=(List.getElem?_eq_some_iff.1 hb).1;simpa using this
  have:=hs i j (Nat.zero_le _) hij (by omega)
  have ea:d[i]! = a':=by
   have:d[i]? = some a':=by simpa using ha
   rw [getElem!_def,this]
  have eb:d[j]! = b':=by
   have:d[j]? = some b':=by simpa using hb
   rw [getElem!_def,this]
  rw [ea,eb] at this
  unfold V2 Go.Proofs.ltOf at this
  simpa using this
def Dp (lt:Int→Int→Bool) (xs:List Int):Bool:=xs.all fun a => !lt a a && xs.all fun b=>xs.all fun c=>(!(lt a b && lt b c) || lt a c) && (lt a b || lt b c || !lt a c)
theorem ZtZ {lt:Int→Int→Bool} {xs:List Int} (h:Dp lt xs=true):Go.Sort.SWO (fun a b:{i:Int // i∈xs}=>lt a.1 b.1):=by
 unfold Dp at h
 have h1:=fun a ha=>(Zc _ _ ▸ List.all_eq_true.1 h a ha:_∧_)
 have h2:=fun a ha b hb c hc=>(Zc _ _ ▸ List.all_eq_true.1 (List.all_eq_true.1 (h1 a ha).2 b hb) c hc:_∧_)
 refine ⟨fun x=>?_,fun x y z=>?_,fun x y z=>?_⟩
 ·have:=(h1 x.1 x.2).1
  revert this
  cases lt x.1 x.1<;>simp
 ·have:=(h2 x.1 x.2 y.1 y.2 z.1 z.2).1
  revert this
  cases lt x.1 y.1<;>cases lt y.1 z.1<;>cases lt x.1 z.1<;>simp
 ·have:=(h2 x.1 x.2 y.1 y.2 z.1 z.2).2
  revert this
  cases lt x.1 y.1<;>cases lt y.1 z.1<;>cases lt x.1 z.1<;>simp
theorem ZgM {cf:Int→Int→Int} {xs:List Int} (h:Dp (fun a b=>decide (cf a b < 0)) xs=true):Go.Sort.SWO (V2 cf xs):=ZtZ h
end
section
variable [LxP]
open Go.Proofs
abbrev MG:LxP:=⟨False⟩
theorem Zp5 {w w':World} (h1:w'.os=w.os) (h2:w'.tape=w.tape) (h3:Oq w w') (hL:¬ LxP.p) (hs:w.heap.size≤w'.heap.size) (hb:∀ b,b < w.heap.size→w'.heap[b]? = w.heap[b]?) :
  ∃ q os,w'=Go.Sort.grow (w.drewN q) os:=by
 refine ⟨w'.drawn-w.drawn,w'.heap.extract w.heap.size w'.heap.size,?_⟩
 obtain ⟨ho,hd⟩:=h3
 have hd:w.drawn≤w'.drawn:=hd.elim (fun h=>(hL h).elim) id
 obtain ⟨heap',tape',drawn',os',out'⟩:=w'
 obtain ⟨heap,tape,drawn,os,out⟩:=w
 simp only at h1 h2 ho hd hs hb
 subst h1 h2 ho
 simp only [Go.Sort.grow,World.drewN,World.mk.injEq]
 refine ⟨?_,by first | rfl | trivial,by omega,by first | rfl | trivial,by first | rfl | trivial⟩
 apply Array.ext_getElem?
 intro i
 by_cases hi:i < heap.size
 ·rw [hb i hi,Array.getElem?_append_left hi]
 ·rw [Array.getElem?_append_right (by omega),Array.getElem?_extract]
  split
  ·congr 1;omega
  ·rw [Array.getElem?_eq_none];omega
def Zbd (c:Ct):Bool:=c.M0.all fun p=>match p.2 with
 | .box cs _=>Nat.blt p.1 c.nk && cs.all (SC.kbb c.nk)
 | _=>false
theorem ZmB {c:Ct} {E E':Env} {F F':ZV} {w w':World} (hp:c.Pre E F w) (hq:c.Post E F w E' F' w') (hL:¬ LxP.p) (h1:c.M1=c.M0) (h2:Zbd c=true):∃ q os,w'=Go.Sort.grow (w.drewN q) os:=by
 refine Zp5 hq.ext.os hq.ext.tape hq.ext.output hL hq.ext.size fun b hb=>?_
 by_cases hf:c.fp0 E b
 ·obtain ⟨k,m,hk,hm⟩:=hf
  have hB:=List.all_eq_true.1 h2 _ (Yn hk)
  cases m with
  | box cs t =>
   simp only [Zc] at hB
   have g1:=hp.M k _ hk
   have g2:=hq.M k _ (by rw [h1];exact hk)
   have he:=hq.env k (Yp hB.1)
   simp only [MO.ok] at g1 g2
   have hm:b=E.β k:=hm
   rw [hm,g1,← he.2,g2,Mw hq.env fun x hx=>SC.kbb_ok (List.all_eq_true.1 hB.2 x hx)]
  | _=>cases hB
 ·exact hq.ext.block b ⟨hb,hf⟩
section
variable {X:Ctx} {s:St} {E:Env} {F:ZV} {w:World} {a:Act} {ops:Array Oper} {todo:Act→World→Prop}
theorem ZnZ {xs:List Int} [Inhabited {i:Int // i∈xs}] {blk off m:Nat} {dk:Array {i:Int // i∈xs}} {os:Array Obj} {arr:Array Value} {el:TypeId} {fz:Nat × Nat} (hb:w.heap[blk]? = some (.cells arr el fz)) :
  (sortWorld (Un xs) w blk off m dk os).heap[blk]? = some (.cells (Go.Sort.putCells (Un xs) off dk arr) el fz):=by
 have hlt:blk < w.heap.size:=(Array.getElem?_eq_some_iff.1 hb).1
 unfold sortWorld
 rw [Go.Sort.heap_grow_old _ _ (by simpa [Go.Sort.ahead] using hlt)]
 simp [Go.Sort.putRow,Go.Sort.mapBlock,Go.Sort.ahead,Array.getElem?_modify,hb,Go.Sort.onCells]
theorem Zpg {xs:List Int} [Inhabited {i:Int // i∈xs}] {blk off m:Nat} {dk:Array {i:Int // i∈xs}} {os:Array Obj} {b:Nat} (hb:b < w.heap.size) (hne:b≠blk) :
  (sortWorld (Un xs) w blk off m dk os).heap[b]? = w.heap[b]? := by
 unfold sortWorld
 rw [Go.Sort.heap_grow_old _ _ (by simpa [Go.Sort.ahead] using hb)]
 have:¬ blk=b:=fun e=>hne e.symm
 simp [Go.Sort.putRow,Go.Sort.mapBlock,Go.Sort.ahead,Array.getElem?_modify,this]
theorem Sat.srt (hs:Sat X s E F w a) {q blk off ZC:Nat} {xs:List Int} [Inhabited {i:Int // i∈xs}] {fr:Bool} {arr:Array Value} {el:TypeId} {fz:Nat × Nat} (hq:Zl s.M q=some (.own (rI .i64) xs fr))
    (hv:E.ρ q=.slice (some ⟨blk,off,none⟩) xs.length ZC) (hc:xs.length≤ZC) (ha:off+ZC≤arr.size) (hth:SY fz arr.size) (hb:w.heap[blk]? = some (.cells arr el fz))
    (m:Nat) (os:Array Obj) (dk:Array {i:Int // i∈xs}) (hd:dk.size=xs.length) :
    Sat X ⟨s.L,(q,.own (rI .i64) (dk.toList.map (·.1)) fr)::s.M,s.V,s.nx⟩ E F (sortWorld (Un xs) w blk off m dk os) a:=by
  refine hs.setM (m':=.own (rI .i64) (dk.toList.map (·.1)) fr) (w':=sortWorld (Un xs) w blk off m dk os) hq rfl rfl ⟨rfl,.inr (Nat.le_add_right _ _)⟩ (by simp [sortWorld,Go.Sort.ahead]) (fun b hb' hne=>Zpg hb' fun e=>hne ?_) (fun b hb=>hb) ?_ trivial (fun h=>h)
  · show Ya (E.ρ q)=some b
    rw [hv,e];rfl
  · refine .inr ⟨blk,off,ZC,Go.Sort.putCells (Un xs) off dk arr,el,fz,?_,?_,?_,?_,ZnZ hb,fun i x hx=>?_⟩
    · rw [hv];simp [hd]
    · simpa [hd] using hc
    · simpa [Go.Sort.putCells,rI] using ha
    · simpa [Go.Sort.putCells] using hth
    · refine ⟨[.int .i64 x],rfl,fun j v hj=>?_⟩
      rw [List.getElem?_map,Option.map_eq_some_iff] at hx
      obtain ⟨x',hx,rfl⟩:=hx
      have hi:i < dk.size:=by have:=(List.getElem?_eq_some_iff.1 hx).1;simpa using this
      cases j with
      | succ j=>simp at hj
      | zero =>
        simp only [List.getElem?_cons_zero,Option.some.injEq] at hj
        subst hj
        have hlt:off+i * 1+0 < arr.size:=by omega
        show (Go.Sort.putCells (Un xs) off dk arr)[off+i * 1+0]? = _
        unfold Go.Sort.putCells
        rw [Array.getElem?_mapIdx,Array.getElem?_eq_getElem hlt]
        have h1:off≤off+i * 1+0∧off+i * 1+0 < off+dk.size:=⟨by omega,by omega⟩
        have h2:off+i * 1+0-off=i:=by omega
        have h3:dk[i]! = x':=by
          have:dk[i]? = some x':=by simpa using hx
          rw [getElem!_def,this]
        simp only [Option.map_some,h1,and_self,if_true,h2,h3]
def Zje (s2:St) (c:Ct) (l:List (Nat × SC)):Prop :=
 c.V0.map (fun p=>Sx s2 ⟨l,c.nk,s2.nx⟩ [] p.1 p.2)=c.V0.map (fun p=>some p.2) ∧
 c.M0.map (fun p=>Wx s2 ⟨l,c.nk,s2.nx⟩ p.1 p.2)=c.M0.map (fun p=>some (WB ⟨l,c.nk,s2.nx⟩ p.2))∧S5 s2 c l []=true
theorem ZpV (hs:Sat X s E F w a) {q blk off ZC d:Nat} {xs:List Int} [Inhabited {i:Int // i∈xs}] {fr:Bool} {arr:Array Value} {el:TypeId} {fz:Nat × Nat} (hq:Zl s.M q=some (.own (rI .i64) xs fr))
    (hv:E.ρ q=.slice (some ⟨blk,off,none⟩) xs.length ZC) (hc:xs.length≤ZC) (ha:off+ZC≤arr.size) (hth:SY fz arr.size) (hb:w.heap[blk]? = some (.cells arr el fz))
    {f:FuncId} {ks:List Nat} {cf:Int→Int→Int} {ct:Int→Int→Ct} (hfn:∀ i k,i∈xs→k∈xs→@Fn MG X.P f (ct i k)) (l:List (Nat × SC)) (hd:d < X.fn.ntmps)
    (hck:∀ zs i k,Zje ⟨s.L,(q,.own (rI .i64) zs fr)::s.M,s.V,s.nx⟩ (ct i k) l)
    (hct:∀ i k,(ct i k).args.map (X2 ⟨l,(ct i k).nk,s.nx⟩)=[.c (.i .i64 i),.c (.i .i64 k)]++VW ks∧(ct i k).res=.c (.i .i64 (cf i k))∧(ct i k).M1=(ct i k).M0∧Zbd (ct i k)=true) :
    CmpLays1 X.P f (Xl E ks) (Un xs) (fun a b=>cf a.1 b.1) blk off xs.length w:=by
  intro m os dk hdk x y
  have s2:=hs.srt hq hv hc ha hth hb m os dk hdk
  obtain ⟨k1,k2,k3⟩:=hck (dk.toList.map (·.1)) x.1 y.1
  obtain ⟨a1,a2,a3,a4⟩:=hct x.1 y.1
  obtain ⟨hpre,_⟩:=ZgK s2 (c:=ct x.1 y.1) (l:=l) (bor:=[]) (d:=d) hd k1 k2 (.inl rfl) k3
  have hall:(ct x.1 y.1).args.all (VN ⟨l,(ct x.1 y.1).nk,s.nx⟩)=true:=by simp only [S5,Zc] at k3;exact k3.2
  have hargs:((ct x.1 y.1).args.map (ZD ((⟨l,(ct x.1 y.1).nk,s.nx⟩:Ren).env E))).toArray=#[Un xs x,Un xs y]++Xl E ks:=by
    have h1:(ct x.1 y.1).args.map (ZD ((⟨l,(ct x.1 y.1).nk,s.nx⟩:Ren).env E))=((ct x.1 y.1).args.map (X2 ⟨l,(ct x.1 y.1).nk,s.nx⟩)).map (ZD E):=by
      rw [List.map_map]
      exact List.map_congr_left fun v hv=>Gh _ E (List.all_eq_true.1 hall v hv)
    have hbox:(VW ks).map (ZD E)=(Xl E ks).toList:=by simp [VW,Xl,ZD,Zu,Function.comp_def]
    rw [h1,a1,List.map_append,hbox]
    apply Array.ext'
    simp [ZD,Zu]
  have:=@Fn.calls MG _ _ _ (hfn x.1 y.1 x.2 y.2) _ _ _ hpre
  rw [hargs] at this
  refine this.mono ?_
  rintro e w' ⟨E',F',rfl,hp⟩
  refine ⟨by rw [a2];rfl,?_⟩
  exact @ZmB MG _ _ _ _ _ _ _ hpre hp id a3 a4
theorem WPr.srt {ρ:Go.Shelf.Ren} {i:Nat} {rest:List Nat} {o:Oper} {x y:Operand} {ts:Array TypeId} {d q:Nat} {xs:List Int} {fr:Bool} {f:FuncId} {ks:List Nat} {cf:Int→Int→Int} {ct:Int→Int→Ct}
  (L:SlLaysF.n6 X.P ρ) (hlen:xs.length < 4611686018427387904) (hO:Go.Sort.SWO (V2 cf xs)) (hfn:∀ i k,i∈xs→k∈xs→@Fn MG X.P f (ct i k)) (l:List (Nat × SC))
  (ho:ops[i]? = some o) (hg:Z3 ops s.L o=some true) (hop:o.op=.call { callee:=.value (.func (ρ.f 6)),args:=#[x,y],argTypes:=ts }) (hd:o.dst=some d) (hdn:Nat.blt d X.fn.ntmps=true)
  (hx:ZF s.L x=some (.c (.sl q))) (hy:ZF s.L y=some (.c (.cl f [] ks))) (hq:Zl s.M q=some (.own (rI .i64) xs fr)) (hcal:Zc3 X.P f)
  (hck:∀ zs i k,Zje ⟨s.L,(q,.own (rI .i64) zs fr)::s.M,s.V,s.nx⟩ (ct i k) l)
  (hct:∀ i k,(ct i k).args.map (X2 ⟨l,(ct i k).nk,s.nx⟩)=[.c (.i .i64 i),.c (.i .i64 k)]++VW ks∧(ct i k).res=.c (.i .i64 (cf i k))∧(ct i k).M1=(ct i k).M0∧Zbd (ct i k)=true)
  (kk:WPr X ops rest todo ⟨(d,.t [])::s.L,(q,.own (rI .i64) (X3 cf xs) fr)::s.M,s.V,s.nx⟩):WPr X ops (i::rest) todo s:=by
 refine WPr.op ho hg (fun E F w a hs=>?_) kk
 obtain ⟨e1,_⟩:=hs.eval hx
 obtain ⟨e2,_⟩:=hs.eval hy
 have hev:(#[x,y]:Array Operand).map a.eval=#[E.ρ q,.func (.func f) #[] (Xl E ks)]:=by
  simp [e1,e2,ZD,Zu,Xl]
 have hrun:(execOp a.eval o).run X.P w=.ok (.enter (ρ.f 6) #[E.ρ q,.func (.func f) #[] (Xl E ks)]) w:=by
  unfold execOp
  simp only [hop,resolve,Deferred.ofValue,Act.eval,invoke,Sem.run_bind,Sem.run_pure,Result.andThen_ok]
  have:=L.f6.enters rfl (#[]++(#[x,y]:Array Operand).map a.eval++#[]) w
  simpa [hev] using this
 unfold Oper.wp
 rw [hrun]
 show Calls _ _ _ _ _
 have hown:OwnR (rI .i64) F w xs (E.ρ q):=hs.hM q _ hq
 have fin:∀ w',Sat X ⟨s.L,(q,.own (rI .i64) (X3 cf xs) fr)::s.M,s.V,s.nx⟩ E F w' a→∃ E' F',Sat X ⟨(d,.t [])::s.L,(q,.own (rI .i64) (X3 cf xs) fr)::s.M,s.V,s.nx⟩ E' F' w' (a.put (some d) (.tuple #[])) :=
  fun w' h=>⟨E,F,h.setL (d:=d) (v:=.t []) (by intro v hv;cases hv) (Yp hdn)⟩
 by_cases hne:xs=[]
 ·have hr:∃ p ZC,E.ρ q=.slice p 0 ZC:=by
   rcases hown with ⟨_,h⟩ | ⟨b,off,ZC,_,_,_,h,_⟩
   ·exact ⟨_,_,h⟩
   ·rw [hne] at h;exact ⟨_,_,h⟩
  obtain ⟨p,ZC,hr⟩:=hr
  rw [hr]
  refine (AnyF.slices_SortFunc_none { L with } p ZC _ w).mono ?_
  rintro e w' ⟨rfl,rfl⟩
  rw [hd]
  refine fin _ ?_
  have:X3 cf xs=xs:=by rw [hne];rfl
  rw [this]
  exact hs.reM (M':=(q,.own (rI .i64) xs fr)::s.M) (fun k m h=>by
    rw [ZY] at h
    split at h
    ·rename_i e;cases h;subst e;exact hs.wf.hM _ _ hq
    ·exact hs.wf.hM k m h) (fun k m h=>by
    rw [ZY] at h
    split at h
    ·rename_i e;cases h;subst e;exact hs.hM _ _ hq
    ·exact hs.hM k m h) (fun k m h b hb=>by
    rw [ZY] at h
    split at h
    ·rename_i e;cases h;subst e;exact ⟨_,_,hq,hb⟩
    ·exact ⟨k,m,h,hb⟩) (fun k k' m m' h h' hn b hb=>by
    have ZR:∀ {k m},Zl ((q,MO.own (rI .i64) xs fr)::s.M) k=some m→Zl s.M k=some m:=fun {k m} h=>by
     rw [ZY] at h
     split at h
     ·rename_i e;cases h;subst e;exact hq
     ·exact h
    exact hs.dis k k' m m' (ZR h) (ZR h') hn b hb) (fun k m h hf b hb=>by
    rw [ZY] at h
    split at h
    ·rename_i e;cases h;subst e;exact hs.fresh _ _ hq hf b hb
    ·exact hs.fresh k m h hf b hb)
 ·rcases hown with ⟨h,_⟩ | ⟨blk,off,ZC,arr,el,fz,hv,hc,ha,hth,hb,hrow⟩
  ·exact absurd h hne
  ·letI:=Pt xs hne
   have ha:off+ZC≤arr.size:=by simpa [rI] using ha
   have hsz:xs.attach.toArray.size=xs.length:=by simp
   have hlay:=ZpV hs hq hv hc ha hth hb hfn l (Yp hdn) hck hct
   have hH:Go.Sort.Holds (Un xs) w blk off xs.attach.toArray:=fun j hj=>by
    have hj':j < xs.length:=by rwa [hsz] at hj
    obtain ⟨vs,h1,h2⟩:=hrow j xs[j] (Za hj')
    have h1:vs=[.int .i64 xs[j]]:=h1
    subst h1
    have h3:=h2 0 _ rfl
    refine ⟨?_,?_⟩
    ·unfold World.cell?
     rw [hb]
     have:(xs.attach.toArray[j]! : {i:Int // i∈xs}).1=xs[j]:=by
      rw [getElem!_pos _ j (by simpa using hj')];simp
     show arr[off+j]? = some (.int .i64 _)
     rw [this]
     simpa [rI] using h3
    ·unfold World.frozen?
     rw [hb]
     exact hth (off+j) (by omega)
   have hrun2:=Any.slices_SortFunc_eq L (Un xs) (fun _=>rfl) (fun a b=>cf a.1 b.1) hO f (Xl E ks) blk off ZC xs.attach.toArray w (Zj9 hcal) (by rw [hsz];exact hlay) hH (Array.getElem?_eq_some_iff.1 hb).1 (by rw [hsz];exact hlen)
   rw [hsz] at hrun2
   rw [hv]
   refine hrun2.mono ?_
   rintro e w' ⟨rfl,n,os,rfl⟩
   rw [hd]
   refine fin _ ?_
   obtain ⟨p1,p2⟩:=Zgi cf xs hne hO
   have:=hs.srt hq hv hc ha hth hb n os _ p2
   rw [p1] at this
   exact this
end
end
section
variable [LxP]
open Go.Proofs
theorem og {β:Type} {b:Bool} {x:Option β} {r:β} (h:(bif b then x else none)=some r):b=true∧x=some r:=by
 cases b with
 | true=>exact ⟨rfl,h⟩
 | false=>cases h
section
variable {X:Ctx} {tt:List (Nat × TD)}
def Zcw (tt:List (Nat × TD)) (nt:Nat):Nat→Cf→Cf
 | 0,c=>c
 | n+1,c=>match a1 tt nt c with
  | .no=>c
  | c'=>Zcw tt nt n c'
theorem Zky (htt:TTOk X.P tt):∀ (n:Nat) {c:Cf},Wc X (Zcw tt X.fn.ntmps n c)→Wc X c
 | 0,_,h=>h
 | n+1,c,h=>by
  unfold Zcw at h
  split at h
  ·exact h
  ·exact Zik htt (Zky htt n h)
theorem wm (htt:TTOk X.P tt) {c:Cf} (k:Wc X (Zcw tt X.fn.ntmps 100 c)):Wc X c:=Zky htt 100 k
def ptV (b n:Nat):SV:=.c (.v (.pointer (some ⟨b,n,none⟩)))
def nTx (b n:Nat) (c:Cf):Cf:=YH (d1 c (ptV b n)) c
theorem eTx {b p0 len:Nat} {n:Int} {c:Cf} (htt:TTOk X.P tt) (hn:(decide (0≤n) && decide (n < (len:Int)))=true) (k:Wc X (nTx b (p0+n.toNat) c))
  (hp:(hB X.fn.ntmps c,(Zn c).dst,(Zn c).op,ZB c 0,Zl (Zq c).V (ZP (ZB c 0)),ZB c 1,Zl tt (ZE (Zn c).op),TX tt 1 c) =
   (true,some (Yb c),.indexAddr (ZE (Zn c).op) (ZL (Zn c).op 0) (ZL (Zn c).op 1),some (.c (.sl (ZP (ZB c 0)))),some (.fn (VQ b p0 len)),some (.c (.i (U5 (ZB c 1)) n)),some (ZO tt (ZE (Zn c).op)),true):=by kernel_rfl):Wc X c:=by
 simp only [Prod.mk.injEq] at hp
 obtain ⟨h1,h2,h3,h4,h5,h6,h7,h8⟩:=hp
 obtain ⟨h0,hn'⟩:=Y1 h1
 exact Wc.ev (d:=d1 c (ptV b (p0+n.toNat))) h0 (Xe h2 rfl) (fun nk E0 F0 w0 n0 Z rest K ho hg h=>WPr.tix (X:=X.var nk E0 F0 w0 n0 Z) htt hn ho hg h3 h2 h4 h5 h6 h7 (RK h8 hn') h) k
def sl6 (tt:List (Nat × TD)) (nt:Nat) (c:Cf):Bool:=Nat.blt (Yb c) nt && Nat.beq (ZO tt (ZE (Zn c).op)).kd 6
theorem eTn {b p0 len:Nat} {c:Cf} (htt:TTOk X.P tt) (k:Wc X (YH (d1 c (.c (.i .i64 len))) c))
  (hp:(hB X.fn.ntmps c,(Zn c).dst,(Zn c).op,ZB c 0,Zl (Zq c).V (ZP (ZB c 0)),Zl tt (ZE (Zn c).op),sl6 tt X.fn.ntmps c) =
   (true,some (Yb c),.call { callee:=.builtin .len,args:=#[ZL (Zn c).op 0],argTypes:=#[ZE (Zn c).op] },some (.c (.sl (ZP (ZB c 0)))),some (.fn (VQ b p0 len)),some (ZO tt (ZE (Zn c).op)),true):=by kernel_rfl):Wc X c:=by
 simp only [Prod.mk.injEq] at hp
 obtain ⟨h1,h2,h3,h4,h5,h6,h7⟩:=hp
 obtain ⟨h0,hn'⟩:=Y1 h1
 exact Wc.ev (d:=d1 c (.c (.i .i64 len))) h0 (Xe h2 rfl) (fun nk E0 F0 w0 n0 Z rest K ho hg h=>WPr.tln (X:=X.var nk E0 F0 w0 n0 Z) htt ho hg h3 h2 h4 h5 h6 h7 h) k
def nTl (q:Nat) (c:Cf):Cf:=YH (d1 c (.c (.sl q))) c
def ldB (tt:List (Nat × TD)) (nt q:Nat) (c:Cf):Bool:=Nat.blt (Yb c) nt && !(ZO tt (ZE (Zn c).op)).ag && Nat.blt q (Zq c).nx
theorem eTl {α:Type} {R:TRep α} {n1 b p0:Nat} {vs:List Value} {xss:List (List α)} {h:Option Nat} (kT q j:Nat) {c:Cf} (htt:TTOk X.P tt) (k:Wc X (nTl q c))
  (hp:(hB X.fn.ntmps c,(Zn c).dst,(Zn c).op,ZB c 0,Zl (Zq c).M kT,Zl (Zq c).V q,Zl tt (ZE (Zn c).op),ldB tt X.fn.ntmps q c) =
   (true,some (Yb c),.load (ZE (Zn c).op) (ZL (Zn c).op 0),some (ptV b (p0+j)),some (.abs (Yu R n1 b p0 vs xss h)),some (.fn (fun u=>vs[j]? = some u)),some (ZO tt (ZE (Zn c).op)),true):=by kernel_rfl):Wc X c:=by
 simp only [Prod.mk.injEq] at hp
 obtain ⟨h1,h2,h3,h4,h5,h6,h7,h8⟩:=hp
 obtain ⟨h0,hn'⟩:=Y1 h1
 unfold ldB at h8
 rw [Zc] at h8
 exact Wc.ev (d:=d1 c (.c (.sl q))) h0 (Xe h2 rfl) (fun nk E0 F0 w0 n0 Z rest K ho hg hh=>WPr.tld (X:=X.var nk E0 F0 w0 n0 Z) htt ho hg h3 h2 h4 h5 h6 h8.2 h7 h8.1 hh) k
def dSr (q:Nat) (zs:List Int) (c:Cf):Dl:=⟨[(Yb c,.t [])],[(q,.own (rI .i64) zs (Xy (Zl (Zq c).M q)))],[],0⟩
def nSr (q:Nat) (zs:List Int) (c:Cf):Cf:=YH (dSr q zs c) c
def P7 (q:Nat) (zs:List Int) (c:Cf):St:=⟨(Zq c).L,(q,.own (rI .i64) zs (Xy (Zl (Zq c).M q)))::(Zq c).M,(Zq c).V,(Zq c).nx⟩
theorem eSr {ρ:Go.Shelf.Ren} {q:Nat} {xs:List Int} {f:FuncId} {cf:Int→Int→Int} {ct:Int→Int→Ct} {c:Cf} (L:SlLaysF.n6 X.P ρ) (hlen:xs.length < 4611686018427387904) (hO:Go.Sort.SWO (V2 cf xs))
  (hcal:Zc3 X.P f) (hfn:∀ i k,i∈xs→k∈xs→@Fn MG X.P f (ct i k)) (l:List (Nat × SC)) (k:Wc X (nSr q (X3 cf xs) c))
  (hp:(hB X.fn.ntmps c,(Zn c).dst,(Zn c).op,ZB c 0,ZB c 1,Zl (Zq c).M q) =
   (true,some (Yb c),.call { callee:=.value (.func (ρ.f 6)),args:=#[ZL (Zn c).op 0,ZL (Zn c).op 1],argTypes:=ZcV (Zn c).op },some (.c (.sl q)),some (.c (.cl f [] (Hm (ZB c 1)))),some (.own (rI .i64) xs (Xy (Zl (Zq c).M q)))):=by kernel_rfl)
  (hck:∀ (zs:List Int) (i k:Int),((ct i k).V0.map (fun p=>Sx (P7 q zs c) ⟨l,(ct i k).nk,(P7 q zs c).nx⟩ [] p.1 p.2),(ct i k).M0.map (fun p=>Wx (P7 q zs c) ⟨l,(ct i k).nk,(P7 q zs c).nx⟩ p.1 p.2),S5 (P7 q zs c) (ct i k) l [],(ct i k).args.map (X2 ⟨l,(ct i k).nk,(P7 q zs c).nx⟩),(ct i k).res,(ct i k).M1,Zbd (ct i k)) =
   ((ct i k).V0.map (fun p=>some p.2),(ct i k).M0.map (fun p=>some (WB ⟨l,(ct i k).nk,(P7 q zs c).nx⟩ p.2)),true,[.c (.i .i64 i),.c (.i .i64 k)]++VW (Hm (ZB c 1)),.c (.i .i64 (cf i k)),(ct i k).M0,true):=by intro _ _ _;kernel_rfl):Wc X c:=by
 simp only [Prod.mk.injEq] at hp hck
 obtain ⟨h1,h2,h3,h4,h5,h6⟩:=hp
 obtain ⟨h0,hn'⟩:=Y1 h1
 exact Wc.ev (d:=dSr q (X3 cf xs) c) h0 (Xe h2 rfl) (fun nk E0 F0 w0 n0 Z rest K ho hg hh=>WPr.srt (X:=X.var nk E0 F0 w0 n0 Z) L hlen hO hfn l ho hg h3 h2 hn' h4 h5 h6 hcal
  (fun zs i k=>let ⟨a1,a2,a3,_,_,_,_⟩:=hck zs i k;⟨a1,a2,a3⟩) (fun i k=>let ⟨_,_,_,a4,a5,a6,a7⟩:=hck [] i k;⟨a4,a5,a6,a7⟩) hh) k
def Zeg (ops:Array Oper) (n:Nat):Bool:=Nat.beq ops.size (n+1) && match ops[n]? with
 | some o=>o.after.toList.all (fun d => !Region.binds .any d || Nat.blt d.on n) && (List.range n).all fun j=>o.after.toList.any fun d=>Region.binds .any d && Nat.beq d.on j
 | none=>false
def tlC:Cf→Cf
 | .rg (some q) ops i k s=>.rg none ops i k (WE q.2.2 s.nx q.2.1 fun _=>true)
 | _=>.no
def isT:Cf→Bool
 | .rg (some q) ops i _ _=>Nat.beq i q.2.2.length && Zeg ops i
 | _=>false
theorem eTt {c:Cf} (k:Wc X (tlC c)) (hp:(isT c,X.P.follows .mixedOrders,Hx c.ops.pop (Mn c) (SE c.ops.pop.toList []) (Dx c).nx c.st.nx,Hh (Mn c) (SE c.ops.pop.toList []) (Dx c))=(true,true,true,Ho (Mn c)):=by kernel_rfl):Wc X c:=by
 simp only [Prod.mk.injEq] at hp
 obtain ⟨h1,h2,h3,h4⟩:=hp
 cases c with
 | no=>cases h1
 | co k s=>cases h1
 | rg m ops i k' s =>
  cases m with
  | none=>cases h1
  | some q =>
   refine ⟨fun hA hl=>?_⟩
   obtain ⟨k⟩:=k
   obtain ⟨id,s0,es⟩:=q
   replace h3:Hx ops.pop es (SE ops.pop.toList []) s0.nx s.nx=true:=h3
   replace h4:Hh es (SE ops.pop.toList []) s0=Ho es:=h4
   replace hA:AllLS X ops 0 es:=hA
   replace h1:(Nat.beq i es.length && Zeg ops i)=true:=h1
   rw [Zc] at h1
   obtain ⟨hi,htl⟩:=h1
   have hi:=Zd hi
   subst hi
   unfold Zeg at htl
   rw [Zc] at htl
   obtain ⟨hz,htl⟩:=htl
   have hz:=Zd hz
   show WP X (.code (.region id ops true)::k') s0
   intro E F w a hs
   have c:=Zi6 h3
   refine ZeZ (wp_region_any h2 ?_)
   have hs':Sat X s0 E F { w with drawn:=w.drawn+1 } a:=hs.world rfl rfl .m (Nat.le_refl _) fun _ _=>rfl
   have hf:∀ j,(Array.replicate ops.size false).getD j false=false:=fun j=>by
    by_cases h:j < ops.size<;>simp [h]
   have:=ZiS (X:=X) (t:=1) (ops':=ops.pop) (todo:=rk X k') (Nat.le_refl _) hz (fun j hj=>by rw [Array.getElem?_pop,if_pos (by omega)]) (fun j o hj ho=>by
    have hj':=(Array.getElem?_eq_some_iff.1 ho).1
    obtain rfl:j=es.length:=by omega
    rw [ho] at htl
    simp only [Zc] at htl
    refine ⟨fun d hd hb=>?_,fun j hj=>?_⟩
    ·have:=List.all_eq_true.1 htl.1 d (by simpa using hd)
     rw [hb] at this
     exact Yp (by simpa using this)
    ·obtain ⟨d,hd,h⟩:=List.any_eq_true.1 (List.all_eq_true.1 htl.2 j (List.mem_range.2 hj))
     rw [Zc] at h
     exact ⟨d,by simpa using hd,h.1,Zd h.2⟩) hA c h4 hs.wf hs.nk (fun E F w a hs=>by
    have:=k E F w a hs
    rw [hz] at this
    rw [show es.length+1-es.length=1 by omega] at this
    exact this) es.length (Array.replicate ops.size false) E F _ a (by simp) (fun j _=>hf j)
    (fun i hi=>by rw [hf] at hi;cases hi) (Zey fun j _=>hf j) (by
     have:WE es s.nx s0 (fun j=>(Array.replicate ops.size false).getD j false)=⟨s0.L,s0.M,s0.V,s.nx⟩:=by
      rw [show (fun j=>(Array.replicate ops.size false).getD j false)=fun _=>false from funext hf]
      unfold WE
      rw [PW,PW,PW]
     rw [this]
     exact hs'.nxt c.nxle)
   rw [← hz] at this
   exact this
def nTs {α:Type} (R:TRep α) (n1 b p0:Nat) (vs:List Value) (xss:List (List α)) (kT q j:Nat) (xs:List α) (v:Value) (c:Cf):Cf :=
 YH ⟨[],[(kT,.abs (Yu R n1 b p0 (vs.set j v) (xss.set j xs) none)),(q,.gone),(kT,.abs (Yu R n1 b p0 (vs.set j v) xss (some j)))],[],0⟩ c
theorem eTs {α:Type} {R:TRep α} {b p0:Nat} {vs:List Value} {xss:List (List α)} {xs:List α} (kT q j:Nat) {c:Cf} (htt:TTOk X.P tt) (hj:Nat.blt j xss.length=true) (kk:∀ v,Wc X (nTs R X.n0 b p0 vs xss kT q j xs v c))
  (hp:(Tv c,(Zn c).dst,inC c,(Zn c).op,ZB c 0,ZB c 1,Zl (Zq c).M kT,Zl (Zq c).M q,Zl tt (ZE (Zn c).op),Nat.beq (ZO tt (ZE (Zn c).op)).sz 1) =
   (true,none,true,.store (ZE (Zn c).op) (ZL (Zn c).op 0) (ZL (Zn c).op 1),some (ptV b (p0+j)),some (.c (.sl q)),some (.abs (Yu R X.n0 b p0 vs xss (some j))),some (.own R xs true),some (ZO tt (ZE (Zn c).op)),true):=by kernel_rfl):Wc X c:=by
 simp only [Prod.mk.injEq] at hp
 obtain ⟨h0,h2,h3,h4,h5,h6,h7,h8,h9,h10⟩:=hp
 cases c with
 | co _ _=>cases h3
 | no=>cases h3
 | rg m ops i k' s =>
  cases m with
  | some q=>cases h3
  | none =>
   unfold Tv at h0
   rw [Zc,Zc] at h0
   obtain ⟨⟨_,g2⟩,g3⟩:=h0
   have ho:ops[i]? = some (Zn (.rg none ops i k' s)):=by
    obtain ⟨o,ho⟩:=Option.isSome_iff_exists.1 g2
    have ho:ops[i]? = some o:=ho
    unfold Zn
    show _=some ((ops[i]?).getD default)
    rw [ho];rfl
   have hg:Z3 ops s.L (Zn (.rg none ops i k' s))=some true:=by
    split at g3
    ·rename_i b hb;rw [g3] at hb;exact hb
    ·cases g3
   refine ⟨?_⟩
   show WPr X ops (List.range' i (ops.size-i)) (rk X k') s
   rw [DR ho]
   exact WPr.tst htt hj ho hg h4 h2 h5 h6 h7 h8 h9 h10 fun v=>(kk v).1
def ZhA:Cf→Bool
 | .co _ _=>true
 | .rg none _ _ _ _=>true
 | _=>false
theorem Zs0 {ι:Type} {f:ι→St→St} {c:Cf} (hc:ZhA c=true) (h:∀ E F w a,Sat X c.st E F w a→∃ i E' F',Sat X (f i c.st) E' F' w a) (k:∀ i,Wc X (R8 (f i) c)):Wc X c:=by
 cases c with
 | no=>cases hc
 | co k' s=>exact ⟨fun E F w a hs=>let ⟨i,E',F',hs'⟩:=h E F w a hs;(k i).1 E' F' w a hs'⟩
 | rg m ops i k' s =>
  cases m with
  | none=>exact ⟨fun E F w a hs=>let ⟨i,E',F',hs'⟩:=h E F w a hs;(k i).1 E' F' w a hs'⟩
  | some q=>cases hc
def stG {α:Type} (R:TRep α) (n1 b p0:Nat) (kT n:Nat) (s:St):St:=⟨s.L,(kT,.abs (Yu R n1 b p0 (List.replicate n (.slice none 0 0)) (List.replicate n []) none))::s.M,(kT,.fn (VQ b p0 n))::s.V,s.nx⟩
theorem eGt {α:Type} (R:TRep α) (kT:Nat) {xs:List Unit} (hne:xs≠[]) {c:Cf} (k:∀ q:Nat × Nat,Wc X (R8 (stG R X.n0 q.1 q.2 kT xs.length) c))
  (hp:(ZhA c,Zl c.st.M kT)=(true,some (.own DK xs true)):=by kernel_rfl):Wc X c:=by
 simp only [Prod.mk.injEq] at hp
 exact Zs0 hp.1 (fun E F w a hs=>let ⟨b,p0,h⟩:=hs.tab R hp.2 hne;⟨(b,p0),E,F,h⟩) k
def stK {α:Type} (R:TRep α) (n1 b p0:Nat) (vs:List Value) (xss:List (List α)) (kT j:Nat) (xs:List α) (s:St):St:=⟨s.L,(s.nx,.own R xs true)::(kT,.abs (Yu R n1 b p0 vs xss (some j)))::s.M,(s.nx,.fn (fun u=>vs[j]? = some u))::s.V,s.nx+1⟩
theorem eGk {α:Type} {R:TRep α} {b p0:Nat} {vs:List Value} {xss:List (List α)} {j:Nat} {xs:List α} (kT:Nat) (hx:xss[j]? = some xs) {c:Cf} (k:Wc X (R8 (stK R X.n0 b p0 vs xss kT j xs) c))
  (hp:Zl c.st.M kT=some (.abs (Yu R X.n0 b p0 vs xss none)):=by kernel_rfl):Wc X c:=by
 refine H8 (fun E F w a hs=>?_) k
 have hok:(Yu R X.n0 b p0 vs xss none).ok F w:=hs.hM kT _ hp
 have hl:=hok.2.1
 have hj:j < vs.length:=by rw [hl];exact (List.getElem?_eq_some_iff.1 hx).1
 obtain ⟨E',_,h⟩:=hs.take hp (Za hj) hx
 exact ⟨E',F,h⟩
def stP {α:Type} (R:TRep α) (n1 b p0:Nat) (vs:List Value) (xss:List (List α)) (kT q:Nat) (s:St):St:=⟨s.L,(kT,.abs (Yu R n1 b p0 vs xss none))::(q,.gone)::s.M,s.V,s.nx⟩
theorem eGp {α:Type} {R:TRep α} {b p0:Nat} {vs:List Value} {xss:List (List α)} {j:Nat} {xs:List α} (kT q:Nat) {c:Cf} (k:Wc X (R8 (stP R X.n0 b p0 vs (xss.set j xs) kT q) c))
  (hp:(Zl c.st.M kT,Zl c.st.M q,Zl c.st.V q)=(some (.abs (Yu R X.n0 b p0 vs xss (some j))),some (.own R xs true),some (.fn (fun u=>vs[j]? = some u))):=by kernel_rfl):Wc X c:=by
 simp only [Prod.mk.injEq] at hp
 obtain ⟨h1,h2,h3⟩:=hp
 refine H8 (fun E F w a hs=>⟨E,F,?_⟩) k
 have hv:vs[j]? = some (E.ρ q):=hs.hV q _ h3
 have hok:(Yu R X.n0 b p0 vs xss (some j)).ok F w:=hs.hM kT _ h1
 obtain ⟨⟨arr,el,fz,g1,g2,g3⟩,_⟩:=hok
 have e:vs.set j (E.ρ q)=vs:=by
  apply List.ext_getElem?
  intro i
  rw [List.getElem?_set]
  split
  ·rename_i h;subst h
   rw [if_pos (List.getElem?_eq_some_iff.1 hv).1,hv]
  ·rfl
 have:=hs.putB h1 h2 rfl g1 g2 (by rw [e];exact g3)
 rw [e] at this
 exact this
def stF {α:Type} (R:TRep α) (xss:List (List α)) (kT:Nat) (s:St):St:=⟨s.L,(kT,.gone)::s.M,(kT,.sl (Yf R) xss)::s.V,s.nx⟩
theorem eGf {α:Type} {R:TRep α} {b p0 len:Nat} {vs:List Value} {xss:List (List α)} (kT:Nat) (hl:xss.length=len) {c:Cf} (k:Wc X (R8 (stF R xss kT) c))
  (hp:(Zl c.st.M kT,Zl c.st.V kT)=(some (.abs (Yu R X.n0 b p0 vs xss none)),some (.fn (VQ b p0 len))):=by kernel_rfl):Wc X c:=by
 simp only [Prod.mk.injEq] at hp
 exact H8 (fun E F w a hs=>⟨E,_,hs.frzT hp.1 hp.2 hl⟩) k
end
end
section
variable [LxP]
section
variable {X:Ctx} {tt:List (Nat × TD)}
def kZ (c:Cf):Nat:=YR (Zl (Zq c).V (ZP (ZB c 0)))
def stZ {α:Type} (R:TRep α) (xs':List α) (c:Cf):St:=⟨(Zq c).L,(ZP (ZB c 0),.own R xs' (Xy (Zl (Zq c).M (kZ c))))::(kZ c,.gone)::(Zq c).M,(Zq c).V,(Zq c).nx⟩
def dAz {α:Type} (R:TRep α) (zs:List α) (c:Cf):Dl:=⟨[(Yb c,.c (.sl (Zq c).nx))],[((Zq c).nx,.own R zs (Xy (Zl (Zq c).M (kZ c)))),(ZP (ZB c 0),.gone),(kZ c,.gone)],[],1⟩
def nAz {α:Type} (R:TRep α) (zs:List α) (c:Cf):Cf:=YH (dAz R zs c) c
theorem eAz {α:Type} {xs xs' ys zs:List α} {lo hi:Option Int} {c:Cf} (htt:TTOk X.P tt) (R:TRep α) (hx:lsl xs lo hi=some xs') (hz:Z4 xs' ys=some zs) (k:Wc X (nAz R zs c))
  (hp:(hB X.fn.ntmps c,(Zn c).dst,(Zn c).op,ZB c 0,Zl (Zq c).V (ZP (ZB c 0)),Zl (Zq c).M (kZ c),(Zl (Zq c).M (ZP (ZB c 0))).isNone,ZB c 1,Zl tt (ZE (Zn c).op),Zl tt (XV (Zn c).op),(Nat.beq (ZO tt (ZE (Zn c).op)).kd 6 && (Nat.beq (ZO tt (XV (Zn c).op)).kd 6 || Nat.beq (ZO tt (XV (Zn c).op)).kd 2) && Nat.beq (ZO tt (ZE (Zn c).op)).es R.sz && Nat.ble (ZO tt (ZE (Zn c).op)).eb 32768),LR (stZ R xs' c) ys (UE (ZB c 1))) =
   (true,some (Yb c),.call { callee:=.builtin .append,args:=#[ZL (Zn c).op 0,ZL (Zn c).op 1],argTypes:=#[ZE (Zn c).op,XV (Zn c).op] },some (.c (.sl (ZP (ZB c 0)))),some (.vw (kZ c) lo hi R.sz),some (.own R xs (Xy (Zl (Zq c).M (kZ c)))),true,some (.c (UE (ZB c 1))),some (ZO tt (ZE (Zn c).op)),some (ZO tt (XV (Zn c).op)),true,Lb R ys (UE (ZB c 1))):=by kernel_rfl):Wc X c:=by
 simp only [Prod.mk.injEq,Option.isNone_iff_eq_none] at hp
 obtain ⟨h1,h2,h3,h4,hv,hm,hk,h6,h7,h8,h9,h10⟩:=hp
 obtain ⟨h0,hn⟩:=Y1 h1
 refine Wc.ev (d:=dAz R zs c) h0 (Xe h2 rfl) (fun nk E0 F0 w0 n0 Z rest K ho hg h=>?_) k
 have step:WPr (X.var nk E0 F0 w0 n0 Z) c.ops (c.i::rest) K (stZ R xs' c):=by
  refine WPr.app (X:=X.var nk E0 F0 w0 n0 Z) htt hz (ZaQ h10) ho hg h3 h2 h4 (by show Zl (_::_) _=_;rw [ZY,if_pos rfl]) h6 h7 h8 (by rw [hn];simpa using h9) ?_
  intro E F w a hs
  refine h E F w a (hs.same rfl (fun _=>rfl) (fun d=>?_) (fun _=>rfl))
  simp only [dAz,Dl.ap,stZ,List.cons_append,List.nil_append]
  simp only [ZY]
  split
  ·rfl
  ·split
   ·rfl
   ·split<;>rfl
 intro E F w a hs
 exact step E F w a (hs.settle hx hv hm hk)
end
end
section

end
end Go.Kx
section
namespace Go.Kx
variable [LxP]
section
variable {X:Ctx} {s:St} {ops:Array Oper} {todo:Act→World→Prop} {tt:List (Nat × TD)}
end
section
variable {X:Ctx} {tt:List (Nat × TD)}
end
end Go.Kx
namespace Go.Kx
variable [LxP]
end Go.Kx
namespace Go.Kx
end Go.Kx
end
section
namespace Go.Kx
variable [LxP]
def QB (ty:TypeId) (off:Nat) (el:TypeId):Prop:=off=0∧el=ty
theorem BufR.q {ty:TypeId} {F:ZV} {w:World} {s:ByteArray} {v:Value} (h:BufR ty w s v):OwnQ (QB ty) (rI .u8) F w (LK s) v:=by
 rcases h with ⟨h,rfl⟩ | ⟨b,ZC,arr,fz,hv,h1,h2,h3,h4,h5⟩
 ·refine .inl ⟨List.eq_nil_of_length_eq_zero (by rw [Gg];exact h),rfl⟩
 ·refine .inr ⟨b,0,ZC,arr,ty,fz,⟨rfl,rfl⟩,by rw [Gg];exact hv,by rw [Gg];exact h1,?_,h3,h4,fun i x hx=>?_⟩
  ·show 0+ZC * 1≤_;omega
  ·refine ⟨[.int .u8 x],rfl,fun j v hj=>?_⟩
   cases j with
   | succ j=>simp at hj
   | zero =>
    simp only [List.getElem?_cons_zero,Option.some.injEq] at hj
    subst hj
    unfold LK at hx
    rw [List.getElem?_map,Option.map_eq_some_iff] at hx
    obtain ⟨u,hu,rfl⟩:=hx
    have:=h5 i u hu
    show arr[0+i * 1+0]? = _
    rw [Nat.zero_add,Nat.mul_one,Nat.add_zero]
    exact this
theorem BufR.of {ty:TypeId} {F:ZV} {w:World} {s:ByteArray} {v:Value} (h:OwnQ (QB ty) (rI .u8) F w (LK s) v):BufR ty w s v:=by
 rcases h with ⟨h,rfl⟩ | ⟨b,off,ZC,arr,el,fz,⟨rfl,rfl⟩,hv,h1,h2,h3,h4,h5⟩
 ·exact .inl ⟨by rw [← Gg,h];rfl,rfl⟩
 ·rw [Gg] at hv h1
  refine .inr ⟨b,ZC,arr,fz,hv,h1,?_,h3,h4,fun i u hu=>?_⟩
  ·have h2:0+ZC * 1≤arr.size:=h2
   omega
  ·obtain ⟨vs,hr,hc⟩:=h5 i (u.toNat:Int) (by unfold LK;rw [List.getElem?_map,hu];rfl)
   have hr:vs=[.int .u8 (u.toNat:Int)]:=hr
   subst hr
   have:=hc 0 _ rfl
   have e:0+i * (rI .u8).sz+0=i:=by show 0+i * 1+0=i;omega
   rw [e] at this
   exact this
section
variable {X:Ctx} {s:St} {ops:Array Oper} {todo:Act→World→Prop} {tt:List (Nat × TD)}
theorem WPr.nnz {i:Nat} {rest:List Nat} {o:Oper} {t el yt d:Nat} {x y:Operand} (neg:Bool)
  (ho:ops[i]? = some o) (hg:Z3 ops s.L o=some true) (hop:o.op=.binOp (bif neg then .neq else .eql) t x y yt) (hd:o.dst=some d) (hu:X.P.underlying t=some (.slice el))
  (hx:ZF s.L x=some (.c .nil)) (hy:ZF s.L y=some (.c .nil)) (hn:Nat.blt d X.fn.ntmps=true)
  (kk:WPr X ops rest todo ⟨(d,.c (.b (!neg)))::s.L,s.M,s.V,s.nx⟩):WPr X ops (i::rest) todo s:=by
 refine WPr.val (v:=.c (.b (!neg))) (fun E F w a hs=>?_) ho hg hd hn kk
 obtain ⟨e1,_⟩:=hs.eval hx
 obtain ⟨e2,_⟩:=hs.eval hy
 refine ⟨?_,trivial⟩
 have heq:(Op.equal t (.slice none 0 0) (.slice none 0 0)).run X.P w=.ok true w:=by
  show (Op.equalIn (9999+1) t _ _).run X.P w=.ok true w
  generalize 9999=q
  simp [Op.equalIn,Yz hu]
 cases neg with
 | false =>
  rw [cond_false] at hop
  simp only [execOp,hop,e1,e2,ZD,Zu]
  refine YE ?_
  simp only [eqGuard,Sem.run_bind,Sem.run_pure,Result.andThen_ok]
  show (do pure (Value.bool (← Op.equal t _ _)):Sem Value).run X.P w=_
  simp only [Sem.run_bind,heq,Result.andThen_ok,Sem.run_pure,Bool.not_false]
 | true =>
  rw [cond_true] at hop
  simp only [execOp,hop,e1,e2,ZD,Zu]
  refine YE ?_
  simp only [eqGuard,Sem.run_bind,Sem.run_pure,Result.andThen_ok]
  show (do pure (Value.bool (!(← Op.equal t _ _))):Sem Value).run X.P w=_
  simp only [Sem.run_bind,heq,Result.andThen_ok,Sem.run_pure]
end
section
variable {X:Ctx} {tt:List (Nat × TD)}
def nBo (b:Bool) (c:Cf):Cf:=YH (d1 c (.c (.b b))) c
theorem eNz {c:Cf} (neg:Bool) (k:Wc X (nBo (!neg) c))
  (hp:(hB X.fn.ntmps c,(Zn c).dst,(Zn c).op,X.P.underlying (ZE (Zn c).op),ZB c 0,ZB c 1)=(true,some (Yb c),.binOp (bif neg then .neq else .eql) (ZE (Zn c).op) (ZL (Zn c).op 0) (ZL (Zn c).op 1) (XV (Zn c).op),some (.slice (W6 X.P (ZE (Zn c).op))),some (.c .nil),some (.c .nil)):=by kernel_rfl):Wc X c:=by
 simp only [Prod.mk.injEq] at hp
 obtain ⟨h1,h2,h3,h4,h5,h6⟩:=hp
 obtain ⟨h0,hn⟩:=Y1 h1
 exact Wc.ev (d:=d1 c (.c (.b (!neg)))) h0 (Xe h2 rfl) (fun nk E0 F0 w0 n0 Z rest K ho hg h=>WPr.nnz (X:=X.var nk E0 F0 w0 n0 Z) neg ho hg h3 h2 h4 h5 h6 hn h) k
end
end Go.Kx
end
