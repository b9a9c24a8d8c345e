/- Aids for the walks, part 4: a symbolic state of the machine, and that each step of the machine keeps it. -/
import Derived.Calls
import Derived.Test.YtngljfgicoflaaaGreatDoorGuardFillCore3
set_option linter.all false
section
namespace Go.Kx
def scEq:SC→SC→Bool
 | .i k n,.i k' n'=>decide (k=k') && decide (n=n')
 | .b x,.b y=>x==y
 | .s x,.s y=>decide (x.data.toList=y.data.toList)
 | .bp k o,.bp k' o'=>Nat.beq k k' && Nat.beq o o'
 | .sl k,.sl k'=>Nat.beq k k'
 | .nil,.nil=>true
 | .sp a b c d,.sp a' b' c' d'=>Nat.beq a a' && Nat.beq b b' && Nat.beq c c' && Nat.beq d d'
 | .cl f fs ks,.cl f' fs' ks'=>decide (f=f') && decide (fs=fs') && decide (ks=ks')
 | .v (.pointer none),.v (.pointer none)=>true
 | .v .nilFunc,.v .nilFunc=>true
 | _,_=>false
theorem scEq_ok {x y:SC} (h:scEq x y=true):x=y:=by
 unfold scEq at h
 split at h
 all_goals try simp only [Bool.and_eq_true,decide_eq_true_eq] at h
 ·rw [h.1,h.2]
 ·rw [eq_of_beq h]
 ·rename_i x y
  obtain ⟨⟨x⟩⟩:=x
  obtain ⟨⟨y⟩⟩:=y
  simp at h
  rw [h]
 ·rw [Nat.eq_of_beq_eq_true h.1,Nat.eq_of_beq_eq_true h.2]
 ·rw [Nat.eq_of_beq_eq_true h]
 ·rfl
 ·rw [Nat.eq_of_beq_eq_true h.1.1.1,Nat.eq_of_beq_eq_true h.1.1.2,Nat.eq_of_beq_eq_true h.1.2,Nat.eq_of_beq_eq_true h.2]
 ·rw [h.1.1,h.1.2,h.2]
 ·rfl
 ·rfl
 ·cases h
def lsEq:List SC→List SC→Bool
 | [],[]=>true
 | x::xs,y::ys=>scEq x y && lsEq xs ys
 | _,_=>false
theorem lsEq_ok:∀ {xs ys:List SC},lsEq xs ys=true→xs=ys
 | [],[],_=>rfl
 | x::xs,y::ys,h=>by
  simp only [lsEq,Bool.and_eq_true] at h
  rw [scEq_ok h.1,lsEq_ok h.2]
 | [],_::_,h=>by cases h
 | _::_,[],h=>by cases h
def tsEq:List (SC ⊕ List SC)→List (SC ⊕ List SC)→Bool
 | [],[]=>true
 | .inl x::xs,.inl y::ys=>scEq x y && tsEq xs ys
 | .inr x::xs,.inr y::ys=>lsEq x y && tsEq xs ys
 | _,_=>false
theorem tsEq_ok:∀ {xs ys:List (SC ⊕ List SC)},tsEq xs ys=true→xs=ys
 | [],[],_=>rfl
 | .inl x::xs,.inl y::ys,h=>by
  simp only [tsEq,Bool.and_eq_true] at h
  rw [scEq_ok h.1,tsEq_ok h.2]
 | .inr x::xs,.inr y::ys,h=>by
  simp only [tsEq,Bool.and_eq_true] at h
  rw [lsEq_ok h.1,tsEq_ok h.2]
 | [],_::_,h=>by cases h
 | .inl _::_,[],h=>by cases h
 | .inr _::_,[],h=>by cases h
 | .inl _::_,.inr _::_,h=>by cases h
 | .inr _::_,.inl _::_,h=>by cases h
def svEq:SV→SV→Bool
 | .c x,.c y=>scEq x y
 | .a x,.a y=>lsEq x y
 | .t x,.t y=>tsEq x y
 | .u,.u=>true
 | _,_=>false
theorem svEq_ok {x y:SV} (h:svEq x y=true):x=y:=by
 unfold svEq at h
 split at h
 ·rw [scEq_ok h]
 ·rw [lsEq_ok h]
 ·rw [tsEq_ok h]
 ·rfl
 ·cases h
def moEq:MO→MO→Bool
 | .box x t,.box y u=>lsEq x y && Nat.beq t u
 | .arr x t v,.arr y u v'=>lsEq x y && Nat.beq t u && Nat.beq v v'
 | .gone,.gone=>true
 | _,_=>false
theorem moEq_ok {x y:MO} (h:moEq x y=true):x=y:=by
 unfold moEq at h
 split at h
 all_goals try simp only [Bool.and_eq_true] at h
 ·rw [lsEq_ok h.1,Nat.eq_of_beq_eq_true h.2]
 ·rw [lsEq_ok h.1.1,Nat.eq_of_beq_eq_true h.1.2,Nat.eq_of_beq_eq_true h.2]
 ·rfl
 ·cases h
def svEqO:Option SV→SV→Bool
 | some x,y=>svEq x y
 | none,_=>false
def moEqO:Option MO→MO→Bool
 | some x,y=>moEq x y
 | none,_=>false
theorem svEqO_ok {x:Option SV} {y:SV} (h:svEqO x y=true):x=some y:=by
 cases x with
 | none=>cases h
 | some x=>rw [svEq_ok h]
theorem moEqO_ok {x:Option MO} {y:MO} (h:moEqO x y=true):x=some y:=by
 cases x with
 | none=>cases h
 | some x=>rw [moEq_ok h]
def subK {α:Type _} (p:Nat→Bool):List (Nat × α)→Nat→List (Nat × α)
 | [],_=>[]
 | (k,v)::r,seen=>bif p k && !(Nat.testBit seen k) then (k,v)::subK p r (Nat.lor seen (2 ^ k)) else subK p r seen
theorem subK_look {α:Type _} {p:Nat→Bool}:∀ {l:List (Nat × α)} {seen k:Nat} {v:α},look (subK p l seen) k=some v→look l k=some v∧Nat.testBit seen k=false∧p k=true
 | [],_,_,_,h=>by cases h
 | (j,u)::r,seen,k,v,h=>by
  unfold subK at h
  cases hb:(p j && !(Nat.testBit seen j)) with
  | true =>
   rw [hb] at h
   simp only [cond_true] at h
   simp only [Bool.and_eq_true,Bool.not_eq_true'] at hb
   rw [look_cons] at h ⊢
   split at h
   ·rename_i e;cases h;subst e;simp [hb.1,hb.2]
   ·rename_i e
    obtain ⟨h1,h2,h3⟩:=subK_look h
    have h2':Nat.testBit (seen ||| 2 ^ j) k=false:=h2
    rw [Nat.testBit_or,Bool.or_eq_false_iff] at h2'
    rw [if_neg e]
    exact ⟨h1,h2'.1,h3⟩
  | false =>
   rw [hb] at h
   simp only [cond_false] at h
   obtain ⟨h1,h2,h3⟩:=subK_look h
   rw [look_cons]
   have:j≠k:=fun e=>by subst e;rw [h2,h3] at hb;cases hb
   rw [if_neg this]
   exact ⟨h1,h2,h3⟩
def scKeys:SC→List Nat
 | .bp k _ | .sp k _ _ _ | .sl k | .px k _=>[k]
 | .cl _ fs ks=>fs++ks
 | _=>[]
def lsKeys:List SC→List Nat
 | []=>[]
 | c::r=>scKeys c++lsKeys r
def svCs:SV→List SC
 | .c x=>[x]
 | .a cs=>cs
 | .t vs=>vs.flatMap fun v=>match v with | .inl x=>[x] | .inr cs=>cs
 | .u=>[]
def mark (M:List (Nat × MO)):Nat→List Nat→Nat→Nat
 | 0,_,m=>m
 | _+1,[],m=>m
 | n+1,k::r,m=>bif Nat.testBit m k then mark M n r m else match cellsAt M k with
  | some cs=>mark M n (lsKeys cs++r) (Nat.lor m (2 ^ k))
  | none=>mark M n r (Nat.lor m (2 ^ k))
def slots:List Operand→List Nat
 | []=>[]
 | .tmp t::r=>t::slots r
 | _::r=>slots r
def gSlot (ops:Array Oper) (o:Oper):List Nat:=match o.guard with
 | none=>[]
 | some (j,_)=>match ops[j]? with
  | some oj=>oj.dst.toList
  | none=>[]
def pickL (L:List (Nat × SV)):List Nat→List (Nat × SV)
 | []=>[]
 | d::r=>match look L d with
  | some v=>(d,v)::pickL L r
  | none=>pickL L r
def isCall:Op→Bool
 | .call c=>match c.callee with
  | .value _=>true
  | _=>false
 | _=>false
def chd (M M':List (Nat × MO)) (k:Nat):Bool:=match look M k with
 | some m=>match look M' k with
  | some m' => !(moEq m' m)
  | none=>true
 | none=>true
def dLof (o:Oper) (L:List (Nat × SV)):List (Nat × SV):=match o.dst with
 | some d=>match look L d with
  | some v=>[(d,v)]
  | none=>[]
 | none=>[]
section
variable (P:Program) (tt:List (Nat × TD)) (call:Cal) (ext:Xt) (nt:Nat) (ops:Array Oper)
def entE (o:Oper) (L:List (Nat × SV)) (M:List (Nat × MO)) (k0:Nat):Option Ent:=match evOp P tt call ext nt o ⟨L,M,[],k0⟩ with
 | some s1=>some ⟨L,[],M.filter (fun q=>chd M s1.M q.1),M.filter (fun q => !(chd M s1.M q.1)),k0,dLof o s1.L,[],(subK (fun k=>chd M s1.M k) s1.M 0),s1.nx⟩
 | none=>none
def entOf (i:Nat) (s:St):Option Ent:=match ops[i]? with
 | some o =>
  match pickL s.L (gSlot ops o++slots o.op.operands.toList) with
  | L=>match guardV ops L o with
   | some false=>(match o.dst with
    | some d=>bif Nat.blt d nt then some ⟨L,[],[],[],s.nx,[(d,.u)],[],[],s.nx⟩ else none
    | none=>some ⟨L,[],[],[],s.nx,[],[],[],s.nx⟩)
   | some true=>match L.flatMap (fun q=>lsKeys (svCs q.2)) with
    | ks=>match (bif isCall o.op then mark s.M 1000000 ks 0 else ks.foldl (fun m k=>Nat.lor m (2 ^ k)) 0) with
     | m=>match entE P tt call ext nt o L (subK (fun k=>Nat.testBit m k) s.M 0) s.nx with
      | some e=>bif Nat.beq e.dL.length o.dst.toList.length then some e else none
      | none=>none
   | none=>none
 | none=>none
def entsOf:List Nat→St→Option (List Ent)
 | [],_=>some []
 | i::r,s=>match entOf P tt call ext nt ops i s with
  | some e=>match entsOf r ⟨e.dL++s.L,e.dM++s.M,s.V,e.k1⟩ with
   | some es=>some (e::es)
   | none=>none
  | none=>none
def ancL:List Oper→List Nat→List Nat
 | [],acc=>acc
 | o::r,acc=>ancL r (acc++[ancF acc o.after.toList])
def needsB (ents:List Ent) (anc:List Nat) (s:St):Bool:=(List.range ents.length).all fun i =>
 (entA ents i).L.all (fun q=>svEqO (look (gath (fun j=>(entA ents j).dL) (ancB anc i) s.L ents.length) q.1) q.2) && (entA ents i).V.isEmpty &&
 ((entA ents i).W++(entA ents i).R).all (fun q=>moEqO (look (gath (fun j=>(entA ents j).dM) (ancB anc i) s.M ents.length) q.1) q.2)
def lastK (nx:Nat):List Ent→Nat
 | []=>nx
 | e::r=>lastK e.k1 r
def evDrawn (s:St):Option St:=match entsOf P tt call ext nt ops (List.range ops.size) s with
 | some es=>match ancL ops.toList [] with
  | anc=>match lastK s.nx es with
   | nx=>bif chkB ops es anc s.nx nx && needsB es anc s then some (stD es nx s fun _=>true) else none
 | none=>none
end
section
variable {X:Ctx} {s s':St} {tt:List (Nat × TD)} {o:Oper} {call:Cal} {ext:Xt} {ops:Array Oper}
theorem needsB_ok {ents:List Ent} {anc:List Nat} (h:needsB ents anc s=true):needs ents anc s=wants ents:=by
 unfold needs wants
 refine List.map_congr_left fun i hi=>?_
 have:=List.all_eq_true.1 h i hi
 simp only [Bool.and_eq_true] at this
 obtain ⟨⟨h1,h2⟩,h3⟩:=this
 have e1:(entA ents i).V=[]:=by simpa using h2
 simp only [Prod.mk.injEq]
 refine ⟨List.map_congr_left fun q hq=>svEqO_ok (List.all_eq_true.1 h1 q hq),by rw [e1];rfl,List.map_congr_left fun q hq=>moEqO_ok (List.all_eq_true.1 h3 q hq)⟩
theorem WP.regionE {ents:List Ent} {nx id:Nat} {k':List Item} (anc:List Nat) (hl:AllLS X ops 0 ents) (hm:X.P.follows .mixedOrders=true) (hc:chkB ops ents anc s.nx nx=true)
  (hN:needs ents anc s=wants ents) (h:WP X k' (stD ents nx s fun _=>true)):WP X (.code (.region id ops true)::k') s:=by
 intro E F w a hs
 have c:=chkB_ok hc
 refine runs_of_wp (wp_region_any hm ?_)
 have hs':Sat X s E F { w with drawn:=w.drawn+1 } a:=hs.world rfl rfl rfl (Nat.le_refl _) fun _ _=>rfl
 have hf:∀ j,(Array.replicate ops.size false).getD j false=false:=fun j=>by
  by_cases h:j < ops.size<;>simp [h]
 refine regionD_aux (todo:=rk X k') hl c hN hs.wf hs.nk (fun E F w a hs=>h E F w a hs) ops.size _ E F _ a (by simp)
  (fun i hi=>by rw [hf] at hi;cases hi) (by rw [c.size];exact cnt_false fun j _=>by rw [← c.size];exact hf j) ?_
 have:stD ents nx s (fun j=>(Array.replicate ops.size false).getD j false)=⟨s.L,s.M,s.V,nx⟩:=by
  rw [show (fun j=>(Array.replicate ops.size false).getD j false)=fun _=>false from funext hf]
  unfold stD
  rw [gath_false,gath_false,gath_false]
 rw [this]
 exact hs'.nxt c.nxle
theorem look_filter {α:Type _} {p:Nat→Bool}:∀ {l:List (Nat × α)} {k:Nat},look (l.filter fun q=>p q.1) k=bif p k then look l k else none
 | [],k=>by cases p k<;>rfl
 | (j,u)::r,k=>by
  rw [List.filter_cons]
  simp only []
  rw [look_cons]
  split
  ·rename_i hj
   rw [look_cons,look_filter]
   split
   ·rename_i e;subst e;rw [hj];rfl
   ·rfl
  ·rename_i hj
   rw [look_filter]
   split
   ·rename_i e;subst e;simp only [Bool.not_eq_true] at hj;rw [hj];rfl
   ·rfl
theorem dLof_ok {L:List (Nat × SV)} (h:(dLof o L).length=o.dst.toList.length):(dLof o L).map (·.1)=o.dst.toList∧∀ d v,look (dLof o L) d=some v→look L d=some v:=by
  unfold dLof at *
  split
  · rename_i d hd
    split
    · rename_i v hv
      refine ⟨by rw [hd];rfl,fun d' v' h'=>?_⟩
      rw [look_cons] at h'
      split at h'
      · rename_i e;cases h';subst e;exact hv
      · cases h'
    · rename_i hv
      rw [hd] at h
      simp [hv] at h
  · rename_i hd;exact ⟨by rw [hd];rfl,fun d v h'=>by cases h'⟩
theorem entE_ok (htt:TTOk X.P tt) (hc:CalOk X.P call) (hx:ExtOk X.P ext) {L:List (Nat × SV)} {M:List (Nat × MO)} {k0:Nat} {e:Ent} (h:entE X.P tt call ext X.fn.ntmps o L M k0=some e)
    (hlen:e.dL.length=o.dst.toList.length):e.dL.map (·.1)=o.dst.toList∧e.L=L∧∀ nk E0 F0 w0 n0 Z E F w a,Sat (X.var nk E0 F0 w0 n0 Z) e.s E F w a →
      o.wp X.P a w (fun a' w'=>∃ E' F',Sat (X.var nk E0 F0 w0 n0 Z) e.s' E' F' w' a') (fun _ _ _=>False):=by
  unfold entE at h
  split at h
  · rename_i s1 h1
    cases h
    obtain ⟨g1,g2⟩:=dLof_ok hlen
    refine ⟨g1,rfl,fun nk E0 F0 w0 n0 Z E F w a hs=>?_⟩
    have hs1:Sat (X.var nk E0 F0 w0 n0 Z) ⟨L,M,[],k0⟩ E F w a:=hs.weaken rfl (fun d v h=>h) (fun k m hk=>by
      show look (M.filter (fun q=>chd M s1.M q.1)++M.filter (fun q => !(chd M s1.M q.1))) k=some m
      rw [look_append,look_filter (p:=fun k=>chd M s1.M k),look_filter (p:=fun k => !(chd M s1.M k))]
      cases hq:chd M s1.M k with
      | true=>simp only [cond_true];rw [show look M k=some m from hk]
      | false=>simp only [cond_false,Bool.not_false,cond_true];exact hk) (fun d v h=>h)
    refine Oper.wp_imp (fun a' w' hq=>?_) (evOp_ok (X:=X.var nk E0 F0 w0 n0 Z) htt hc hx h1 E F w a hs1)
    obtain ⟨E',F',hs2⟩:=hq
    refine ⟨E',F',hs2.weaken rfl g2 (fun k m hk=>?_) (fun d v h=>by cases h)⟩
    have hk:look (subK (fun k=>chd M s1.M k) s1.M 0++M.filter (fun q => !(chd M s1.M q.1))) k=some m:=hk
    rw [look_append] at hk
    split at hk
    · rename_i v hv;cases hk;exact (subK_look hv).1
    · rw [look_filter (p:=fun k => !(chd M s1.M k))] at hk
      cases hq:chd M s1.M k with
      | true=>rw [hq] at hk;cases hk
      | false =>
        rw [hq] at hk
        simp only [Bool.not_false,cond_true] at hk
        unfold chd at hq
        rw [hk] at hq
        simp only [] at hq
        split at hq
        · rename_i m' hm'
          simp only [Bool.not_eq_false'] at hq
          rw [hm',moEq_ok hq]
        · cases hq
  · cases h
theorem entOf_ok (htt:TTOk X.P tt) (hc:CalOk X.P call) (hx:ExtOk X.P ext) {i:Nat} {e:Ent} (h:entOf X.P tt call ext X.fn.ntmps ops i s=some e):LS X ops i e:=by
 unfold entOf at h
 split at h
 ·rename_i o ho
  simp only [] at h
  split at h
  ·rename_i hg
   split at h
   ·rename_i d hd
    cases hb:Nat.blt d X.fn.ntmps with
    | false=>rw [hb] at h;cases h
    | true =>
     rw [hb] at h;cases h
     exact LS.skip ho (by rw [hd];rfl) hg (.inr ⟨d,rfl,hb⟩) rfl rfl
   ·rename_i hd
    cases h
    exact LS.skip ho (by rw [hd];rfl) hg (.inl rfl) rfl rfl
  ·rename_i hg
   split at h
   ·rename_i e' he
    cases hb:Nat.beq e'.dL.length o.dst.toList.length with
    | false=>rw [hb] at h;cases h
    | true =>
     rw [hb] at h;cases h
     obtain ⟨g1,g2,g3⟩:=entE_ok htt hc hx he (Nat.eq_of_beq_eq_true hb)
     exact ⟨o,ho,g1,.inl ⟨by rw [g2];exact hg,g3⟩⟩
   ·cases h
  ·cases h
 ·cases h
theorem entsOf_ok (htt:TTOk X.P tt) (hc:CalOk X.P call) (hx:ExtOk X.P ext):∀ (n i:Nat) {s:St} {es:List Ent},entsOf X.P tt call ext X.fn.ntmps ops (List.range' i n) s=some es→AllLS X ops i es
 | 0,i,s,es,h=>by cases h;exact .nil
 | n+1,i,s,es,h=>by
  rw [List.range'_succ] at h
  unfold entsOf at h
  split at h
  ·rename_i e he
   split at h
   ·rename_i es' hes
    cases h
    exact .cons (entOf_ok htt hc hx he) (entsOf_ok htt hc hx n (i+1) hes)
   ·cases h
  ·cases h
theorem evDrawn_ok (htt:TTOk X.P tt) (hc:CalOk X.P call) (hx:ExtOk X.P ext) (hm:X.P.follows .mixedOrders=true) {id:Nat} {k':List Item} (h:evDrawn X.P tt call ext X.fn.ntmps ops s=some s') (k:WP X k' s') :
  WP X (.code (.region id ops true)::k') s:=by
 unfold evDrawn at h
 split at h
 ·rename_i es hes
  simp only [] at h
  cases hb:(chkB ops es (ancL ops.toList []) s.nx (lastK s.nx es) && needsB es (ancL ops.toList []) s) with
  | false=>rw [hb] at h;cases h
  | true =>
   rw [hb] at h;cases h
   rw [Bool.and_eq_true] at hb
   rw [List.range_eq_range'] at hes
   exact WP.regionE _ (entsOf_ok htt hc hx _ _ hes) hm hb.1 (needsB_ok hb.2) k
 ·cases h
end
end Go.Kx
end
section
namespace Go.Kx
def readsOf (ops:Array Oper) (o:Oper):List Nat:=gSlot ops o++slots o.op.operands.toList
def memN (d:Nat):List Nat→Bool
 | []=>false
 | x::r=>bif Nat.beq x d then true else memN d r
theorem memN_of {d:Nat}:∀ {l:List Nat},d∈l→memN d l=true
 | x::r,h=>by
  unfold memN
  cases hb:Nat.beq x d with
  | true=>rfl
  | false =>
   rcases List.mem_cons.1 h with h | h
   ·subst h;simp at hb
   ·exact memN_of h
def dstHits (a:Option Nat) (l:List Nat):Bool:=match a with
 | some d=>memN d l
 | none=>false
def confB (cls:Op→Nat) (ops:Array Oper) (oj oi:Oper):Bool :=
 dstHits oj.dst (readsOf ops oi) || dstHits oj.dst oi.dst.toList || dstHits oi.dst (readsOf ops oj) || (Nat.beq (cls oj.op) 2 && !(Nat.beq (cls oi.op) 0)) || (Nat.beq (cls oi.op) 2 && !(Nat.beq (cls oj.op) 0))
def stRow (cls:Op→Nat) (ops:Array Oper) (oi:Oper) (m:Nat):List Oper→Nat→Bool
 | [],_=>true
 | oj::r,j=>(Nat.testBit m j || !(confB cls ops oj oi)) && stRow cls ops oi m r (j+1)
def stAll (cls:Op→Nat) (ops:Array Oper):List Oper→List Oper→List Nat→Bool
 | [],_,_=>true
 | o::r,ds,anc=>o.after.toList.all (fun d => !Region.binds .any d || Nat.blt d.on ds.length) && stRow cls ops o (ancF anc o.after.toList) ds 0 && stAll cls ops r (ds++[o]) (anc++[ancF anc o.after.toList])
theorem ancL_pre:∀ (r:List Oper) (anc:List Nat) (k:Nat),k < anc.length→(ancL r anc).getD k 0=anc.getD k 0
 | [],_,_,_=>rfl
 | o::r,anc,k,h=>by
  unfold ancL
  rw [ancL_pre r _ k (by rw [List.length_append];exact Nat.lt_add_right _ h)]
  simp [List.getD,List.getElem?_append_left h]
theorem stRow_ok {cls:Op→Nat} {ops:Array Oper} {oi:Oper} {m:Nat}:∀ {l:List Oper} {j0:Nat},stRow cls ops oi m l j0=true→∀ j oj,l[j]? = some oj→Nat.testBit m (j0+j)=true∨confB cls ops oj oi=false
 | [],_,_,j,oj,h=>by simp at h
 | o::r,j0,h,j,oj,hj=>by
  unfold stRow at h
  rw [Bool.and_eq_true,Bool.or_eq_true,Bool.not_eq_true'] at h
  cases j with
  | zero=>simp at hj;subst hj;exact h.1
  | succ j =>
   have:=stRow_ok h.2 j oj (by simpa using hj)
   rwa [show j0+(j+1)=j0+1+j by omega]
theorem stAll_ok {cls:Op→Nat} {ops:Array Oper}:∀ {r ds:List Oper} {anc:List Nat},stAll cls ops r ds anc=true→anc.length=ds.length→∀ idx o,r[idx]? = some o →
  (∀ d∈o.after.toList,Region.binds .any d=true→d.on < ds.length+idx) ∧
  (∀ j,ancB (ancL r anc) (ds.length+idx) j=true→∃ d∈o.after.toList,Region.binds .any d=true∧(j=d.on∨ancB (ancL r anc) d.on j=true)) ∧
  (∀ j oj,(ds++r)[j]? = some oj→j < ds.length+idx→ancB (ancL r anc) (ds.length+idx) j=true∨confB cls ops oj o=false)
 | [],_,_,_,_,idx,o,h=>by simp at h
 | o0::r,ds,anc,h,hlen,idx,o,ho=>by
  unfold stAll at h
  rw [Bool.and_eq_true,Bool.and_eq_true] at h
  obtain ⟨⟨h1,h2⟩,h3⟩:=h
  cases idx with
  | zero =>
   simp at ho
   subst ho
   have hm:(ancL (o0::r) anc).getD ds.length 0=ancF anc o0.after.toList:=by
    unfold ancL
    rw [ancL_pre r _ _ (by rw [List.length_append,hlen];simp),← hlen]
    simp [List.getD]
   have hon:∀ d∈o0.after.toList,Region.binds .any d=true→d.on < ds.length:=fun d hd hb=>by
    have:=List.all_eq_true.1 h1 d hd
    rw [hb] at this
    exact blt_lt this
   refine ⟨hon,fun j hj=>?_,fun j oj hoj hj=>?_⟩
   ·unfold ancB at hj
    rw [Nat.add_zero,hm] at hj
    obtain ⟨d,hd,hb,h4⟩:=ancF_ok hj
    refine ⟨d,hd,hb,h4.imp id fun h4=>?_⟩
    unfold ancB at h4 ⊢
    rw [ancL_pre _ _ _ (by rw [hlen];exact hon d hd hb)]
    exact h4
   ·rw [List.getElem?_append_left (by simpa using hj)] at hoj
    have:=stRow_ok h2 j oj hoj
    rw [Nat.zero_add] at this
    refine this.imp (fun h4=>?_) id
    unfold ancB
    rw [Nat.add_zero,hm]
    exact h4
  | succ idx =>
   have ih:=stAll_ok h3 (by simp [hlen]) idx o (by simpa using ho)
   have e:(ds++[o0]).length+idx=ds.length+(idx+1):=by simp;omega
   have e2:(ds++[o0])++r=ds++o0::r:=by simp
   rw [e,e2] at ih
   exact ih
structure StOk (cls:Op→Nat) (ops:Array Oper) (A:List Nat):Prop where
 on:∀ i o,ops[i]? = some o→∀ d∈o.after,Region.binds .any d=true→d.on < i
 up:∀ i o,ops[i]? = some o→∀ j,ancB A i j=true→∃ d∈o.after,Region.binds .any d=true∧(j=d.on∨ancB A d.on j=true)
 cf:∀ i j oi oj,ops[i]? = some oi→ops[j]? = some oj→j < i→confB cls ops oj oi=true→ancB A i j=true
theorem StOk.of {cls:Op→Nat} {ops:Array Oper} (h:stAll cls ops ops.toList [] []=true):StOk cls ops (ancL ops.toList []):=by
 have key:=fun i o (ho:ops[i]? = some o)=>stAll_ok h rfl i o (by simpa using ho)
 simp only [List.length_nil,Nat.zero_add,List.nil_append] at key
 refine ⟨fun i o ho d hd hb=>(key i o ho).1 d (by simpa using hd) hb,fun i o ho j hj=>?_,fun i j oi oj hi hj hlt hc=>?_⟩
 ·obtain ⟨d,hd,h2⟩:=(key i o ho).2.1 j hj
  exact ⟨d,by simpa using hd,h2⟩
 ·rcases (key i oi hi).2.2 j oj (by simpa using hj) hlt with h2 | h2
  ·exact h2
  ·rw [hc] at h2;cases h2
theorem StOk.lt {cls:Op→Nat} {ops:Array Oper} {A:List Nat} (c:StOk cls ops A):∀ (i:Nat) (o:Oper),ops[i]? = some o→∀ j,ancB A i j=true→j < i:=by
 intro i
 induction i using Nat.strongRecOn with
 | _ i ih =>
  intro o ho j hj
  obtain ⟨d,hd,hb,h3⟩:=c.up i o ho j hj
  have h1:=c.on i o ho d hd hb
  rcases h3 with rfl | h3
  ·exact h1
  ·have hi:i < ops.size:=(Array.getElem?_eq_some_iff.1 ho).1
   have hd':ops[d.on]? = some ops[d.on]:=by simp
   have:=ih d.on h1 _ hd' j h3
   omega
section
variable (cls:Op→Nat) (vl:St→Op→Option SV) (ev:Oper→St→Option St) (nt:Nat) (ops:Array Oper)
def stepS (o:Oper) (s:St):Option St:=match pickL s.L (readsOf ops o) with
 | pk=>match guardV ops pk o with
  | some false=>(match o.dst with
   | some d=>bif Nat.blt d nt then some ⟨(d,.u)::s.L,s.M,s.V,s.nx⟩ else none
   | none=>some s)
  | some true=>bif Nat.beq (cls o.op) 2 then (match ev o ⟨pk,s.M,[],s.nx⟩ with
    | some s1=>bif Nat.beq (dLof o s1.L).length o.dst.toList.length && Nat.ble s.nx s1.nx then some ⟨dLof o s1.L++s.L,s1.M,s.V,s1.nx⟩ else none
    | none=>none)
   else (match vl ⟨pk,(bif Nat.beq (cls o.op) 0 then [] else s.M),[],0⟩ o.op with
    | some v=>setd nt o s v
    | none=>none)
  | none=>none
def SR (o:Oper) (s:St) (dl:List (Nat × SV)) (s':St):Prop:=s'.L=dl++s.L∧s'.V=s.V∧dl.map (·.1)=o.dst.toList∧∃ pk:List (Nat × SV),(∀ d v,look pk d=some v→d∈readsOf ops o∧look s.L d=some v) ∧
  ((guardV ops pk o=some false∧(∀ d v,(d,v)∈dl→v=.u∧d < nt)∧s'.M=s.M∧s'.nx=s.nx) ∨
   (guardV ops pk o=some true∧cls o.op≠2∧s'.M=s.M∧s'.nx=s.nx∧∃ d v,o.dst=some d∧d < nt∧dl=[(d,v)]∧vl ⟨pk,(bif Nat.beq (cls o.op) 0 then [] else s.M),[],0⟩ o.op=some v) ∨
   (guardV ops pk o=some true∧cls o.op=2∧s.nx≤s'.nx∧∃ s1,ev o ⟨pk,s.M,[],s.nx⟩=some s1∧dl=dLof o s1.L∧s'.M=s1.M∧s'.nx=s1.nx))
end
section
variable {cls:Op→Nat} {vl:St→Op→Option SV} {ev:Oper→St→Option St} {nt:Nat} {ops:Array Oper}
theorem pickL_ok {L:List (Nat × SV)}:∀ {l:List Nat} {d:Nat} {v:SV},look (pickL L l) d=some v→d∈l∧look L d=some v
 | [],_,_,h=>by cases h
 | x::r,d,v,h=>by
  unfold pickL at h
  cases hx:look L x with
  | none =>
   rw [hx] at h
   obtain ⟨h1,h2⟩:=pickL_ok (l:=r) h
   exact ⟨List.mem_cons_of_mem _ h1,h2⟩
  | some u =>
   rw [hx] at h
   simp only [] at h
   rw [look_cons] at h
   split at h
   ·rename_i e;cases h;subst e;exact ⟨List.mem_cons_self,hx⟩
   ·obtain ⟨h1,h2⟩:=pickL_ok (l:=r) h
    exact ⟨List.mem_cons_of_mem _ h1,h2⟩
theorem stepS_ok {o:Oper} {s s':St} (h:stepS cls vl ev nt ops o s=some s'):∃ dl,SR cls vl ev nt ops o s dl s':=by
 unfold stepS at h
 simp only [] at h
 split at h
 ·rename_i hg
  split at h
  ·rename_i d hd
   cases hb:Nat.blt d nt with
   | false=>rw [hb] at h;cases h
   | true =>
    rw [hb] at h;cases h
    exact ⟨[(d,.u)],rfl,rfl,by rw [hd];rfl,_,fun d v=>pickL_ok,.inl ⟨hg,fun d' v hm=>by simp at hm;rw [hm.1,hm.2];exact ⟨rfl,blt_lt hb⟩,rfl,rfl⟩⟩
  ·rename_i hd
   cases h
   exact ⟨[],rfl,rfl,by rw [hd];rfl,_,fun d v=>pickL_ok,.inl ⟨hg,fun d' v hm=>by simp at hm,rfl,rfl⟩⟩
 ·rename_i hg
  cases hc:Nat.beq (cls o.op) 2 with
  | true =>
   rw [hc] at h
   simp only [cond_true] at h
   split at h
   ·rename_i s1 h1
    cases hl:(Nat.beq (dLof o s1.L).length o.dst.toList.length && Nat.ble s.nx s1.nx) with
    | false=>rw [hl] at h;cases h
    | true =>
     rw [hl] at h;cases h
     rw [Bool.and_eq_true] at hl
     exact ⟨dLof o s1.L,rfl,rfl,(dLof_ok (Nat.eq_of_beq_eq_true hl.1)).1,_,fun d v=>pickL_ok,.inr (.inr ⟨hg,Nat.eq_of_beq_eq_true hc,Nat.le_of_ble_eq_true hl.2,s1,h1,rfl,rfl,rfl⟩)⟩
   ·cases h
  | false =>
   rw [hc] at h
   simp only [cond_false] at h
   split at h
   ·rename_i v hv
    unfold setd at h
    split at h
    ·rename_i d hd
     cases hb:Nat.blt d nt with
     | false=>rw [hb] at h;cases h
     | true =>
      rw [hb] at h;cases h
      refine ⟨[(d,v)],rfl,rfl,by rw [hd];rfl,_,fun d v=>pickL_ok,.inr (.inl ⟨hg,fun e=>?_,rfl,rfl,d,v,hd,blt_lt hb,rfl,hv⟩)⟩
      rw [e] at hc;cases hc
    ·cases h
   ·cases h
 ·cases h
def isW (cls:Op→Nat) (ops:Array Oper) (j:Nat):Bool:=match ops[j]? with
 | some o=>Nat.beq (cls o.op) 2
 | none=>false
def mxF (cls:Op→Nat) (ops:Array Oper) (dn:Nat→Bool):Nat→Nat
 | 0=>0
 | j+1=>bif dn j && isW cls ops j then j+1 else mxF cls ops dn j
theorem mxF_congr {dn dn':Nat→Bool}:∀ {k:Nat},(∀ j,j < k→isW cls ops j=true→dn j=dn' j)→mxF cls ops dn k=mxF cls ops dn' k
 | 0,_=>rfl
 | k+1,h=>by
  have ih:=mxF_congr (k:=k) fun j hj=>h j (by omega)
  have hk:=h k (by omega)
  unfold mxF
  cases hw:isW cls ops k with
  | false=>simp only [Bool.and_false,cond_false];exact ih
  | true=>rw [hk hw,ih]
theorem mxF_mn {α:Type _} {f:Nat→α} {n i:Nat} (hi:i≤n) (hf:∀ j,j < n→isW cls ops j=false→f (j+1)=f j):∀ {k:Nat},k≤n→f (mxF cls ops (fun j=>decide (j < i)) k)=f (min k i)
 | 0,_=>by simp [mxF]
 | k+1,hk=>by
  have ih:=mxF_mn hi hf (k:=k) (by omega)
  unfold mxF
  by_cases hlt:k < i
  ·cases hw:isW cls ops k with
   | true=>simp only [hlt,decide_true,Bool.and_true,cond_true];rw [Nat.min_eq_left (by omega)]
   | false =>
    simp only [Bool.and_false,cond_false]
    rw [ih,Nat.min_eq_left (by omega),Nat.min_eq_left (by omega),hf k (by omega) hw]
  ·simp only [hlt,decide_false,Bool.false_and,cond_false]
   rw [ih,Nat.min_eq_right (by omega),Nat.min_eq_right (by omega)]
theorem mxF_at {α:Type _} {f:Nat→α} {n i:Nat} {dn:Nat→Bool} (hi:i≤n) (hf:∀ j,j < n→isW cls ops j=false→f (j+1)=f j) (hd:∀ j,j < n→isW cls ops j=true→dn j=decide (j < i)) :
  f (mxF cls ops dn n)=f i:=by
 rw [mxF_congr (dn':=fun j=>decide (j < i)) hd,mxF_mn hi hf (Nat.le_refl n),Nat.min_eq_right hi]
theorem gath_pre {sT:Nat→St} {dlf:Nat→List (Nat × SV)} {n:Nat} (hT:∀ i,i < n→(sT (i+1)).L=dlf i++(sT i).L):∀ {i:Nat},i≤n→∀ {k:Nat},i≤k→gath dlf (fun j=>decide (j < i)) (sT 0).L k=(sT i).L
 | 0,_,k,_=>by
  have:(fun j=>decide (j < 0))=fun _:Nat=>false:=funext fun j=>by simp
  rw [this,gath_false]
 | i+1,hi,k,hk=>by
  have base:∀ m,gath dlf (fun j=>decide (j < i+1)) (sT 0).L (i+1+m)=(sT (i+1)).L:=fun m=>by
   induction m with
   | zero =>
    show gath dlf _ _ (i+1)=_
    simp only [gath,Nat.lt_succ_self,decide_true,cond_true]
    rw [hT i (by omega),← gath_pre hT (i:=i) (by omega) (Nat.le_refl i)]
    congr 1
    have:∀ q,q≤i→gath dlf (fun j=>decide (j < i+1)) (sT 0).L q=gath dlf (fun j=>decide (j < i)) (sT 0).L q:=fun q=>by
     induction q with
     | zero=>intro _;rfl
     | succ q ihq =>
      intro hq
      have e1:decide (q < i+1)=true:=by simp;omega
      have e2:decide (q < i)=true:=by simp;omega
      simp only [gath,e1,e2]
      rw [ihq (by omega)]
    exact this i (Nat.le_refl i)
   | succ m ih =>
    show gath dlf _ _ (i+1+m+1)=_
    have:decide (i+1+m < i+1)=false:=by simp
    simp only [gath,this,cond_false]
    exact ih
  have:=base (k-(i+1))
  rwa [show i+1+(k-(i+1))=k by omega] at this
theorem Sat.addGone {X:Ctx} {s:St} {E F w a} (hs:Sat X s E F w a) {M':List (Nat × MO)} (h:∀ k m,look M' k=some m→look s.M k=some m∨(m=.gone∧k < s.nx)):Sat X ⟨s.L,M',s.V,s.nx⟩ E F w a:={ hs with
 wf:=⟨hs.wf.hL,fun k m hk=>by
  rcases h k m hk with h | ⟨rfl,h⟩
  ·exact hs.wf.hM k m h
  ·exact ⟨h,trivial⟩,hs.wf.hV⟩
 hM:=fun k m hk=>by
  rcases h k m hk with h | ⟨rfl,h⟩
  ·exact hs.hM k m h
  ·trivial
 dis:=fun k k' m m' hk hk' hne b hb hb'=>by
  rcases h k m hk with h1 | ⟨rfl,h1⟩
  ·rcases h k' m' hk' with h2 | ⟨rfl,h2⟩
   ·exact hs.dis k k' m m' h1 h2 hne b hb hb'
   ·exact hb'
  ·exact hb
 mF:=fun k m hk b hb=>by
  rcases h k m hk with h1 | ⟨rfl,h1⟩
  ·exact hs.mF k m h1 b hb
  ·exact hb.elim
 fresh:=fun k m hk hf b hb=>by
  rcases h k m hk with h1 | ⟨rfl,h1⟩
  ·exact hs.fresh k m h1 hf b hb
  ·exact hb.elim }
section
variable {X:Ctx} {A:List Nat} {s:St} {sT:Nat→St} {dlf:Nat→List (Nat × SV)}
def sD (cls:Op→Nat) (ops:Array Oper) (s:St) (sT:Nat→St) (dlf:Nat→List (Nat × SV)) (dn:Nat→Bool):St :=
 ⟨gath dlf dn s.L ops.size,(sT (mxF cls ops dn ops.size)).M,s.V,(sT (mxF cls ops dn ops.size)).nx⟩
def VlOk (X:Ctx) (vl:St→Op→Option SV):Prop:=(∀ L M V n m op,vl ⟨L,M,V,n⟩ op=vl ⟨L,M,V,m⟩ op) ∧
 ∀ s E F w a (o:Oper) v,Sat X s E F w a→vl s o.op=some v→(execOp a.eval o).run X.P w=.ok (.value (denV E v)) w∧v.kb s.nx
def EvOk (X:Ctx) (ev:Oper→St→Option St):Prop:=∀ nk E0 F0 w0 n0 Z (o:Oper) s s',ev o s=some s'→Stp (X.var nk E0 F0 w0 n0 Z) o s s'
theorem regionS_aux (hvl:VlOk X vl) (hev:EvOk X ev) (c:StOk cls ops A) (hT:∀ i o,ops[i]? = some o→SR cls vl ev X.fn.ntmps ops o (sT i) (dlf i) (sT (i+1))) (hs0:sT 0=s) {todo:Act→World→Prop}
    (hend:∀ E F w a,Sat X (sT ops.size) E F w a→todo a w) :
    ∀ (fuel:Nat) (l:Array Bool) (E:Env) (F:FSet) (w:World) (a:Act),l.size=ops.size→(∀ i,i < ops.size→l.getD i false=true→∀ j,ancB A i j=true→l.getD j false=true) →
      cnt (fun j=>l.getD j false) ops.size=fuel→Sat X (sD cls ops s sT dlf fun j=>l.getD j false) E F w a→wpAny X.P .any ops (fun e a' w'=>e=.normal∧todo a' w') fuel l a w:=by
  have hflip:∀ {l:Array Bool} {i:Nat},l.getD i true=false→l.getD i false=false:=fun {l i} h=>by
    rcases Nat.lt_or_ge i l.size with h' | h'
    · simp [h'] at h ⊢;exact h
    · simp [h'] at h
  have hflip':∀ {l:Array Bool} {i:Nat},i < l.size→l.getD i false=false→l.getD i true=false:=fun {l i} h' h=>by
    simp [h'] at h ⊢;exact h
  have hop:∀ i,i < ops.size→∃ o,ops[i]? = some o:=fun i hi=>⟨ops[i],by simp [hi]⟩
  have hLs:∀ i,i < ops.size→(sT (i+1)).L=dlf i++(sT i).L:=fun i hi=>by
    obtain ⟨o,ho⟩:=hop i hi
    exact (hT i o ho).1
  have hnw:∀ j,j < ops.size→isW cls ops j=false→((sT (j+1)).M,(sT (j+1)).nx)=((sT j).M,(sT j).nx):=fun j hj hw=>by
    obtain ⟨o,ho⟩:=hop j hj
    unfold isW at hw
    rw [ho] at hw
    obtain ⟨_,_,_,pk,_,h | h | h⟩:=hT j o ho
    · rw [h.2.2.1,h.2.2.2]
    · rw [h.2.2.1,h.2.2.2.1]
    · simp only [] at hw
      rw [h.2.1] at hw;cases hw
  have hV:∀ i,i≤ops.size→(sT i).V=s.V:=fun i=>by
    induction i with
    | zero=>intro _;rw [hs0]
    | succ i ih =>
      intro hi
      obtain ⟨o,ho⟩:=hop i (by omega)
      rw [(hT i o ho).2.1];exact ih (by omega)
  have hMN:∀ {dn:Nat→Bool} {i:Nat},i≤ops.size→(∀ j,j < ops.size→isW cls ops j=true→dn j=decide (j < i)) →
      (sT (mxF cls ops dn ops.size)).M=(sT i).M∧(sT (mxF cls ops dn ops.size)).nx=(sT i).nx:=fun {dn i} hi hd=>by
    have:=mxF_at (cls:=cls) (ops:=ops) (f:=fun k=>((sT k).M,(sT k).nx)) hi hnw hd
    simp only [Prod.mk.injEq] at this
    exact this
  have hpre:∀ {i:Nat},i≤ops.size→gath dlf (fun j=>decide (j < i)) s.L ops.size=(sT i).L:=fun {i} hi=>by
    rw [← hs0];exact gath_pre hLs hi hi
  have hall:∀ {l:Array Bool} {E F w a},(∀ j,j < ops.size→l.getD j false=true)→Sat X (sD cls ops s sT dlf fun j=>l.getD j false) E F w a→todo a w:=fun {l E F w a} hd hs=>by
    obtain ⟨m1,m2⟩:=hMN (dn:=fun j=>l.getD j false) (Nat.le_refl ops.size) fun j hj _=>by simp [hd j hj,hj]
    refine hend E F w a (hs.same m2.symm (fun d=>?_) (fun d=>by rw [← m1];rfl) (fun d=>by rw [hV _ (Nat.le_refl _)];rfl))
    rw [← hpre (Nat.le_refl ops.size)]
    exact look_gath_congr fun j hj _=>by simp [hd j hj,hj]
  intro fuel
  induction fuel with
  | zero =>
    intro l E F w a hsz hcl hcnt hs
    have hd:=cnt_zero hcnt
    refine ⟨List.eq_nil_iff_forall_not_mem.2 fun j hj=>?_,rfl,hall hd hs⟩
    obtain ⟨h0,o,ho,_⟩:=mem_ready.1 hj
    have:=hd j (Array.getElem?_eq_some_iff.1 ho).1
    rw [hflip h0] at this;cases this
  | succ fuel ih =>
    intro l E F w a hsz hcl hcnt hs
    refine ⟨fun hr=>⟨rfl,hall (fun j=>?_) hs⟩,fun i hi=>?_⟩
    · induction j using Nat.strongRecOn with
      | _ j ihj =>
        intro hj
        cases hd:l.getD j false with
        | true=>rfl
        | false =>
          obtain ⟨o,ho⟩:=hop j hj
          have:j∈Region.ready .any ops l:=mem_ready.2 ⟨hflip' (by rw [hsz];exact hj) hd,o,ho,fun d hdm hb=>ihj d.on (c.on j o ho d hdm hb) (by have:=c.on j o ho d hdm hb;omega)⟩
          rw [hr] at this;cases this
    · obtain ⟨h0,o,ho,hpreq⟩:=mem_ready.1 hi
      have hi':i < ops.size:=(Array.getElem?_eq_some_iff.1 ho).1
      have hil:i < l.size:=by rw [hsz];exact hi'
      have hdi:=hflip h0
      have hanc:∀ j,ancB A i j=true→l.getD j false=true:=fun j hj=>by
        obtain ⟨d,hd,hb,h3⟩:=c.up i o ho j hj
        have h4:=hpreq d hd hb
        rcases h3 with rfl | h3
        · exact h4
        · exact hcl d.on (by have:=c.on i o ho d hd hb;omega) h4 j h3
      -- whoever may be in i's way has come up just if he stands ahead of it
      have hway:∀ j oj,j≠i→ops[j]? = some oj→(confB cls ops oj o=true∨confB cls ops o oj=true)→(j < i→confB cls ops oj o=true)→(i < j→confB cls ops o oj=true)→l.getD j false=decide (j < i):=fun j oj hne hoj _ h1 h2=>by
        have hj:j < ops.size:=(Array.getElem?_eq_some_iff.1 hoj).1
        rcases Nat.lt_or_gt_of_ne hne with hlt | hgt
        · rw [hanc j (c.cf i j o oj ho hoj hlt (h1 hlt))];simp [hlt]
        · have hb:=c.cf j i oj o hoj ho hgt (h2 hgt)
          cases hd:l.getD j false with
          | false=>simp;omega
          | true =>
            have:=hcl j hj hd i hb
            rw [hdi] at this;cases this
      obtain ⟨eL,eV,ed,pk,hpk,hstep⟩:=hT i o ho
      have hdst:∀ {j oj d},ops[j]? = some oj→(look (dlf j) d).isSome=true→oj.dst=some d:=fun {j oj d} hoj hs=>by
        obtain ⟨v,hv⟩:=Option.isSome_iff_exists.1 hs
        have h1:=(hT j oj hoj).2.2.1
        have:d∈(dlf j).map (·.1):=List.mem_map.2 ⟨_,look_mem hv,rfl⟩
        rw [h1] at this
        simpa using this
      have nL:∀ d v,look pk d=some v→look (sD cls ops s sT dlf fun j=>l.getD j false).L d=some v:=fun d v h=>by
        obtain ⟨h1,h2⟩:=hpk d v h
        rw [← h2,← hpre (Nat.le_of_lt hi')]
        refine look_gath_congr fun j hj hk=>?_
        obtain ⟨oj,hoj⟩:=hop j hj
        have hdj:=hdst hoj hk
        by_cases hji:j=i
        · subst hji;rw [hdi];simp
        · have e1:confB cls ops oj o=true:=by
            unfold confB dstHits;rw [hdj];simp [memN_of h1]
          have e2:confB cls ops o oj=true:=by
            unfold confB;simp only [dstHits];rw [hdj];simp [memN_of h1]
          exact hway j oj hji hoj (.inl e1) (fun _=>e1) (fun _=>e2)
      let l':=l.setIfInBounds i true
      have hl':∀ j,l'.getD j false=if j=i then true else l.getD j false:=fun j=>getD_set hil
      have hcl':∀ j,j < ops.size→l'.getD j false=true→∀ k,ancB A j k=true→l'.getD k false=true:=fun j hjs hj k hk=>by
        rw [hl'] at hj ⊢
        split
        · rfl
        · split at hj
          · rename_i e;subst e;exact hanc k hk
          · exact hcl j hjs hj k hk
      have hcnt':cnt (fun j=>l'.getD j false) ops.size=fuel:=by
        have:=cnt_add (dn:=fun j=>l.getD j false) (dn':=fun j=>l'.getD j false) (n:=ops.size) hi' hdi (by simp only [hl',if_true]) (fun j hj=>by simp only [hl',if_neg hj])
        omega
      have hgL:∀ d,look (gath dlf (fun j=>l'.getD j false) s.L ops.size) d=look (dlf i++gath dlf (fun j=>l.getD j false) s.L ops.size) d:=fun d =>
        look_gath_add (dl:=dlf) hi' hdi (fun j hj=>by simp only [hl',if_neg hj]) (by simp only [hl',if_true]) fun h1 j hij hj h2=>by
          obtain ⟨oj,hoj⟩:=hop j hj
          have hdj:=hdst hoj h2
          have hdo:=hdst ho h1
          have e2:confB cls ops o oj=true:=by
            unfold confB;simp only [dstHits];rw [hdj,hdo];simp [memN]
          cases hd:l.getD j false with
          | false=>rfl
          | true=>have:=hcl j hj hd i (c.cf j i oj o hoj ho hij e2);rw [hdi] at this;cases this
      -- operations that may write stand in a row
      have hwW:isW cls ops i=true→∀ j,j < ops.size→isW cls ops j=true→l.getD j false=decide (j < i):=fun hwi j hj hwj=>by
        obtain ⟨oj,hoj⟩:=hop j hj
        unfold isW at hwi hwj
        rw [ho] at hwi;rw [hoj] at hwj
        have w1:=Nat.eq_of_beq_eq_true hwi
        have w2:=Nat.eq_of_beq_eq_true hwj
        by_cases hji:j=i
        · subst hji;rw [hdi];simp
        · have e20:Nat.beq 2 0=false:=rfl
          have e1:confB cls ops oj o=true:=by unfold confB;rw [w1,w2,e20];simp
          have e2:confB cls ops o oj=true:=by unfold confB;rw [w1,w2,e20];simp
          exact hway j oj hji hoj (.inl e1) (fun _=>e1) (fun _=>e2)
      have hwR:Nat.beq (cls o.op) 0=false→∀ j,j < ops.size→isW cls ops j=true→l.getD j false=decide (j < i):=fun hwi j hj hwj=>by
        obtain ⟨oj,hoj⟩:=hop j hj
        unfold isW at hwj
        rw [hoj] at hwj
        have w2:=Nat.eq_of_beq_eq_true hwj
        by_cases hji:j=i
        · subst hji;rw [hdi];simp
        · have e1:confB cls ops oj o=true:=by unfold confB;rw [w2,hwi];simp
          have e2:confB cls ops o oj=true:=by unfold confB;rw [w2,hwi];simp
          exact hway j oj hji hoj (.inl e1) (fun _=>e1) (fun _=>e2)
      have hkeep:isW cls ops i=false→mxF cls ops (fun j=>l'.getD j false) ops.size=mxF cls ops (fun j=>l.getD j false) ops.size:=fun hwi =>
        mxF_congr fun j hj hwj=>by
          by_cases hji:j=i
          · subst hji;rw [hwi] at hwj;cases hwj
          · simp only [hl',if_neg hji]
      have hnext:isW cls ops i=true→(sT (mxF cls ops (fun j=>l'.getD j false) ops.size)).M=(sT (i+1)).M∧(sT (mxF cls ops (fun j=>l'.getD j false) ops.size)).nx=(sT (i+1)).nx:=fun hwi =>
        hMN (i:=i+1) (by omega) fun j hj hwj=>by
          simp only [hl']
          by_cases hji:j=i
          · subst hji;simp
          · rw [if_neg hji,hwW hwi j hj hwj]
            have:(j < i)=(j < i+1):=by apply propext;omega
            simp only [this]
      unfold wpOp
      simp only [ho]
      have hgo:∀ {E F w a},Sat X ⟨dlf i++gath dlf (fun j=>l.getD j false) s.L ops.size,(sT (mxF cls ops (fun j=>l'.getD j false) ops.size)).M,s.V,(sT (mxF cls ops (fun j=>l'.getD j false) ops.size)).nx⟩ E F w a →
          Sat X (sD cls ops s sT dlf fun j=>l'.getD j false) E F w a:=fun {E F w a} hs'=>hs'.same rfl hgL (fun _=>rfl) (fun _=>rfl)
      rcases hstep with ⟨hg,hu,hM,hN⟩ | ⟨hg,hc,hM,hN,d,v,hd,hdn,hdl,hv⟩ | ⟨hg,hc,hN,s1,h1,hdl,hM1,hN1⟩
      · rw [guardV_ok hs (guardV_mono nL hg),if_neg (by simp)]
        refine ih l' E F w _ (by simp [l',hsz]) hcl' hcnt' (hgo ?_)
        have hmn:(sT (mxF cls ops (fun j=>l'.getD j false) ops.size)).M=(sT (mxF cls ops (fun j=>l.getD j false) ops.size)).M∧(sT (mxF cls ops (fun j=>l'.getD j false) ops.size)).nx=(sT (mxF cls ops (fun j=>l.getD j false) ops.size)).nx:=by
          cases hwi:isW cls ops i with
          | false=>rw [hkeep hwi];exact ⟨rfl,rfl⟩
          | true =>
            obtain ⟨q1,q2⟩:=hnext hwi
            obtain ⟨r1,r2⟩:=hMN (Nat.le_of_lt hi') (hwW hwi)
            rw [q1,q2,r1,r2,hM,hN];exact ⟨rfl,rfl⟩
        rw [hmn.1,hmn.2]
        exact LS.skipped (e:=⟨[],[],[],[],0,dlf i,[],[],0⟩) hs ed hu rfl rfl
      · rw [guardV_ok hs (guardV_mono nL hg),if_pos rfl]
        have hwi:isW cls ops i=false:=by
          unfold isW;rw [ho]
          simp only []
          cases hb:Nat.beq (cls o.op) 2 with
          | false=>rfl
          | true=>exact absurd (Nat.eq_of_beq_eq_true hb) hc
        have hsv:Sat X ⟨pk,(bif Nat.beq (cls o.op) 0 then [] else (sT i).M),[],(sT (mxF cls ops (fun j=>l.getD j false) ops.size)).nx⟩ E F w a:=hs.weaken rfl nL (fun k m hk=>by
          cases hb:Nat.beq (cls o.op) 0 with
          | true=>rw [hb] at hk;cases hk
          | false =>
            rw [hb] at hk
            show look (sT (mxF cls ops (fun j=>l.getD j false) ops.size)).M k=some m
            rw [(hMN (Nat.le_of_lt hi') (hwR hb)).1];exact hk) (fun k f hk=>by cases hk)
        rw [hvl.1 _ _ _ 0 (sT (mxF cls ops (fun j=>l.getD j false) ops.size)).nx] at hv
        obtain ⟨hrun,hkb⟩:=hvl.2 _ _ _ _ _ _ _ hsv hv
        refine .inl (wp_value hrun (ih l' E F w _ (by simp [l',hsz]) hcl' hcnt' (hgo ?_)))
        rw [hkeep hwi,hdl,hd]
        exact hs.setL hkb hdn
      · rw [guardV_ok hs (guardV_mono nL hg),if_pos rfl]
        have hwi:isW cls ops i=true:=by unfold isW;rw [ho];simp [hc]
        obtain ⟨q1,q2⟩:=hnext hwi
        obtain ⟨r1,r2⟩:=hMN (Nat.le_of_lt hi') (hwW hwi)
        have hs2:Sat X ⟨gath dlf (fun j=>l.getD j false) s.L ops.size,(sT i).M,s.V,(sT i).nx⟩ E F w a:=by
          have:sD cls ops s sT dlf (fun j=>l.getD j false)=⟨gath dlf (fun j=>l.getD j false) s.L ops.size,(sT i).M,s.V,(sT i).nx⟩:=by unfold sD;rw [r1,r2]
          rw [← this];exact hs
        have hs3:=hs2.nxt (n:=(sT (i+1)).nx) hN
        let e:Ent:=⟨pk,[],(sT i).M,[],(sT i).nx,dlf i,[],s1.M++(sT i).M.map (fun q=>(q.1,.gone)),(sT (i+1)).nx⟩
        have hwf:e.s.Wf:=⟨fun d v h=>hs2.wf.hL d v (nL d v h),fun k m h=>hs2.wf.hM k m (by simpa [e] using h),fun k f h=>by cases h⟩
        have hlen:(dLof o s1.L).length=o.dst.toList.length:=by rw [← hdl,← ed,List.length_map]
        obtain ⟨_,g2⟩:=dLof_ok hlen
        have hgone:∀ {l:List (Nat × MO)} {k:Nat} {m:MO},look (l.map (fun q=>(q.1,MO.gone))) k=some m→m=.gone∧∃ m',look l k=some m':=by
          intro l
          induction l with
          | nil=>intro k m h;cases h
          | cons q r ihl =>
            intro k m h
            rw [List.map_cons,look_cons] at h
            rw [show q=(q.1,q.2) from rfl,look_cons]
            split at h
            · rename_i hq;cases h;exact ⟨rfl,q.2,by rw [if_pos hq]⟩
            · rename_i hq
              obtain ⟨u1,m',u2⟩:=ihl h
              exact ⟨u1,m',by rw [if_neg hq];exact u2⟩
        have hgone2:∀ {l:List (Nat × MO)} {k:Nat},look (l.map (fun q=>(q.1,MO.gone))) k=none→look l k=none:=by
          intro l
          induction l with
          | nil=>intro k h;rfl
          | cons q r ihl =>
            intro k h
            rw [List.map_cons,look_cons] at h
            rw [show q=(q.1,q.2) from rfl,look_cons]
            split at h
            · cases h
            · rename_i hq;rw [if_neg hq];exact ihl h
        let p:Nat→Bool:=fun k => !(Nat.ble (sT i).nx k && Nat.blt k (sT (i+1)).nx)
        have hp:∀ k,p k=true→¬ ((sT i).nx≤k∧k < (sT (i+1)).nx):=fun k hk hc=>by
          simp only [p,Bool.not_eq_true',Bool.and_eq_false_iff] at hk
          rcases hk with hk | hk
          · rw [Nat.ble_eq_true_of_le hc.1] at hk;cases hk
          · unfold Nat.blt at hk;rw [Nat.ble_eq_true_of_le hc.2] at hk;cases hk
        have hp0:∀ k,k < (sT i).nx→p k=true:=fun k hk=>by
          simp only [p,Bool.not_eq_true',Bool.and_eq_false_iff]
          left
          cases hb:Nat.ble (sT i).nx k with
          | false=>rfl
          | true=>have:=Nat.le_of_ble_eq_true hb;omega
        refine .inl (Oper.wp_imp (fun a' w' hq=>?_) (LS.frame (e:=e) hs3 ed (fun nk E0 F0 w0 n0 Z E F w a hse=>?_) hwf nL (fun k f h=>by cases h) (fun k m h=>by simpa [e] using h) (fun k h=>?_)
          hs2.nk hN (Nat.le_refl _) (p:=p) hp (fun d v h=>SV.kp_of_kb hp0 (hs2.wf.hL d v h)) (fun k m h=>⟨hp0 k (hs2.wf.hM k m h).1,MO.kp_of_kb hp0 (hs2.wf.hM k m h).2⟩) (fun k f h=>⟨hp0 k (hs2.wf.hV k f h).1,VF.kp_of_kb hp0 (hs2.wf.hV k f h).2⟩)))
        · obtain ⟨E',F',hs'⟩:=hq
          refine ih l' E' F' w' a' (by simp [l',hsz]) hcl' hcnt' (hgo ?_)
          rw [q1,q2]
          refine hs'.weaken rfl (fun d v h=>h) (fun k m h=>?_) (fun k f h=>h)
          show look ((s1.M++(sT i).M.map (fun q=>(q.1,MO.gone)))++(sT i).M) k=some m
          rw [look_append,look_append]
          rw [show look s1.M k=some m by rw [← hM1];exact h]
        · have hse':Sat (X.var nk E0 F0 w0 n0 Z) ⟨pk,(sT i).M,[],(sT i).nx⟩ E F w a:=hse.weaken rfl (fun _ _ h=>h) (fun k m h=>by simpa [e] using h) (fun _ _ h=>h)
          refine Oper.wp_imp (fun a' w' hq=>?_) (hev nk E0 F0 w0 n0 Z o _ _ h1 E F w a hse')
          obtain ⟨E',F',hq⟩:=hq
          have hq2:Sat (X.var nk E0 F0 w0 n0 Z) ⟨s1.L,s1.M++(sT i).M.map (fun q=>(q.1,MO.gone)),s1.V,s1.nx⟩ E' F' w' a':=hq.addGone fun k m hk=>by
            rw [look_append] at hk
            split at hk
            · rename_i x hx;cases hk;exact .inl hx
            · obtain ⟨u1,m',u2⟩:=hgone hk
              refine .inr ⟨u1,?_⟩
              have:=(hs2.wf.hM k m' u2).1
              have hle:(sT i).nx≤s1.nx:=by rw [← hN1];exact hN
              exact Nat.lt_of_lt_of_le this hle
          exact ⟨E',F',hq2.weaken hN1 (fun d v h=>g2 d v (by rw [← hdl];exact h)) (fun k m h=>by simpa [e] using h) (fun k f h=>by cases h)⟩
        · have:look (s1.M++(sT i).M.map (fun q=>(q.1,MO.gone))) k=none:=h
          rw [look_append] at this
          split at this
          · cases this
          · exact hgone2 this
end
end
end Go.Kx
end
section
namespace Go.Kx
section
variable (P:Program) (tt:List (Nat × TD)) (call:Cal) (ext:Xt) (nt:Nat) (ops:Array Oper)
end
def clsOf (tt:List (Nat × TD)):Op→Nat
 | .move _=>0
 | .assign _=>0
 | .pick _ _ _=>0
 | .nilCheck _=>0
 | .unOp _ _ _=>0
 | .binOp _ _ _ _ _=>0
 | .field _ _ _=>0
 | .fieldAddr _ _ _=>0
 | .extract _ _=>0
 | .build _ _=>0
 | .index _ _ _=>0
 | .indexAddr _ _ _=>0
 | .load _ _=>1
 | .slice _ _ none none none=>2
 | .slice _ _ _ _ _=>1
 | .convert t u _=>match look tt t with
  | some d=>match look tt u with
   | some du=>bif Nat.beq du.kd 6 then 2 else bif Nat.beq d.kd 3 then 0 else 1
   | none=>1
  | none=>1
 | .call c=>match c.callee with
  | .builtin .len=>0
  | .builtin .min=>0
  | .builtin .max=>0
  | .builtin .cap=>1
  | .builtin .unsafeSliceData=>1
  | _=>2
 | _=>2
def vlOf (P:Program) (tt:List (Nat × TD)) (s:St) (op:Op):Option SV:=match sval tt s op with
 | some v=>some v
 | none=>xval2 P tt s op
theorem vlOf_ok {X:Ctx} {tt:List (Nat × TD)} (htt:TTOk X.P tt):VlOk X (vlOf X.P tt):=by
 refine ⟨fun _ _ _ _ _ _=>rfl,fun s E F w a o v hs h=>?_⟩
 unfold vlOf at h
 split at h
 ·rename_i u hu
  cases h
  exact sval_ok htt hs hu
 ·exact xval2_ok htt hs h
def FtOk (P:Program) (ft:FuncId→Option (Func × Code)):Prop:=∀ f fn body,ft f=some (fn,body)→P.funcs[f]? = some fn∧fn.body=some body∧(fn.name == "runtime.NumGoroutine")=false
section
variable {X:Ctx} {s s':St} {tt:List (Nat × TD)} {call:Cal} {ext:Xt} {ops:Array Oper} {todo:Act→World→Prop}
theorem WPr.skip0 {i:Nat} {rest:List Nat} {o:Oper} (ho:ops[i]? = some o) (hg:guardV ops s.L o=some false) (hd:o.dst=none) (k:WPr X ops rest todo s):WPr X ops (i::rest) todo s:=by
 intro E F w a hs
 simp only [wpOps,ho,guardV_ok hs hg,Bool.false_eq_true,if_false,hd]
 exact k E F w _ hs
theorem resOne_kb {E F w a} (hs:Sat X s E F w a) {r:ResultVar} {v:SV} (h:resOne tt s r=some v):v.kb s.nx:=by
 cases r with
 | tmp t=>exact hs.wf.hL t v h
 | cell ad t =>
  simp only [resOne] at h
  cases hd:look tt t with
  | none=>rw [hd] at h;cases h
  | some d =>
   rw [hd] at h
   simp only [] at h
   split at h
   ·split at h
    ·rename_i hm;exact loadC_kb h (hs.wf.hM _ _ hm).2
    ·cases h
   ·cases h
theorem resAll_kb {E F w a} (hs:Sat X s E F w a):∀ {rs:List ResultVar} {vs:List SV},resAll tt s rs=some vs→∀ v∈vs,v.kb s.nx
 | [],vs,h=>by cases h;simp
 | r::rs,vs,h=>by
  unfold resAll at h
  cases hr:resOne tt s r with
  | none=>rw [hr] at h;cases h
  | some v =>
   rw [hr] at h
   simp only [] at h
   cases ha:resAll tt s rs with
   | none=>rw [ha] at h;cases h
   | some us =>
    rw [ha] at h
    cases h
    intro u hu
    rcases List.mem_cons.1 hu with rfl | hu
    ·exact resOne_kb hs hr
    ·exact resAll_kb hs ha u hu
theorem sumAll_kb {n:Nat}:∀ {vs:List SV} {xs:List (SC ⊕ List SC)},sumAll vs=some xs→(∀ v∈vs,v.kb n)→(SV.t xs).kb n
 | [],xs,h,_=>by cases h;intro v hv;cases hv
 | v::vs,xs,h,hk=>by
  unfold sumAll at h
  cases hv:svSum v with
  | none=>rw [hv] at h;cases h
  | some x =>
   rw [hv] at h
   simp only [] at h
   cases hr:sumAll vs with
   | none=>rw [hr] at h;cases h
   | some ys =>
    rw [hr] at h
    cases h
    have ih:=sumAll_kb hr fun v hv=>hk v (List.mem_cons_of_mem _ hv)
    have h0:=hk v List.mem_cons_self
    intro u hu
    rcases List.mem_cons.1 hu with rfl | hu
    ·unfold svSum at hv
     split at hv
     ·cases hv;exact h0
     ·cases hv;exact h0
     ·cases hv
    ·exact ih u hu
theorem resV_kb {E F w a} (hs:Sat X s E F w a) {rs:List ResultVar} {v:SV} (h:resV tt s rs=some v):v.kb s.nx:=by
 unfold resV at h
 split at h
 ·rename_i hr;cases h;exact resAll_kb hs hr v (by simp)
 ·rename_i vs _ hr
  cases hsum:sumAll vs with
  | none=>rw [hsum] at h;cases h
  | some xs =>
   rw [hsum] at h
   cases h
   exact sumAll_kb hsum (resAll_kb hs hr)
 ·cases h
end
end Go.Kx
end
section
namespace Go.Kx
def fL (i:Nat) (f:Func):FuncId→Option (Func × Code):=fun j=>bif Nat.beq j i then (match f.body with
 | some c=>some (f,c)
 | none=>none) else none
def fN (m:Nat) (a b:FuncId→Option (Func × Code)):FuncId→Option (Func × Code):=fun j=>bif Nat.blt j m then a j else b j
theorem fLo {P:Program} {i:Nat} {f:Func} (h:P.funcs[i]? = some f) (hn:(f.name == "runtime.NumGoroutine")=false):FtOk P (fL i f):=by
 intro j fn body hj
 unfold fL at hj
 cases hb:Nat.beq j i with
 | false=>rw [hb] at hj;cases hj
 | true =>
  rw [hb] at hj
  have:=Nat.eq_of_beq_eq_true hb
  subst this
  cases hc:f.body with
  | none=>rw [hc] at hj;cases hj
  | some c=>rw [hc] at hj;cases hj;exact ⟨h,hc,hn⟩
theorem fNo {P:Program} {m:Nat} {a b:FuncId→Option (Func × Code)} (ha:FtOk P a) (hb:FtOk P b):FtOk P (fN m a b):=by
 intro j fn body hj
 unfold fN at hj
 cases hc:Nat.blt j m with
 | false=>rw [hc] at hj;exact hb j fn body hj
 | true=>rw [hc] at hj;exact ha j fn body hj
def xB (g:ByteArray→Int→Int):List SV→Option SV
 | [.c (.s m),.c (.i .u8 c)]=>some (.c (.i .i64 (g m c)))
 | _=>none
def xId:List SV→Option SV
 | [v]=>some v
 | _=>none
def xZ:FuncId→List SV→Option SV:=fun _ _=>none
def xN (i:Nat) (g:List SV→Option SV) (r:FuncId→List SV→Option SV):FuncId→List SV→Option SV:=fun f as=>bif Nat.beq f i then g as else r f as
def XOk (P:Program) (f:FuncId) (g:List SV→Option SV):Prop:=∀ svs v,g svs=some v→∀ (E:Env) (w:World),(callFunc f (svs.map (denV E)).toArray).run P w=.ok (.value (denV E v)) w∧∀ n,(∀ u∈svs,u.kb n)→v.kb n
def XVOk (P:Program) (x:FuncId→List SV→Option SV):Prop:=∀ f,XOk P f (x f)
theorem xZo {P:Program}:XVOk P xZ:=fun _ _ _ h=>nomatch h
theorem xNo {P:Program} {i:Nat} {g:List SV→Option SV} {r:FuncId→List SV→Option SV} (h:XOk P i g) (hr:XVOk P r):XVOk P (xN i g r):=by
 intro f svs v hv
 unfold xN at hv
 cases hb:Nat.beq f i with
 | true =>
  rw [hb] at hv
  have:=Nat.eq_of_beq_eq_true hb
  subst this
  exact h svs v hv
 | false=>rw [hb] at hv;exact hr f svs v hv
theorem xB_ok {P:Program} {f:FuncId} {g:ByteArray→Int→Int} (h:∀ (m:ByteArray) (c:Int) (E:Env) (w:World),(callFunc f (([.c (.s m),.c (.i .u8 c)]:List SV).map (denV E)).toArray).run P w=.ok (.value (denV E (.c (.i .i64 (g m c))))) w):XOk P f (xB g):=by
 intro svs v hv E w
 unfold xB at hv
 split at hv
 ·cases hv;exact ⟨h _ _ E w,fun _ _=>trivial⟩
 ·cases hv
theorem xId_ok {P:Program} {f:FuncId} {fn:Func} (hf:P.funcs[f]? = some fn) (hname:(fn.name == "runtime.NumGoroutine")=false) (hb:fn.body.isNone=true) (hn:Extern.findNext fn=none)
  (he:Extern.find fn=some Extern.AbiNoEscape.same):XOk P f xId:=by
 intro svs v hv E w
 unfold xId at hv
 split at hv
 ·cases hv
  refine ⟨?_,fun n h=>h v (by simp)⟩
  rw [run_callFunc_extern hf hname hb hn he]
  show ((Extern.AbiNoEscape.same #[denV E v]).run P w).andThen _=_
  rw [Go.Lib.run_noEscape];rfl
 ·cases hv
theorem digits_one:∀ (n t:Nat) (acc:Array Value),(∀ j:Nat,(acc[j]!).oneCell'=true)→∀ j:Nat,((Extern.BytealgMakeNoZero.digits n t acc)[j]!).oneCell'=true
 | 0,_,_,h=>h
 | n+1,t,acc,h=>by
  unfold Extern.BytealgMakeNoZero.digits
  refine digits_one n _ _ fun j=>?_
  have:=h j
  by_cases h1:j < acc.size
  ·simpa [getElem!_def,Array.getElem?_push,Nat.ne_of_lt h1] using this
  ·by_cases h2:j=acc.size
   ·subst h2;simp [getElem!_def];rfl
   ·have:acc.size < j:=by omega
    simp [getElem!_def,Array.getElem?_push,h2,h1]
    rfl
theorem digits_size:∀ (n t:Nat) (acc:Array Value),(Extern.BytealgMakeNoZero.digits n t acc).size=acc.size+n
 | 0,_,_=>rfl
 | n+1,t,acc=>by
  unfold Extern.BytealgMakeNoZero.digits
  rw [digits_size n]
  simp only [Array.size_push]
  omega
theorem mz_run {P:Program} {ps:Array TypeId} {t e:TypeId} (ht:P.underlying t=some (.slice e)) (n:Nat) (w:World) (hle:n≤4096) :
  ∃ q:Nat,((Extern.BytealgMakeNoZero.makeNoZero ps #[t] #[.int .i64 n]).run P w)=.ok (.slice (some ⟨w.heap.size,0,none⟩) n (grownCap w n 0 e)) (w.drew.drew.alloc (.cells (Extern.BytealgMakeNoZero.digits (grownCap w n 0 e) q #[]) e)):=by
 have h1:¬ (n:Int) < 0:=by omega
 have h2:¬ (281474976710656:Int) < (n:Int):=by omega
 obtain ⟨a,b,qq,hq,hdef⟩:∃ (a b:String) (qq:Question),qq.forced=false∧Extern.BytealgMakeNoZero.makeNoZero ps #[t] #[.int .i64 n] =
    (do
     let .slice elem ← underlying t | stuck a
     if (n:Int) < 0 || (n:Int) > 2 ^ 48 then runtimePanic (.error b)
     let cap ← choose (.appendCap (n:Int).toNat 0 elem)
     askRoom cap
     let bytes ← choose qq
     let a ← newRow elem (Extern.BytealgMakeNoZero.digits cap bytes #[])
     pure (.slice (some a) (n:Int).toNat cap)):=⟨_,_,_,rfl,rfl⟩
 refine ⟨qq.cut (w.tape (w.drawn+1) qq),?_⟩
 rw [hdef]
 have hc:(Question.appendCap n 0 e).forced=false:=rfl
 simp [run_underlying' ht,h1,h2,hq,hc,newRow,digits_size,grownCap,Result.andThen]
theorem mzOk {P:Program} {f:FuncId} {fn:Func} {ps:Array TypeId} {t e:TypeId} (hf:P.funcs[f]? = some fn) (hname:(fn.name == "runtime.NumGoroutine")=false) (hb:fn.body.isNone=true) (hn:Extern.findNext fn=none)
  (he:Extern.find fn=some (Extern.BytealgMakeNoZero.makeNoZero ps #[t])) (ht:P.underlying t=some (.slice e)):MzOk P f e:=by
 intro n w hle
 obtain ⟨q,hq⟩:=mz_run (ps:=ps) ht n w hle
 refine ⟨Extern.BytealgMakeNoZero.digits (grownCap w n 0 e) q #[],digits_one _ _ _ (fun j=>by simp [getElem!_def];rfl),?_,?_⟩
 ·rw [digits_size]
  simpa using grownCap_ge w n 0 e
 ·rw [run_callFunc_extern hf hname hb hn he,hq,digits_size]
  simp [Result.andThen]
def evT (call:Cal) (f:FuncId):Bool:=match call f [] [] [] 0 with
 | some (.c (.b true),_)=>true
 | _=>false
theorem Fn.ofEv {P:Program} {f:FuncId} {call:Cal} (hc:CalOk P call) (h:evT call f=true):Fn P f ⟨0,[],[],[],0,.c (.b true),[],[]⟩:=by
 unfold evT at h
 split at h
 ·rename_i r hr
  obtain ⟨M',V',nx'⟩:=r
  obtain ⟨hcb,hcs⟩:=hc _ _ _ _ _ _ _ _ _ hr
  refine ⟨hcb,fun E F w hp=>?_⟩
  refine (hcs E F w ⟨fun d v h=>(nomatch h),fun k m h=>(nomatch h),fun k f h=>(nomatch h)⟩ ⟨hp.one,hp.hF,fun k f h=>(nomatch h),fun k m h=>(nomatch h),fun k k' m m' h=>(nomatch h),fun k m h=>(nomatch h)⟩).mono ?_
  rintro e w' ⟨E',F',rfl,hq,_,_⟩
  exact ⟨E',F',rfl,{
   env:=fun k hk=>absurd hk (Nat.not_lt_zero k)
   one:=hq.one
   V:=fun k f h=>(nomatch h)
   M:=fun k m h=>(nomatch h)
   dis:=fun k k' m m' h=>(nomatch h)
   mF:=fun k m h=>(nomatch h)
   fresh:=fun k m h=>(nomatch h)
   F0:=hq.F0
   F1:=hq.F1
   Fs:=hq.Fs
   ext:=hq.ext }⟩
 ·cases h
end Go.Kx
end
section
namespace Go.Kx
@[reducible] noncomputable def lookF {α:Type _} (l:List (Nat × α)) (d:Nat):Option α:=List.rec (motive:=fun _=>Option α) none (fun q _ ih=>Bool.rec (motive:=fun _=>Option α) ih (some q.2) (Nat.beq q.1 d)) l
theorem lookF_eq {α:Type _}:∀ (l:List (Nat × α)) (d:Nat),lookF l d=look l d
 | [],_=>rfl
 | (k,v)::r,d=>by
  show Bool.rec (motive:=fun _=>Option α) (lookF r d) (some v) (Nat.beq k d)=bif Nat.beq k d then some v else look r d
  rw [lookF_eq r d]
  cases Nat.beq k d<;>rfl
structure IOd where
 run:List (Nat × SV)→Option SV
noncomputable def oTm (t:Nat) (L:List (Nat × SV)):Option SV:=List.rec (motive:=fun _=>Option SV) none (fun q _ ih=>Bool.rec (motive:=fun _=>Option SV) ih (some q.2) (Nat.beq q.1 t)) L
noncomputable def vTm (t:Nat) (L:List (Nat × SV)) (_:List (Nat × MO)):Option SV:=List.rec (motive:=fun _=>Option SV) none (fun q _ ih=>Bool.rec (motive:=fun _=>Option SV) ih (some q.2) (Nat.beq q.1 t)) L
def oKn (v:Option SV) (_:List (Nat × SV)):Option SV:=v
noncomputable def odI:Operand→IOd
 | .tmp t=>⟨oTm t⟩
 | .const v=>⟨oKn (cSV v)⟩
 | .global g=>⟨oKn (some (.c (.v (.pointer (some ⟨g,0,none⟩)))))⟩
 | .func f=>⟨oKn (some (.c (.cl f [] [])))⟩
theorem odI_eq (x:Operand) (L:List (Nat × SV)):(odI x).run L=evalO L x:=by
 cases x with
 | tmp t=>exact lookF_eq L t
 | const v=>rfl
 | global g=>rfl
 | func f=>rfl
structure IVal where
 run:List (Nat × SV)→List (Nat × MO)→Option SV
structure IBin where
 run:IntKind→Int→Int→Option SV
def bAdd (k:IntKind) (a b:Int):Option SV:=some (.c (.i k (k.wrap (a+b))))
def bSub (k:IntKind) (a b:Int):Option SV:=some (.c (.i k (k.wrap (a-b))))
def bMul (k:IntKind) (a b:Int):Option SV:=some (.c (.i k (k.wrap (a * b))))
def bEq (_:IntKind) (a b:Int):Option SV:=some (.c (.b (a==b)))
def bNe (_:IntKind) (a b:Int):Option SV:=some (.c (.b (a != b)))
def bLt (_:IntKind) (a b:Int):Option SV:=some (.c (.b (decide (a < b))))
def bLe (_:IntKind) (a b:Int):Option SV:=some (.c (.b (decide (a≤b))))
def bGt (_:IntKind) (a b:Int):Option SV:=some (.c (.b (decide (a > b))))
def bGe (_:IntKind) (a b:Int):Option SV:=some (.c (.b (decide (a≥b))))
def bNo (_:IntKind) (_ _:Int):Option SV:=none
def binI:BinOp→IBin
 | .add=>⟨bAdd⟩
 | .sub=>⟨bSub⟩
 | .mul=>⟨bMul⟩
 | .eql=>⟨bEq⟩
 | .neq=>⟨bNe⟩
 | .lss=>⟨bLt⟩
 | .leq=>⟨bLe⟩
 | .gtr=>⟨bGt⟩
 | .geq=>⟨bGe⟩
 | _=>⟨bNo⟩
def vNo (_:List (Nat × SV)) (_:List (Nat × MO)):Option SV:=none
def vMv (x:IOd) (L:List (Nat × SV)) (_:List (Nat × MO)):Option SV:=x.run L
def asB:Option SV→Option Bool
 | some (.c (.b t))=>some t
 | _=>none
def vPk (c x y:IOd) (L:List (Nat × SV)) (_:List (Nat × MO)):Option SV:=match asB (c.run L) with
 | some t=>bif t then x.run L else y.run L
 | none=>none
def ldM (d:TD) (off:Nat):Option MO→Option SV
 | some (.box cs _)=>loadC d off cs
 | some (.arr cs _ _)=>loadC d off cs
 | _=>none
def asP:Option SV→Option (Nat × Nat)
 | some (.c (.bp k off))=>some (k,off)
 | _=>none
noncomputable def vLd (d:TD) (ad:IOd) (L:List (Nat × SV)) (M:List (Nat × MO)):Option SV:=match asP (ad.run L) with
 | some (k,off)=>ldM d off (lookF M k)
 | none=>none
def vNc (x:IOd) (L:List (Nat × SV)) (_:List (Nat × MO)):Option SV:=match x.run L with
 | some (.c (.bp k off))=>some (.c (.bp k off))
 | some (.c (.cl f b c))=>some (.c (.cl f b c))
 | _=>none
def asI:Option SV→Option (IntKind × Int)
 | some (.c (.i k a))=>some (k,a)
 | _=>none
def eqU:List UInt8→List UInt8→Bool
 | [],[]=>true
 | a::l,b::r=>bif Nat.beq a.toNat b.toNat then eqU l r else false
 | _,_=>false
def nthU:List UInt8→Nat→Option Int
 | [],_=>none
 | b::_,0=>some (b.toNat:Int)
 | _::r,n+1=>nthU r n
structure ISb where
 run:ByteArray→ByteArray→Option SV
def sEq (a b:ByteArray):Option SV:=some (.c (.b (eqU a.data.toList b.data.toList)))
def sNe (a b:ByteArray):Option SV:=some (.c (.b (!(eqU a.data.toList b.data.toList))))
def sNo (_ _:ByteArray):Option SV:=none
def binS:BinOp→ISb
 | .eql=>⟨sEq⟩
 | .neq=>⟨sNe⟩
 | _=>⟨sNo⟩
def asS:Option SV→Option ByteArray
 | some (.c (.s m))=>some m
 | _=>none
def vBi (f:IBin) (g:ISb) (x y:IOd) (L:List (Nat × SV)) (_:List (Nat × MO)):Option SV:=match asI (x.run L) with
 | some (k,a)=>match asI (y.run L) with
  | some (k',b)=>bif decide (k=k') then f.run k a b else none
  | none=>none
 | none=>match asS (x.run L) with
  | some m=>match asS (y.run L) with
   | some n=>g.run m n
   | none=>none
  | none=>none
def vFa (x:IOd) (o:Nat) (L:List (Nat × SV)) (_:List (Nat × MO)):Option SV:=match asP (x.run L) with
 | some (k,off)=>some (.c (.bp k (off+o)))
 | none=>none
def vIa (kd es n:Nat) (x ix:IOd) (L:List (Nat × SV)) (_:List (Nat × MO)):Option SV:=match asI (ix.run L) with
 | some (_,j)=>match x.run L with
  | some (.c (.sp k i len es'))=>bif inB j len && Nat.beq kd 6 && Nat.beq es es' then some (.c (.bp k (i * es'+j.toNat * es'))) else none
  | some (.c (.bp k off))=>bif inB j n && Nat.beq kd 5 then some (.c (.bp k (off+j.toNat * es))) else none
  | _=>none
 | none=>none
def vIs (x ix:IOd) (L:List (Nat × SV)) (_:List (Nat × MO)):Option SV:=match asI (ix.run L) with
 | some (_,j)=>match asS (x.run L) with
  | some m=>match (bif decide (0≤j) then nthU m.data.toList j.toNat else none) with
   | some z=>some (.c (.i .u8 z))
   | none=>none
  | none=>none
 | none=>none
noncomputable def xlenF (M:List (Nat × MO)) (k i n es:Nat):Bool:=match lookF M k with
 | some (.arr cs e _)=>Nat.beq e es && Nat.ble ((i+n) * es) cs.length
 | _=>false
def evOF (L:List (Nat × SV)):Option IOd→Option (Option Int)
 | none=>some none
 | some x=>match asI (x.run L) with
  | some (_,n)=>some (some n)
  | none=>none
noncomputable def vSl (kd es:Nat) (x:IOd) (lo hi:Option IOd) (L:List (Nat × SV)) (M:List (Nat × MO)):Option SV:=match evOF L lo with
 | some l=>match evOF L hi with
  | some h=>match x.run L with
   | some (.c (.s m))=>bif Nat.beq kd 2 then (match bnd l h m.data.toList.length with
    | some p=>some (.c (.s ⟨⟨(m.data.toList.drop p.1).take (p.2-p.1)⟩⟩))
    | none=>none) else none
   | some (.c (.sp k i len es'))=>bif Nat.beq kd 6 && Nat.beq es es' && xlenF M k i len es' then (match bnd l h len with
    | some p=>bif Nat.beq p.1 0 || Nat.blt p.1 p.2 then some (.c (.sp k (i+p.1) (p.2-p.1) es')) else none
    | none=>none) else none
   | _=>none
  | none=>none
 | none=>none
def vLn (kd:Nat) (x:IOd) (L:List (Nat × SV)) (_:List (Nat × MO)):Option SV:=match x.run L with
 | some (.c (.sp _ _ n _))=>bif Nat.beq kd 6 then some (.c (.i .i64 n)) else none
 | some (.c (.s m))=>bif Nat.beq kd 2 then some (.c (.i .i64 m.size)) else none
 | some (.c .nil)=>bif Nat.beq kd 6 then some (.c (.i .i64 0)) else none
 | _=>none
def vCv (k:IntKind) (x:IOd) (L:List (Nat × SV)) (_:List (Nat × MO)):Option SV:=match asI (x.run L) with
 | some (_,n)=>some (.c (.i k (k.wrap n)))
 | none=>none
def vNt (x:IOd) (L:List (Nat × SV)) (_:List (Nat × MO)):Option SV:=match asB (x.run L) with
 | some t=>some (.c (.b (!t)))
 | none=>none
def vEx (x:IOd) (j:Nat) (L:List (Nat × SV)) (_:List (Nat × MO)):Option SV:=match x.run L with
 | some (.t vs)=>match vs[j]? with
  | some (.inl c)=>some (.c c)
  | some (.inr cs)=>some (.a cs)
  | none=>none
 | _=>none
noncomputable def ldI (ad:Operand):Option TD→IVal
 | some d=>⟨vLd d (odI ad)⟩
 | none=>⟨vNo⟩
noncomputable def faI (x:Operand) (f:Nat):Option TD→IVal
 | some d=>match d.fo[f]? with
  | some (o,_,_)=>⟨vFa (odI x) o⟩
  | none=>⟨vNo⟩
 | none=>⟨vNo⟩
noncomputable def iaI (x ix:Operand):Option TD→IVal
 | some d=>⟨vIa d.kd d.es d.n (odI x) (odI ix)⟩
 | none=>⟨vNo⟩
noncomputable def ixI (x ix:Operand):Option TD→IVal
 | some d=>bif Nat.beq d.kd 2 then ⟨vIs (odI x) (odI ix)⟩ else ⟨vNo⟩
 | none=>⟨vNo⟩
noncomputable def ooI:Option Operand→Option IOd
 | some x=>some (odI x)
 | none=>none
noncomputable def slI (x:Operand) (lo hi:Option Operand):Option TD→IVal
 | some d=>⟨vSl d.kd d.es (odI x) (ooI lo) (ooI hi)⟩
 | none=>⟨vNo⟩
noncomputable def lnI (x:Operand):Option TD→IVal
 | some d=>⟨vLn d.kd (odI x)⟩
 | none=>⟨vNo⟩
noncomputable def cvI (x:Operand):Option TD→Option TD→IVal
 | some _,some d=>match d.ik with
  | some k=>⟨vCv k (odI x)⟩
  | none=>⟨vNo⟩
 | _,_=>⟨vNo⟩
noncomputable def mvI:Operand→IVal
 | .tmp t=>⟨vTm t⟩
 | x=>⟨vMv (odI x)⟩
noncomputable def vF (tt:List (Nat × TD)):Op→IVal
 | .move x=>mvI x
 | .assign x=>mvI x
 | .pick c x y=>⟨vPk (odI c) (odI x) (odI y)⟩
 | .load t ad=>ldI ad (look tt t)
 | .nilCheck x=>⟨vNc (odI x)⟩
 | .binOp b _ x y _=>⟨vBi (binI b) (binS b) (odI x) (odI y)⟩
 | .unOp .not _ x=>⟨vNt (odI x)⟩
 | .fieldAddr t x f=>faI x f (look tt t)
 | .indexAddr t x ix=>iaI x ix (look tt t)
 | .index t x ix=>ixI x ix (look tt t)
 | .slice t x lo hi none=>slI x lo hi (look tt t)
 | .extract x j=>⟨vEx (odI x) j⟩
 | .convert t u x=>cvI x (look tt t) (look tt u)
 | .call { callee:=.builtin .len,args:=⟨[x]⟩,argTypes:=⟨[t]⟩ }=>lnI x (look tt t)
 | _=>⟨vNo⟩
theorem asI_ok {v:Option SV} {k:IntKind} {n:Int} (h:asI v=some (k,n)):v=some (.c (.i k n)):=by
 unfold asI at h
 split at h
 ·cases h;rfl
 ·cases h
theorem asB_ok {v:Option SV} {t:Bool} (h:asB v=some t):v=some (.c (.b t)):=by
 unfold asB at h
 split at h
 ·cases h;rfl
 ·cases h
theorem asP_ok {v:Option SV} {k n:Nat} (h:asP v=some (k,n)):v=some (.c (.bp k n)):=by
 unfold asP at h
 split at h
 ·cases h;rfl
 ·cases h
theorem asS_ok {v:Option SV} {m:ByteArray} (h:asS v=some m):v=some (.c (.s m)):=by
 unfold asS at h
 split at h
 ·cases h;rfl
 ·cases h
theorem eqU_eq:∀ (a b:List UInt8),eqU a b=(a==b)
 | [],[]=>rfl
 | [],_::_=>rfl
 | _::_,[]=>rfl
 | x::a,y::b=>by
  unfold eqU
  rw [eqU_eq a b,List.cons_beq_cons]
  cases hb:Nat.beq x.toNat y.toNat with
  | true =>
   have:=UInt8.toNat_inj.1 (Nat.eq_of_beq_eq_true hb)
   subst this;simp
  | false =>
   have:(x==y)=false:=by
    rw [beq_eq_false_iff_ne]
    intro e;subst e;simp at hb
   rw [this];rfl
theorem nthU_eq:∀ (l:List UInt8) (n:Nat),nthU l n=l[n]?.map fun b=>(b.toNat:Int)
 | [],_=>by simp [nthU]
 | _::_,0=>rfl
 | _::r,n+1=>by unfold nthU;rw [nthU_eq r n];simp
theorem sidxF_eq (m:ByteArray) (j:Int):(bif decide (0≤j) then nthU m.data.toList j.toNat else none)=sidx m j:=by
 unfold sidx
 rw [nthU_eq]
 have:m[j.toNat]? = m.data.toList[j.toNat]? := by
  by_cases h:j.toNat < m.size
  ·have h':j.toNat < m.data.toList.length:=by simpa using h
   rw [getElem?_pos m j.toNat h,getElem?_pos m.data.toList j.toNat h']
   rfl
  ·have h':¬ j.toNat < m.data.toList.length:=by simpa using h
   rw [getElem?_neg m j.toNat h,getElem?_neg m.data.toList j.toNat h']
 rw [this]
theorem extF_eq (m:ByteArray) (a b:Nat):(⟨⟨(m.data.toList.drop a).take (b-a)⟩⟩:ByteArray)=m.extract a b:=by
 have:(m.extract a b).data.toList=(m.data.toList.drop a).take (b-a):=by
  simp [ByteArray.extract,ByteArray.copySlice]
 rw [← this]
theorem xlenF_eq (M:List (Nat × MO)) (k i n es:Nat):xlenF M k i n es=xlen M k i n es:=by
 unfold xlenF xlen;rw [lookF_eq]<;>rfl
theorem evOF_ok {L:List (Nat × SV)} {x:Option Operand} {r:Option Int} (h:evOF L (ooI x)=some r):∃ q,evOI L x=some q∧q.map (·.2)=r:=by
  cases x with
  | none=>cases h;exact ⟨none,rfl,rfl⟩
  | some x =>
    simp only [ooI,evOF,odI_eq] at h
    split at h
    · rename_i k n hx
      cases h
      exact ⟨some (k,n),by simp only [evOI,asI_ok hx],rfl⟩
    · cases h
theorem mvI_ok {x:Operand} {L:List (Nat × SV)} {M:List (Nat × MO)} {v:SV} (h:(mvI x).run L M=some v):evalO L x=some v:=by
 unfold mvI at h
 split at h
 ·rw [← odI_eq];exact h
 ·simp only [vMv,odI_eq] at h;exact h
theorem vF_ok {P:Program} {tt:List (Nat × TD)} {op:Op} {s:St} {v:SV} (h:(vF tt op).run s.L s.M=some v):sval tt s op=some v∨xval P tt s op=some v:=by
  unfold vF at h
  split at h
  · exact .inl (mvI_ok h)
  · exact .inl (mvI_ok h)
  · rename_i c x y
    left
    simp only [vPk,odI_eq] at h
    split at h
    · rename_i t hc
      cases t with
      | true=>simp only [sval,asB_ok hc];exact h
      | false=>simp only [sval,asB_ok hc];exact h
    · cases h
  · rename_i t ad
    unfold ldI at h
    split at h
    · rename_i d hd
      simp only [vLd,odI_eq,lookF_eq] at h
      split at h
      · rename_i k off hx
        unfold ldM at h
        split at h
        · rename_i cs t' hm
          left;simp only [sval,hd,asP_ok hx,hm];exact h
        · rename_i cs e t' hm
          right;simp only [xval,xvLoad,hd,asP_ok hx,hm];exact h
        · cases h
      · cases h
    · cases h
  · rename_i x
    left
    simp only [vNc,odI_eq] at h
    split at h
    · rename_i hx;simp only [sval,hx];exact h
    · rename_i hx;simp only [sval,hx];exact h
    · cases h
  · rename_i b t x y yt
    left
    simp only [vBi,odI_eq] at h
    split at h
    · rename_i k m hx
      split at h
      · rename_i k' n hy
        cases hk:decide (k=k') with
        | false=>rw [hk] at h;cases h
        | true =>
          rw [hk] at h
          simp only [sval,asI_ok hx,asI_ok hy,sbin,hk,cond_true]
          unfold binI at h
          split at h<;>(try cases h)<;>rfl
      · cases h
    · split at h
      · rename_i m hx
        split at h
        · rename_i n hy
          simp only [sval,asS_ok hx,asS_ok hy,sbin]
          unfold binS at h
          split at h
          · simp only [sEq,eqU_eq,← ByteArray.toList_eq] at h;exact h
          · simp only [sNe,eqU_eq,← ByteArray.toList_eq] at h;exact h
          · cases h
        · cases h
      · cases h
  · rename_i t x
    left
    simp only [vNt,odI_eq] at h
    split at h
    · rename_i b hx;simp only [sval,asB_ok hx];exact h
    · cases h
  · rename_i t x f
    left
    unfold faI at h
    split at h
    · rename_i d hd
      split at h
      · rename_i o a b hf
        simp only [vFa,odI_eq] at h
        split at h
        · rename_i k off hx
          simp only [sval,hd,asP_ok hx,faddr,hf];exact h
        · cases h
      · cases h
    · cases h
  · rename_i t x ix
    right
    unfold iaI at h
    split at h
    · rename_i d hd
      simp only [vIa,odI_eq] at h
      split at h
      · rename_i k j hix
        split at h
        · rename_i hx;simp only [xval,xvIdxA,hd,asI_ok hix,hx];exact h
        · rename_i hx;simp only [xval,xvIdxA,hd,asI_ok hix,hx];exact h
        · cases h
      · cases h
    · cases h
  · rename_i t x ix
    right
    unfold ixI at h
    split at h
    · rename_i d hd
      cases hk:Nat.beq d.kd 2 with
      | false=>rw [hk] at h;cases h
      | true =>
        rw [hk] at h
        simp only [cond_true,vIs,odI_eq,sidxF_eq] at h
        split at h
        · rename_i k j hix
          split at h
          · rename_i m hx
            simp only [xval,xvIdx,hd,asI_ok hix,asS_ok hx,hk,cond_true];exact h
          · cases h
        · cases h
    · cases h
  · rename_i t x lo hi
    right
    unfold slI at h
    split at h
    · rename_i d hd
      simp only [vSl,odI_eq] at h
      split at h
      · rename_i l hl
        obtain ⟨ql,h1,rfl⟩:=evOF_ok hl
        split at h
        · rename_i hh he
          obtain ⟨qh,h2,rfl⟩:=evOF_ok he
          split at h
          · rename_i m hx
            simp only [xval,xvSlice,hd,h1,h2,hx]
            cases hk:Nat.beq d.kd 2 with
            | false=>rw [hk] at h;cases h
            | true =>
              rw [hk] at h
              simp only [cond_true] at h ⊢
              split at h
              · rename_i p hp
                have hp:bnd (ql.map (·.2)) (qh.map (·.2)) m.size=some p:=by simpa using hp
                simp only [ssl,hp,Option.map_some]
                rw [extF_eq] at h;exact h
              · cases h
          · rename_i k i len es' hx
            simp only [xval,xvSlice,hd,h1,h2,hx]
            rw [xlenF_eq] at h
            exact h
          · cases h
        · cases h
      · cases h
    · cases h
  · rename_i x j
    left
    simp only [vEx,odI_eq] at h
    split at h
    · rename_i vs hx;simp only [sval,hx];exact h
    · cases h
  · rename_i t u x
    left
    unfold cvI at h
    split at h
    · rename_i d0 d h1 h2
      split at h
      · rename_i k hk
        simp only [vCv,odI_eq] at h
        split at h
        · rename_i k0 n hx
          simp only [sval,h1,h2,asI_ok hx,hk];exact h
        · cases h
      · cases h
    · cases h
  · rename_i x t
    unfold lnI at h
    split at h
    · rename_i d hd
      simp only [vLn,odI_eq] at h
      split at h
      · rename_i hx
        right;simp only [xval,xvLen,hd,hx];exact h
      · rename_i hx
        left;simp only [sval,scall,hd,hx,lenS];exact h
      · rename_i hx
        left;simp only [sval,scall,hd,hx,lenS];exact h
      · cases h
    · cases h
  · cases h
end Go.Kx
end
section
namespace Go.Kx
structure ISl where
 run:Cal→St→Option St
abbrev Kon:=List (Nat × SV)→List (Nat × MO)→Nat→Option St
abbrev Kit:=List Item→List (Nat × SV)→List (Nat × MO)→Nat→Nat→Option St
structure IOp where
 run:Cal→Kon→Kon
structure ICo where
 run:Cal→Kit→Kit
def frM (K:List (Nat × MO)→Option St) (M:List (Nat × MO)):Option St:=List.casesOn (motive:=fun _=>Option St) M (K []) fun q r=>K (q::r)
def frN (K:Nat→Option St) (n:Nat):Option St:=Nat.casesOn (motive:=fun _=>Option St) n (K 0) fun m=>K (Nat.succ m)
def goS (K:Kon):Option St→Option St
 | some ⟨L,M,_,nx⟩=>frN (fun nx=>frM (fun M=>K L M nx) M) nx
 | none=>none
theorem goS_eq {K:Kon} {L:List (Nat × SV)} {M:List (Nat × MO)} {V:List (Nat × VF)} {nx:Nat}:goS K (some ⟨L,M,V,nx⟩)=K L M nx:=by
 cases nx<;>cases M<;>rfl
theorem goS_ok {K:Kon} {x:Option St} {s':St} (h:goS K x=some s'):∃ s1,x=some s1∧K s1.L s1.M s1.nx=some s':=by
 cases x with
 | none=>cases h
 | some s1 =>
  obtain ⟨L,M,V,nx⟩:=s1
  rw [goS_eq] at h
  exact ⟨_,rfl,h⟩
noncomputable def pickF (L:List (Nat × SV)) (rd:List Nat):List (Nat × SV):=List.rec (motive:=fun _=>List (Nat × SV)) [] (fun d _ ih=>match lookF L d with
 | some v=>(d,v)::ih
 | none=>ih) rd
theorem pickF_eq (L:List (Nat × SV)):∀ rd:List Nat,pickF L rd=pickL L rd
 | []=>rfl
 | d::r=>by
  show (match lookF L d with | some v=>(d,v)::pickF L r | none=>pickF L r)=_
  rw [lookF_eq,pickF_eq L r];rfl
noncomputable def rV (d:Nat) (iv:IVal) (sl:ISl) (call:Cal) (K:Kon) (L:List (Nat × SV)) (M:List (Nat × MO)) (nx:Nat):Option St :=
 Option.rec (motive:=fun _=>Option St) (goS K (sl.run call ⟨L,M,[],nx⟩)) (fun v=>K ((d,v)::L) M nx) (iv.run L M)
noncomputable def rD (d:Nat) (rd:List Nat) (m:Bool) (iv:IVal) (sl:ISl) (call:Cal) (K:Kon) (L:List (Nat × SV)) (M:List (Nat × MO)) (nx:Nat):Option St :=
 Option.rec (motive:=fun _=>Option St) (goS K (sl.run call ⟨L,M,[],nx⟩)) (fun v=>K ((d,v)::L) M nx) (iv.run (pickF L rd) (Bool.rec (motive:=fun _=>List (Nat × MO)) M [] m))
def rN (sl:ISl) (call:Cal) (K:Kon) (L:List (Nat × SV)) (M:List (Nat × MO)) (nx:Nat):Option St:=goS K (sl.run call ⟨L,M,[],nx⟩)
def gV (w:Bool):Option SV→Option Bool
 | some (.c (.b t))=>match t with
  | true=>some w
  | false=>some (!w)
 | some .u=>some false
 | _=>none
noncomputable def rG (c:Nat) (w:Bool) (t:Nat) (o:IOp) (call:Cal) (K:Kon) (L:List (Nat × SV)) (M:List (Nat × MO)) (nx:Nat):Option St :=
 Option.rec (motive:=fun _=>Option St) none (fun b=>Bool.rec (motive:=fun _=>Option St) (K ((t,.u)::L) M nx) (o.run call K L M nx) b) (gV w (lookF L c))
noncomputable def runL (call:Cal) (K:Kon) (l:List IOp):Kon:=List.rec (motive:=fun _=>Kon) K (fun o _ ih=>o.run call ih) l
section
variable (P:Program) (tt:List (Nat × TD)) (ext:Xt) (nt:Nat)
def oGn (o:Oper) (call:Cal) (s:St):Option St:=evOp P tt call ext nt o s
def oCl (cal:Operand) (args:Array Operand) (o:Oper) (call:Cal) (s:St):Option St:=xeCall call ext nt o s cal args
def isVl:Op→Bool
 | .move _=>true
 | .assign _=>true
 | .pick _ _ _=>true
 | .load _ _=>true
 | .nilCheck _=>true
 | .binOp _ _ _ _ _=>true
 | .unOp _ _ _=>true
 | .fieldAddr _ _ _=>true
 | .indexAddr _ _ _=>true
 | .index _ _ _=>true
 | .slice _ _ _ _ _=>true
 | .extract _ _=>true
 | .convert _ _ _=>true
 | .call { callee:=.builtin _,args:=_,argTypes:=_ }=>true
 | _=>false
noncomputable def opI (o:Oper):IOp:=bif isVl o.op then (match o.dst with
  | some d=>bif Nat.blt d nt then ⟨rV d (vF tt o.op) ⟨oGn P tt ext nt o⟩⟩ else ⟨rN ⟨oGn P tt ext nt o⟩⟩
  | none=>⟨rN ⟨oGn P tt ext nt o⟩⟩)
 else match o.op with
  | .call { callee:=.value cal,args:=args,argTypes:=_ }=>⟨rN ⟨oCl ext nt cal args o⟩⟩
  | _=>⟨rN ⟨oGn P tt ext nt o⟩⟩
noncomputable def oGd (ops:Array Oper) (o:Oper) (call:Cal) (s:St):Option St:=match guardV ops s.L o with
 | some true=>evOp P tt call ext nt o s
 | some false=>match o.dst with
  | some d=>bif Nat.blt d nt then some ⟨(d,.u)::s.L,s.M,s.V,s.nx⟩ else none
  | none=>some s
 | none=>none
def gSt (ops:Array Oper) (j:Nat):Option Nat:=match ops[j]? with
 | some oj=>oj.dst
 | none=>none
noncomputable def gdI (ops:Array Oper) (o:Oper):IOp:=match o.guard with
 | none=>opI P tt ext nt o
 | some (j,w)=>match gSt ops j with
  | some c=>match o.dst with
   | some t=>bif Nat.blt t nt then ⟨rG c w t (opI P tt ext nt o)⟩ else ⟨rN ⟨oGd P tt ext nt ops o⟩⟩
   | none=>⟨rN ⟨oGd P tt ext nt ops o⟩⟩
  | none=>⟨rN ⟨oGd P tt ext nt ops o⟩⟩
noncomputable def gdL (ops:Array Oper):List Oper→List IOp
 | []=>[]
 | o::r=>gdI P tt ext nt ops o::gdL ops r
noncomputable def vl2 (s:St) (op:Op):Option SV:=match (vF tt op).run s.L s.M with
 | some v=>some v
 | none=>vlOf P tt s op
noncomputable def sGo (ops:Array Oper) (o:Oper) (call:Cal) (s:St):Option St:=stepS (clsOf tt) (vl2 P tt) (evOp P tt call ext nt) nt ops o s
noncomputable def stI (ops:Array Oper) (o:Oper):IOp:=match o.guard with
 | none=>bif isVl o.op && !(Nat.beq (clsOf tt o.op) 2) then (match o.dst with
  | some d=>bif Nat.blt d nt then ⟨rD d (readsOf ops o) (Nat.beq (clsOf tt o.op) 0) (vF tt o.op) ⟨sGo P tt ext nt ops o⟩⟩ else ⟨rN ⟨sGo P tt ext nt ops o⟩⟩
  | none=>⟨rN ⟨sGo P tt ext nt ops o⟩⟩) else ⟨rN ⟨sGo P tt ext nt ops o⟩⟩
 | some _=>⟨rN ⟨sGo P tt ext nt ops o⟩⟩
noncomputable def stL (ops:Array Oper):List Oper→List IOp
 | []=>[]
 | o::r=>stI P tt ext nt ops o::stL ops r
def oDd (ops:Array Oper) (call:Cal) (s:St):Option St:=evDrawn P tt call ext nt ops s
noncomputable def longer {α:Type _} (l:List α):Nat→Bool:=List.rec (motive:=fun _=>Nat→Bool) (fun _=>false) (fun _ _ ih n=>Nat.rec (motive:=fun _=>Bool) true (fun m _=>ih m) n) l
noncomputable def lenF {α:Type _} (l:List α):Nat:=List.rec (motive:=fun _=>Nat) 0 (fun _ _ ih=>Nat.succ ih) l
noncomputable def subF {α:Type _} (l:List (Nat × α)):Nat→List (Nat × α):=List.rec (motive:=fun _=>Nat→List (Nat × α)) (fun _=>[]) (fun q _ ih seen=>Bool.rec (motive:=fun _=>List (Nat × α)) (ih seen) (q::ih (Nat.lor seen (Nat.pow 2 q.1))) (Nat.beq (Nat.land 1 (Nat.shiftRight seen q.1)) 0)) l
def cNx (_:Cal) (ih:Kit) (k:List Item) (L:List (Nat × SV)) (M:List (Nat × MO)) (nx m:Nat):Option St:=ih k L M nx m
def cPs (a b:Item) (_:Cal) (ih:Kit) (k:List Item) (L:List (Nat × SV)) (M:List (Nat × MO)) (nx m:Nat):Option St:=ih (a::b::k) L M nx m
def cOn (a:Item) (_:Cal) (ih:Kit) (k:List Item) (L:List (Nat × SV)) (M:List (Nat × MO)) (nx m:Nat):Option St:=ih (a::k) L M nx m
noncomputable def cCd (d:Nat) (x y:Item) (_:Cal) (ih:Kit) (k:List Item) (L:List (Nat × SV)) (M:List (Nat × MO)) (nx m:Nat):Option St :=
 Option.rec (motive:=fun _=>Option St) none (fun t=>Bool.rec (motive:=fun _=>Option St) (ih (y::k) L M nx m) (ih (x::k) L M nx m) t) (asB (lookF L d))
noncomputable def cRg (l:List IOp) (call:Cal) (ih:Kit) (k:List Item) (L:List (Nat × SV)) (M:List (Nat × MO)) (nx m:Nat):Option St:=runL call (fun L M nx=>ih k L M nx m) l L M nx
def cDr (sl:ISl) (call:Cal) (ih:Kit) (k:List Item) (L:List (Nat × SV)) (M:List (Nat × MO)) (nx m:Nat):Option St:=goS (fun L M nx=>ih k L M nx m) (sl.run call ⟨L,M,[],nx⟩)
def cEx (id:Nat) (_:Cal) (ih:Kit) (k:List Item) (L:List (Nat × SV)) (M:List (Nat × MO)) (nx m:Nat):Option St:=match exitTo id k with
 | some k2=>ih k2 L M nx m
 | none=>none
noncomputable def cLo (a b:Item) (nt:Nat) (_:Cal) (ih:Kit) (k:List Item) (L:List (Nat × SV)) (M:List (Nat × MO)) (nx m:Nat):Option St:=match longer M m || longer L (Nat.add nt 30) with
 | true=>ih (a::b::k) (subF L 0) (subF M 0) nx (Nat.add (lenF (subF M 0)) 60)
 | false=>ih (a::b::k) L M nx m
def cRt (_:Cal) (_:Kit) (_:List Item) (L:List (Nat × SV)) (M:List (Nat × MO)) (nx _:Nat):Option St:=some ⟨L,M,[],nx⟩
def cNo (_:Cal) (_:Kit) (_:List Item) (_:List (Nat × SV)) (_:List (Nat × MO)) (_ _:Nat):Option St:=none
noncomputable def coI:Code→ICo
 | .skip=>⟨cNx⟩
 | .label _=>⟨cNx⟩
 | .seq x y=>⟨cPs (.code x) (.code y)⟩
 | .cond (.tmp d) x y=>⟨cCd d (.code x) (.code y)⟩
 | .cond (.const (.bool true)) x _=>⟨cOn (.code x)⟩
 | .cond (.const (.bool false)) _ y=>⟨cOn (.code y)⟩
 | .block id b=>⟨cPs (.code b) (.inBlock id)⟩
 | .exit id=>⟨cEx id⟩
 | .loop b=>⟨cPs (.code b) (.inLoop b)⟩
 | .ret=>⟨cRt⟩
 | .region _ ops false=>⟨cRg (gdL P tt ext nt ops ops.toList)⟩
 | .region _ ops true=>bif stAll (clsOf tt) ops ops.toList [] [] then ⟨cRg (stL P tt ext nt ops ops.toList)⟩ else ⟨cDr ⟨oDd P tt ext nt ops⟩⟩
 | _=>⟨cNo⟩
noncomputable def itI:Item→ICo
 | .inBlock _=>⟨cNx⟩
 | .inLoop c=>⟨cLo (.code c) (.inLoop c) nt⟩
 | .code c=>coI P tt ext nt c
 | _=>⟨cNo⟩
noncomputable def evItF (call:Cal) (fuel:Nat):Kit:=Nat.rec (motive:=fun _=>Kit) (fun _ _ _ _ _=>none) (fun _ ih k L M nx m =>
 List.casesOn (motive:=fun _=>Option St) k (some ⟨L,M,[],nx⟩) fun it k'=>(itI P tt ext nt it).run call ih k' L M nx m) fuel
noncomputable def noFr (M:List (Nat × MO)):Bool:=List.rec (motive:=fun _=>Bool) true (fun q _ ih=>bif q.2.isFresh then false else ih) M
noncomputable def markF (M:List (Nat × MO)):Nat→List Nat→Nat→Nat
 | 0,_,m=>m
 | _+1,[],m=>m
 | n+1,k::r,m=>bif Nat.beq (Nat.land 1 (Nat.shiftRight m k)) 0 then (match lookF M k with
  | some (.box cs _)=>markF M n (lsKeys cs++r) (Nat.lor m (Nat.pow 2 k))
  | some (.arr cs _ _)=>markF M n (lsKeys cs++r) (Nat.lor m (Nat.pow 2 k))
  | _=>markF M n r (Nat.lor m (Nat.pow 2 k))) else markF M n r m
noncomputable def keysB (nx:Nat) (M:List (Nat × MO)):List Nat:=List.rec (motive:=fun _=>List Nat) [] (fun q _ ih=>Bool.rec (motive:=fun _=>List Nat) ih (q.1::ih) (Nat.blt q.1 nx)) M
noncomputable def keepF (nx m:Nat) (M:List (Nat × MO)):List (Nat × MO):=List.rec (motive:=fun _=>List (Nat × MO)) [] (fun q _ ih=>Bool.rec (motive:=fun _=>List (Nat × MO)) (Bool.rec (motive:=fun _=>List (Nat × MO)) (q::ih) ih (Nat.beq (Nat.land 1 (Nat.shiftRight m q.1)) 0)) (q::ih) (Nat.blt q.1 nx)) M
noncomputable def gcF (nx:Nat) (v:SV) (M:List (Nat × MO)):List (Nat × MO):=match subF M 0 with
 | M1=>match markF M1 1000000 (lsKeys (svCs v)++keysB nx M1) 0 with
  | m=>keepF nx m M1
noncomputable def gc2 (n0 nx:Nat) (v:SV) (M:List (Nat × MO)):List (Nat × MO):=bif longer M (Nat.add n0 30) then gcF nx v M else M
end
noncomputable def evCallF (P:Program) (tt:List (Nat × TD)) (ft:FuncId→Option (Func × Code)) (ext:Xt) (T:Cal) (fuel:Nat):Nat→Cal
 | 0=>fun _ _ _ _ _=>none
 | n+1=>fun f args M V nx=>match T f args M V nx with
  | some r=>some r
  | none=>match ft f with
   | some (fn,body)=>bif Nat.ble args.length fn.ntmps && noFr M then
    (match evItF P tt ext fn.ntmps (evCallF P tt ft ext T fuel n) fuel [.code body] (numL 0 args) M nx (Nat.add (lenF M) 60) with
    | some s'=>match resV tt s' fn.results.toList with
     | some v=>bif Nat.ble nx s'.nx then some (v,gc2 (lenF M) nx v s'.M,s'.V,s'.nx) else none
     | none=>none
    | none=>none) else none
   | none=>none
section
variable {X:Ctx} {s s':St} {tt:List (Nat × TD)} {call:Cal} {ext:Xt} {ops:Array Oper} {todo:Act→World→Prop} {K:Kon} {L:List (Nat × SV)} {M:List (Nat × MO)} {nx:Nat}
theorem iv_ok (htt:TTOk X.P tt) {E F w a} (hs:Sat X s E F w a) {o:Oper} {v:SV} (h:(vF tt o.op).run s.L s.M=some v):(execOp a.eval o).run X.P w=.ok (.value (denV E v)) w∧v.kb s.nx:=by
 rcases vF_ok (P:=X.P) h with h | h
 ·exact sval_ok htt hs h
 ·exact xval_ok htt hs h
theorem vl2_ok (htt:TTOk X.P tt):VlOk X (vl2 X.P tt):=by
 refine ⟨fun _ _ _ _ _ _=>rfl,fun s E F w a o v hs h=>?_⟩
 unfold vl2 at h
 split at h
 ·rename_i u hu
  cases h
  exact iv_ok htt hs hu
 ·exact (vlOf_ok htt).2 s E F w a o v hs h
theorem Sat.noV {E F w a} (hs:Sat X s E F w a):Sat X ⟨s.L,s.M,[],s.nx⟩ E F w a:=hs.weaken rfl (fun _ _ h=>h) (fun _ _ h=>h) (fun _ _ h=>nomatch h)
theorem Stp.noV {o:Oper} {s1:St} (h:Stp X o s s1):Stp X o s ⟨s1.L,s1.M,[],s1.nx⟩:=fun E F w a hs =>
 Oper.wp_imp (fun _ _ ⟨E',F',h⟩=>⟨E',F',h.noV⟩) (h E F w a hs)
theorem WP.noV {k:List Item} (h:WP X k ⟨s.L,s.M,[],s.nx⟩):WP X k s:=fun E F w a hs=>h E F w a hs.noV
theorem op1_ok (htt:TTOk X.P tt) (hc:CalOk X.P call) (hx:ExtOk X.P ext) {o:Oper} (h:(opI X.P tt ext X.fn.ntmps o).run call K L M nx=some s') :
  ∃ L1 M1 n1,Stp X o ⟨L,M,[],nx⟩ ⟨L1,M1,[],n1⟩∧K L1 M1 n1=some s':=by
 have hgen:∀ {sl:ISl},(∀ s1,sl.run call ⟨L,M,[],nx⟩=some s1→Stp X o ⟨L,M,[],nx⟩ s1)→goS K (sl.run call ⟨L,M,[],nx⟩)=some s'→∃ L1 M1 n1,Stp X o ⟨L,M,[],nx⟩ ⟨L1,M1,[],n1⟩∧K L1 M1 n1=some s':=fun hsl h=>by
  obtain ⟨s1,h1,h2⟩:=goS_ok h
  exact ⟨_,_,_,(hsl s1 h1).noV,h2⟩
 have hev:∀ s1,(ISl.mk (oGn X.P tt ext X.fn.ntmps o)).run call ⟨L,M,[],nx⟩=some s1→Stp X o ⟨L,M,[],nx⟩ s1:=fun s1 h=>evOp_ok htt hc hx h
 unfold opI at h
 cases hv:isVl o.op with
 | true =>
  rw [hv] at h
  simp only [cond_true] at h
  split at h
  ·rename_i d hd
   cases hb:Nat.blt d X.fn.ntmps with
   | false=>rw [hb] at h;exact hgen hev h
   | true =>
    rw [hb] at h
    simp only [cond_true,rV] at h
    cases hv:(vF tt o.op).run L M with
    | some v =>
     rw [hv] at h
     refine ⟨_,_,_,Stp.val (v:=v) (fun E F w a hs=>iv_ok htt hs hv) ?_,h⟩
     unfold setd
     rw [hd]
     simp only [hb,cond_true]
    | none=>rw [hv] at h;exact hgen hev h
  ·exact hgen hev h
 | false =>
  rw [hv] at h
  simp only [cond_false] at h
  split at h
  ·rename_i ho
   exact hgen (fun s1 h1=>xeCall_ok hc hx ho h1) h
  ·exact hgen hev h
theorem gV_ok {j c:Nat} {w b:Bool} {o:Oper} (hg:o.guard=some (j,w)) (hc:gSt ops j=some c) (h:gV w (lookF L c)=some b):guardV ops L o=some b:=by
 rw [lookF_eq] at h
 unfold gSt at hc
 split at hc
 ·rename_i oj hoj
  unfold guardV
  simp only [hg,hoj,hc]
  unfold gV at h
  split at h
  ·rename_i t ht
   rw [ht]
   cases t<;>exact h
  ·rename_i ht;rw [ht];exact h
  ·cases h
 ·cases hc
theorem runL_cons {o:IOp} {l:List IOp}:runL call K (o::l) L M nx=o.run call (runL call K l) L M nx:=rfl
theorem runG_ok (htt:TTOk X.P tt) (hc:CalOk X.P call) (hx:ExtOk X.P ext) (hk:∀ L M nx,K L M nx=some s'→WPr X ops [] todo ⟨L,M,[],nx⟩):∀ (l:List Oper) (i:Nat) {L:List (Nat × SV)} {M:List (Nat × MO)} {nx:Nat},ops.toList.drop i=l →
  runL call K (gdL X.P tt ext X.fn.ntmps ops l) L M nx=some s'→WPr X ops (List.range' i l.length) todo ⟨L,M,[],nx⟩
 | [],i,L,M,nx,_,h=>hk _ _ _ h
 | o::r,i,L,M,nx,hl,h=>by
  have ho:ops[i]? = some o:=by
   have:=congrArg (fun z=>z[0]?) hl
   simpa using this
  have hr:ops.toList.drop (i+1)=r:=by
   rw [← List.drop_drop,hl];rfl
  show WPr X ops (List.range' i (r.length+1)) todo _
  rw [List.range'_succ]
  unfold gdL at h
  rw [runL_cons] at h
  have ih:=fun {L M nx}=>runG_ok htt hc hx hk r (i+1) (L:=L) (M:=M) (nx:=nx) hr
  have hgen:goS (runL call K (gdL X.P tt ext X.fn.ntmps ops r)) (oGd X.P tt ext X.fn.ntmps ops o call ⟨L,M,[],nx⟩)=some s'→WPr X ops (i::List.range' (i+1) r.length) todo ⟨L,M,[],nx⟩:=fun h=>by
   obtain ⟨s1,h1,h2⟩:=goS_ok h
   unfold oGd at h1
   split at h1
   ·rename_i hg
    exact WPr.op ho hg (evOp_ok htt hc hx h1).noV (ih h2)
   ·rename_i hg
    split at h1
    ·rename_i d hd
     cases hb:Nat.blt d X.fn.ntmps with
     | false=>rw [hb] at h1;cases h1
     | true =>
      rw [hb] at h1;cases h1
      exact WPr.skip ho hg hd (blt_lt hb) (ih h2)
    ·rename_i hd
     cases h1
     exact WPr.skip0 ho hg hd (ih h2)
   ·cases h1
  unfold gdI at h
  split at h
  ·rename_i hg
   obtain ⟨L1,M1,n1,hst,h2⟩:=op1_ok htt hc hx h
   exact WPr.op ho (by unfold guardV;rw [hg]) hst (ih h2)
  ·rename_i j w hg
   split at h
   ·rename_i c hcc
    split at h
    ·rename_i t hd
     cases hb:Nat.blt t X.fn.ntmps with
     | false=>rw [hb] at h;exact hgen h
     | true =>
      rw [hb] at h
      simp only [cond_true,rG] at h
      cases hgv:gV w (lookF L c) with
      | none=>rw [hgv] at h;cases h
      | some b =>
       rw [hgv] at h
       have hgv:=gV_ok hg hcc hgv
       cases b with
       | true =>
        obtain ⟨L1,M1,n1,hst,h2⟩:=op1_ok htt hc hx h
        exact WPr.op ho hgv hst (ih h2)
       | false=>exact WPr.skip ho hgv hd (blt_lt hb) (ih h)
    ·exact hgen h
   ·exact hgen h
theorem stI_ok {o:Oper} (h:(stI X.P tt ext X.fn.ntmps ops o).run call K L M nx=some s'):∃ dl L1 M1 n1,SR (clsOf tt) (vl2 X.P tt) (evOp X.P tt call ext X.fn.ntmps) X.fn.ntmps ops o ⟨L,M,[],nx⟩ dl ⟨L1,M1,[],n1⟩∧K L1 M1 n1=some s':=by
 have hgen:goS K (sGo X.P tt ext X.fn.ntmps ops o call ⟨L,M,[],nx⟩)=some s'→∃ dl L1 M1 n1,SR (clsOf tt) (vl2 X.P tt) (evOp X.P tt call ext X.fn.ntmps) X.fn.ntmps ops o ⟨L,M,[],nx⟩ dl ⟨L1,M1,[],n1⟩∧K L1 M1 n1=some s':=fun h=>by
  obtain ⟨s1,h1,h2⟩:=goS_ok h
  obtain ⟨dl,hd⟩:=stepS_ok h1
  obtain ⟨L1,M1,V1,n1⟩:=s1
  have:V1=[]:=hd.2.1
  subst this
  exact ⟨dl,_,_,_,hd,h2⟩
 unfold stI at h
 split at h
 ·rename_i hg
  cases hv:(isVl o.op && !(Nat.beq (clsOf tt o.op) 2)) with
  | false=>rw [hv] at h;exact hgen h
  | true =>
   rw [hv] at h
   simp only [cond_true] at h
   split at h
   ·rename_i d hd
    cases hb:Nat.blt d X.fn.ntmps with
    | false=>rw [hb] at h;exact hgen h
    | true =>
     rw [hb] at h
     simp only [cond_true,rD] at h
     rw [pickF_eq] at h
     rw [show (Bool.rec (motive:=fun _=>List (Nat × MO)) M [] (Nat.beq (clsOf tt o.op) 0))=(bif Nat.beq (clsOf tt o.op) 0 then [] else M) by cases Nat.beq (clsOf tt o.op) 0<;>rfl] at h
     cases hval:(vF tt o.op).run (pickL L (readsOf ops o)) (bif Nat.beq (clsOf tt o.op) 0 then [] else M) with
     | some v =>
      rw [hval] at h
      rw [Bool.and_eq_true,Bool.not_eq_true'] at hv
      refine ⟨[(d,v)],_,_,_,⟨rfl,rfl,by rw [hd];rfl,_,fun d v=>pickL_ok,.inr (.inl ⟨by unfold guardV;rw [hg],fun e=>?_,rfl,rfl,d,v,hd,blt_lt hb,rfl,?_⟩)⟩,h⟩
      ·rw [e] at hv;exact absurd hv.2 (by decide)
      ·unfold vl2
       simp only [hval]
     | none=>rw [hval] at h;exact hgen h
   ·exact hgen h
 ·exact hgen h
theorem runS_ok:∀ {l:List Oper} {L:List (Nat × SV)} {M:List (Nat × MO)} {nx:Nat},runL call K (stL X.P tt ext X.fn.ntmps ops l) L M nx=some s' →
  ∃ (sT:Nat→St) (dlf:Nat→List (Nat × SV)) (L1:List (Nat × SV)) (M1:List (Nat × MO)) (n1:Nat),sT 0=⟨L,M,[],nx⟩∧sT l.length=⟨L1,M1,[],n1⟩ ∧
   (∀ i o,l[i]? = some o→SR (clsOf tt) (vl2 X.P tt) (evOp X.P tt call ext X.fn.ntmps) X.fn.ntmps ops o (sT i) (dlf i) (sT (i+1)))∧K L1 M1 n1=some s'
 | [],L,M,nx,h=>⟨fun _=>⟨L,M,[],nx⟩,fun _=>[],L,M,nx,rfl,rfl,fun i o h=>by simp at h,h⟩
 | o::r,L,M,nx,h=>by
  unfold stL at h
  rw [runL_cons] at h
  obtain ⟨dl,L1,M1,n1,hd,h1⟩:=stI_ok h
  obtain ⟨sT,dlf,L2,M2,n2,e0,e1,hT,h2⟩:=runS_ok h1
  refine ⟨fun | 0=>⟨L,M,[],nx⟩ | i+1=>sT i,fun | 0=>dl | i+1=>dlf i,L2,M2,n2,rfl,e1,fun i o' ho=>?_,h2⟩
  cases i with
  | zero=>simp at ho;subst ho;show SR _ _ _ _ ops o _ dl (sT 0);rw [e0];exact hd
  | succ i=>exact hT i o' (by simpa using ho)
theorem cDs_ok (htt:TTOk X.P tt) (hc:CalOk X.P call) (hx:ExtOk X.P ext) (hm:X.P.follows .mixedOrders=true) {id:Nat} {k':List Item} (hst:stAll (clsOf tt) ops ops.toList [] []=true)
  (h:runL call K (stL X.P tt ext X.fn.ntmps ops ops.toList) L M nx=some s') (hk:∀ L M nx,K L M nx=some s'→WP X k' ⟨L,M,[],nx⟩):WP X (.code (.region id ops true)::k') ⟨L,M,[],nx⟩:=by
 intro E F w a hs
 obtain ⟨sT,dlf,L1,M1,n1,e0,e1,hT,h2⟩:=runS_ok h
 have k:=hk _ _ _ h2
 have e1:sT ops.size=⟨L1,M1,[],n1⟩:=by rw [← e1,Array.length_toList]
 refine runs_of_wp (wp_region_any hm ?_)
 have hs':Sat X ⟨L,M,[],nx⟩ E F { w with drawn:=w.drawn+1 } a:=hs.world rfl rfl rfl (Nat.le_refl _) fun _ _=>rfl
 have hf:∀ j,(Array.replicate ops.size false).getD j false=false:=fun j=>by
  by_cases h:j < ops.size<;>simp [h]
 refine regionS_aux (todo:=rk X k') (vl2_ok htt) (fun nk E0 F0 w0 n0 Z o s s' h=>evOp_ok (X:=X.var nk E0 F0 w0 n0 Z) htt hc hx h) (StOk.of hst) (fun i o ho=>hT i o (by simpa using ho)) e0 (fun E F w a hs=>k E F w a (by rw [e1] at hs;exact hs)) ops.size _ E F _ a (by simp)
  (fun i _ hi=>by rw [hf] at hi;cases hi) (cnt_false fun j _=>hf j) ?_
 have hz:mxF (clsOf tt) ops (fun _=>false) ops.size=0:=by
  have:∀ n,mxF (clsOf tt) ops (fun _=>false) n=0:=fun n=>by
   induction n with
   | zero=>rfl
   | succ n ih=>simp [mxF,ih]
  exact this _
 have:sD (clsOf tt) ops ⟨L,M,[],nx⟩ sT dlf (fun j=>(Array.replicate ops.size false).getD j false)=⟨L,M,[],nx⟩:=by
  unfold sD
  rw [show (fun j=>(Array.replicate ops.size false).getD j false)=fun _=>false from funext hf,gath_false,hz,e0]
 rw [this]
 exact hs'
theorem subF_look {α:Type _}:∀ {l:List (Nat × α)} {seen k:Nat} {v:α},look (subF l seen) k=some v→look l k=some v∧Nat.testBit seen k=false
 | [],_,_,_,h=>by cases h
 | (j,u)::r,seen,k,v,h=>by
  have hb0:Nat.beq (Nat.land 1 (Nat.shiftRight seen j)) 0 = !(Nat.testBit seen j):=by
   have e1:Nat.testBit seen j=(Nat.land 1 (Nat.shiftRight seen j) != 0):=rfl
   rw [e1]
   generalize Nat.land 1 (Nat.shiftRight seen j)=z
   cases z with
   | zero=>rfl
   | succ z=>rfl
  have h:look (Bool.rec (motive:=fun _=>List (Nat × α)) (subF r seen) ((j,u)::subF r (Nat.lor seen (Nat.pow 2 j))) (Nat.beq (Nat.land 1 (Nat.shiftRight seen j)) 0)) k=some v:=h
  rw [hb0] at h
  cases hb:Nat.testBit seen j with
  | false =>
   rw [hb] at h
   have h:look ((j,u)::subF r (Nat.lor seen (Nat.pow 2 j))) k=some v:=h
   rw [look_cons] at h ⊢
   split at h
   ·rename_i e;cases h;subst e;simp [hb]
   ·rename_i e
    obtain ⟨h1,h2⟩:=subF_look h
    have h2':Nat.testBit (seen ||| 2 ^ j) k=false:=h2
    rw [Nat.testBit_or,Bool.or_eq_false_iff] at h2'
    rw [if_neg e]
    exact ⟨h1,h2'.1⟩
  | true =>
   rw [hb] at h
   have h:look (subF r seen) k=some v:=h
   obtain ⟨h1,h2⟩:=subF_look h
   rw [look_cons]
   have:j≠k:=fun e=>by subst e;rw [h2] at hb;cases hb
   rw [if_neg this]
   exact ⟨h1,h2⟩
theorem evItF_ok (htt:TTOk X.P tt) (hc:CalOk X.P call) (hx:ExtOk X.P ext) (hm:X.P.follows .mixedOrders=true) (h1:∀ k',WP X (.code .ret::k') s') (h0:WP X [] s') :
  ∀ (n:Nat) {k:List Item} {L:List (Nat × SV)} {M:List (Nat × MO)} {nx m:Nat},evItF X.P tt ext X.fn.ntmps call n k L M nx m=some s'→WP X k ⟨L,M,[],nx⟩:=by
 intro n
 induction n with
 | zero=>intro k L M nx m h;cases h
 | succ n ih =>
  intro k L M nx m h
  cases k with
  | nil=>cases h;exact h0
  | cons it k' =>
   replace h:(itI X.P tt ext X.fn.ntmps it).run call (evItF X.P tt ext X.fn.ntmps call n) k' L M nx m=some s':=h
   unfold itI at h
   split at h
   ·exact WP.inBlock (ih h)
   ·simp only [cLo] at h
    split at h
    ·refine WP.inLoop fun E F w a hs=>ih h E F w a (hs.weaken rfl (fun _ _ h=>(subF_look h).1) (fun _ _ h=>(subF_look h).1) (fun _ _ h=>h))
    ·exact WP.inLoop (ih h)
   ·unfold coI at h
    split at h
    ·exact WP.skip (ih h)
    ·exact WP.label (ih h)
    ·exact WP.seq (ih h)
    ·simp only [cCd] at h
     rename_i d x y
     cases ht:asB (lookF L d) with
     | none=>rw [ht] at h;cases h
     | some t =>
      rw [ht] at h
      rw [lookF_eq] at ht
      cases t with
      | true=>exact WP.condT rfl (asB_ok ht) (ih h)
      | false=>exact WP.condF rfl (asB_ok ht) (ih h)
    ·exact WP.condCT (ih h)
    ·exact WP.condCF (ih h)
    ·exact WP.block (ih h)
    ·simp only [cEx] at h
     split at h
     ·rename_i k2 he;exact WP.exit he (ih h)
     ·cases h
    ·exact WP.loop (ih h)
    ·cases h;exact h1 _
    ·rename_i ops
     refine WP.region ?_
     have:=runG_ok (todo:=rk X k') (ops:=ops) htt hc hx (fun L M nx hK=>WPr.nil (ih hK)) ops.toList 0 rfl h
     rw [Array.length_toList,← List.range_eq_range'] at this
     exact this
    ·rename_i ops
     cases hst:stAll (clsOf tt) ops ops.toList [] [] with
     | true =>
      rw [hst] at h
      exact cDs_ok htt hc hx hm hst h fun L M nx hK=>ih hK
     | false =>
      rw [hst] at h
      obtain ⟨s1,h1',h2⟩:=goS_ok h
      exact evDrawn_ok htt hc hx hm h1' (WP.noV (ih h2))
    ·cases h
   ·cases h
theorem keepF_ok {nx m:Nat} {p:Nat→Bool} (hp:∀ k,p k=(Nat.blt k nx || !(Nat.beq (Nat.land 1 (Nat.shiftRight m k)) 0))):∀ M:List (Nat × MO),keepF nx m M=M.filter fun q=>p q.1
 | []=>rfl
 | q::r=>by
  rw [List.filter_cons,← keepF_ok hp r,hp]
  show (Bool.rec (motive:=fun _=>List (Nat × MO)) (Bool.rec (motive:=fun _=>List (Nat × MO)) (q::keepF nx m r) (keepF nx m r) (Nat.beq (Nat.land 1 (Nat.shiftRight m q.1)) 0)) (q::keepF nx m r) (Nat.blt q.1 nx))=_
  cases Nat.blt q.1 nx<;>cases Nat.beq (Nat.land 1 (Nat.shiftRight m q.1)) 0<;>rfl
theorem gc2_look {n0 nx:Nat} {v:SV} {M:List (Nat × MO)} {k:Nat} {m:MO} (h:look (gc2 n0 nx v M) k=some m):look M k=some m:=by
 unfold gc2 at h
 cases hb:longer M (Nat.add n0 30) with
 | true =>
  rw [hb] at h
  simp only [cond_true,gcF] at h
  rw [keepF_ok (fun _=>rfl),look_filter (p:=fun k=>Nat.blt k nx || !(Nat.beq (Nat.land 1 (Nat.shiftRight _ k)) 0))] at h
  generalize (Nat.blt k nx || !(Nat.beq (Nat.land 1 (Nat.shiftRight (markF (subF M 0) 1000000 (lsKeys (svCs v)++keysB nx (subF M 0)) 0) k)) 0))=b at h
  cases b with
  | true=>exact (subF_look h).1
  | false=>cases h
 | false=>rw [hb] at h;exact h
theorem noFr_eq:∀ M:List (Nat × MO),noFr M=M.all fun q => !q.2.isFresh
 | []=>rfl
 | q::r=>by
  show (bif q.2.isFresh then false else noFr r)=_
  rw [noFr_eq r,List.all_cons]
  cases q.2.isFresh<;>rfl
end
theorem evCallF_ok {P:Program} {tt:List (Nat × TD)} {ft:FuncId→Option (Func × Code)} {ext:Xt} {T:Cal} (hT:CalOk P T) (htt:TTOk P tt) (hft:FtOk P ft) (hx:ExtOk P ext) (hm:P.follows .mixedOrders=true) (fuel:Nat) :
  ∀ n,CalOk P (evCallF P tt ft ext T fuel n):=by
 intro n
 induction n with
 | zero=>intro f args M V nx v M' V' nx' h;cases h
 | succ n ih =>
  intro f args M V nx v M' V' nx' h
  unfold evCallF at h
  split at h
  ·rename_i r hr
   cases h
   exact hT _ _ _ _ _ _ _ _ _ hr
  split at h
  ·rename_i fn body hf
   obtain ⟨hpf,hpb,hpn⟩:=hft _ _ _ hf
   cases hb:(Nat.ble args.length fn.ntmps && noFr M) with
   | false=>rw [hb] at h;cases h
   | true =>
    rw [hb] at h
    simp only [cond_true] at h
    rw [Bool.and_eq_true,noFr_eq] at hb
    split at h
    ·rename_i s1 hs1
     split at h
     ·rename_i v1 hv1
      cases hle:Nat.ble nx s1.nx with
      | false=>rw [hle] at h;cases h
      | true =>
       rw [hle] at h
       simp only [cond_true,Option.some.injEq,Prod.mk.injEq] at h
       obtain ⟨rfl,rfl,rfl,rfl⟩:=h
       refine ⟨⟨fn,hpf,hpn,by rw [hpb];rfl⟩,fun E F w hwf hp=>?_⟩
       intro cs
       let X:Ctx:={ (ctOf args M V nx v1 (gc2 (lenF M) nx v1 s1.M) s1.V s1.nx).ctx P f fn E F w with
        post:=fun v w'=>∃ E' F',v=denV E' v1∧(ctOf args M V nx v1 (gc2 (lenF M) nx v1 s1.M) s1.V s1.nx).Post E F w E' F' w'∧St.Wf ⟨[(0,v1)],gc2 (lenF M) nx v1 s1.M,s1.V,s1.nx⟩∧nx≤s1.nx }
       let b:Frame:={ (default:Frame) with fn:=f,kind:=.normal }
       let a:Act:={ tmps:=(args.map (denV E)).toArray++Array.replicate (fn.ntmps-(args.map (denV E)).toArray.size) undef,defers:=[] }
       have henter:Frame.enter P f (args.map (denV E)).toArray .normal=b.at a [.code body]:=by
        simp [Frame.enter,Frame.at,hpf,hpb,b,a]
       have hle':=Nat.le_of_ble_eq_true hb.1
       have hs:Sat X ⟨numL 0 args,M,V,nx⟩ E F w a:={
        wf:=hwf
        nk:=Nat.le_refl _
        defers:=rfl
        size:=by show (_++_:Array Value).size=fn.ntmps;simp;omega
        hL:=fun d v hl=>by
         obtain ⟨i,rfl,hi⟩:=look_numL _ _ _ _ hl
         show (_++_:Array Value)[0+i]? = _
         have hlt:i < args.length:=(List.getElem?_eq_some_iff.1 hi).1
         rw [Nat.zero_add,Array.getElem?_append_left (by simpa using hlt)]
         simp [hi]
        hV:=hp.V
        hM:=hp.M
        dis:=hp.dis
        mF:=fun k m hm b' hb'=>⟨(hp.mF k m hm b' hb').1,fun hz=>hz.2 ⟨k,m,hm,hb'⟩,(hp.mF k m hm b' hb').2⟩
        fresh:=fun k m hm hfr=>by
         have:=List.all_eq_true.1 hb.2 _ (look_mem hm)
         simp [hfr] at this
        hF:=hp.hF
        hF0:=fun _ h=>h
        hF1:=fun _ h=>.inl h
        hn0:=Nat.le_refl _
        hZ:=fun b' hz=>hz.1
        ext:=Ext.refl _ _
        link:=Env.Eqb.refl _ _
        one:=hp.one }
       have hpost:∀ E' F' w' a',Sat X s1 E' F' w' a'→X.post (denV E' v1) w':=fun E' F' w' a' hs'=>by
        have hvk:v1.kb s1.nx:=resV_kb (X:=X) hs' hv1
        refine ⟨E',F',rfl,?_,⟨fun d u hd=>?_,fun k m hk=>hs'.wf.hM k m (gc2_look hk),hs'.wf.hV⟩,Nat.le_of_ble_eq_true hle⟩
        ·exact {
          env:=hs'.link
          one:=hs'.one
          V:=hs'.hV
          M:=fun k m hk=>hs'.hM k m (gc2_look hk)
          dis:=fun k k' m m' hk hk'=>hs'.dis k k' m m' (gc2_look hk) (gc2_look hk')
          mF:=fun k m hk b hb=>by
           have:=hs'.mF k m (gc2_look hk) b hb
           refine ⟨this.1,this.2.2,?_⟩
           by_cases hz:b < w.heap.size
           ·left
            exact Classical.byContradiction fun hnz=>this.2.1 ⟨hz,hnz⟩
           ·exact .inr (Nat.not_lt.1 hz)
          fresh:=fun k m hk hf b hb=>hs'.fresh k m (gc2_look hk) hf b hb
          F0:=hs'.hF0
          F1:=fun b hb=>(hs'.hF1 b hb).imp id And.left
          Fs:=hs'.hF
          ext:=hs'.ext }
        ·rw [look_cons] at hd
         split at hd
         ·cases hd;exact hvk
         ·cases hd
       have hw:=evItF_ok (X:=X) htt ih hx hm (s':=s1) (fun k' E' F' w' a' hs'=>runs_ret hpf (resV_ok (X:=X) htt hs' hv1) hs'.defers (hpost E' F' w' a' hs'))
        (fun E' F' w' a' hs'=>runs_end hpf (resV_ok (X:=X) htt hs' hv1) hs'.defers (hpost E' F' w' a' hs')) fuel hs1
       obtain ⟨v,w',fr,hR,hst,hfn,hl⟩:=hw E F w a hs.noV b cs rfl rfl
       rw [← henter] at hst
       obtain ⟨E',F',hv,hpost⟩:=hR
       exact ⟨.returned v,w',fr,⟨E',F',by rw [hv],hpost⟩,hst,hfn,hl⟩
     ·cases h
    ·cases h
  ·cases h
end Go.Kx
end
section
namespace Go.Kx
structure Sm where
 f:Nat
 args:List SV
 M:List (Nat × MO)
 nx:Nat
 v:SV
 M1:List (Nat × MO)
 n1:Nat
def argsEq:List SV→List SV→Bool
 | [],[]=>true
 | x::xs,y::ys=>svEq x y && argsEq xs ys
 | _,_=>false
theorem argsEq_ok:∀ {xs ys:List SV},argsEq xs ys=true→xs=ys
 | [],[],_=>rfl
 | x::xs,y::ys,h=>by
  simp only [argsEq,Bool.and_eq_true] at h
  rw [svEq_ok h.1,argsEq_ok h.2]
 | [],_::_,h=>by cases h
 | _::_,[],h=>by cases h
noncomputable def memIn (M:List (Nat × MO)):List (Nat × MO)→Bool
 | []=>true
 | (k,m)::r=>moEqO (lookF M k) m && memIn M r
theorem memIn_ok {M:List (Nat × MO)}:∀ {N:List (Nat × MO)},memIn M N=true→∀ k m,look N k=some m→look M k=some m
 | [],_,k,m,h=>by cases h
 | (j,u)::r,h,k,m,hk=>by
  simp only [memIn,Bool.and_eq_true] at h
  rw [look_cons] at hk
  split at hk
  ·rename_i e;cases hk;subst e
   rw [← lookF_eq];exact moEqO_ok h.1
  ·exact memIn_ok h.2 k m hk
def noC:Cal:=fun _ _ _ _ _=>none
theorem noC_ok {P:Program}:CalOk P noC:=fun _ _ _ _ _ _ _ _ _ h=>nomatch h
noncomputable def smC (e:Sm) (rest:Cal):Cal:=fun f args M V nx=>bif Nat.beq f e.f && Nat.beq nx e.nx && argsEq args e.args && memIn M e.M then some (e.v,e.M1,[],e.n1) else rest f args M V nx
noncomputable def smB (call:Cal) (e:Sm):Bool:=match call e.f e.args e.M [] e.nx with
 | some (v,M1,_,n1)=>svEq v e.v && memIn M1 e.M1 && Nat.beq n1 e.n1
 | none=>false
theorem smC_ok {P:Program} {call rest:Cal} {e:Sm} (hc:CalOk P call) (hb:smB call e=true) (hr:CalOk P rest):CalOk P (smC e rest):=by
 intro f args M V nx v M' V' nx' h
 unfold smC at h
 cases hq:(Nat.beq f e.f && Nat.beq nx e.nx && argsEq args e.args && memIn M e.M) with
 | false=>rw [hq] at h;exact hr _ _ _ _ _ _ _ _ _ h
 | true =>
  rw [hq] at h
  simp only [cond_true,Option.some.injEq,Prod.mk.injEq] at h
  obtain ⟨rfl,rfl,rfl,rfl⟩:=h
  simp only [Bool.and_eq_true] at hq
  obtain ⟨⟨⟨q1,q2⟩,q3⟩,q4⟩:=hq
  have q1:=Nat.eq_of_beq_eq_true q1
  have q2:=Nat.eq_of_beq_eq_true q2
  have q3:=argsEq_ok q3
  have q4:=memIn_ok q4
  subst q1 q2 q3
  unfold smB at hb
  split at hb
  ·rename_i v1 M1 V1 n1 he
   simp only [Bool.and_eq_true] at hb
   obtain ⟨⟨b1,b2⟩,b3⟩:=hb
   have b1:=svEq_ok b1
   have b2:=memIn_ok b2
   have b3:=Nat.eq_of_beq_eq_true b3
   subst b1 b3
   obtain ⟨hcb,hcs⟩:=hc _ _ _ _ _ _ _ _ _ he
   refine ⟨hcb,fun E F w hwf hp=>?_⟩
   refine (hcs E F w ⟨hwf.hL,fun k m hk=>hwf.hM k m (q4 k m hk),fun k f hk=>(nomatch hk)⟩
    ⟨hp.one,hp.hF,fun k f hk=>(nomatch hk),fun k m hk=>hp.M k m (q4 k m hk),fun k k' m m' hk hk'=>hp.dis k k' m m' (q4 k m hk) (q4 k' m' hk'),fun k m hk=>hp.mF k m (q4 k m hk)⟩).mono ?_
   rintro ex w' ⟨E',F',rfl,hq,hwf',hle⟩
   have hfp:∀ b,(ctOf e.args e.M [] e.nx e.v M1 V1 e.n1).fp0 E b→(ctOf e.args M V e.nx e.v e.M1 [] e.n1).fp0 E b:=fun b ⟨k,m,hk,hb⟩=>⟨k,m,q4 k m hk,hb⟩
   refine ⟨E',F',rfl,?_,⟨hwf'.hL,fun k m hk=>hwf'.hM k m (b2 k m hk),fun k f hk=>(nomatch hk)⟩,hle⟩
   exact {
    env:=hq.env
    one:=hq.one
    V:=fun k f hk=>(nomatch hk)
    M:=fun k m hk=>hq.M k m (b2 k m hk)
    dis:=fun k k' m m' hk hk'=>hq.dis k k' m m' (b2 k m hk) (b2 k' m' hk')
    mF:=fun k m hk b hb=>by
     obtain ⟨h1,h2,h3⟩:=hq.mF k m (b2 k m hk) b hb
     exact ⟨h1,h2,h3.imp (hfp b) id⟩
    fresh:=fun k m hk=>hq.fresh k m (b2 k m hk)
    F0:=hq.F0
    F1:=hq.F1
    Fs:=hq.Fs
    ext:=hq.ext.mono fun b hz=>⟨hz.1,fun hn=>hz.2 (hfp b hn)⟩ }
  ·cases hb
end Go.Kx
end
