/- Aids for the walks, part 3: a symbolic state of the machine, and that each step of the machine keeps it. -/
import Derived.Lib.Builder
import Derived.Lib.UnsafeStr
import Derived.Calls
import Derived.Test.YtbaebccneokflaaGreatDoorGuardLeastCore2
set_option linter.all false
section
namespace Go.Kx
def Stp (X:Ctx) (o:Oper) (s s':St):Prop:=∀ E F w a,Sat X s E F w a→o.wp X.P a w (fun a' w'=>∃ E' F',Sat X s' E' F' w' a') (fun _ _ _=>False)
section
variable {X:Ctx} {s:St} {E:Env} {F:FSet} {w:World} {a:Act}
theorem Sat.newArr {cs:List SC} {es κ:Nat} (hs:Sat X s E F w a) (hk:∀ x∈cs,SC.kb s.nx x) {arr:Array Value} {ty:TypeId} {fz:Nat × Nat}
  (hp:∀ (j:Nat) (x:SC),cs[j]? = some x→arr[j]? = some (den E x)) (hc:cs.length≤κ * es) (ha:κ * es≤arr.size) (he:0 < es) (hfz:ThawAt fz arr.size) {w2:World}
  (hw2:w2.heap=w.heap.push (.cells arr ty fz)) (ho:w2.os=w.os) (ht:w2.tape=w.tape) (hu:w2.output=w.output) :
  ∃ E',E'.β s.nx=w.heap.size∧capOf (E'.ρ s.nx)=κ∧Sat X ⟨s.L,(s.nx,.arr cs es ty)::s.M,s.V,s.nx+1⟩ E' F w2 a:=by
 have hold:∀ b,b < w.heap.size→w2.heap[b]? = w.heap[b]? := fun b hb=>by
  rw [hw2,Array.getElem?_push,if_neg (Nat.ne_of_lt hb)]
 have hnew:w2.heap[w.heap.size]? = some (.cells arr ty fz):=by rw [hw2];simp
 have hsize:w2.heap.size=w.heap.size+1:=by rw [hw2];simp
 have s1:=hs.world ho ht hu (by omega) hold
 have hE:E.Eqb s.nx ((E.setβ s.nx w.heap.size).setρ s.nx (.slice none 0 κ)):=(E.eqb_setβ _ _ _ (Nat.le_refl _)).trans (Env.eqb_setρ _ _ _ _ (Nat.le_refl _))
 have e1:((E.setβ s.nx w.heap.size).setρ s.nx (.slice none 0 κ)).β s.nx=w.heap.size:=by simp [Env.setβ,Env.setρ]
 have e2:((E.setβ s.nx w.heap.size).setρ s.nx (.slice none 0 κ)).ρ s.nx=.slice none 0 κ:=by simp [Env.setρ]
 have s2:=s1.env hE (fun j=>by
  simp only [Env.setρ,Env.setβ];split
  ·rfl
  ·exact hs.one j)
 refine ⟨_,e1,by rw [e2];rfl,s2.addM' ?_ (fun x hx=>(hk x hx).mono (Nat.le_succ _)) ?_ (fun h=>by cases h)⟩
 ·refine ⟨arr,ty,fz,by rw [e1];exact hnew,hfz,fun j x hj=>?_,by rw [e2];exact hc,by rw [e2];exact ha,he,rfl⟩
  rw [den_eqb hE (hk x (List.mem_of_getElem? hj))];exact hp j x hj
 ·intro b hb
  have hb:b=_:=hb
  rw [e1] at hb
  subst hb
  exact ⟨fun hF=>absurd (hs.hF _ hF) (Nat.lt_irrefl _),fun hz=>absurd (Nat.lt_of_lt_of_le (hs.hZ _ hz) hs.ext.size) (Nat.lt_irrefl _),by omega,
   fun k m' hm hf=>absurd (hs.mF k m' hm _ ((MO.fp_eqb hE (hs.wf.hM k m' hm).1).1 hf)).2.2 (Nat.lt_irrefl _)⟩
theorem Sat.storeArr (hs:Sat X s E F w a) {k:Nat} {cs ps:List SC} {es:Nat} {ty:TypeId} (hm:look s.M k=some (.arr cs es ty)) {off:Nat} (hle:off+ps.length≤cs.length)
  (hk:∀ x∈ps,SC.kb s.nx x):∃ w',(storeCells ⟨E.β k,off,none⟩ (ps.map (den E))).run X.P w=.ok () w' ∧
   Sat X ⟨s.L,(k,.arr (cs.take off++ps++cs.drop (off+ps.length)) es ty)::s.M,s.V,s.nx⟩ E F w' a:=by
 obtain ⟨arr,el,fz,hb,hth,hpre,hc,ha,he,hty⟩:=(hs.hM k _ hm:MO.ok E F w k (.arr cs es ty))
 have hlen:cs.length≤arr.size:=Nat.le_trans hc ha
 have hr:=run_storeCells_thaw (P:=X.P) (E.β k) off el fz (ps.map (den E)) 0 arr w hb hth (by simp;omega)
  (by intro v hv;obtain ⟨x,hx,rfl⟩:=List.mem_map.1 hv;exact den_one hs.one (hk x hx))
 refine ⟨_,hr,hs.setM hm rfl rfl rfl (by simp) (fun b _ hne=>setRow_other w _ b _ (fun e=>hne e)) (fun _ h=>h) ?_ ?_ (fun h=>by cases h)⟩
 ·have h2:=setRow_heap w (E.β k) arr ((List.take (off+0) arr.toList++List.map (den E) ps++List.drop (off+0+(List.map (den E) ps).length) arr.toList).toArray) el fz hb
  have hsz:((List.take (off+0) arr.toList++List.map (den E) ps++List.drop (off+0+(List.map (den E) ps).length) arr.toList).toArray).size=arr.size:=by
   simp only [List.size_toArray,List.length_append,List.length_take,List.length_drop,Array.length_toList,List.length_map];omega
  have hl2:(cs.take off++ps++cs.drop (off+ps.length)).length=cs.length:=by
   simp only [List.length_append,List.length_take,List.length_drop];omega
  refine ⟨_,el,fz,h2,by rw [hsz];exact hth,fun j x hj=>?_,by rw [hl2];exact hc,by rw [hsz];exact ha,he,hty⟩
  have hal:arr.toList.length=arr.size:=Array.length_toList
  simp only [Nat.add_zero,List.length_map,List.getElem?_toArray,List.append_assoc] at hj ⊢
  have htl:(arr.toList.take off).length=off:=by rw [List.length_take,hal];omega
  have hcl:(cs.take off).length=off:=by rw [List.length_take];omega
  by_cases h1:j < off
  ·rw [List.getElem?_append_left (by omega),List.getElem?_take,if_pos h1] at hj
   rw [List.getElem?_append_left (by omega),List.getElem?_take,if_pos h1]
   have:=hpre j x hj
   simpa using this
  ·rw [List.getElem?_append_right (by omega),hcl] at hj
   rw [List.getElem?_append_right (by omega),htl]
   by_cases h3:j-off < ps.length
   ·rw [List.getElem?_append_left h3] at hj
    rw [List.getElem?_append_left (by simpa using h3),List.getElem?_map,hj];rfl
   ·rw [List.getElem?_append_right (by omega),List.getElem?_drop] at hj
    rw [List.getElem?_append_right (by simp;omega),List.getElem?_drop,List.length_map]
    have:=hpre _ x hj
    simpa using this
 ·intro x hx
  simp only [List.mem_append] at hx
  rcases hx with (hx | hx) | hx
  ·exact (hs.wf.hM k _ hm).2 x (List.mem_of_mem_take hx)
  ·exact hk x hx
  ·exact (hs.wf.hM k _ hm).2 x (List.mem_of_mem_drop hx)
theorem Sat.movBlk {k:Nat} {m0:MO} {cs':List SC} {es κ b:Nat} (hs:Sat X s E F w a) (hm:look s.M k=some m0) (hf0:∀ b,m0.fp E k b↔b=E.β k) (hk:∀ x∈cs',SC.kb s.nx x) {arr:Array Value} {ty:TypeId} {fz:Nat × Nat} {w2:World}
  (hb:w2.heap[b]? = some (.cells arr ty fz)) (hbb:b=E.β k∨w.heap.size≤b)
  (hp:∀ (j:Nat) (x:SC),cs'[j]? = some x→arr[j]? = some (den E x)) (hc:cs'.length≤κ * es) (ha:κ * es≤arr.size) (he:0 < es) (hfz:ThawAt fz arr.size)
  (ho:w2.os=w.os) (ht:w2.tape=w.tape) (hu:w2.output=w.output) (hsz:w.heap.size≤w2.heap.size) (hold:∀ b,b < w.heap.size→b≠E.β k→w2.heap[b]? = w.heap[b]?) :
  ∃ E',E'.β s.nx=b∧capOf (E'.ρ s.nx)=κ∧Sat X ⟨s.L,(s.nx,.arr cs' es ty)::(k,.gone)::s.M,s.V,s.nx+1⟩ E' F w2 a:=by
 have hlt:b < w2.heap.size:=(Array.getElem?_eq_some_iff.1 hb).1
 have hmf:=hs.mF k _ hm
 have s1:=hs.setM (m':=.gone) hm ho ht hu hsz (fun b' hb' hne=>hold b' hb' (fun e=>hne ((hf0 _).2 e))) (fun _ h=>h.elim) trivial trivial (fun h=>by cases h)
 have hE:E.Eqb s.nx ((E.setβ s.nx b).setρ s.nx (.slice none 0 κ)):=(E.eqb_setβ _ _ _ (Nat.le_refl _)).trans (Env.eqb_setρ _ _ _ _ (Nat.le_refl _))
 have e1:((E.setβ s.nx b).setρ s.nx (.slice none 0 κ)).β s.nx=b:=by simp [Env.setβ,Env.setρ]
 have e2:((E.setβ s.nx b).setρ s.nx (.slice none 0 κ)).ρ s.nx=.slice none 0 κ:=by simp [Env.setρ]
 have s2:=s1.env hE (fun j=>by
  simp only [Env.setρ,Env.setβ];split
  ·rfl
  ·exact hs.one j)
 refine ⟨_,e1,by rw [e2];rfl,s2.addM' ?_ (fun x hx=>(hk x hx).mono (Nat.le_succ _)) ?_ (fun h=>by cases h)⟩
 ·refine ⟨arr,ty,fz,by rw [e1];exact hb,hfz,fun j x hj=>?_,by rw [e2];exact hc,by rw [e2];exact ha,he,rfl⟩
  rw [den_eqb hE (hk x (List.mem_of_getElem? hj))];exact hp j x hj
 ·intro b' hb'
  have hb':b'=_:=hb'
  rw [e1] at hb'
  subst hb'
  rcases hbb with h1 | h1
  ·have h1:=(hf0 _).2 h1
   have:=hmf b' h1
   refine ⟨this.1,this.2.1,hlt,fun j m' hj hf=>?_⟩
   have hf:=(MO.fp_eqb hE (s1.wf.hM j m' hj).1).1 hf
   rw [look_cons] at hj
   split at hj
   ·cases hj;exact hf.elim
   ·rename_i hne;exact hs.dis k j _ m' hm hj hne b' h1 hf
  ·refine ⟨fun hF=>absurd (hs.hF b' hF) (Nat.not_lt.2 h1),fun hz=>absurd (Nat.lt_of_lt_of_le (hs.hZ b' hz) hs.ext.size) (Nat.not_lt.2 h1),hlt,fun j m' hj hf=>?_⟩
   have hf:=(MO.fp_eqb hE (s1.wf.hM j m' hj).1).1 hf
   rw [look_cons] at hj
   split at hj
   ·cases hj;exact hf.elim
   ·exact absurd (hs.mF j m' hj b' hf).2.2 (Nat.not_lt.2 h1)
theorem Sat.movArr {k:Nat} {cs cs':List SC} {es κ b:Nat} {ty0:TypeId} (hs:Sat X s E F w a) (hm:look s.M k=some (.arr cs es ty0)) (hk:∀ x∈cs',SC.kb s.nx x) {arr:Array Value} {ty:TypeId} {fz:Nat × Nat} {w2:World}
  (hb:w2.heap[b]? = some (.cells arr ty fz)) (hbb:b=E.β k∨w.heap.size≤b)
  (hp:∀ (j:Nat) (x:SC),cs'[j]? = some x→arr[j]? = some (den E x)) (hc:cs'.length≤κ * es) (ha:κ * es≤arr.size) (he:0 < es) (hfz:ThawAt fz arr.size)
  (ho:w2.os=w.os) (ht:w2.tape=w.tape) (hu:w2.output=w.output) (hsz:w.heap.size≤w2.heap.size) (hold:∀ b,b < w.heap.size→b≠E.β k→w2.heap[b]? = w.heap[b]?) :
  ∃ E',E'.β s.nx=b∧capOf (E'.ρ s.nx)=κ∧Sat X ⟨s.L,(s.nx,.arr cs' es ty)::(k,.gone)::s.M,s.V,s.nx+1⟩ E' F w2 a :=
 hs.movBlk hm (fun _=>Iff.rfl) hk hb hbb hp hc ha he hfz ho ht hu hsz hold
def srcC (s:St) (es:Nat):SC→Option (Nat × List SC)
 | .nil=>some (0,[])
 | .s x=>bif Nat.beq es 1 then some (x.size,x.data.toList.map fun b=>.i .u8 b.toNat) else none
 | .sp k i n e=>match look s.M k with
  | some (.arr cs e' _)=>bif Nat.beq e es && Nat.beq e' es && Nat.ble ((i+n) * es) cs.length then some (n,(cs.drop (i * es)).take (n * es)) else none
  | _=>none
 | .sl k=>match look s.V k with
  | some (.sl _ [])=>some (0,[])
  | _=>none
 | _=>none
theorem srcC_ok (hs:Sat X s E F w a) {es n:Nat} {c:SC} {ns:List SC} (h:srcC s es c=some (n,ns)):ns.length=n * es∧(∀ x∈ns,SC.kb s.nx x)∧(∀ w',(Builtin.lenOf (den E c)).run X.P w'=.ok n w') ∧
  (∀ m w',m≤n→w'.heap=w.heap→(Builtin.firstCells es m (den E c)).run X.P w'=.ok ((ns.take (m * es)).map (den E)).toArray w'):=by
 unfold srcC at h
 split at h
 ·cases h
  exact ⟨by simp,by simp,fun w'=>by simp [Builtin.lenOf,den],fun m w' hm _=>by simp [Builtin.firstCells,den]⟩
 ·rename_i x
  cases hb:Nat.beq es 1 with
  | false=>rw [hb] at h;cases h
  | true =>
   rw [hb] at h
   have:=Nat.eq_of_beq_eq_true hb
   subst this
   cases h
   refine ⟨by simp,by simp [SC.kb],fun w'=>by simp [Builtin.lenOf,den],fun m w' hm _=>?_⟩
   obtain ⟨ns,_,_,h3,_⟩:=srcS (X:=X) (s:=s) (b:=x) E F w a hs
   have:=h3 m w' (by rw [bytesL_len];exact hm) (by assumption)
   simp only [Builtin.firstCells,den,Sem.run_pure]
   congr 1
   apply Array.ext'
   have h1:(x.extract 0 m).data.toList=x.data.toList.take m:=by
    rw [ByteArray.data_extract,Array.toList_extract];simp [List.extract]
   rw [Array.toList_map,h1,Nat.mul_one]
   simp only [List.map_take,List.map_map]
   rfl
 ·rename_i k i n' e
  split at h
  ·rename_i cs e' ty hm
   cases hb:(Nat.beq e es && Nat.beq e' es && Nat.ble ((i+n') * es) cs.length) with
   | false=>rw [hb] at h;cases h
   | true =>
    rw [hb] at h
    cases h
    simp only [Bool.and_eq_true] at hb
    obtain ⟨⟨h1,h2⟩,h3⟩:=hb
    have h1:=Nat.eq_of_beq_eq_true h1
    have h2:=Nat.eq_of_beq_eq_true h2
    have h3:=Nat.le_of_ble_eq_true h3
    subst h1 h2
    rw [Nat.add_mul] at h3
    obtain ⟨arr,el,fz,hb,hth,hpre,hc,ha,he,_⟩:=(hs.hM k _ hm:MO.ok E F w k (.arr cs e' ty))
    have hl:((cs.drop (i * e')).take (n * e')).length=n * e':=by rw [List.length_take,List.length_drop];omega
    refine ⟨hl,fun x hx=>(hs.wf.hM k _ hm).2 x (List.mem_of_mem_drop (List.mem_of_mem_take hx)),fun w'=>by simp [Builtin.lenOf,den],fun m w' hm' hw=>?_⟩
    simp only [Builtin.firstCells,den]
    have hml:m * e'≤n * e':=Nat.mul_le_mul_right _ hm'
    have hl':(((cs.drop (i * e')).take (n * e')).take (m * e')).length=m * e':=by rw [List.length_take,hl];omega
    have:=run_loadCells_list (P:=X.P) w' ⟨E.β k,i * e',none⟩ ((((cs.drop (i * e')).take (n * e')).take (m * e')).map (den E)) fun j v hj=>by
     rw [addr_add,cell_at (by rw [hw];exact hb)]
     rw [List.getElem?_map,Option.map_eq_some_iff] at hj
     obtain ⟨x,hx,rfl⟩:=hj
     rw [List.getElem?_take] at hx
     split at hx
     ·rw [List.getElem?_take] at hx
      split at hx
      ·rw [List.getElem?_drop] at hx
       exact hpre _ x hx
      ·cases hx
     ·cases hx
    rw [List.length_map,hl'] at this
    exact this
  ·cases h
 ·rename_i k
  split at h
  ·rename_i R hV
   cases h
   rcases (hs.hV k _ hV:SlR R F w [] (E.ρ k)) with ⟨_,a',c',h2⟩ | ⟨b,off,cap,arr,elt,fz,h1,_⟩
   ·refine ⟨by simp,by simp,fun w'=>by simp [Builtin.lenOf,den,h2],fun m w' hm _=>?_⟩
    have:m=0:=by omega
    subst this
    simp only [den,h2]
    cases a' with
    | none=>simp [Builtin.firstCells]
    | some a' =>
     simp only [Builtin.firstCells,Nat.zero_mul,List.take_zero]
     exact run_loadCells_list w' a' [] (by simp)
   ·refine ⟨by simp,by simp,fun w'=>by simp [Builtin.lenOf,den,h1],fun m w' hm _=>?_⟩
    have:m=0:=by omega
    subst this
    simp only [den,h1,Builtin.firstCells,Nat.zero_mul,List.take_zero]
    exact run_loadCells_list w' _ [] (by simp)
  ·cases h
 ·cases h
end
end Go.Kx
end
section
namespace Go.Kx
def setd (n:Nat) (o:Oper) (s:St) (v:SV):Option St:=match o.dst with
 | some d=>bif Nat.blt d n then some ⟨(d,v)::s.L,s.M,s.V,s.nx⟩ else none
 | none=>none
section
variable {X:Ctx} {s s':St} {o:Oper}
theorem Stp.val {v:SV} (hrun:∀ E F w a,Sat X s E F w a→(execOp a.eval o).run X.P w=.ok (.value (denV E v)) w∧v.kb s.nx) (h:setd X.fn.ntmps o s v=some s'):Stp X o s s':=by
 intro E F w a hs
 unfold setd at h
 split at h
 ·rename_i d hd
  cases hb:Nat.blt d X.fn.ntmps with
  | false=>rw [hb] at h;cases h
  | true =>
   rw [hb] at h;cases h
   obtain ⟨h1,h2⟩:=hrun E F w a hs
   refine wp_value h1 ⟨E,F,?_⟩
   rw [hd]
   exact hs.setL h2 (blt_lt hb)
 ·cases h
end
def inB (n:Int) (len:Nat):Bool:=decide (0≤n) && decide (n < (len:Int))
def cellsAt (M:List (Nat × MO)) (k:Nat):Option (List SC):=match look M k with
 | some (.box cs _)=>some cs
 | some (.arr cs _ _)=>some cs
 | _=>none
def xlen (M:List (Nat × MO)) (k i n es:Nat):Bool:=match look M k with
 | some (.arr cs e _)=>Nat.beq e es && Nat.ble ((i+n) * es) cs.length
 | _=>false
def xvLoad (tt:List (Nat × TD)) (s:St) (t:TypeId) (ad:Operand):Option SV:=match look tt t with
 | some d=>match evalO s.L ad with
  | some (.c (.bp k off))=>match look s.M k with
   | some (.arr cs _ _)=>loadC d off cs
   | _=>none
  | _=>none
 | none=>none
def xvIdxA (tt:List (Nat × TD)) (s:St) (t:TypeId) (x ix:Operand):Option SV:=match look tt t with
 | some d=>match evalO s.L ix with
  | some (.c (.i _ n))=>match evalO s.L x with
   | some (.c (.sp k i len es))=>bif inB n len && Nat.beq d.kd 6 && Nat.beq d.es es then some (.c (.bp k (i * es+n.toNat * es))) else none
   | some (.c (.bp k off))=>bif inB n d.n && Nat.beq d.kd 5 then some (.c (.bp k (off+n.toNat * d.es))) else none
   | _=>none
  | _=>none
 | none=>none
def xvIdx (tt:List (Nat × TD)) (s:St) (t:TypeId) (x ix:Operand):Option SV:=match look tt t with
 | some d=>match evalO s.L ix with
  | some (.c (.i _ n))=>match evalO s.L x with
   | some (.c (.s m))=>bif Nat.beq d.kd 2 then (match sidx m n with
    | some z=>some (.c (.i .u8 z))
    | none=>none) else none
   | _=>none
  | _=>none
 | none=>none
def xvSlice (tt:List (Nat × TD)) (s:St) (t:TypeId) (x:Operand) (lo hi:Option Operand):Option SV:=match look tt t with
  | some d=>match evOI s.L lo with
    | some l=>match evOI s.L hi with
      | some h=>match evalO s.L x with
        | some (.c (.s m))=>bif Nat.beq d.kd 2 then (match ssl m (l.map (·.2)) (h.map (·.2)) with
          | some z=>some (.c (.s z))
          | none=>none) else none
        | some (.c (.sp k i len es))=>bif Nat.beq d.kd 6 && Nat.beq d.es es && xlen s.M k i len es then (match bnd (l.map (·.2)) (h.map (·.2)) len with
          | some p=>bif Nat.beq p.1 0 || Nat.blt p.1 p.2 then some (.c (.sp k (i+p.1) (p.2-p.1) es)) else none
          | none=>none) else none
        | some (.c .nil)=>bif Nat.beq d.kd 6 then (match bnd (l.map (·.2)) (h.map (·.2)) 0 with
          | some _=>some (.c .nil)
          | none=>none) else none
        | _=>none
      | none=>none
    | none=>none
  | none=>none
def eqO (op:BinOp) (b:Bool):Option SV:=match op with
 | .eql=>some (.c (.b b))
 | .neq=>some (.c (.b (!b)))
 | _=>none
def xvBin (P:Program) (tt:List (Nat × TD)) (s:St) (op:BinOp) (t:TypeId) (x y:Operand):Option SV:=match evalO s.L x with
 | some vx=>match evalO s.L y with
  | some vy=>match vx,vy with
   | .c (.i k m),.c (.i k' n)=>bif isSh op || decide (k=k') then (match binO op k m n with
    | some z=>some (.c (.i k z))
    | none=>none) else none
   | .c (.s m),.c (.s n)=>match op with
    | .add=>match catS m n with
     | some z=>some (.c (.s z))
     | none=>none
    | _=>none
   | .a cs,.a ds=>bif aggOf P t && !(P.eqGuardType P.depth t) then (match eqS P 20 t cs ds with
    | some b=>eqO op b
    | none=>none) else none
   | .c (.sp _ _ _ _),.c .nil=>match look tt t with
    | some d=>bif Nat.beq d.kd 6 then eqO op false else none
    | none=>none
   | .c .nil,.c .nil=>match look tt t with
    | some d=>bif Nat.beq d.kd 6 then eqO op true else none
    | none=>none
   | _,_=>none
  | none=>none
 | none=>none
def byteOfC:SC→Option Int
 | .i .u8 z=>some z
 | _=>none
def bytesOfC:List SC→Option (List Int)
 | []=>some []
 | c::r=>match byteOfC c with
  | some z=>match bytesOfC r with
   | some zs=>some (z::zs)
   | none=>none
  | none=>none
def notS:SC→Bool
 | .s _=>false
 | _=>true
def xvConv (tt:List (Nat × TD)) (s:St) (t u:TypeId) (x:Operand):Option SV:=match look tt t with
 | some d=>match look tt u with
  | some du=>match look tt d.el with
   | some de=>match evalO s.L x with
    | some (.c c)=>match srcC s 1 c with
     | some (n,ns)=>bif Nat.beq d.kd 6 && Nat.beq du.kd 2 && decide (de.ik=some .u8) && notS c then
       (match bytesOfC ns with
       | some ys=>some (.c (.s (strOf ys)))
       | none=>none) else none
     | none=>none
    | _=>none
   | none=>none
  | none=>none
 | none=>none
def xvLen (tt:List (Nat × TD)) (s:St) (x:Operand) (t:TypeId):Option SV:=match look tt t with
 | some d=>match evalO s.L x with
  | some (.c (.sp _ _ n _))=>bif Nat.beq d.kd 6 then some (.c (.i .i64 n)) else none
  | _=>none
 | none=>none
def xval (P:Program) (tt:List (Nat × TD)) (s:St) (op:Op):Option SV :=
 match op with
 | .load t ad=>xvLoad tt s t ad
 | .indexAddr t x ix=>xvIdxA tt s t x ix
 | .index t x ix=>xvIdx tt s t x ix
 | .slice t x lo hi none=>xvSlice tt s t x lo hi
 | .binOp op t x y _=>xvBin P tt s op t x y
 | .convert t u x=>xvConv tt s t u x
 | .call c=>match c.callee with
  | .builtin .len=>match c.args.toList with
   | [x]=>match c.argTypes.toList with
    | [t]=>xvLen tt s x t
    | _=>none
   | _=>none
  | _=>none
 | _=>none
theorem inB_ok {n:Int} {len:Nat} (h:inB n len=true):0≤n∧n < (len:Int):=by
 unfold inB at h
 simp only [Bool.and_eq_true,decide_eq_true_eq] at h
 exact h
theorem TD.Ok.arr {P:Program} {t:TypeId} {d:TD} (h:TD.Ok P t d) (hk:Nat.beq d.kd 5=true):P.underlying t=some (.array d.n d.el)∧∀ w,(sizeOf d.el).run P w=.ok d.es w:=by
 have hk:=Nat.eq_of_beq_eq_true hk
 have h2:=h.2.1
 unfold kindOk at h2
 split at h2<;>(try (simp [hk] at h2;done))
 rename_i n e hu
 simp only [Bool.and_eq_true,beq_iff_eq] at h2
 have h3:=h2.1.1.1.1.2
 have h4:=h2.1.1.1.2
 have h5:=h2.2
 rw [h5,h3]
 rw [Option.any_eq_true_iff_get] at h4
 obtain ⟨hs,h4⟩:=h4
 simp only [Bool.and_eq_true,beq_iff_eq,bne_iff_ne,ne_eq] at h4
 have hi:P.info? e=some ((P.info? e).get hs):=(Option.some_get hs).symm
 generalize (P.info? e).get hs=i at hi h4
 exact ⟨hu,fun w=>by simp [sizeOf,typeInfo,hi,h4.1]⟩
section
variable {X:Ctx} {s:St} {E:Env} {F:FSet} {w:World} {a:Act} {tt:List (Nat × TD)} {o:Oper}
theorem xvLoad_ok (htt:TTOk X.P tt) (hs:Sat X s E F w a) {t:TypeId} {ad:Operand} {v:SV} (ho:o.op=.load t ad) (h:xvLoad tt s t ad=some v) :
  (execOp a.eval o).run X.P w=.ok (.value (denV E v)) w∧v.kb s.nx:=by
 unfold xvLoad at h
 split at h
 ·rename_i d hd
  split at h
  ·rename_i k off hx
   split at h
   ·rename_i cs es ty hm
    obtain ⟨arr,el,fz,hb,_,hpre,_⟩:=(hs.hM k _ hm:MO.ok E F w k (.arr cs es ty))
    have hld:=run_loadVar_cells (E:=E) (base:=0) (htt.get hd) hb (cs:=cs) (fun i x hj=>by rw [Nat.zero_add];exact hpre i x hj) h
    rw [Nat.zero_add] at hld
    refine ⟨?_,loadC_kb h (hs.wf.hM k _ hm).2⟩
    have e1:a.eval ad=.pointer (some ⟨E.β k,off,none⟩):=(hs.eval hx).1
    simp only [execOp,ho,e1]
    refine exec_v ?_
    simpa [Instr.loadAt,Instr.sureAddr] using hld
   ·cases h
  ·cases h
 ·cases h
theorem xvIdxA_ok (htt:TTOk X.P tt) (hs:Sat X s E F w a) {t:TypeId} {x ix:Operand} {v:SV} (ho:o.op=.indexAddr t x ix) (h:xvIdxA tt s t x ix=some v) :
  (execOp a.eval o).run X.P w=.ok (.value (denV E v)) w∧v.kb s.nx:=by
 unfold xvIdxA at h
 split at h
 ·rename_i d hd
  split at h
  ·rename_i ik n hi
   obtain ⟨e2,_⟩:=hs.eval hi
   split at h
   ·rename_i k i len es hx
    obtain ⟨e1,k1⟩:=hs.eval hx
    cases hb:(inB n len && Nat.beq d.kd 6 && Nat.beq d.es es) with
    | false=>rw [hb] at h;cases h
    | true =>
     rw [hb] at h;cases h
     simp only [Bool.and_eq_true] at hb
     obtain ⟨⟨h1,h2⟩,h3⟩:=hb
     have h3:=Nat.eq_of_beq_eq_true h3
     obtain ⟨h4,h5⟩:=inB_ok h1
     obtain ⟨e,hu,hz⟩:=(htt.get hd).sliceOf h2
     refine ⟨?_,k1⟩
     simp only [execOp,ho,e1,e2,denV,den]
     refine exec_v ?_
     rw [← h3]
     exact run_indexAt_ok w hu (hz w) h4 h5
   ·rename_i k off hx
    obtain ⟨e1,k1⟩:=hs.eval hx
    cases hb:(inB n d.n && Nat.beq d.kd 5) with
    | false=>rw [hb] at h;cases h
    | true =>
     rw [hb] at h;cases h
     simp only [Bool.and_eq_true] at hb
     obtain ⟨h1,h2⟩:=hb
     obtain ⟨h4,h5⟩:=inB_ok h1
     obtain ⟨hu,hz⟩:=(htt.get hd).arr h2
     refine ⟨?_,k1⟩
     simp only [execOp,ho,e1,e2,denV,den]
     refine exec_v ?_
     simp only [Instr.indexAt,asIntOf,Sem.run_bind,Sem.run_pure,Result.andThen_ok,run_underlying' hu,Instr.sureAddr,h4,h5,and_self,if_true,hz,addr_add]
   ·cases h
  ·cases h
 ·cases h
theorem xvIdx_ok (htt:TTOk X.P tt) (hs:Sat X s E F w a) {t:TypeId} {x ix:Operand} {v:SV} (ho:o.op=.index t x ix) (h:xvIdx tt s t x ix=some v) :
  (execOp a.eval o).run X.P w=.ok (.value (denV E v)) w∧v.kb s.nx:=by
 unfold xvIdx at h
 split at h
 ·rename_i d hd
  split at h
  ·rename_i ik n hi
   obtain ⟨e2,_⟩:=hs.eval hi
   split at h
   ·rename_i m hx
    obtain ⟨e1,k1⟩:=hs.eval hx
    cases hb:Nat.beq d.kd 2 with
    | false=>rw [hb] at h;cases h
    | true =>
     rw [hb] at h
     simp only [cond_true] at h
     cases hz:sidx m n with
     | none=>rw [hz] at h;cases h
     | some z =>
      rw [hz] at h;cases h
      refine ⟨?_,trivial⟩
      have hu:=(htt.get hd).str hb
      simp only [execOp,ho,e1,e2,denV,den]
      refine exec_v ?_
      unfold sidx at hz
      cases hq:decide (0≤n) with
      | false=>rw [hq] at hz;cases hz
      | true =>
       rw [hq] at hz
       simp only [cond_true,Option.map_eq_some_iff] at hz
       obtain ⟨b,hb,rfl⟩:=hz
       have h0:0≤n:=by simpa using hq
       simp only [Instr.index,asIntOf,Sem.run_bind,Sem.run_pure,Result.andThen_ok,run_underlying' hu,h0,if_true,hb]
   ·cases h
  ·cases h
 ·cases h
theorem xlen_ok (hs:Sat X s E F w a) {k i n es:Nat} (h:xlen s.M k i n es=true):i+n≤capOf (E.ρ k):=by
 unfold xlen at h
 split at h
 ·rename_i cs e ty hm
  simp only [Bool.and_eq_true] at h
  have h1:=Nat.eq_of_beq_eq_true h.1
  have h2:=Nat.le_of_ble_eq_true h.2
  subst h1
  obtain ⟨arr,el,fz,hb,_,hpre,hc,_,he,_⟩:=(hs.hM k _ hm:MO.ok E F w k (.arr cs e ty))
  exact Nat.le_of_mul_le_mul_right (Nat.le_trans h2 hc) he
 ·cases h
theorem xvSlice_ok (htt:TTOk X.P tt) (hs:Sat X s E F w a) {t:TypeId} {x:Operand} {lo hi:Option Operand} {v:SV} (ho:o.op=.slice t x lo hi none) (h:xvSlice tt s t x lo hi=some v) :
  (execOp a.eval o).run X.P w=.ok (.value (denV E v)) w∧v.kb s.nx:=by
 unfold xvSlice at h
 split at h
 ·rename_i d hd
  split at h
  ·rename_i l hl
   split at h
   ·rename_i h' hh
    split at h
    ·rename_i m hx
     obtain ⟨e1,k1⟩:=hs.eval hx
     cases hb:Nat.beq d.kd 2 with
     | false=>rw [hb] at h;cases h
     | true =>
      rw [hb] at h
      simp only [cond_true] at h
      split at h
      ·rename_i z hz
       cases h
       refine ⟨?_,trivial⟩
       unfold Kx.ssl at hz
       rw [Option.map_eq_some_iff] at hz
       obtain ⟨p,hp,rfl⟩:=hz
       simp only [execOp,ho,e1,denV,den,evOI_ok hs hl,evOI_ok hs hh]
       exact exec_v (run_slice_s ((htt.get hd).str hb) hp)
      ·cases h
    ·rename_i k i len es hx
     obtain ⟨e1,k1⟩:=hs.eval hx
     cases hb:(Nat.beq d.kd 6 && Nat.beq d.es es && xlen s.M k i len es) with
     | false=>rw [hb] at h;cases h
     | true =>
      rw [hb] at h
      simp only [cond_true] at h
      simp only [Bool.and_eq_true] at hb
      obtain ⟨⟨h1,h2⟩,h3⟩:=hb
      have h2:=Nat.eq_of_beq_eq_true h2
      have h3:=xlen_ok hs h3
      obtain ⟨e,hu,hz⟩:=(htt.get hd).sliceOf h1
      split at h
      ·rename_i p hp
       cases hq:(Nat.beq p.1 0 || Nat.blt p.1 p.2) with
       | false=>rw [hq] at h;cases h
       | true =>
        rw [hq] at h;cases h
        refine ⟨?_,k1⟩
        obtain ⟨q1,q2,q3,q4⟩:=bnd_ok hp
        have hp2:p.2≤len:=by rw [q4];simp;omega
        simp only [execOp,ho,e1,denV,den,evOI_ok hs hl,evOI_ok hs hh,Option.map_none]
        refine exec_v ?_
        have hcap:len≤capOf (E.ρ k)-i:=by omega
        rw [run_slice_sl hu (hz w) hcap hp]
        rw [Bool.or_eq_true] at hq
        rcases hq with hq | hq
        ·have hq:=Nat.eq_of_beq_eq_true hq
         rw [hq]
         simp [Addr.add]
        ·have hq:=blt_lt hq
         rw [if_neg (by omega)]
         simp only [Option.map_some,addr_add,h2,Nat.add_mul,Nat.sub_sub]
      ·cases h
    ·rename_i hx
     obtain ⟨e1,k1⟩:=hs.eval hx
     cases hb:Nat.beq d.kd 6 with
     | false=>rw [hb] at h;cases h
     | true =>
      rw [hb] at h
      simp only [cond_true] at h
      obtain ⟨e,hu,hz⟩:=(htt.get hd).sliceOf hb
      split at h
      ·rename_i p hp
       cases h
       refine ⟨?_,trivial⟩
       obtain ⟨q1,q2,q3,q4⟩:=bnd_ok hp
       have hp2:p.2=0:=by rw [q4];simp;omega
       have hp1:p.1=0:=by rw [q4];simp;omega
       simp only [execOp,ho,e1,denV,den,evOI_ok hs hl,evOI_ok hs hh,Option.map_none]
       refine exec_v ?_
       rw [run_slice_sl hu (hz w) (Nat.le_refl _) hp,hp1,hp2]
       simp
      ·cases h
    ·cases h
   ·cases h
  ·cases h
 ·cases h
theorem xvLen_ok (htt:TTOk X.P tt) (hs:Sat X s E F w a) {x:Operand} {t ty:TypeId} {v:SV} (h:xvLen tt s x t=some v) :
  (Builtin.len_ #[t] ty #[a.eval x]).run X.P w=.ok (denV E v) w∧v.kb s.nx:=by
 unfold xvLen at h
 split at h
 ·rename_i d hd
  split at h
  ·rename_i k i n es hx
   cases hb:Nat.beq d.kd 6 with
   | false=>rw [hb] at h;cases h
   | true =>
    rw [hb] at h;cases h
    obtain ⟨e1,_⟩:=hs.eval hx
    obtain ⟨_,he,_⟩:=(htt.get hd).slc hb
    exact ⟨by simp [e1,Builtin.len_,run_underlying' he,denV,den,goInt],trivial⟩
  ·cases h
 ·cases h
theorem eqO_run {P:Program} {op:BinOp} {t:TypeId} {x y:Operand} {u v:Value} {b:Bool} {r:SV} (hq:(Op.equal t u v).run P w=.ok b w) (h:eqO op b=some r)
  (hg:∀ op,(eqGuard op t x y u v).run P w=.ok () w) (h1:binOp .eql t u v=(do pure (Value.bool (← Op.equal t u v)))) (h2:binOp .neq t u v=(do pure (Value.bool (!(← Op.equal t u v))))) :
  (do eqGuard op t x y u v;binOp op t u v:Sem Value).run P w=.ok (denV E r) w∧∀ n,r.kb n:=by
 unfold eqO at h
 split at h
 ·cases h
  refine ⟨?_,fun _=>trivial⟩
  simp only [Sem.run_bind,hg,Result.andThen_ok]
  rw [h1]
  simp only [Sem.run_bind,hq,Result.andThen_ok,Sem.run_pure];rfl
 ·cases h
  refine ⟨?_,fun _=>trivial⟩
  simp only [Sem.run_bind,hg,Result.andThen_ok]
  rw [h2]
  simp only [Sem.run_bind,hq,Result.andThen_ok,Sem.run_pure];rfl
 ·cases h
theorem xvBin_ok (htt:TTOk X.P tt) (hs:Sat X s E F w a) {op:BinOp} {t yt:TypeId} {x y:Operand} {v:SV} (ho:o.op=.binOp op t x y yt) (h:xvBin X.P tt s op t x y=some v) :
  (execOp a.eval o).run X.P w=.ok (.value (denV E v)) w∧v.kb s.nx:=by
 unfold xvBin at h
 split at h
 ·rename_i vx hx
  obtain ⟨e1,k1⟩:=hs.eval hx
  split at h
  ·rename_i vy hy
   obtain ⟨e2,k2⟩:=hs.eval hy
   have go:∀ r:SV,(do eqGuard op t x y (denV E vx) (denV E vy);binOp op t (denV E vx) (denV E vy):Sem Value).run X.P w=.ok (denV E r) w →
     (execOp a.eval o).run X.P w=.ok (.value (denV E r)) w:=fun r hr=>by
    simp only [execOp,ho,e1,e2]
    exact exec_v hr
   split at h
   ·rename_i k m k' n
    cases hb:(isSh op || decide (k=k')) with
    | false=>rw [hb] at h;cases h
    | true =>
     rw [hb] at h
     simp only [cond_true] at h
     split at h
     ·rename_i z hz
      cases h
      exact ⟨go _ (binO_run hz hb),trivial⟩
     ·cases h
   ·rename_i m n
    split at h
    ·split at h
     ·rename_i z hz
      cases h
      refine ⟨go _ ?_,trivial⟩
      unfold catS at hz
      cases hq:decide (((m.size+n.size:Nat):Int) > IntKind.i64.max) with
      | true=>rw [hq] at hz;cases hz
      | false =>
       rw [hq] at hz;cases hz
       have:¬ ((m.size+n.size:Nat):Int) > IntKind.i64.max:=by simpa using hq
       simp only [denV,den,eqGuard,binOp,Op.stringOp,this,if_false,Sem.run_bind,Sem.run_pure]
       rfl
     ·cases h
    ·cases h
   ·rename_i cs ds
    cases hb:(aggOf X.P t && !(X.P.eqGuardType X.P.depth t)) with
    | false=>rw [hb] at h;cases h
    | true =>
     rw [hb] at h
     simp only [cond_true] at h
     split at h
     ·rename_i b hq
      simp only [Bool.and_eq_true,Bool.not_eq_true'] at hb
      obtain ⟨g1,g2⟩:=eqO_run (E:=E) (x:=x) (y:=y) (equal_run hb.1 hq E w) h (fun op=>by
       unfold eqGuard
       cases op<;>simp [hb.2]) rfl rfl
      exact ⟨go _ g1,g2 _⟩
     ·cases h
   ·split at h
    ·rename_i d hd
     cases hb:Nat.beq d.kd 6 with
     | false=>rw [hb] at h;cases h
     | true =>
      rw [hb] at h
      simp only [cond_true] at h
      obtain ⟨e,hu,_⟩:=(htt.get hd).sliceOf hb
      rename_i k i n es _ _
      obtain ⟨g1,g2⟩:=eqO_run (P:=X.P) (w:=w) (E:=E) (op:=op) (t:=t) (x:=x) (y:=y) (u:=denV E (.c (.sp k i n es))) (v:=denV E (.c .nil)) (b:=false) (r:=v) (by
       show (Op.equalIn (9999+1) t _ _).run X.P w=_
       generalize 9999=q
       simp only [denV,den,Op.equalIn,Sem.run_bind,run_underlying' hu,Result.andThen_ok,Sem.run_pure,Option.isNone_none,Option.isNone_some]) h
       (fun op=>by unfold eqGuard;cases op<;>simp [denV,den]) rfl rfl
      exact ⟨go _ g1,g2 _⟩
    ·cases h
   ·split at h
    ·rename_i d hd
     cases hb:Nat.beq d.kd 6 with
     | false=>rw [hb] at h;cases h
     | true =>
      rw [hb] at h
      simp only [cond_true] at h
      obtain ⟨e,hu,_⟩:=(htt.get hd).sliceOf hb
      obtain ⟨g1,g2⟩:=eqO_run (P:=X.P) (w:=w) (E:=E) (op:=op) (t:=t) (x:=x) (y:=y) (u:=denV E (.c .nil)) (v:=denV E (.c .nil)) (b:=true) (r:=v) (by
       show (Op.equalIn (9999+1) t _ _).run X.P w=_
       generalize 9999=q
       simp only [denV,den,Op.equalIn,Sem.run_bind,run_underlying' hu,Result.andThen_ok,Sem.run_pure,Option.isNone_none,Option.isNone_some]) h
       (fun op=>by unfold eqGuard;cases op<;>simp [denV,den]) rfl rfl
      exact ⟨go _ g1,g2 _⟩
    ·cases h
   ·cases h
  ·cases h
 ·cases h
theorem bytesOfC_ok:∀ {ns:List SC} {ys:List Int},bytesOfC ns=some ys→ns=ys.map (SC.i .u8)
 | [],ys,h=>by cases h;rfl
 | c::r,ys,h=>by
  unfold bytesOfC at h
  cases hc:byteOfC c with
  | none=>rw [hc] at h;cases h
  | some z =>
   rw [hc] at h
   simp only [] at h
   cases hr:bytesOfC r with
   | none=>rw [hr] at h;cases h
   | some zs =>
    rw [hr] at h
    cases h
    rw [bytesOfC_ok hr]
    unfold byteOfC at hc
    split at hc
    ·cases hc;rfl
    ·cases hc
theorem TD.Ok.ints {P:Program} {t:TypeId} {d:TD} {k:IntKind} (h:TD.Ok P t d) (hk:d.ik=some k):P.underlying t=some (.int k):=by
 have h2:=h.2.1
 unfold kindOk at h2
 split at h2<;>(try (simp [hk] at h2;done))
 rename_i k' hu
 simp [hk] at h2
 rw [hu,h2.1.2]
theorem slOf (hs:Sat X s E F w a) {es n:Nat} {c:SC} {ns:List SC} (h:srcC s es c=some (n,ns)) (hn:notS c=true):∃ b cap,den E c=.slice b n cap:=by
 unfold srcC at h
 split at h
 ·cases h;exact ⟨_,_,rfl⟩
 ·cases hn
 ·rename_i k i n' e
  split at h
  ·rename_i cs e' ty hm
   cases hb:(Nat.beq e es && Nat.beq e' es && Nat.ble ((i+n') * es) cs.length) with
   | false=>rw [hb] at h;cases h
   | true=>rw [hb] at h;cases h;exact ⟨_,_,rfl⟩
  ·cases h
 ·rename_i k
  split at h
  ·rename_i R hV
   cases h
   obtain ⟨b,c,hv⟩:=SlR_len (hs.hV k _ hV)
   exact ⟨b,c,hv⟩
  ·cases h
 ·cases h
theorem xvConv_ok (htt:TTOk X.P tt) (hs:Sat X s E F w a) {t u:TypeId} {x:Operand} {v:SV} (ho:o.op=.convert t u x) (h:xvConv tt s t u x=some v) :
  (execOp a.eval o).run X.P w=.ok (.value (denV E v)) w∧v.kb s.nx:=by
 unfold xvConv at h
 split at h
 ·rename_i d hd
  split at h
  ·rename_i du hdu
   split at h
   ·rename_i de hde
    split at h
    ·rename_i c hx
     split at h
     ·rename_i n ns hsc
      cases hb:(Nat.beq d.kd 6 && Nat.beq du.kd 2 && decide (de.ik=some .u8) && notS c) with
      | false=>rw [hb] at h;cases h
      | true =>
       rw [hb] at h
       simp only [cond_true] at h
       split at h
       ·rename_i ys hys
        cases h
        refine ⟨?_,trivial⟩
        simp only [Bool.and_eq_true,decide_eq_true_eq] at hb
        obtain ⟨⟨⟨b1,b2⟩,b3⟩,b4⟩:=hb
        obtain ⟨e1,_⟩:=hs.eval hx
        obtain ⟨i,hu,_⟩:=(htt.get hd).slc b1
        have hu2:=(htt.get hdu).str b2
        have he:=(htt.get hde).ints b3
        obtain ⟨b,cap,hv⟩:=slOf hs hsc b4
        obtain ⟨g1,_,_,g4⟩:=srcC_ok hs hsc
        have h1:=g4 n w (Nat.le_refl _) rfl
        have hns:=bytesOfC_ok hys
        have hl:ys.length=n:=by
         have:=congrArg List.length hns
         rw [List.length_map] at this
         omega
        rw [Nat.mul_one,← hl,← List.length_map (f:=SC.i .u8) (as:=ys),← hns,List.take_length,hns,List.map_map] at h1
        simp only [execOp,ho]
        rw [e1]
        simp only [denV,hv]
        refine exec_v ?_
        rw [run_convert_bytes_string w t u d.el b n cap hu he hu2]
        rw [hv] at h1
        cases b with
        | none =>
         simp only [Builtin.firstCells,Sem.run_pure,Result.ok.injEq,and_true] at h1
         have:ys=[]:=by
          cases ys with
          | nil=>rfl
          | cons y ys=>simp at h1
         subst this
         simp [Conv.bytesToString,strOf];rfl
        | some ad =>
         simp only [Builtin.firstCells] at h1
         rw [List.length_map,hl] at h1
         have h2:(loadCells ad ys.length).run X.P w=.ok (ys.map (Value.int .u8)).toArray w:=by
          rw [hl];have e:(den E ∘ SC.i .u8)=Value.int .u8:=rfl
          rw [e,Nat.mul_one] at h1;exact h1
         rw [← hl]
         exact run_bytesToString w ad ys.length cap ys h2
       ·cases h
     ·cases h
    ·cases h
   ·cases h
  ·cases h
 ·cases h
theorem xval_ok (htt:TTOk X.P tt) (hs:Sat X s E F w a) {v:SV} (h:xval X.P tt s o.op=some v):(execOp a.eval o).run X.P w=.ok (.value (denV E v)) w∧v.kb s.nx:=by
 unfold xval at h
 split at h
 ·rename_i ho;exact xvLoad_ok htt hs ho h
 ·rename_i ho;exact xvIdxA_ok htt hs ho h
 ·rename_i ho;exact xvIdx_ok htt hs ho h
 ·rename_i ho;exact xvSlice_ok htt hs ho h
 ·rename_i ho;exact xvBin_ok htt hs ho h
 ·rename_i ho;exact xvConv_ok htt hs ho h
 ·rename_i c ho
  obtain ⟨callee,args,ts⟩:=c
  simp only [] at h
  split at h
  ·split at h
   ·rename_i x hargs
    split at h
    ·rename_i t hts
     have e1:args=#[x]:=by apply Array.ext';rw [hargs]
     have e2:ts=#[t]:=by apply Array.ext';rw [hts]
     subst e1 e2
     obtain ⟨g1,g2⟩:=xvLen_ok (ty:=o.type) htt hs h
     refine ⟨exec_call_builtin ho ?_,g2⟩
     simp only [List.map_toArray,List.map_cons,List.map_nil]
     exact exec_v g1
    ·cases h
   ·cases h
  ·cases h
 ·cases h
end
end Go.Kx
end
section
namespace Go.Kx
def xeStore (tt:List (Nat × TD)) (o:Oper) (s:St) (t:TypeId) (ad v:Operand):Option St:=match look tt t with
 | some d=>match evalO s.L ad with
  | some (.c (.bp k off))=>match evalO s.L v with
   | some sv=>match svCells sv with
    | some ps=>match look s.M k with
     | some (.arr cs es ty)=>bif Nat.beq ps.length d.sz && Nat.ble (off+ps.length) cs.length && o.dst.isNone then
       some ⟨s.L,(k,.arr (cs.take off++ps++cs.drop (off+ps.length)) es ty)::s.M,s.V,s.nx⟩ else none
     | _=>none
    | none=>none
   | none=>none
  | _=>none
 | none=>none
def newA (nt:Nat) (o:Oper) (s:St) (cs:List SC) (m es:Nat) (ty:TypeId):Option St:=match o.dst with
 | some d=>bif Nat.blt d nt then some ⟨(d,.c (.sp s.nx 0 m es))::s.L,(s.nx,.arr cs es ty)::s.M,s.V,s.nx+1⟩ else none
 | none=>none
def xeBuild (tt:List (Nat × TD)) (nt:Nat) (o:Oper) (s:St) (t len:Nat) (parts:Array (Nat × Operand)):Option St:=match look tt t with
 | some td=>match look tt td.el with
  | some te=>bif Nat.beq td.kd 6 && Nat.ble (len * td.es) 16777216 && !te.z.isEmpty then (match fillS (elemsFo td.es len) s.L parts.toList (zeroRow te.z (len * td.es)) with
   | some cs=>bif Nat.beq cs.length (len * td.es) then newA nt o s cs len td.es td.el else none
   | none=>none) else none
  | none=>none
 | none=>none
def xeMake (tt:List (Nat × TD)) (nt:Nat) (o:Oper) (s:St) (t:TypeId) (x y:Operand):Option St:=match look tt t with
 | some td=>match look tt td.el with
  | some te=>match evalO s.L x with
   | some (.c (.i _ l))=>match evalO s.L y with
    | some (.c (.i _ c))=>bif decide (0≤l) && decide (l≤c) && decide (c≤4294967296) && Nat.beq td.kd 6 && Nat.ble td.eb 32768 && !te.z.isEmpty then
      newA nt o s (zeroRow te.z (l.toNat * td.es)) l.toNat td.es td.el else none
    | _=>none
   | _=>none
  | none=>none
 | none=>none
def xeBytes (tt:List (Nat × TD)) (nt:Nat) (o:Oper) (s:St) (t u:TypeId) (x:Operand):Option St:=match look tt t with
 | some d=>match look tt u with
  | some du=>match look tt du.el with
   | some de=>match evalO s.L x with
    | some (.c (.s m))=>bif Nat.beq d.kd 2 && Nat.beq du.kd 6 && decide (de.ik=some .u8) then newA nt o s (m.data.toList.map fun b=>.i .u8 b.toNat) m.size 1 du.el else none
    | _=>none
   | none=>none
  | none=>none
 | none=>none
section
variable {X:Ctx} {s s':St} {E:Env} {F:FSet} {w:World} {a:Act} {tt:List (Nat × TD)} {o:Oper}
theorem xeStore_ok (htt:TTOk X.P tt) {t:TypeId} {ad v:Operand} (ho:o.op=.store t ad v) (h:xeStore tt o s t ad v=some s'):Stp X o s s':=by
 intro E F w a hs
 unfold xeStore at h
 split at h
 ·rename_i d hd
  split at h
  ·rename_i k off had
   split at h
   ·rename_i sv hv
    split at h
    ·rename_i ps hc
     split at h
     ·rename_i cs es ty hm
      cases hb:(Nat.beq ps.length d.sz && Nat.ble (off+ps.length) cs.length && o.dst.isNone) with
      | false=>rw [hb] at h;cases h
      | true =>
       rw [hb] at h
       cases h
       simp only [Bool.and_eq_true,Option.isNone_iff_eq_none] at hb
       obtain ⟨⟨b1,b2⟩,b3⟩:=hb
       have b1:=Nat.eq_of_beq_eq_true b1
       have b2:=Nat.le_of_ble_eq_true b2
       obtain ⟨ev,ek⟩:=hs.eval hv
       obtain ⟨ea,_⟩:=hs.eval had
       obtain ⟨ec,ekk⟩:=svCells_ok (s:=s) hs.one hc ek
       obtain ⟨w',hr,hs'⟩:=hs.storeArr hm b2 ekk
       refine wp_skip' (w':=w') ?_ ⟨E,F,by rw [b3];exact hs'⟩
       have hsv:(Instr.storeAt t (denV E (.c (.bp k off))) (denV E sv)).run X.P w=.ok () w':=by
        have:(denV E sv).cells.size=d.sz:=by rw [ec];simp [b1]
        show (Instr.storeAt t (.pointer (some ⟨E.β k,off,none⟩)) (denV E sv)).run X.P w=.ok () w'
        simp only [Instr.storeAt,Instr.sureAddr,Sem.run_bind,Sem.run_pure,Result.andThen_ok,storeVar,run_sizeOf' w (htt.get hd),this,ne_eq,not_true_eq_false,if_false]
        rw [ec]
        exact hr
       simp only [execOp,ho,ev,ea,Sem.run_bind,hsv,Result.andThen_ok,Sem.run_pure]
     ·cases h
    ·cases h
   ·cases h
  ·cases h
 ·cases h
theorem newA_ok {cs:List SC} {m es κ:Nat} {arr:Array Value} {ty:TypeId} {fz:Nat × Nat} {w2:World} (hs:Sat X s E F w a) (h:newA X.fn.ntmps o s cs m es ty=some s') (hk:∀ x∈cs,SC.kb s.nx x)
  (hrun:(execOp a.eval o).run X.P w=.ok (.value (.slice (some ⟨w.heap.size,0,none⟩) m κ)) w2) (hp:∀ (j:Nat) (x:SC),cs[j]? = some x→arr[j]? = some (den E x)) (hc:cs.length≤κ * es) (ha:κ * es≤arr.size) (he:0 < es) (hfz:ThawAt fz arr.size)
  (hw2:w2.heap=w.heap.push (.cells arr ty fz)) (h1:w2.os=w.os) (h2:w2.tape=w.tape) (h3:w2.output=w.output):o.wp X.P a w (fun a' w'=>∃ E' F',Sat X s' E' F' w' a') (fun _ _ _=>False):=by
 unfold newA at h
 split at h
 ·rename_i d hd
  cases hb:Nat.blt d X.fn.ntmps with
  | false=>rw [hb] at h;cases h
  | true =>
   rw [hb] at h;cases h
   obtain ⟨E',e1,e2,s1⟩:=hs.newArr hk hp hc ha he hfz hw2 h1 h2 h3
   have s2:=s1.setL (d:=d) (v:=.c (.sp s.nx 0 m es)) (Nat.lt_succ_self _) (blt_lt hb)
   simp only [denV,den,e1,e2,Nat.zero_mul,Nat.sub_zero] at s2
   refine wp_value hrun ⟨E',F,?_⟩
   rw [hd]
   exact s2
 ·cases h
theorem xeBytes_ok (htt:TTOk X.P tt) {t u:TypeId} {x:Operand} (ho:o.op=.convert t u x) (h:xeBytes tt X.fn.ntmps o s t u x=some s'):Stp X o s s':=by
 intro E F w a hs
 unfold xeBytes at h
 split at h
 ·rename_i d hd
  split at h
  ·rename_i du hdu
   split at h
   ·rename_i de hde
    split at h
    ·rename_i m hx
     cases hb:(Nat.beq d.kd 2 && Nat.beq du.kd 6 && decide (de.ik=some .u8)) with
     | false=>rw [hb] at h;cases h
     | true =>
      rw [hb] at h
      simp only [cond_true] at h
      simp only [Bool.and_eq_true,decide_eq_true_eq] at hb
      obtain ⟨⟨b1,b2⟩,b3⟩:=hb
      obtain ⟨e1,_⟩:=hs.eval hx
      have ht:=(htt.get hd).str b1
      obtain ⟨i,hu,_⟩:=(htt.get hdu).slc b2
      have he:=(htt.get hde).ints b3
      have hrun:(execOp a.eval o).run X.P w=.ok (.value (.slice (some ⟨w.heap.size,0,none⟩) m.size (grownCap w m.size 0 du.el)))
        (w.drew.alloc (.cells (bytesRow m (grownCap w m.size 0 du.el)) du.el ((bytesRow m (grownCap w m.size 0 du.el)).size,(bytesRow m (grownCap w m.size 0 du.el)).size+1))):=by
       simp only [execOp,ho,e1,denV,den]
       exact exec_v (run_bytes_of_string w t u du.el m ht hu he)
      have hcap:m.size≤grownCap w m.size 0 du.el:=Nat.le_add_right _ _
      have hds:m.data.size=m.size:=rfl
      refine newA_ok hs h (by simp [SC.kb]) hrun (arr:=bytesRow m (grownCap w m.size 0 du.el)) (fz:=_) (fun j x hj=>?_) (by simp [hds];exact hcap) (by simp [bytesRow,hds];omega) Nat.one_pos (fun j hj=>?_) rfl rfl rfl rfl
      ·rw [List.getElem?_map,Option.map_eq_some_iff] at hj
       obtain ⟨b,hb,rfl⟩:=hj
       have hlt:j < m.data.size:=by
        have:=(List.getElem?_eq_some_iff.1 hb).1
        simpa using this
       unfold bytesRow
       rw [Array.getElem?_append_left (by simpa using hlt)]
       have hb':m.data[j]? = some b:=by rw [← Array.getElem?_toList];exact hb
       simp only [Array.getElem?_map,hb',Option.map_some]
       rfl
      ·have:¬ ((bytesRow m (grownCap w m.size 0 du.el)).size≤j):=by omega
       simp [this]
    ·cases h
   ·cases h
  ·cases h
 ·cases h
theorem zeroRow_get {z:List SC} {n j:Nat} {x:SC} (h:(zeroRow z n)[j]? = some x):j < n∧x=z.getD (j % z.length) .nil:=by
 unfold zeroRow at h
 rw [List.getElem?_map,Option.map_eq_some_iff] at h
 obtain ⟨i,hi,rfl⟩:=h
 obtain ⟨h1,h2⟩:=List.getElem?_eq_some_iff.1 hi
 simp at h1 h2
 subst h2
 exact ⟨h1,rfl⟩
theorem xeBuild_ok (htt:TTOk X.P tt) {t len:Nat} {parts:Array (Nat × Operand)} (ho:o.op=.buildSlice t len parts) (h:xeBuild tt X.fn.ntmps o s t len parts=some s'):Stp X o s s':=by
 intro E F w a hs
 unfold xeBuild at h
 split at h
 ·rename_i td ht
  split at h
  ·rename_i te hte
   cases hb:(Nat.beq td.kd 6 && Nat.ble (len * td.es) 16777216 && !te.z.isEmpty) with
   | false=>rw [hb] at h;cases h
   | true =>
    rw [hb] at h
    simp only [cond_true] at h
    simp only [Bool.and_eq_true] at hb
    obtain ⟨⟨c2,c5⟩,c6⟩:=hb
    have c5:=Nat.le_of_ble_eq_true c5
    split at h
    ·rename_i cs hf
     cases hl:Nat.beq cs.length (len * td.es) with
     | false=>rw [hl] at h;cases h
     | true =>
      rw [hl] at h
      simp only [cond_true] at h
      have hl:=Nat.eq_of_beq_eq_true hl
      obtain ⟨ie,hu,hie,hsz,_,hne0,_⟩:=(htt.get ht).slc c2
      have hz:(sizeOf td.el).run X.P w=.ok td.es w:=by simp [sizeOf,typeInfo,hie,hsz]
      obtain ⟨z,hzr,hzc⟩:=run_zeroValue' w (htt.get hte)
      have hzne:te.z≠[]:=by intro h;rw [h] at c6;simp at c6
      obtain ⟨arr',hfl,harr,hkb⟩:=fillS_ok hs (elemsFo td.es len) (fun i=>some (i * td.es,td.es)) (fun i o sz g hi=>by
       have:=elemsFo_get _ _ _ _ hi;simp only [Prod.mk.injEq] at this;rw [this.1,this.2.1]) parts.toList (zeroRow te.z (len * td.es)) cs
       ((Array.range (len * td.es)).map fun i=>z.cells[i % z.cells.size]!) hf (by
        intro y hy
        simp only [zeroRow,List.mem_map] at hy
        obtain ⟨j,_,rfl⟩:=hy
        have hm:j % te.z.length < te.z.length:=Nat.mod_lt _ (List.length_pos_iff.2 hzne)
        simp only [List.getD,List.getElem?_eq_getElem hm,Option.getD_some]
        exact kb_zero (htt.get hte) _ (List.getElem_mem hm)) (zeroRow_ok (hzc E) _ (.inr hzne))
      have hrun:(execOp a.eval o).run X.P w=.ok (.value (.slice (some ⟨w.heap.size,0,none⟩) len len)) (w.alloc (.cells arr' td.el)):=by
       simp only [execOp,ho]
       refine exec_v ?_
       have hpar:(parts.map fun (i,x)=>(i,a.eval x)).toList=parts.toList.map fun (i,x)=>(i,a.eval x):=by simp
       have hne:¬ (2 ^ 24 < len * td.es):=by omega
       simp only [Instr.buildSlice,Sem.run_bind,run_underlying' hu,Result.andThen_ok,hz,hpar]
       by_cases h0:len * td.es=0
       ·have key:∀ f:Nat→Value,(Array.range (len * td.es)).map f=#[]:=by intro f;rw [h0];simp
        rw [key] at hfl
        have hgt:¬ ((0:Nat) > 2 ^ 24):=by omega
        rw [h0] at key ⊢
        simp only [hgt,if_false,Sem.run_bind,if_true,Sem.run_pure,Result.andThen_ok,newRow]
        rw [key]
        simp only [hfl,Sem.run_pure,Sem.run_bind,run_newObj,Result.andThen_ok]
        rfl
       ·simp [h0,hne,hzr,hfl,newRow]
      have hal:arr'.size=len * td.es:=by rw [← Array.length_toList,harr,List.length_map,hl]
      refine newA_ok hs h hkb hrun (arr:=arr') (fz:=(0,0)) (fun j x hj=>?_) (by rw [hl];exact Nat.le_refl _) (by rw [hal];exact Nat.le_refl _) (Nat.pos_of_ne_zero (hsz ▸ hne0)) (thaw_zero _) rfl rfl rfl rfl
      rw [← Array.getElem?_toList,harr,List.getElem?_map,hj];rfl
    ·cases h
  ·cases h
 ·cases h
theorem xeMake_ok (htt:TTOk X.P tt) {t:Nat} {x y:Operand} (ho:o.op=.makeSlice t x y) (h:xeMake tt X.fn.ntmps o s t x y=some s'):Stp X o s s':=by
  intro E F w a hs
  unfold xeMake at h
  split at h
  · rename_i td ht
    split at h
    · rename_i te hte
      split at h
      · rename_i k l hx
        split at h
        · rename_i k' c hy
          cases hb:(decide (0≤l) && decide (l≤c) && decide (c≤4294967296) && Nat.beq td.kd 6 && Nat.ble td.eb 32768 && !te.z.isEmpty) with
          | false=>rw [hb] at h;cases h
          | true =>
            rw [hb] at h
            simp only [cond_true] at h
            simp only [Bool.and_eq_true,decide_eq_true_eq] at hb
            obtain ⟨⟨⟨⟨⟨q0,q1⟩,q2⟩,c2⟩,c4⟩,c5⟩:=hb
            have c4:=Nat.le_of_ble_eq_true c4
            obtain ⟨e1,_⟩:=hs.eval hx
            obtain ⟨e2,_⟩:=hs.eval hy
            obtain ⟨ie,hu,hie,hsz,heb,hne0,_⟩:=(htt.get ht).slc c2
            have hz:(sizeOf td.el).run X.P w=.ok td.es w:=by simp [sizeOf,typeInfo,hie,hsz]
            obtain ⟨zv,hzr,hzc⟩:=run_zeroValue' w (htt.get hte)
            have hzl:te.z.length=td.es:=by
              have h1:=(htt.get hte).2.2.2
              obtain ⟨i',z',hi',hs',_⟩:=(htt.get hte).info
              rw [hie] at hi'
              cases hi'
              rw [h1,← hs',hsz]
            have hzne:te.z≠[]:=by intro h;rw [h] at c5;simp at c5
            have hcc:(c.toNat:Int)=c:=Int.toNat_of_nonneg (by omega)
            have hrun:(execOp a.eval o).run X.P w=.ok (.value (.slice (some ⟨w.heap.size,0,none⟩) l.toNat c.toNat)) (w.alloc (.cells ((Array.range (c.toNat * td.es)).map (zv.cells[· % zv.cells.size]!)) td.el)):=by
              simp only [execOp,ho,e1,e2,denV,den]
              refine exec_v ?_
              have w1:IntKind.i64.wrap l=l:=wrap_small q0 (by omega)
              have w2:IntKind.i64.wrap c=c:=wrap_small (by omega) q2
              have hmul:(td.eb:Int) * c≤32768 * 4294967296:=Int.mul_le_mul (by omega) q2 (by omega) (by omega)
              have n1:¬ c < 0:=by omega
              have n2:¬ l < 0:=by omega
              have n3:¬ c < l:=by omega
              have n4:¬ (2:Int) ^ 48 < (td.eb:Int) * c:=by omega
              have n5:¬ roomBytes < c.toNat * td.eb:=by
                have:((c.toNat * td.eb:Nat):Int)=c * td.eb:=by rw [Int.natCast_mul,hcc]
                have h3:c * (td.eb:Int)=td.eb * c:=Int.mul_comm _ _
                show ¬ 2 ^ 47 < c.toNat * td.eb
                omega
              have hti:(typeInfo td.el).run X.P w=.ok ie w:=by simp [typeInfo,hie]
              simp only [Instr.makeSlice,Sem.run_bind,run_underlying' hu,Result.andThen_ok,asInt,asIntOf,Sem.run_pure,hti,heb,w1,w2]
              simp only [n1,n2,n3,n4,decide_false,Bool.or_false,Bool.or_self,gt_iff_lt,Bool.false_eq_true,if_false,askRoom,n5,Sem.run_pure,Sem.run_bind,Result.andThen_ok,hz]
              by_cases h0:c.toNat * td.es=0
              · have key:∀ f:Nat→Value,(Array.range (c.toNat * td.es)).map f=#[]:=by intro f;rw [h0];simp
                simp only [h0,if_true,Sem.run_pure,Result.andThen_ok]
                rw [h0] at key
                rw [key]
                simp [newRow]
                congr 2
                apply Array.ext<;>simp
              · simp [h0,hzr,newRow]
            have harr:=zeroRow_ok (hzc E) (c.toNat * td.es) (.inr hzne)
            have hlc:l.toNat≤c.toNat:=by omega
            have hmul:l.toNat * td.es≤c.toNat * td.es:=Nat.mul_le_mul_right _ hlc
            have hzlen:∀ n,(zeroRow te.z n).length=n:=fun n=>by simp [zeroRow]
            refine newA_ok hs h (fun y hy=>?_) hrun (arr:=(Array.range (c.toNat * td.es)).map (zv.cells[· % zv.cells.size]!)) (fz:=(0,0)) (fun j y hj=>?_) (by rw [hzlen];exact hmul) (by simp) (Nat.pos_of_ne_zero (hsz ▸ hne0)) (thaw_zero _) rfl rfl rfl rfl
            · simp only [zeroRow,List.mem_map] at hy
              obtain ⟨j,_,rfl⟩:=hy
              have hm:j % te.z.length < te.z.length:=Nat.mod_lt _ (List.length_pos_iff.2 hzne)
              simp only [List.getD,List.getElem?_eq_getElem hm,Option.getD_some]
              exact kb_zero (htt.get hte) _ (List.getElem_mem hm)
            · obtain ⟨hj1,hj2⟩:=zeroRow_get hj
              rw [← Array.getElem?_toList,harr,List.getElem?_map]
              have:(zeroRow te.z (c.toNat * td.es))[j]? = some y:=by
                simp only [zeroRow,List.getElem?_map,List.getElem?_range (show j < c.toNat * td.es by omega),Option.map_some,hj2]
              rw [this];rfl
        · cases h
      · cases h
    · cases h
  · cases h
end
end Go.Kx
end
section
namespace Go.Kx
def xeApp (tt:List (Nat × TD)) (nt:Nat) (o:Oper) (s:St) (x y:Operand) (t t2:TypeId):Option St:=match look tt t with
  | some td=>match look tt t2 with
    | some td2=>match evalO s.L y with
      | some (.c src)=>match srcC s td.es src with
        | some (m,ns)=>bif Nat.beq td.kd 6 && (Nat.beq td2.kd 6 || Nat.beq td2.kd 2) && Nat.ble td.eb 32768 && Nat.ble m lim then (match evalO s.L x with
          | some (.c .nil)=>bif Nat.beq m 0 then setd nt o s (.c .nil) else newA nt o s ns m td.es td.el
          | some (.c (.sp k i len es))=>match look s.M k with
            | some (.arr cs es' ty)=>bif Nat.beq es td.es && Nat.beq es' td.es && Nat.beq ty td.el && Nat.ble ((i+len) * es) cs.length && Nat.ble (len+m) lim then
                (bif Nat.beq m 0 then setd nt o s (.c (.sp k i len es))
                 else bif Nat.ble ((i+len+m) * es) cs.length then
                  setd nt o ⟨s.L,(k,.arr (cs.take ((i+len) * es)++ns++cs.drop ((i+len) * es+ns.length)) es' ty)::s.M,s.V,s.nx⟩ (.c (.sp k i (len+m) es))
                 else bif Nat.beq i 0 && Nat.beq (len * es) cs.length then
                  (match o.dst with
                  | some d=>bif Nat.blt d nt then some ⟨(d,.c (.sp s.nx 0 (len+m) es))::s.L,(s.nx,.arr (cs++ns) es ty)::(k,.gone)::s.M,s.V,s.nx+1⟩ else none
                  | none=>none) else none) else none
            | _=>none
          | _=>none) else none
        | none=>none
      | _=>none
    | none=>none
  | none=>none
theorem setRow_same {w:World} {g:Nat} {cur:Array Value} {t:TypeId} {fz:Nat × Nat} (hg:w.heap[g]? = some (.cells cur t fz)):w.setRow g cur=w:=by
 have hv:w.heap[g]'(Array.getElem?_eq_some_iff.1 hg).1=.cells cur t fz:=(Array.getElem?_eq_some_iff.1 hg).2
 unfold World.setRow
 cases w with
 | mk heap tape drawn os output =>
  congr 1
  apply Array.ext
  ·simp
  ·intro k h1 h2
   simp only [Array.getElem_modify]
   split
   ·rename_i hk;subst hk;simp at hv;simp [hv]
   ·rfl
theorem run_app_room {P:Program} {t t2 ty:TypeId} {td:TD} (hu2:P.underlying t2=some .string∨∃ e2,P.underlying t2=some (.slice e2)) (ok:TD.Ok P t td) (hk:Nat.beq td.kd 6=true) {w:World} {b o len cap m:Nat} {ns:List Value} {sv:Value}
  {arr:Array Value} {el:TypeId} {fz:Nat × Nat} (hh:w.heap[b]? = some (.cells arr el fz)) (hth:ThawAt fz arr.size) (hlen:∀ w',(Builtin.lenOf sv).run P w'=.ok m w')
  (hfc:∀ w',w'.heap=w.heap→(Builtin.firstCells td.es m sv).run P w'=.ok ns.toArray w') (hns:ns.length=m * td.es) (hone:∀ u∈ns,u.oneCell'=true) (hroom:len+m≤cap) (hsz:o+(len+m) * td.es≤arr.size) {arr':Array Value} (harr:arr'=(arr.toList.take (o+len * td.es)++ns++arr.toList.drop (o+len * td.es+ns.length)).toArray) :
  (Builtin.append_ #[t,t2] ty #[.slice (some ⟨b,o,none⟩) len cap,sv]).run P w=.ok (.slice (some ⟨b,o,none⟩) (len+m) cap)
   (w.setRow b arr'):=by
 obtain ⟨i,hu,hi,hsz',hby,hne,z,hz,hzs⟩:=ok.slc hk
 have hrunsz:∀ w',(sizeOf td.el).run P w'=.ok td.es w':=fun w'=>by simp [sizeOf,typeInfo,hi,hsz']
 rw [Nat.add_mul] at hsz
 have hst:=run_storeCells_thaw (P:=P) b (o+len * td.es) el fz ns 0 arr w hh hth (by omega) hone
 rw [Nat.add_zero,← harr] at hst
 have h2:=hfc w rfl
 rcases hu2 with hu2 | ⟨_,hu2⟩<;>simp [Builtin.append_,run_underlying' hu,run_underlying' hu2,hrunsz,hlen,hroom,h2,addr_add] <;>
  (rw [hst];rfl)
theorem run_app_grow {P:Program} {t t2 ty:TypeId} {td:TD} (hu2:P.underlying t2=some .string∨∃ e2,P.underlying t2=some (.slice e2)) (ok:TD.Ok P t td) (hk:Nat.beq td.kd 6=true) {w:World} {base:Option Addr} {len cap m:Nat} {ms ns:List Value} {sv:Value}
  (hlen:∀ w',(Builtin.lenOf sv).run P w'=.ok m w') (hfo:∀ w',w'.heap=w.heap→(Builtin.firstCells td.es len (.slice base len cap)).run P w'=.ok ms.toArray w')
  (hfc:∀ w',w'.heap=w.heap→(Builtin.firstCells td.es m sv).run P w'=.ok ns.toArray w') (hms:ms.length=len * td.es) (hns:ns.length=m * td.es) (hcap:cap < len+m) (hlim:len+m≤lim) (heb:td.eb≤32768) :
  ∃ nc rest,len+m≤nc∧nc * td.es≤(ms.toArray++ns.toArray++rest:Array Value).size∧(Builtin.append_ #[t,t2] ty #[.slice base len cap,sv]).run P w=.ok (.slice (some ⟨w.heap.size,0,none⟩) (len+m) nc) (w.drew.alloc (.cells (ms.toArray++ns.toArray++rest) td.el)):=by
 obtain ⟨i,hu,hi,hsz,hby,hne,z,hz,hzs⟩:=ok.slc hk
 have hrunsz:∀ w',(sizeOf td.el).run P w'=.ok td.es w':=fun w'=>by simp [sizeOf,typeInfo,hi,hsz]
 unfold lim at hlim
 have hbytes:(len+m) * td.eb≤140737488355328:=Nat.le_trans (Nat.mul_le_mul hlim heb) (by decide)
 have h63:¬ ((9223372036854775807:Int) < ((len:Int)+(m:Int))):=by omega
 let nc:=(Question.appendCap (len+m) cap td.el).cut (w.tape w.drawn (.appendCap (len+m) cap td.el))
 have hnc:len+m≤nc:=Nat.le_add_right _ _
 have hcapn:¬ (len+m≤cap):=by omega
 have hfit:¬ (281474976710656 < Builtin.nextslicecap (len+m) cap * i.bytes):=by
  have:=growslice_fits hcap (by rw [← hby] at hbytes;exact hbytes)
  omega
 have h1:=hfo w.drew rfl
 have h2:=hfc w.drew rfl
 refine ⟨nc,Builtin.zeroCells z.cells (nc-(len+m)),hnc,?_,?_⟩
 ·have hzc:(Builtin.zeroCells z.cells (nc-(len+m))).size=(nc-(len+m)) * td.es:=by simp [Builtin.zeroCells,hzs,hsz]
  rw [Array.size_append,Array.size_append,hzc,List.size_toArray,List.size_toArray,hms,hns,← Nat.add_mul,← Nat.add_mul]
  exact Nat.mul_le_mul_right _ (by omega)
 ·rcases hu2 with hu2 | ⟨_,hu2⟩<;>simp [Builtin.append_,run_underlying' hu,run_underlying' hu2,hrunsz,typeInfo,zeroValue,hi,hz,hlen,hcapn,h63,hfit,Question.forced,h1,h2,newRow] <;>
   simp [nc,← Array.append_assoc]
section
variable {X:Ctx} {s s':St} {E:Env} {F:FSet} {w:World} {a:Act} {tt:List (Nat × TD)} {o:Oper}
theorem setd_wp {v:SV} {w':World} (hs':Sat X s E F w' a) (h:setd X.fn.ntmps o s v=some s') (hv:v.kb s.nx) (hrun:(execOp a.eval o).run X.P w=.ok (.value (denV E v)) w') :
  o.wp X.P a w (fun a' w'=>∃ E' F',Sat X s' E' F' w' a') (fun _ _ _=>False):=by
 unfold setd at h
 split at h
 ·rename_i d hd
  cases hb:Nat.blt d X.fn.ntmps with
  | false=>rw [hb] at h;cases h
  | true =>
   rw [hb] at h;cases h
   refine wp_value hrun ⟨E,F,?_⟩
   rw [hd]
   exact hs'.setL hv (blt_lt hb)
 ·cases h
theorem xeApp_ok (htt:TTOk X.P tt) {x y:Operand} {t t2:TypeId} (ho:o.op=.call { callee:=.builtin .append,args:=#[x,y],argTypes:=#[t,t2] }) (h:xeApp tt X.fn.ntmps o s x y t t2=some s'):Stp X o s s':=by
 intro E F w a hs
 unfold xeApp at h
 split at h
 ·rename_i td ht
  split at h
  ·rename_i td2 ht2
   split at h
   ·rename_i src hy
    split at h
    ·rename_i m ns hsc
     cases hb:(Nat.beq td.kd 6 && (Nat.beq td2.kd 6 || Nat.beq td2.kd 2) && Nat.ble td.eb 32768 && Nat.ble m lim) with
     | false=>rw [hb] at h;cases h
     | true =>
      rw [hb] at h
      simp only [cond_true] at h
      simp only [Bool.and_eq_true] at hb
      obtain ⟨⟨⟨b1,b2⟩,b3⟩,b4⟩:=hb
      have b3:=Nat.le_of_ble_eq_true b3
      have b4:=Nat.le_of_ble_eq_true b4
      obtain ⟨e2,_⟩:=hs.eval hy
      obtain ⟨n1,n2,n3,n4⟩:=srcC_ok hs hsc
      have n5:∀ w',w'.heap=w.heap→(Builtin.firstCells td.es m (den E src)).run X.P w'=.ok (ns.map (den E)).toArray w':=fun w' hw=>by
       have:=n4 m w' (Nat.le_refl _) hw
       rwa [← n1,List.take_length] at this
      have hone:∀ u∈ns.map (den E),u.oneCell'=true:=fun u hu=>by
       obtain ⟨c,hc,rfl⟩:=List.mem_map.1 hu;exact den_one hs.one (n2 c hc)
      have hu2:=kd62 (htt.get ht2) b2
      obtain ⟨_,hu,_,_,_,hne0,_⟩:=(htt.get ht).slc b1
      have hes:0 < td.es:=by
       obtain ⟨_,_,_,h3,_,h4,_⟩:=(htt.get ht).slc b1
       exact Nat.pos_of_ne_zero (h3 ▸ h4)
      have lift:∀ {vx v:Value} {w':World},a.eval x=vx→(Builtin.append_ #[t,t2] o.type #[vx,den E src]).run X.P w=.ok v w'→(execOp a.eval o).run X.P w=.ok (.value v) w':=fun hx hr=>by
       refine exec_call_builtin ho ?_
       simp only [List.map_toArray,List.map_cons,List.map_nil,hx,e2,denV]
       exact exec_v hr
      split at h
      ·rename_i hx
       obtain ⟨e1,_⟩:=hs.eval hx
       cases hm:Nat.beq m 0 with
       | true =>
        rw [hm] at h
        have hm:=Nat.eq_of_beq_eq_true hm
        subst hm
        refine setd_wp hs h trivial (lift e1 ?_)
        have h5:=n5 w rfl
        have h0:ns=[]:=List.eq_nil_of_length_eq_zero (by omega)
        subst h0
        have hz:(sizeOf td.el).run X.P w=.ok td.es w:=by
         obtain ⟨_,_,h2,h3,_⟩:=(htt.get ht).slc b1
         simp [sizeOf,typeInfo,h2,h3]
        show (Builtin.append_ #[t,t2] o.type #[.slice none 0 0,den E src]).run X.P w=.ok (.slice none 0 0) w
        rcases hu2 with hu2 | ⟨_,hu2⟩<;>simp [Builtin.append_,run_underlying' hu,run_underlying' hu2,hz,n3,h5]
       | false =>
        rw [hm] at h
        simp only [cond_false] at h
        have hm0:0 < m:=Nat.pos_of_ne_zero fun e=>by subst e;cases hm
        obtain ⟨nc,rest,g1,g2,g3⟩:=run_app_grow (P:=X.P) (t2:=t2) (ty:=o.type) (w:=w) hu2 (htt.get ht) b1 (base:=none) (len:=0) (cap:=0) (ms:=[]) n3 (fun w' _=>by simp [Builtin.firstCells]) n5 (by simp) (by simpa using n1) (by omega) (by omega) b3
        have hrun:=lift e1 g3
        rw [Nat.zero_add] at hrun g1
        refine newA_ok hs h n2 hrun (arr:=_) (fz:=(0,0)) (fun j c hj=>?_) (by rw [n1];exact Nat.mul_le_mul_right _ g1) g2 hes (thaw_zero _) rfl rfl rfl rfl
        have hlt:=(List.getElem?_eq_some_iff.1 hj).1
        rw [Array.getElem?_append_left (by simpa using hlt),Array.getElem?_append_right (by simp)]
        simp [hj]
      ·rename_i k i len es hx
       obtain ⟨e1,k1⟩:=hs.eval hx
       split at h
       ·rename_i cs es' ty hM
        cases hc:(Nat.beq es td.es && Nat.beq es' td.es && Nat.beq ty td.el && Nat.ble ((i+len) * es) cs.length && Nat.ble (len+m) lim) with
        | false=>rw [hc] at h;cases h
        | true =>
         rw [hc] at h
         simp only [cond_true] at h
         simp only [Bool.and_eq_true] at hc
         obtain ⟨⟨⟨⟨c1,c2⟩,c5⟩,c3⟩,c4⟩:=hc
         have c5:=Nat.eq_of_beq_eq_true c5
         have c1:=Nat.eq_of_beq_eq_true c1
         have c2:=Nat.eq_of_beq_eq_true c2
         have c3:=Nat.le_of_ble_eq_true c3
         have c4:=Nat.le_of_ble_eq_true c4
         subst c1
         subst c2
         obtain ⟨arr,el,fz,hh,hth,hpre,hcl,hca,he,hty⟩:=(hs.hM k _ hM:MO.ok E F w k (.arr cs td.es ty))
         subst hty
         have hil:i+len≤capOf (E.ρ k):=Nat.le_of_mul_le_mul_right (Nat.le_trans c3 hcl) he
         have hal:arr.toList.length=arr.size:=Array.length_toList
         cases hm:Nat.beq m 0 with
         | true =>
          rw [hm] at h
          simp only [cond_true] at h
          have hm:=Nat.eq_of_beq_eq_true hm
          subst hm
          have h0:ns=[]:=List.eq_nil_of_length_eq_zero (by omega)
          subst h0
          have hsz:i * td.es+(len+0) * td.es≤arr.size:=by
           rw [Nat.add_zero,← Nat.add_mul];exact Nat.le_trans c3 (Nat.le_trans hcl hca)
          have hr:=run_app_room (ty:=o.type) hu2 (htt.get ht) b1 hh hth n3 n5 (by simp) hone (len:=len) (cap:=capOf (E.ρ k)-i) (o:=i * td.es) (by omega) hsz (arr':=arr) (by
           apply Array.ext';simp [List.take_append_drop])
          have hsame:w.setRow (E.β k) arr=w:=setRow_same hh
          rw [hsame,Nat.add_zero] at hr
          exact setd_wp hs h k1 (lift e1 hr)
         | false =>
          rw [hm] at h
          simp only [cond_false] at h
          have hm0:0 < m:=Nat.pos_of_ne_zero fun e=>by subst e;cases hm
          cases hin:Nat.ble ((i+len+m) * td.es) cs.length with
          | true =>
           rw [hin] at h
           simp only [cond_true] at h
           have hin:=Nat.le_of_ble_eq_true hin
           have hroom:i+len+m≤capOf (E.ρ k):=Nat.le_of_mul_le_mul_right (Nat.le_trans hin hcl) he
           have hle:(i+len) * td.es+ns.length≤cs.length:=by rw [n1,← Nat.add_mul];exact hin
           obtain ⟨w',hst,hs'⟩:=hs.storeArr hM hle n2
           have hst0:=run_storeCells_thaw (P:=X.P) (E.β k) ((i+len) * td.es) el fz (ns.map (den E)) 0 arr w hh hth (by rw [List.length_map];omega) hone
           rw [hst0] at hst
           simp only [Result.ok.injEq,true_and] at hst
           have hsz:i * td.es+(len+m) * td.es≤arr.size:=by
            rw [← Nat.add_mul,← Nat.add_assoc];exact Nat.le_trans hin (Nat.le_trans hcl hca)
           have hr:=run_app_room (ty:=o.type) hu2 (htt.get ht) b1 hh hth n3 n5 (by rw [List.length_map,n1]) hone (len:=len) (cap:=capOf (E.ρ k)-i) (o:=i * td.es) (by omega) hsz rfl
           rw [← Nat.add_mul,← Nat.add_zero ((i+len) * td.es),hst] at hr
           exact setd_wp hs' h k1 (lift e1 hr)
          | false =>
           rw [hin] at h
           simp only [cond_false] at h
           cases hfin:(Nat.beq i 0 && Nat.beq (len * td.es) cs.length) with
           | false=>rw [hfin] at h;cases h
           | true =>
            rw [hfin] at h
            simp only [cond_true] at h
            simp only [Bool.and_eq_true] at hfin
            have f1:=Nat.eq_of_beq_eq_true hfin.1
            have f2:=Nat.eq_of_beq_eq_true hfin.2
            subst f1
            split at h
            ·rename_i d hd
             cases hbd:Nat.blt d X.fn.ntmps with
             | false=>rw [hbd] at h;cases h
             | true =>
              rw [hbd] at h;cases h
              have hkb:∀ c∈cs++ns,SC.kb s.nx c:=fun c hc=>by
               rcases List.mem_append.1 hc with hc | hc
               ·exact (hs.wf.hM k _ hM).2 c hc
               ·exact n2 c hc
              have e1':a.eval x=.slice (some ⟨E.β k,0,none⟩) len (capOf (E.ρ k)):=by rw [e1];simp [denV,den]
              have hcnl:(cs++ns).length=(len+m) * td.es:=by rw [List.length_append,n1,← f2,Nat.add_mul]
              by_cases hroom:len+m≤capOf (E.ρ k)
              ·have hsz:0+(len+m) * td.es≤arr.size:=by rw [Nat.zero_add];exact Nat.le_trans (Nat.mul_le_mul_right _ hroom) hca
               have hr:=run_app_room (ty:=o.type) hu2 (htt.get ht) b1 hh hth n3 n5 (by rw [List.length_map,n1]) hone (len:=len) (cap:=capOf (E.ρ k)) (o:=0) hroom hsz rfl
               generalize harr:(arr.toList.take (0+len * td.es)++ns.map (den E)++arr.toList.drop (0+len * td.es+(ns.map (den E)).length)).toArray=arr' at hr
               have hsize:arr'.size=arr.size:=by
                rw [← harr]
                simp only [List.size_toArray,List.length_append,List.length_take,List.length_drop,List.length_map,hal,n1]
                rw [Nat.add_mul] at hsz
                omega
               obtain ⟨E',q1,q2,s1⟩:=hs.movArr (b:=E.β k) (κ:=capOf (E.ρ k)) (cs':=cs++ns) (w2:=w.setRow (E.β k) arr') hM hkb (setRow_heap w _ arr _ el fz hh) (.inl rfl) (fun j c hj=>by
                 rw [← harr]
                 simp only [List.getElem?_toArray,Nat.zero_add,List.append_assoc]
                 have htl:(arr.toList.take (len * td.es)).length=len * td.es:=by
                  rw [List.length_take,hal];rw [Nat.add_mul] at hsz;omega
                 by_cases hlt:j < cs.length
                 ·rw [List.getElem?_append_left hlt] at hj
                  rw [List.getElem?_append_left (by rw [htl];omega),List.getElem?_take,if_pos (by omega)]
                  have:=hpre j c hj
                  simpa using this
                 ·rw [List.getElem?_append_right (by omega)] at hj
                  have hl2:=(List.getElem?_eq_some_iff.1 hj).1
                  rw [List.getElem?_append_right (by rw [htl];omega),htl,List.getElem?_append_left (by rw [List.length_map];omega),List.getElem?_map,f2,hj];rfl)
                (by rw [hcnl];exact Nat.mul_le_mul_right _ hroom) (by rw [hsize];exact hca) he (by rw [hsize];exact hth) rfl rfl rfl (by simp) (fun b' _ hne=>setRow_other w _ b' _ hne)
               have s2:=s1.setL (d:=d) (v:=.c (.sp s.nx 0 (len+m) td.es)) (Nat.lt_succ_self _) (blt_lt hbd)
               simp only [denV,den,q1,q2,Nat.zero_mul,Nat.sub_zero] at s2
               refine wp_value (lift e1' hr) ⟨E',F,?_⟩
               rw [hd]
               exact s2
              ·obtain ⟨nc,rest,g1,g2,g3⟩:=run_app_grow (P:=X.P) (t2:=t2) (ty:=o.type) (w:=w) hu2 (htt.get ht) b1 (base:=some ⟨E.β k,0,none⟩) (len:=len) (cap:=capOf (E.ρ k)) (ms:=cs.map (den E)) n3 (fun w' hw=>by
                 simp only [Builtin.firstCells]
                 rw [f2,← List.length_map (f:=den E) (as:=cs)]
                 exact run_loadCells_list w' _ _ fun j u hj=>by
                  rw [addr_add,cell_at (by rw [hw];exact hh),Nat.zero_add]
                  rw [List.getElem?_map,Option.map_eq_some_iff] at hj
                  obtain ⟨c,hc,rfl⟩:=hj
                  exact hpre j c hc) n5 (by rw [List.length_map,f2]) (by rw [List.length_map,n1]) (by omega) c4 b3
               have hwsz:(w.drew.alloc (.cells ((cs.map (den E)).toArray++(ns.map (den E)).toArray++rest) td.el)).heap=w.heap.push (.cells ((cs.map (den E)).toArray++(ns.map (den E)).toArray++rest) td.el):=rfl
               obtain ⟨E',q1,q2,s1⟩:=hs.movArr (b:=w.heap.size) (κ:=nc) (cs':=cs++ns) (fz:=(0,0)) (w2:=w.drew.alloc (.cells ((cs.map (den E)).toArray++(ns.map (den E)).toArray++rest) td.el)) hM hkb (heap_alloc_new w.drew _) (.inr (Nat.le_refl _)) (fun j c hj=>by
                 by_cases hlt:j < cs.length
                 ·rw [List.getElem?_append_left hlt] at hj
                  rw [Array.getElem?_append_left (by simp;omega),Array.getElem?_append_left (by simpa using hlt)]
                  simp [hj]
                 ·rw [List.getElem?_append_right (by omega)] at hj
                  have hl2:=(List.getElem?_eq_some_iff.1 hj).1
                  rw [Array.getElem?_append_left (by simp;omega),Array.getElem?_append_right (by simp;omega)]
                  simp [hj])
                (by rw [hcnl];exact Nat.mul_le_mul_right _ g1) g2 he (thaw_zero _) rfl rfl rfl (by rw [hwsz];simp) (fun b' hb' _=>by rw [hwsz,Array.getElem?_push,if_neg (Nat.ne_of_lt hb')])
               have s2:=s1.setL (d:=d) (v:=.c (.sp s.nx 0 (len+m) td.es)) (Nat.lt_succ_self _) (blt_lt hbd)
               simp only [denV,den,q1,q2,Nat.zero_mul,Nat.sub_zero] at s2
               refine wp_value (lift e1' g3) ⟨E',F,?_⟩
               rw [hd]
               rw [show MO.arr (cs++ns) td.es el=MO.arr (cs++ns) td.es td.el by rw [c5]]
               exact s2
            ·cases h
       ·cases h
      ·cases h
    ·cases h
   ·cases h
  ·cases h
 ·cases h
end
end Go.Kx
end
section
namespace Go.Kx
def xvIdxG (tt:List (Nat × TD)) (s:St) (t:TypeId) (x ix:Operand):Option SV:=match look tt t with
 | some d=>match look tt d.el with
  | some de=>match evalO s.L ix with
   | some (.c (.i _ n))=>match evalO s.L x with
    | some (.a cs)=>bif Nat.beq d.kd 5 && inB n d.n then loadC de (n.toNat * d.es) cs else none
    | _=>none
   | _=>none
  | none=>none
 | none=>none
def ptrOf (P:Program) (t:TypeId):Option TypeId:=match P.underlying t with
 | some (.pointer e)=>some e
 | _=>none
def unsT (P:Program) (t:TypeId):Bool:=match P.underlying t with
 | some .unsafePointer=>true
 | _=>false
def hasSz (P:Program) (t:TypeId):Bool:=match P.info? t with
 | some i=>Nat.blt 0 i.size
 | none=>false
def xvPtr (P:Program) (s:St) (op:BinOp) (t:TypeId) (x y:Operand):Option SV:=match ptrOf P t with
 | some e=>match evalO s.L x with
  | some (.c vx)=>match evalO s.L y with
   | some (.c vy)=>match vx,vy with
    | .v (.pointer none),.v (.pointer none)=>eqO op true
    | .bp _ _,.v (.pointer none)=>eqO op false
    | .v (.pointer none),.bp _ _=>eqO op false
    | .bp k i,.bp k' j=>bif Nat.beq k k' && Nat.beq i j && hasSz P e then eqO op true else none
    | _,_=>none
   | _=>none
  | _=>none
 | none=>none
def xvUns (P:Program) (s:St) (t u:TypeId) (x:Operand):Option SV:=match evalO s.L x with
 | some (.c (.bp k off))=>match look s.M k with
  | some (.box cs ty)=>match ptrOf P t with
   | some e=>bif unsT P u && hasSz P e && Nat.blt off cs.length then some (.c (.bp k off)) else none
   | none=>match ptrOf P u with
    | some e=>bif unsT P t && hasSz P e && liesAt P P.depth ty (cs.length / P.cellsOf ty) off e 1 then some (.c (.bp k off)) else none
    | none=>none
  | _=>none
 | _=>none
def xvBuil (tt:List (Nat × TD)) (s:St) (b:Builtin) (args:List Operand) (ts:List TypeId):Option SV:=match b,args,ts with
 | .cap,[x],[t]=>match look tt t with
  | some d=>match evalO s.L x with
   | some (.c .nil)=>bif Nat.beq d.kd 6 then some (.c (.i .i64 0)) else none
   | _=>none
  | none=>none
 | .unsafeSliceData,[x],_=>match evalO s.L x with
  | some (.c .nil)=>some (.c (.v (.pointer none)))
  | some (.c (.sp k i n es))=>bif Nat.blt 0 n && xlen s.M k i n es then some (.c (.bp k (i * es))) else none
  | _=>none
 | .unsafeString,[x,y],[_,_]=>match evalO s.L x with
  | some (.c vx)=>match evalO s.L y with
   | some (.c (.i .i64 n))=>bif decide (n=0) then (match vx with
    | .bp _ _=>some (.c (.s .empty))
    | .v (.pointer none)=>some (.c (.s .empty))
    | _=>none) else none
   | _=>none
  | _=>none
 | _,_,_=>none
def xval2 (P:Program) (tt:List (Nat × TD)) (s:St) (op:Op):Option SV:=match xval P tt s op with
 | some v=>some v
 | none=>match op with
  | .index t x ix=>xvIdxG tt s t x ix
  | .binOp op t x y _=>xvPtr P s op t x y
  | .convert t u x=>xvUns P s t u x
  | .call c=>match c.callee with
   | .builtin b=>xvBuil tt s b c.args.toList c.argTypes.toList
   | _=>none
  | _=>none
section
variable {X:Ctx} {s:St} {E:Env} {F:FSet} {w:World} {a:Act} {tt:List (Nat × TD)} {o:Oper}
theorem run_part' {P:Program} {t:TypeId} {d:TD} {cs:List SC} {off:Nat} {v:SV} (htd:TD.Ok P t d) (h:loadC d off cs=some v) (w:World) (E:Env):(part t (cs.map (den E)).toArray off).run P w=.ok (denV E v) w:=by
 obtain ⟨ds,hu⟩:=htd.und
 unfold loadC at h
 simp only [part,Sem.run_bind,run_isAgg' w hu,htd.agg,Result.andThen_ok]
 cases hg:d.ag with
 | true =>
  rw [hg] at h
  simp only [cond_true] at h
  cases hn:Nat.beq ((cs.drop off).take d.sz).length d.sz with
  | false=>rw [hn] at h;cases h
  | true =>
   rw [hn] at h
   cases h
   simp only [if_true,Sem.run_bind,run_sizeOf' w htd,Result.andThen_ok,Sem.run_pure,denV]
   congr 2
   apply Array.ext'
   simp [List.map_drop,List.map_take,List.take_drop]
 | false =>
  rw [hg] at h
  simp only [cond_false] at h
  cases hc:cs[off]? with
  | none=>rw [hc] at h;cases h
  | some c =>
   rw [hc] at h
   cases h
   simp [hc,denV]
theorem xvIdxG_ok (htt:TTOk X.P tt) (hs:Sat X s E F w a) {t:TypeId} {x ix:Operand} {v:SV} (ho:o.op=.index t x ix) (h:xvIdxG tt s t x ix=some v) :
  (execOp a.eval o).run X.P w=.ok (.value (denV E v)) w∧v.kb s.nx:=by
 unfold xvIdxG at h
 split at h
 ·rename_i d hd
  split at h
  ·rename_i de hde
   split at h
   ·rename_i ik n hi
    obtain ⟨e2,_⟩:=hs.eval hi
    split at h
    ·rename_i cs hx
     obtain ⟨e1,k1⟩:=hs.eval hx
     cases hb:(Nat.beq d.kd 5 && inB n d.n) with
     | false=>rw [hb] at h;cases h
     | true =>
      rw [hb] at h
      simp only [cond_true] at h
      simp only [Bool.and_eq_true] at hb
      obtain ⟨h4,h5⟩:=inB_ok hb.2
      obtain ⟨hu,hz⟩:=(htt.get hd).arr hb.1
      refine ⟨?_,loadC_kb h k1⟩
      simp only [execOp,ho,e1,e2,denV,den]
      refine exec_v ?_
      simp only [Instr.index,asIntOf,Sem.run_bind,Sem.run_pure,Result.andThen_ok,run_underlying' hu,h4,h5,and_self,if_true,hz]
      exact run_part' (htt.get hde) h w E
    ·cases h
   ·cases h
  ·cases h
 ·cases h
theorem ptrOf_ok {P:Program} {t e:TypeId} (h:ptrOf P t=some e):P.underlying t=some (.pointer e):=by
 unfold ptrOf at h
 split at h
 ·rename_i hu;cases h;exact hu
 ·cases h
theorem unsT_ok {P:Program} {t:TypeId} (h:unsT P t=true):P.underlying t=some .unsafePointer:=by
 unfold unsT at h
 split at h
 ·rename_i hu;exact hu
 ·cases h
theorem hasSz_ok {P:Program} {t:TypeId} (h:hasSz P t=true):∃ i,P.info? t=some i∧i.size≠0:=by
 unfold hasSz at h
 split at h
 ·rename_i i hi;exact ⟨i,hi,Nat.ne_of_gt (blt_lt h)⟩
 ·cases h
theorem xvPtr_ok (hs:Sat X s E F w a) {op:BinOp} {t yt:TypeId} {x y:Operand} {v:SV} (ho:o.op=.binOp op t x y yt) (h:xvPtr X.P s op t x y=some v) :
  (execOp a.eval o).run X.P w=.ok (.value (denV E v)) w∧v.kb s.nx:=by
 unfold xvPtr at h
 split at h
 ·rename_i e he
  have hu:=ptrOf_ok he
  split at h
  ·rename_i vx hx
   obtain ⟨e1,k1⟩:=hs.eval hx
   split at h
   ·rename_i vy hy
    obtain ⟨e2,k2⟩:=hs.eval hy
    have go:∀ {b:Bool},(Op.equal t (den E vx) (den E vy)).run X.P w=.ok b w→eqO op b=some v→(∀ op,(eqGuard op t x y (den E vx) (den E vy)).run X.P w=.ok () w) →
      binOp .eql t (den E vx) (den E vy)=(do pure (Value.bool (← Op.equal t (den E vx) (den E vy))))→binOp .neq t (den E vx) (den E vy)=(do pure (Value.bool (!(← Op.equal t (den E vx) (den E vy))))) →
      (execOp a.eval o).run X.P w=.ok (.value (denV E v)) w∧v.kb s.nx:=fun {b} hq h hg h1 h2=>by
     obtain ⟨g1,g2⟩:=eqO_run (E:=E) (x:=x) (y:=y) hq h hg h1 h2
     refine ⟨?_,g2 _⟩
     simp only [execOp,ho,e1,e2]
     exact exec_v g1
    have q0:∀ {u v:Value} {b:Bool},(∀ d:Nat,(Op.equalIn (d+1) t u v).run X.P w=.ok b w)→(Op.equal t u v).run X.P w=.ok b w:=fun hd=>hd 9999
    split at h
    ·exact go (b:=true) (q0 fun d=>by simp [den,Op.equalIn,run_underlying' hu]) h (fun op=>by unfold eqGuard;cases op<;>simp [den]) rfl rfl
    ·exact go (b:=false) (q0 fun d=>by simp [den,Op.equalIn,run_underlying' hu]) h (fun op=>by unfold eqGuard;cases op<;>simp [den]) rfl rfl
    ·exact go (b:=false) (q0 fun d=>by simp [den,Op.equalIn,run_underlying' hu]) h (fun op=>by unfold eqGuard;cases op<;>simp [den]) rfl rfl
    ·rename_i k i k' j
     cases hb:(Nat.beq k k' && Nat.beq i j && hasSz X.P e) with
     | false=>rw [hb] at h;cases h
     | true =>
      rw [hb] at h
      simp only [cond_true] at h
      simp only [Bool.and_eq_true] at hb
      have b1:=Nat.eq_of_beq_eq_true hb.1.1
      have b2:=Nat.eq_of_beq_eq_true hb.1.2
      obtain ⟨i',hi,hne⟩:=hasSz_ok hb.2
      subst b1 b2
      exact go (b:=true) (q0 fun d=>by simp [den,Op.equalIn,run_underlying' hu,sizeOf,typeInfo,hi,Go.run_sameAddr_same]) h (fun op=>by unfold eqGuard;cases op<;>simp [den]) rfl rfl
    ·cases h
   ·cases h
  ·cases h
 ·cases h
theorem xvUns_ok (hs:Sat X s E F w a) {t u:TypeId} {x:Operand} {v:SV} (ho:o.op=.convert t u x) (h:xvUns X.P s t u x=some v) :
  (execOp a.eval o).run X.P w=.ok (.value (denV E v)) w∧v.kb s.nx:=by
 unfold xvUns at h
 split at h
 ·rename_i k off hx
  obtain ⟨e1,k1⟩:=hs.eval hx
  split at h
  ·rename_i cs ty hm
   have hb:w.heap[E.β k]? = some (.cells (cs.map (den E)).toArray ty (0,0)):=hs.hM k _ hm
   have hsh:w.shape? (E.β k)=some (ty,cs.length):=by simp [World.shape?,hb]
   split at h
   ·rename_i e he
    have hp:=ptrOf_ok he
    cases hq:(unsT X.P u && hasSz X.P e && Nat.blt off cs.length) with
    | false=>rw [hq] at h;cases h
    | true =>
     rw [hq] at h;cases h
     simp only [Bool.and_eq_true] at hq
     obtain ⟨j,hj,hne⟩:=hasSz_ok hq.1.2
     refine ⟨?_,k1⟩
     simp only [execOp,ho,e1,denV,den]
     exact exec_v (Go.Lib.run_to_unsafe w ⟨E.β k,off,none⟩ hp (unsT_ok hq.1.1) hj hne hsh (blt_lt hq.2))
   ·split at h
    ·rename_i e he
     have hp:=ptrOf_ok he
     cases hq:(unsT X.P t && hasSz X.P e && liesAt X.P X.P.depth ty (cs.length / X.P.cellsOf ty) off e 1) with
     | false=>rw [hq] at h;cases h
     | true =>
      rw [hq] at h;cases h
      simp only [Bool.and_eq_true] at hq
      obtain ⟨j,hj,hne⟩:=hasSz_ok hq.1.2
      refine ⟨?_,k1⟩
      simp only [execOp,ho,e1,denV,den]
      exact exec_v (Go.Lib.run_from_unsafe w ⟨E.β k,off,none⟩ (unsT_ok hq.1.1) hp hj hsh hq.2)
    ·cases h
  ·cases h
 ·cases h
theorem xvBuil_ok (htt:TTOk X.P tt) (hs:Sat X s E F w a) {b:Builtin} {args:Array Operand} {ts:Array TypeId} {v:SV} (ho:o.op=.call { callee:=.builtin b,args:=args,argTypes:=ts })
  (h:xvBuil tt s b args.toList ts.toList=some v):(execOp a.eval o).run X.P w=.ok (.value (denV E v)) w∧v.kb s.nx:=by
 unfold xvBuil at h
 split at h
 ·rename_i x t hargs hts
  have e1:args=#[x]:=by apply Array.ext';rw [hargs]
  have e2:ts=#[t]:=by apply Array.ext';rw [hts]
  subst e1 e2
  split at h
  ·rename_i d hd
   split at h
   ·rename_i hx
    obtain ⟨q1,_⟩:=hs.eval hx
    cases hb:Nat.beq d.kd 6 with
    | false=>rw [hb] at h;cases h
    | true =>
     rw [hb] at h;cases h
     obtain ⟨e,hu,_⟩:=(htt.get hd).sliceOf hb
     refine ⟨exec_call_builtin ho ?_,trivial⟩
     simp only [List.map_toArray,List.map_cons,List.map_nil,q1]
     refine exec_v ?_
     show (Builtin.cap_ #[t] o.type #[.slice none 0 0]).run X.P w=_
     simp [Builtin.cap_,run_underlying' hu,denV,den,goInt]
   ·cases h
  ·cases h
 ·rename_i x hargs
  have e1:args=#[x]:=by apply Array.ext';rw [hargs]
  subst e1
  split at h
  ·rename_i hx
   obtain ⟨q1,_⟩:=hs.eval hx
   cases h
   refine ⟨exec_call_builtin ho ?_,rfl⟩
   simp only [List.map_toArray,List.map_cons,List.map_nil,q1]
   refine exec_v ?_
   exact Go.Lib.run_unsafeSliceData_nil (P:=X.P) w ts o.type 0 0
  ·rename_i k i n es hx
   obtain ⟨q1,k1⟩:=hs.eval hx
   cases hb:(Nat.blt 0 n && xlen s.M k i n es) with
   | false=>rw [hb] at h;cases h
   | true =>
    rw [hb] at h;cases h
    rw [Bool.and_eq_true] at hb
    have h0:=blt_lt hb.1
    have hl:=xlen_ok hs hb.2
    refine ⟨exec_call_builtin ho ?_,k1⟩
    simp only [List.map_toArray,List.map_cons,List.map_nil,q1]
    refine exec_v ?_
    exact Go.Lib.run_unsafeSliceData_row (P:=X.P) w ts o.type ⟨E.β k,i * es,none⟩ n (capOf (E.ρ k)-i) (by omega)
  ·cases h
 ·rename_i x y t1 t2 hargs hts
  have e1:args=#[x,y]:=by apply Array.ext';rw [hargs]
  have e2:ts=#[t1,t2]:=by apply Array.ext';rw [hts]
  subst e1 e2
  split at h
  ·rename_i vx hx
   obtain ⟨q1,kq1⟩:=hs.eval hx
   split at h
   ·rename_i n hy
    obtain ⟨q2,kq2⟩:=hs.eval hy
    cases hb:decide (n=0) with
    | false=>rw [hb] at h;cases h
    | true =>
     rw [hb] at h
     simp only [cond_true] at h
     have hn:n=0:=of_decide_eq_true hb
     subst hn
     split at h
     ·rename_i k off
      cases h
      refine ⟨exec_call_builtin ho ?_,trivial⟩
      simp only [List.map_toArray,List.map_cons,List.map_nil,q1,q2]
      refine exec_v ?_
      exact Go.Lib.run_unsafeString_none (P:=X.P) w t1 t2 o.type (some ⟨E.β k,off,none⟩)
     ·cases h
      refine ⟨exec_call_builtin ho ?_,trivial⟩
      simp only [List.map_toArray,List.map_cons,List.map_nil,q1,q2]
      refine exec_v ?_
      exact Go.Lib.run_unsafeString_none (P:=X.P) w t1 t2 o.type none
     ·cases h
   ·cases h
  ·cases h
 ·cases h
theorem xval2_ok (htt:TTOk X.P tt) (hs:Sat X s E F w a) {v:SV} (h:xval2 X.P tt s o.op=some v):(execOp a.eval o).run X.P w=.ok (.value (denV E v)) w∧v.kb s.nx:=by
 unfold xval2 at h
 split at h
 ·rename_i v' hv;cases h;exact xval_ok htt hs hv
 ·split at h
  ·rename_i ho;exact xvIdxG_ok htt hs ho h
  ·rename_i ho;exact xvPtr_ok hs ho h
  ·rename_i ho;exact xvUns_ok hs ho h
  ·rename_i c ho
   obtain ⟨callee,args,ts⟩:=c
   simp only [] at h
   split at h
   ·exact xvBuil_ok htt hs ho h
   ·cases h
  ·cases h
end
end Go.Kx
end
section
namespace Go.Kx
def setdN (n:Nat) (o:Oper) (s:St) (v:SV):Option St:=match o.dst with
 | some d=>bif Nat.blt d n then some ⟨(d,v)::s.L,s.M,s.V,s.nx⟩ else none
 | none=>some s
def minN (m n:Nat):Nat:=bif Nat.ble m n then m else n
theorem minN_eq (m n:Nat):minN m n=Nat.min m n:=by
 unfold minN
 cases h:Nat.ble m n with
 | true=>have:=Nat.le_of_ble_eq_true h;simp only [cond_true];exact (Nat.min_eq_left this).symm
 | false =>
  have:¬ m≤n:=fun hc=>by rw [Nat.ble_eq_true_of_le hc] at h;cases h
  simp only [cond_false];exact (Nat.min_eq_right (by omega)).symm
def xeCopy (tt:List (Nat × TD)) (nt:Nat) (o:Oper) (s:St) (x y:Operand) (t:TypeId):Option St:=match look tt t with
 | some td=>match evalO s.L y with
  | some (.c src)=>match srcC s td.es src with
   | some (m,ns)=>bif Nat.beq td.kd 6 then (match evalO s.L x with
    | some (.c .nil)=>setdN nt o s (.c (.i .i64 (0:Nat)))
    | some (.c (.sp k i len es))=>match look s.M k with
     | some (.arr cs es' ty)=>bif Nat.beq es td.es && Nat.beq es' td.es && Nat.ble ((i+len) * es) cs.length then
       setdN nt o ⟨s.L,(k,.arr (cs.take (i * es)++ns.take (minN m len * es)++cs.drop (i * es+(ns.take (minN m len * es)).length)) es' ty)::s.M,s.V,s.nx⟩ (.c (.i .i64 (minN m len:Nat))) else none
     | _=>none
    | _=>none) else none
   | none=>none
  | _=>none
 | none=>none
def u8Of:SC→Option UInt8
 | .i .u8 z=>bif decide (((UInt8.ofNat z.toNat).toNat:Int)=z) then some (UInt8.ofNat z.toNat) else none
 | _=>none
def u8sOf:List SC→Option (List UInt8)
 | []=>some []
 | c::r=>match u8Of c with
  | some b=>match u8sOf r with
   | some l=>some (b::l)
   | none=>none
  | none=>none
theorem u8Of_ok {c:SC} {b:UInt8} (h:u8Of c=some b) (E:Env):den E c=.int .u8 b.toNat:=by
 unfold u8Of at h
 split at h
 ·rename_i z
  cases hb:decide (((UInt8.ofNat z.toNat).toNat:Int)=z) with
  | false=>rw [hb] at h;cases h
  | true =>
   rw [hb] at h;cases h
   have:=of_decide_eq_true hb
   rw [this];rfl
 ·cases h
theorem u8sOf_ok:∀ {cs:List SC} {l:List UInt8},u8sOf cs=some l→l.length=cs.length∧∀ (j:Nat) (b:UInt8),l[j]? = some b→∃ c,cs[j]? = some c∧u8Of c=some b
 | [],l,h=>by cases h;exact ⟨rfl,fun j b hj=>by simp at hj⟩
 | c::r,l,h=>by
  unfold u8sOf at h
  cases hc:u8Of c with
  | none=>rw [hc] at h;cases h
  | some b =>
   rw [hc] at h
   simp only [] at h
   cases hr:u8sOf r with
   | none=>rw [hr] at h;cases h
   | some l' =>
    rw [hr] at h
    cases h
    obtain ⟨h1,h2⟩:=u8sOf_ok hr
    refine ⟨by simp [h1],fun j b' hj=>?_⟩
    cases j with
    | zero=>simp at hj;subst hj;exact ⟨c,rfl,hc⟩
    | succ j=>exact h2 j b' (by simpa using hj)
def xeUS (P:Program) (nt:Nat) (o:Oper) (s:St) (x y:Operand) (pt:TypeId):Option St:=match ptrOf P pt with
 | some e=>match evalO s.L x with
  | some (.c (.bp k 0))=>match evalO s.L y with
   | some (.c (.i .i64 n))=>match look s.M k with
    | some (.arr cs _ ty)=>bif decide (0 < n) && Nat.ble n.toNat cs.length && Nat.beq ty e && Nat.beq (P.cellsOf e) 1 && decide (n≤9223372036854775807) then (match u8sOf (cs.take n.toNat) with
     | some l=>setd nt o ⟨s.L,(k,.gone)::s.M,s.V,s.nx⟩ (.c (.s ⟨l.toArray⟩))
     | none=>none) else none
    | _=>none
   | _=>none
  | _=>none
 | none=>none
def arrTy (P:Program) (t:TypeId):TypeId:=match ptrOf P t with
 | some e=>e
 | none=>t
def xeArr (P:Program) (tt:List (Nat × TD)) (nt:Nat) (o:Oper) (s:St) (t:TypeId) (x:Operand):Option St:=match look tt (arrTy P t) with
 | some d=>match evalO s.L x with
  | some (.c (.bp k 0))=>match look s.M k with
   | some (.box cs ty)=>bif Nat.beq d.kd 5 && Nat.beq cs.length (d.n * d.es) && Nat.blt 0 d.es && Nat.blt 0 d.n then (match o.dst with
    | some dd=>bif Nat.blt dd nt then some ⟨(dd,.c (.sp s.nx 0 d.n d.es))::s.L,(s.nx,.arr cs d.es ty)::(k,.gone)::s.M,s.V,s.nx+1⟩ else none
    | none=>none) else none
   | _=>none
  | _=>none
 | none=>none
section
variable {X:Ctx} {s s':St} {E:Env} {F:FSet} {w:World} {a:Act} {tt:List (Nat × TD)} {o:Oper}
theorem setdN_wp {v:SV} {w':World} (hs':Sat X s E F w' a) (h:setdN X.fn.ntmps o s v=some s') (hv:v.kb s.nx) (hrun:(execOp a.eval o).run X.P w=.ok (.value (denV E v)) w') :
  o.wp X.P a w (fun a' w'=>∃ E' F',Sat X s' E' F' w' a') (fun _ _ _=>False):=by
 unfold setdN at h
 split at h
 ·rename_i d hd
  cases hb:Nat.blt d X.fn.ntmps with
  | false=>rw [hb] at h;cases h
  | true =>
   rw [hb] at h;cases h
   refine wp_value hrun ⟨E,F,?_⟩
   rw [hd]
   exact hs'.setL hv (blt_lt hb)
 ·rename_i hd
  cases h
  refine wp_value hrun ⟨E,F,?_⟩
  rw [hd]
  exact hs'
theorem xeCopy_ok (htt:TTOk X.P tt) {x y:Operand} {t t2:TypeId} (ho:o.op=.call { callee:=.builtin .copy,args:=#[x,y],argTypes:=#[t,t2] }) (h:xeCopy tt X.fn.ntmps o s x y t=some s'):Stp X o s s':=by
 intro E F w a hs
 unfold xeCopy at h
 split at h
 ·rename_i td ht
  split at h
  ·rename_i src hy
   split at h
   ·rename_i m ns hsc
    cases hb:Nat.beq td.kd 6 with
    | false=>rw [hb] at h;cases h
    | true =>
     rw [hb] at h
     simp only [cond_true] at h
     obtain ⟨e2,_⟩:=hs.eval hy
     obtain ⟨n1,n2,n3,n4⟩:=srcC_ok hs hsc
     obtain ⟨_,hu,hi,hsz,_⟩:=(htt.get ht).slc hb
     have hz:∀ w',(sizeOf td.el).run X.P w'=.ok td.es w':=fun w'=>by simp [sizeOf,typeInfo,hi,hsz]
     have lift:∀ {vx v:Value} {w':World},a.eval x=vx→(Builtin.copy_ #[t,t2] o.type #[vx,den E src]).run X.P w=.ok v w'→(execOp a.eval o).run X.P w=.ok (.value v) w':=fun hx hr=>by
      refine exec_call_builtin ho ?_
      simp only [List.map_toArray,List.map_cons,List.map_nil,hx,e2,denV]
      exact exec_v hr
     split at h
     ·rename_i hx
      obtain ⟨e1,_⟩:=hs.eval hx
      refine setdN_wp hs h trivial (lift e1 ?_)
      have h0:=n4 0 w (Nat.zero_le _) rfl
      simp only [Nat.zero_mul,List.take_zero,List.map_nil] at h0
      show (Builtin.copy_ #[t,t2] o.type #[.slice none 0 0,den E src]).run X.P w=_
      have hmin:Nat.min m 0=0:=Nat.min_eq_right (Nat.zero_le _)
      have n3:=n3 w
      generalize den E src=vs at h0 n3 ⊢
      simp [Builtin.copy_,run_underlying' hu,n3,hz,h0,denV,den,goInt,hmin]
     ·rename_i k i len es hx
      obtain ⟨e1,k1⟩:=hs.eval hx
      split at h
      ·rename_i cs es' ty hM
       cases hc:(Nat.beq es td.es && Nat.beq es' td.es && Nat.ble ((i+len) * es) cs.length) with
       | false=>rw [hc] at h;cases h
       | true =>
        rw [hc] at h
        simp only [cond_true] at h
        simp only [Bool.and_eq_true] at hc
        obtain ⟨⟨c1,c2⟩,c3⟩:=hc
        have c1:=Nat.eq_of_beq_eq_true c1
        have c2:=Nat.eq_of_beq_eq_true c2
        have c3:=Nat.le_of_ble_eq_true c3
        subst c1
        subst c2
        have hle:minN m len≤len:=by rw [minN_eq];exact Nat.min_le_right _ _
        have hle2:minN m len≤m:=by rw [minN_eq];exact Nat.min_le_left _ _
        have hlen:(ns.take (minN m len * td.es)).length=minN m len * td.es:=by
         rw [List.length_take,n1];exact Nat.min_eq_left (Nat.mul_le_mul_right _ hle2)
        have hfit:i * td.es+(ns.take (minN m len * td.es)).length≤cs.length:=by
         rw [hlen,← Nat.add_mul];exact Nat.le_trans (Nat.mul_le_mul_right _ (by omega)) c3
        obtain ⟨w',hst,hs'⟩:=hs.storeArr hM hfit (fun c hc=>n2 c (List.mem_of_mem_take hc))
        refine setdN_wp (w:=w) hs' h trivial (lift e1 ?_)
        have h0:=n4 (minN m len) w hle2 rfl
        show (Builtin.copy_ #[t,t2] o.type #[.slice (some ⟨E.β k,i * td.es,none⟩) len (capOf (E.ρ k)-i),den E src]).run X.P w=_
        rw [minN_eq] at h0 hst ⊢
        rw [List.map_take] at hst
        have n3:=n3 w
        generalize den E src=vs at h0 n3 ⊢
        simp [Builtin.copy_,run_underlying' hu,n3,hz,h0,hst,denV,den,goInt]
      ·cases h
     ·cases h
   ·cases h
  ·cases h
 ·cases h
theorem xeUS_ok {x y:Operand} {pt it:TypeId} (ho:o.op=.call { callee:=.builtin .unsafeString,args:=#[x,y],argTypes:=#[pt,it] }) (h:xeUS X.P X.fn.ntmps o s x y pt=some s'):Stp X o s s':=by
 intro E F w a hs
 unfold xeUS at h
 split at h
 ·rename_i e he
  have hp:=ptrOf_ok he
  split at h
  ·rename_i k hx
   obtain ⟨e1,k1⟩:=hs.eval hx
   split at h
   ·rename_i n hy
    obtain ⟨e2,_⟩:=hs.eval hy
    split at h
    ·rename_i cs es ty hM
     cases hb:(decide (0 < n) && Nat.ble n.toNat cs.length && Nat.beq ty e && Nat.beq (X.P.cellsOf e) 1 && decide (n≤9223372036854775807)) with
     | false=>rw [hb] at h;cases h
     | true =>
      rw [hb] at h
      simp only [cond_true] at h
      simp only [Bool.and_eq_true,decide_eq_true_eq] at hb
      obtain ⟨⟨⟨⟨b1,b2⟩,b3⟩,b4⟩,b5⟩:=hb
      have b2:=Nat.le_of_ble_eq_true b2
      have b3:=Nat.eq_of_beq_eq_true b3
      have b4:=Nat.eq_of_beq_eq_true b4
      subst b3
      split at h
      ·rename_i l hl
       obtain ⟨hl1,hl2⟩:=u8sOf_ok hl
       have hln:l.length=n.toNat:=by rw [hl1,List.length_take];omega
       have hnn:(n.toNat:Int)=n:=Int.toNat_of_nonneg (by omega)
       obtain ⟨arr,el,fz,hh,hth,hpre,hcl,hca,hes,hty⟩:=(hs.hM k _ hM:MO.ok E F w k (.arr cs es ty))
       subst hty
       have hlt:E.β k < w.heap.size:=(Array.getElem?_eq_some_iff.1 hh).1
       have hsh:w.shape? (E.β k)=some (el,arr.size):=by simp [World.shape?,hh]
       have hrun:=Go.Lib.run_unsafeString_row (P:=X.P) w pt it o.type el hp b4 (E.β k) arr.size hsh l (fun e=>by subst e;simp at hln;omega) (by omega) (by omega) (fun j b hj=>by
        obtain ⟨c,hc,hcb⟩:=hl2 j b hj
        rw [List.getElem?_take] at hc
        split at hc
        ·rw [addr_add,cell_at hh,Nat.zero_add,hpre j c hc,u8Of_ok hcb E]
        ·cases hc)
       have hs':Sat X ⟨s.L,(k,.gone)::s.M,s.V,s.nx⟩ E F (w.freeze ⟨E.β k,0,none⟩ l.length) a :=
        hs.setM (m':=.gone) hM (by unfold World.freeze;split<;>rfl) (by unfold World.freeze;split<;>rfl) (by unfold World.freeze;split<;>rfl) (by unfold World.freeze;split<;>simp)
         (fun b' hb' hne=>by
          unfold World.freeze
          split
          ·rfl
          ·simp only [Array.getElem?_modify]
           rw [if_neg (fun e=>hne e.symm)]) (fun _ h=>h.elim) trivial trivial (fun h=>by cases h)
       refine setd_wp (w:=w) hs' h trivial ?_
       refine exec_call_builtin ho ?_
       simp only [List.map_toArray,List.map_cons,List.map_nil,e1,e2,denV,den]
       refine exec_v ?_
       have hnl:((l.length:Nat):Int)=n:=by rw [hln,hnn]
       rw [hnl] at hrun
       exact hrun
      ·cases h
    ·cases h
   ·cases h
  ·cases h
 ·cases h
theorem xeArr_ok (htt:TTOk X.P tt) {t:TypeId} {x:Operand} (ho:o.op=.slice t x none none none) (h:xeArr X.P tt X.fn.ntmps o s t x=some s'):Stp X o s s':=by
 intro E F w a hs
 unfold xeArr at h
 split at h
 ·rename_i d hd
  split at h
  ·rename_i k hx
   obtain ⟨e1,_⟩:=hs.eval hx
   split at h
   ·rename_i cs ty hM
    cases hb:(Nat.beq d.kd 5 && Nat.beq cs.length (d.n * d.es) && Nat.blt 0 d.es && Nat.blt 0 d.n) with
    | false=>rw [hb] at h;cases h
    | true =>
     rw [hb] at h
     simp only [cond_true] at h
     simp only [Bool.and_eq_true] at hb
     obtain ⟨⟨⟨b1,b2⟩,b3⟩,b4⟩:=hb
     have b2:=Nat.eq_of_beq_eq_true b2
     have b3:=blt_lt b3
     have b4:=blt_lt b4
     obtain ⟨hu,hz⟩:=(htt.get hd).arr b1
     split at h
     ·rename_i dd hdd
      cases hlt:Nat.blt dd X.fn.ntmps with
      | false=>rw [hlt] at h;cases h
      | true =>
       rw [hlt] at h;cases h
       have hbk:w.heap[E.β k]? = some (.cells (cs.map (den E)).toArray ty (0,0)):=hs.hM k _ hM
       obtain ⟨E',q1,q2,s1⟩:=hs.movBlk (b:=E.β k) (κ:=d.n) (cs':=cs) (es:=d.es) (fz:=(0,0)) (w2:=w) hM (fun _=>Iff.rfl) (hs.wf.hM k _ hM).2 hbk (.inl rfl)
        (fun j c hj=>by simp [hj]) (by rw [b2];exact Nat.le_refl _) (by simp [b2]) b3 (thaw_zero _) rfl rfl rfl (Nat.le_refl _) (fun _ _ _=>rfl)
       have s2:=s1.setL (d:=dd) (v:=.c (.sp s.nx 0 d.n d.es)) (Nat.lt_succ_self _) (blt_lt hlt)
       simp only [denV,den,q1,q2,Nat.zero_mul,Nat.sub_zero] at s2
       refine wp_value (w':=w) (v:=.slice (some ⟨E.β k,0,none⟩) d.n d.n) ?_ ⟨E',F,by rw [hdd];exact s2⟩
       simp only [execOp,ho,e1,denV,den,Option.map_none]
       refine exec_v ?_
       have h0:¬ (d.n=0):=by omega
       unfold arrTy at hu
       split at hu
       ·rename_i e he
        simp [Instr.sliceAt,Instr.sureAddr,Instr.slice,run_underlying' (ptrOf_ok he),run_underlying' hu,Instr.sliceBounds,hz,asAddr,h0,Addr.add]
       ·simp [Instr.sliceAt,Instr.sureAddr,run_underlying' hu,Instr.sliceBounds,hz,asAddr,h0,Addr.add]
     ·cases h
   ·cases h
  ·cases h
 ·cases h
end
end Go.Kx
end
section
namespace Go.Kx
abbrev Cal:=FuncId→List SV→List (Nat × MO)→List (Nat × VF)→Nat→Option (SV × List (Nat × MO) × List (Nat × VF) × Nat)
abbrev ctOf (args:List SV) (M:List (Nat × MO)) (V:List (Nat × VF)) (nx:Nat) (v:SV) (M':List (Nat × MO)) (V':List (Nat × VF)) (nx':Nat):Ct:=⟨nx,args,V,M,nx',v,V',M'⟩
def CalOk (P:Program) (call:Cal):Prop:=∀ f args M V nx v M' V' nx',call f args M V nx=some (v,M',V',nx')→Callable P f∧∀ E F w,St.Wf ⟨numL 0 args,M,V,nx⟩→(ctOf args M V nx v M' V' nx').Pre E F w →
 Calls P f (args.map (denV E)).toArray w fun e w'=>∃ E' F',e=.returned (denV E' v)∧(ctOf args M V nx v M' V' nx').Post E F w E' F' w'∧St.Wf ⟨[(0,v)],M',V',nx'⟩∧nx≤nx'
structure Xt where
 val:FuncId→List SV→Option SV
 mz:FuncId
 el:TypeId
def MzOk (P:Program) (f:FuncId) (el:TypeId):Prop:=∀ (n:Nat) (w:World),n≤4096→∃ arr:Array Value,(∀ j:Nat,(arr[j]!).oneCell'=true)∧n≤arr.size ∧
 (callFunc f #[.int .i64 n]).run P w=.ok (.value (.slice (some ⟨w.heap.size,0,none⟩) n arr.size)) (w.drew.drew.alloc (.cells arr el))
def ExtOk (P:Program) (ext:Xt):Prop:=MzOk P ext.mz ext.el∧∀ f svs v,ext.val f svs=some v→∀ (E:Env) (w:World),(callFunc f (svs.map (denV E)).toArray).run P w=.ok (.value (denV E v)) w∧∀ n,(∀ u∈svs,u.kb n)→v.kb n
def calS (nt:Nat) (o:Oper) (s:St):SV × List (Nat × MO) × List (Nat × VF) × Nat→Option St
 | (v,M',V',nx')=>match o.dst with
  | some d=>bif Nat.blt d nt then some ⟨(d,v)::s.L,M',V',nx'⟩ else none
  | none=>some ⟨s.L,M',V',nx'⟩
def keysFrom (nx:Nat):Nat→Nat→List SC
 | 0,_=>[]
 | n+1,j=>.sl (nx+j)::keysFrom nx n (j+1)
def xeMnz (el:TypeId) (nt:Nat) (o:Oper) (s:St) (as:List SV):Option St:=match as with
 | [.c (.i .i64 n)]=>bif decide (0≤n) && Nat.ble n.toNat 4096 then newA nt o ⟨s.L,s.M,s.V,s.nx+n.toNat⟩ (keysFrom s.nx n.toNat 0) n.toNat 1 el else none
 | _=>none
def xeCall (call:Cal) (ext:Xt) (nt:Nat) (o:Oper) (s:St) (cal:Operand) (args:Array Operand):Option St:=match evalO s.L cal with
 | some (.c (.cl f fs ks))=>match evalL s.L args.toList with
  | some vs=>match ext.val f (boxA fs++vs++boxA ks) with
   | some v=>setd nt o s v
   | none=>bif Nat.beq f ext.mz then xeMnz ext.el nt o s (boxA fs++vs++boxA ks) else (match call f (boxA fs++vs++boxA ks) s.M s.V s.nx with
    | some r=>calS nt o s r
    | none=>none)
  | none=>none
 | _=>none
def evOp (P:Program) (tt:List (Nat × TD)) (call:Cal) (ext:Xt) (nt:Nat) (o:Oper) (s:St):Option St:=match sil1 tt nt o s with
 | some s'=>some s'
 | none=>match xval2 P tt s o.op with
  | some v=>setd nt o s v
  | none=>match o.op with
   | .store t ad v=>xeStore tt o s t ad v
   | .buildSlice t len parts=>xeBuild tt nt o s t len parts
   | .makeSlice t x y=>xeMake tt nt o s t x y
   | .convert t u x=>xeBytes tt nt o s t u x
   | .slice t x none none none=>xeArr P tt nt o s t x
   | .call c=>match c.callee with
    | .value cal=>xeCall call ext nt o s cal c.args
    | .builtin .append=>match c.args.toList with
     | [x,y]=>match c.argTypes.toList with
      | [t,t2]=>xeApp tt nt o s x y t t2
      | _=>none
     | _=>none
    | .builtin .copy=>match c.args.toList with
     | [x,y]=>match c.argTypes.toList with
      | [t,_]=>xeCopy tt nt o s x y t
      | _=>none
     | _=>none
    | .builtin .unsafeString=>match c.args.toList with
     | [x,y]=>match c.argTypes.toList with
      | [t,_]=>xeUS P nt o s x y t
      | _=>none
     | _=>none
    | _=>none
   | _=>none
section
variable {X:Ctx} {s s':St} {E:Env} {F:FSet} {w:World} {a:Act} {tt:List (Nat × TD)} {o:Oper} {call:Cal} {ext:Xt}
theorem numL_kb {n:Nat}:∀ {l:List SV} {j:Nat},(∀ v∈l,v.kb n)→∀ d v,look (numL j l) d=some v→v.kb n:=fun {l j} h d v hl=>by
 obtain ⟨i,_,hi⟩:=look_numL l j d v hl
 exact h v (List.mem_of_getElem? hi)
theorem after_call {args:List SV} {v:SV} {M':List (Nat × MO)} {V':List (Nat × VF)} {nx':Nat} {E':Env} {F':FSet} {w':World} (hs:Sat X s E F w a) (h:calS X.fn.ntmps o s (v,M',V',nx')=some s')
  (hp:(ctOf args s.M s.V s.nx v M' V' nx').Post E F w E' F' w') (hwf:St.Wf ⟨[(0,v)],M',V',nx'⟩) (hle:s.nx≤nx'):Sat X s' E' F' w' (a.put o.dst (denV E' v)):=by
 have hv:v.kb nx':=hwf.hL 0 v rfl
 have hE:E.Eqb s.nx E':=hp.env
 have base:Sat X ⟨s.L,M',V',nx'⟩ E' F' w' a:={
  wf:=⟨fun d u hd=>(hs.wf.hL d u hd).mono hle,hwf.hM,hwf.hV⟩
  nk:=Nat.le_trans hs.nk hle
  defers:=hs.defers
  size:=hs.size
  hL:=fun d u hd=>by rw [denV_eqb hE (hs.wf.hL d u hd)];exact hs.hL d u hd
  hV:=hp.V
  hM:=hp.M
  dis:=hp.dis
  mF:=fun k m hm b hb=>by
   obtain ⟨h1,h2,h3⟩:=hp.mF k m hm b hb
   refine ⟨h1,fun hz=>?_,h2⟩
   rcases h3 with ⟨k0,m0,hm0,hb0⟩ | h3
   ·exact (hs.mF k0 m0 hm0 b hb0).2.1 hz
   ·have:=hs.hZ b hz;have:=hs.ext.size;omega
  fresh:=fun k m hm hf b hb=>Nat.le_trans hs.hn0 (Nat.le_trans hs.ext.size (hp.fresh k m hm hf b hb))
  hF:=hp.Fs
  hF0:=fun b hb=>hp.F0 b (hs.hF0 b hb)
  hn0:=hs.hn0
  hF1:=fun b hb=>by
   rcases hp.F1 b hb with h | h
   ·exact hs.hF1 b h
   ·have h1:=hs.ext.size;have h2:=hs.hn0;exact .inr ⟨by omega,fun hz=>by have:=hs.hZ b hz;omega⟩
  hZ:=hs.hZ
  ext:=hs.ext.trans (hp.ext.mono fun b hz=>⟨Nat.lt_of_lt_of_le (hs.hZ b hz) hs.ext.size,fun ⟨k0,m0,hm0,hb0⟩=>(hs.mF k0 m0 hm0 b hb0).2.1 hz⟩)
  link:=hs.link.trans (hE.mono hs.nk)
  one:=hp.one }
 unfold calS at h
 simp only [] at h
 split at h
 ·rename_i d hd
  cases hb:Nat.blt d X.fn.ntmps with
  | false=>rw [hb] at h;cases h
  | true =>
   rw [hb] at h;cases h
   rw [hd]
   exact base.setL hv (blt_lt hb)
 ·rename_i hd
  cases h
  rw [hd]
  exact base
theorem boxA_kb {n:Nat} {ks:List Nat} (h:∀ k∈ks,k < n):∀ v∈boxA ks,v.kb n:=fun v hv=>by
 obtain ⟨k,hk,rfl⟩:=List.mem_map.1 hv
 exact h k hk
theorem keysFrom_len (nx:Nat):∀ (n j:Nat),(keysFrom nx n j).length=n
 | 0,_=>rfl
 | n+1,j=>by simp [keysFrom,keysFrom_len nx n]
theorem keysFrom_get (nx:Nat):∀ (n j i:Nat) (x:SC),(keysFrom nx n j)[i]? = some x→i < n∧x=.sl (nx+(j+i))
 | 0,_,_,_,h=>by simp [keysFrom] at h
 | n+1,j,0,x,h=>by simp [keysFrom] at h;exact ⟨Nat.succ_pos _,h.symm⟩
 | n+1,j,i+1,x,h=>by
  have h:(keysFrom nx n (j+1))[i]? = some x:=by simpa [keysFrom] using h
  obtain ⟨h1,h2⟩:=keysFrom_get nx n (j+1) i x h
  exact ⟨by omega,by rw [h2];congr 2;omega⟩
theorem xeMnz_ok {f:FuncId} {el:TypeId} {as:List SV} (hz:MzOk X.P f el) (hs:Sat X s E F w a) (hrun:(execOp a.eval o).run X.P w=(callFunc f (as.map (denV E)).toArray).run X.P w) (h:xeMnz el X.fn.ntmps o s as=some s') :
  o.wp X.P a w (fun a' w'=>∃ E' F',Sat X s' E' F' w' a') (fun _ _ _=>False):=by
 unfold xeMnz at h
 split at h
 ·rename_i n
  cases hb:(decide (0≤n) && Nat.ble n.toNat 4096) with
  | false=>rw [hb] at h;cases h
  | true =>
   rw [hb] at h
   simp only [cond_true] at h
   rw [Bool.and_eq_true,decide_eq_true_eq] at hb
   have hnn:(n.toNat:Int)=n:=Int.toNat_of_nonneg hb.1
   generalize n.toNat=m at h hb hnn
   subst hnn
   obtain ⟨arr,h1,h2,h3⟩:=hz m w (Nat.le_of_ble_eq_true hb.2)
   have hE:E.Eqb s.nx ⟨fun j=>if s.nx≤j∧j < s.nx+m then arr[j-s.nx]! else E.ρ j,E.β⟩:=fun k hk=>by
    have:¬ (s.nx≤k∧k < s.nx+m):=by omega
    simp only [if_neg this,and_self]
   have s1:=hs.env hE (fun j=>by
    simp only []
    split
    ·exact h1 _
    ·exact hs.one j)
   have s2:=s1.nxt (Nat.le_add_right s.nx m)
   have hr:(execOp a.eval o).run X.P w=.ok (.value (.slice (some ⟨w.heap.size,0,none⟩) m arr.size)) (w.drew.drew.alloc (.cells arr el)):=by rw [hrun];exact h3
   refine newA_ok s2 h (fun x hx=>?_) hr (arr:=arr) (fz:=(0,0)) (fun j x hj=>?_) (by rw [keysFrom_len];omega) (by omega) Nat.one_pos (thaw_zero _) rfl rfl rfl rfl
   ·obtain ⟨i,hi⟩:=List.getElem?_of_mem hx
    obtain ⟨q1,q2⟩:=keysFrom_get _ _ _ _ _ hi
    rw [q2]
    show s.nx+(0+i) < s.nx+m
    omega
   ·obtain ⟨q1,q2⟩:=keysFrom_get _ _ _ _ _ hj
    subst q2
    have hlt:j < arr.size:=by omega
    show _=some (if s.nx≤s.nx+(0+j)∧s.nx+(0+j) < s.nx+m then arr[s.nx+(0+j)-s.nx]! else _)
    have e:s.nx+(0+j)-s.nx=j:=by omega
    rw [if_pos (by omega),e]
    simp [hlt]
 ·cases h
theorem xeCall_ok (hc:CalOk X.P call) (hx:ExtOk X.P ext) {cal:Operand} {args:Array Operand} {ts:Array TypeId} (ho:o.op=.call { callee:=.value cal,args:=args,argTypes:=ts })
  (h:xeCall call ext X.fn.ntmps o s cal args=some s'):Stp X o s s':=by
 intro E F w a hs
 unfold xeCall at h
 split at h
 ·rename_i f fs ks hcal
  split at h
  ·rename_i vs hvs
   obtain ⟨hev,hkb⟩:=evalL_ok hs hvs
   obtain ⟨hcv,hck⟩:=hs.eval hcal
   have hbox:∀ ks:List Nat,(boxA ks).map (denV E)=(denB E ks).toList:=fun ks=>by simp [boxA,denB,denV,den,Function.comp_def]
   have hargv:denB E fs++args.map a.eval++denB E ks=((boxA fs++vs++boxA ks).map (denV E)).toArray:=by
    apply Array.ext'
    rw [Array.toList_append,Array.toList_append,Array.toList_map,hev,← hbox,← hbox,← List.map_append,← List.map_append]
   have hall:∀ v∈boxA fs++vs++boxA ks,v.kb s.nx:=fun v hv=>by
    rcases List.mem_append.1 hv with hv | hv
    ·rcases List.mem_append.1 hv with hv | hv
     ·exact boxA_kb hck.1 v hv
     ·exact hkb v hv
    ·exact boxA_kb hck.2 v hv
   generalize boxA fs++vs++boxA ks=as at *
   split at h
   ·rename_i v hv
    obtain ⟨h1,h2⟩:=hx.2 f as v hv E w
    refine setd_wp hs h (h2 _ hall) ?_
    unfold execOp
    simp only [ho,resolve,hcv,denV,den,Deferred.ofValue,invoke,Sem.run_bind,Sem.run_pure,Result.andThen_ok]
    rw [hargv]
    exact h1
   ·cases hmz:Nat.beq f ext.mz with
    | true =>
     rw [hmz] at h
     simp only [cond_true] at h
     have hf:=Nat.eq_of_beq_eq_true hmz
     refine xeMnz_ok (f:=f) (by rw [hf];exact hx.1) hs ?_ h
     unfold execOp
     simp only [ho,resolve,hcv,denV,den,Deferred.ofValue,invoke,Sem.run_bind,Sem.run_pure,Result.andThen_ok]
     rw [hargv]
    | false =>
     rw [hmz] at h
     simp only [cond_false] at h
     split at h
     ·rename_i r hr
      obtain ⟨v,M',V',nx'⟩:=r
      obtain ⟨hcb,hcs⟩:=hc _ _ _ _ _ _ _ _ _ hr
      have hrun:(execOp a.eval o).run X.P w=.ok (.enter f (as.map (denV E)).toArray) w:=by
       unfold execOp
       simp only [ho,resolve,hcv,denV,den,Deferred.ofValue,invoke,Sem.run_bind,Sem.run_pure,Result.andThen_ok]
       rw [hargv]
       exact callFunc_run hcb _ w
      unfold Oper.wp
      rw [hrun]
      show Calls _ _ _ _ _
      refine (hcs E F w ⟨numL_kb hall,hs.wf.hM,hs.wf.hV⟩ ⟨hs.one,hs.hF,hs.hV,hs.hM,hs.dis,fun k m hm b hb=>⟨(hs.mF k m hm b hb).1,(hs.mF k m hm b hb).2.2⟩⟩).mono ?_
      rintro e w' ⟨E',F',rfl,hp,hwf,hle⟩
      exact ⟨E',F',after_call hs h hp hwf hle⟩
     ·cases h
  ·cases h
 ·cases h
theorem evOp_ok (htt:TTOk X.P tt) (hc:CalOk X.P call) (hx:ExtOk X.P ext) (h:evOp X.P tt call ext X.fn.ntmps o s=some s'):Stp X o s s':=by
 unfold evOp at h
 split at h
 ·rename_i s1 h1
  cases h
  exact sil1_ok htt h1
 ·split at h
  ·rename_i v hv
   exact Stp.val (fun E F w a hs=>xval2_ok htt hs hv) h
  ·split at h
   ·rename_i ho;exact xeStore_ok htt ho h
   ·rename_i ho;exact xeBuild_ok htt ho h
   ·rename_i ho;exact xeMake_ok htt ho h
   ·rename_i ho;exact xeBytes_ok htt ho h
   ·rename_i ho;exact xeArr_ok htt ho h
   ·rename_i c ho
    obtain ⟨callee,args,ts⟩:=c
    simp only [] at h
    split at h
    ·exact xeCall_ok hc hx ho h
    ·split at h
     ·rename_i x y hargs
      split at h
      ·rename_i t t2 hts
       have e1:args=#[x,y]:=by apply Array.ext';rw [hargs]
       have e2:ts=#[t,t2]:=by apply Array.ext';rw [hts]
       subst e1 e2
       exact xeApp_ok htt ho h
      ·cases h
     ·cases h
    ·split at h
     ·rename_i x y hargs
      split at h
      ·rename_i t t2 hts
       have e1:args=#[x,y]:=by apply Array.ext';rw [hargs]
       have e2:ts=#[t,t2]:=by apply Array.ext';rw [hts]
       subst e1 e2
       exact xeCopy_ok htt ho h
      ·cases h
     ·cases h
    ·split at h
     ·rename_i x y hargs
      split at h
      ·rename_i t t2 hts
       have e1:args=#[x,y]:=by apply Array.ext';rw [hargs]
       have e2:ts=#[t,t2]:=by apply Array.ext';rw [hts]
       subst e1 e2
       exact xeUS_ok ho h
      ·cases h
     ·cases h
    ·cases h
   ·cases h
end
end Go.Kx
end
section
namespace Go.Kx
def scEq:SC→SC→Bool
 | .i k n,.i k' n'=>decide (k=k') && decide (n=n')
 | .b x,.b y=>x==y
 | .s x,.s y=>decide (x.data.toList=y.data.toList)
 | .bp k o,.bp k' o'=>Nat.beq k k' && Nat.beq o o'
 | .sl k,.sl k'=>Nat.beq k k'
 | .nil,.nil=>true
 | .sp a b c d,.sp a' b' c' d'=>Nat.beq a a' && Nat.beq b b' && Nat.beq c c' && Nat.beq d d'
 | .cl f fs ks,.cl f' fs' ks'=>decide (f=f') && decide (fs=fs') && decide (ks=ks')
 | .v (.pointer none),.v (.pointer none)=>true
 | .v .nilFunc,.v .nilFunc=>true
 | _,_=>false
theorem scEq_ok {x y:SC} (h:scEq x y=true):x=y:=by
 unfold scEq at h
 split at h
 all_goals try simp only [Bool.and_eq_true,decide_eq_true_eq] at h
 ·rw [h.1,h.2]
 ·rw [eq_of_beq h]
 ·rename_i x y
  obtain ⟨⟨x⟩⟩:=x
  obtain ⟨⟨y⟩⟩:=y
  simp at h
  rw [h]
 ·rw [Nat.eq_of_beq_eq_true h.1,Nat.eq_of_beq_eq_true h.2]
 ·rw [Nat.eq_of_beq_eq_true h]
 ·rfl
 ·rw [Nat.eq_of_beq_eq_true h.1.1.1,Nat.eq_of_beq_eq_true h.1.1.2,Nat.eq_of_beq_eq_true h.1.2,Nat.eq_of_beq_eq_true h.2]
 ·rw [h.1.1,h.1.2,h.2]
 ·rfl
 ·rfl
 ·cases h
def lsEq:List SC→List SC→Bool
 | [],[]=>true
 | x::xs,y::ys=>scEq x y && lsEq xs ys
 | _,_=>false
theorem lsEq_ok:∀ {xs ys:List SC},lsEq xs ys=true→xs=ys
 | [],[],_=>rfl
 | x::xs,y::ys,h=>by
  simp only [lsEq,Bool.and_eq_true] at h
  rw [scEq_ok h.1,lsEq_ok h.2]
 | [],_::_,h=>by cases h
 | _::_,[],h=>by cases h
def tsEq:List (SC ⊕ List SC)→List (SC ⊕ List SC)→Bool
 | [],[]=>true
 | .inl x::xs,.inl y::ys=>scEq x y && tsEq xs ys
 | .inr x::xs,.inr y::ys=>lsEq x y && tsEq xs ys
 | _,_=>false
theorem tsEq_ok:∀ {xs ys:List (SC ⊕ List SC)},tsEq xs ys=true→xs=ys
 | [],[],_=>rfl
 | .inl x::xs,.inl y::ys,h=>by
  simp only [tsEq,Bool.and_eq_true] at h
  rw [scEq_ok h.1,tsEq_ok h.2]
 | .inr x::xs,.inr y::ys,h=>by
  simp only [tsEq,Bool.and_eq_true] at h
  rw [lsEq_ok h.1,tsEq_ok h.2]
 | [],_::_,h=>by cases h
 | .inl _::_,[],h=>by cases h
 | .inr _::_,[],h=>by cases h
 | .inl _::_,.inr _::_,h=>by cases h
 | .inr _::_,.inl _::_,h=>by cases h
def svEq:SV→SV→Bool
 | .c x,.c y=>scEq x y
 | .a x,.a y=>lsEq x y
 | .t x,.t y=>tsEq x y
 | .u,.u=>true
 | _,_=>false
theorem svEq_ok {x y:SV} (h:svEq x y=true):x=y:=by
 unfold svEq at h
 split at h
 ·rw [scEq_ok h]
 ·rw [lsEq_ok h]
 ·rw [tsEq_ok h]
 ·rfl
 ·cases h
def moEq:MO→MO→Bool
 | .box x t,.box y u=>lsEq x y && Nat.beq t u
 | .arr x t v,.arr y u v'=>lsEq x y && Nat.beq t u && Nat.beq v v'
 | .gone,.gone=>true
 | _,_=>false
theorem moEq_ok {x y:MO} (h:moEq x y=true):x=y:=by
 unfold moEq at h
 split at h
 all_goals try simp only [Bool.and_eq_true] at h
 ·rw [lsEq_ok h.1,Nat.eq_of_beq_eq_true h.2]
 ·rw [lsEq_ok h.1.1,Nat.eq_of_beq_eq_true h.1.2,Nat.eq_of_beq_eq_true h.2]
 ·rfl
 ·cases h
def svEqO:Option SV→SV→Bool
 | some x,y=>svEq x y
 | none,_=>false
def moEqO:Option MO→MO→Bool
 | some x,y=>moEq x y
 | none,_=>false
theorem svEqO_ok {x:Option SV} {y:SV} (h:svEqO x y=true):x=some y:=by
 cases x with
 | none=>cases h
 | some x=>rw [svEq_ok h]
theorem moEqO_ok {x:Option MO} {y:MO} (h:moEqO x y=true):x=some y:=by
 cases x with
 | none=>cases h
 | some x=>rw [moEq_ok h]
def subK {α:Type _} (p:Nat→Bool):List (Nat × α)→Nat→List (Nat × α)
 | [],_=>[]
 | (k,v)::r,seen=>bif p k && !(Nat.testBit seen k) then (k,v)::subK p r (Nat.lor seen (2 ^ k)) else subK p r seen
theorem subK_look {α:Type _} {p:Nat→Bool}:∀ {l:List (Nat × α)} {seen k:Nat} {v:α},look (subK p l seen) k=some v→look l k=some v∧Nat.testBit seen k=false∧p k=true
 | [],_,_,_,h=>by cases h
 | (j,u)::r,seen,k,v,h=>by
  unfold subK at h
  cases hb:(p j && !(Nat.testBit seen j)) with
  | true =>
   rw [hb] at h
   simp only [cond_true] at h
   simp only [Bool.and_eq_true,Bool.not_eq_true'] at hb
   rw [look_cons] at h ⊢
   split at h
   ·rename_i e;cases h;subst e;simp [hb.1,hb.2]
   ·rename_i e
    obtain ⟨h1,h2,h3⟩:=subK_look h
    have h2':Nat.testBit (seen ||| 2 ^ j) k=false:=h2
    rw [Nat.testBit_or,Bool.or_eq_false_iff] at h2'
    rw [if_neg e]
    exact ⟨h1,h2'.1,h3⟩
  | false =>
   rw [hb] at h
   simp only [cond_false] at h
   obtain ⟨h1,h2,h3⟩:=subK_look h
   rw [look_cons]
   have:j≠k:=fun e=>by subst e;rw [h2,h3] at hb;cases hb
   rw [if_neg this]
   exact ⟨h1,h2,h3⟩
def scKeys:SC→List Nat
 | .bp k _ | .sp k _ _ _ | .sl k | .px k _=>[k]
 | .cl _ fs ks=>fs++ks
 | _=>[]
def lsKeys:List SC→List Nat
 | []=>[]
 | c::r=>scKeys c++lsKeys r
def svCs:SV→List SC
 | .c x=>[x]
 | .a cs=>cs
 | .t vs=>vs.flatMap fun v=>match v with | .inl x=>[x] | .inr cs=>cs
 | .u=>[]
def mark (M:List (Nat × MO)):Nat→List Nat→Nat→Nat
 | 0,_,m=>m
 | _+1,[],m=>m
 | n+1,k::r,m=>bif Nat.testBit m k then mark M n r m else match cellsAt M k with
  | some cs=>mark M n (lsKeys cs++r) (Nat.lor m (2 ^ k))
  | none=>mark M n r (Nat.lor m (2 ^ k))
def slots:List Operand→List Nat
 | []=>[]
 | .tmp t::r=>t::slots r
 | _::r=>slots r
def gSlot (ops:Array Oper) (o:Oper):List Nat:=match o.guard with
 | none=>[]
 | some (j,_)=>match ops[j]? with
  | some oj=>oj.dst.toList
  | none=>[]
def pickL (L:List (Nat × SV)):List Nat→List (Nat × SV)
 | []=>[]
 | d::r=>match look L d with
  | some v=>(d,v)::pickL L r
  | none=>pickL L r
def isCall:Op→Bool
 | .call c=>match c.callee with
  | .value _=>true
  | _=>false
 | _=>false
def chd (M M':List (Nat × MO)) (k:Nat):Bool:=match look M k with
 | some m=>match look M' k with
  | some m' => !(moEq m' m)
  | none=>true
 | none=>true
def dLof (o:Oper) (L:List (Nat × SV)):List (Nat × SV):=match o.dst with
 | some d=>match look L d with
  | some v=>[(d,v)]
  | none=>[]
 | none=>[]
section
variable (P:Program) (tt:List (Nat × TD)) (call:Cal) (ext:Xt) (nt:Nat) (ops:Array Oper)
def entE (o:Oper) (L:List (Nat × SV)) (M:List (Nat × MO)) (k0:Nat):Option Ent:=match evOp P tt call ext nt o ⟨L,M,[],k0⟩ with
 | some s1=>some ⟨L,[],M.filter (fun q=>chd M s1.M q.1),M.filter (fun q => !(chd M s1.M q.1)),k0,dLof o s1.L,[],(subK (fun k=>chd M s1.M k) s1.M 0),s1.nx⟩
 | none=>none
def entOf (i:Nat) (s:St):Option Ent:=match ops[i]? with
 | some o =>
  match pickL s.L (gSlot ops o++slots o.op.operands.toList) with
  | L=>match guardV ops L o with
   | some false=>(match o.dst with
    | some d=>bif Nat.blt d nt then some ⟨L,[],[],[],s.nx,[(d,.u)],[],[],s.nx⟩ else none
    | none=>some ⟨L,[],[],[],s.nx,[],[],[],s.nx⟩)
   | some true=>match L.flatMap (fun q=>lsKeys (svCs q.2)) with
    | ks=>match (bif isCall o.op then mark s.M 1000000 ks 0 else ks.foldl (fun m k=>Nat.lor m (2 ^ k)) 0) with
     | m=>match entE P tt call ext nt o L (subK (fun k=>Nat.testBit m k) s.M 0) s.nx with
      | some e=>bif Nat.beq e.dL.length o.dst.toList.length then some e else none
      | none=>none
   | none=>none
 | none=>none
def entsOf:List Nat→St→Option (List Ent)
 | [],_=>some []
 | i::r,s=>match entOf P tt call ext nt ops i s with
  | some e=>match entsOf r ⟨e.dL++s.L,e.dM++s.M,s.V,e.k1⟩ with
   | some es=>some (e::es)
   | none=>none
  | none=>none
def ancL:List Oper→List Nat→List Nat
 | [],acc=>acc
 | o::r,acc=>ancL r (acc++[ancF acc o.after.toList])
def needsB (ents:List Ent) (anc:List Nat) (s:St):Bool:=(List.range ents.length).all fun i =>
 (entA ents i).L.all (fun q=>svEqO (look (gath (fun j=>(entA ents j).dL) (ancB anc i) s.L ents.length) q.1) q.2) && (entA ents i).V.isEmpty &&
 ((entA ents i).W++(entA ents i).R).all (fun q=>moEqO (look (gath (fun j=>(entA ents j).dM) (ancB anc i) s.M ents.length) q.1) q.2)
def lastK (nx:Nat):List Ent→Nat
 | []=>nx
 | e::r=>lastK e.k1 r
def evDrawn (s:St):Option St:=match entsOf P tt call ext nt ops (List.range ops.size) s with
 | some es=>match ancL ops.toList [] with
  | anc=>match lastK s.nx es with
   | nx=>bif chkB ops es anc s.nx nx && needsB es anc s then some (stD es nx s fun _=>true) else none
 | none=>none
end
section
variable {X:Ctx} {s s':St} {tt:List (Nat × TD)} {o:Oper} {call:Cal} {ext:Xt} {ops:Array Oper}
theorem needsB_ok {ents:List Ent} {anc:List Nat} (h:needsB ents anc s=true):needs ents anc s=wants ents:=by
 unfold needs wants
 refine List.map_congr_left fun i hi=>?_
 have:=List.all_eq_true.1 h i hi
 simp only [Bool.and_eq_true] at this
 obtain ⟨⟨h1,h2⟩,h3⟩:=this
 have e1:(entA ents i).V=[]:=by simpa using h2
 simp only [Prod.mk.injEq]
 refine ⟨List.map_congr_left fun q hq=>svEqO_ok (List.all_eq_true.1 h1 q hq),by rw [e1];rfl,List.map_congr_left fun q hq=>moEqO_ok (List.all_eq_true.1 h3 q hq)⟩
theorem WP.regionE {ents:List Ent} {nx id:Nat} {k':List Item} (anc:List Nat) (hl:AllLS X ops 0 ents) (hm:X.P.follows .mixedOrders=true) (hc:chkB ops ents anc s.nx nx=true)
  (hN:needs ents anc s=wants ents) (h:WP X k' (stD ents nx s fun _=>true)):WP X (.code (.region id ops true)::k') s:=by
 intro E F w a hs
 have c:=chkB_ok hc
 refine runs_of_wp (wp_region_any hm ?_)
 have hs':Sat X s E F { w with drawn:=w.drawn+1 } a:=hs.world rfl rfl rfl (Nat.le_refl _) fun _ _=>rfl
 have hf:∀ j,(Array.replicate ops.size false).getD j false=false:=fun j=>by
  by_cases h:j < ops.size<;>simp [h]
 refine regionD_aux (todo:=rk X k') hl c hN hs.wf hs.nk (fun E F w a hs=>h E F w a hs) ops.size _ E F _ a (by simp)
  (fun i hi=>by rw [hf] at hi;cases hi) (by rw [c.size];exact cnt_false fun j _=>by rw [← c.size];exact hf j) ?_
 have:stD ents nx s (fun j=>(Array.replicate ops.size false).getD j false)=⟨s.L,s.M,s.V,nx⟩:=by
  rw [show (fun j=>(Array.replicate ops.size false).getD j false)=fun _=>false from funext hf]
  unfold stD
  rw [gath_false,gath_false,gath_false]
 rw [this]
 exact hs'.nxt c.nxle
theorem look_filter {α:Type _} {p:Nat→Bool}:∀ {l:List (Nat × α)} {k:Nat},look (l.filter fun q=>p q.1) k=bif p k then look l k else none
 | [],k=>by cases p k<;>rfl
 | (j,u)::r,k=>by
  rw [List.filter_cons]
  simp only []
  rw [look_cons]
  split
  ·rename_i hj
   rw [look_cons,look_filter]
   split
   ·rename_i e;subst e;rw [hj];rfl
   ·rfl
  ·rename_i hj
   rw [look_filter]
   split
   ·rename_i e;subst e;simp only [Bool.not_eq_true] at hj;rw [hj];rfl
   ·rfl
theorem dLof_ok {L:List (Nat × SV)} (h:(dLof o L).length=o.dst.toList.length):(dLof o L).map (·.1)=o.dst.toList∧∀ d v,look (dLof o L) d=some v→look L d=some v:=by
  unfold dLof at *
  split
  · rename_i d hd
    split
    · rename_i v hv
      refine ⟨by rw [hd];rfl,fun d' v' h'=>?_⟩
      rw [look_cons] at h'
      split at h'
      · rename_i e;cases h';subst e;exact hv
      · cases h'
    · rename_i hv
      rw [hd] at h
      simp [hv] at h
  · rename_i hd;exact ⟨by rw [hd];rfl,fun d v h'=>by cases h'⟩
theorem entE_ok (htt:TTOk X.P tt) (hc:CalOk X.P call) (hx:ExtOk X.P ext) {L:List (Nat × SV)} {M:List (Nat × MO)} {k0:Nat} {e:Ent} (h:entE X.P tt call ext X.fn.ntmps o L M k0=some e)
    (hlen:e.dL.length=o.dst.toList.length):e.dL.map (·.1)=o.dst.toList∧e.L=L∧∀ nk E0 F0 w0 n0 Z E F w a,Sat (X.var nk E0 F0 w0 n0 Z) e.s E F w a →
      o.wp X.P a w (fun a' w'=>∃ E' F',Sat (X.var nk E0 F0 w0 n0 Z) e.s' E' F' w' a') (fun _ _ _=>False):=by
  unfold entE at h
  split at h
  · rename_i s1 h1
    cases h
    obtain ⟨g1,g2⟩:=dLof_ok hlen
    refine ⟨g1,rfl,fun nk E0 F0 w0 n0 Z E F w a hs=>?_⟩
    have hs1:Sat (X.var nk E0 F0 w0 n0 Z) ⟨L,M,[],k0⟩ E F w a:=hs.weaken rfl (fun d v h=>h) (fun k m hk=>by
      show look (M.filter (fun q=>chd M s1.M q.1)++M.filter (fun q => !(chd M s1.M q.1))) k=some m
      rw [look_append,look_filter (p:=fun k=>chd M s1.M k),look_filter (p:=fun k => !(chd M s1.M k))]
      cases hq:chd M s1.M k with
      | true=>simp only [cond_true];rw [show look M k=some m from hk]
      | false=>simp only [cond_false,Bool.not_false,cond_true];exact hk) (fun d v h=>h)
    refine Oper.wp_imp (fun a' w' hq=>?_) (evOp_ok (X:=X.var nk E0 F0 w0 n0 Z) htt hc hx h1 E F w a hs1)
    obtain ⟨E',F',hs2⟩:=hq
    refine ⟨E',F',hs2.weaken rfl g2 (fun k m hk=>?_) (fun d v h=>by cases h)⟩
    have hk:look (subK (fun k=>chd M s1.M k) s1.M 0++M.filter (fun q => !(chd M s1.M q.1))) k=some m:=hk
    rw [look_append] at hk
    split at hk
    · rename_i v hv;cases hk;exact (subK_look hv).1
    · rw [look_filter (p:=fun k => !(chd M s1.M k))] at hk
      cases hq:chd M s1.M k with
      | true=>rw [hq] at hk;cases hk
      | false =>
        rw [hq] at hk
        simp only [Bool.not_false,cond_true] at hk
        unfold chd at hq
        rw [hk] at hq
        simp only [] at hq
        split at hq
        · rename_i m' hm'
          simp only [Bool.not_eq_false'] at hq
          rw [hm',moEq_ok hq]
        · cases hq
  · cases h
theorem entOf_ok (htt:TTOk X.P tt) (hc:CalOk X.P call) (hx:ExtOk X.P ext) {i:Nat} {e:Ent} (h:entOf X.P tt call ext X.fn.ntmps ops i s=some e):LS X ops i e:=by
 unfold entOf at h
 split at h
 ·rename_i o ho
  simp only [] at h
  split at h
  ·rename_i hg
   split at h
   ·rename_i d hd
    cases hb:Nat.blt d X.fn.ntmps with
    | false=>rw [hb] at h;cases h
    | true =>
     rw [hb] at h;cases h
     exact LS.skip ho (by rw [hd];rfl) hg (.inr ⟨d,rfl,hb⟩) rfl rfl
   ·rename_i hd
    cases h
    exact LS.skip ho (by rw [hd];rfl) hg (.inl rfl) rfl rfl
  ·rename_i hg
   split at h
   ·rename_i e' he
    cases hb:Nat.beq e'.dL.length o.dst.toList.length with
    | false=>rw [hb] at h;cases h
    | true =>
     rw [hb] at h;cases h
     obtain ⟨g1,g2,g3⟩:=entE_ok htt hc hx he (Nat.eq_of_beq_eq_true hb)
     exact ⟨o,ho,g1,.inl ⟨by rw [g2];exact hg,g3⟩⟩
   ·cases h
  ·cases h
 ·cases h
theorem entsOf_ok (htt:TTOk X.P tt) (hc:CalOk X.P call) (hx:ExtOk X.P ext):∀ (n i:Nat) {s:St} {es:List Ent},entsOf X.P tt call ext X.fn.ntmps ops (List.range' i n) s=some es→AllLS X ops i es
 | 0,i,s,es,h=>by cases h;exact .nil
 | n+1,i,s,es,h=>by
  rw [List.range'_succ] at h
  unfold entsOf at h
  split at h
  ·rename_i e he
   split at h
   ·rename_i es' hes
    cases h
    exact .cons (entOf_ok htt hc hx he) (entsOf_ok htt hc hx n (i+1) hes)
   ·cases h
  ·cases h
theorem evDrawn_ok (htt:TTOk X.P tt) (hc:CalOk X.P call) (hx:ExtOk X.P ext) (hm:X.P.follows .mixedOrders=true) {id:Nat} {k':List Item} (h:evDrawn X.P tt call ext X.fn.ntmps ops s=some s') (k:WP X k' s') :
  WP X (.code (.region id ops true)::k') s:=by
 unfold evDrawn at h
 split at h
 ·rename_i es hes
  simp only [] at h
  cases hb:(chkB ops es (ancL ops.toList []) s.nx (lastK s.nx es) && needsB es (ancL ops.toList []) s) with
  | false=>rw [hb] at h;cases h
  | true =>
   rw [hb] at h;cases h
   rw [Bool.and_eq_true] at hb
   rw [List.range_eq_range'] at hes
   exact WP.regionE _ (entsOf_ok htt hc hx _ _ hes) hm hb.1 (needsB_ok hb.2) k
 ·cases h
end
end Go.Kx
end
section
namespace Go.Kx
def readsOf (ops:Array Oper) (o:Oper):List Nat:=gSlot ops o++slots o.op.operands.toList
def memN (d:Nat):List Nat→Bool
 | []=>false
 | x::r=>bif Nat.beq x d then true else memN d r
theorem memN_of {d:Nat}:∀ {l:List Nat},d∈l→memN d l=true
 | x::r,h=>by
  unfold memN
  cases hb:Nat.beq x d with
  | true=>rfl
  | false =>
   rcases List.mem_cons.1 h with h | h
   ·subst h;simp at hb
   ·exact memN_of h
def dstHits (a:Option Nat) (l:List Nat):Bool:=match a with
 | some d=>memN d l
 | none=>false
def confB (cls:Op→Nat) (ops:Array Oper) (oj oi:Oper):Bool :=
 dstHits oj.dst (readsOf ops oi) || dstHits oj.dst oi.dst.toList || dstHits oi.dst (readsOf ops oj) || (Nat.beq (cls oj.op) 2 && !(Nat.beq (cls oi.op) 0)) || (Nat.beq (cls oi.op) 2 && !(Nat.beq (cls oj.op) 0))
def stRow (cls:Op→Nat) (ops:Array Oper) (oi:Oper) (m:Nat):List Oper→Nat→Bool
 | [],_=>true
 | oj::r,j=>(Nat.testBit m j || !(confB cls ops oj oi)) && stRow cls ops oi m r (j+1)
def stAll (cls:Op→Nat) (ops:Array Oper):List Oper→List Oper→List Nat→Bool
 | [],_,_=>true
 | o::r,ds,anc=>o.after.toList.all (fun d => !Region.binds .any d || Nat.blt d.on ds.length) && stRow cls ops o (ancF anc o.after.toList) ds 0 && stAll cls ops r (ds++[o]) (anc++[ancF anc o.after.toList])
theorem ancL_pre:∀ (r:List Oper) (anc:List Nat) (k:Nat),k < anc.length→(ancL r anc).getD k 0=anc.getD k 0
 | [],_,_,_=>rfl
 | o::r,anc,k,h=>by
  unfold ancL
  rw [ancL_pre r _ k (by rw [List.length_append];exact Nat.lt_add_right _ h)]
  simp [List.getD,List.getElem?_append_left h]
theorem stRow_ok {cls:Op→Nat} {ops:Array Oper} {oi:Oper} {m:Nat}:∀ {l:List Oper} {j0:Nat},stRow cls ops oi m l j0=true→∀ j oj,l[j]? = some oj→Nat.testBit m (j0+j)=true∨confB cls ops oj oi=false
 | [],_,_,j,oj,h=>by simp at h
 | o::r,j0,h,j,oj,hj=>by
  unfold stRow at h
  rw [Bool.and_eq_true,Bool.or_eq_true,Bool.not_eq_true'] at h
  cases j with
  | zero=>simp at hj;subst hj;exact h.1
  | succ j =>
   have:=stRow_ok h.2 j oj (by simpa using hj)
   rwa [show j0+(j+1)=j0+1+j by omega]
theorem stAll_ok {cls:Op→Nat} {ops:Array Oper}:∀ {r ds:List Oper} {anc:List Nat},stAll cls ops r ds anc=true→anc.length=ds.length→∀ idx o,r[idx]? = some o →
  (∀ d∈o.after.toList,Region.binds .any d=true→d.on < ds.length+idx) ∧
  (∀ j,ancB (ancL r anc) (ds.length+idx) j=true→∃ d∈o.after.toList,Region.binds .any d=true∧(j=d.on∨ancB (ancL r anc) d.on j=true)) ∧
  (∀ j oj,(ds++r)[j]? = some oj→j < ds.length+idx→ancB (ancL r anc) (ds.length+idx) j=true∨confB cls ops oj o=false)
 | [],_,_,_,_,idx,o,h=>by simp at h
 | o0::r,ds,anc,h,hlen,idx,o,ho=>by
  unfold stAll at h
  rw [Bool.and_eq_true,Bool.and_eq_true] at h
  obtain ⟨⟨h1,h2⟩,h3⟩:=h
  cases idx with
  | zero =>
   simp at ho
   subst ho
   have hm:(ancL (o0::r) anc).getD ds.length 0=ancF anc o0.after.toList:=by
    unfold ancL
    rw [ancL_pre r _ _ (by rw [List.length_append,hlen];simp),← hlen]
    simp [List.getD]
   have hon:∀ d∈o0.after.toList,Region.binds .any d=true→d.on < ds.length:=fun d hd hb=>by
    have:=List.all_eq_true.1 h1 d hd
    rw [hb] at this
    exact blt_lt this
   refine ⟨hon,fun j hj=>?_,fun j oj hoj hj=>?_⟩
   ·unfold ancB at hj
    rw [Nat.add_zero,hm] at hj
    obtain ⟨d,hd,hb,h4⟩:=ancF_ok hj
    refine ⟨d,hd,hb,h4.imp id fun h4=>?_⟩
    unfold ancB at h4 ⊢
    rw [ancL_pre _ _ _ (by rw [hlen];exact hon d hd hb)]
    exact h4
   ·rw [List.getElem?_append_left (by simpa using hj)] at hoj
    have:=stRow_ok h2 j oj hoj
    rw [Nat.zero_add] at this
    refine this.imp (fun h4=>?_) id
    unfold ancB
    rw [Nat.add_zero,hm]
    exact h4
  | succ idx =>
   have ih:=stAll_ok h3 (by simp [hlen]) idx o (by simpa using ho)
   have e:(ds++[o0]).length+idx=ds.length+(idx+1):=by simp;omega
   have e2:(ds++[o0])++r=ds++o0::r:=by simp
   rw [e,e2] at ih
   exact ih
structure StOk (cls:Op→Nat) (ops:Array Oper) (A:List Nat):Prop where
 on:∀ i o,ops[i]? = some o→∀ d∈o.after,Region.binds .any d=true→d.on < i
 up:∀ i o,ops[i]? = some o→∀ j,ancB A i j=true→∃ d∈o.after,Region.binds .any d=true∧(j=d.on∨ancB A d.on j=true)
 cf:∀ i j oi oj,ops[i]? = some oi→ops[j]? = some oj→j < i→confB cls ops oj oi=true→ancB A i j=true
theorem StOk.of {cls:Op→Nat} {ops:Array Oper} (h:stAll cls ops ops.toList [] []=true):StOk cls ops (ancL ops.toList []):=by
 have key:=fun i o (ho:ops[i]? = some o)=>stAll_ok h rfl i o (by simpa using ho)
 simp only [List.length_nil,Nat.zero_add,List.nil_append] at key
 refine ⟨fun i o ho d hd hb=>(key i o ho).1 d (by simpa using hd) hb,fun i o ho j hj=>?_,fun i j oi oj hi hj hlt hc=>?_⟩
 ·obtain ⟨d,hd,h2⟩:=(key i o ho).2.1 j hj
  exact ⟨d,by simpa using hd,h2⟩
 ·rcases (key i oi hi).2.2 j oj (by simpa using hj) hlt with h2 | h2
  ·exact h2
  ·rw [hc] at h2;cases h2
theorem StOk.lt {cls:Op→Nat} {ops:Array Oper} {A:List Nat} (c:StOk cls ops A):∀ (i:Nat) (o:Oper),ops[i]? = some o→∀ j,ancB A i j=true→j < i:=by
 intro i
 induction i using Nat.strongRecOn with
 | _ i ih =>
  intro o ho j hj
  obtain ⟨d,hd,hb,h3⟩:=c.up i o ho j hj
  have h1:=c.on i o ho d hd hb
  rcases h3 with rfl | h3
  ·exact h1
  ·have hi:i < ops.size:=(Array.getElem?_eq_some_iff.1 ho).1
   have hd':ops[d.on]? = some ops[d.on]:=by simp
   have:=ih d.on h1 _ hd' j h3
   omega
section
variable (cls:Op→Nat) (vl:St→Op→Option SV) (ev:Oper→St→Option St) (nt:Nat) (ops:Array Oper)
def stepS (o:Oper) (s:St):Option St:=match pickL s.L (readsOf ops o) with
 | pk=>match guardV ops pk o with
  | some false=>(match o.dst with
   | some d=>bif Nat.blt d nt then some ⟨(d,.u)::s.L,s.M,s.V,s.nx⟩ else none
   | none=>some s)
  | some true=>bif Nat.beq (cls o.op) 2 then (match ev o ⟨pk,s.M,[],s.nx⟩ with
    | some s1=>bif Nat.beq (dLof o s1.L).length o.dst.toList.length && Nat.ble s.nx s1.nx then some ⟨dLof o s1.L++s.L,s1.M,s.V,s1.nx⟩ else none
    | none=>none)
   else (match vl ⟨pk,(bif Nat.beq (cls o.op) 0 then [] else s.M),[],0⟩ o.op with
    | some v=>setd nt o s v
    | none=>none)
  | none=>none
def SR (o:Oper) (s:St) (dl:List (Nat × SV)) (s':St):Prop:=s'.L=dl++s.L∧s'.V=s.V∧dl.map (·.1)=o.dst.toList∧∃ pk:List (Nat × SV),(∀ d v,look pk d=some v→d∈readsOf ops o∧look s.L d=some v) ∧
  ((guardV ops pk o=some false∧(∀ d v,(d,v)∈dl→v=.u∧d < nt)∧s'.M=s.M∧s'.nx=s.nx) ∨
   (guardV ops pk o=some true∧cls o.op≠2∧s'.M=s.M∧s'.nx=s.nx∧∃ d v,o.dst=some d∧d < nt∧dl=[(d,v)]∧vl ⟨pk,(bif Nat.beq (cls o.op) 0 then [] else s.M),[],0⟩ o.op=some v) ∨
   (guardV ops pk o=some true∧cls o.op=2∧s.nx≤s'.nx∧∃ s1,ev o ⟨pk,s.M,[],s.nx⟩=some s1∧dl=dLof o s1.L∧s'.M=s1.M∧s'.nx=s1.nx))
end
section
variable {cls:Op→Nat} {vl:St→Op→Option SV} {ev:Oper→St→Option St} {nt:Nat} {ops:Array Oper}
theorem pickL_ok {L:List (Nat × SV)}:∀ {l:List Nat} {d:Nat} {v:SV},look (pickL L l) d=some v→d∈l∧look L d=some v
 | [],_,_,h=>by cases h
 | x::r,d,v,h=>by
  unfold pickL at h
  cases hx:look L x with
  | none =>
   rw [hx] at h
   obtain ⟨h1,h2⟩:=pickL_ok (l:=r) h
   exact ⟨List.mem_cons_of_mem _ h1,h2⟩
  | some u =>
   rw [hx] at h
   simp only [] at h
   rw [look_cons] at h
   split at h
   ·rename_i e;cases h;subst e;exact ⟨List.mem_cons_self,hx⟩
   ·obtain ⟨h1,h2⟩:=pickL_ok (l:=r) h
    exact ⟨List.mem_cons_of_mem _ h1,h2⟩
theorem stepS_ok {o:Oper} {s s':St} (h:stepS cls vl ev nt ops o s=some s'):∃ dl,SR cls vl ev nt ops o s dl s':=by
 unfold stepS at h
 simp only [] at h
 split at h
 ·rename_i hg
  split at h
  ·rename_i d hd
   cases hb:Nat.blt d nt with
   | false=>rw [hb] at h;cases h
   | true =>
    rw [hb] at h;cases h
    exact ⟨[(d,.u)],rfl,rfl,by rw [hd];rfl,_,fun d v=>pickL_ok,.inl ⟨hg,fun d' v hm=>by simp at hm;rw [hm.1,hm.2];exact ⟨rfl,blt_lt hb⟩,rfl,rfl⟩⟩
  ·rename_i hd
   cases h
   exact ⟨[],rfl,rfl,by rw [hd];rfl,_,fun d v=>pickL_ok,.inl ⟨hg,fun d' v hm=>by simp at hm,rfl,rfl⟩⟩
 ·rename_i hg
  cases hc:Nat.beq (cls o.op) 2 with
  | true =>
   rw [hc] at h
   simp only [cond_true] at h
   split at h
   ·rename_i s1 h1
    cases hl:(Nat.beq (dLof o s1.L).length o.dst.toList.length && Nat.ble s.nx s1.nx) with
    | false=>rw [hl] at h;cases h
    | true =>
     rw [hl] at h;cases h
     rw [Bool.and_eq_true] at hl
     exact ⟨dLof o s1.L,rfl,rfl,(dLof_ok (Nat.eq_of_beq_eq_true hl.1)).1,_,fun d v=>pickL_ok,.inr (.inr ⟨hg,Nat.eq_of_beq_eq_true hc,Nat.le_of_ble_eq_true hl.2,s1,h1,rfl,rfl,rfl⟩)⟩
   ·cases h
  | false =>
   rw [hc] at h
   simp only [cond_false] at h
   split at h
   ·rename_i v hv
    unfold setd at h
    split at h
    ·rename_i d hd
     cases hb:Nat.blt d nt with
     | false=>rw [hb] at h;cases h
     | true =>
      rw [hb] at h;cases h
      refine ⟨[(d,v)],rfl,rfl,by rw [hd];rfl,_,fun d v=>pickL_ok,.inr (.inl ⟨hg,fun e=>?_,rfl,rfl,d,v,hd,blt_lt hb,rfl,hv⟩)⟩
      rw [e] at hc;cases hc
    ·cases h
   ·cases h
 ·cases h
def isW (cls:Op→Nat) (ops:Array Oper) (j:Nat):Bool:=match ops[j]? with
 | some o=>Nat.beq (cls o.op) 2
 | none=>false
def mxF (cls:Op→Nat) (ops:Array Oper) (dn:Nat→Bool):Nat→Nat
 | 0=>0
 | j+1=>bif dn j && isW cls ops j then j+1 else mxF cls ops dn j
theorem mxF_congr {dn dn':Nat→Bool}:∀ {k:Nat},(∀ j,j < k→isW cls ops j=true→dn j=dn' j)→mxF cls ops dn k=mxF cls ops dn' k
 | 0,_=>rfl
 | k+1,h=>by
  have ih:=mxF_congr (k:=k) fun j hj=>h j (by omega)
  have hk:=h k (by omega)
  unfold mxF
  cases hw:isW cls ops k with
  | false=>simp only [Bool.and_false,cond_false];exact ih
  | true=>rw [hk hw,ih]
theorem mxF_mn {α:Type _} {f:Nat→α} {n i:Nat} (hi:i≤n) (hf:∀ j,j < n→isW cls ops j=false→f (j+1)=f j):∀ {k:Nat},k≤n→f (mxF cls ops (fun j=>decide (j < i)) k)=f (min k i)
 | 0,_=>by simp [mxF]
 | k+1,hk=>by
  have ih:=mxF_mn hi hf (k:=k) (by omega)
  unfold mxF
  by_cases hlt:k < i
  ·cases hw:isW cls ops k with
   | true=>simp only [hlt,decide_true,Bool.and_true,cond_true];rw [Nat.min_eq_left (by omega)]
   | false =>
    simp only [Bool.and_false,cond_false]
    rw [ih,Nat.min_eq_left (by omega),Nat.min_eq_left (by omega),hf k (by omega) hw]
  ·simp only [hlt,decide_false,Bool.false_and,cond_false]
   rw [ih,Nat.min_eq_right (by omega),Nat.min_eq_right (by omega)]
theorem mxF_at {α:Type _} {f:Nat→α} {n i:Nat} {dn:Nat→Bool} (hi:i≤n) (hf:∀ j,j < n→isW cls ops j=false→f (j+1)=f j) (hd:∀ j,j < n→isW cls ops j=true→dn j=decide (j < i)) :
  f (mxF cls ops dn n)=f i:=by
 rw [mxF_congr (dn':=fun j=>decide (j < i)) hd,mxF_mn hi hf (Nat.le_refl n),Nat.min_eq_right hi]
theorem gath_pre {sT:Nat→St} {dlf:Nat→List (Nat × SV)} {n:Nat} (hT:∀ i,i < n→(sT (i+1)).L=dlf i++(sT i).L):∀ {i:Nat},i≤n→∀ {k:Nat},i≤k→gath dlf (fun j=>decide (j < i)) (sT 0).L k=(sT i).L
 | 0,_,k,_=>by
  have:(fun j=>decide (j < 0))=fun _:Nat=>false:=funext fun j=>by simp
  rw [this,gath_false]
 | i+1,hi,k,hk=>by
  have base:∀ m,gath dlf (fun j=>decide (j < i+1)) (sT 0).L (i+1+m)=(sT (i+1)).L:=fun m=>by
   induction m with
   | zero =>
    show gath dlf _ _ (i+1)=_
    simp only [gath,Nat.lt_succ_self,decide_true,cond_true]
    rw [hT i (by omega),← gath_pre hT (i:=i) (by omega) (Nat.le_refl i)]
    congr 1
    have:∀ q,q≤i→gath dlf (fun j=>decide (j < i+1)) (sT 0).L q=gath dlf (fun j=>decide (j < i)) (sT 0).L q:=fun q=>by
     induction q with
     | zero=>intro _;rfl
     | succ q ihq =>
      intro hq
      have e1:decide (q < i+1)=true:=by simp;omega
      have e2:decide (q < i)=true:=by simp;omega
      simp only [gath,e1,e2]
      rw [ihq (by omega)]
    exact this i (Nat.le_refl i)
   | succ m ih =>
    show gath dlf _ _ (i+1+m+1)=_
    have:decide (i+1+m < i+1)=false:=by simp
    simp only [gath,this,cond_false]
    exact ih
  have:=base (k-(i+1))
  rwa [show i+1+(k-(i+1))=k by omega] at this
theorem Sat.addGone {X:Ctx} {s:St} {E F w a} (hs:Sat X s E F w a) {M':List (Nat × MO)} (h:∀ k m,look M' k=some m→look s.M k=some m∨(m=.gone∧k < s.nx)):Sat X ⟨s.L,M',s.V,s.nx⟩ E F w a:={ hs with
 wf:=⟨hs.wf.hL,fun k m hk=>by
  rcases h k m hk with h | ⟨rfl,h⟩
  ·exact hs.wf.hM k m h
  ·exact ⟨h,trivial⟩,hs.wf.hV⟩
 hM:=fun k m hk=>by
  rcases h k m hk with h | ⟨rfl,h⟩
  ·exact hs.hM k m h
  ·trivial
 dis:=fun k k' m m' hk hk' hne b hb hb'=>by
  rcases h k m hk with h1 | ⟨rfl,h1⟩
  ·rcases h k' m' hk' with h2 | ⟨rfl,h2⟩
   ·exact hs.dis k k' m m' h1 h2 hne b hb hb'
   ·exact hb'
  ·exact hb
 mF:=fun k m hk b hb=>by
  rcases h k m hk with h1 | ⟨rfl,h1⟩
  ·exact hs.mF k m h1 b hb
  ·exact hb.elim
 fresh:=fun k m hk hf b hb=>by
  rcases h k m hk with h1 | ⟨rfl,h1⟩
  ·exact hs.fresh k m h1 hf b hb
  ·exact hb.elim }
section
variable {X:Ctx} {A:List Nat} {s:St} {sT:Nat→St} {dlf:Nat→List (Nat × SV)}
def sD (cls:Op→Nat) (ops:Array Oper) (s:St) (sT:Nat→St) (dlf:Nat→List (Nat × SV)) (dn:Nat→Bool):St :=
 ⟨gath dlf dn s.L ops.size,(sT (mxF cls ops dn ops.size)).M,s.V,(sT (mxF cls ops dn ops.size)).nx⟩
def VlOk (X:Ctx) (vl:St→Op→Option SV):Prop:=(∀ L M V n m op,vl ⟨L,M,V,n⟩ op=vl ⟨L,M,V,m⟩ op) ∧
 ∀ s E F w a (o:Oper) v,Sat X s E F w a→vl s o.op=some v→(execOp a.eval o).run X.P w=.ok (.value (denV E v)) w∧v.kb s.nx
def EvOk (X:Ctx) (ev:Oper→St→Option St):Prop:=∀ nk E0 F0 w0 n0 Z (o:Oper) s s',ev o s=some s'→Stp (X.var nk E0 F0 w0 n0 Z) o s s'
theorem regionS_aux (hvl:VlOk X vl) (hev:EvOk X ev) (c:StOk cls ops A) (hT:∀ i o,ops[i]? = some o→SR cls vl ev X.fn.ntmps ops o (sT i) (dlf i) (sT (i+1))) (hs0:sT 0=s) {todo:Act→World→Prop}
    (hend:∀ E F w a,Sat X (sT ops.size) E F w a→todo a w) :
    ∀ (fuel:Nat) (l:Array Bool) (E:Env) (F:FSet) (w:World) (a:Act),l.size=ops.size→(∀ i,i < ops.size→l.getD i false=true→∀ j,ancB A i j=true→l.getD j false=true) →
      cnt (fun j=>l.getD j false) ops.size=fuel→Sat X (sD cls ops s sT dlf fun j=>l.getD j false) E F w a→wpAny X.P .any ops (fun e a' w'=>e=.normal∧todo a' w') fuel l a w:=by
  have hflip:∀ {l:Array Bool} {i:Nat},l.getD i true=false→l.getD i false=false:=fun {l i} h=>by
    rcases Nat.lt_or_ge i l.size with h' | h'
    · simp [h'] at h ⊢;exact h
    · simp [h'] at h
  have hflip':∀ {l:Array Bool} {i:Nat},i < l.size→l.getD i false=false→l.getD i true=false:=fun {l i} h' h=>by
    simp [h'] at h ⊢;exact h
  have hop:∀ i,i < ops.size→∃ o,ops[i]? = some o:=fun i hi=>⟨ops[i],by simp [hi]⟩
  have hLs:∀ i,i < ops.size→(sT (i+1)).L=dlf i++(sT i).L:=fun i hi=>by
    obtain ⟨o,ho⟩:=hop i hi
    exact (hT i o ho).1
  have hnw:∀ j,j < ops.size→isW cls ops j=false→((sT (j+1)).M,(sT (j+1)).nx)=((sT j).M,(sT j).nx):=fun j hj hw=>by
    obtain ⟨o,ho⟩:=hop j hj
    unfold isW at hw
    rw [ho] at hw
    obtain ⟨_,_,_,pk,_,h | h | h⟩:=hT j o ho
    · rw [h.2.2.1,h.2.2.2]
    · rw [h.2.2.1,h.2.2.2.1]
    · simp only [] at hw
      rw [h.2.1] at hw;cases hw
  have hV:∀ i,i≤ops.size→(sT i).V=s.V:=fun i=>by
    induction i with
    | zero=>intro _;rw [hs0]
    | succ i ih =>
      intro hi
      obtain ⟨o,ho⟩:=hop i (by omega)
      rw [(hT i o ho).2.1];exact ih (by omega)
  have hMN:∀ {dn:Nat→Bool} {i:Nat},i≤ops.size→(∀ j,j < ops.size→isW cls ops j=true→dn j=decide (j < i)) →
      (sT (mxF cls ops dn ops.size)).M=(sT i).M∧(sT (mxF cls ops dn ops.size)).nx=(sT i).nx:=fun {dn i} hi hd=>by
    have:=mxF_at (cls:=cls) (ops:=ops) (f:=fun k=>((sT k).M,(sT k).nx)) hi hnw hd
    simp only [Prod.mk.injEq] at this
    exact this
  have hpre:∀ {i:Nat},i≤ops.size→gath dlf (fun j=>decide (j < i)) s.L ops.size=(sT i).L:=fun {i} hi=>by
    rw [← hs0];exact gath_pre hLs hi hi
  have hall:∀ {l:Array Bool} {E F w a},(∀ j,j < ops.size→l.getD j false=true)→Sat X (sD cls ops s sT dlf fun j=>l.getD j false) E F w a→todo a w:=fun {l E F w a} hd hs=>by
    obtain ⟨m1,m2⟩:=hMN (dn:=fun j=>l.getD j false) (Nat.le_refl ops.size) fun j hj _=>by simp [hd j hj,hj]
    refine hend E F w a (hs.same m2.symm (fun d=>?_) (fun d=>by rw [← m1];rfl) (fun d=>by rw [hV _ (Nat.le_refl _)];rfl))
    rw [← hpre (Nat.le_refl ops.size)]
    exact look_gath_congr fun j hj _=>by simp [hd j hj,hj]
  intro fuel
  induction fuel with
  | zero =>
    intro l E F w a hsz hcl hcnt hs
    have hd:=cnt_zero hcnt
    refine ⟨List.eq_nil_iff_forall_not_mem.2 fun j hj=>?_,rfl,hall hd hs⟩
    obtain ⟨h0,o,ho,_⟩:=mem_ready.1 hj
    have:=hd j (Array.getElem?_eq_some_iff.1 ho).1
    rw [hflip h0] at this;cases this
  | succ fuel ih =>
    intro l E F w a hsz hcl hcnt hs
    refine ⟨fun hr=>⟨rfl,hall (fun j=>?_) hs⟩,fun i hi=>?_⟩
    · induction j using Nat.strongRecOn with
      | _ j ihj =>
        intro hj
        cases hd:l.getD j false with
        | true=>rfl
        | false =>
          obtain ⟨o,ho⟩:=hop j hj
          have:j∈Region.ready .any ops l:=mem_ready.2 ⟨hflip' (by rw [hsz];exact hj) hd,o,ho,fun d hdm hb=>ihj d.on (c.on j o ho d hdm hb) (by have:=c.on j o ho d hdm hb;omega)⟩
          rw [hr] at this;cases this
    · obtain ⟨h0,o,ho,hpreq⟩:=mem_ready.1 hi
      have hi':i < ops.size:=(Array.getElem?_eq_some_iff.1 ho).1
      have hil:i < l.size:=by rw [hsz];exact hi'
      have hdi:=hflip h0
      have hanc:∀ j,ancB A i j=true→l.getD j false=true:=fun j hj=>by
        obtain ⟨d,hd,hb,h3⟩:=c.up i o ho j hj
        have h4:=hpreq d hd hb
        rcases h3 with rfl | h3
        · exact h4
        · exact hcl d.on (by have:=c.on i o ho d hd hb;omega) h4 j h3
      -- whoever may be in i's way has come up just if he stands ahead of it
      have hway:∀ j oj,j≠i→ops[j]? = some oj→(confB cls ops oj o=true∨confB cls ops o oj=true)→(j < i→confB cls ops oj o=true)→(i < j→confB cls ops o oj=true)→l.getD j false=decide (j < i):=fun j oj hne hoj _ h1 h2=>by
        have hj:j < ops.size:=(Array.getElem?_eq_some_iff.1 hoj).1
        rcases Nat.lt_or_gt_of_ne hne with hlt | hgt
        · rw [hanc j (c.cf i j o oj ho hoj hlt (h1 hlt))];simp [hlt]
        · have hb:=c.cf j i oj o hoj ho hgt (h2 hgt)
          cases hd:l.getD j false with
          | false=>simp;omega
          | true =>
            have:=hcl j hj hd i hb
            rw [hdi] at this;cases this
      obtain ⟨eL,eV,ed,pk,hpk,hstep⟩:=hT i o ho
      have hdst:∀ {j oj d},ops[j]? = some oj→(look (dlf j) d).isSome=true→oj.dst=some d:=fun {j oj d} hoj hs=>by
        obtain ⟨v,hv⟩:=Option.isSome_iff_exists.1 hs
        have h1:=(hT j oj hoj).2.2.1
        have:d∈(dlf j).map (·.1):=List.mem_map.2 ⟨_,look_mem hv,rfl⟩
        rw [h1] at this
        simpa using this
      have nL:∀ d v,look pk d=some v→look (sD cls ops s sT dlf fun j=>l.getD j false).L d=some v:=fun d v h=>by
        obtain ⟨h1,h2⟩:=hpk d v h
        rw [← h2,← hpre (Nat.le_of_lt hi')]
        refine look_gath_congr fun j hj hk=>?_
        obtain ⟨oj,hoj⟩:=hop j hj
        have hdj:=hdst hoj hk
        by_cases hji:j=i
        · subst hji;rw [hdi];simp
        · have e1:confB cls ops oj o=true:=by
            unfold confB dstHits;rw [hdj];simp [memN_of h1]
          have e2:confB cls ops o oj=true:=by
            unfold confB;simp only [dstHits];rw [hdj];simp [memN_of h1]
          exact hway j oj hji hoj (.inl e1) (fun _=>e1) (fun _=>e2)
      let l':=l.setIfInBounds i true
      have hl':∀ j,l'.getD j false=if j=i then true else l.getD j false:=fun j=>getD_set hil
      have hcl':∀ j,j < ops.size→l'.getD j false=true→∀ k,ancB A j k=true→l'.getD k false=true:=fun j hjs hj k hk=>by
        rw [hl'] at hj ⊢
        split
        · rfl
        · split at hj
          · rename_i e;subst e;exact hanc k hk
          · exact hcl j hjs hj k hk
      have hcnt':cnt (fun j=>l'.getD j false) ops.size=fuel:=by
        have:=cnt_add (dn:=fun j=>l.getD j false) (dn':=fun j=>l'.getD j false) (n:=ops.size) hi' hdi (by simp only [hl',if_true]) (fun j hj=>by simp only [hl',if_neg hj])
        omega
      have hgL:∀ d,look (gath dlf (fun j=>l'.getD j false) s.L ops.size) d=look (dlf i++gath dlf (fun j=>l.getD j false) s.L ops.size) d:=fun d =>
        look_gath_add (dl:=dlf) hi' hdi (fun j hj=>by simp only [hl',if_neg hj]) (by simp only [hl',if_true]) fun h1 j hij hj h2=>by
          obtain ⟨oj,hoj⟩:=hop j hj
          have hdj:=hdst hoj h2
          have hdo:=hdst ho h1
          have e2:confB cls ops o oj=true:=by
            unfold confB;simp only [dstHits];rw [hdj,hdo];simp [memN]
          cases hd:l.getD j false with
          | false=>rfl
          | true=>have:=hcl j hj hd i (c.cf j i oj o hoj ho hij e2);rw [hdi] at this;cases this
      -- operations that may write stand in a row
      have hwW:isW cls ops i=true→∀ j,j < ops.size→isW cls ops j=true→l.getD j false=decide (j < i):=fun hwi j hj hwj=>by
        obtain ⟨oj,hoj⟩:=hop j hj
        unfold isW at hwi hwj
        rw [ho] at hwi;rw [hoj] at hwj
        have w1:=Nat.eq_of_beq_eq_true hwi
        have w2:=Nat.eq_of_beq_eq_true hwj
        by_cases hji:j=i
        · subst hji;rw [hdi];simp
        · have e20:Nat.beq 2 0=false:=rfl
          have e1:confB cls ops oj o=true:=by unfold confB;rw [w1,w2,e20];simp
          have e2:confB cls ops o oj=true:=by unfold confB;rw [w1,w2,e20];simp
          exact hway j oj hji hoj (.inl e1) (fun _=>e1) (fun _=>e2)
      have hwR:Nat.beq (cls o.op) 0=false→∀ j,j < ops.size→isW cls ops j=true→l.getD j false=decide (j < i):=fun hwi j hj hwj=>by
        obtain ⟨oj,hoj⟩:=hop j hj
        unfold isW at hwj
        rw [hoj] at hwj
        have w2:=Nat.eq_of_beq_eq_true hwj
        by_cases hji:j=i
        · subst hji;rw [hdi];simp
        · have e1:confB cls ops oj o=true:=by unfold confB;rw [w2,hwi];simp
          have e2:confB cls ops o oj=true:=by unfold confB;rw [w2,hwi];simp
          exact hway j oj hji hoj (.inl e1) (fun _=>e1) (fun _=>e2)
      have hkeep:isW cls ops i=false→mxF cls ops (fun j=>l'.getD j false) ops.size=mxF cls ops (fun j=>l.getD j false) ops.size:=fun hwi =>
        mxF_congr fun j hj hwj=>by
          by_cases hji:j=i
          · subst hji;rw [hwi] at hwj;cases hwj
          · simp only [hl',if_neg hji]
      have hnext:isW cls ops i=true→(sT (mxF cls ops (fun j=>l'.getD j false) ops.size)).M=(sT (i+1)).M∧(sT (mxF cls ops (fun j=>l'.getD j false) ops.size)).nx=(sT (i+1)).nx:=fun hwi =>
        hMN (i:=i+1) (by omega) fun j hj hwj=>by
          simp only [hl']
          by_cases hji:j=i
          · subst hji;simp
          · rw [if_neg hji,hwW hwi j hj hwj]
            have:(j < i)=(j < i+1):=by apply propext;omega
            simp only [this]
      unfold wpOp
      simp only [ho]
      have hgo:∀ {E F w a},Sat X ⟨dlf i++gath dlf (fun j=>l.getD j false) s.L ops.size,(sT (mxF cls ops (fun j=>l'.getD j false) ops.size)).M,s.V,(sT (mxF cls ops (fun j=>l'.getD j false) ops.size)).nx⟩ E F w a →
          Sat X (sD cls ops s sT dlf fun j=>l'.getD j false) E F w a:=fun {E F w a} hs'=>hs'.same rfl hgL (fun _=>rfl) (fun _=>rfl)
      rcases hstep with ⟨hg,hu,hM,hN⟩ | ⟨hg,hc,hM,hN,d,v,hd,hdn,hdl,hv⟩ | ⟨hg,hc,hN,s1,h1,hdl,hM1,hN1⟩
      · rw [guardV_ok hs (guardV_mono nL hg),if_neg (by simp)]
        refine ih l' E F w _ (by simp [l',hsz]) hcl' hcnt' (hgo ?_)
        have hmn:(sT (mxF cls ops (fun j=>l'.getD j false) ops.size)).M=(sT (mxF cls ops (fun j=>l.getD j false) ops.size)).M∧(sT (mxF cls ops (fun j=>l'.getD j false) ops.size)).nx=(sT (mxF cls ops (fun j=>l.getD j false) ops.size)).nx:=by
          cases hwi:isW cls ops i with
          | false=>rw [hkeep hwi];exact ⟨rfl,rfl⟩
          | true =>
            obtain ⟨q1,q2⟩:=hnext hwi
            obtain ⟨r1,r2⟩:=hMN (Nat.le_of_lt hi') (hwW hwi)
            rw [q1,q2,r1,r2,hM,hN];exact ⟨rfl,rfl⟩
        rw [hmn.1,hmn.2]
        exact LS.skipped (e:=⟨[],[],[],[],0,dlf i,[],[],0⟩) hs ed hu rfl rfl
      · rw [guardV_ok hs (guardV_mono nL hg),if_pos rfl]
        have hwi:isW cls ops i=false:=by
          unfold isW;rw [ho]
          simp only []
          cases hb:Nat.beq (cls o.op) 2 with
          | false=>rfl
          | true=>exact absurd (Nat.eq_of_beq_eq_true hb) hc
        have hsv:Sat X ⟨pk,(bif Nat.beq (cls o.op) 0 then [] else (sT i).M),[],(sT (mxF cls ops (fun j=>l.getD j false) ops.size)).nx⟩ E F w a:=hs.weaken rfl nL (fun k m hk=>by
          cases hb:Nat.beq (cls o.op) 0 with
          | true=>rw [hb] at hk;cases hk
          | false =>
            rw [hb] at hk
            show look (sT (mxF cls ops (fun j=>l.getD j false) ops.size)).M k=some m
            rw [(hMN (Nat.le_of_lt hi') (hwR hb)).1];exact hk) (fun k f hk=>by cases hk)
        rw [hvl.1 _ _ _ 0 (sT (mxF cls ops (fun j=>l.getD j false) ops.size)).nx] at hv
        obtain ⟨hrun,hkb⟩:=hvl.2 _ _ _ _ _ _ _ hsv hv
        refine .inl (wp_value hrun (ih l' E F w _ (by simp [l',hsz]) hcl' hcnt' (hgo ?_)))
        rw [hkeep hwi,hdl,hd]
        exact hs.setL hkb hdn
      · rw [guardV_ok hs (guardV_mono nL hg),if_pos rfl]
        have hwi:isW cls ops i=true:=by unfold isW;rw [ho];simp [hc]
        obtain ⟨q1,q2⟩:=hnext hwi
        obtain ⟨r1,r2⟩:=hMN (Nat.le_of_lt hi') (hwW hwi)
        have hs2:Sat X ⟨gath dlf (fun j=>l.getD j false) s.L ops.size,(sT i).M,s.V,(sT i).nx⟩ E F w a:=by
          have:sD cls ops s sT dlf (fun j=>l.getD j false)=⟨gath dlf (fun j=>l.getD j false) s.L ops.size,(sT i).M,s.V,(sT i).nx⟩:=by unfold sD;rw [r1,r2]
          rw [← this];exact hs
        have hs3:=hs2.nxt (n:=(sT (i+1)).nx) hN
        let e:Ent:=⟨pk,[],(sT i).M,[],(sT i).nx,dlf i,[],s1.M++(sT i).M.map (fun q=>(q.1,.gone)),(sT (i+1)).nx⟩
        have hwf:e.s.Wf:=⟨fun d v h=>hs2.wf.hL d v (nL d v h),fun k m h=>hs2.wf.hM k m (by simpa [e] using h),fun k f h=>by cases h⟩
        have hlen:(dLof o s1.L).length=o.dst.toList.length:=by rw [← hdl,← ed,List.length_map]
        obtain ⟨_,g2⟩:=dLof_ok hlen
        have hgone:∀ {l:List (Nat × MO)} {k:Nat} {m:MO},look (l.map (fun q=>(q.1,MO.gone))) k=some m→m=.gone∧∃ m',look l k=some m':=by
          intro l
          induction l with
          | nil=>intro k m h;cases h
          | cons q r ihl =>
            intro k m h
            rw [List.map_cons,look_cons] at h
            rw [show q=(q.1,q.2) from rfl,look_cons]
            split at h
            · rename_i hq;cases h;exact ⟨rfl,q.2,by rw [if_pos hq]⟩
            · rename_i hq
              obtain ⟨u1,m',u2⟩:=ihl h
              exact ⟨u1,m',by rw [if_neg hq];exact u2⟩
        have hgone2:∀ {l:List (Nat × MO)} {k:Nat},look (l.map (fun q=>(q.1,MO.gone))) k=none→look l k=none:=by
          intro l
          induction l with
          | nil=>intro k h;rfl
          | cons q r ihl =>
            intro k h
            rw [List.map_cons,look_cons] at h
            rw [show q=(q.1,q.2) from rfl,look_cons]
            split at h
            · cases h
            · rename_i hq;rw [if_neg hq];exact ihl h
        let p:Nat→Bool:=fun k => !(Nat.ble (sT i).nx k && Nat.blt k (sT (i+1)).nx)
        have hp:∀ k,p k=true→¬ ((sT i).nx≤k∧k < (sT (i+1)).nx):=fun k hk hc=>by
          simp only [p,Bool.not_eq_true',Bool.and_eq_false_iff] at hk
          rcases hk with hk | hk
          · rw [Nat.ble_eq_true_of_le hc.1] at hk;cases hk
          · unfold Nat.blt at hk;rw [Nat.ble_eq_true_of_le hc.2] at hk;cases hk
        have hp0:∀ k,k < (sT i).nx→p k=true:=fun k hk=>by
          simp only [p,Bool.not_eq_true',Bool.and_eq_false_iff]
          left
          cases hb:Nat.ble (sT i).nx k with
          | false=>rfl
          | true=>have:=Nat.le_of_ble_eq_true hb;omega
        refine .inl (Oper.wp_imp (fun a' w' hq=>?_) (LS.frame (e:=e) hs3 ed (fun nk E0 F0 w0 n0 Z E F w a hse=>?_) hwf nL (fun k f h=>by cases h) (fun k m h=>by simpa [e] using h) (fun k h=>?_)
          hs2.nk hN (Nat.le_refl _) (p:=p) hp (fun d v h=>SV.kp_of_kb hp0 (hs2.wf.hL d v h)) (fun k m h=>⟨hp0 k (hs2.wf.hM k m h).1,MO.kp_of_kb hp0 (hs2.wf.hM k m h).2⟩) (fun k f h=>⟨hp0 k (hs2.wf.hV k f h).1,VF.kp_of_kb hp0 (hs2.wf.hV k f h).2⟩)))
        · obtain ⟨E',F',hs'⟩:=hq
          refine ih l' E' F' w' a' (by simp [l',hsz]) hcl' hcnt' (hgo ?_)
          rw [q1,q2]
          refine hs'.weaken rfl (fun d v h=>h) (fun k m h=>?_) (fun k f h=>h)
          show look ((s1.M++(sT i).M.map (fun q=>(q.1,MO.gone)))++(sT i).M) k=some m
          rw [look_append,look_append]
          rw [show look s1.M k=some m by rw [← hM1];exact h]
        · have hse':Sat (X.var nk E0 F0 w0 n0 Z) ⟨pk,(sT i).M,[],(sT i).nx⟩ E F w a:=hse.weaken rfl (fun _ _ h=>h) (fun k m h=>by simpa [e] using h) (fun _ _ h=>h)
          refine Oper.wp_imp (fun a' w' hq=>?_) (hev nk E0 F0 w0 n0 Z o _ _ h1 E F w a hse')
          obtain ⟨E',F',hq⟩:=hq
          have hq2:Sat (X.var nk E0 F0 w0 n0 Z) ⟨s1.L,s1.M++(sT i).M.map (fun q=>(q.1,MO.gone)),s1.V,s1.nx⟩ E' F' w' a':=hq.addGone fun k m hk=>by
            rw [look_append] at hk
            split at hk
            · rename_i x hx;cases hk;exact .inl hx
            · obtain ⟨u1,m',u2⟩:=hgone hk
              refine .inr ⟨u1,?_⟩
              have:=(hs2.wf.hM k m' u2).1
              have hle:(sT i).nx≤s1.nx:=by rw [← hN1];exact hN
              exact Nat.lt_of_lt_of_le this hle
          exact ⟨E',F',hq2.weaken hN1 (fun d v h=>g2 d v (by rw [← hdl];exact h)) (fun k m h=>by simpa [e] using h) (fun k f h=>by cases h)⟩
        · have:look (s1.M++(sT i).M.map (fun q=>(q.1,MO.gone))) k=none:=h
          rw [look_append] at this
          split at this
          · cases this
          · exact hgone2 this
end
end
end Go.Kx
end
section
namespace Go.Kx
section
variable (P:Program) (tt:List (Nat × TD)) (call:Cal) (ext:Xt) (nt:Nat) (ops:Array Oper)
end
def clsOf (tt:List (Nat × TD)):Op→Nat
 | .move _=>0
 | .assign _=>0
 | .pick _ _ _=>0
 | .nilCheck _=>0
 | .unOp _ _ _=>0
 | .binOp _ _ _ _ _=>0
 | .field _ _ _=>0
 | .fieldAddr _ _ _=>0
 | .extract _ _=>0
 | .build _ _=>0
 | .index _ _ _=>0
 | .indexAddr _ _ _=>0
 | .load _ _=>1
 | .slice _ _ none none none=>2
 | .slice _ _ _ _ _=>1
 | .convert t u _=>match look tt t with
  | some d=>match look tt u with
   | some du=>bif Nat.beq du.kd 6 then 2 else bif Nat.beq d.kd 3 then 0 else 1
   | none=>1
  | none=>1
 | .call c=>match c.callee with
  | .builtin .len=>0
  | .builtin .min=>0
  | .builtin .max=>0
  | .builtin .cap=>1
  | .builtin .unsafeSliceData=>1
  | _=>2
 | _=>2
def vlOf (P:Program) (tt:List (Nat × TD)) (s:St) (op:Op):Option SV:=match sval tt s op with
 | some v=>some v
 | none=>xval2 P tt s op
theorem vlOf_ok {X:Ctx} {tt:List (Nat × TD)} (htt:TTOk X.P tt):VlOk X (vlOf X.P tt):=by
 refine ⟨fun _ _ _ _ _ _=>rfl,fun s E F w a o v hs h=>?_⟩
 unfold vlOf at h
 split at h
 ·rename_i u hu
  cases h
  exact sval_ok htt hs hu
 ·exact xval2_ok htt hs h
def FtOk (P:Program) (ft:FuncId→Option (Func × Code)):Prop:=∀ f fn body,ft f=some (fn,body)→P.funcs[f]? = some fn∧fn.body=some body∧(fn.name == "runtime.NumGoroutine")=false
section
variable {X:Ctx} {s s':St} {tt:List (Nat × TD)} {call:Cal} {ext:Xt} {ops:Array Oper} {todo:Act→World→Prop}
theorem WPr.skip0 {i:Nat} {rest:List Nat} {o:Oper} (ho:ops[i]? = some o) (hg:guardV ops s.L o=some false) (hd:o.dst=none) (k:WPr X ops rest todo s):WPr X ops (i::rest) todo s:=by
 intro E F w a hs
 simp only [wpOps,ho,guardV_ok hs hg,Bool.false_eq_true,if_false,hd]
 exact k E F w _ hs
theorem resOne_kb {E F w a} (hs:Sat X s E F w a) {r:ResultVar} {v:SV} (h:resOne tt s r=some v):v.kb s.nx:=by
 cases r with
 | tmp t=>exact hs.wf.hL t v h
 | cell ad t =>
  simp only [resOne] at h
  cases hd:look tt t with
  | none=>rw [hd] at h;cases h
  | some d =>
   rw [hd] at h
   simp only [] at h
   split at h
   ·split at h
    ·rename_i hm;exact loadC_kb h (hs.wf.hM _ _ hm).2
    ·cases h
   ·cases h
theorem resAll_kb {E F w a} (hs:Sat X s E F w a):∀ {rs:List ResultVar} {vs:List SV},resAll tt s rs=some vs→∀ v∈vs,v.kb s.nx
 | [],vs,h=>by cases h;simp
 | r::rs,vs,h=>by
  unfold resAll at h
  cases hr:resOne tt s r with
  | none=>rw [hr] at h;cases h
  | some v =>
   rw [hr] at h
   simp only [] at h
   cases ha:resAll tt s rs with
   | none=>rw [ha] at h;cases h
   | some us =>
    rw [ha] at h
    cases h
    intro u hu
    rcases List.mem_cons.1 hu with rfl | hu
    ·exact resOne_kb hs hr
    ·exact resAll_kb hs ha u hu
theorem sumAll_kb {n:Nat}:∀ {vs:List SV} {xs:List (SC ⊕ List SC)},sumAll vs=some xs→(∀ v∈vs,v.kb n)→(SV.t xs).kb n
 | [],xs,h,_=>by cases h;intro v hv;cases hv
 | v::vs,xs,h,hk=>by
  unfold sumAll at h
  cases hv:svSum v with
  | none=>rw [hv] at h;cases h
  | some x =>
   rw [hv] at h
   simp only [] at h
   cases hr:sumAll vs with
   | none=>rw [hr] at h;cases h
   | some ys =>
    rw [hr] at h
    cases h
    have ih:=sumAll_kb hr fun v hv=>hk v (List.mem_cons_of_mem _ hv)
    have h0:=hk v List.mem_cons_self
    intro u hu
    rcases List.mem_cons.1 hu with rfl | hu
    ·unfold svSum at hv
     split at hv
     ·cases hv;exact h0
     ·cases hv;exact h0
     ·cases hv
    ·exact ih u hu
theorem resV_kb {E F w a} (hs:Sat X s E F w a) {rs:List ResultVar} {v:SV} (h:resV tt s rs=some v):v.kb s.nx:=by
 unfold resV at h
 split at h
 ·rename_i hr;cases h;exact resAll_kb hs hr v (by simp)
 ·rename_i vs _ hr
  cases hsum:sumAll vs with
  | none=>rw [hsum] at h;cases h
  | some xs =>
   rw [hsum] at h
   cases h
   exact sumAll_kb hsum (resAll_kb hs hr)
 ·cases h
end
end Go.Kx
end
section
namespace Go.Kx
def fL (i:Nat) (f:Func):FuncId→Option (Func × Code):=fun j=>bif Nat.beq j i then (match f.body with
 | some c=>some (f,c)
 | none=>none) else none
def fN (m:Nat) (a b:FuncId→Option (Func × Code)):FuncId→Option (Func × Code):=fun j=>bif Nat.blt j m then a j else b j
theorem fLo {P:Program} {i:Nat} {f:Func} (h:P.funcs[i]? = some f) (hn:(f.name == "runtime.NumGoroutine")=false):FtOk P (fL i f):=by
 intro j fn body hj
 unfold fL at hj
 cases hb:Nat.beq j i with
 | false=>rw [hb] at hj;cases hj
 | true =>
  rw [hb] at hj
  have:=Nat.eq_of_beq_eq_true hb
  subst this
  cases hc:f.body with
  | none=>rw [hc] at hj;cases hj
  | some c=>rw [hc] at hj;cases hj;exact ⟨h,hc,hn⟩
theorem fNo {P:Program} {m:Nat} {a b:FuncId→Option (Func × Code)} (ha:FtOk P a) (hb:FtOk P b):FtOk P (fN m a b):=by
 intro j fn body hj
 unfold fN at hj
 cases hc:Nat.blt j m with
 | false=>rw [hc] at hj;exact hb j fn body hj
 | true=>rw [hc] at hj;exact ha j fn body hj
def xB (g:ByteArray→Int→Int):List SV→Option SV
 | [.c (.s m),.c (.i .u8 c)]=>some (.c (.i .i64 (g m c)))
 | _=>none
def xId:List SV→Option SV
 | [v]=>some v
 | _=>none
def xZ:FuncId→List SV→Option SV:=fun _ _=>none
def xN (i:Nat) (g:List SV→Option SV) (r:FuncId→List SV→Option SV):FuncId→List SV→Option SV:=fun f as=>bif Nat.beq f i then g as else r f as
def XOk (P:Program) (f:FuncId) (g:List SV→Option SV):Prop:=∀ svs v,g svs=some v→∀ (E:Env) (w:World),(callFunc f (svs.map (denV E)).toArray).run P w=.ok (.value (denV E v)) w∧∀ n,(∀ u∈svs,u.kb n)→v.kb n
def XVOk (P:Program) (x:FuncId→List SV→Option SV):Prop:=∀ f,XOk P f (x f)
theorem xZo {P:Program}:XVOk P xZ:=fun _ _ _ h=>nomatch h
theorem xNo {P:Program} {i:Nat} {g:List SV→Option SV} {r:FuncId→List SV→Option SV} (h:XOk P i g) (hr:XVOk P r):XVOk P (xN i g r):=by
 intro f svs v hv
 unfold xN at hv
 cases hb:Nat.beq f i with
 | true =>
  rw [hb] at hv
  have:=Nat.eq_of_beq_eq_true hb
  subst this
  exact h svs v hv
 | false=>rw [hb] at hv;exact hr f svs v hv
theorem xB_ok {P:Program} {f:FuncId} {g:ByteArray→Int→Int} (h:∀ (m:ByteArray) (c:Int) (E:Env) (w:World),(callFunc f (([.c (.s m),.c (.i .u8 c)]:List SV).map (denV E)).toArray).run P w=.ok (.value (denV E (.c (.i .i64 (g m c))))) w):XOk P f (xB g):=by
 intro svs v hv E w
 unfold xB at hv
 split at hv
 ·cases hv;exact ⟨h _ _ E w,fun _ _=>trivial⟩
 ·cases hv
theorem xId_ok {P:Program} {f:FuncId} {fn:Func} (hf:P.funcs[f]? = some fn) (hname:(fn.name == "runtime.NumGoroutine")=false) (hb:fn.body.isNone=true) (hn:Extern.findNext fn=none)
  (he:Extern.find fn=some Extern.AbiNoEscape.same):XOk P f xId:=by
 intro svs v hv E w
 unfold xId at hv
 split at hv
 ·cases hv
  refine ⟨?_,fun n h=>h v (by simp)⟩
  rw [run_callFunc_extern hf hname hb hn he]
  show ((Extern.AbiNoEscape.same #[denV E v]).run P w).andThen _=_
  rw [Go.Lib.run_noEscape];rfl
 ·cases hv
theorem digits_one:∀ (n t:Nat) (acc:Array Value),(∀ j:Nat,(acc[j]!).oneCell'=true)→∀ j:Nat,((Extern.BytealgMakeNoZero.digits n t acc)[j]!).oneCell'=true
 | 0,_,_,h=>h
 | n+1,t,acc,h=>by
  unfold Extern.BytealgMakeNoZero.digits
  refine digits_one n _ _ fun j=>?_
  have:=h j
  by_cases h1:j < acc.size
  ·simpa [getElem!_def,Array.getElem?_push,Nat.ne_of_lt h1] using this
  ·by_cases h2:j=acc.size
   ·subst h2;simp [getElem!_def];rfl
   ·have:acc.size < j:=by omega
    simp [getElem!_def,Array.getElem?_push,h2,h1]
    rfl
theorem digits_size:∀ (n t:Nat) (acc:Array Value),(Extern.BytealgMakeNoZero.digits n t acc).size=acc.size+n
 | 0,_,_=>rfl
 | n+1,t,acc=>by
  unfold Extern.BytealgMakeNoZero.digits
  rw [digits_size n]
  simp only [Array.size_push]
  omega
theorem mz_run {P:Program} {ps:Array TypeId} {t e:TypeId} (ht:P.underlying t=some (.slice e)) (n:Nat) (w:World) (hle:n≤4096) :
  ∃ q:Nat,((Extern.BytealgMakeNoZero.makeNoZero ps #[t] #[.int .i64 n]).run P w)=.ok (.slice (some ⟨w.heap.size,0,none⟩) n (grownCap w n 0 e)) (w.drew.drew.alloc (.cells (Extern.BytealgMakeNoZero.digits (grownCap w n 0 e) q #[]) e)):=by
 have h1:¬ (n:Int) < 0:=by omega
 have h2:¬ (281474976710656:Int) < (n:Int):=by omega
 obtain ⟨a,b,qq,hq,hdef⟩:∃ (a b:String) (qq:Question),qq.forced=false∧Extern.BytealgMakeNoZero.makeNoZero ps #[t] #[.int .i64 n] =
    (do
     let .slice elem ← underlying t | stuck a
     if (n:Int) < 0 || (n:Int) > 2 ^ 48 then runtimePanic (.error b)
     let cap ← choose (.appendCap (n:Int).toNat 0 elem)
     askRoom cap
     let bytes ← choose qq
     let a ← newRow elem (Extern.BytealgMakeNoZero.digits cap bytes #[])
     pure (.slice (some a) (n:Int).toNat cap)):=⟨_,_,_,rfl,rfl⟩
 refine ⟨qq.cut (w.tape (w.drawn+1) qq),?_⟩
 rw [hdef]
 have hc:(Question.appendCap n 0 e).forced=false:=rfl
 simp [run_underlying' ht,h1,h2,hq,hc,newRow,digits_size,grownCap,Result.andThen]
theorem mzOk {P:Program} {f:FuncId} {fn:Func} {ps:Array TypeId} {t e:TypeId} (hf:P.funcs[f]? = some fn) (hname:(fn.name == "runtime.NumGoroutine")=false) (hb:fn.body.isNone=true) (hn:Extern.findNext fn=none)
  (he:Extern.find fn=some (Extern.BytealgMakeNoZero.makeNoZero ps #[t])) (ht:P.underlying t=some (.slice e)):MzOk P f e:=by
 intro n w hle
 obtain ⟨q,hq⟩:=mz_run (ps:=ps) ht n w hle
 refine ⟨Extern.BytealgMakeNoZero.digits (grownCap w n 0 e) q #[],digits_one _ _ _ (fun j=>by simp [getElem!_def];rfl),?_,?_⟩
 ·rw [digits_size]
  simpa using grownCap_ge w n 0 e
 ·rw [run_callFunc_extern hf hname hb hn he,hq,digits_size]
  simp [Result.andThen]
def evT (call:Cal) (f:FuncId):Bool:=match call f [] [] [] 0 with
 | some (.c (.b true),_)=>true
 | _=>false
theorem Fn.ofEv {P:Program} {f:FuncId} {call:Cal} (hc:CalOk P call) (h:evT call f=true):Fn P f ⟨0,[],[],[],0,.c (.b true),[],[]⟩:=by
 unfold evT at h
 split at h
 ·rename_i r hr
  obtain ⟨M',V',nx'⟩:=r
  obtain ⟨hcb,hcs⟩:=hc _ _ _ _ _ _ _ _ _ hr
  refine ⟨hcb,fun E F w hp=>?_⟩
  refine (hcs E F w ⟨fun d v h=>(nomatch h),fun k m h=>(nomatch h),fun k f h=>(nomatch h)⟩ ⟨hp.one,hp.hF,fun k f h=>(nomatch h),fun k m h=>(nomatch h),fun k k' m m' h=>(nomatch h),fun k m h=>(nomatch h)⟩).mono ?_
  rintro e w' ⟨E',F',rfl,hq,_,_⟩
  exact ⟨E',F',rfl,{
   env:=fun k hk=>absurd hk (Nat.not_lt_zero k)
   one:=hq.one
   V:=fun k f h=>(nomatch h)
   M:=fun k m h=>(nomatch h)
   dis:=fun k k' m m' h=>(nomatch h)
   mF:=fun k m h=>(nomatch h)
   fresh:=fun k m h=>(nomatch h)
   F0:=hq.F0
   F1:=hq.F1
   Fs:=hq.Fs
   ext:=hq.ext }⟩
 ·cases h
end Go.Kx
end
section
namespace Go.Kx
@[reducible] noncomputable def lookF {α:Type _} (l:List (Nat × α)) (d:Nat):Option α:=List.rec (motive:=fun _=>Option α) none (fun q _ ih=>Bool.rec (motive:=fun _=>Option α) ih (some q.2) (Nat.beq q.1 d)) l
theorem lookF_eq {α:Type _}:∀ (l:List (Nat × α)) (d:Nat),lookF l d=look l d
 | [],_=>rfl
 | (k,v)::r,d=>by
  show Bool.rec (motive:=fun _=>Option α) (lookF r d) (some v) (Nat.beq k d)=bif Nat.beq k d then some v else look r d
  rw [lookF_eq r d]
  cases Nat.beq k d<;>rfl
structure IOd where
 run:List (Nat × SV)→Option SV
noncomputable def oTm (t:Nat) (L:List (Nat × SV)):Option SV:=List.rec (motive:=fun _=>Option SV) none (fun q _ ih=>Bool.rec (motive:=fun _=>Option SV) ih (some q.2) (Nat.beq q.1 t)) L
noncomputable def vTm (t:Nat) (L:List (Nat × SV)) (_:List (Nat × MO)):Option SV:=List.rec (motive:=fun _=>Option SV) none (fun q _ ih=>Bool.rec (motive:=fun _=>Option SV) ih (some q.2) (Nat.beq q.1 t)) L
def oKn (v:Option SV) (_:List (Nat × SV)):Option SV:=v
noncomputable def odI:Operand→IOd
 | .tmp t=>⟨oTm t⟩
 | .const v=>⟨oKn (cSV v)⟩
 | .global g=>⟨oKn (some (.c (.v (.pointer (some ⟨g,0,none⟩)))))⟩
 | .func f=>⟨oKn (some (.c (.cl f [] [])))⟩
theorem odI_eq (x:Operand) (L:List (Nat × SV)):(odI x).run L=evalO L x:=by
 cases x with
 | tmp t=>exact lookF_eq L t
 | const v=>rfl
 | global g=>rfl
 | func f=>rfl
structure IVal where
 run:List (Nat × SV)→List (Nat × MO)→Option SV
structure IBin where
 run:IntKind→Int→Int→Option SV
def bAdd (k:IntKind) (a b:Int):Option SV:=some (.c (.i k (k.wrap (a+b))))
def bSub (k:IntKind) (a b:Int):Option SV:=some (.c (.i k (k.wrap (a-b))))
def bMul (k:IntKind) (a b:Int):Option SV:=some (.c (.i k (k.wrap (a * b))))
def bEq (_:IntKind) (a b:Int):Option SV:=some (.c (.b (a==b)))
def bNe (_:IntKind) (a b:Int):Option SV:=some (.c (.b (a != b)))
def bLt (_:IntKind) (a b:Int):Option SV:=some (.c (.b (decide (a < b))))
def bLe (_:IntKind) (a b:Int):Option SV:=some (.c (.b (decide (a≤b))))
def bGt (_:IntKind) (a b:Int):Option SV:=some (.c (.b (decide (a > b))))
def bGe (_:IntKind) (a b:Int):Option SV:=some (.c (.b (decide (a≥b))))
def bNo (_:IntKind) (_ _:Int):Option SV:=none
def binI:BinOp→IBin
 | .add=>⟨bAdd⟩
 | .sub=>⟨bSub⟩
 | .mul=>⟨bMul⟩
 | .eql=>⟨bEq⟩
 | .neq=>⟨bNe⟩
 | .lss=>⟨bLt⟩
 | .leq=>⟨bLe⟩
 | .gtr=>⟨bGt⟩
 | .geq=>⟨bGe⟩
 | _=>⟨bNo⟩
def vNo (_:List (Nat × SV)) (_:List (Nat × MO)):Option SV:=none
def vMv (x:IOd) (L:List (Nat × SV)) (_:List (Nat × MO)):Option SV:=x.run L
def asB:Option SV→Option Bool
 | some (.c (.b t))=>some t
 | _=>none
def vPk (c x y:IOd) (L:List (Nat × SV)) (_:List (Nat × MO)):Option SV:=match asB (c.run L) with
 | some t=>bif t then x.run L else y.run L
 | none=>none
def ldM (d:TD) (off:Nat):Option MO→Option SV
 | some (.box cs _)=>loadC d off cs
 | some (.arr cs _ _)=>loadC d off cs
 | _=>none
def asP:Option SV→Option (Nat × Nat)
 | some (.c (.bp k off))=>some (k,off)
 | _=>none
noncomputable def vLd (d:TD) (ad:IOd) (L:List (Nat × SV)) (M:List (Nat × MO)):Option SV:=match asP (ad.run L) with
 | some (k,off)=>ldM d off (lookF M k)
 | none=>none
def vNc (x:IOd) (L:List (Nat × SV)) (_:List (Nat × MO)):Option SV:=match x.run L with
 | some (.c (.bp k off))=>some (.c (.bp k off))
 | some (.c (.cl f b c))=>some (.c (.cl f b c))
 | _=>none
def asI:Option SV→Option (IntKind × Int)
 | some (.c (.i k a))=>some (k,a)
 | _=>none
def eqU:List UInt8→List UInt8→Bool
 | [],[]=>true
 | a::l,b::r=>bif Nat.beq a.toNat b.toNat then eqU l r else false
 | _,_=>false
def nthU:List UInt8→Nat→Option Int
 | [],_=>none
 | b::_,0=>some (b.toNat:Int)
 | _::r,n+1=>nthU r n
structure ISb where
 run:ByteArray→ByteArray→Option SV
def sEq (a b:ByteArray):Option SV:=some (.c (.b (eqU a.data.toList b.data.toList)))
def sNe (a b:ByteArray):Option SV:=some (.c (.b (!(eqU a.data.toList b.data.toList))))
def sNo (_ _:ByteArray):Option SV:=none
def binS:BinOp→ISb
 | .eql=>⟨sEq⟩
 | .neq=>⟨sNe⟩
 | _=>⟨sNo⟩
def asS:Option SV→Option ByteArray
 | some (.c (.s m))=>some m
 | _=>none
def vBi (f:IBin) (g:ISb) (x y:IOd) (L:List (Nat × SV)) (_:List (Nat × MO)):Option SV:=match asI (x.run L) with
 | some (k,a)=>match asI (y.run L) with
  | some (k',b)=>bif decide (k=k') then f.run k a b else none
  | none=>none
 | none=>match asS (x.run L) with
  | some m=>match asS (y.run L) with
   | some n=>g.run m n
   | none=>none
  | none=>none
def vFa (x:IOd) (o:Nat) (L:List (Nat × SV)) (_:List (Nat × MO)):Option SV:=match asP (x.run L) with
 | some (k,off)=>some (.c (.bp k (off+o)))
 | none=>none
def vIa (kd es n:Nat) (x ix:IOd) (L:List (Nat × SV)) (_:List (Nat × MO)):Option SV:=match asI (ix.run L) with
 | some (_,j)=>match x.run L with
  | some (.c (.sp k i len es'))=>bif inB j len && Nat.beq kd 6 && Nat.beq es es' then some (.c (.bp k (i * es'+j.toNat * es'))) else none
  | some (.c (.bp k off))=>bif inB j n && Nat.beq kd 5 then some (.c (.bp k (off+j.toNat * es))) else none
  | _=>none
 | none=>none
def vIs (x ix:IOd) (L:List (Nat × SV)) (_:List (Nat × MO)):Option SV:=match asI (ix.run L) with
 | some (_,j)=>match asS (x.run L) with
  | some m=>match (bif decide (0≤j) then nthU m.data.toList j.toNat else none) with
   | some z=>some (.c (.i .u8 z))
   | none=>none
  | none=>none
 | none=>none
noncomputable def xlenF (M:List (Nat × MO)) (k i n es:Nat):Bool:=match lookF M k with
 | some (.arr cs e _)=>Nat.beq e es && Nat.ble ((i+n) * es) cs.length
 | _=>false
def evOF (L:List (Nat × SV)):Option IOd→Option (Option Int)
 | none=>some none
 | some x=>match asI (x.run L) with
  | some (_,n)=>some (some n)
  | none=>none
noncomputable def vSl (kd es:Nat) (x:IOd) (lo hi:Option IOd) (L:List (Nat × SV)) (M:List (Nat × MO)):Option SV:=match evOF L lo with
 | some l=>match evOF L hi with
  | some h=>match x.run L with
   | some (.c (.s m))=>bif Nat.beq kd 2 then (match bnd l h m.data.toList.length with
    | some p=>some (.c (.s ⟨⟨(m.data.toList.drop p.1).take (p.2-p.1)⟩⟩))
    | none=>none) else none
   | some (.c (.sp k i len es'))=>bif Nat.beq kd 6 && Nat.beq es es' && xlenF M k i len es' then (match bnd l h len with
    | some p=>bif Nat.beq p.1 0 || Nat.blt p.1 p.2 then some (.c (.sp k (i+p.1) (p.2-p.1) es')) else none
    | none=>none) else none
   | _=>none
  | none=>none
 | none=>none
def vLn (kd:Nat) (x:IOd) (L:List (Nat × SV)) (_:List (Nat × MO)):Option SV:=match x.run L with
 | some (.c (.sp _ _ n _))=>bif Nat.beq kd 6 then some (.c (.i .i64 n)) else none
 | some (.c (.s m))=>bif Nat.beq kd 2 then some (.c (.i .i64 m.size)) else none
 | some (.c .nil)=>bif Nat.beq kd 6 then some (.c (.i .i64 0)) else none
 | _=>none
def vCv (k:IntKind) (x:IOd) (L:List (Nat × SV)) (_:List (Nat × MO)):Option SV:=match asI (x.run L) with
 | some (_,n)=>some (.c (.i k (k.wrap n)))
 | none=>none
def vNt (x:IOd) (L:List (Nat × SV)) (_:List (Nat × MO)):Option SV:=match asB (x.run L) with
 | some t=>some (.c (.b (!t)))
 | none=>none
def vEx (x:IOd) (j:Nat) (L:List (Nat × SV)) (_:List (Nat × MO)):Option SV:=match x.run L with
 | some (.t vs)=>match vs[j]? with
  | some (.inl c)=>some (.c c)
  | some (.inr cs)=>some (.a cs)
  | none=>none
 | _=>none
noncomputable def ldI (ad:Operand):Option TD→IVal
 | some d=>⟨vLd d (odI ad)⟩
 | none=>⟨vNo⟩
noncomputable def faI (x:Operand) (f:Nat):Option TD→IVal
 | some d=>match d.fo[f]? with
  | some (o,_,_)=>⟨vFa (odI x) o⟩
  | none=>⟨vNo⟩
 | none=>⟨vNo⟩
noncomputable def iaI (x ix:Operand):Option TD→IVal
 | some d=>⟨vIa d.kd d.es d.n (odI x) (odI ix)⟩
 | none=>⟨vNo⟩
noncomputable def ixI (x ix:Operand):Option TD→IVal
 | some d=>bif Nat.beq d.kd 2 then ⟨vIs (odI x) (odI ix)⟩ else ⟨vNo⟩
 | none=>⟨vNo⟩
noncomputable def ooI:Option Operand→Option IOd
 | some x=>some (odI x)
 | none=>none
noncomputable def slI (x:Operand) (lo hi:Option Operand):Option TD→IVal
 | some d=>⟨vSl d.kd d.es (odI x) (ooI lo) (ooI hi)⟩
 | none=>⟨vNo⟩
noncomputable def lnI (x:Operand):Option TD→IVal
 | some d=>⟨vLn d.kd (odI x)⟩
 | none=>⟨vNo⟩
noncomputable def cvI (x:Operand):Option TD→Option TD→IVal
 | some _,some d=>match d.ik with
  | some k=>⟨vCv k (odI x)⟩
  | none=>⟨vNo⟩
 | _,_=>⟨vNo⟩
noncomputable def mvI:Operand→IVal
 | .tmp t=>⟨vTm t⟩
 | x=>⟨vMv (odI x)⟩
noncomputable def vF (tt:List (Nat × TD)):Op→IVal
 | .move x=>mvI x
 | .assign x=>mvI x
 | .pick c x y=>⟨vPk (odI c) (odI x) (odI y)⟩
 | .load t ad=>ldI ad (look tt t)
 | .nilCheck x=>⟨vNc (odI x)⟩
 | .binOp b _ x y _=>⟨vBi (binI b) (binS b) (odI x) (odI y)⟩
 | .unOp .not _ x=>⟨vNt (odI x)⟩
 | .fieldAddr t x f=>faI x f (look tt t)
 | .indexAddr t x ix=>iaI x ix (look tt t)
 | .index t x ix=>ixI x ix (look tt t)
 | .slice t x lo hi none=>slI x lo hi (look tt t)
 | .extract x j=>⟨vEx (odI x) j⟩
 | .convert t u x=>cvI x (look tt t) (look tt u)
 | .call { callee:=.builtin .len,args:=⟨[x]⟩,argTypes:=⟨[t]⟩ }=>lnI x (look tt t)
 | _=>⟨vNo⟩
theorem asI_ok {v:Option SV} {k:IntKind} {n:Int} (h:asI v=some (k,n)):v=some (.c (.i k n)):=by
 unfold asI at h
 split at h
 ·cases h;rfl
 ·cases h
theorem asB_ok {v:Option SV} {t:Bool} (h:asB v=some t):v=some (.c (.b t)):=by
 unfold asB at h
 split at h
 ·cases h;rfl
 ·cases h
theorem asP_ok {v:Option SV} {k n:Nat} (h:asP v=some (k,n)):v=some (.c (.bp k n)):=by
 unfold asP at h
 split at h
 ·cases h;rfl
 ·cases h
theorem asS_ok {v:Option SV} {m:ByteArray} (h:asS v=some m):v=some (.c (.s m)):=by
 unfold asS at h
 split at h
 ·cases h;rfl
 ·cases h
theorem eqU_eq:∀ (a b:List UInt8),eqU a b=(a==b)
 | [],[]=>rfl
 | [],_::_=>rfl
 | _::_,[]=>rfl
 | x::a,y::b=>by
  unfold eqU
  rw [eqU_eq a b,List.cons_beq_cons]
  cases hb:Nat.beq x.toNat y.toNat with
  | true =>
   have:=UInt8.toNat_inj.1 (Nat.eq_of_beq_eq_true hb)
   subst this;simp
  | false =>
   have:(x==y)=false:=by
    rw [beq_eq_false_iff_ne]
    intro e;subst e;simp at hb
   rw [this];rfl
theorem nthU_eq:∀ (l:List UInt8) (n:Nat),nthU l n=l[n]?.map fun b=>(b.toNat:Int)
 | [],_=>by simp [nthU]
 | _::_,0=>rfl
 | _::r,n+1=>by unfold nthU;rw [nthU_eq r n];simp
theorem sidxF_eq (m:ByteArray) (j:Int):(bif decide (0≤j) then nthU m.data.toList j.toNat else none)=sidx m j:=by
 unfold sidx
 rw [nthU_eq]
 have:m[j.toNat]? = m.data.toList[j.toNat]? := by
  by_cases h:j.toNat < m.size
  ·have h':j.toNat < m.data.toList.length:=by simpa using h
   rw [getElem?_pos m j.toNat h,getElem?_pos m.data.toList j.toNat h']
   rfl
  ·have h':¬ j.toNat < m.data.toList.length:=by simpa using h
   rw [getElem?_neg m j.toNat h,getElem?_neg m.data.toList j.toNat h']
 rw [this]
theorem extF_eq (m:ByteArray) (a b:Nat):(⟨⟨(m.data.toList.drop a).take (b-a)⟩⟩:ByteArray)=m.extract a b:=by
 have:(m.extract a b).data.toList=(m.data.toList.drop a).take (b-a):=by
  simp [ByteArray.extract,ByteArray.copySlice]
 rw [← this]
theorem xlenF_eq (M:List (Nat × MO)) (k i n es:Nat):xlenF M k i n es=xlen M k i n es:=by
 unfold xlenF xlen;rw [lookF_eq]<;>rfl
theorem evOF_ok {L:List (Nat × SV)} {x:Option Operand} {r:Option Int} (h:evOF L (ooI x)=some r):∃ q,evOI L x=some q∧q.map (·.2)=r:=by
  cases x with
  | none=>cases h;exact ⟨none,rfl,rfl⟩
  | some x =>
    simp only [ooI,evOF,odI_eq] at h
    split at h
    · rename_i k n hx
      cases h
      exact ⟨some (k,n),by simp only [evOI,asI_ok hx],rfl⟩
    · cases h
theorem mvI_ok {x:Operand} {L:List (Nat × SV)} {M:List (Nat × MO)} {v:SV} (h:(mvI x).run L M=some v):evalO L x=some v:=by
 unfold mvI at h
 split at h
 ·rw [← odI_eq];exact h
 ·simp only [vMv,odI_eq] at h;exact h
theorem vF_ok {P:Program} {tt:List (Nat × TD)} {op:Op} {s:St} {v:SV} (h:(vF tt op).run s.L s.M=some v):sval tt s op=some v∨xval P tt s op=some v:=by
  unfold vF at h
  split at h
  · exact .inl (mvI_ok h)
  · exact .inl (mvI_ok h)
  · rename_i c x y
    left
    simp only [vPk,odI_eq] at h
    split at h
    · rename_i t hc
      cases t with
      | true=>simp only [sval,asB_ok hc];exact h
      | false=>simp only [sval,asB_ok hc];exact h
    · cases h
  · rename_i t ad
    unfold ldI at h
    split at h
    · rename_i d hd
      simp only [vLd,odI_eq,lookF_eq] at h
      split at h
      · rename_i k off hx
        unfold ldM at h
        split at h
        · rename_i cs t' hm
          left;simp only [sval,hd,asP_ok hx,hm];exact h
        · rename_i cs e t' hm
          right;simp only [xval,xvLoad,hd,asP_ok hx,hm];exact h
        · cases h
      · cases h
    · cases h
  · rename_i x
    left
    simp only [vNc,odI_eq] at h
    split at h
    · rename_i hx;simp only [sval,hx];exact h
    · rename_i hx;simp only [sval,hx];exact h
    · cases h
  · rename_i b t x y yt
    left
    simp only [vBi,odI_eq] at h
    split at h
    · rename_i k m hx
      split at h
      · rename_i k' n hy
        cases hk:decide (k=k') with
        | false=>rw [hk] at h;cases h
        | true =>
          rw [hk] at h
          simp only [sval,asI_ok hx,asI_ok hy,sbin,hk,cond_true]
          unfold binI at h
          split at h<;>(try cases h)<;>rfl
      · cases h
    · split at h
      · rename_i m hx
        split at h
        · rename_i n hy
          simp only [sval,asS_ok hx,asS_ok hy,sbin]
          unfold binS at h
          split at h
          · simp only [sEq,eqU_eq,← ByteArray.toList_eq] at h;exact h
          · simp only [sNe,eqU_eq,← ByteArray.toList_eq] at h;exact h
          · cases h
        · cases h
      · cases h
  · rename_i t x
    left
    simp only [vNt,odI_eq] at h
    split at h
    · rename_i b hx;simp only [sval,asB_ok hx];exact h
    · cases h
  · rename_i t x f
    left
    unfold faI at h
    split at h
    · rename_i d hd
      split at h
      · rename_i o a b hf
        simp only [vFa,odI_eq] at h
        split at h
        · rename_i k off hx
          simp only [sval,hd,asP_ok hx,faddr,hf];exact h
        · cases h
      · cases h
    · cases h
  · rename_i t x ix
    right
    unfold iaI at h
    split at h
    · rename_i d hd
      simp only [vIa,odI_eq] at h
      split at h
      · rename_i k j hix
        split at h
        · rename_i hx;simp only [xval,xvIdxA,hd,asI_ok hix,hx];exact h
        · rename_i hx;simp only [xval,xvIdxA,hd,asI_ok hix,hx];exact h
        · cases h
      · cases h
    · cases h
  · rename_i t x ix
    right
    unfold ixI at h
    split at h
    · rename_i d hd
      cases hk:Nat.beq d.kd 2 with
      | false=>rw [hk] at h;cases h
      | true =>
        rw [hk] at h
        simp only [cond_true,vIs,odI_eq,sidxF_eq] at h
        split at h
        · rename_i k j hix
          split at h
          · rename_i m hx
            simp only [xval,xvIdx,hd,asI_ok hix,asS_ok hx,hk,cond_true];exact h
          · cases h
        · cases h
    · cases h
  · rename_i t x lo hi
    right
    unfold slI at h
    split at h
    · rename_i d hd
      simp only [vSl,odI_eq] at h
      split at h
      · rename_i l hl
        obtain ⟨ql,h1,rfl⟩:=evOF_ok hl
        split at h
        · rename_i hh he
          obtain ⟨qh,h2,rfl⟩:=evOF_ok he
          split at h
          · rename_i m hx
            simp only [xval,xvSlice,hd,h1,h2,hx]
            cases hk:Nat.beq d.kd 2 with
            | false=>rw [hk] at h;cases h
            | true =>
              rw [hk] at h
              simp only [cond_true] at h ⊢
              split at h
              · rename_i p hp
                have hp:bnd (ql.map (·.2)) (qh.map (·.2)) m.size=some p:=by simpa using hp
                simp only [ssl,hp,Option.map_some]
                rw [extF_eq] at h;exact h
              · cases h
          · rename_i k i len es' hx
            simp only [xval,xvSlice,hd,h1,h2,hx]
            rw [xlenF_eq] at h
            exact h
          · cases h
        · cases h
      · cases h
    · cases h
  · rename_i x j
    left
    simp only [vEx,odI_eq] at h
    split at h
    · rename_i vs hx;simp only [sval,hx];exact h
    · cases h
  · rename_i t u x
    left
    unfold cvI at h
    split at h
    · rename_i d0 d h1 h2
      split at h
      · rename_i k hk
        simp only [vCv,odI_eq] at h
        split at h
        · rename_i k0 n hx
          simp only [sval,h1,h2,asI_ok hx,hk];exact h
        · cases h
      · cases h
    · cases h
  · rename_i x t
    unfold lnI at h
    split at h
    · rename_i d hd
      simp only [vLn,odI_eq] at h
      split at h
      · rename_i hx
        right;simp only [xval,xvLen,hd,hx];exact h
      · rename_i hx
        left;simp only [sval,scall,hd,hx,lenS];exact h
      · rename_i hx
        left;simp only [sval,scall,hd,hx,lenS];exact h
      · cases h
    · cases h
  · cases h
end Go.Kx
end
