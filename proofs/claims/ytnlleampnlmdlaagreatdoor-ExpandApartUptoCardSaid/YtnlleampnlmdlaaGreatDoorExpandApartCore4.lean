/- Aids for the walks, part 4: a symbolic state of the machine, and that each step of the machine keeps it. -/
import Derived.MapKept
import Derived.Test.YtnlleampnlmdlaaGreatDoorExpandApartCore3
set_option linter.all false
section
namespace Go.Kx
variable [LxP]
def mget {α:Type}:List (ByteArray × α)→ByteArray→Option α
 | [],_=>none
 | (k,v)::r,a=>bif k.data.toList==a.data.toList then some v else mget r a
def mput {α:Type}:List (ByteArray × α)→ByteArray→α→List (ByteArray × α)
 | [],a,x=>[(a,x)]
 | (k,v)::r,a,x=>bif k.data.toList==a.data.toList then (k,x)::r else (k,v)::mput r a x
omit [LxP] in
theorem sq_iff (a b:ByteArray):(a.data.toList==b.data.toList)=true↔a=b:=by
 rw [beq_iff_eq]
 constructor
 ·intro h
  obtain ⟨x⟩:=a
  obtain ⟨y⟩:=b
  have:x=y:=Array.toList_inj.1 h
  rw [this]
 ·rintro rfl;rfl
def packV (ag:Bool) (vs:List Value):Value:=bif ag then .agg vs.toArray else vs.headD undef
def MapL {α:Type} (R:TRep α) (ag:Bool) (F:FSet) (w:World):List MapEntry→List (ByteArray × α)→Prop
 | [],[]=>True
 | e::es,(k,x)::r=>e.key=.string k∧(∃ vs,R.rep F w x vs∧e.val=packV ag vs)∧MapL R ag F w es r
 | _,_=>False
omit [LxP] in
theorem MapL.mono {α:Type} {R:TRep α} {ag F w F' w'} (g:Grow F w F' w'):∀ {es kvs},MapL R ag F w es kvs→MapL R ag F' w' es kvs
 | [],[],_=>trivial
 | [],_::_,h=>h.elim
 | _::_,[],h=>h.elim
 | e::es,(k,x)::r,⟨h1,⟨vs,h2,h3⟩,h4⟩=>⟨h1,⟨vs,R.mono g h2,h3⟩,MapL.mono g h4⟩
def MapR {α:Type} (R:TRep α) (ag nl:Bool) (kvs:List (ByteArray × α)) (F:FSet) (w:World) (v:Value):Prop :=
 (nl=true∧kvs=[]∧v=.map none)∨∃ b es clock,v=.map (some b)∧w.heap[b]? = some (.map es clock)∧MapL R ag F w es.toList kvs
def mapV {α:Type} (R:TRep α) (ag nl:Bool) (kvs:List (ByteArray × α)):AbsV where
 ok F w v:=MapR R ag nl kvs F w v
 mono g hb h:=by
  rcases h with h | ⟨b,es,clock,hv,hh,hl⟩
  ·exact .inl h
  ·exact .inr ⟨b,es,clock,hv,by rw [hb b (by rw [hv];rfl)];exact hh,hl.mono g⟩
 one h:=by
  rcases h with ⟨_,_,hv⟩ | ⟨_,_,_,hv,_⟩<;>rw [hv]<;>rfl
omit [LxP] in
theorem find_mget {α:Type} {R:TRep α} {ag F w} (a:ByteArray):∀ (es:List MapEntry) (kvs:List (ByteArray × α)) (i:Nat),MapL R ag F w es kvs →
  (mget kvs a=none∧Instr.findNow .string (.string a) es i=some none)∨∃ x j e vs,mget kvs a=some x∧Instr.findNow .string (.string a) es i=some (some (i+j,e.val))∧es[j]? = some e∧e.key=.string a∧R.rep F w x vs∧e.val=packV ag vs
 | [],[],i,_=>.inl ⟨rfl,rfl⟩
 | [],_::_,_,h=>h.elim
 | _::_,[],_,h=>h.elim
 | e::es,(k,x)::r,i,⟨h1,⟨vs,h2,h3⟩,h4⟩=>by
  have hs:Instr.sameNow .string (.string a) e.key=some (a==k):=by rw [h1];rfl
  by_cases hk:a=k
  ·subst hk
   have e1:(a==a)=true:=(MapKept.bytes_beq a a).2 rfl
   have e2:(a.data.toList==a.data.toList)=true:=(sq_iff a a).2 rfl
   exact .inr ⟨x,0,e,vs,by rw [mget,e2];rfl,by unfold Instr.findNow;rw [hs,e1];rfl,rfl,h1,h2,h3⟩
  ·have e1:(a==k)=false:=by
    cases hb:(a==k) with
    | false=>rfl
    | true=>exact absurd ((MapKept.bytes_beq a k).1 hb) hk
   have e2:(k.data.toList==a.data.toList)=false:=by
    cases hb:(k.data.toList==a.data.toList) with
    | false=>rfl
    | true=>exact absurd ((sq_iff k a).1 hb).symm hk
   rcases find_mget a es r (i+1) h4 with ⟨g1,g2⟩ | ⟨y,j,e',vs',g1,g2,g3,g4,g5,g6⟩
   ·exact .inl ⟨by rw [mget,e2];exact g1,by unfold Instr.findNow;rw [hs,e1];exact g2⟩
   ·refine .inr ⟨y,j+1,e',vs',by rw [mget,e2];exact g1,?_,by simpa using g3,g4,g5,g6⟩
    unfold Instr.findNow
    rw [hs,e1]
    show Instr.findNow .string (.string a) es (i+1)=_
    rw [g2,show i+1+j=i+(j+1) by omega]
section
variable {P:Program} {t kt et:TypeId}
theorem lookN_run {w:World} {zv:Value} {a:ByteArray} (hu:P.underlying t=some (.map kt et)) (hk:P.underlying kt=some .string) (hz:∀ w,(zeroValue et).run P w=.ok zv w) (cok:Bool) :
  (Instr.lookup t (.map none) (.string a) cok).run P w=.ok (bif cok then .tuple #[zv,.bool false] else zv) w:=by
 have hf:=MapKept.run_findKey (P:=P) (w:=w) (k:=.string a) (l:=[]) (a:=none) hk rfl
 have hc:=fun e n=>MapKept.run_checkKey (P:=P) (w:=w) (k:=.string a) hk trivial e n
 cases cok<;>simp [Instr.lookup,run_underlying' hu,hc,hf,hz,Result.andThen]
theorem look_run {α:Type} {R:TRep α} {ag nl:Bool} {F:FSet} {w:World} {kvs:List (ByteArray × α)} {v zv:Value} {a:ByteArray} (hu:P.underlying t=some (.map kt et)) (hk:P.underlying kt=some .string) (hz:∀ w,(zeroValue et).run P w=.ok zv w)
  (h:(mapV R ag nl kvs).ok F w v) (cok:Bool) :
  (mget kvs a=none∧(Instr.lookup t v (.string a) cok).run P w=.ok (bif cok then .tuple #[zv,.bool false] else zv) w) ∨
  ∃ x vs,mget kvs a=some x∧R.rep F w x vs∧(Instr.lookup t v (.string a) cok).run P w=.ok (bif cok then .tuple #[packV ag vs,.bool true] else packV ag vs) w:=by
 rcases h with ⟨_,rfl,rfl⟩ | ⟨b,es,clock,rfl,hh,hl⟩
 ·exact .inl ⟨rfl,lookN_run hu hk hz cok⟩
 rcases find_mget a es.toList kvs 0 hl with ⟨g1,g2⟩ | ⟨x,j,e,vs,g1,g2,g3,g4,g5,g6⟩
 ·refine .inl ⟨g1,?_⟩
  have hf:=MapKept.run_findKey (P:=P) (w:=w) hk g2
  have hc:=fun e n=>MapKept.run_checkKey (P:=P) (w:=w) (k:=.string a) hk trivial e n
  cases cok<;>simp [Instr.lookup,run_underlying' hu,MapKept.run_getObj_map hh,hc,hf,hz,Result.andThen]
 ·refine .inr ⟨x,vs,g1,g5,?_⟩
  have hf:=MapKept.run_findKey (P:=P) (w:=w) hk g2
  have hc:=fun e n=>MapKept.run_checkKey (P:=P) (w:=w) (k:=.string a) hk trivial e n
  rw [← g6]
  cases cok<;>simp [Instr.lookup,run_underlying' hu,MapKept.run_getObj_map hh,hc,hf,Result.andThen]
theorem MapL.put {α:Type} {R:TRep α} {ag F w} {a:ByteArray} {x:α} {vs:List Value} (hr:R.rep F w x vs):∀ (es:List MapEntry) (kvs:List (ByteArray × α)) (i clock:Nat),MapL R ag F w es kvs →
  (Instr.findNow .string (.string a) es i=some none∧MapL R ag F w (es++[{ key:=.string a,val:=packV ag vs,born:=clock }]) (mput kvs a x)) ∨
  ∃ j e,Instr.findNow .string (.string a) es i=some (some (i+j,e.val))∧es[j]? = some e∧e.key=.string a∧MapL R ag F w (es.modify j fun e=>{ e with key:=.string a,val:=packV ag vs }) (mput kvs a x)
 | [],[],i,clock,_=>.inl ⟨rfl,rfl,⟨vs,hr,rfl⟩,trivial⟩
 | [],_::_,_,_,h=>h.elim
 | _::_,[],_,_,h=>h.elim
 | e::es,(k,y)::r,i,clock,⟨h1,h2,h4⟩=>by
  have hs:Instr.sameNow .string (.string a) e.key=some (a==k):=by rw [h1];rfl
  by_cases hk:a=k
  ·subst hk
   have e1:(a==a)=true:=(MapKept.bytes_beq a a).2 rfl
   have e2:(a.data.toList==a.data.toList)=true:=(sq_iff a a).2 rfl
   refine .inr ⟨0,e,by unfold Instr.findNow;rw [hs,e1];rfl,rfl,h1,?_⟩
   rw [mput,e2]
   exact ⟨rfl,⟨vs,hr,rfl⟩,h4⟩
  ·have e1:(a==k)=false:=by
    cases hb:(a==k) with
    | false=>rfl
    | true=>exact absurd ((MapKept.bytes_beq a k).1 hb) hk
   have e2:(k.data.toList==a.data.toList)=false:=by
    cases hb:(k.data.toList==a.data.toList) with
    | false=>rfl
    | true=>exact absurd ((sq_iff k a).1 hb).symm hk
   rcases MapL.put hr es r (i+1) clock h4 with ⟨g1,g2⟩ | ⟨j,e',g1,g2,g3,g4⟩
   ·refine .inl ⟨by unfold Instr.findNow;rw [hs,e1];exact g1,?_⟩
    rw [mput,e2]
    exact ⟨h1,h2,g2⟩
   ·refine .inr ⟨j+1,e',?_,by simpa using g2,g3,?_⟩
    ·unfold Instr.findNow
     rw [hs,e1]
     show Instr.findNow .string (.string a) es (i+1)=_
     rw [g1,show i+1+j=i+(j+1) by omega]
    ·rw [mput,e2]
     exact ⟨h1,h2,g4⟩
theorem put_run {α:Type} {R:TRep α} {ag nl:Bool} (hnl:nl=false) {F:FSet} {w:World} {kvs:List (ByteArray × α)} {v:Value} {a:ByteArray} {x:α} {vs:List Value} (hu:P.underlying t=some (.map kt et)) (hk:P.underlying kt=some .string)
  (h:(mapV R ag nl kvs).ok F w v) (hr:R.rep F w x vs) (hF:∀ b,blockOf v=some b→¬ F b) :
  ∃ w',(Instr.mapUpdate t v (.string a) (packV ag vs)).run P w=.ok () w'∧(mapV R ag nl (mput kvs a x)).ok F w' v∧w'.os=w.os∧w'.tape=w.tape∧Oq w w'∧w.heap.size≤w'.heap.size∧(∀ b,blockOf v≠some b→w'.heap[b]? = w.heap[b]?):=by
 obtain ⟨b,es,clock,rfl,hh,hl⟩:∃ b es clock,v=.map (some b)∧w.heap[b]? = some (.map es clock)∧MapL R ag F w es.toList kvs:=by
  rcases h with ⟨h,_⟩ | h
  ·rw [hnl] at h;cases h
  ·exact h
 have hc:=fun e n=>MapKept.run_checkKey (P:=P) (w:=w) (k:=.string a) hk trivial e n
 have fin:∀ (es':Array MapEntry) (c':Nat),MapL R ag F w es'.toList (mput kvs a x)→(mapV R ag nl (mput kvs a x)).ok F { w with heap:=w.heap.setIfInBounds b (.map es' c') } (.map (some b)) ∧
   w.heap.size≤({ w with heap:=w.heap.setIfInBounds b (.map es' c') }:World).heap.size∧∀ b',blockOf (.map (some b))≠some b'→({ w with heap:=w.heap.setIfInBounds b (.map es' c') }:World).heap[b']? = w.heap[b']? := by
  intro es' c' hl'
  obtain ⟨s1,s2⟩:=MapKept.heap_set (o':=.map es' c') hh
  have g:Grow F w F { w with heap:=w.heap.setIfInBounds b (.map es' c') }:=⟨fun _ h=>h,fun b' hb'=>s2 b' (fun e=>hF b rfl (e ▸ hb'))⟩
  exact ⟨.inr ⟨b,es',c',rfl,s1,hl'.mono g⟩,by simp,fun b' hb'=>s2 b' (fun e=>hb' (by rw [e];rfl))⟩
 rcases MapL.put (a:=a) hr es.toList kvs 0 clock hl with ⟨g1,g2⟩ | ⟨j,e,g1,g2,g3,g4⟩
 ·have hf:=MapKept.run_findKey (P:=P) (w:=w) hk g1
  obtain ⟨f1,f2,f3⟩:=fin (es.push { key:=.string a,val:=packV ag vs,born:=clock }) (clock+1) (by simpa using g2)
  exact ⟨_,by simp [Instr.mapUpdate,run_underlying' hu,MapKept.run_getObj_map hh,hc,hf,MapKept.run_setObj_map _ hh,Result.andThen],f1,rfl,rfl,.m,f2,f3⟩
 ·have hf:=MapKept.run_findKey (P:=P) (w:=w) hk g1
  have hj:es[j]? = some e:=by simpa using g2
  have hst:(Instr.keyThatStays (.string a) (.string a)).run P w=.ok (.string a) w:=MapKept.run_keyThatStays (d:=.string) trivial
  obtain ⟨f1,f2,f3⟩:=fin (es.modify j fun e=>{ e with key:=.string a,val:=packV ag vs }) clock (by simpa using g4)
  exact ⟨_,by simp [Instr.mapUpdate,run_underlying' hu,MapKept.run_getObj_map hh,hc,hf,hj,g3,hst,MapKept.run_setObj_map _ hh,Result.andThen],f1,rfl,rfl,.m,f2,f3⟩
end
end Go.Kx
end
section
namespace Go.Kx
variable [LxP]
def MapTy {α:Type} (P:Program) (R:TRep α) (t:TypeId) (ag:Bool) (z:α):Prop :=
 ∃ kt et zs,P.underlying t=some (.map kt et)∧P.underlying kt=some .string∧(∀ w,(zeroValue et).run P w=.ok (packV ag zs) w)∧∀ F w,R.rep F w z zs
theorem zero_of {P:Program} {et:TypeId} {zv:Value} (h:(P.info? et).bind (·.zero)=some zv):∀ w,(zeroValue et).run P w=.ok zv w:=by
  intro w
  cases hi:P.info? et with
  | none=>rw [hi] at h;cases h
  | some i =>
    rw [hi] at h
    have hz:i.zero=some zv:=h
    simp [zeroValue,typeInfo,hi,hz]
def svP (ag:Bool) (cs:List SC):SV:=bif ag then .a cs else .c (cs.headD .nil)
def svT (ag:Bool) (cs:List SC) (b:Bool):SV:=.t [bif ag then .inr cs else .inl (cs.headD .nil),.inl (.b b)]
theorem svP_den {ag:Bool} {cs:List SC} {E:Env} {vs:List Value} (h:vs=cs.map (den E)) (hl:0 < vs.length):denV E (svP ag cs)=packV ag vs:=by
 subst h
 cases ag with
 | true=>rfl
 | false =>
  cases cs with
  | nil=>simp at hl
  | cons c r=>rfl
theorem svT_den {ag:Bool} {cs:List SC} {E:Env} {vs:List Value} {b:Bool} (h:vs=cs.map (den E)) (hl:0 < vs.length):denV E (svT ag cs b)=.tuple #[packV ag vs,.bool b]:=by
 subst h
 cases ag with
 | true=>rfl
 | false =>
  cases cs with
  | nil=>simp at hl
  | cons c r=>rfl
theorem svP_kb {ag:Bool} {cs:List SC} {n:Nat} (h:∀ c∈cs,SC.kb n c):(svP ag cs).kb n:=by
 cases ag with
 | true=>exact h
 | false =>
  cases cs with
  | nil=>trivial
  | cons c r=>exact h c (List.mem_cons_self ..)
theorem svT_kb {ag:Bool} {cs:List SC} {b:Bool} {n:Nat} (h:∀ c∈cs,SC.kb n c):(svT ag cs b).kb n:=by
 intro v hv
 rcases List.mem_cons.1 hv with rfl | hv
 ·cases ag with
  | true=>exact h
  | false =>
   cases cs with
   | nil=>trivial
   | cons c r=>exact h c (List.mem_cons_self ..)
 ·rcases List.mem_cons.1 hv with rfl | hv
  ·trivial
  ·cases hv
section
variable {X:Ctx} {s:St} {ops:Array Oper} {todo:Act→World→Prop} {tt:List (Nat × TD)}
theorem Sat.newAv {E:Env} {F:FSet} {w:World} {a:Act} {A:AbsV} {v:Value} (hs:Sat X s E F w a) (ho:A.ok F w v)
  (hfp:∀ b,blockOf v=some b→¬ F b∧¬ X.Z b∧b < w.heap.size∧∀ k m',look s.M k=some m'→¬ m'.fp E k b) :
  ∃ E',E'.ρ s.nx=v∧Sat X ⟨s.L,(s.nx,.av A)::s.M,s.V,s.nx+1⟩ E' F w a:=by
 have hE:E.Eqb s.nx (E.setρ s.nx v):=E.eqb_setρ _ _ _ (Nat.le_refl _)
 have hv:(E.setρ s.nx v).ρ s.nx=v:=by simp [Env.setρ]
 have h1:=hs.env hE (fun j=>by
  simp only [Env.setρ];split
  ·exact A.one ho
  ·exact hs.one j)
 refine ⟨_,hv,h1.addM' ?_ trivial ?_ (fun h=>by cases h)⟩
 ·show A.ok F w ((E.setρ s.nx v).ρ s.nx)
  rw [hv];exact ho
 ·intro b hb
  have hb:blockOf ((E.setρ s.nx v).ρ s.nx)=some b:=hb
  rw [hv] at hb
  obtain ⟨g1,g2,g3,g4⟩:=hfp b hb
  exact ⟨g1,g2,g3,fun k m' hm hf=>g4 k m' hm ((MO.fp_eqb hE (hs.wf.hM k m' hm).1).1 hf)⟩
theorem WPr.mmk {α:Type} (R:TRep α) (ag:Bool) {i:Nat} {rest:List Nat} {o:Oper} {t:TypeId} {d:Nat} (ho:ops[i]? = some o) (hg:guardV ops s.L o=some true) (hop:o.op=.makeMap t none) (hd:o.dst=some d) (hn:Nat.blt d X.fn.ntmps=true)
  (kk:WPr X ops rest todo ⟨(d,.c (.sl s.nx))::s.L,(s.nx,.av (mapV R ag false []))::s.M,s.V,s.nx+1⟩):WPr X ops (i::rest) todo s:=by
 refine WPr.op ho hg (fun E F w a hs=>?_) kk
 have hrun:(Instr.makeMap t none).run X.P w=.ok (.map (some w.heap.size)) (w.alloc (.map #[] 0)):=rfl
 refine wp_value (v:=.map (some w.heap.size)) (w':=w.alloc (.map #[] 0)) ?_ ?_
 ·simp only [execOp,hop]
  exact exec_v hrun
 ·obtain ⟨q1,q2⟩:=MapKept.heap_alloc w (.map #[] 0)
  have s1:=hs.world (w':=w.alloc (.map #[] 0)) rfl rfl .m (by show _≤(w.heap.push _).size;simp) (fun b hb=>q2 b hb)
  obtain ⟨E',hv,s2⟩:=s1.newAv (A:=mapV R ag false []) (v:=.map (some w.heap.size)) (.inr ⟨w.heap.size,#[],0,rfl,q1,trivial⟩) (fun b hb=>by
   cases hb
   exact ⟨fun hF=>Nat.lt_irrefl _ (hs.hF _ hF),fun hz=>Nat.lt_irrefl _ (Nat.lt_of_lt_of_le (hs.hZ _ hz) hs.ext.size),by show _ < (w.heap.push _).size;simp,fun j m' hj hf=>Nat.lt_irrefl _ (hs.mF j m' hj _ hf).2.2⟩)
  have s3:=s2.setL (d:=d) (v:=.c (.sl s.nx)) (Nat.lt_succ_self _) (blt_lt hn)
  simp only [denV,den] at s3
  rw [hv] at s3
  rw [hd]
  exact ⟨E',F,s3⟩
theorem WPr.mlk {α:Type} {R:TRep α} (O:Opn R) {i:Nat} {rest:List Nat} {o:Oper} {t:TypeId} {x y:Operand} {d k:Nat} {ag nl:Bool} {z e:α} {q:ByteArray} {kvs:List (ByteArray × α)} (hT:MapTy X.P R t ag z)
  (he:(mget kvs q).getD z=e) (ho:ops[i]? = some o) (hg:guardV ops s.L o=some true) (hop:o.op=.lookup t x y false) (hd:o.dst=some d) (hn:Nat.blt d X.fn.ntmps=true)
  (hx:evalO s.L x=some (.c (.sl k))) (hm:look s.M k=some (.av (mapV R ag nl kvs))) (hy:evalO s.L y=some (.c (.s q)))
  (kk:WPr X ops rest todo ⟨(d,svP ag (O.cells s.nx e))::s.L,s.M,O.facts s.nx e++s.V,s.nx+O.nk⟩):WPr X ops (i::rest) todo s:=by
 refine WPr.op ho hg (fun E F w a hs=>?_) kk
 obtain ⟨kt,et,zs,hu,hk,hz,hzr⟩:=hT
 obtain ⟨e1,_⟩:=hs.eval hx
 obtain ⟨e2,_⟩:=hs.eval hy
 have hok:(mapV R ag nl kvs).ok F w (E.ρ k):=hs.hM k _ hm
 obtain ⟨vs,hrep,hrun⟩:∃ vs,R.rep F w e vs∧(Instr.lookup t (E.ρ k) (.string q) false).run X.P w=.ok (packV ag vs) w:=by
  rcases look_run (a:=q) hu hk hz hok false with ⟨g1,g2⟩ | ⟨x,vs,g1,g2,g3⟩
  ·rw [g1] at he;cases he
   exact ⟨zs,hzr F w,g2⟩
  ·rw [g1] at he;cases he
   exact ⟨vs,g2,g3⟩
 obtain ⟨E2,a1,_,_,a3,a4,a5,a6⟩:=O.ok hrep s.nx E hs.one
 have hlen:0 < vs.length:=by rw [R.len hrep];exact R.pos
 refine wp_value (v:=packV ag vs) (w':=w) ?_ ?_
 ·simp only [execOp,hop,e1,e2,denV,den]
  exact exec_v hrun
 ·have s1:=hs.env a1 a3
  have s2:=s1.addF (fs:=O.facts s.nx e) (n:=O.nk) (fun p hp=>a5 p hp)
  have s3:=s2.setL (d:=d) (v:=svP ag (O.cells s.nx e)) (svP_kb a6) (blt_lt hn)
  rw [svP_den a4 hlen] at s3
  rw [hd]
  exact ⟨E2,F,s3⟩
theorem WPr.mlo {α:Type} {R:TRep α} (O:Opn R) {i:Nat} {rest:List Nat} {o:Oper} {t:TypeId} {x y:Operand} {d k:Nat} {ag nl:Bool} {z e:α} {q:ByteArray} {kvs:List (ByteArray × α)} (hT:MapTy X.P R t ag z)
  (he:(mget kvs q).getD z=e) (ho:ops[i]? = some o) (hg:guardV ops s.L o=some true) (hop:o.op=.lookup t x y true) (hd:o.dst=some d) (hn:Nat.blt d X.fn.ntmps=true)
  (hx:evalO s.L x=some (.c (.sl k))) (hm:look s.M k=some (.av (mapV R ag nl kvs))) (hy:evalO s.L y=some (.c (.s q)))
  (kk:WPr X ops rest todo ⟨(d,svT ag (O.cells s.nx e) (mget kvs q).isSome)::s.L,s.M,O.facts s.nx e++s.V,s.nx+O.nk⟩):WPr X ops (i::rest) todo s:=by
 refine WPr.op ho hg (fun E F w a hs=>?_) kk
 obtain ⟨kt,et,zs,hu,hk,hz,hzr⟩:=hT
 obtain ⟨e1,_⟩:=hs.eval hx
 obtain ⟨e2,_⟩:=hs.eval hy
 have hok:(mapV R ag nl kvs).ok F w (E.ρ k):=hs.hM k _ hm
 obtain ⟨vs,hrep,hrun⟩:∃ vs,R.rep F w e vs∧(Instr.lookup t (E.ρ k) (.string q) true).run X.P w=.ok (.tuple #[packV ag vs,.bool (mget kvs q).isSome]) w:=by
  rcases look_run (a:=q) hu hk hz hok true with ⟨g1,g2⟩ | ⟨x,vs,g1,g2,g3⟩
  ·rw [g1] at he ⊢;cases he
   exact ⟨zs,hzr F w,g2⟩
  ·rw [g1] at he ⊢;cases he
   exact ⟨vs,g2,g3⟩
 obtain ⟨E2,a1,_,_,a3,a4,a5,a6⟩:=O.ok hrep s.nx E hs.one
 have hlen:0 < vs.length:=by rw [R.len hrep];exact R.pos
 refine wp_value (v:=.tuple #[packV ag vs,.bool (mget kvs q).isSome]) (w':=w) ?_ ?_
 ·simp only [execOp,hop,e1,e2,denV,den]
  exact exec_v hrun
 ·have s1:=hs.env a1 a3
  have s2:=s1.addF (fs:=O.facts s.nx e) (n:=O.nk) (fun p hp=>a5 p hp)
  have s3:=s2.setL (d:=d) (v:=svT ag (O.cells s.nx e) (mget kvs q).isSome) (svT_kb a6) (blt_lt hn)
  rw [svT_den a4 hlen] at s3
  rw [hd]
  exact ⟨E2,F,s3⟩
def agB (ag:Bool):SV→Bool
 | .a _=>ag
 | .c _ => !ag
 | _=>false
theorem agB_den {ag:Bool} {v:SV} {ps:List SC} {E:Env} (h:agB ag v=true) (hp:svCells v=some ps):denV E v=packV ag (ps.map (den E)):=by
 cases v with
 | c x =>
  cases hp
  cases ag with
  | true=>cases h
  | false=>rfl
 | a cs =>
  cases hp
  have h:ag=true:=h
  subst h;rfl
 | t _=>cases hp
 | u=>cases hp
theorem WPr.mup {α:Type} {R:TRep α} (O:Opn R) {i:Nat} {rest:List Nat} {o:Oper} {t:TypeId} {x y u:Operand} {k:Nat} {ag:Bool} {z:α} {q:ByteArray} {kvs:List (ByteArray × α)} {v:SV} {ps:List SC} (e:α) (hT:MapTy X.P R t ag z)
  (ho:ops[i]? = some o) (hg:guardV ops s.L o=some true) (hop:o.op=.mapUpdate t x y u) (hd:o.dst=none)
  (hx:evalO s.L x=some (.c (.sl k))) (hm:look s.M k=some (.av (mapV R ag false kvs))) (hy:evalO s.L y=some (.c (.s q))) (hu:evalO s.L u=some v) (hp:svCells v=some ps) (hc:agB ag v=true) (hk:O.chk (look s.V) e ps)
  (kk:WPr X ops rest todo ⟨s.L,(k,.av (mapV R ag false (mput kvs q e)))::s.M,s.V,s.nx⟩):WPr X ops (i::rest) todo s:=by
 refine WPr.op ho hg (fun E F w a hs=>?_) kk
 obtain ⟨kt,et,zs,hu1,hk1,hz,hzr⟩:=hT
 obtain ⟨e1,_⟩:=hs.eval hx
 obtain ⟨e2,_⟩:=hs.eval hy
 obtain ⟨e3,_⟩:=hs.eval hu
 have hok:(mapV R ag false kvs).ok F w (E.ρ k):=hs.hM k _ hm
 have hmf:=hs.mF k _ hm
 have hrep:R.rep F w e (ps.map (den E)):=O.cok hk E F w (fun j f hj=>hs.hV j f hj)
 obtain ⟨w',hrun,how,g1,g2,g3,g4,g5⟩:=put_run (nl:=false) rfl (a:=q) hu1 hk1 hok hrep (fun b hb=>(hmf b hb).1)
 refine wp_skip' (w':=w') ?_ ?_
 ·have e1:a.eval x=E.ρ k:=e1
  have e2:a.eval y=.string q:=e2
  have e3:a.eval u=packV ag (ps.map (den E)):=e3.trans (agB_den hc hp)
  simp only [execOp,hop,e1,e2,e3,Sem.run_bind,hrun,Result.andThen_ok,Sem.run_pure]
 ·have s1:=hs.setM (m':=.av (mapV R ag false (mput kvs q e))) hm g1 g2 g3 g4 (fun b _ hne=>g5 b (fun h=>hne h)) (fun b hb=>hb) how trivial (fun h=>by cases h)
  rw [hd]
  exact ⟨E,F,s1⟩
theorem Sat.mapW {α:Type} {R:TRep α} {ag:Bool} {kvs:List (ByteArray × α)} {k:Nat} {E:Env} {F:FSet} {w:World} {a:Act} (hs:Sat X s E F w a) (hm:look s.M k=some (.av (mapV R ag false kvs))) :
  Sat X ⟨s.L,(k,.av (mapV R ag true kvs))::s.M,s.V,s.nx⟩ E F w a:=by
 have hok:(mapV R ag false kvs).ok F w (E.ρ k):=hs.hM k _ hm
 refine hs.setM (m':=.av (mapV R ag true kvs)) hm rfl rfl .m (Nat.le_refl _) (fun _ _ _=>rfl) (fun b hb=>hb) ?_ trivial (fun h=>by cases h)
 rcases hok with ⟨h,_⟩ | h
 ·cases h
 ·exact .inr h
theorem Sat.mapZ {α:Type} (R:TRep α) (ag:Bool) {E:Env} {F:FSet} {w:World} {a:Act} (hs:Sat X s E F w a) :
  ∃ E',E'.ρ s.nx=.map none∧E.Eqb s.nx E'∧Sat X ⟨s.L,(s.nx,.av (mapV R ag true []))::s.M,s.V,s.nx+1⟩ E' F w a:=by
 have hE:E.Eqb s.nx (E.setρ s.nx (.map none)):=E.eqb_setρ _ _ _ (Nat.le_refl _)
 have hv:(E.setρ s.nx (.map none)).ρ s.nx=.map none:=by simp [Env.setρ]
 have h1:=hs.env hE (fun j=>by
  simp only [Env.setρ];split
  ·rfl
  ·exact hs.one j)
 refine ⟨_,hv,hE,h1.addM' ?_ trivial ?_ (fun h=>by cases h)⟩
 ·show (mapV R ag true ([]:List (ByteArray × α))).ok F w _
  rw [hv];exact .inl ⟨rfl,rfl,rfl⟩
 ·intro b hb
  have hb:blockOf ((E.setρ s.nx (.map none)).ρ s.nx)=some b:=hb
  rw [hv] at hb;cases hb
end
end Go.Kx
end
section
namespace Go.Kx
variable [LxP]
section
variable {X:Ctx} {tt:List (Nat × TD)}
def dMm {α:Type} (R:TRep α) (ag:Bool) (c:Cf):Dl:=⟨[(dstC c,.c (.sl (vwC c).nx))],[((vwC c).nx,.av (mapV R ag false []))],[],1⟩
def nMm {α:Type} (R:TRep α) (ag:Bool) (c:Cf):Cf:=goC (dMm R ag c) c
theorem eMm {α:Type} {c:Cf} (R:TRep α) (ag:Bool) (k:Wc X (nMm R ag c))
  (hp:(hB X.fn.ntmps c,(opC c).dst,(opC c).op)=(true,some (dstC c),.makeMap (tyO (opC c).op) none):=by kernel_rfl):Wc X c:=by
 simp only [Prod.mk.injEq] at hp
 obtain ⟨h1,h2,h3⟩:=hp
 obtain ⟨h0,hn⟩:=hB_ok h1
 exact Wc.ev (d:=dMm R ag c) h0 (d1_dst h2 rfl) (fun nk E0 F0 w0 n0 Z rest K ho hg h=>WPr.mmk (X:=X.var nk E0 F0 w0 n0 Z) R ag ho hg h3 h2 hn h) k
def dMl {α:Type} {R:TRep α} (O:Opn R) (ag:Bool) (e:α) (c:Cf):Dl:=⟨[(dstC c,svP ag (O.cells (vwC c).nx e))],[],O.facts (vwC c).nx e,O.nk⟩
def nMl {α:Type} {R:TRep α} (O:Opn R) (ag:Bool) (e:α) (c:Cf):Cf:=goC (dMl O ag e c) c
theorem eMl {α:Type} {R:TRep α} {t:TypeId} {ag nl:Bool} {z e:α} {q:ByteArray} {kvs:List (ByteArray × α)} {c:Cf} (O:Opn R) (hT:MapTy X.P R t ag z) (he:(mget kvs q).getD z=e) (k:Wc X (nMl O ag e c))
  (hp:(hB X.fn.ntmps c,(opC c).dst,(opC c).op,argV c 0,look (vwC c).M (keyV (argV c 0)),argV c 1)=(true,some (dstC c),.lookup t (argO (opC c).op 0) (argO (opC c).op 1) false,some (.c (.sl (keyV (argV c 0)))),some (.av (mapV R ag nl kvs)),some (.c (.s q))):=by kernel_rfl):Wc X c:=by
 simp only [Prod.mk.injEq] at hp
 obtain ⟨h1,h2,h3,h4,h5,h6⟩:=hp
 obtain ⟨h0,hn⟩:=hB_ok h1
 exact Wc.ev (d:=dMl O ag e c) h0 (d1_dst h2 rfl) (fun nk E0 F0 w0 n0 Z rest K ho hg h=>WPr.mlk (X:=X.var nk E0 F0 w0 n0 Z) O hT he ho hg h3 h2 hn h4 h5 h6 h) k
def dMo {α:Type} {R:TRep α} (O:Opn R) (ag:Bool) (e:α) (b:Bool) (c:Cf):Dl:=⟨[(dstC c,svT ag (O.cells (vwC c).nx e) b)],[],O.facts (vwC c).nx e,O.nk⟩
def nMo {α:Type} {R:TRep α} (O:Opn R) (ag:Bool) (e:α) (b:Bool) (c:Cf):Cf:=goC (dMo O ag e b c) c
theorem eMo {α:Type} {R:TRep α} {t:TypeId} {ag nl:Bool} {z e:α} {q:ByteArray} {kvs:List (ByteArray × α)} {c:Cf} (O:Opn R) (hT:MapTy X.P R t ag z) (he:(mget kvs q).getD z=e) (k:Wc X (nMo O ag e (mget kvs q).isSome c))
  (hp:(hB X.fn.ntmps c,(opC c).dst,(opC c).op,argV c 0,look (vwC c).M (keyV (argV c 0)),argV c 1)=(true,some (dstC c),.lookup t (argO (opC c).op 0) (argO (opC c).op 1) true,some (.c (.sl (keyV (argV c 0)))),some (.av (mapV R ag nl kvs)),some (.c (.s q))):=by kernel_rfl):Wc X c:=by
 simp only [Prod.mk.injEq] at hp
 obtain ⟨h1,h2,h3,h4,h5,h6⟩:=hp
 obtain ⟨h0,hn⟩:=hB_ok h1
 exact Wc.ev (d:=dMo O ag e (mget kvs q).isSome c) h0 (d1_dst h2 rfl) (fun nk E0 F0 w0 n0 Z rest K ho hg h=>WPr.mlo (X:=X.var nk E0 F0 w0 n0 Z) O hT he ho hg h3 h2 hn h4 h5 h6 h) k
def dMu {α:Type} (R:TRep α) (ag:Bool) (kvs:List (ByteArray × α)) (fz:List Nat) (c:Cf):Dl:=⟨[],[(keyV (evalO (frzS (vwC c) fz).L (argO (opC c).op 0)),.av (mapV R ag false kvs))],[],0⟩
def nMu {α:Type} (R:TRep α) (ag:Bool) (kvs:List (ByteArray × α)) (fz:List Nat) (c:Cf):Cf:=goC ((dMu R ag kvs fz c).fz (vwC c) fz) c
theorem eMu {α:Type} {R:TRep α} {t:TypeId} {ag:Bool} {z:α} {q:ByteArray} {kvs:List (ByteArray × α)} {c:Cf} (fz:List Nat) (O:Opn R) (e:α) (hT:MapTy X.P R t ag z) (k:Wc X (nMu R ag (mput kvs q e) fz c))
  (hp:(rdyB c,(opC c).dst,frzB (vwC c) fz,(opC c).op,evalO (frzS (vwC c) fz).L (argO (opC c).op 0),look (frzS (vwC c) fz).M (keyV (evalO (frzS (vwC c) fz).L (argO (opC c).op 0))),evalO (frzS (vwC c) fz).L (argO (opC c).op 1),evalO (frzS (vwC c) fz).L (argO (opC c).op 2),svCells (svO (evalO (frzS (vwC c) fz).L (argO (opC c).op 2))),agB ag (svO (evalO (frzS (vwC c) fz).L (argO (opC c).op 2))),O.lq (look (frzS (vwC c) fz).V) e (csV (evalO (frzS (vwC c) fz).L (argO (opC c).op 2)))) =
   (true,none,true,.mapUpdate t (argO (opC c).op 0) (argO (opC c).op 1) (argO (opC c).op 2),some (.c (.sl (keyV (evalO (frzS (vwC c) fz).L (argO (opC c).op 0))))),some (.av (mapV R ag false kvs)),some (.c (.s q)),some (svO (evalO (frzS (vwC c) fz).L (argO (opC c).op 2))),some (csV (evalO (frzS (vwC c) fz).L (argO (opC c).op 2))),true,O.rq (look (frzS (vwC c) fz).V) e (csV (evalO (frzS (vwC c) fz).L (argO (opC c).op 2)))):=by kernel_rfl):Wc X c:=by
 simp only [Prod.mk.injEq] at hp
 obtain ⟨h1,h2,h3,h4,h5,h6,h7,h8,h9,h10,h11⟩:=hp
 exact Wc.evz (d:=dMu R ag (mput kvs q e) fz c) fz h1 h3 (by rw [h2];rfl) (fun nk E0 F0 w0 n0 Z rest K ho hg h=>WPr.mup (X:=X.var nk E0 F0 w0 n0 Z) O e hT ho hg h4 h2 h5 h6 h7 h8 h9 h10 (O.eqn h11) h) k
theorem eMw {α:Type} {R:TRep α} {ag:Bool} {kvs:List (ByteArray × α)} (K:Nat) {c:Cf} (k:Wc X (mapC (fun s=>⟨s.L,(K,.av (mapV R ag true kvs))::s.M,s.V,s.nx⟩) c))
  (hp:look c.st.M K=some (.av (mapV R ag false kvs)):=by kernel_rfl):Wc X c:=mapC_ok (fun E F w a hs=>⟨E,F,hs.mapW hp⟩) k
theorem eMz {α:Type} (R:TRep α) (ag:Bool) (d:Nat) (l r:List SC) {c:Cf} (k:Wc X (mapC (fun s=>⟨(d,.a (l++.sl s.nx::r))::s.L,(s.nx,.av (mapV R ag true []))::s.M,s.V,s.nx+1⟩) c))
  (hp:look c.st.L d=some (.a (l++.v (.map none)::r)):=by kernel_rfl):Wc X c:=by
 refine mapC_ok (fun E F w a hs=>?_) k
 obtain ⟨E',hv,hE,s1⟩:=hs.mapZ R ag
 have hk:SV.kb c.st.nx (.a (l++.v (.map none)::r)):=hs.wf.hL d _ hp
 refine ⟨E',F,s1.setL0 (v:=.a (l++.sl c.st.nx::r)) hp ?_ ?_⟩
 ·show Value.agg _=Value.agg _
  congr 2
  simp only [List.map_append,List.map_cons,den,hv]
 ·intro x hx
  rcases List.mem_append.1 hx with h | h
  ·exact (hk x (List.mem_append_left _ h)).mono (Nat.le_succ _)
  ·rcases List.mem_cons.1 h with rfl | h
   ·exact Nat.lt_succ_self _
   ·exact (hk x (List.mem_append_right _ (List.mem_cons_of_mem _ h))).mono (Nat.le_succ _)
end
end Go.Kx
end
